import Derived.Test.YtmgfanhcdfobhaaGreatDoorPkShakeSays2
set_option linter.unusedSimpArgs false
set_option linter.unusedVariables false
set_option linter.unusedSectionVars false
namespace Go.Proofs.YtmgfanhcdfobhaaGreatDoor
open Go.RowKit
def Vs (p1 : Int) (p2 : Int) : Option (Int) :=
  ((chk (decide (0 ≤ (Yc .u64 (IntKind.wrap .u64 p2) 31)))).bind fun _ => ((chk (decide (0 ≤ (IntKind.wrap .u64 (32 - (Yc .u64 (IntKind.wrap .u64 p2) 31)))))).bind fun _ => (some ((bOr .u32 (Gn .u32 p1 (Yc .u64 (IntKind.wrap .u64 p2) 31)) (Nk .u32 p1 (IntKind.wrap .u64 (32 - (Yc .u64 (IntKind.wrap .u64 p2) 31)))))))))
set_option maxRecDepth 100000 in
set_option maxHeartbeats 4000000 in
theorem Xe  (p1 : Int) (p2 : Int) (w0 : World)  (r : (Int)) (H : Vs p1 p2 = some r) :
  Calls Tryz.prog 138 #[(.int .u32 p1), (.int .i64 p2)] w0 (fun e w' => e = .returned (.int .u32 r) ∧ SP [] w0 w' []) := by
 unfold Vs at H
 refine Qt (n := 17) Tryz.func138 K K K ?_
 have c := Q1 [] w0
 refine aQ ?_
 refine aR ?_
 refine iR 1 1 [(4, (.int .u32 0))] ?_
 refine iF ?_
 refine aQ ?_
 refine aR ?_
 refine iR 4 4 [(6, (.int .i64 p2)), (7, (.int .u64 (IntKind.wrap .u64 p2))), (8, (.int .u64 (Yc .u64 (IntKind.wrap .u64 p2) 31))), (5, (.int .u64 (Yc .u64 (IntKind.wrap .u64 p2) 31)))] ?_
 refine iF ?_
 refine aQ ?_
 refine aR ?_
 refine iR 2 2 [(9, (.int .u32 p1)), (10, (.int .u64 (Yc .u64 (IntKind.wrap .u64 p2) 31)))] ?_
 obtain ⟨hl3, H⟩ := Zm H
 refine iS 3 ?_
 refine Qj.shift (op := .shl) (T := 111) (T' := 127) (x := (.tmp 9)) (y := (.tmp 10)) (kx := .u32) (ky := .u64) (a := p1) (b := (Yc .u64 (IntKind.wrap .u64 p2) 31)) (v := (.int .u32 (Gn .u32 p1 (Yc .u64 (IntKind.wrap .u64 p2) 31)))) (d := (some 11)) (k := 2) K rfl K K (of_decide_eq_true hl3) rfl ?_
 refine iR 3 6 [(12, (.int .u32 p1)), (13, (.int .u64 (Yc .u64 (IntKind.wrap .u64 p2) 31))), (14, (.int .u64 (IntKind.wrap .u64 (32 - (Yc .u64 (IntKind.wrap .u64 p2) 31)))))] ?_
 obtain ⟨hl4, H⟩ := Zm H
 refine iS 7 ?_
 refine Qj.shift (op := .shr) (T := 111) (T' := 127) (x := (.tmp 12)) (y := (.tmp 14)) (kx := .u32) (ky := .u64) (a := p1) (b := (IntKind.wrap .u64 (32 - (Yc .u64 (IntKind.wrap .u64 p2) 31)))) (v := (.int .u32 (Nk .u32 p1 (IntKind.wrap .u64 (32 - (Yc .u64 (IntKind.wrap .u64 p2) 31)))))) (d := (some 15)) (k := 6) K rfl K K (of_decide_eq_true hl4) rfl ?_
 refine iR 2 9 [(16, (.int .u32 (bOr .u32 (Gn .u32 p1 (Yc .u64 (IntKind.wrap .u64 p2) 31)) (Nk .u32 p1 (IntKind.wrap .u64 (32 - (Yc .u64 (IntKind.wrap .u64 p2) 31))))))), (4, (.int .u32 (bOr .u32 (Gn .u32 p1 (Yc .u64 (IntKind.wrap .u64 p2) 31)) (Nk .u32 p1 (IntKind.wrap .u64 (32 - (Yc .u64 (IntKind.wrap .u64 p2) 31)))))))] ?_
 refine iF ?_
 refine At.ret K ?_
 refine ⟨(.int .u32 (bOr .u32 (Gn .u32 p1 (Yc .u64 (IntKind.wrap .u64 p2) 31)) (Nk .u32 p1 (IntKind.wrap .u64 (32 - (Yc .u64 (IntKind.wrap .u64 p2) 31)))))), K, ?_⟩
 obtain rfl := Qf H
 exact ⟨rfl, SP.sel c [] rfl rfl⟩
def Y6  : Option ((List Int)) :=
  (some (([1779033703, 3144134277, 1013904242, 2773480762, 1359893119, 2600822924, 528734635, 1541459225] : List Int)))
set_option maxRecDepth 100000 in
set_option maxHeartbeats 4000000 in
theorem N9   (w0 : World)  (r : ((List Int))) (H : Y6  = some r) :
  Calls Tryz.prog 114 #[] w0 (fun e w' => e = .returned (.agg (Qa (Qh .u32) r).toArray) ∧ SP [] w0 w' []) := by
 unfold Y6 at H
 refine Qt (n := 2) Tryz.func114 K K K ?_
 have c := Q1 [] w0
 refine aQ ?_
 refine aR ?_
 refine iS 1 ?_
 refine Vc (e := (Qh .u32)) (l := (List.replicate 8 0)) (m := 8) (t := 149) (z := .agg (Qa (Qh .u32) (List.replicate 8 0)).toArray) (d := (some 0)) (k := 0) K rfl K rfl rfl K c ?_
 intro g1 w2 f
 refine iF ?_
 refine aQ ?_
 refine aR ?_
 refine iR 1 1 [(1, (.agg (Qa (Qh .u32) ([1779033703, 3144134277, 1013904242, 2773480762, 1359893119, 2600822924, 528734635, 1541459225] : List Int)).toArray))] ?_
 refine iS 2 ?_
 refine V6 (e := (Qh .u32)) (l := (List.replicate 8 0)) (l' := ([1779033703, 3144134277, 1013904242, 2773480762, 1359893119, 2600822924, 528734635, 1541459225] : List Int)) (m := 8) (t := 149) (x := (.tmp 0)) (y := (.tmp 1)) (g := g1) (i := 0) (d := none) (k := 1) K rfl K K rfl f rfl K ?_
 intro w5 b
 refine iF ?_
 refine At.ret K ?_
 refine ⟨(.agg (Qa (Qh .u32) ([1779033703, 3144134277, 1013904242, 2773480762, 1359893119, 2600822924, 528734635, 1541459225] : List Int)).toArray), Rf K (Nb (e := (Qh .u32)) (l := ([1779033703, 3144134277, 1013904242, 2773480762, 1359893119, 2600822924, 528734635, 1541459225] : List Int)) (a := 0) (t := 149) K (SP.get b (i := 0) rfl) K K), ?_⟩
 obtain rfl := Qf H
 exact ⟨rfl, SP.sel b [] rfl rfl⟩
def Um  : Option ((List Int)) :=
  (some (([1116352408, 1899447441, 3049323471, 3921009573, 961987163, 1508970993, 2453635748, 2870763221, 3624381080, 310598401, 607225278, 1426881987, 1925078388, 2162078206, 2614888103, 3248222580, 3835390401, 4022224774, 264347078, 604807628, 770255983, 1249150122, 1555081692, 1996064986, 2554220882, 2821834349, 2952996808, 3210313671, 3336571891, 3584528711, 113926993, 338241895, 666307205, 773529912, 1294757372, 1396182291, 1695183700, 1986661051, 2177026350, 2456956037, 2730485921, 2820302411, 3259730800, 3345764771, 3516065817, 3600352804, 4094571909, 275423344, 430227734, 506948616, 659060556, 883997877, 958139571, 1322822218, 1537002063, 1747873779, 1955562222, 2024104815, 2227730452, 2361852424, 2428436474, 2756734187, 3204031479, 3329325298] : List Int)))
set_option maxRecDepth 100000 in
set_option maxHeartbeats 4000000 in
theorem Yp   (w0 : World)  (r : ((List Int))) (H : Um  = some r) :
  Calls Tryz.prog 127 #[] w0 (fun e w' => e = .returned (.agg (Qa (Qh .u32) r).toArray) ∧ SP [] w0 w' []) := by
 unfold Um at H
 refine Qt (n := 2) Tryz.func127 K K K ?_
 have c := Q1 [] w0
 refine aQ ?_
 refine aR ?_
 refine iS 1 ?_
 refine Vc (e := (Qh .u32)) (l := (List.replicate 64 0)) (m := 64) (t := 135) (z := .agg (Qa (Qh .u32) (List.replicate 64 0)).toArray) (d := (some 0)) (k := 0) K rfl K rfl rfl K c ?_
 intro g1 w2 f
 refine iF ?_
 refine aQ ?_
 refine aR ?_
 refine iR 1 1 [(1, (.agg (Qa (Qh .u32) ([1116352408, 1899447441, 3049323471, 3921009573, 961987163, 1508970993, 2453635748, 2870763221, 3624381080, 310598401, 607225278, 1426881987, 1925078388, 2162078206, 2614888103, 3248222580, 3835390401, 4022224774, 264347078, 604807628, 770255983, 1249150122, 1555081692, 1996064986, 2554220882, 2821834349, 2952996808, 3210313671, 3336571891, 3584528711, 113926993, 338241895, 666307205, 773529912, 1294757372, 1396182291, 1695183700, 1986661051, 2177026350, 2456956037, 2730485921, 2820302411, 3259730800, 3345764771, 3516065817, 3600352804, 4094571909, 275423344, 430227734, 506948616, 659060556, 883997877, 958139571, 1322822218, 1537002063, 1747873779, 1955562222, 2024104815, 2227730452, 2361852424, 2428436474, 2756734187, 3204031479, 3329325298] : List Int)).toArray))] ?_
 refine iS 2 ?_
 refine V6 (e := (Qh .u32)) (l := (List.replicate 64 0)) (l' := ([1116352408, 1899447441, 3049323471, 3921009573, 961987163, 1508970993, 2453635748, 2870763221, 3624381080, 310598401, 607225278, 1426881987, 1925078388, 2162078206, 2614888103, 3248222580, 3835390401, 4022224774, 264347078, 604807628, 770255983, 1249150122, 1555081692, 1996064986, 2554220882, 2821834349, 2952996808, 3210313671, 3336571891, 3584528711, 113926993, 338241895, 666307205, 773529912, 1294757372, 1396182291, 1695183700, 1986661051, 2177026350, 2456956037, 2730485921, 2820302411, 3259730800, 3345764771, 3516065817, 3600352804, 4094571909, 275423344, 430227734, 506948616, 659060556, 883997877, 958139571, 1322822218, 1537002063, 1747873779, 1955562222, 2024104815, 2227730452, 2361852424, 2428436474, 2756734187, 3204031479, 3329325298] : List Int)) (m := 64) (t := 135) (x := (.tmp 0)) (y := (.tmp 1)) (g := g1) (i := 0) (d := none) (k := 1) K rfl K K rfl f rfl K ?_
 intro w5 b
 refine iF ?_
 refine At.ret K ?_
 refine ⟨(.agg (Qa (Qh .u32) ([1116352408, 1899447441, 3049323471, 3921009573, 961987163, 1508970993, 2453635748, 2870763221, 3624381080, 310598401, 607225278, 1426881987, 1925078388, 2162078206, 2614888103, 3248222580, 3835390401, 4022224774, 264347078, 604807628, 770255983, 1249150122, 1555081692, 1996064986, 2554220882, 2821834349, 2952996808, 3210313671, 3336571891, 3584528711, 113926993, 338241895, 666307205, 773529912, 1294757372, 1396182291, 1695183700, 1986661051, 2177026350, 2456956037, 2730485921, 2820302411, 3259730800, 3345764771, 3516065817, 3600352804, 4094571909, 275423344, 430227734, 506948616, 659060556, 883997877, 958139571, 1322822218, 1537002063, 1747873779, 1955562222, 2024104815, 2227730452, 2361852424, 2428436474, 2756734187, 3204031479, 3329325298] : List Int)).toArray), Rf K (Nb (e := (Qh .u32)) (l := ([1116352408, 1899447441, 3049323471, 3921009573, 961987163, 1508970993, 2453635748, 2870763221, 3624381080, 310598401, 607225278, 1426881987, 1925078388, 2162078206, 2614888103, 3248222580, 3835390401, 4022224774, 264347078, 604807628, 770255983, 1249150122, 1555081692, 1996064986, 2554220882, 2821834349, 2952996808, 3210313671, 3336571891, 3584528711, 113926993, 338241895, 666307205, 773529912, 1294757372, 1396182291, 1695183700, 1986661051, 2177026350, 2456956037, 2730485921, 2820302411, 3259730800, 3345764771, 3516065817, 3600352804, 4094571909, 275423344, 430227734, 506948616, 659060556, 883997877, 958139571, 1322822218, 1537002063, 1747873779, 1955562222, 2024104815, 2227730452, 2361852424, 2428436474, 2756734187, 3204031479, 3329325298] : List Int)) (a := 0) (t := 135) K (SP.get b (i := 0) rfl) K K), ?_⟩
 obtain rfl := Qf H
 exact ⟨rfl, SP.sel b [] rfl rfl⟩
def Zj (p1 : Int) (p2 : (List Int)) (a : Int) : Option (Int) :=
  ((idx p2 0).bind fun b => ((Vs p1 (IntKind.wrap .i64 (0 - b))).bind fun c => ((idx p2 1).bind fun d => ((Vs p1 (IntKind.wrap .i64 (0 - d))).bind fun e => (some ((Xn .u32 (Xn .u32 c e) a)))))))
def Vt (p1 : Int) (p2 : (List Int)) (p4 : Bool) : Option (Int) :=
  ((idx p2 2).bind fun x9 => ((Vs p1 (IntKind.wrap .i64 (0 - x9))).bind fun b => (cond p4 ((idx p2 2).bind fun a => ((chk (decide (0 ≤ a))).bind fun _ => (Zj p1 p2 (Nk .u32 p1 a)))) (Zj p1 p2 b))))
set_option maxRecDepth 100000 in
set_option maxHeartbeats 4000000 in
theorem Yq  (p1 : Int) (p2 : (List Int)) (p4 : Bool) (w0 : World) (b7 : List.length p2 = 3) (r : (Int)) (H : Vt p1 p2 p4 = some r) :
  Calls Tryz.prog 128 #[(.int .u32 p1), (.agg (Qa (Qh .i64) p2).toArray), (.bool p4)] w0 (fun e w' => e = .returned (.int .u32 r) ∧ SP [] w0 w' []) := by
 unfold Vt at H
 refine Qt (n := 31) Tryz.func128 K K K ?_
 have b8 := Q1 [] w0
 refine aQ ?_
 refine aR ?_
 refine iS 1 ?_
 refine R7 (e := (Qh .i64)) (l := p2) (m := 3) (t := 168) (x := (.tmp 1)) (d := (some 4)) (k := 0) K rfl K b7 K b8 ?_
 intro g5 w6 a1
 refine iR 1 2 [(6, (.int .u32 0))] ?_
 refine iF ?_
 refine aQ ?_
 refine aR ?_
 refine iR 1 1 [(8, (.int .u32 p1))] ?_
 obtain ⟨x9, a5, a6, b9, H⟩ := Qy H
 refine iS 2 ?_
 refine Qs (e := (Qh .i64)) (l := p2) (m := 3) (g := g5) (T := 168) (E := 3) (x := (.tmp 4)) (ix := (.const (.int .i64 (2)))) (ki := .i64) (iz := 2) (i := 0) (d := (some 9)) (k := 1) K rfl K K K K a1 rfl a5 a6 ?_
 refine iS 3 ?_
 refine sC 3 9 g5 (0 + Int.toNat 2 * (Qh .i64).sz) (.int .i64 x9) 10 (Qw (e := (Qh .i64)) (Qp (Vr (SP.get a1 (i := 0) rfl)) rfl a5 a6) b9 (j := 0) rfl) ?_
 refine iR 1 4 [(11, (.int .i64 (IntKind.wrap .i64 (0 - x9))))] ?_
 obtain ⟨a2, c0, H⟩ := Qc H
 refine iS 5 ?_
 refine cF 138 #[(.tmp 8), (.tmp 11)] #[111, 3] 12 Tryz.call138 (Xe  p1 (IntKind.wrap .i64 (0 - x9)) w6  a2 c0) ?_
 rintro e e7 ⟨rfl, a7⟩
 refine ⟨_, rfl, ?_⟩
 have u := SP.call a1 a7
 clear a7
 refine iR 1 6 [(7, (.int .u32 a2))] ?_
 refine iF ?_
 refine aQ ?_
 refine aQ ?_
 refine aR ?_
 refine iR 1 1 [(13, (.bool p4))] ?_
 refine iF ?_
 refine At.join (fun ρ w => ∃ (c : Int), Zg ρ [(0, (.int .u32 p1)), (4, (pt g5 0)), (7, (.int .u32 c))] ∧ SP [] w0 w [Vp 168 (Qh .i64) g5 3 p2] ∧ Zj p1 p2 c = some r) ?_ ?_
 ·refine Zu K (o := (.tmp 13)) K (b := p4) K (fun a3 => ?_) (fun a3 => ?_)
  ·have H := ct H a3
   refine aR ?_
   refine iR 1 1 [(14, (.int .u32 p1))] ?_
   obtain ⟨q, a8, a9, c1, H⟩ := Qy H
   refine iS 2 ?_
   refine Qs (e := (Qh .i64)) (l := p2) (m := 3) (g := g5) (T := 168) (E := 3) (x := (.tmp 4)) (ix := (.const (.int .i64 (2)))) (ki := .i64) (iz := 2) (i := 0) (d := (some 15)) (k := 1) K rfl K K K K u rfl a8 a9 ?_
   refine iS 3 ?_
   refine sC 3 15 g5 (0 + Int.toNat 2 * (Qh .i64).sz) (.int .i64 q) 16 (Qw (e := (Qh .i64)) (Qp (Vr (SP.get u (i := 0) rfl)) rfl a8 a9) c1 (j := 0) rfl) ?_
   obtain ⟨hl107, H⟩ := Zm H
   refine iS 4 ?_
   refine Qj.shift (op := .shr) (T := 111) (T' := 3) (x := (.tmp 14)) (y := (.tmp 16)) (kx := .u32) (ky := .i64) (a := p1) (b := q) (v := (.int .u32 (Nk .u32 p1 q))) (d := (some 17)) (k := 3) K rfl K K (of_decide_eq_true hl107) rfl ?_
   refine iR 1 5 [(7, (.int .u32 (Nk .u32 p1 q)))] ?_
   refine iF ?_
   exact ⟨(Nk .u32 p1 q), ⟨K, K, K, trivial⟩, SP.sel u [0] rfl rfl, H⟩
  ·have H := cf H a3
   refine At.skip K ?_
   exact ⟨a2, ⟨K, K, K, trivial⟩, SP.sel u [0] rfl rfl, H⟩
 ·rintro ρ e8 ⟨c, hk, b0, H⟩
  unfold Zj at H
  first | refine At.known [(0, (.int .u32 p1)), (4, (pt g5 0)), (7, (.int .u32 c))] hk ?_ | rw [← Q9 (l := [(0, (.int .u32 p1)), (4, (pt g5 0)), (7, (.int .u32 c))]) hk]
  have e9 := Vm (SP.get b0 (i := 0) rfl)
  refine aQ ?_
  obtain ⟨s, b1, b2, c2, H⟩ := Qy H
  obtain ⟨f, c3, H⟩ := Qc H
  obtain ⟨p, z, a0, b3, H⟩ := Qy H
  obtain ⟨h, c4, H⟩ := Qc H
  refine aG [GEq (.int .u32 p1), Xt (some ⟨g5, 0, none⟩) (Qh .i64).sz 0, GEq (.int .i64 s), GEq (.int .i64 (IntKind.wrap .i64 (0 - s))), GEq (.int .u32 f), GEq (.int .u32 p1), Xt (some ⟨g5, 0, none⟩) (Qh .i64).sz 1, GEq (.int .i64 p), GEq (.int .i64 (IntKind.wrap .i64 (0 - p))), GEq (.int .u32 h), GEq (.int .u32 (Xn .u32 f h)), GEq (.int .u32 c), GEq (.int .u32 (Xn .u32 (Xn .u32 f h) c)), GEq (.int .u32 (Xn .u32 (Xn .u32 f h) c))] [4, 9] (tG [] w0 [Vp 168 (Qh .i64) g5 3 p2] [([], []), ([4], [(.int .u32 f)]), ([4, 9], [(.int .u32 f), (.int .u32 h)])]) 14 2 ⟨trivial, SP.drew b0⟩ ?_ ?_
  iterate 14 refine And.intro ?_ ?_
  exact trivial
  ·exact oV (hC (hS 0 (.int .u32 p1)) (h0)) (.int .u32 p1)
  ·refine oL 0 ?_
   ·rintro ρ' w' hs hah ⟨f0, c5⟩
    refine kM (kc (kS hs 4 (pt g5 0)) k0) fun hkn => ?_
    refine Qs (e := (Qh .i64)) (l := p2) (m := 3) (g := g5) (T := 168) (E := 3) (x := (.tmp 4)) (ix := (.const (.int .i64 (0)))) (ki := .i64) (iz := 0) (i := 0) (d := (some 19)) (k := 1) K rfl K K K K c5 rfl b1 b2 ?_
    exact ⟨rfl, _, Qb hkn, ⟨g5, 0, rfl, rfl⟩⟩
  ·refine oL 0 ?_
   ·rintro ρ' w' hs hah ⟨f1, c6⟩
    obtain ⟨c7, c8, c9, d0⟩ := hah 1 19 K
    refine kM (kc d0 k0) fun hkn => ?_
    refine sC 3 19 c7 (c8 + Int.toNat 0 * (Qh .i64).sz) (.int .i64 s) 20 (Qw (e := (Qh .i64)) (Qp (Vr (SP.get c6 (i := 0) rfl)) c9 b1 b2) c2 (j := 0) rfl) ?_
    exact eK hkn
  ·exact oV (hC (hA 2 20) (h0)) (.int .i64 (IntKind.wrap .i64 (0 - s)))
  ·refine oH 0 1 ?_
   ·rintro ρ' w' hs hah ⟨f2, d1⟩
    refine kM (kc (kA hah 0 18) (kc (kA hah 3 21) k0)) fun hkn => ?_
    refine cF 138 #[(.tmp 18), (.tmp 21)] #[111, 3] 22 Tryz.call138 (Xe  p1 (IntKind.wrap .i64 (0 - s)) w'  f c3) ?_
    rintro e f3 ⟨rfl, b4⟩
    refine ⟨_, rfl, ?_⟩
    have d2 := SP.call d1 b4
    clear b4
    refine ⟨_, Qb hkn, rfl, ?_⟩
    exact (And.intro (And.intro rfl (trivial)) (d2))
  ·exact oV (hC (hS 0 (.int .u32 p1)) (h0)) (.int .u32 p1)
  ·refine Owe.light K [0, 1] K (Ql ?_ (Ql ?_ Vu))
   ·rintro ρ' w' hs hah ⟨f4, d3⟩
    refine kM (kc (kS hs 4 (pt g5 0)) k0) fun hkn => ?_
    refine Qs (e := (Qh .i64)) (l := p2) (m := 3) (g := g5) (T := 168) (E := 3) (x := (.tmp 4)) (ix := (.const (.int .i64 (1)))) (ki := .i64) (iz := 1) (i := 0) (d := (some 24)) (k := 6) K rfl K K K K d3 rfl z a0 ?_
    exact ⟨rfl, _, Qb hkn, ⟨g5, 0, rfl, rfl⟩⟩
   ·rintro ρ' w' hs hah ⟨⟨f5, -⟩, d4⟩
    refine kM (kc (kS hs 4 (pt g5 0)) k0) fun hkn => ?_
    refine Qs (e := (Qh .i64)) (l := p2) (m := 3) (g := g5) (T := 168) (E := 3) (x := (.tmp 4)) (ix := (.const (.int .i64 (1)))) (ki := .i64) (iz := 1) (i := 0) (d := (some 24)) (k := 6) K rfl K K K K d4 rfl z a0 ?_
    exact ⟨rfl, _, Qb hkn, ⟨g5, 0, rfl, rfl⟩⟩
  ·refine Owe.light K [0, 1] K (Ql ?_ (Ql ?_ Vu))
   ·rintro ρ' w' hs hah ⟨f6, d5⟩
    obtain ⟨d6, d7, d8, a4⟩ := hah 6 24 K
    refine kM (kc a4 k0) fun hkn => ?_
    refine sC 3 24 d6 (d7 + Int.toNat 1 * (Qh .i64).sz) (.int .i64 p) 25 (Qw (e := (Qh .i64)) (Qp (Vr (SP.get d5 (i := 0) rfl)) d8 z a0) b3 (j := 0) rfl) ?_
    exact eK hkn
   ·rintro ρ' w' hs hah ⟨⟨f7, -⟩, d9⟩
    obtain ⟨e0, e1, e2, a4⟩ := hah 6 24 K
    refine kM (kc a4 k0) fun hkn => ?_
    refine sC 3 24 e0 (e1 + Int.toNat 1 * (Qh .i64).sz) (.int .i64 p) 25 (Qw (e := (Qh .i64)) (Qp (Vr (SP.get d9 (i := 0) rfl)) e2 z a0) b3 (j := 0) rfl) ?_
    exact eK hkn
  ·exact oV (hC (hA 7 25) (h0)) (.int .i64 (IntKind.wrap .i64 (0 - p)))
  ·refine oH 1 2 ?_
   ·rintro ρ' w' hs hah ⟨⟨e3, -⟩, e4⟩
    refine kM (kc (kA hah 5 23) (kc (kA hah 8 26) k0)) fun hkn => ?_
    refine cF 138 #[(.tmp 23), (.tmp 26)] #[111, 3] 27 Tryz.call138 (Xe  p1 (IntKind.wrap .i64 (0 - p)) w'  h c4) ?_
    rintro e f8 ⟨rfl, b5⟩
    refine ⟨_, rfl, ?_⟩
    have e5 := SP.call e4 b5
    clear b5
    refine ⟨_, Qb hkn, rfl, ?_⟩
    exact (And.intro (And.intro e3 (And.intro rfl (trivial))) (e5))
  ·exact oV (hC (hA 4 22) (hC (hA 9 27) (h0))) (.int .u32 (Xn .u32 f h))
  ·exact oV (hC (hS 7 (.int .u32 c)) (h0)) (.int .u32 c)
  ·exact oV (hC (hA 10 28) (hC (hA 11 29) (h0))) (.int .u32 (Xn .u32 (Xn .u32 f h) c))
  ·exact oV (hC (hA 12 30) (h0)) (.int .u32 (Xn .u32 (Xn .u32 f h) c))
  ·rintro ρ' w' hs hf ⟨⟨f9, g0, -⟩, b6⟩
   refine Vj [(6, (.int .u32 (Xn .u32 (Xn .u32 f h) c)))] ⟨hf 13 6 K, trivial⟩ ?_
   obtain ⟨g1, e6⟩ : ∃ x, w' = x := ⟨_, rfl⟩
   rw [e6] at b6 ⊢
   refine At.ret K ?_
   refine ⟨(.int .u32 (Xn .u32 (Xn .u32 f h) c)), K, ?_⟩
   obtain rfl := Qf H
   exact ⟨rfl, SP.sel b6 [] rfl rfl⟩
def Yi (k : (List Int) → Int → Option ((List Int))) (c : (List Int) → Int → Option ((List Int))) (b : (List Int)) (a : Int) : Option ((List Int)) :=
  (cond (decide (a < 64)) ((idx b (IntKind.wrap .i64 (a - 2))).bind fun d => ((Vt d ([17, 19, 10] : List Int) true).bind fun e => ((idx b (IntKind.wrap .i64 (a - 7))).bind fun f => ((idx b (IntKind.wrap .i64 (a - 15))).bind fun g => ((Vt g ([7, 18, 3] : List Int) true).bind fun h => ((idx b (IntKind.wrap .i64 (a - 16))).bind fun i => ((idx b a).bind fun l => ((some (List.set b (Int.toNat a) (IntKind.wrap .u32 ((IntKind.wrap .u32 ((IntKind.wrap .u32 (e + f)) + h)) + i)))).bind fun j => (c j (IntKind.wrap .i64 (a + 1))))))))))) (some (b)))
def Zz (a : (List Int) → Int → Option ((List Int))) : Nat → (List Int) → Int → Option ((List Int))
  | 0, _, _ => none
  | f + 1, b, c => Yi a (Zz a f) b c
def Z0 (c : (List Int) → Int → Option ((List Int))) (d : (List UInt8)) (b : (List Int)) (a : Int) : Option ((List Int)) :=
  (cond (decide (a < ((List.length d : Nat) : Int))) ((idx d a).bind fun e => ((idx b (IntKind.wrap .i64 (Int.tdiv a 4))).bind fun f => ((idx b (IntKind.wrap .i64 (Int.tdiv a 4))).bind fun h => ((some (List.set b (Int.toNat (IntKind.wrap .i64 (Int.tdiv a 4))) (bOr .u32 (Gn .u32 f 8) (IntKind.wrap .u32 ((e).toNat : Int))))).bind fun g => (c g (IntKind.wrap .i64 (a + 1))))))) (Zz c Zw b 16))
def Vy (a : (List UInt8)) : Nat → (List Int) → Int → Option ((List Int))
  | 0, _, _ => none
  | f + 1, b, c => Z0  (Vy a f) a b c
def Y1 (p1 : (List UInt8)) : Option ((List Int)) :=
  ((sub p1 0 64).bind fun a => (Vy a Zw (List.replicate 64 0) 0))
set_option maxRecDepth 100000 in
set_option maxHeartbeats 4000000 in
theorem U5 (A2 : Option Addr) (c3 : Nat) (p1 : (List UInt8)) (w0 : World) (b6 : RdT eU8 w0 A2 c3 p1) (r : ((List Int))) (H : Y1 p1 = some r) :
  Calls Tryz.prog 116 #[(.slice A2 (List.length p1) c3)] w0 (fun e w' => e = .returned (.agg (Qa (Qh .u32) r).toArray) ∧ SP [] w0 w' []) := by
 unfold Y1 at H
 refine Qt (n := 57) Tryz.func116 K K K ?_
 have e6 := Q1 [] w0
 refine aQ ?_
 refine aR ?_
 refine iS 1 ?_
 refine Vc (e := (Qh .u32)) (l := (List.replicate 64 0)) (m := 64) (t := 135) (z := .agg (Qa (Qh .u32) (List.replicate 64 0)).toArray) (d := (some 2)) (k := 0) K rfl K rfl rfl K e6 ?_
 intro g5 w6 e7
 refine iF ?_
 refine aQ ?_
 refine aR ?_
 refine iS 1 ?_
 refine Vc (e := (Qh .u32)) (l := (List.replicate 64 0)) (m := 64) (t := 135) (z := .agg (Qa (Qh .u32) (List.replicate 64 0)).toArray) (d := (some 3)) (k := 0) K rfl K rfl rfl K e7 ?_
 intro g9 m5 c8
 refine iF ?_
 refine aQ ?_
 refine aQ ?_
 refine aR ?_
 refine iR 1 1 [(7, (.slice A2 (List.length p1) c3))] ?_
 obtain ⟨b7, b8, b9, H⟩ := U8 H
 obtain ⟨q, hyl16⟩ : ∃ y, (List.drop (Int.toNat 0) (List.take (Int.toNat 64) p1)) = y := ⟨_, rfl⟩
 rw [hyl16] at H
 refine iS 2 ?_
 refine Rg (e := eU8) (l := p1) (m := q) (A := A2) (c := c3) (T := 52) (E := 5) (x := (.tmp 7)) (lo := none) (hi := (some (.const (.int .i64 (64))))) (i := 0) (j := 64) (d := (some 8)) (k := 1) K rfl K K K rfl ⟨.i64, K⟩ (RdX.le (RdT.sp b6 c8)) b7 b8 b9 hyl16 ?_
 refine iR 2 4 [(9, (.int .i64 ((List.length q : Nat) : Int))), (10, (.int .i64 0))] ?_
 refine iF ?_
 refine X8 K (id := 0) K ?_
 refine Ne K (fun f4 ρ w => ∃ (a0 : (List Int)) (p : Int), Zg ρ [(2, (pt g5 0)), (3, (pt g9 0)), (8, (.slice (Do eU8.sz c3 (Int.toNat 0) A2) (List.length q) (c3 - Int.toNat 0))), (9, (.int .i64 ((List.length q : Nat) : Int))), (10, (.int .i64 p))] ∧ SP [] w0 w [Vp 135 (Qh .u32) g5 64 (List.replicate 64 0), Vp 135 (Qh .u32) g9 64 a0] ∧ Vy q f4 a0 p = some r) (by rintro ρ w ⟨a0, p, hk, hs, H⟩; cases H) ?_ Zw ?_
 ·rintro f4 ρ c9 ⟨a0, p, hk, a2, H⟩
  refine At.known [(2, (pt g5 0)), (3, (pt g9 0)), (8, (.slice (Do eU8.sz c3 (Int.toNat 0) A2) (List.length q) (c3 - Int.toNat 0))), (9, (.int .i64 ((List.length q : Nat) : Int))), (10, (.int .i64 p))] hk ?_
  replace H := (show Z0 (Vy q f4) q a0 p = some r from H)
  unfold Z0 at H
  have m6 := Vm (SP.get a2 (i := 0) rfl)
  have m7 := Vm (SP.get a2 (i := 1) rfl)
  refine aQ ?_
  refine aR ?_
  refine iR 1 1 [(11, (.bool (decide (p < ((List.length q : Nat) : Int)))))] ?_
  refine iF ?_
  refine aQ ?_
  refine Zu K (o := (.tmp 11)) K (b := (decide (p < ((List.length q : Nat) : Int)))) K (fun c0 => ?_) (fun c0 => ?_)
  ·have H := ct H c0
   refine At.skip K ?_
   refine aQ ?_
   refine X8 K (id := 1) K ?_
   refine aQ ?_
   refine aR ?_
   refine iR 1 1 [(12, (.int .i64 p))] ?_
   obtain ⟨a4, d0, d1, e8, H⟩ := Qy H
   refine iS 2 ?_
   refine Z2 (e := eU8) (l := q) (A := (Do eU8.sz c3 (Int.toNat 0) A2)) (c := (c3 - Int.toNat 0)) (T := 52) (E := 5) (x := (.tmp 8)) (ix := (.tmp 10)) (ki := .i64) (iz := p) (d := (some 13)) (k := 1) K rfl K K K K ((Cc b7 b8 b9 hyl16) c9 (RdT.sp b6 a2)) d0 d1 ?_
   intro e9 f0 f1 m8 hc2226
   refine iS 3 ?_
   refine sC 5 13 e9 (f0 + Int.toNat p * eU8.sz) (.int .u8 ((a4).toNat : Int)) 14 (Qw (e := eU8) (Qp ((Cc b7 b8 b9 hyl16) c9 (RdT.sp b6 a2)) f1 d0 d1) e8 (j := 0) rfl) ?_
   refine iR 2 5 [(4, (.int .i64 p)), (5, (.int .u8 ((a4).toNat : Int)))] ?_
   refine iF ?_
   refine aR ?_
   refine iR 4 4 [(15, (.int .i64 p)), (16, (.int .i64 (IntKind.wrap .i64 (Int.tdiv p 4)))), (17, (.int .i64 p)), (18, (.int .i64 (IntKind.wrap .i64 (Int.tdiv p 4))))] ?_
   obtain ⟨a9, d2, d3, f2, H⟩ := Qy H
   refine iS 5 ?_
   refine Qs (e := (Qh .u32)) (l := a0) (m := 64) (g := g9) (T := 135) (E := 111) (x := (.tmp 3)) (ix := (.tmp 18)) (ki := .i64) (iz := (IntKind.wrap .i64 (Int.tdiv p 4))) (i := 1) (d := (some 19)) (k := 4) K rfl K K K K a2 rfl d2 d3 ?_
   refine iS 6 ?_
   refine sC 111 19 g9 (0 + Int.toNat (IntKind.wrap .i64 (Int.tdiv p 4)) * (Qh .u32).sz) (.int .u32 a9) 20 (Qw (e := (Qh .u32)) (Qp (Vr (SP.get a2 (i := 1) rfl)) rfl d2 d3) f2 (j := 0) rfl) ?_
   refine iR 4 10 [(21, (.int .u32 (Gn .u32 a9 8))), (22, (.int .u8 ((a4).toNat : Int))), (23, (.int .u32 (IntKind.wrap .u32 ((a4).toNat : Int)))), (24, (.int .u32 (bOr .u32 (Gn .u32 a9 8) (IntKind.wrap .u32 ((a4).toNat : Int)))))] ?_
   obtain ⟨m9, d4, d5, n0, H⟩ := Qy H
   refine iS 11 ?_
   refine Qs (e := (Qh .u32)) (l := a0) (m := 64) (g := g9) (T := 135) (E := 111) (x := (.tmp 3)) (ix := (.tmp 16)) (ki := .i64) (iz := (IntKind.wrap .i64 (Int.tdiv p 4))) (i := 1) (d := (some 25)) (k := 10) K rfl K K K K a2 rfl d4 d5 ?_
   obtain ⟨d6, hyl2237, H⟩ := V5 H
   have hnl2237 : List.length d6 = List.length a0 := by rw [← hyl2237, List.length_set]
   refine iS 12 ?_
   refine Zp (e := (Qh .u32)) (t := 111) (x := (.tmp 25)) (y := (.tmp 24)) (l := a0) (iz := (IntKind.wrap .i64 (Int.tdiv p 4))) (m := 64) (g := g9) (b := g9) (off := 0) (i := 1) (v := (.int .u32 (bOr .u32 (Gn .u32 a9 8) (IntKind.wrap .u32 ((a4).toNat : Int))))) (x' := (bOr .u32 (Gn .u32 a9 8) (IntKind.wrap .u32 ((a4).toNat : Int)))) (d := none) (k := 11) K rfl rfl K K a2 rfl rfl d5 d4 rfl K ?_
   rw [hyl2237]
   intro n1 f3
   refine In.known [] trivial ?_
   refine iF ?_
   refine aR ?_
   refine iR 2 2 [(26, (.int .i64 (IntKind.wrap .i64 (p + 1)))), (10, (.int .i64 (IntKind.wrap .i64 (p + 1))))] ?_
   refine iF ?_
   exact ⟨d6, (IntKind.wrap .i64 (p + 1)), ⟨K, K, K, K, K, trivial⟩, SP.sel f3 [0, 1] rfl rfl, H⟩
  ·have H := cf H c0
   refine At.exit K (id := 0) K ?_
   refine aQ ?_
   refine aQ ?_
   refine aR ?_
   refine iR 1 1 [(6, (.int .i64 16))] ?_
   refine iF ?_
   refine X8 K (id := 2) K ?_
   refine Ne K (fun f5 ρ w => ∃ (h : (List Int)) (f : Int), Zg ρ [(2, (pt g5 0)), (3, (pt g9 0)), (6, (.int .i64 f))] ∧ SP [] w0 w [Vp 135 (Qh .u32) g5 64 (List.replicate 64 0), Vp 135 (Qh .u32) g9 64 h] ∧ Zz (Vy q f4) f5 h f = some r) (by rintro ρ w ⟨h, f, hk, hs, H⟩; cases H) ?_ Zw ?_
   ·rintro f5 ρ n2 ⟨h, f, hk, b0, H⟩
    refine At.known [(2, (pt g5 0)), (3, (pt g9 0)), (6, (.int .i64 f))] hk ?_
    replace H := (show Yi (Vy q f4) (Zz (Vy q f4) f5) h f = some r from H)
    unfold Yi at H
    have n3 := Vm (SP.get b0 (i := 0) rfl)
    have f6 := Vm (SP.get b0 (i := 1) rfl)
    refine aQ ?_
    refine aQ ?_
    refine aR ?_
    refine iR 2 2 [(27, (.int .i64 f)), (28, (.bool (decide (f < 64))))] ?_
    refine iF ?_
    refine Zu K (o := (.tmp 28)) K (b := (decide (f < 64))) K (fun c1 => ?_) (fun c1 => ?_)
    ·have H := ct H c1
     refine At.skip K ?_
     refine aQ ?_
     refine X8 K (id := 3) K ?_
     obtain ⟨c2, d7, d8, f7, H⟩ := Qy H
     obtain ⟨s, f8, H⟩ := Qc H
     obtain ⟨u, a5, a6, c4, H⟩ := Qy H
     obtain ⟨b3, b4, b5, d9, H⟩ := Qy H
     obtain ⟨a1, f9, H⟩ := Qc H
     obtain ⟨a3, a7, a8, c5, H⟩ := Qy H
     obtain ⟨n4, e0, e1, n5, H⟩ := Qy H
     obtain ⟨c6, hyl2808, H⟩ := V5 H
     have hnl2808 : List.length c6 = List.length h := by rw [← hyl2808, List.length_set]
     refine aG [GEq (.int .i64 f), GEq (.int .i64 f), GEq (.int .i64 (IntKind.wrap .i64 (f - 2))), Xt (some ⟨g9, 0, none⟩) (Qh .u32).sz (IntKind.wrap .i64 (f - 2)), GEq (.int .u32 c2), GEq (.agg (Qa (Qh .i64) ([17, 19, 10] : List Int)).toArray), GEq (.int .u32 s), GEq (.int .i64 f), GEq (.int .i64 (IntKind.wrap .i64 (f - 7))), Xt (some ⟨g9, 0, none⟩) (Qh .u32).sz (IntKind.wrap .i64 (f - 7)), GEq (.int .u32 u), GEq (.int .u32 (IntKind.wrap .u32 (s + u))), GEq (.int .i64 f), GEq (.int .i64 (IntKind.wrap .i64 (f - 15))), Xt (some ⟨g9, 0, none⟩) (Qh .u32).sz (IntKind.wrap .i64 (f - 15)), GEq (.int .u32 b3), GEq (.agg (Qa (Qh .i64) ([7, 18, 3] : List Int)).toArray), GEq (.int .u32 a1), GEq (.int .u32 (IntKind.wrap .u32 ((IntKind.wrap .u32 (s + u)) + a1))), GEq (.int .i64 f), GEq (.int .i64 (IntKind.wrap .i64 (f - 16))), Xt (some ⟨g9, 0, none⟩) (Qh .u32).sz (IntKind.wrap .i64 (f - 16)), GEq (.int .u32 a3), GEq (.int .u32 (IntKind.wrap .u32 ((IntKind.wrap .u32 ((IntKind.wrap .u32 (s + u)) + a1)) + a3))), Xt (some ⟨g9, 0, none⟩) (Qh .u32).sz f, C3] [6, 17, 25] [sG [] [] [] w0 [Vp 135 (Qh .u32) g5 64 (List.replicate 64 0), Vp 135 (Qh .u32) g9 64 h], sG [6] [(.int .u32 s)] [] w0 [Vp 135 (Qh .u32) g5 64 (List.replicate 64 0), Vp 135 (Qh .u32) g9 64 h], sG [6, 17] [(.int .u32 s), (.int .u32 a1)] [] w0 [Vp 135 (Qh .u32) g5 64 (List.replicate 64 0), Vp 135 (Qh .u32) g9 64 h], sG [6, 17, 25] [(.int .u32 s), (.int .u32 a1), undef] [] w0 [Vp 135 (Qh .u32) g5 64 (List.replicate 64 0), Vp 135 (Qh .u32) g9 64 c6]] 26 3 ⟨trivial, SP.drew b0⟩ ?_ ?_
     iterate 26 refine And.intro ?_ ?_
     exact trivial
     ·exact oV (hC (hS 6 (.int .i64 f)) (h0)) (.int .i64 f)
     ·exact oV (hC (hS 6 (.int .i64 f)) (h0)) (.int .i64 f)
     ·exact oV (hC (hA 1 32) (h0)) (.int .i64 (IntKind.wrap .i64 (f - 2)))
     ·refine oL 0 ?_
      ·rintro ρ' w' hs hah ⟨n6, g0⟩
       refine kM (kc (kS hs 3 (pt g9 0)) (kc (kA hah 2 33) k0)) fun hkn => ?_
       refine Qs (e := (Qh .u32)) (l := h) (m := 64) (g := g9) (T := 135) (E := 111) (x := (.tmp 3)) (ix := (.tmp 33)) (ki := .i64) (iz := (IntKind.wrap .i64 (f - 2))) (i := 1) (d := (some 34)) (k := 3) K rfl K K K K g0 rfl d7 d8 ?_
       exact ⟨rfl, _, Qb hkn, ⟨g9, 0, rfl, rfl⟩⟩
     ·refine oL 0 ?_
      ·rintro ρ' w' hs hah ⟨n7, g1⟩
       obtain ⟨g2, g3, g4, g6⟩ := hah 3 34 K
       refine kM (kc g6 k0) fun hkn => ?_
       refine sC 111 34 g2 (g3 + Int.toNat (IntKind.wrap .i64 (f - 2)) * (Qh .u32).sz) (.int .u32 c2) 35 (Qw (e := (Qh .u32)) (Qp (Vr (SP.get g1 (i := 1) rfl)) g4 d7 d8) f7 (j := 0) rfl) ?_
       exact eK hkn
     ·exact Owe.run K [] trivial (.agg (Qa (Qh .i64) ([17, 19, 10] : List Int)).toArray) (fun _ _ => K) rfl
     ·refine oH 0 1 ?_
      ·rintro ρ' w' hs hah ⟨n8, g7⟩
       refine kM (kc (kA hah 4 35) (kc (kA hah 5 36) k0)) fun hkn => ?_
       refine cF 128 #[(.tmp 35), (.tmp 36), (.const (.bool true))] #[111, 168, 4] 37 Tryz.call128 (Yq  c2 ([17, 19, 10] : List Int) true w' rfl s f8) ?_
       rintro e n9 ⟨rfl, e2⟩
       refine ⟨_, rfl, ?_⟩
       have g8 := SP.call g7 e2
       clear e2
       refine ⟨_, Qb hkn, rfl, ?_⟩
       exact (And.intro (And.intro rfl (trivial)) (g8))
     ·exact oV (hC (hS 6 (.int .i64 f)) (h0)) (.int .i64 f)
     ·exact oV (hC (hA 7 38) (h0)) (.int .i64 (IntKind.wrap .i64 (f - 7)))
     ·refine Owe.light K [0, 1, 2] K (Ql ?_ (Ql ?_ (Ql ?_ Vu)))
      ·rintro ρ' w' hs hah ⟨o0, h1⟩
       refine kM (kc (kS hs 3 (pt g9 0)) (kc (kA hah 8 39) k0)) fun hkn => ?_
       refine Qs (e := (Qh .u32)) (l := h) (m := 64) (g := g9) (T := 135) (E := 111) (x := (.tmp 3)) (ix := (.tmp 39)) (ki := .i64) (iz := (IntKind.wrap .i64 (f - 7))) (i := 1) (d := (some 40)) (k := 9) K rfl K K K K h1 rfl a5 a6 ?_
       exact ⟨rfl, _, Qb hkn, ⟨g9, 0, rfl, rfl⟩⟩
      ·rintro ρ' w' hs hah ⟨⟨o1, -⟩, h2⟩
       refine kM (kc (kS hs 3 (pt g9 0)) (kc (kA hah 8 39) k0)) fun hkn => ?_
       refine Qs (e := (Qh .u32)) (l := h) (m := 64) (g := g9) (T := 135) (E := 111) (x := (.tmp 3)) (ix := (.tmp 39)) (ki := .i64) (iz := (IntKind.wrap .i64 (f - 7))) (i := 1) (d := (some 40)) (k := 9) K rfl K K K K h2 rfl a5 a6 ?_
       exact ⟨rfl, _, Qb hkn, ⟨g9, 0, rfl, rfl⟩⟩
      ·rintro ρ' w' hs hah ⟨⟨o2, o3, -⟩, h3⟩
       refine kM (kc (kS hs 3 (pt g9 0)) (kc (kA hah 8 39) k0)) fun hkn => ?_
       refine Qs (e := (Qh .u32)) (l := h) (m := 64) (g := g9) (T := 135) (E := 111) (x := (.tmp 3)) (ix := (.tmp 39)) (ki := .i64) (iz := (IntKind.wrap .i64 (f - 7))) (i := 1) (d := (some 40)) (k := 9) K rfl K K K K h3 rfl a5 a6 ?_
       exact ⟨rfl, _, Qb hkn, ⟨g9, 0, rfl, rfl⟩⟩
     ·refine Owe.light K [0, 1, 2] K (Ql ?_ (Ql ?_ (Ql ?_ Vu)))
      ·rintro ρ' w' hs hah ⟨o4, h4⟩
       obtain ⟨h5, h6, h7, b1⟩ := hah 9 40 K
       refine kM (kc b1 k0) fun hkn => ?_
       refine sC 111 40 h5 (h6 + Int.toNat (IntKind.wrap .i64 (f - 7)) * (Qh .u32).sz) (.int .u32 u) 41 (Qw (e := (Qh .u32)) (Qp (Vr (SP.get h4 (i := 1) rfl)) h7 a5 a6) c4 (j := 0) rfl) ?_
       exact eK hkn
      ·rintro ρ' w' hs hah ⟨⟨o5, -⟩, h8⟩
       obtain ⟨h9, i0, i1, b1⟩ := hah 9 40 K
       refine kM (kc b1 k0) fun hkn => ?_
       refine sC 111 40 h9 (i0 + Int.toNat (IntKind.wrap .i64 (f - 7)) * (Qh .u32).sz) (.int .u32 u) 41 (Qw (e := (Qh .u32)) (Qp (Vr (SP.get h8 (i := 1) rfl)) i1 a5 a6) c4 (j := 0) rfl) ?_
       exact eK hkn
      ·rintro ρ' w' hs hah ⟨⟨o6, o7, -⟩, i2⟩
       obtain ⟨i3, i4, i5, b1⟩ := hah 9 40 K
       refine kM (kc b1 k0) fun hkn => ?_
       refine sC 111 40 i3 (i4 + Int.toNat (IntKind.wrap .i64 (f - 7)) * (Qh .u32).sz) (.int .u32 u) 41 (Qw (e := (Qh .u32)) (Qp (Vr (SP.get i2 (i := 1) rfl)) i5 a5 a6) c4 (j := 0) rfl) ?_
       exact eK hkn
     ·exact oV (hC (hA 6 37) (hC (hA 10 41) (h0))) (.int .u32 (IntKind.wrap .u32 (s + u)))
     ·exact oV (hC (hS 6 (.int .i64 f)) (h0)) (.int .i64 f)
     ·exact oV (hC (hA 12 43) (h0)) (.int .i64 (IntKind.wrap .i64 (f - 15)))
     ·refine Owe.light K [0, 1] K (Ql ?_ (Ql ?_ Vu))
      ·rintro ρ' w' hs hah ⟨o8, i6⟩
       refine kM (kc (kS hs 3 (pt g9 0)) (kc (kA hah 13 44) k0)) fun hkn => ?_
       refine Qs (e := (Qh .u32)) (l := h) (m := 64) (g := g9) (T := 135) (E := 111) (x := (.tmp 3)) (ix := (.tmp 44)) (ki := .i64) (iz := (IntKind.wrap .i64 (f - 15))) (i := 1) (d := (some 45)) (k := 14) K rfl K K K K i6 rfl b4 b5 ?_
       exact ⟨rfl, _, Qb hkn, ⟨g9, 0, rfl, rfl⟩⟩
      ·rintro ρ' w' hs hah ⟨⟨o9, -⟩, i7⟩
       refine kM (kc (kS hs 3 (pt g9 0)) (kc (kA hah 13 44) k0)) fun hkn => ?_
       refine Qs (e := (Qh .u32)) (l := h) (m := 64) (g := g9) (T := 135) (E := 111) (x := (.tmp 3)) (ix := (.tmp 44)) (ki := .i64) (iz := (IntKind.wrap .i64 (f - 15))) (i := 1) (d := (some 45)) (k := 14) K rfl K K K K i7 rfl b4 b5 ?_
       exact ⟨rfl, _, Qb hkn, ⟨g9, 0, rfl, rfl⟩⟩
     ·refine Owe.light K [0, 1] K (Ql ?_ (Ql ?_ Vu))
      ·rintro ρ' w' hs hah ⟨p0, i8⟩
       obtain ⟨i9, j0, j1, c7⟩ := hah 14 45 K
       refine kM (kc c7 k0) fun hkn => ?_
       refine sC 111 45 i9 (j0 + Int.toNat (IntKind.wrap .i64 (f - 15)) * (Qh .u32).sz) (.int .u32 b3) 46 (Qw (e := (Qh .u32)) (Qp (Vr (SP.get i8 (i := 1) rfl)) j1 b4 b5) d9 (j := 0) rfl) ?_
       exact eK hkn
      ·rintro ρ' w' hs hah ⟨⟨p2, -⟩, j2⟩
       obtain ⟨j3, j4, j5, c7⟩ := hah 14 45 K
       refine kM (kc c7 k0) fun hkn => ?_
       refine sC 111 45 j3 (j4 + Int.toNat (IntKind.wrap .i64 (f - 15)) * (Qh .u32).sz) (.int .u32 b3) 46 (Qw (e := (Qh .u32)) (Qp (Vr (SP.get j2 (i := 1) rfl)) j5 b4 b5) d9 (j := 0) rfl) ?_
       exact eK hkn
     ·exact Owe.run K [] trivial (.agg (Qa (Qh .i64) ([7, 18, 3] : List Int)).toArray) (fun _ _ => K) rfl
     ·refine oH 1 2 ?_
      ·rintro ρ' w' hs hah ⟨⟨j6, -⟩, j7⟩
       refine kM (kc (kA hah 15 46) (kc (kA hah 16 47) k0)) fun hkn => ?_
       refine cF 128 #[(.tmp 46), (.tmp 47), (.const (.bool true))] #[111, 168, 4] 48 Tryz.call128 (Yq  b3 ([7, 18, 3] : List Int) true w' rfl a1 f9) ?_
       rintro e p3 ⟨rfl, e3⟩
       refine ⟨_, rfl, ?_⟩
       have j8 := SP.call j7 e3
       clear e3
       refine ⟨_, Qb hkn, rfl, ?_⟩
       exact (And.intro (And.intro j6 (And.intro rfl (trivial))) (j8))
     ·exact oV (hC (hA 11 42) (hC (hA 17 48) (h0))) (.int .u32 (IntKind.wrap .u32 ((IntKind.wrap .u32 (s + u)) + a1)))
     ·exact oV (hC (hS 6 (.int .i64 f)) (h0)) (.int .i64 f)
     ·exact oV (hC (hA 19 50) (h0)) (.int .i64 (IntKind.wrap .i64 (f - 16)))
     ·refine Owe.light K [0, 1, 2] K (Ql ?_ (Ql ?_ (Ql ?_ Vu)))
      ·rintro ρ' w' hs hah ⟨p4, j9⟩
       refine kM (kc (kS hs 3 (pt g9 0)) (kc (kA hah 20 51) k0)) fun hkn => ?_
       refine Qs (e := (Qh .u32)) (l := h) (m := 64) (g := g9) (T := 135) (E := 111) (x := (.tmp 3)) (ix := (.tmp 51)) (ki := .i64) (iz := (IntKind.wrap .i64 (f - 16))) (i := 1) (d := (some 52)) (k := 21) K rfl K K K K j9 rfl a7 a8 ?_
       exact ⟨rfl, _, Qb hkn, ⟨g9, 0, rfl, rfl⟩⟩
      ·rintro ρ' w' hs hah ⟨⟨p5, -⟩, k1⟩
       refine kM (kc (kS hs 3 (pt g9 0)) (kc (kA hah 20 51) k0)) fun hkn => ?_
       refine Qs (e := (Qh .u32)) (l := h) (m := 64) (g := g9) (T := 135) (E := 111) (x := (.tmp 3)) (ix := (.tmp 51)) (ki := .i64) (iz := (IntKind.wrap .i64 (f - 16))) (i := 1) (d := (some 52)) (k := 21) K rfl K K K K k1 rfl a7 a8 ?_
       exact ⟨rfl, _, Qb hkn, ⟨g9, 0, rfl, rfl⟩⟩
      ·rintro ρ' w' hs hah ⟨⟨p6, p7, -⟩, k2⟩
       refine kM (kc (kS hs 3 (pt g9 0)) (kc (kA hah 20 51) k0)) fun hkn => ?_
       refine Qs (e := (Qh .u32)) (l := h) (m := 64) (g := g9) (T := 135) (E := 111) (x := (.tmp 3)) (ix := (.tmp 51)) (ki := .i64) (iz := (IntKind.wrap .i64 (f - 16))) (i := 1) (d := (some 52)) (k := 21) K rfl K K K K k2 rfl a7 a8 ?_
       exact ⟨rfl, _, Qb hkn, ⟨g9, 0, rfl, rfl⟩⟩
     ·refine Owe.light K [0, 1, 2] K (Ql ?_ (Ql ?_ (Ql ?_ Vu)))
      ·rintro ρ' w' hs hah ⟨p8, k3⟩
       obtain ⟨k4, k5, k6, b2⟩ := hah 21 52 K
       refine kM (kc b2 k0) fun hkn => ?_
       refine sC 111 52 k4 (k5 + Int.toNat (IntKind.wrap .i64 (f - 16)) * (Qh .u32).sz) (.int .u32 a3) 53 (Qw (e := (Qh .u32)) (Qp (Vr (SP.get k3 (i := 1) rfl)) k6 a7 a8) c5 (j := 0) rfl) ?_
       exact eK hkn
      ·rintro ρ' w' hs hah ⟨⟨p9, -⟩, k7⟩
       obtain ⟨k8, k9, l0, b2⟩ := hah 21 52 K
       refine kM (kc b2 k0) fun hkn => ?_
       refine sC 111 52 k8 (k9 + Int.toNat (IntKind.wrap .i64 (f - 16)) * (Qh .u32).sz) (.int .u32 a3) 53 (Qw (e := (Qh .u32)) (Qp (Vr (SP.get k7 (i := 1) rfl)) l0 a7 a8) c5 (j := 0) rfl) ?_
       exact eK hkn
      ·rintro ρ' w' hs hah ⟨⟨q0, q1, -⟩, l1⟩
       obtain ⟨l2, l3, l4, b2⟩ := hah 21 52 K
       refine kM (kc b2 k0) fun hkn => ?_
       refine sC 111 52 l2 (l3 + Int.toNat (IntKind.wrap .i64 (f - 16)) * (Qh .u32).sz) (.int .u32 a3) 53 (Qw (e := (Qh .u32)) (Qp (Vr (SP.get l1 (i := 1) rfl)) l4 a7 a8) c5 (j := 0) rfl) ?_
       exact eK hkn
     ·exact oV (hC (hA 18 49) (hC (hA 22 53) (h0))) (.int .u32 (IntKind.wrap .u32 ((IntKind.wrap .u32 ((IntKind.wrap .u32 (s + u)) + a1)) + a3)))
     ·refine oL 2 ?_
      ·rintro ρ' w' hs hah ⟨⟨q2, q3, -⟩, l5⟩
       refine kM (kc (kS hs 3 (pt g9 0)) (kc (kA hah 0 31) k0)) fun hkn => ?_
       refine Qs (e := (Qh .u32)) (l := h) (m := 64) (g := g9) (T := 135) (E := 111) (x := (.tmp 3)) (ix := (.tmp 31)) (ki := .i64) (iz := f) (i := 1) (d := (some 55)) (k := 24) K rfl K K K K l5 rfl e0 e1 ?_
       exact ⟨rfl, _, Qb hkn, ⟨g9, 0, rfl, rfl⟩⟩
     ·refine oH 2 3 ?_
      ·rintro ρ' w' hs hah ⟨⟨l6, l7, -⟩, l8⟩
       obtain ⟨l9, m0, m1, m2⟩ := hah 24 55 K
       refine kM (kc m2 (kc (kA hah 23 54) k0)) fun hkn => ?_
       refine Zp (e := (Qh .u32)) (t := 111) (x := (.tmp 55)) (y := (.tmp 54)) (l := h) (iz := f) (m := 64) (g := g9) (b := l9) (off := m0) (i := 1) (v := (.int .u32 (IntKind.wrap .u32 ((IntKind.wrap .u32 ((IntKind.wrap .u32 (s + u)) + a1)) + a3)))) (x' := (IntKind.wrap .u32 ((IntKind.wrap .u32 ((IntKind.wrap .u32 (s + u)) + a1)) + a3))) (d := none) (k := 25) K rfl m1 K K l8 rfl rfl e1 e0 rfl K ?_
       rw [hyl2808]
       intro q4 m3
       refine ⟨_, Qb hkn, trivial, ?_⟩
       exact (And.intro (And.intro l6 (And.intro l7 (And.intro rfl (trivial)))) (m3))
     ·rintro ρ' w' hs hf ⟨⟨q5, q6, q7, -⟩, e4⟩
      refine Vj [(2, (pt g5 0)), (3, (pt g9 0)), (6, (.int .i64 f))] ⟨(hs 2 K).trans K, (hs 3 K).trans K, (hs 6 K).trans K, trivial⟩ ?_
      obtain ⟨q8, m4⟩ : ∃ x, w' = x := ⟨_, rfl⟩
      rw [m4] at e4 ⊢
      refine aR ?_
      refine iR 3 3 [(29, (.int .i64 f)), (30, (.int .i64 (IntKind.wrap .i64 (f + 1)))), (6, (.int .i64 (IntKind.wrap .i64 (f + 1))))] ?_
      refine iF ?_
      exact ⟨c6, (IntKind.wrap .i64 (f + 1)), ⟨K, K, K, trivial⟩, SP.sel e4 [0, 1] rfl rfl, H⟩
    ·have H := cf H c1
     refine At.exit K (id := 2) K ?_
     refine aQ ?_
     refine aR ?_
     refine iS 1 ?_
     refine Zd (e := (Qh .u32)) (l := h) (m := 64) (t := 135) (x := (.tmp 3)) (g := g9) (i := 1) (d := (some 56)) (k := 0) K rfl K b0 rfl K K ?_
     refine iS 2 ?_
     refine V6 (e := (Qh .u32)) (l := (List.replicate 64 0)) (l' := h) (m := 64) (t := 135) (x := (.tmp 2)) (y := (.tmp 56)) (g := g5) (i := 0) (d := none) (k := 1) K rfl K K f6 b0 rfl K ?_
     intro q9 e5
     refine iF ?_
     refine At.ret K ?_
     refine ⟨(.agg (Qa (Qh .u32) h).toArray), Rf K (Nb (e := (Qh .u32)) (l := h) (a := 2) (t := 135) K (SP.get e5 (i := 0) rfl) K K), ?_⟩
     obtain rfl := Qf H
     exact ⟨rfl, SP.sel e5 [] rfl rfl⟩
   ·exact ⟨a0, 16, ⟨K, K, K, trivial⟩, SP.sel a2 [0, 1] rfl rfl, H⟩
 ·exact ⟨(List.replicate 64 0), 0, ⟨K, K, K, K, K, trivial⟩, SP.sel c8 [0, 1] rfl rfl, H⟩
def Yj (g : (List Int) → Int → Option ((List Int))) (c : (List Int) → Int → Option ((List Int))) (p1 : (List Int)) (b : (List Int)) (a : Int) : Option ((List Int)) :=
  (cond (decide (a < 8)) ((idx b a).bind fun d => ((idx p1 a).bind fun e => ((idx b a).bind fun h => ((some (List.set b (Int.toNat a) (IntKind.wrap .u32 (d + e)))).bind fun f => (c f (IntKind.wrap .i64 (a + 1))))))) (some (b)))
def Zk (a : (List Int) → Int → Option ((List Int))) (p1 : (List Int)) : Nat → (List Int) → Int → Option ((List Int))
  | 0, _, _ => none
  | f + 1, b, c => Yj a (Zk a p1 f) p1 b c
def Vn (e : (List Int) → Int → Option ((List Int))) (p1 : (List Int)) (p3 : (List Int)) (q : ((List Int))) (a : (List Int)) (b : Int) : Option ((List Int)) :=
  (cond (decide (b < 64)) ((idx a 0).bind fun f => ((idx a 1).bind fun g => ((idx a 2).bind fun h => ((idx a 4).bind fun c => ((idx a 7).bind fun i => ((Vt c ([6, 11, 25] : List Int) false).bind fun j => ((idx a 6).bind fun k => ((idx a 5).bind fun l => ((idx a 6).bind fun m => ((idx q b).bind fun n => ((idx p3 b).bind fun o => ((Vt f ([2, 13, 22] : List Int) false).bind fun r => ((sub a 1 ((List.length a : Nat) : Int)).bind fun s => ((sub a 0 7).bind fun t => ((some (cpy a (Int.toNat 1) (List.length s) t)).bind fun d => ((idx d 4).bind fun u => ((idx d 0).bind fun w => ((some (List.set d (Int.toNat 0) (IntKind.wrap .u32 ((IntKind.wrap .u32 ((IntKind.wrap .u32 ((IntKind.wrap .u32 ((IntKind.wrap .u32 (i + j)) + (Xn .u32 k (Yc .u32 c (Xn .u32 l m))))) + n)) + o)) + (IntKind.wrap .u32 (r + (bOr .u32 (Yc .u32 f (bOr .u32 g h)) (Yc .u32 g h)))))))).bind fun p => ((idx p 4).bind fun x => ((some (List.set p (Int.toNat 4) (IntKind.wrap .u32 (u + (IntKind.wrap .u32 ((IntKind.wrap .u32 ((IntKind.wrap .u32 ((IntKind.wrap .u32 (i + j)) + (Xn .u32 k (Yc .u32 c (Xn .u32 l m))))) + n)) + o)))))).bind fun v => (e v (IntKind.wrap .i64 (b + 1))))))))))))))))))))))) (Zk e p1 Zw a 0))
def Q4 (p1 : (List Int)) (p3 : (List Int)) (a : ((List Int))) : Nat → (List Int) → Int → Option ((List Int))
  | 0, _, _ => none
  | f + 1, b, c => Vn  (Q4 p1 p3 a f) p1 p3 a b c
def Zl (p1 : (List Int)) (p3 : (List Int)) : Option ((List Int)) :=
  ((Um ).bind fun a => ((chk (Nat.beq (List.length a) 64)).bind fun _ => (Q4 p1 p3 a Zw p1 0)))
set_option maxRecDepth 100000 in
set_option maxHeartbeats 4000000 in
theorem Jh  (p1 : (List Int)) (p3 : (List Int)) (w0 : World) (g6 : List.length p1 = 8) (l6 : List.length p3 = 64) (r : ((List Int))) (H : Zl p1 p3 = some r) :
  Calls Tryz.prog 115 #[(.agg (Qa (Qh .u32) p1).toArray), (.agg (Qa (Qh .u32) p3).toArray)] w0 (fun e w' => e = .returned (.agg (Qa (Qh .u32) r).toArray) ∧ SP [] w0 w' []) := by
 unfold Zl at H
 refine Qt (n := 92) Tryz.func115 K K K ?_
 have l7 := Q1 [] w0
 refine aQ ?_
 refine aR ?_
 refine iS 1 ?_
 refine R7 (e := (Qh .u32)) (l := p1) (m := 8) (t := 149) (x := (.tmp 0)) (d := (some 2)) (k := 0) K rfl K g6 K l7 ?_
 intro g5 w6 l8
 refine iS 2 ?_
 refine R7 (e := (Qh .u32)) (l := p3) (m := 64) (t := 135) (x := (.tmp 1)) (d := (some 3)) (k := 1) K rfl K l6 K l8 ?_
 intro g9 w10 l9
 refine iS 3 ?_
 refine Vc (e := (Qh .u32)) (l := (List.replicate 8 0)) (m := 8) (t := 149) (z := .agg (Qa (Qh .u32) (List.replicate 8 0)).toArray) (d := (some 4)) (k := 2) K rfl K rfl rfl K l9 ?_
 intro s w14 m0
 refine iF ?_
 refine aQ ?_
 obtain ⟨a1, d3, H⟩ := Qc H
 obtain ⟨f2, H⟩ := Zm H
 replace f2 := Nat.eq_of_beq_eq_true f2
 refine aG [GEq (.agg (Qa (Qh .u32) p1).toArray), GEq (.agg (Qa (Qh .u32) a1).toArray), C3, C3, C3, C3] [1, 2, 3, 4, 5] [([], fun vs w => VL vs [] ∧ SP [] w0 w [Vp 149 (Qh .u32) g5 8 p1, Vp 135 (Qh .u32) g9 64 p3, Vp 149 (Qh .u32) s 8 (List.replicate 8 0)]), ([1], fun vs w => VL vs [(.agg (Qa (Qh .u32) a1).toArray)] ∧ SP [] w0 w [Vp 149 (Qh .u32) g5 8 p1, Vp 135 (Qh .u32) g9 64 p3, Vp 149 (Qh .u32) s 8 (List.replicate 8 0)]), ([2], fun vs w => ∃ (b6 : Nat), VL vs [(pt b6 0)] ∧ SP [] w0 w [Vp 149 (Qh .u32) g5 8 p1, Vp 135 (Qh .u32) g9 64 p3, Vp 149 (Qh .u32) s 8 (List.replicate 8 0), Vp 149 (Qh .u32) b6 8 (List.replicate 8 0)]), ([3], fun vs w => ∃ (b7 : Nat), VL vs [(pt b7 0)] ∧ SP [] w0 w [Vp 149 (Qh .u32) g5 8 p1, Vp 135 (Qh .u32) g9 64 p3, Vp 149 (Qh .u32) s 8 (List.replicate 8 0), Vp 135 (Qh .u32) b7 64 (List.replicate 64 0)]), ([1, 2], fun vs w => ∃ (c5 : Nat), VL vs [(.agg (Qa (Qh .u32) a1).toArray), (pt c5 0)] ∧ SP [] w0 w [Vp 149 (Qh .u32) g5 8 p1, Vp 135 (Qh .u32) g9 64 p3, Vp 149 (Qh .u32) s 8 (List.replicate 8 0), Vp 149 (Qh .u32) c5 8 (List.replicate 8 0)]), ([1, 3], fun vs w => ∃ (c6 : Nat), VL vs [(.agg (Qa (Qh .u32) a1).toArray), (pt c6 0)] ∧ SP [] w0 w [Vp 149 (Qh .u32) g5 8 p1, Vp 135 (Qh .u32) g9 64 p3, Vp 149 (Qh .u32) s 8 (List.replicate 8 0), Vp 135 (Qh .u32) c6 64 (List.replicate 64 0)]), ([2, 3], fun vs w => ∃ (c7 : Nat), ∃ (c8 : Nat), VL vs [(pt c7 0), (pt c8 0)] ∧ SP [] w0 w [Vp 149 (Qh .u32) g5 8 p1, Vp 135 (Qh .u32) g9 64 p3, Vp 149 (Qh .u32) s 8 (List.replicate 8 0), Vp 149 (Qh .u32) c7 8 (List.replicate 8 0), Vp 135 (Qh .u32) c8 64 (List.replicate 64 0)]), ([1, 2, 3], fun vs w => ∃ (b8 : Nat), ∃ (c9 : Nat), VL vs [(.agg (Qa (Qh .u32) a1).toArray), (pt b8 0), (pt c9 0)] ∧ SP [] w0 w [Vp 149 (Qh .u32) g5 8 p1, Vp 135 (Qh .u32) g9 64 p3, Vp 149 (Qh .u32) s 8 (List.replicate 8 0), Vp 149 (Qh .u32) b8 8 (List.replicate 8 0), Vp 135 (Qh .u32) c9 64 (List.replicate 64 0)]), ([1, 2, 3, 4], fun vs w => ∃ (d4 : Nat), ∃ (c0 : Nat), VL vs [(.agg (Qa (Qh .u32) a1).toArray), (pt d4 0), (pt c0 0), undef] ∧ SP [] w0 w [Vp 149 (Qh .u32) g5 8 p1, Vp 135 (Qh .u32) g9 64 p3, Vp 149 (Qh .u32) s 8 (List.replicate 8 0), Vp 149 (Qh .u32) d4 8 p1, Vp 135 (Qh .u32) c0 64 (List.replicate 64 0)]), ([1, 2, 3, 4, 5], fun vs w => ∃ (c : Nat), ∃ (a9 : Nat), VL vs [(.agg (Qa (Qh .u32) a1).toArray), (pt c 0), (pt a9 0), undef, undef] ∧ SP [] w0 w [Vp 149 (Qh .u32) g5 8 p1, Vp 135 (Qh .u32) g9 64 p3, Vp 149 (Qh .u32) s 8 (List.replicate 8 0), Vp 149 (Qh .u32) c 8 p1, Vp 135 (Qh .u32) a9 64 a1])] 6 9 ⟨trivial, SP.drew m0⟩ ?_ ?_
 iterate 6 refine And.intro ?_ ?_
 exact trivial
 ·refine Owe.light K [0, 1, 2, 3, 4, 5, 6, 7] K (Ql ?_ (Ql ?_ (Ql ?_ (Ql ?_ (Ql ?_ (Ql ?_ (Ql ?_ (Ql ?_ Vu))))))))
  ·rintro ρ' w' hs hah ⟨af6, m1⟩
   refine kM (kc (kS hs 2 (pt g5 0)) k0) fun hkn => ?_
   refine Zd (e := (Qh .u32)) (l := p1) (m := 8) (t := 149) (x := (.tmp 2)) (g := g5) (i := 0) (d := (some 15)) (k := 0) K rfl K m1 rfl K K ?_
   exact eK hkn
  ·rintro ρ' w' hs hah ⟨⟨af7, -⟩, m2⟩
   refine kM (kc (kS hs 2 (pt g5 0)) k0) fun hkn => ?_
   refine Zd (e := (Qh .u32)) (l := p1) (m := 8) (t := 149) (x := (.tmp 2)) (g := g5) (i := 0) (d := (some 15)) (k := 0) K rfl K m2 rfl K K ?_
   exact eK hkn
  ·rintro ρ' w' hs hah ⟨b6, ⟨af8, -⟩, m3⟩
   refine kM (kc (kS hs 2 (pt g5 0)) k0) fun hkn => ?_
   refine Zd (e := (Qh .u32)) (l := p1) (m := 8) (t := 149) (x := (.tmp 2)) (g := g5) (i := 0) (d := (some 15)) (k := 0) K rfl K m3 rfl K K ?_
   exact eK hkn
  ·rintro ρ' w' hs hah ⟨b7, ⟨af9, -⟩, m4⟩
   refine kM (kc (kS hs 2 (pt g5 0)) k0) fun hkn => ?_
   refine Zd (e := (Qh .u32)) (l := p1) (m := 8) (t := 149) (x := (.tmp 2)) (g := g5) (i := 0) (d := (some 15)) (k := 0) K rfl K m4 rfl K K ?_
   exact eK hkn
  ·rintro ρ' w' hs hah ⟨c5, ⟨ag0, ag1, -⟩, m5⟩
   refine kM (kc (kS hs 2 (pt g5 0)) k0) fun hkn => ?_
   refine Zd (e := (Qh .u32)) (l := p1) (m := 8) (t := 149) (x := (.tmp 2)) (g := g5) (i := 0) (d := (some 15)) (k := 0) K rfl K m5 rfl K K ?_
   exact eK hkn
  ·rintro ρ' w' hs hah ⟨c6, ⟨ag2, ag3, -⟩, m6⟩
   refine kM (kc (kS hs 2 (pt g5 0)) k0) fun hkn => ?_
   refine Zd (e := (Qh .u32)) (l := p1) (m := 8) (t := 149) (x := (.tmp 2)) (g := g5) (i := 0) (d := (some 15)) (k := 0) K rfl K m6 rfl K K ?_
   exact eK hkn
  ·rintro ρ' w' hs hah ⟨c7, c8, ⟨ag4, ag5, -⟩, m7⟩
   refine kM (kc (kS hs 2 (pt g5 0)) k0) fun hkn => ?_
   refine Zd (e := (Qh .u32)) (l := p1) (m := 8) (t := 149) (x := (.tmp 2)) (g := g5) (i := 0) (d := (some 15)) (k := 0) K rfl K m7 rfl K K ?_
   exact eK hkn
  ·rintro ρ' w' hs hah ⟨b8, c9, ⟨ag6, ag7, ag8, -⟩, m8⟩
   refine kM (kc (kS hs 2 (pt g5 0)) k0) fun hkn => ?_
   refine Zd (e := (Qh .u32)) (l := p1) (m := 8) (t := 149) (x := (.tmp 2)) (g := g5) (i := 0) (d := (some 15)) (k := 0) K rfl K m8 rfl K K ?_
   exact eK hkn
 ·refine Owe.heavy K [(0, 1), (2, 4), (3, 5), (6, 7)] K (Ql ⟨K, K, ?_⟩ (Ql ⟨K, K, ?_⟩ (Ql ⟨K, K, ?_⟩ (Ql ⟨K, K, ?_⟩ Vu))))
  ·rintro ρ' w' hs hah ⟨ag9, m9⟩
   refine kN [] trivial fun hkn => ?_
   refine cF 127 #[] #[] 16 Tryz.call127 (Yp   w'  a1 d3) ?_
   rintro e ah0 ⟨rfl, g7⟩
   refine ⟨_, rfl, ?_⟩
   have n0 := SP.call m9 g7
   clear g7
   refine ⟨_, Qb hkn, rfl, ?_⟩
   exact (And.intro (And.intro rfl (trivial)) (n0))
  ·rintro ρ' w' hs hah ⟨b6, ⟨n1, -⟩, n2⟩
   refine kN [] trivial fun hkn => ?_
   refine cF 127 #[] #[] 16 Tryz.call127 (Yp   w'  a1 d3) ?_
   rintro e ah1 ⟨rfl, g8⟩
   refine ⟨_, rfl, ?_⟩
   have n3 := SP.call n2 g8
   clear g8
   refine ⟨_, Qb hkn, rfl, ?_⟩
   exact (Exists.intro b6 (And.intro (And.intro rfl (And.intro n1 (trivial))) (n3)))
  ·rintro ρ' w' hs hah ⟨b7, ⟨n4, -⟩, n5⟩
   refine kN [] trivial fun hkn => ?_
   refine cF 127 #[] #[] 16 Tryz.call127 (Yp   w'  a1 d3) ?_
   rintro e ah2 ⟨rfl, h1⟩
   refine ⟨_, rfl, ?_⟩
   have n6 := SP.call n5 h1
   clear h1
   refine ⟨_, Qb hkn, rfl, ?_⟩
   exact (Exists.intro b7 (And.intro (And.intro rfl (And.intro n4 (trivial))) (n6)))
  ·rintro ρ' w' hs hah ⟨c7, c8, ⟨n7, n8, -⟩, n9⟩
   refine kN [] trivial fun hkn => ?_
   refine cF 127 #[] #[] 16 Tryz.call127 (Yp   w'  a1 d3) ?_
   rintro e ah3 ⟨rfl, h2⟩
   refine ⟨_, rfl, ?_⟩
   have o0 := SP.call n9 h2
   clear h2
   refine ⟨_, Qb hkn, rfl, ?_⟩
   exact (Exists.intro c7 (Exists.intro c8 (And.intro (And.intro rfl (And.intro n7 (And.intro n8 (trivial)))) (o0))))
 ·refine Owe.heavy K [(0, 2), (1, 4), (3, 6), (5, 7)] K (Ql ⟨K, K, ?_⟩ (Ql ⟨K, K, ?_⟩ (Ql ⟨K, K, ?_⟩ (Ql ⟨K, K, ?_⟩ Vu))))
  ·rintro ρ' w' hs hah ⟨ah4, o1⟩
   refine kN [] trivial fun hkn => ?_
   refine Vc (e := (Qh .u32)) (l := (List.replicate 8 0)) (m := 8) (t := 149) (z := .agg (Qa (Qh .u32) (List.replicate 8 0)).toArray) (d := (some 5)) (k := 2) K rfl K rfl rfl K o1 ?_
   intro o2 ah5 o3
   refine ⟨_, Qb hkn, trivial, ?_⟩
   exact (Exists.intro o2 (And.intro (And.intro rfl (trivial)) (o3)))
  ·rintro ρ' w' hs hah ⟨⟨o4, -⟩, o5⟩
   refine kN [] trivial fun hkn => ?_
   refine Vc (e := (Qh .u32)) (l := (List.replicate 8 0)) (m := 8) (t := 149) (z := .agg (Qa (Qh .u32) (List.replicate 8 0)).toArray) (d := (some 5)) (k := 2) K rfl K rfl rfl K o5 ?_
   intro o6 ah6 o7
   refine ⟨_, Qb hkn, trivial, ?_⟩
   exact (Exists.intro o6 (And.intro (And.intro o4 (And.intro rfl (trivial))) (o7)))
  ·rintro ρ' w' hs hah ⟨b7, ⟨o8, -⟩, o9⟩
   refine kN [] trivial fun hkn => ?_
   refine Vc (e := (Qh .u32)) (l := (List.replicate 8 0)) (m := 8) (t := 149) (z := .agg (Qa (Qh .u32) (List.replicate 8 0)).toArray) (d := (some 5)) (k := 2) K rfl K rfl rfl K o9 ?_
   intro p0 ah7 p2
   refine ⟨_, Qb hkn, trivial, ?_⟩
   exact (Exists.intro p0 (Exists.intro b7 (And.intro (And.intro rfl (And.intro o8 (trivial))) (SP.sel p2 [0, 1, 2, 4, 3] rfl rfl))))
  ·rintro ρ' w' hs hah ⟨c6, ⟨p4, p5, -⟩, p6⟩
   refine kN [] trivial fun hkn => ?_
   refine Vc (e := (Qh .u32)) (l := (List.replicate 8 0)) (m := 8) (t := 149) (z := .agg (Qa (Qh .u32) (List.replicate 8 0)).toArray) (d := (some 5)) (k := 2) K rfl K rfl rfl K p6 ?_
   intro p7 ah8 p8
   refine ⟨_, Qb hkn, trivial, ?_⟩
   exact (Exists.intro p7 (Exists.intro c6 (And.intro (And.intro p4 (And.intro rfl (And.intro p5 (trivial)))) (SP.sel p8 [0, 1, 2, 4, 3] rfl rfl))))
 ·refine Owe.heavy K [(0, 3), (1, 5), (2, 6), (4, 7)] K (Ql ⟨K, K, ?_⟩ (Ql ⟨K, K, ?_⟩ (Ql ⟨K, K, ?_⟩ (Ql ⟨K, K, ?_⟩ Vu))))
  ·rintro ρ' w' hs hah ⟨ah9, p9⟩
   refine kN [] trivial fun hkn => ?_
   refine Vc (e := (Qh .u32)) (l := (List.replicate 64 0)) (m := 64) (t := 135) (z := .agg (Qa (Qh .u32) (List.replicate 64 0)).toArray) (d := (some 6)) (k := 3) K rfl K rfl rfl K p9 ?_
   intro q0 ai0 q1
   refine ⟨_, Qb hkn, trivial, ?_⟩
   exact (Exists.intro q0 (And.intro (And.intro rfl (trivial)) (q1)))
  ·rintro ρ' w' hs hah ⟨⟨q2, -⟩, q3⟩
   refine kN [] trivial fun hkn => ?_
   refine Vc (e := (Qh .u32)) (l := (List.replicate 64 0)) (m := 64) (t := 135) (z := .agg (Qa (Qh .u32) (List.replicate 64 0)).toArray) (d := (some 6)) (k := 3) K rfl K rfl rfl K q3 ?_
   intro q4 ai1 q5
   refine ⟨_, Qb hkn, trivial, ?_⟩
   exact (Exists.intro q4 (And.intro (And.intro q2 (And.intro rfl (trivial))) (q5)))
  ·rintro ρ' w' hs hah ⟨b6, ⟨q6, -⟩, q7⟩
   refine kN [] trivial fun hkn => ?_
   refine Vc (e := (Qh .u32)) (l := (List.replicate 64 0)) (m := 64) (t := 135) (z := .agg (Qa (Qh .u32) (List.replicate 64 0)).toArray) (d := (some 6)) (k := 3) K rfl K rfl rfl K q7 ?_
   intro q8 ai2 q9
   refine ⟨_, Qb hkn, trivial, ?_⟩
   exact (Exists.intro b6 (Exists.intro q8 (And.intro (And.intro q6 (And.intro rfl (trivial))) (q9))))
  ·rintro ρ' w' hs hah ⟨c5, ⟨r0, r1, -⟩, r2⟩
   refine kN [] trivial fun hkn => ?_
   refine Vc (e := (Qh .u32)) (l := (List.replicate 64 0)) (m := 64) (t := 135) (z := .agg (Qa (Qh .u32) (List.replicate 64 0)).toArray) (d := (some 6)) (k := 3) K rfl K rfl rfl K r2 ?_
   intro r3 ai3 r4
   refine ⟨_, Qb hkn, trivial, ?_⟩
   exact (Exists.intro c5 (Exists.intro r3 (And.intro (And.intro r0 (And.intro r1 (And.intro rfl (trivial)))) (r4))))
 ·refine oH 7 8 ?_
  ·rintro ρ' w' hs hah ⟨b8, c9, ⟨r5, h3, r6, -⟩, r7⟩
   refine kN [(5, (pt b8 0)), (15, (.agg (Qa (Qh .u32) p1).toArray))] ⟨(Yl (h := 2) K).symm.trans h3, hah 0 15 K, trivial⟩ fun hkn => ?_
   refine V6 (e := (Qh .u32)) (l := (List.replicate 8 0)) (l' := p1) (m := 8) (t := 149) (x := (.tmp 5)) (y := (.tmp 15)) (g := b8) (i := 3) (d := none) (k := 4) K rfl K K g6 r7 rfl K ?_
   intro ai4 r8
   refine ⟨_, Qb hkn, trivial, ?_⟩
   exact (Exists.intro b8 (Exists.intro c9 (And.intro (And.intro r5 (And.intro h3 (And.intro r6 (And.intro rfl (trivial))))) (r8))))
 ·refine oH 8 9 ?_
  ·rintro ρ' w' hs hah ⟨d4, c0, ⟨h4, r9, h5, s0, -⟩, s1⟩
   refine kN [(6, (pt c0 0)), (16, (.agg (Qa (Qh .u32) a1).toArray))] ⟨(Yl (h := 3) K).symm.trans h5, (Yl (h := 1) K).symm.trans h4, trivial⟩ fun hkn => ?_
   refine V6 (e := (Qh .u32)) (l := (List.replicate 64 0)) (l' := a1) (m := 64) (t := 135) (x := (.tmp 6)) (y := (.tmp 16)) (g := c0) (i := 4) (d := none) (k := 5) K rfl K K f2 s1 rfl K ?_
   intro ai5 s2
   refine ⟨_, Qb hkn, trivial, ?_⟩
   exact (Exists.intro d4 (Exists.intro c0 (And.intro (And.intro h4 (And.intro r9 (And.intro h5 (And.intro s0 (And.intro rfl (trivial)))))) (s2))))
 ·rintro ρ' w' hs hf ⟨c, a9, ⟨ai6, s3, s4, ai7, ai8, -⟩, h6⟩
  refine Vj [(2, (pt g5 0)), (3, (pt g9 0)), (4, (pt s 0)), (5, (pt c 0)), (6, (pt a9 0))] ⟨(hs 2 K).trans K, (hs 3 K).trans K, (hs 4 K).trans K, (Yl (h := 2) K).symm.trans s3, (Yl (h := 3) K).symm.trans s4, trivial⟩ ?_
  obtain ⟨ai9, s5⟩ : ∃ x, w' = x := ⟨_, rfl⟩
  rw [s5] at h6 ⊢
  refine aQ ?_
  refine aQ ?_
  refine aR ?_
  refine iR 1 1 [(17, (.int .i64 0))] ?_
  refine iF ?_
  refine X8 K (id := 0) K ?_
  refine Ne K (fun f4 ρ w => ∃ (u : (List Int)) (p : Int), Zg ρ [(2, (pt g5 0)), (3, (pt g9 0)), (4, (pt s 0)), (5, (pt c 0)), (6, (pt a9 0)), (17, (.int .i64 p))] ∧ SP [] w0 w [Vp 149 (Qh .u32) g5 8 p1, Vp 135 (Qh .u32) g9 64 p3, Vp 149 (Qh .u32) s 8 (List.replicate 8 0), Vp 149 (Qh .u32) c 8 u, Vp 135 (Qh .u32) a9 64 a1] ∧ Q4 p1 p3 a1 f4 u p = some r) (by rintro ρ w ⟨u, p, hk, hs, H⟩; cases H) ?_ Zw ?_
  ·rintro f4 ρ aj0 ⟨u, p, hk, b9, H⟩
   refine At.known [(2, (pt g5 0)), (3, (pt g9 0)), (4, (pt s 0)), (5, (pt c 0)), (6, (pt a9 0)), (17, (.int .i64 p))] hk ?_
   replace H := (show Vn (Q4 p1 p3 a1 f4) p1 p3 a1 u p = some r from H)
   unfold Vn at H
   have aj1 := Vm (SP.get b9 (i := 0) rfl)
   have aj2 := Vm (SP.get b9 (i := 1) rfl)
   have aj3 := Vm (SP.get b9 (i := 2) rfl)
   have aj4 := Vm (SP.get b9 (i := 3) rfl)
   have aj5 := Vm (SP.get b9 (i := 4) rfl)
   refine aQ ?_
   refine aR ?_
   refine iR 1 1 [(18, (.bool (decide (p < 64))))] ?_
   refine iF ?_
   refine aQ ?_
   refine Zu K (o := (.tmp 18)) K (b := (decide (p < 64))) K (fun f3 => ?_) (fun f3 => ?_)
   ·have H := ct H f3
    refine At.skip K ?_
    refine aQ ?_
    refine X8 K (id := 1) K ?_
    refine aQ ?_
    refine aR ?_
    refine iR 2 2 [(19, (.int .i64 p)), (7, (.int .i64 p))] ?_
    refine iF ?_
    refine aQ ?_
    obtain ⟨b1, h7, h8, s6, H⟩ := Qy H
    obtain ⟨a2, h9, i0, s7, H⟩ := Qy H
    obtain ⟨a3, i1, i2, s8, H⟩ := Qy H
    obtain ⟨f, i3, i4, s9, H⟩ := Qy H
    refine aG [Xt (some ⟨c, 0, none⟩) (Qh .u32).sz 0, GEq (.int .u32 b1), Xt (some ⟨c, 0, none⟩) (Qh .u32).sz 1, GEq (.int .u32 a2), Xt (some ⟨c, 0, none⟩) (Qh .u32).sz 2, GEq (.int .u32 a3), Xt (some ⟨c, 0, none⟩) (Qh .u32).sz 4, GEq (.int .u32 f), GEq (.int .u32 b1), GEq (.int .u32 a2), GEq (.int .u32 a3), GEq (.int .u32 f)] [] (tG [] w0 [Vp 149 (Qh .u32) g5 8 p1, Vp 135 (Qh .u32) g9 64 p3, Vp 149 (Qh .u32) s 8 (List.replicate 8 0), Vp 149 (Qh .u32) c 8 u, Vp 135 (Qh .u32) a9 64 a1] [([], [])]) 12 0 ⟨trivial, SP.drew b9⟩ ?_ ?_
    iterate 12 refine And.intro ?_ ?_
    exact trivial
    ·refine oL 0 ?_
     ·rintro ρ' w' hs hah ⟨aj6, t0⟩
      refine kM (kc (kS hs 5 (pt c 0)) k0) fun hkn => ?_
      refine Qs (e := (Qh .u32)) (l := u) (m := 8) (g := c) (T := 149) (E := 111) (x := (.tmp 5)) (ix := (.const (.int .i64 (0)))) (ki := .i64) (iz := 0) (i := 3) (d := (some 20)) (k := 0) K rfl K K K K t0 rfl h7 h8 ?_
      exact ⟨rfl, _, Qb hkn, ⟨c, 0, rfl, rfl⟩⟩
    ·refine oL 0 ?_
     ·rintro ρ' w' hs hah ⟨aj7, t1⟩
      obtain ⟨t2, t3, t4, t5⟩ := hah 0 20 K
      refine kM (kc t5 k0) fun hkn => ?_
      refine sC 111 20 t2 (t3 + Int.toNat 0 * (Qh .u32).sz) (.int .u32 b1) 21 (Qw (e := (Qh .u32)) (Qp (Vr (SP.get t1 (i := 3) rfl)) t4 h7 h8) s6 (j := 0) rfl) ?_
      exact eK hkn
    ·refine oL 0 ?_
     ·rintro ρ' w' hs hah ⟨aj8, t6⟩
      refine kM (kc (kS hs 5 (pt c 0)) k0) fun hkn => ?_
      refine Qs (e := (Qh .u32)) (l := u) (m := 8) (g := c) (T := 149) (E := 111) (x := (.tmp 5)) (ix := (.const (.int .i64 (1)))) (ki := .i64) (iz := 1) (i := 3) (d := (some 22)) (k := 2) K rfl K K K K t6 rfl h9 i0 ?_
      exact ⟨rfl, _, Qb hkn, ⟨c, 0, rfl, rfl⟩⟩
    ·refine oL 0 ?_
     ·rintro ρ' w' hs hah ⟨aj9, t7⟩
      obtain ⟨t8, t9, u0, u1⟩ := hah 2 22 K
      refine kM (kc u1 k0) fun hkn => ?_
      refine sC 111 22 t8 (t9 + Int.toNat 1 * (Qh .u32).sz) (.int .u32 a2) 23 (Qw (e := (Qh .u32)) (Qp (Vr (SP.get t7 (i := 3) rfl)) u0 h9 i0) s7 (j := 0) rfl) ?_
      exact eK hkn
    ·refine oL 0 ?_
     ·rintro ρ' w' hs hah ⟨ak0, u2⟩
      refine kM (kc (kS hs 5 (pt c 0)) k0) fun hkn => ?_
      refine Qs (e := (Qh .u32)) (l := u) (m := 8) (g := c) (T := 149) (E := 111) (x := (.tmp 5)) (ix := (.const (.int .i64 (2)))) (ki := .i64) (iz := 2) (i := 3) (d := (some 24)) (k := 4) K rfl K K K K u2 rfl i1 i2 ?_
      exact ⟨rfl, _, Qb hkn, ⟨c, 0, rfl, rfl⟩⟩
    ·refine oL 0 ?_
     ·rintro ρ' w' hs hah ⟨ak1, u3⟩
      obtain ⟨u4, u5, u6, u7⟩ := hah 4 24 K
      refine kM (kc u7 k0) fun hkn => ?_
      refine sC 111 24 u4 (u5 + Int.toNat 2 * (Qh .u32).sz) (.int .u32 a3) 25 (Qw (e := (Qh .u32)) (Qp (Vr (SP.get u3 (i := 3) rfl)) u6 i1 i2) s8 (j := 0) rfl) ?_
      exact eK hkn
    ·refine oL 0 ?_
     ·rintro ρ' w' hs hah ⟨ak2, u8⟩
      refine kM (kc (kS hs 5 (pt c 0)) k0) fun hkn => ?_
      refine Qs (e := (Qh .u32)) (l := u) (m := 8) (g := c) (T := 149) (E := 111) (x := (.tmp 5)) (ix := (.const (.int .i64 (4)))) (ki := .i64) (iz := 4) (i := 3) (d := (some 26)) (k := 6) K rfl K K K K u8 rfl i3 i4 ?_
      exact ⟨rfl, _, Qb hkn, ⟨c, 0, rfl, rfl⟩⟩
    ·refine oL 0 ?_
     ·rintro ρ' w' hs hah ⟨ak3, u9⟩
      obtain ⟨v0, v1, v2, v3⟩ := hah 6 26 K
      refine kM (kc v3 k0) fun hkn => ?_
      refine sC 111 26 v0 (v1 + Int.toNat 4 * (Qh .u32).sz) (.int .u32 f) 27 (Qw (e := (Qh .u32)) (Qp (Vr (SP.get u9 (i := 3) rfl)) v2 i3 i4) s9 (j := 0) rfl) ?_
      exact eK hkn
    ·exact oV (hC (hA 1 21) (h0)) (.int .u32 b1)
    ·exact oV (hC (hA 3 23) (h0)) (.int .u32 a2)
    ·exact oV (hC (hA 5 25) (h0)) (.int .u32 a3)
    ·exact oV (hC (hA 7 27) (h0)) (.int .u32 f)
    ·rintro ρ' w' hs hf ⟨ak4, i5⟩
     refine Vj [(2, (pt g5 0)), (3, (pt g9 0)), (4, (pt s 0)), (5, (pt c 0)), (6, (pt a9 0)), (7, (.int .i64 p)), (8, (.int .u32 b1)), (9, (.int .u32 a2)), (10, (.int .u32 a3)), (11, (.int .u32 f)), (17, (.int .i64 p))] ⟨(hs 2 K).trans K, (hs 3 K).trans K, (hs 4 K).trans K, (hs 5 K).trans K, (hs 6 K).trans K, (hs 7 K).trans K, hf 8 8 K, hf 9 9 K, hf 10 10 K, hf 11 11 K, (hs 17 K).trans K, trivial⟩ ?_
     obtain ⟨ak5, v4⟩ : ∃ x, w' = x := ⟨_, rfl⟩
     rw [v4] at i5 ⊢
     refine aQ ?_
     obtain ⟨a6, d5, d6, i6, H⟩ := Qy H
     obtain ⟨a7, v5, H⟩ := Qc H
     obtain ⟨a8, d7, d8, i7, H⟩ := Qy H
     obtain ⟨a4, d9, e0, i8, H⟩ := Qy H
     obtain ⟨a5, e1, e2, i9, H⟩ := Qy H
     obtain ⟨b0, e3, e4, j0, H⟩ := Qy H
     obtain ⟨b2, e5, e6, j1, H⟩ := Qy H
     refine aG [Xt (some ⟨c, 0, none⟩) (Qh .u32).sz 7, GEq (.int .u32 a6), GEq (.int .u32 f), GEq (.agg (Qa (Qh .i64) ([6, 11, 25] : List Int)).toArray), GEq (.int .u32 a7), GEq (.int .u32 (IntKind.wrap .u32 (a6 + a7))), Xt (some ⟨c, 0, none⟩) (Qh .u32).sz 6, GEq (.int .u32 a8), GEq (.int .u32 f), Xt (some ⟨c, 0, none⟩) (Qh .u32).sz 5, GEq (.int .u32 a4), Xt (some ⟨c, 0, none⟩) (Qh .u32).sz 6, GEq (.int .u32 a5), GEq (.int .u32 (Xn .u32 a4 a5)), GEq (.int .u32 (Yc .u32 f (Xn .u32 a4 a5))), GEq (.int .u32 (Xn .u32 a8 (Yc .u32 f (Xn .u32 a4 a5)))), GEq (.int .u32 (IntKind.wrap .u32 ((IntKind.wrap .u32 (a6 + a7)) + (Xn .u32 a8 (Yc .u32 f (Xn .u32 a4 a5)))))), GEq (.int .i64 p), Xt (some ⟨a9, 0, none⟩) (Qh .u32).sz p, GEq (.int .u32 b0), GEq (.int .u32 (IntKind.wrap .u32 ((IntKind.wrap .u32 ((IntKind.wrap .u32 (a6 + a7)) + (Xn .u32 a8 (Yc .u32 f (Xn .u32 a4 a5))))) + b0))), GEq (.int .i64 p), Xt (some ⟨g9, 0, none⟩) (Qh .u32).sz p, GEq (.int .u32 b2), GEq (.int .u32 (IntKind.wrap .u32 ((IntKind.wrap .u32 ((IntKind.wrap .u32 ((IntKind.wrap .u32 (a6 + a7)) + (Xn .u32 a8 (Yc .u32 f (Xn .u32 a4 a5))))) + b0)) + b2))), GEq (.int .u32 (IntKind.wrap .u32 ((IntKind.wrap .u32 ((IntKind.wrap .u32 ((IntKind.wrap .u32 (a6 + a7)) + (Xn .u32 a8 (Yc .u32 f (Xn .u32 a4 a5))))) + b0)) + b2)))] [4] (tG [] w0 [Vp 149 (Qh .u32) g5 8 p1, Vp 135 (Qh .u32) g9 64 p3, Vp 149 (Qh .u32) s 8 (List.replicate 8 0), Vp 149 (Qh .u32) c 8 u, Vp 135 (Qh .u32) a9 64 a1] [([], []), ([4], [(.int .u32 a7)])]) 26 1 ⟨trivial, SP.drew i5⟩ ?_ ?_
     iterate 26 refine And.intro ?_ ?_
     exact trivial
     ·refine Owe.light K [0, 1] K (Ql ?_ (Ql ?_ Vu))
      ·rintro ρ' w' hs hah ⟨ak6, v6⟩
       refine kM (kc (kS hs 5 (pt c 0)) k0) fun hkn => ?_
       refine Qs (e := (Qh .u32)) (l := u) (m := 8) (g := c) (T := 149) (E := 111) (x := (.tmp 5)) (ix := (.const (.int .i64 (7)))) (ki := .i64) (iz := 7) (i := 3) (d := (some 28)) (k := 0) K rfl K K K K v6 rfl d5 d6 ?_
       exact ⟨rfl, _, Qb hkn, ⟨c, 0, rfl, rfl⟩⟩
      ·rintro ρ' w' hs hah ⟨⟨ak7, -⟩, v7⟩
       refine kM (kc (kS hs 5 (pt c 0)) k0) fun hkn => ?_
       refine Qs (e := (Qh .u32)) (l := u) (m := 8) (g := c) (T := 149) (E := 111) (x := (.tmp 5)) (ix := (.const (.int .i64 (7)))) (ki := .i64) (iz := 7) (i := 3) (d := (some 28)) (k := 0) K rfl K K K K v7 rfl d5 d6 ?_
       exact ⟨rfl, _, Qb hkn, ⟨c, 0, rfl, rfl⟩⟩
     ·refine Owe.light K [0, 1] K (Ql ?_ (Ql ?_ Vu))
      ·rintro ρ' w' hs hah ⟨ak8, v8⟩
       obtain ⟨v9, w1, w2, f6⟩ := hah 0 28 K
       refine kM (kc f6 k0) fun hkn => ?_
       refine sC 111 28 v9 (w1 + Int.toNat 7 * (Qh .u32).sz) (.int .u32 a6) 29 (Qw (e := (Qh .u32)) (Qp (Vr (SP.get v8 (i := 3) rfl)) w2 d5 d6) i6 (j := 0) rfl) ?_
       exact eK hkn
      ·rintro ρ' w' hs hah ⟨⟨ak9, -⟩, w3⟩
       obtain ⟨w4, w5, w7, f6⟩ := hah 0 28 K
       refine kM (kc f6 k0) fun hkn => ?_
       refine sC 111 28 w4 (w5 + Int.toNat 7 * (Qh .u32).sz) (.int .u32 a6) 29 (Qw (e := (Qh .u32)) (Qp (Vr (SP.get w3 (i := 3) rfl)) w7 d5 d6) i6 (j := 0) rfl) ?_
       exact eK hkn
     ·exact oV (hC (hS 11 (.int .u32 f)) (h0)) (.int .u32 f)
     ·exact Owe.run K [] trivial (.agg (Qa (Qh .i64) ([6, 11, 25] : List Int)).toArray) (fun _ _ => K) rfl
     ·refine oH 0 1 ?_
      ·rintro ρ' w' hs hah ⟨al0, w8⟩
       refine kM (kc (kA hah 2 30) (kc (kA hah 3 31) k0)) fun hkn => ?_
       refine cF 128 #[(.tmp 30), (.tmp 31), (.const (.bool false))] #[111, 168, 4] 32 Tryz.call128 (Yq  f ([6, 11, 25] : List Int) false w' rfl a7 v5) ?_
       rintro e al1 ⟨rfl, j2⟩
       refine ⟨_, rfl, ?_⟩
       have w9 := SP.call w8 j2
       clear j2
       refine ⟨_, Qb hkn, rfl, ?_⟩
       exact (And.intro (And.intro rfl (trivial)) (w9))
     ·exact oV (hC (hA 1 29) (hC (hA 4 32) (h0))) (.int .u32 (IntKind.wrap .u32 (a6 + a7)))
     ·refine Owe.light K [0, 1] K (Ql ?_ (Ql ?_ Vu))
      ·rintro ρ' w' hs hah ⟨al2, x0⟩
       refine kM (kc (kS hs 5 (pt c 0)) k0) fun hkn => ?_
       refine Qs (e := (Qh .u32)) (l := u) (m := 8) (g := c) (T := 149) (E := 111) (x := (.tmp 5)) (ix := (.const (.int .i64 (6)))) (ki := .i64) (iz := 6) (i := 3) (d := (some 34)) (k := 6) K rfl K K K K x0 rfl d7 d8 ?_
       exact ⟨rfl, _, Qb hkn, ⟨c, 0, rfl, rfl⟩⟩
      ·rintro ρ' w' hs hah ⟨⟨al3, -⟩, x1⟩
       refine kM (kc (kS hs 5 (pt c 0)) k0) fun hkn => ?_
       refine Qs (e := (Qh .u32)) (l := u) (m := 8) (g := c) (T := 149) (E := 111) (x := (.tmp 5)) (ix := (.const (.int .i64 (6)))) (ki := .i64) (iz := 6) (i := 3) (d := (some 34)) (k := 6) K rfl K K K K x1 rfl d7 d8 ?_
       exact ⟨rfl, _, Qb hkn, ⟨c, 0, rfl, rfl⟩⟩
     ·refine Owe.light K [0, 1] K (Ql ?_ (Ql ?_ Vu))
      ·rintro ρ' w' hs hah ⟨al4, x2⟩
       obtain ⟨x3, x4, x5, f7⟩ := hah 6 34 K
       refine kM (kc f7 k0) fun hkn => ?_
       refine sC 111 34 x3 (x4 + Int.toNat 6 * (Qh .u32).sz) (.int .u32 a8) 35 (Qw (e := (Qh .u32)) (Qp (Vr (SP.get x2 (i := 3) rfl)) x5 d7 d8) i7 (j := 0) rfl) ?_
       exact eK hkn
      ·rintro ρ' w' hs hah ⟨⟨al5, -⟩, x6⟩
       obtain ⟨x7, x8, x9, f7⟩ := hah 6 34 K
       refine kM (kc f7 k0) fun hkn => ?_
       refine sC 111 34 x7 (x8 + Int.toNat 6 * (Qh .u32).sz) (.int .u32 a8) 35 (Qw (e := (Qh .u32)) (Qp (Vr (SP.get x6 (i := 3) rfl)) x9 d7 d8) i7 (j := 0) rfl) ?_
       exact eK hkn
     ·exact oV (hC (hS 11 (.int .u32 f)) (h0)) (.int .u32 f)
     ·refine Owe.light K [0, 1] K (Ql ?_ (Ql ?_ Vu))
      ·rintro ρ' w' hs hah ⟨al6, y0⟩
       refine kM (kc (kS hs 5 (pt c 0)) k0) fun hkn => ?_
       refine Qs (e := (Qh .u32)) (l := u) (m := 8) (g := c) (T := 149) (E := 111) (x := (.tmp 5)) (ix := (.const (.int .i64 (5)))) (ki := .i64) (iz := 5) (i := 3) (d := (some 37)) (k := 9) K rfl K K K K y0 rfl d9 e0 ?_
       exact ⟨rfl, _, Qb hkn, ⟨c, 0, rfl, rfl⟩⟩
      ·rintro ρ' w' hs hah ⟨⟨al7, -⟩, y1⟩
       refine kM (kc (kS hs 5 (pt c 0)) k0) fun hkn => ?_
       refine Qs (e := (Qh .u32)) (l := u) (m := 8) (g := c) (T := 149) (E := 111) (x := (.tmp 5)) (ix := (.const (.int .i64 (5)))) (ki := .i64) (iz := 5) (i := 3) (d := (some 37)) (k := 9) K rfl K K K K y1 rfl d9 e0 ?_
       exact ⟨rfl, _, Qb hkn, ⟨c, 0, rfl, rfl⟩⟩
     ·refine Owe.light K [0, 1] K (Ql ?_ (Ql ?_ Vu))
      ·rintro ρ' w' hs hah ⟨al8, y2⟩
       obtain ⟨y3, y4, y5, f8⟩ := hah 9 37 K
       refine kM (kc f8 k0) fun hkn => ?_
       refine sC 111 37 y3 (y4 + Int.toNat 5 * (Qh .u32).sz) (.int .u32 a4) 38 (Qw (e := (Qh .u32)) (Qp (Vr (SP.get y2 (i := 3) rfl)) y5 d9 e0) i8 (j := 0) rfl) ?_
       exact eK hkn
      ·rintro ρ' w' hs hah ⟨⟨al9, -⟩, y6⟩
       obtain ⟨y7, y8, y9, f8⟩ := hah 9 37 K
       refine kM (kc f8 k0) fun hkn => ?_
       refine sC 111 37 y7 (y8 + Int.toNat 5 * (Qh .u32).sz) (.int .u32 a4) 38 (Qw (e := (Qh .u32)) (Qp (Vr (SP.get y6 (i := 3) rfl)) y9 d9 e0) i8 (j := 0) rfl) ?_
       exact eK hkn
     ·refine Owe.light K [0, 1] K (Ql ?_ (Ql ?_ Vu))
      ·rintro ρ' w' hs hah ⟨am0, z0⟩
       refine kM (kc (kS hs 5 (pt c 0)) k0) fun hkn => ?_
       refine Qs (e := (Qh .u32)) (l := u) (m := 8) (g := c) (T := 149) (E := 111) (x := (.tmp 5)) (ix := (.const (.int .i64 (6)))) (ki := .i64) (iz := 6) (i := 3) (d := (some 39)) (k := 11) K rfl K K K K z0 rfl e1 e2 ?_
       exact ⟨rfl, _, Qb hkn, ⟨c, 0, rfl, rfl⟩⟩
      ·rintro ρ' w' hs hah ⟨⟨am1, -⟩, z1⟩
       refine kM (kc (kS hs 5 (pt c 0)) k0) fun hkn => ?_
       refine Qs (e := (Qh .u32)) (l := u) (m := 8) (g := c) (T := 149) (E := 111) (x := (.tmp 5)) (ix := (.const (.int .i64 (6)))) (ki := .i64) (iz := 6) (i := 3) (d := (some 39)) (k := 11) K rfl K K K K z1 rfl e1 e2 ?_
       exact ⟨rfl, _, Qb hkn, ⟨c, 0, rfl, rfl⟩⟩
     ·refine Owe.light K [0, 1] K (Ql ?_ (Ql ?_ Vu))
      ·rintro ρ' w' hs hah ⟨am2, z2⟩
       obtain ⟨z3, z4, z5, f9⟩ := hah 11 39 K
       refine kM (kc f9 k0) fun hkn => ?_
       refine sC 111 39 z3 (z4 + Int.toNat 6 * (Qh .u32).sz) (.int .u32 a5) 40 (Qw (e := (Qh .u32)) (Qp (Vr (SP.get z2 (i := 3) rfl)) z5 e1 e2) i9 (j := 0) rfl) ?_
       exact eK hkn
      ·rintro ρ' w' hs hah ⟨⟨am3, -⟩, z6⟩
       obtain ⟨z7, z8, z9, f9⟩ := hah 11 39 K
       refine kM (kc f9 k0) fun hkn => ?_
       refine sC 111 39 z7 (z8 + Int.toNat 6 * (Qh .u32).sz) (.int .u32 a5) 40 (Qw (e := (Qh .u32)) (Qp (Vr (SP.get z6 (i := 3) rfl)) z9 e1 e2) i9 (j := 0) rfl) ?_
       exact eK hkn
     ·exact oV (hC (hA 10 38) (hC (hA 12 40) (h0))) (.int .u32 (Xn .u32 a4 a5))
     ·exact oV (hC (hA 8 36) (hC (hA 13 41) (h0))) (.int .u32 (Yc .u32 f (Xn .u32 a4 a5)))
     ·exact oV (hC (hA 7 35) (hC (hA 14 42) (h0))) (.int .u32 (Xn .u32 a8 (Yc .u32 f (Xn .u32 a4 a5))))
     ·exact oV (hC (hA 5 33) (hC (hA 15 43) (h0))) (.int .u32 (IntKind.wrap .u32 ((IntKind.wrap .u32 (a6 + a7)) + (Xn .u32 a8 (Yc .u32 f (Xn .u32 a4 a5))))))
     ·exact oV (hC (hS 7 (.int .i64 p)) (h0)) (.int .i64 p)
     ·refine Owe.light K [0, 1] K (Ql ?_ (Ql ?_ Vu))
      ·rintro ρ' w' hs hah ⟨am4, aa0⟩
       refine kM (kc (kS hs 6 (pt a9 0)) (kc (kA hah 17 45) k0)) fun hkn => ?_
       refine Qs (e := (Qh .u32)) (l := a1) (m := 64) (g := a9) (T := 135) (E := 111) (x := (.tmp 6)) (ix := (.tmp 45)) (ki := .i64) (iz := p) (i := 4) (d := (some 46)) (k := 18) K rfl K K K K aa0 rfl e3 e4 ?_
       exact ⟨rfl, _, Qb hkn, ⟨a9, 0, rfl, rfl⟩⟩
      ·rintro ρ' w' hs hah ⟨⟨am5, -⟩, aa1⟩
       refine kM (kc (kS hs 6 (pt a9 0)) (kc (kA hah 17 45) k0)) fun hkn => ?_
       refine Qs (e := (Qh .u32)) (l := a1) (m := 64) (g := a9) (T := 135) (E := 111) (x := (.tmp 6)) (ix := (.tmp 45)) (ki := .i64) (iz := p) (i := 4) (d := (some 46)) (k := 18) K rfl K K K K aa1 rfl e3 e4 ?_
       exact ⟨rfl, _, Qb hkn, ⟨a9, 0, rfl, rfl⟩⟩
     ·refine Owe.light K [0, 1] K (Ql ?_ (Ql ?_ Vu))
      ·rintro ρ' w' hs hah ⟨am6, aa2⟩
       obtain ⟨aa3, aa4, aa5, g0⟩ := hah 18 46 K
       refine kM (kc g0 k0) fun hkn => ?_
       refine sC 111 46 aa3 (aa4 + Int.toNat p * (Qh .u32).sz) (.int .u32 b0) 47 (Qw (e := (Qh .u32)) (Qp (Vr (SP.get aa2 (i := 4) rfl)) aa5 e3 e4) j0 (j := 0) rfl) ?_
       exact eK hkn
      ·rintro ρ' w' hs hah ⟨⟨am7, -⟩, aa6⟩
       obtain ⟨aa7, aa8, aa9, g0⟩ := hah 18 46 K
       refine kM (kc g0 k0) fun hkn => ?_
       refine sC 111 46 aa7 (aa8 + Int.toNat p * (Qh .u32).sz) (.int .u32 b0) 47 (Qw (e := (Qh .u32)) (Qp (Vr (SP.get aa6 (i := 4) rfl)) aa9 e3 e4) j0 (j := 0) rfl) ?_
       exact eK hkn
     ·exact oV (hC (hA 16 44) (hC (hA 19 47) (h0))) (.int .u32 (IntKind.wrap .u32 ((IntKind.wrap .u32 ((IntKind.wrap .u32 (a6 + a7)) + (Xn .u32 a8 (Yc .u32 f (Xn .u32 a4 a5))))) + b0)))
     ·exact oV (hC (hS 7 (.int .i64 p)) (h0)) (.int .i64 p)
     ·refine Owe.light K [0, 1] K (Ql ?_ (Ql ?_ Vu))
      ·rintro ρ' w' hs hah ⟨am8, ab0⟩
       refine kM (kc (kS hs 3 (pt g9 0)) (kc (kA hah 21 49) k0)) fun hkn => ?_
       refine Qs (e := (Qh .u32)) (l := p3) (m := 64) (g := g9) (T := 135) (E := 111) (x := (.tmp 3)) (ix := (.tmp 49)) (ki := .i64) (iz := p) (i := 1) (d := (some 50)) (k := 22) K rfl K K K K ab0 rfl e5 e6 ?_
       exact ⟨rfl, _, Qb hkn, ⟨g9, 0, rfl, rfl⟩⟩
      ·rintro ρ' w' hs hah ⟨⟨am9, -⟩, ab1⟩
       refine kM (kc (kS hs 3 (pt g9 0)) (kc (kA hah 21 49) k0)) fun hkn => ?_
       refine Qs (e := (Qh .u32)) (l := p3) (m := 64) (g := g9) (T := 135) (E := 111) (x := (.tmp 3)) (ix := (.tmp 49)) (ki := .i64) (iz := p) (i := 1) (d := (some 50)) (k := 22) K rfl K K K K ab1 rfl e5 e6 ?_
       exact ⟨rfl, _, Qb hkn, ⟨g9, 0, rfl, rfl⟩⟩
     ·refine Owe.light K [0, 1] K (Ql ?_ (Ql ?_ Vu))
      ·rintro ρ' w' hs hah ⟨an0, ab2⟩
       obtain ⟨ab3, ab4, ab5, g1⟩ := hah 22 50 K
       refine kM (kc g1 k0) fun hkn => ?_
       refine sC 111 50 ab3 (ab4 + Int.toNat p * (Qh .u32).sz) (.int .u32 b2) 51 (Qw (e := (Qh .u32)) (Qp (Vr (SP.get ab2 (i := 1) rfl)) ab5 e5 e6) j1 (j := 0) rfl) ?_
       exact eK hkn
      ·rintro ρ' w' hs hah ⟨⟨an1, -⟩, ab6⟩
       obtain ⟨ab7, ab8, ab9, g1⟩ := hah 22 50 K
       refine kM (kc g1 k0) fun hkn => ?_
       refine sC 111 50 ab7 (ab8 + Int.toNat p * (Qh .u32).sz) (.int .u32 b2) 51 (Qw (e := (Qh .u32)) (Qp (Vr (SP.get ab6 (i := 1) rfl)) ab9 e5 e6) j1 (j := 0) rfl) ?_
       exact eK hkn
     ·exact oV (hC (hA 20 48) (hC (hA 23 51) (h0))) (.int .u32 (IntKind.wrap .u32 ((IntKind.wrap .u32 ((IntKind.wrap .u32 ((IntKind.wrap .u32 (a6 + a7)) + (Xn .u32 a8 (Yc .u32 f (Xn .u32 a4 a5))))) + b0)) + b2)))
     ·exact oV (hC (hA 24 52) (h0)) (.int .u32 (IntKind.wrap .u32 ((IntKind.wrap .u32 ((IntKind.wrap .u32 ((IntKind.wrap .u32 (a6 + a7)) + (Xn .u32 a8 (Yc .u32 f (Xn .u32 a4 a5))))) + b0)) + b2)))
     ·rintro ρ' w' hs hf ⟨⟨an2, -⟩, j3⟩
      refine Vj [(2, (pt g5 0)), (3, (pt g9 0)), (4, (pt s 0)), (5, (pt c 0)), (6, (pt a9 0)), (8, (.int .u32 b1)), (9, (.int .u32 a2)), (10, (.int .u32 a3)), (12, (.int .u32 (IntKind.wrap .u32 ((IntKind.wrap .u32 ((IntKind.wrap .u32 ((IntKind.wrap .u32 (a6 + a7)) + (Xn .u32 a8 (Yc .u32 f (Xn .u32 a4 a5))))) + b0)) + b2)))), (17, (.int .i64 p))] ⟨(hs 2 K).trans K, (hs 3 K).trans K, (hs 4 K).trans K, (hs 5 K).trans K, (hs 6 K).trans K, (hs 8 K).trans K, (hs 9 K).trans K, (hs 10 K).trans K, hf 25 12 K, (hs 17 K).trans K, trivial⟩ ?_
      obtain ⟨ac0, ac1⟩ : ∃ x, w' = x := ⟨_, rfl⟩
      rw [ac1] at j3 ⊢
      refine aQ ?_
      refine aR ?_
      refine iR 2 2 [(53, (.int .u32 b1)), (54, (.agg (Qa (Qh .i64) ([2, 13, 22] : List Int)).toArray))] ?_
      obtain ⟨b4, ac2, H⟩ := Qc H
      refine iS 3 ?_
      refine cF 128 #[(.tmp 53), (.tmp 54), (.const (.bool false))] #[111, 168, 4] 55 Tryz.call128 (Yq  b1 ([2, 13, 22] : List Int) false ac0 rfl b4 ac2) ?_
      rintro e an3 ⟨rfl, j4⟩
      refine ⟨_, rfl, ?_⟩
      have ac3 := SP.call j3 j4
      clear j4
      refine iR 11 14 [(56, (.int .u32 b1)), (57, (.int .u32 a2)), (58, (.int .u32 a3)), (59, (.int .u32 (bOr .u32 a2 a3))), (60, (.int .u32 (Yc .u32 b1 (bOr .u32 a2 a3)))), (61, (.int .u32 a2)), (62, (.int .u32 a3)), (63, (.int .u32 (Yc .u32 a2 a3))), (64, (.int .u32 (bOr .u32 (Yc .u32 b1 (bOr .u32 a2 a3)) (Yc .u32 a2 a3)))), (65, (.int .u32 (IntKind.wrap .u32 (b4 + (bOr .u32 (Yc .u32 b1 (bOr .u32 a2 a3)) (Yc .u32 a2 a3)))))), (13, (.int .u32 (IntKind.wrap .u32 (b4 + (bOr .u32 (Yc .u32 b1 (bOr .u32 a2 a3)) (Yc .u32 a2 a3))))))] ?_
      refine iF ?_
      refine aQ ?_
      obtain ⟨e7, e8, e9, H⟩ := U8 H
      obtain ⟨d0, hyl1878⟩ : ∃ y, (List.drop (Int.toNat 1) (List.take (Int.toNat ((List.length u : Nat) : Int)) u)) = y := ⟨_, rfl⟩
      rw [hyl1878] at H
      obtain ⟨j5, j6, j7, H⟩ := U8 H
      obtain ⟨d1, hyl1882⟩ : ∃ y, (List.drop (Int.toNat 0) (List.take (Int.toNat 7) u)) = y := ⟨_, rfl⟩
      rw [hyl1882] at H
      obtain ⟨b5, hyl1883, H⟩ := V5 H
      have hnl1883 : List.length b5 = List.length u := by rw [← hyl1883]; exact G5 (cut_dl e7 e8 e9 hyl1878)
      refine aG [GEq (.slice (Do (Qh .u32).sz 8 (Int.toNat 1) (some ⟨c, 0, none⟩)) (List.length d0) (8 - Int.toNat 1)), GEq (.slice (Do (Qh .u32).sz 8 (Int.toNat 0) (some ⟨c, 0, none⟩)) (List.length d1) (8 - Int.toNat 0)), GEq (.int .i64 (min ((List.length d1 : Nat) : Int) (((List.length d0) : Nat) : Int)))] [2] [sG [] [] [] w0 [Vp 149 (Qh .u32) g5 8 p1, Vp 135 (Qh .u32) g9 64 p3, Vp 149 (Qh .u32) s 8 (List.replicate 8 0), Vp 149 (Qh .u32) c 8 u, Vp 135 (Qh .u32) a9 64 a1], sG [2] [(.int .i64 (min ((List.length d1 : Nat) : Int) (((List.length d0) : Nat) : Int)))] [] w0 [Vp 149 (Qh .u32) g5 8 p1, Vp 135 (Qh .u32) g9 64 p3, Vp 149 (Qh .u32) s 8 (List.replicate 8 0), Vp 149 (Qh .u32) c 8 b5, Vp 135 (Qh .u32) a9 64 a1]] 3 1 ⟨trivial, SP.drew ac3⟩ ?_ ?_
      iterate 3 refine And.intro ?_ ?_
      exact trivial
      ·refine oL 0 ?_
       ·rintro ρ' w' hs hah ⟨an4, ac4⟩
        refine kM (kc (kS hs 5 (pt c 0)) k0) fun hkn => ?_
        refine N8 (e := (Qh .u32)) (l := u) (l' := d0) (m := 8) (g := c) (T := 149) (E := 111) (x := (.tmp 5)) (lo := (some (.const (.int .i64 (1))))) (hi := none) (i := 1) (j := ((List.length u : Nat) : Int)) (q := 3) (d := (some 66)) (k := 0) K rfl K K K ⟨.i64, K⟩ rfl ac4 rfl e7 e8 e9 hyl1878 ?_
        exact eK hkn
      ·refine oL 0 ?_
       ·rintro ρ' w' hs hah ⟨an5, ac5⟩
        refine kM (kc (kS hs 5 (pt c 0)) k0) fun hkn => ?_
        refine N8 (e := (Qh .u32)) (l := u) (l' := d1) (m := 8) (g := c) (T := 149) (E := 111) (x := (.tmp 5)) (lo := none) (hi := (some (.const (.int .i64 (7))))) (i := 0) (j := 7) (q := 3) (d := (some 67)) (k := 1) K rfl K K K rfl ⟨.i64, K⟩ ac5 rfl j5 j6 j7 hyl1882 ?_
        exact eK hkn
      ·refine oH 0 1 ?_
       ·rintro ρ' w' hs hah ⟨an6, g2⟩
        refine kM (kc (kA hah 0 66) (kc (kA hah 1 67) k0)) fun hkn => ?_
        refine Dk (e := (Qh .u32)) (l := u) (y' := d1) (l' := b5) (m := 8) (g := c) (lo := (Int.toNat 1)) (dl := (List.length d0)) (T := 169) (T2 := 169) (E := 111) (x := (.tmp 66)) (y := (.tmp 67)) (i := 3) (A := (Do (Qh .u32).sz 8 (Int.toNat 1) (some ⟨c, 0, none⟩))) (dc := (8 - Int.toNat 1)) (A2 := (Do (Qh .u32).sz 8 (Int.toNat 0) (some ⟨c, 0, none⟩))) (c2 := (8 - Int.toNat 0)) (d := (some 68)) (k := 2) K rfl K K K K rfl g2 rfl (cut_hA (e := (Qh .u32)) (Vm (SP.get g2 (i := 3) rfl)) e7 e8 e9 hyl1878) (cut_dl e7 e8 e9 hyl1878) ((Cc j5 j6 j7 hyl1882) w' (Vr (SP.get g2 (i := 3) rfl))) hyl1883 ?_
        intro ac6 j8 _
        have ac7 : SP [] w0 ac6 [Vp 149 (Qh .u32) g5 8 p1, Vp 135 (Qh .u32) g9 64 p3, Vp 149 (Qh .u32) s 8 (List.replicate 8 0), Vp 149 (Qh .u32) c 8 b5, Vp 135 (Qh .u32) a9 64 a1] := j8
        clear j8
        refine ⟨_, Qb hkn, rfl, ?_⟩
        exact (And.intro (And.intro rfl (trivial)) (ac7))
      ·rintro ρ' w' hs hf ⟨⟨an7, -⟩, d2⟩
       refine Vj [(2, (pt g5 0)), (3, (pt g9 0)), (4, (pt s 0)), (5, (pt c 0)), (6, (pt a9 0)), (12, (.int .u32 (IntKind.wrap .u32 ((IntKind.wrap .u32 ((IntKind.wrap .u32 ((IntKind.wrap .u32 (a6 + a7)) + (Xn .u32 a8 (Yc .u32 f (Xn .u32 a4 a5))))) + b0)) + b2)))), (13, (.int .u32 (IntKind.wrap .u32 (b4 + (bOr .u32 (Yc .u32 b1 (bOr .u32 a2 a3)) (Yc .u32 a2 a3)))))), (17, (.int .i64 p))] ⟨(hs 2 K).trans K, (hs 3 K).trans K, (hs 4 K).trans K, (hs 5 K).trans K, (hs 6 K).trans K, (hs 12 K).trans K, (hs 13 K).trans K, (hs 17 K).trans K, trivial⟩ ?_
       obtain ⟨an8, ac8⟩ : ∃ x, w' = x := ⟨_, rfl⟩
       rw [ac8] at d2 ⊢
       refine aR ?_
       refine iR 3 3 [(69, (.int .u32 (IntKind.wrap .u32 ((IntKind.wrap .u32 ((IntKind.wrap .u32 ((IntKind.wrap .u32 (a6 + a7)) + (Xn .u32 a8 (Yc .u32 f (Xn .u32 a4 a5))))) + b0)) + b2)))), (70, (.int .u32 (IntKind.wrap .u32 (b4 + (bOr .u32 (Yc .u32 b1 (bOr .u32 a2 a3)) (Yc .u32 a2 a3)))))), (71, (.int .u32 (IntKind.wrap .u32 ((IntKind.wrap .u32 ((IntKind.wrap .u32 ((IntKind.wrap .u32 ((IntKind.wrap .u32 (a6 + a7)) + (Xn .u32 a8 (Yc .u32 f (Xn .u32 a4 a5))))) + b0)) + b2)) + (IntKind.wrap .u32 (b4 + (bOr .u32 (Yc .u32 b1 (bOr .u32 a2 a3)) (Yc .u32 a2 a3))))))))] ?_
       obtain ⟨f0, j9, k1, ac9, H⟩ := Qy H
       refine iS 4 ?_
       refine Qs (e := (Qh .u32)) (l := b5) (m := 8) (g := c) (T := 149) (E := 111) (x := (.tmp 5)) (ix := (.const (.int .i64 (4)))) (ki := .i64) (iz := 4) (i := 3) (d := (some 72)) (k := 3) K rfl K K K K d2 rfl j9 k1 ?_
       refine iS 5 ?_
       refine sC 111 72 c (0 + Int.toNat 4 * (Qh .u32).sz) (.int .u32 f0) 73 (Qw (e := (Qh .u32)) (Qp (Vr (SP.get d2 (i := 3) rfl)) rfl j9 k1) ac9 (j := 0) rfl) ?_
       refine iR 2 7 [(74, (.int .u32 (IntKind.wrap .u32 ((IntKind.wrap .u32 ((IntKind.wrap .u32 ((IntKind.wrap .u32 (a6 + a7)) + (Xn .u32 a8 (Yc .u32 f (Xn .u32 a4 a5))))) + b0)) + b2)))), (75, (.int .u32 (IntKind.wrap .u32 (f0 + (IntKind.wrap .u32 ((IntKind.wrap .u32 ((IntKind.wrap .u32 ((IntKind.wrap .u32 (a6 + a7)) + (Xn .u32 a8 (Yc .u32 f (Xn .u32 a4 a5))))) + b0)) + b2))))))] ?_
       obtain ⟨an9, k2, k3, ao0, H⟩ := Qy H
       refine iS 8 ?_
       refine Qs (e := (Qh .u32)) (l := b5) (m := 8) (g := c) (T := 149) (E := 111) (x := (.tmp 5)) (ix := (.const (.int .i64 (0)))) (ki := .i64) (iz := 0) (i := 3) (d := (some 76)) (k := 7) K rfl K K K K d2 rfl k2 k3 ?_
       obtain ⟨f1, hyl1912, H⟩ := V5 H
       have hnl1912 : List.length f1 = List.length b5 := by rw [← hyl1912, List.length_set]
       refine iS 9 ?_
       refine Zp (e := (Qh .u32)) (t := 111) (x := (.tmp 76)) (y := (.tmp 71)) (l := b5) (iz := 0) (m := 8) (g := c) (b := c) (off := 0) (i := 3) (v := (.int .u32 (IntKind.wrap .u32 ((IntKind.wrap .u32 ((IntKind.wrap .u32 ((IntKind.wrap .u32 ((IntKind.wrap .u32 (a6 + a7)) + (Xn .u32 a8 (Yc .u32 f (Xn .u32 a4 a5))))) + b0)) + b2)) + (IntKind.wrap .u32 (b4 + (bOr .u32 (Yc .u32 b1 (bOr .u32 a2 a3)) (Yc .u32 a2 a3)))))))) (x' := (IntKind.wrap .u32 ((IntKind.wrap .u32 ((IntKind.wrap .u32 ((IntKind.wrap .u32 ((IntKind.wrap .u32 (a6 + a7)) + (Xn .u32 a8 (Yc .u32 f (Xn .u32 a4 a5))))) + b0)) + b2)) + (IntKind.wrap .u32 (b4 + (bOr .u32 (Yc .u32 b1 (bOr .u32 a2 a3)) (Yc .u32 a2 a3))))))) (d := none) (k := 8) K rfl rfl K K d2 rfl rfl k3 k2 rfl K ?_
       rw [hyl1912]
       intro ao1 k4
       refine In.known [] trivial ?_
       obtain ⟨ao2, k5, k6, ao3, H⟩ := Qy H
       refine iS 10 ?_
       refine Qs (e := (Qh .u32)) (l := f1) (m := 8) (g := c) (T := 149) (E := 111) (x := (.tmp 5)) (ix := (.const (.int .i64 (4)))) (ki := .i64) (iz := 4) (i := 3) (d := (some 77)) (k := 9) K rfl K K K K k4 rfl k5 k6 ?_
       obtain ⟨k7, hyl1920, H⟩ := V5 H
       have hnl1920 : List.length k7 = List.length f1 := by rw [← hyl1920, List.length_set]
       refine iS 11 ?_
       refine Zp (e := (Qh .u32)) (t := 111) (x := (.tmp 77)) (y := (.tmp 75)) (l := f1) (iz := 4) (m := 8) (g := c) (b := c) (off := 0) (i := 3) (v := (.int .u32 (IntKind.wrap .u32 (f0 + (IntKind.wrap .u32 ((IntKind.wrap .u32 ((IntKind.wrap .u32 ((IntKind.wrap .u32 (a6 + a7)) + (Xn .u32 a8 (Yc .u32 f (Xn .u32 a4 a5))))) + b0)) + b2)))))) (x' := (IntKind.wrap .u32 (f0 + (IntKind.wrap .u32 ((IntKind.wrap .u32 ((IntKind.wrap .u32 ((IntKind.wrap .u32 (a6 + a7)) + (Xn .u32 a8 (Yc .u32 f (Xn .u32 a4 a5))))) + b0)) + b2))))) (d := none) (k := 10) K rfl rfl K K k4 rfl rfl k6 k5 rfl K ?_
       rw [hyl1920]
       intro ao4 ad0
       refine In.known [] trivial ?_
       refine iF ?_
       refine aR ?_
       refine iR 2 2 [(78, (.int .i64 (IntKind.wrap .i64 (p + 1)))), (17, (.int .i64 (IntKind.wrap .i64 (p + 1))))] ?_
       refine iF ?_
       exact ⟨k7, (IntKind.wrap .i64 (p + 1)), ⟨K, K, K, K, K, K, trivial⟩, SP.sel ad0 [0, 1, 2, 3, 4] rfl rfl, H⟩
   ·have H := cf H f3
    refine At.exit K (id := 0) K ?_
    refine aQ ?_
    refine aQ ?_
    refine aR ?_
    refine iR 1 1 [(79, (.int .i64 0))] ?_
    refine iF ?_
    refine X8 K (id := 2) K ?_
    refine Ne K (fun f5 ρ w => ∃ (b3 : (List Int)) (a0 : Int), Zg ρ [(2, (pt g5 0)), (4, (pt s 0)), (5, (pt c 0)), (79, (.int .i64 a0))] ∧ SP [] w0 w [Vp 149 (Qh .u32) g5 8 p1, Vp 149 (Qh .u32) s 8 (List.replicate 8 0), Vp 149 (Qh .u32) c 8 b3] ∧ Zk (Q4 p1 p3 a1 f4) p1 f5 b3 a0 = some r) (by rintro ρ w ⟨b3, a0, hk, hs, H⟩; cases H) ?_ Zw ?_
    ·rintro f5 ρ ao5 ⟨b3, a0, hk, c1, H⟩
     refine At.known [(2, (pt g5 0)), (4, (pt s 0)), (5, (pt c 0)), (79, (.int .i64 a0))] hk ?_
     replace H := (show Yj (Q4 p1 p3 a1 f4) (Zk (Q4 p1 p3 a1 f4) p1 f5) p1 b3 a0 = some r from H)
     unfold Yj at H
     have ao6 := Vm (SP.get c1 (i := 0) rfl)
     have ao7 := Vm (SP.get c1 (i := 1) rfl)
     have ad1 := Vm (SP.get c1 (i := 2) rfl)
     refine aQ ?_
     refine aR ?_
     refine iR 1 1 [(80, (.bool (decide (a0 < 8))))] ?_
     refine iF ?_
     refine aQ ?_
     refine Zu K (o := (.tmp 80)) K (b := (decide (a0 < 8))) K (fun g3 => ?_) (fun g3 => ?_)
     ·have H := ct H g3
      refine At.skip K ?_
      refine aQ ?_
      refine X8 K (id := 3) K ?_
      refine aQ ?_
      refine aR ?_
      refine iR 2 2 [(81, (.int .i64 a0)), (14, (.int .i64 a0))] ?_
      refine iF ?_
      obtain ⟨c3, k8, k9, ad2, H⟩ := Qy H
      obtain ⟨c4, l0, l1, ad3, H⟩ := Qy H
      obtain ⟨ao8, l2, l3, ao9, H⟩ := Qy H
      obtain ⟨g4, hyl2109, H⟩ := V5 H
      have hnl2109 : List.length g4 = List.length b3 := by rw [← hyl2109, List.length_set]
      refine aG [GEq (.int .i64 a0), Xt (some ⟨c, 0, none⟩) (Qh .u32).sz a0, GEq (.int .u32 c3), GEq (.int .i64 a0), Xt (some ⟨g5, 0, none⟩) (Qh .u32).sz a0, GEq (.int .u32 c4), GEq (.int .u32 (IntKind.wrap .u32 (c3 + c4))), Xt (some ⟨c, 0, none⟩) (Qh .u32).sz a0, C3] [8] [sG [] [] [] w0 [Vp 149 (Qh .u32) g5 8 p1, Vp 149 (Qh .u32) s 8 (List.replicate 8 0), Vp 149 (Qh .u32) c 8 b3], sG [8] [undef] [] w0 [Vp 149 (Qh .u32) g5 8 p1, Vp 149 (Qh .u32) s 8 (List.replicate 8 0), Vp 149 (Qh .u32) c 8 g4]] 9 1 ⟨trivial, SP.drew c1⟩ ?_ ?_
      iterate 9 refine And.intro ?_ ?_
      exact trivial
      ·exact oV (hC (hS 14 (.int .i64 a0)) (h0)) (.int .i64 a0)
      ·refine oL 0 ?_
       ·rintro ρ' w' hs hah ⟨ap0, ad4⟩
        refine kM (kc (kS hs 5 (pt c 0)) (kc (kA hah 0 82) k0)) fun hkn => ?_
        refine Qs (e := (Qh .u32)) (l := b3) (m := 8) (g := c) (T := 149) (E := 111) (x := (.tmp 5)) (ix := (.tmp 82)) (ki := .i64) (iz := a0) (i := 2) (d := (some 83)) (k := 1) K rfl K K K K ad4 rfl k8 k9 ?_
        exact ⟨rfl, _, Qb hkn, ⟨c, 0, rfl, rfl⟩⟩
      ·refine oL 0 ?_
       ·rintro ρ' w' hs hah ⟨ap1, ad5⟩
        obtain ⟨ad6, ad7, ad8, e83⟩ := hah 1 83 K
        refine kM (kc e83 k0) fun hkn => ?_
        refine sC 111 83 ad6 (ad7 + Int.toNat a0 * (Qh .u32).sz) (.int .u32 c3) 84 (Qw (e := (Qh .u32)) (Qp (Vr (SP.get ad5 (i := 2) rfl)) ad8 k8 k9) ad2 (j := 0) rfl) ?_
        exact eK hkn
      ·exact oV (hC (hS 14 (.int .i64 a0)) (h0)) (.int .i64 a0)
      ·refine oL 0 ?_
       ·rintro ρ' w' hs hah ⟨ap2, ae0⟩
        refine kM (kc (kS hs 2 (pt g5 0)) (kc (kA hah 3 85) k0)) fun hkn => ?_
        refine Qs (e := (Qh .u32)) (l := p1) (m := 8) (g := g5) (T := 149) (E := 111) (x := (.tmp 2)) (ix := (.tmp 85)) (ki := .i64) (iz := a0) (i := 0) (d := (some 86)) (k := 4) K rfl K K K K ae0 rfl l0 l1 ?_
        exact ⟨rfl, _, Qb hkn, ⟨g5, 0, rfl, rfl⟩⟩
      ·refine oL 0 ?_
       ·rintro ρ' w' hs hah ⟨ap3, ae1⟩
        obtain ⟨ae2, ae3, ae4, e86⟩ := hah 4 86 K
        refine kM (kc e86 k0) fun hkn => ?_
        refine sC 111 86 ae2 (ae3 + Int.toNat a0 * (Qh .u32).sz) (.int .u32 c4) 87 (Qw (e := (Qh .u32)) (Qp (Vr (SP.get ae1 (i := 0) rfl)) ae4 l0 l1) ad3 (j := 0) rfl) ?_
        exact eK hkn
      ·exact oV (hC (hA 2 84) (hC (hA 5 87) (h0))) (.int .u32 (IntKind.wrap .u32 (c3 + c4)))
      ·refine oL 0 ?_
       ·rintro ρ' w' hs hah ⟨ap4, ae6⟩
        refine kM (kc (kS hs 5 (pt c 0)) (kc (kA hah 0 82) k0)) fun hkn => ?_
        refine Qs (e := (Qh .u32)) (l := b3) (m := 8) (g := c) (T := 149) (E := 111) (x := (.tmp 5)) (ix := (.tmp 82)) (ki := .i64) (iz := a0) (i := 2) (d := (some 89)) (k := 7) K rfl K K K K ae6 rfl l2 l3 ?_
        exact ⟨rfl, _, Qb hkn, ⟨c, 0, rfl, rfl⟩⟩
      ·refine oH 0 1 ?_
       ·rintro ρ' w' hs hah ⟨ap5, ae7⟩
        obtain ⟨ae8, ae9, af0, e89⟩ := hah 7 89 K
        refine kM (kc e89 (kc (kA hah 6 88) k0)) fun hkn => ?_
        refine Zp (e := (Qh .u32)) (t := 111) (x := (.tmp 89)) (y := (.tmp 88)) (l := b3) (iz := a0) (m := 8) (g := c) (b := ae8) (off := ae9) (i := 2) (v := (.int .u32 (IntKind.wrap .u32 (c3 + c4)))) (x' := (IntKind.wrap .u32 (c3 + c4))) (d := none) (k := 8) K rfl af0 K K ae7 rfl rfl l3 l2 rfl K ?_
        rw [hyl2109]
        intro ap6 af2
        refine ⟨_, Qb hkn, trivial, ?_⟩
        exact (And.intro (And.intro rfl (trivial)) (af2))
      ·rintro ρ' w' hs hf ⟨⟨ap7, -⟩, l4⟩
       refine Vj [(2, (pt g5 0)), (4, (pt s 0)), (5, (pt c 0)), (79, (.int .i64 a0))] ⟨(hs 2 K).trans K, (hs 4 K).trans K, (hs 5 K).trans K, (hs 79 K).trans K, trivial⟩ ?_
       obtain ⟨ap8, af3⟩ : ∃ x, w' = x := ⟨_, rfl⟩
       rw [af3] at l4 ⊢
       refine aR ?_
       refine iR 2 2 [(90, (.int .i64 (IntKind.wrap .i64 (a0 + 1)))), (79, (.int .i64 (IntKind.wrap .i64 (a0 + 1))))] ?_
       refine iF ?_
       exact ⟨g4, (IntKind.wrap .i64 (a0 + 1)), ⟨K, K, K, K, trivial⟩, SP.sel l4 [0, 1, 2] rfl rfl, H⟩
     ·have H := cf H g3
      refine At.exit K (id := 2) K ?_
      refine aQ ?_
      refine aR ?_
      refine iS 1 ?_
      refine Zd (e := (Qh .u32)) (l := b3) (m := 8) (t := 149) (x := (.tmp 5)) (g := c) (i := 2) (d := (some 91)) (k := 0) K rfl K c1 rfl K K ?_
      refine iS 2 ?_
      refine V6 (e := (Qh .u32)) (l := (List.replicate 8 0)) (l' := b3) (m := 8) (t := 149) (x := (.tmp 4)) (y := (.tmp 91)) (g := s) (i := 1) (d := none) (k := 1) K rfl K K ad1 c1 rfl K ?_
      intro ap9 l5
      refine iF ?_
      refine At.ret K ?_
      refine ⟨(.agg (Qa (Qh .u32) b3).toArray), Rf K (Nb (e := (Qh .u32)) (l := b3) (a := 4) (t := 149) K (SP.get l5 (i := 1) rfl) K K), ?_⟩
      obtain rfl := Qf H
      exact ⟨rfl, SP.sel l5 [] rfl rfl⟩
    ·exact ⟨u, 0, ⟨K, K, K, K, trivial⟩, SP.sel b9 [0, 2, 3] rfl rfl, H⟩
  ·exact ⟨p1, 0, ⟨K, K, K, K, K, K, trivial⟩, SP.sel h6 [0, 1, 2, 3, 4] rfl rfl, H⟩
def Xf (g : (List Int) → Int → Option ((List UInt8))) (h : (List UInt8) → Int → Option ((List UInt8))) (i : (List Int) → Int → Option ((List UInt8))) (c : (List UInt8) → Int → Option ((List UInt8))) (d : (List Int)) (b : (List UInt8)) (a : Int) : Option ((List UInt8)) :=
  (cond (decide (a < 32)) ((idx d (IntKind.wrap .i64 (Int.tdiv a 4))).bind fun e => ((chk (decide (0 ≤ (IntKind.wrap .i64 (24 - (IntKind.wrap .i64 ((Int.tmod a 4) * 8))))))).bind fun _ => ((idx b a).bind fun j => ((some (List.set b (Int.toNat a) (De (IntKind.wrap .u8 (Nk .u32 e (IntKind.wrap .i64 (24 - (IntKind.wrap .i64 ((Int.tmod a 4) * 8))))))))).bind fun f => (c f (IntKind.wrap .i64 (a + 1))))))) (some (b)))
def Xg (a : (List Int) → Int → Option ((List UInt8))) (b : (List UInt8) → Int → Option ((List UInt8))) (c : (List Int) → Int → Option ((List UInt8))) (d : (List Int)) : Nat → (List UInt8) → Int → Option ((List UInt8))
  | 0, _, _ => none
  | f + 1, e, g => Xf a b c (Xg a b c d f) d e g
def Xh (g : (List Int) → Int → Option ((List UInt8))) (h : (List UInt8) → Int → Option ((List UInt8))) (b : (List Int) → Int → Option ((List UInt8))) (i : Int) (c : (List UInt8)) (d : (List Int)) (a : Int) : Option ((List UInt8)) :=
  (cond (decide (a < i)) ((sub c a ((List.length c : Nat) : Int)).bind fun j => ((Y1 j).bind fun e => ((chk (Nat.beq (List.length e) 64)).bind fun _ => ((Zl d e).bind fun f => ((chk (Nat.beq (List.length f) 8)).bind fun _ => (b f (IntKind.wrap .i64 (a + 64)))))))) (Xg g h b d Zw (List.replicate 32 (0 : UInt8)) 0))
def Vw (a : (List Int) → Int → Option ((List UInt8))) (b : (List UInt8) → Int → Option ((List UInt8))) (c : Int) (d : (List UInt8)) : Nat → (List Int) → Int → Option ((List UInt8))
  | 0, _, _ => none
  | f + 1, e, g => Xh a b (Vw a b c d f) c d e g
def Xi (e : (List Int) → Int → Option ((List UInt8))) (d : (List UInt8) → Int → Option ((List UInt8))) (p1 : (List UInt8)) (f : (List Int)) (b : Int) (c : (List UInt8)) (a : Int) : Option ((List UInt8)) :=
  (cond (decide (a < 8)) ((chk (decide (0 ≤ (IntKind.wrap .i64 (8 * a))))).bind fun _ => ((idx c (IntKind.wrap .i64 ((IntKind.wrap .i64 (b - 1)) - a))).bind fun h => ((some (List.set c (Int.toNat (IntKind.wrap .i64 ((IntKind.wrap .i64 (b - 1)) - a))) (De (IntKind.wrap .u8 (Nk .u64 (IntKind.wrap .u64 ((IntKind.wrap .u64 ((List.length p1 : Nat) : Int)) * 8)) (IntKind.wrap .i64 (8 * a))))))).bind fun g => (d g (IntKind.wrap .i64 (a + 1)))))) (Vw e d b c Zw f 0))
def Q6 (a : (List Int) → Int → Option ((List UInt8))) (p1 : (List UInt8)) (b : (List Int)) (c : Int) : Nat → (List UInt8) → Int → Option ((List UInt8))
  | 0, _, _ => none
  | f + 1, d, e => Xi a (Q6 a p1 b c f) p1 b c d e
def Xz (a : (List Int) → Int → Option ((List UInt8))) (p1 : (List UInt8)) (b : (List Int)) (c : (List UInt8)) (d : Int) : Option ((List UInt8)) :=
  (Q6 a p1 b d Zw c 0)
def Xj (b : (List Int) → Int → Option ((List UInt8))) (p1 : (List UInt8)) (c : (List Int)) (d : Int) : Option ((List UInt8)) :=
  (cond (decide (d < (IntKind.wrap .i64 ((IntKind.wrap .i64 (Int.tdiv ((List.length p1 : Nat) : Int) 64)) * 64)))) ((sub p1 d ((List.length p1 : Nat) : Int)).bind fun i => ((Y1 i).bind fun e => ((chk (Nat.beq (List.length e) 64)).bind fun _ => ((Zl c e).bind fun f => ((chk (Nat.beq (List.length f) 8)).bind fun _ => (b f (IntKind.wrap .i64 (d + 64)))))))) ((sub p1 (IntKind.wrap .i64 ((IntKind.wrap .i64 (Int.tdiv ((List.length p1 : Nat) : Int) 64)) * 64)) ((List.length p1 : Nat) : Int)).bind fun a => ((some (cpy (List.replicate 128 (0 : UInt8)) 0 (List.length (List.replicate 128 (0 : UInt8))) a)).bind fun g => ((idx g (min ((List.length a : Nat) : Int) (((List.length (List.replicate 128 (0 : UInt8))) : Nat) : Int))).bind fun j => ((some (List.set g (Int.toNat (min ((List.length a : Nat) : Int) (((List.length (List.replicate 128 (0 : UInt8))) : Nat) : Int))) (128 : UInt8))).bind fun h => (cond (decide ((IntKind.wrap .i64 ((IntKind.wrap .i64 ((min ((List.length a : Nat) : Int) (((List.length (List.replicate 128 (0 : UInt8))) : Nat) : Int)) + 1)) + 8)) > 64)) (Xz b p1 c h 128) (Xz b p1 c h 64)))))))
def Qn (p1 : (List UInt8)) : Nat → (List Int) → Int → Option ((List UInt8))
  | 0, _, _ => none
  | f + 1, a, b => Xj  (Qn p1 f) p1 a b
def J2 (p1 : (List UInt8)) : Option ((List UInt8)) :=
  ((Y6 ).bind fun z9 => ((chk (Nat.beq (List.length z9) 8)).bind fun _ => (Qn p1 Zw z9 0)))
set_option maxRecDepth 100000 in
set_option maxHeartbeats 4000000 in
theorem Nq (A2 : Option Addr) (c3 : Nat) (p1 : (List UInt8)) (w0 : World) (c1 : RdT eU8 w0 A2 c3 p1) (r : ((List UInt8))) (H : J2 p1 = some r) :
  Calls Tryz.prog 100 #[(.slice A2 (List.length p1) c3)] w0 (fun e w' => e = .returned (.agg (Qa eU8 r).toArray) ∧ SP [] w0 w' []) := by
 unfold J2 at H
 refine Qt (n := 84) Tryz.func100 K K K ?_
 have h9 := Q1 [] w0
 refine aQ ?_
 refine aR ?_
 refine iS 1 ?_
 refine Vc (e := eU8) (l := (List.replicate 32 (0 : UInt8))) (m := 32) (t := 89) (z := .agg (Qa eU8 (List.replicate 32 (0 : UInt8))).toArray) (d := (some 2)) (k := 0) K rfl K rfl rfl K h9 ?_
 intro g5 w6 i0
 refine iF ?_
 refine aQ ?_
 refine aR ?_
 obtain ⟨z9, i1, H⟩ := Qc H
 obtain ⟨c7, H⟩ := Zm H
 replace c7 := Nat.eq_of_beq_eq_true c7
 refine iS 1 ?_
 refine cF 114 #[] #[] 13 Tryz.call114 (N9   w6  z9 i1) ?_
 rintro e m3 ⟨rfl, e1⟩
 refine ⟨_, rfl, ?_⟩
 have i2 := SP.call i0 e1
 clear e1
 refine iS 2 ?_
 refine Vc (e := (Qh .u32)) (l := (List.replicate 8 0)) (m := 8) (t := 149) (z := .agg (Qa (Qh .u32) (List.replicate 8 0)).toArray) (d := (some 3)) (k := 1) K rfl K rfl rfl K i2 ?_
 intro f m4 i3
 refine iS 3 ?_
 refine V6 (e := (Qh .u32)) (l := (List.replicate 8 0)) (l' := z9) (m := 8) (t := 149) (x := (.tmp 3)) (y := (.tmp 13)) (g := f) (i := 1) (d := none) (k := 2) K rfl K K c7 i3 rfl K ?_
 intro m5 i4
 refine iF ?_
 refine aQ ?_
 refine aR ?_
 refine iR 5 5 [(14, (.slice A2 (List.length p1) c3)), (15, (.int .i64 ((List.length p1 : Nat) : Int))), (16, (.int .i64 (IntKind.wrap .i64 (Int.tdiv ((List.length p1 : Nat) : Int) 64)))), (17, (.int .i64 (IntKind.wrap .i64 ((IntKind.wrap .i64 (Int.tdiv ((List.length p1 : Nat) : Int) 64)) * 64)))), (4, (.int .i64 (IntKind.wrap .i64 ((IntKind.wrap .i64 (Int.tdiv ((List.length p1 : Nat) : Int) 64)) * 64))))] ?_
 refine iF ?_
 refine aQ ?_
 refine aQ ?_
 refine aR ?_
 refine iR 1 1 [(5, (.int .i64 0))] ?_
 refine iF ?_
 refine X8 K (id := 0) K ?_
 refine Ne K (fun a1 ρ w => ∃ (u : (List Int)) (a3 : Int), Zg ρ [(0, (.slice A2 (List.length p1) c3)), (2, (pt g5 0)), (3, (pt f 0)), (4, (.int .i64 (IntKind.wrap .i64 ((IntKind.wrap .i64 (Int.tdiv ((List.length p1 : Nat) : Int) 64)) * 64)))), (5, (.int .i64 a3))] ∧ SP [] w0 w [Vp 89 eU8 g5 32 (List.replicate 32 (0 : UInt8)), Vp 149 (Qh .u32) f 8 u] ∧ Qn p1 a1 u a3 = some r) (by rintro ρ w ⟨u, a3, hk, hs, H⟩; cases H) ?_ Zw ?_
 ·rintro a1 ρ m6 ⟨u, a3, hk, c4, H⟩
  refine At.known [(0, (.slice A2 (List.length p1) c3)), (2, (pt g5 0)), (3, (pt f 0)), (4, (.int .i64 (IntKind.wrap .i64 ((IntKind.wrap .i64 (Int.tdiv ((List.length p1 : Nat) : Int) 64)) * 64)))), (5, (.int .i64 a3))] hk ?_
  replace H := (show Xj (Qn p1 a1) p1 u a3 = some r from H)
  unfold Xj at H
  have m7 := Vm (SP.get c4 (i := 0) rfl)
  have i5 := Vm (SP.get c4 (i := 1) rfl)
  refine aQ ?_
  refine aQ ?_
  refine aR ?_
  refine iR 3 3 [(18, (.int .i64 a3)), (19, (.int .i64 (IntKind.wrap .i64 ((IntKind.wrap .i64 (Int.tdiv ((List.length p1 : Nat) : Int) 64)) * 64)))), (20, (.bool (decide (a3 < (IntKind.wrap .i64 ((IntKind.wrap .i64 (Int.tdiv ((List.length p1 : Nat) : Int) 64)) * 64))))))] ?_
  refine iF ?_
  refine Zu K (o := (.tmp 20)) K (b := (decide (a3 < (IntKind.wrap .i64 ((IntKind.wrap .i64 (Int.tdiv ((List.length p1 : Nat) : Int) 64)) * 64))))) K (fun c8 => ?_) (fun c8 => ?_)
  ·have H := ct H c8
   refine At.skip K ?_
   refine aQ ?_
   refine X8 K (id := 1) K ?_
   obtain ⟨e2, e3, e4, H⟩ := U8 H
   obtain ⟨c9, hyl8928⟩ : ∃ y, (List.drop (Int.toNat a3) (List.take (Int.toNat ((List.length p1 : Nat) : Int)) p1)) = y := ⟨_, rfl⟩
   rw [hyl8928] at H
   obtain ⟨b3, i6, H⟩ := Qc H
   obtain ⟨d0, H⟩ := Zm H
   replace d0 := Nat.eq_of_beq_eq_true d0
   obtain ⟨b1, i7, H⟩ := Qc H
   obtain ⟨d1, H⟩ := Zm H
   replace d1 := Nat.eq_of_beq_eq_true d1
   refine aG [GEq (.agg (Qa (Qh .u32) u).toArray), GEq (.slice A2 (List.length p1) c3), GEq (.int .i64 a3), GEq (.slice (Do eU8.sz c3 (Int.toNat a3) A2) (List.length c9) (c3 - Int.toNat a3)), GEq (.agg (Qa (Qh .u32) b3).toArray), GEq (.agg (Qa (Qh .u32) b1).toArray), C3] [4, 5, 6] [sG [] [] [] w0 [Vp 89 eU8 g5 32 (List.replicate 32 (0 : UInt8)), Vp 149 (Qh .u32) f 8 u], sG [4] [(.agg (Qa (Qh .u32) b3).toArray)] [] w0 [Vp 89 eU8 g5 32 (List.replicate 32 (0 : UInt8)), Vp 149 (Qh .u32) f 8 u], sG [4, 5] [(.agg (Qa (Qh .u32) b3).toArray), (.agg (Qa (Qh .u32) b1).toArray)] [] w0 [Vp 89 eU8 g5 32 (List.replicate 32 (0 : UInt8)), Vp 149 (Qh .u32) f 8 u], sG [4, 5, 6] [(.agg (Qa (Qh .u32) b3).toArray), (.agg (Qa (Qh .u32) b1).toArray), undef] [] w0 [Vp 89 eU8 g5 32 (List.replicate 32 (0 : UInt8)), Vp 149 (Qh .u32) f 8 b1]] 7 3 ⟨trivial, SP.drew c4⟩ ?_ ?_
   iterate 7 refine And.intro ?_ ?_
   exact trivial
   ·refine Owe.light K [0, 1] K (Ql ?_ (Ql ?_ Vu))
    ·rintro ρ' w' hs hah ⟨m8, i8⟩
     refine kM (kc (kS hs 3 (pt f 0)) k0) fun hkn => ?_
     refine Zd (e := (Qh .u32)) (l := u) (m := 8) (t := 149) (x := (.tmp 3)) (g := f) (i := 1) (d := (some 23)) (k := 0) K rfl K i8 rfl K K ?_
     exact eK hkn
    ·rintro ρ' w' hs hah ⟨⟨m9, -⟩, i9⟩
     refine kM (kc (kS hs 3 (pt f 0)) k0) fun hkn => ?_
     refine Zd (e := (Qh .u32)) (l := u) (m := 8) (t := 149) (x := (.tmp 3)) (g := f) (i := 1) (d := (some 23)) (k := 0) K rfl K i9 rfl K K ?_
     exact eK hkn
   ·exact oV (hC (hS 0 (.slice A2 (List.length p1) c3)) (h0)) (.slice A2 (List.length p1) c3)
   ·exact oV (hC (hS 5 (.int .i64 a3)) (h0)) (.int .i64 a3)
   ·refine oL 0 ?_
    ·rintro ρ' w' hs hah ⟨n0, j0⟩
     refine kM (kc (kA hah 1 24) (kc (kA hah 2 25) k0)) fun hkn => ?_
     refine Rg (e := eU8) (l := p1) (m := c9) (A := A2) (c := c3) (T := 52) (E := 5) (x := (.tmp 24)) (lo := (some (.tmp 25))) (hi := none) (i := a3) (j := ((List.length p1 : Nat) : Int)) (d := (some 26)) (k := 3) K rfl K K K ⟨.i64, K⟩ rfl (RdX.le (RdT.sp c1 j0)) e2 e3 e4 hyl8928 ?_
     exact eK hkn
   ·refine oH 0 1 ?_
    ·rintro ρ' w' hs hah ⟨n1, e5⟩
     refine kM (kc (kA hah 3 26) k0) fun hkn => ?_
     refine cF 116 #[(.tmp 26)] #[52] 27 Tryz.call116 (U5 (Do eU8.sz c3 (Int.toNat a3) A2) (c3 - Int.toNat a3) c9 w' ((Cc e2 e3 e4 hyl8928) w' (RdT.sp c1 e5)) b3 i6) ?_
     rintro e n2 ⟨rfl, e6⟩
     refine ⟨_, rfl, ?_⟩
     have j1 := SP.call e5 e6
     clear e6
     refine ⟨_, Qb hkn, rfl, ?_⟩
     exact (And.intro (And.intro rfl (trivial)) (j1))
   ·refine oH 1 2 ?_
    ·rintro ρ' w' hs hah ⟨⟨e7, -⟩, j2⟩
     refine kN [(23, (.agg (Qa (Qh .u32) u).toArray)), (27, (.agg (Qa (Qh .u32) b3).toArray))] ⟨hah 0 23 K, (Yl (h := 4) K).symm.trans e7, trivial⟩ fun hkn => ?_
     refine cF 115 #[(.tmp 23), (.tmp 27)] #[149, 135] 28 Tryz.call115 (Jh  u b3 w' i5 d0 b1 i7) ?_
     rintro e n3 ⟨rfl, e8⟩
     refine ⟨_, rfl, ?_⟩
     have j3 := SP.call j2 e8
     clear e8
     refine ⟨_, Qb hkn, rfl, ?_⟩
     exact (And.intro (And.intro e7 (And.intro rfl (trivial))) (j3))
   ·refine oH 2 3 ?_
    ·rintro ρ' w' hs hah ⟨⟨j4, e9, -⟩, j5⟩
     refine kN [(3, (pt f 0)), (28, (.agg (Qa (Qh .u32) b1).toArray))] ⟨(hs 3 K).trans K, (Yl (h := 5) K).symm.trans e9, trivial⟩ fun hkn => ?_
     refine V6 (e := (Qh .u32)) (l := u) (l' := b1) (m := 8) (t := 149) (x := (.tmp 3)) (y := (.tmp 28)) (g := f) (i := 1) (d := none) (k := 6) K rfl K K d1 j5 rfl K ?_
     intro n4 j6
     refine ⟨_, Qb hkn, trivial, ?_⟩
     exact (And.intro (And.intro j4 (And.intro e9 (And.intro rfl (trivial)))) (j6))
   ·rintro ρ' w' hs hf ⟨⟨n5, n6, n7, -⟩, f0⟩
    refine Vj [(0, (.slice A2 (List.length p1) c3)), (2, (pt g5 0)), (3, (pt f 0)), (4, (.int .i64 (IntKind.wrap .i64 ((IntKind.wrap .i64 (Int.tdiv ((List.length p1 : Nat) : Int) 64)) * 64)))), (5, (.int .i64 a3))] ⟨(hs 0 K).trans K, (hs 2 K).trans K, (hs 3 K).trans K, (hs 4 K).trans K, (hs 5 K).trans K, trivial⟩ ?_
    obtain ⟨n8, j7⟩ : ∃ x, w' = x := ⟨_, rfl⟩
    rw [j7] at f0 ⊢
    refine aR ?_
    refine iR 3 3 [(21, (.int .i64 a3)), (22, (.int .i64 (IntKind.wrap .i64 (a3 + 64)))), (5, (.int .i64 (IntKind.wrap .i64 (a3 + 64))))] ?_
    refine iF ?_
    exact ⟨b1, (IntKind.wrap .i64 (a3 + 64)), ⟨K, K, K, K, K, trivial⟩, SP.sel f0 [0, 1] rfl rfl, H⟩
  ·have H := cf H c8
   refine At.exit K (id := 0) K ?_
   refine aQ ?_
   refine aR ?_
   refine iS 1 ?_
   refine Vc (e := eU8) (l := (List.replicate 128 (0 : UInt8))) (m := 128) (t := 152) (z := .agg (Qa eU8 (List.replicate 128 (0 : UInt8))).toArray) (d := (some 6)) (k := 0) K rfl K rfl rfl K c4 ?_
   intro s n9 j8
   refine iF ?_
   refine aQ ?_
   obtain ⟨f1, f2, f3, H⟩ := U8 H
   obtain ⟨a7, hyl9009⟩ : ∃ y, (List.drop (Int.toNat (IntKind.wrap .i64 ((IntKind.wrap .i64 (Int.tdiv ((List.length p1 : Nat) : Int) 64)) * 64))) (List.take (Int.toNat ((List.length p1 : Nat) : Int)) p1)) = y := ⟨_, rfl⟩
   rw [hyl9009] at H
   obtain ⟨b4, hyl9010, H⟩ := V5 H
   have hnl9010 : List.length b4 = List.length (List.replicate 128 (0 : UInt8)) := by rw [← hyl9010]; exact G5 (by omega)
   refine aG [GEq (.slice (some ⟨s, 0, none⟩) (List.length (List.replicate 128 (0 : UInt8))) 128), GEq (.slice A2 (List.length p1) c3), GEq (.int .i64 (IntKind.wrap .i64 ((IntKind.wrap .i64 (Int.tdiv ((List.length p1 : Nat) : Int) 64)) * 64))), GEq (.slice (Do eU8.sz c3 (Int.toNat (IntKind.wrap .i64 ((IntKind.wrap .i64 (Int.tdiv ((List.length p1 : Nat) : Int) 64)) * 64))) A2) (List.length a7) (c3 - Int.toNat (IntKind.wrap .i64 ((IntKind.wrap .i64 (Int.tdiv ((List.length p1 : Nat) : Int) 64)) * 64)))), GEq (.int .i64 (min ((List.length a7 : Nat) : Int) (((List.length (List.replicate 128 (0 : UInt8))) : Nat) : Int))), GEq (.int .i64 (min ((List.length a7 : Nat) : Int) (((List.length (List.replicate 128 (0 : UInt8))) : Nat) : Int)))] [4] [sG [] [] [] w0 [Vp 89 eU8 g5 32 (List.replicate 32 (0 : UInt8)), Vp 149 (Qh .u32) f 8 u, Vp 152 eU8 s 128 (List.replicate 128 (0 : UInt8))], sG [4] [(.int .i64 (min ((List.length a7 : Nat) : Int) (((List.length (List.replicate 128 (0 : UInt8))) : Nat) : Int)))] [] w0 [Vp 89 eU8 g5 32 (List.replicate 32 (0 : UInt8)), Vp 149 (Qh .u32) f 8 u, Vp 152 eU8 s 128 b4]] 6 1 ⟨trivial, SP.drew j8⟩ ?_ ?_
   iterate 6 refine And.intro ?_ ?_
   exact trivial
   ·refine oL 0 ?_
    ·rintro ρ' w' hs hah ⟨o0, j9⟩
     refine kM (kc (kS hs 6 (pt s 0)) k0) fun hkn => ?_
     refine J1 (e := eU8) (l := (List.replicate 128 (0 : UInt8))) (m := 128) (g := s) (T := 152) (E := 5) (x := (.tmp 6)) (q := 2) (d := (some 29)) (k := 0) K rfl K K K j9 rfl ?_
     exact eK hkn
   ·exact oV (hC (hS 0 (.slice A2 (List.length p1) c3)) (h0)) (.slice A2 (List.length p1) c3)
   ·exact oV (hC (hS 4 (.int .i64 (IntKind.wrap .i64 ((IntKind.wrap .i64 (Int.tdiv ((List.length p1 : Nat) : Int) 64)) * 64)))) (h0)) (.int .i64 (IntKind.wrap .i64 ((IntKind.wrap .i64 (Int.tdiv ((List.length p1 : Nat) : Int) 64)) * 64)))
   ·refine oL 0 ?_
    ·rintro ρ' w' hs hah ⟨o1, k1⟩
     refine kM (kc (kA hah 1 30) (kc (kA hah 2 31) k0)) fun hkn => ?_
     refine Rg (e := eU8) (l := p1) (m := a7) (A := A2) (c := c3) (T := 52) (E := 5) (x := (.tmp 30)) (lo := (some (.tmp 31))) (hi := none) (i := (IntKind.wrap .i64 ((IntKind.wrap .i64 (Int.tdiv ((List.length p1 : Nat) : Int) 64)) * 64))) (j := ((List.length p1 : Nat) : Int)) (d := (some 32)) (k := 3) K rfl K K K ⟨.i64, K⟩ rfl (RdX.le (RdT.sp c1 k1)) f1 f2 f3 hyl9009 ?_
     exact eK hkn
   ·refine oH 0 1 ?_
    ·rintro ρ' w' hs hah ⟨o2, f4⟩
     refine kM (kc (kA hah 0 29) (kc (kA hah 3 32) k0)) fun hkn => ?_
     refine Dk (e := eU8) (l := (List.replicate 128 (0 : UInt8))) (y' := a7) (l' := b4) (m := 128) (g := s) (lo := 0) (dl := (List.length (List.replicate 128 (0 : UInt8)))) (T := 52) (T2 := 52) (E := 5) (x := (.tmp 29)) (y := (.tmp 32)) (i := 2) (A := (some ⟨s, 0, none⟩)) (dc := 128) (A2 := (Do eU8.sz c3 (Int.toNat (IntKind.wrap .i64 ((IntKind.wrap .i64 (Int.tdiv ((List.length p1 : Nat) : Int) 64)) * 64))) A2)) (c2 := (c3 - Int.toNat (IntKind.wrap .i64 ((IntKind.wrap .i64 (Int.tdiv ((List.length p1 : Nat) : Int) 64)) * 64)))) (d := (some 33)) (k := 4) K rfl K K K K rfl f4 rfl (Cg) (by omega) ((Cc f1 f2 f3 hyl9009) w' (RdT.sp c1 f4)) hyl9010 ?_
     intro k2 f5 _
     have k3 : SP [] w0 k2 [Vp 89 eU8 g5 32 (List.replicate 32 (0 : UInt8)), Vp 149 (Qh .u32) f 8 u, Vp 152 eU8 s 128 b4] := f5
     clear f5
     refine ⟨_, Qb hkn, rfl, ?_⟩
     exact (And.intro (And.intro rfl (trivial)) (k3))
   ·exact oV (hC (hA 4 33) (h0)) (.int .i64 (min ((List.length a7 : Nat) : Int) (((List.length (List.replicate 128 (0 : UInt8))) : Nat) : Int)))
   ·rintro ρ' w' hs hf ⟨⟨o3, -⟩, d2⟩
    refine Vj [(0, (.slice A2 (List.length p1) c3)), (2, (pt g5 0)), (3, (pt f 0)), (6, (pt s 0)), (7, (.int .i64 (min ((List.length a7 : Nat) : Int) (((List.length (List.replicate 128 (0 : UInt8))) : Nat) : Int))))] ⟨(hs 0 K).trans K, (hs 2 K).trans K, (hs 3 K).trans K, (hs 6 K).trans K, hf 5 7 K, trivial⟩ ?_
    obtain ⟨o4, k4⟩ : ∃ x, w' = x := ⟨_, rfl⟩
    rw [k4] at d2 ⊢
    refine aQ ?_
    refine aR ?_
    refine iR 1 1 [(34, (.int .i64 (min ((List.length a7 : Nat) : Int) (((List.length (List.replicate 128 (0 : UInt8))) : Nat) : Int))))] ?_
    obtain ⟨o5, f6, f7, o6, H⟩ := Qy H
    refine iS 2 ?_
    refine Qs (e := eU8) (l := b4) (m := 128) (g := s) (T := 152) (E := 5) (x := (.tmp 6)) (ix := (.tmp 34)) (ki := .i64) (iz := (min ((List.length a7 : Nat) : Int) (((List.length (List.replicate 128 (0 : UInt8))) : Nat) : Int))) (i := 2) (d := (some 35)) (k := 1) K rfl K K K K d2 rfl f6 f7 ?_
    obtain ⟨c5, hyl9035, H⟩ := V5 H
    have hnl9035 : List.length c5 = List.length b4 := by rw [← hyl9035, List.length_set]
    refine iS 3 ?_
    refine Zp (e := eU8) (t := 5) (x := (.tmp 35)) (y := (.const (.int .u8 (128)))) (l := b4) (iz := (min ((List.length a7 : Nat) : Int) (((List.length (List.replicate 128 (0 : UInt8))) : Nat) : Int))) (m := 128) (g := s) (b := s) (off := 0) (i := 2) (v := (.int .u8 128)) (x' := (128 : UInt8)) (d := none) (k := 2) K rfl rfl K K d2 rfl rfl f7 f6 rfl K ?_
    rw [hyl9035]
    intro o7 f8
    refine In.known [] trivial ?_
    refine iF ?_
    refine aQ ?_
    refine aR ?_
    refine iR 1 1 [(8, (.int .i64 64))] ?_
    refine iF ?_
    refine aQ ?_
    refine aQ ?_
    refine aR ?_
    refine iR 4 4 [(36, (.int .i64 (min ((List.length a7 : Nat) : Int) (((List.length (List.replicate 128 (0 : UInt8))) : Nat) : Int)))), (37, (.int .i64 (IntKind.wrap .i64 ((min ((List.length a7 : Nat) : Int) (((List.length (List.replicate 128 (0 : UInt8))) : Nat) : Int)) + 1)))), (38, (.int .i64 (IntKind.wrap .i64 ((IntKind.wrap .i64 ((min ((List.length a7 : Nat) : Int) (((List.length (List.replicate 128 (0 : UInt8))) : Nat) : Int)) + 1)) + 8)))), (39, (.bool (decide ((IntKind.wrap .i64 ((IntKind.wrap .i64 ((min ((List.length a7 : Nat) : Int) (((List.length (List.replicate 128 (0 : UInt8))) : Nat) : Int)) + 1)) + 8)) > 64))))] ?_
    refine iF ?_
    refine At.join (fun ρ w => ∃ (p : Int), Zg ρ [(0, (.slice A2 (List.length p1) c3)), (2, (pt g5 0)), (3, (pt f 0)), (6, (pt s 0)), (8, (.int .i64 p))] ∧ SP [] w0 w [Vp 89 eU8 g5 32 (List.replicate 32 (0 : UInt8)), Vp 149 (Qh .u32) f 8 u, Vp 152 eU8 s 128 c5] ∧ Xz (Qn p1 a1) p1 u c5 p = some r) ?_ ?_
    ·refine Zu K (o := (.tmp 39)) K (b := (decide ((IntKind.wrap .i64 ((IntKind.wrap .i64 ((min ((List.length a7 : Nat) : Int) (((List.length (List.replicate 128 (0 : UInt8))) : Nat) : Int)) + 1)) + 8)) > 64))) K (fun d3 => ?_) (fun d3 => ?_)
     ·have H := ct H d3
      refine aR ?_
      refine iR 1 1 [(8, (.int .i64 128))] ?_
      refine iF ?_
      exact ⟨128, ⟨K, K, K, K, K, trivial⟩, SP.sel f8 [0, 1, 2] rfl rfl, H⟩
     ·have H := cf H d3
      refine At.skip K ?_
      exact ⟨64, ⟨K, K, K, K, K, trivial⟩, SP.sel f8 [0, 1, 2] rfl rfl, H⟩
    ·rintro ρ o8 ⟨p, hk, c6, H⟩
     unfold Xz at H
     first | refine At.known [(0, (.slice A2 (List.length p1) c3)), (2, (pt g5 0)), (3, (pt f 0)), (6, (pt s 0)), (8, (.int .i64 p))] hk ?_ | rw [← Q9 (l := [(0, (.slice A2 (List.length p1) c3)), (2, (pt g5 0)), (3, (pt f 0)), (6, (pt s 0)), (8, (.int .i64 p))]) hk]
     have o9 := Vm (SP.get c6 (i := 0) rfl)
     have p0 := Vm (SP.get c6 (i := 1) rfl)
     have p2 := Vm (SP.get c6 (i := 2) rfl)
     refine aQ ?_
     refine aQ ?_
     refine aR ?_
     refine iR 1 1 [(40, (.int .i64 0))] ?_
     refine iF ?_
     refine X8 K (id := 2) K ?_
     refine Ne K (fun a8 ρ w => ∃ (a4 : (List UInt8)) (a2 : Int), Zg ρ [(0, (.slice A2 (List.length p1) c3)), (2, (pt g5 0)), (3, (pt f 0)), (6, (pt s 0)), (8, (.int .i64 p)), (40, (.int .i64 a2))] ∧ SP [] w0 w [Vp 89 eU8 g5 32 (List.replicate 32 (0 : UInt8)), Vp 149 (Qh .u32) f 8 u, Vp 152 eU8 s 128 a4] ∧ Q6 (Qn p1 a1) p1 u p a8 a4 a2 = some r) (by rintro ρ w ⟨a4, a2, hk, hs, H⟩; cases H) ?_ Zw ?_
     ·rintro a8 ρ p3 ⟨a4, a2, hk, b8, H⟩
      refine At.known [(0, (.slice A2 (List.length p1) c3)), (2, (pt g5 0)), (3, (pt f 0)), (6, (pt s 0)), (8, (.int .i64 p)), (40, (.int .i64 a2))] hk ?_
      replace H := (show Xi (Qn p1 a1) (Q6 (Qn p1 a1) p1 u p a8) p1 u p a4 a2 = some r from H)
      unfold Xi at H
      have p4 := Vm (SP.get b8 (i := 0) rfl)
      have p5 := Vm (SP.get b8 (i := 1) rfl)
      have p6 := Vm (SP.get b8 (i := 2) rfl)
      refine aQ ?_
      refine aR ?_
      refine iR 1 1 [(41, (.bool (decide (a2 < 8))))] ?_
      refine iF ?_
      refine aQ ?_
      refine Zu K (o := (.tmp 41)) K (b := (decide (a2 < 8))) K (fun d4 => ?_) (fun d4 => ?_)
      ·have H := ct H d4
       refine At.skip K ?_
       refine aQ ?_
       refine X8 K (id := 3) K ?_
       refine aQ ?_
       refine aR ?_
       refine iR 2 2 [(42, (.int .i64 a2)), (9, (.int .i64 a2))] ?_
       refine iF ?_
       refine aR ?_
       refine iR 10 10 [(43, (.int .i64 p)), (44, (.int .i64 (IntKind.wrap .i64 (p - 1)))), (45, (.int .i64 a2)), (46, (.int .i64 (IntKind.wrap .i64 ((IntKind.wrap .i64 (p - 1)) - a2)))), (47, (.slice A2 (List.length p1) c3)), (48, (.int .i64 ((List.length p1 : Nat) : Int))), (49, (.int .u64 (IntKind.wrap .u64 ((List.length p1 : Nat) : Int)))), (50, (.int .u64 (IntKind.wrap .u64 ((IntKind.wrap .u64 ((List.length p1 : Nat) : Int)) * 8)))), (51, (.int .i64 a2)), (52, (.int .i64 (IntKind.wrap .i64 (8 * a2))))] ?_
       obtain ⟨hl11181, H⟩ := Zm H
       refine iS 11 ?_
       refine Qj.shift (op := .shr) (T := 153) (T' := 3) (x := (.tmp 50)) (y := (.tmp 52)) (kx := .u64) (ky := .i64) (a := (IntKind.wrap .u64 ((IntKind.wrap .u64 ((List.length p1 : Nat) : Int)) * 8))) (b := (IntKind.wrap .i64 (8 * a2))) (v := (.int .u64 (Nk .u64 (IntKind.wrap .u64 ((IntKind.wrap .u64 ((List.length p1 : Nat) : Int)) * 8)) (IntKind.wrap .i64 (8 * a2))))) (d := (some 53)) (k := 10) K rfl K K (of_decide_eq_true hl11181) rfl ?_
       refine iR 1 12 [(54, (.int .u8 (IntKind.wrap .u8 (Nk .u64 (IntKind.wrap .u64 ((IntKind.wrap .u64 ((List.length p1 : Nat) : Int)) * 8)) (IntKind.wrap .i64 (8 * a2))))))] ?_
       obtain ⟨p7, f9, g0, p8, H⟩ := Qy H
       refine iS 13 ?_
       refine Qs (e := eU8) (l := a4) (m := 128) (g := s) (T := 152) (E := 5) (x := (.tmp 6)) (ix := (.tmp 46)) (ki := .i64) (iz := (IntKind.wrap .i64 ((IntKind.wrap .i64 (p - 1)) - a2))) (i := 2) (d := (some 55)) (k := 12) K rfl K K K K b8 rfl f9 g0 ?_
       obtain ⟨g1, hyl11186, H⟩ := V5 H
       have hnl11186 : List.length g1 = List.length a4 := by rw [← hyl11186, List.length_set]
       refine iS 14 ?_
       refine Zp (e := eU8) (t := 5) (x := (.tmp 55)) (y := (.tmp 54)) (l := a4) (iz := (IntKind.wrap .i64 ((IntKind.wrap .i64 (p - 1)) - a2))) (m := 128) (g := s) (b := s) (off := 0) (i := 2) (v := (.int .u8 (IntKind.wrap .u8 (Nk .u64 (IntKind.wrap .u64 ((IntKind.wrap .u64 ((List.length p1 : Nat) : Int)) * 8)) (IntKind.wrap .i64 (8 * a2)))))) (x' := (De (IntKind.wrap .u8 (Nk .u64 (IntKind.wrap .u64 ((IntKind.wrap .u64 ((List.length p1 : Nat) : Int)) * 8)) (IntKind.wrap .i64 (8 * a2)))))) (d := none) (k := 13) K rfl rfl K K b8 rfl rfl g0 f9 (by show [Value.int .u8 (((De (IntKind.wrap .u8 (Nk .u64 (IntKind.wrap .u64 ((IntKind.wrap .u64 ((List.length p1 : Nat) : Int)) * 8)) (IntKind.wrap .i64 (8 * a2)))))).toNat : Int)] = _; rw [N1 (Bf _)]) K ?_
       rw [hyl11186]
       intro p9 k5
       refine In.known [] trivial ?_
       refine iF ?_
       refine aR ?_
       refine iR 2 2 [(56, (.int .i64 (IntKind.wrap .i64 (a2 + 1)))), (40, (.int .i64 (IntKind.wrap .i64 (a2 + 1))))] ?_
       refine iF ?_
       exact ⟨g1, (IntKind.wrap .i64 (a2 + 1)), ⟨K, K, K, K, K, K, trivial⟩, SP.sel k5 [0, 1, 2] rfl rfl, H⟩
      ·have H := cf H d4
       refine At.exit K (id := 2) K ?_
       refine aQ ?_
       refine aQ ?_
       refine aR ?_
       refine iR 1 1 [(10, (.int .i64 0))] ?_
       refine iF ?_
       refine X8 K (id := 4) K ?_
       refine Ne K (fun b9 ρ w => ∃ (a6 : (List Int)) (a5 : Int), Zg ρ [(2, (pt g5 0)), (3, (pt f 0)), (6, (pt s 0)), (8, (.int .i64 p)), (10, (.int .i64 a5))] ∧ SP [] w0 w [Vp 89 eU8 g5 32 (List.replicate 32 (0 : UInt8)), Vp 149 (Qh .u32) f 8 a6, Vp 152 eU8 s 128 a4] ∧ Vw (Qn p1 a1) (Q6 (Qn p1 a1) p1 u p a8) p a4 b9 a6 a5 = some r) (by rintro ρ w ⟨a6, a5, hk, hs, H⟩; cases H) ?_ Zw ?_
       ·rintro b9 ρ q0 ⟨a6, a5, hk, c0, H⟩
        refine At.known [(2, (pt g5 0)), (3, (pt f 0)), (6, (pt s 0)), (8, (.int .i64 p)), (10, (.int .i64 a5))] hk ?_
        replace H := (show Xh (Qn p1 a1) (Q6 (Qn p1 a1) p1 u p a8) (Vw (Qn p1 a1) (Q6 (Qn p1 a1) p1 u p a8) p a4 b9) p a4 a6 a5 = some r from H)
        unfold Xh at H
        have q1 := Vm (SP.get c0 (i := 0) rfl)
        have k6 := Vm (SP.get c0 (i := 1) rfl)
        have q2 := Vm (SP.get c0 (i := 2) rfl)
        refine aQ ?_
        refine aQ ?_
        refine aR ?_
        refine iR 3 3 [(57, (.int .i64 a5)), (58, (.int .i64 p)), (59, (.bool (decide (a5 < p))))] ?_
        refine iF ?_
        refine Zu K (o := (.tmp 59)) K (b := (decide (a5 < p))) K (fun d5 => ?_) (fun d5 => ?_)
        ·have H := ct H d5
         refine At.skip K ?_
         refine aQ ?_
         refine X8 K (id := 5) K ?_
         obtain ⟨g2, g3, g4, H⟩ := U8 H
         obtain ⟨d6, hyl11720⟩ : ∃ y, (List.drop (Int.toNat a5) (List.take (Int.toNat ((List.length a4 : Nat) : Int)) a4)) = y := ⟨_, rfl⟩
         rw [hyl11720] at H
         obtain ⟨b5, k7, H⟩ := Qc H
         obtain ⟨d7, H⟩ := Zm H
         replace d7 := Nat.eq_of_beq_eq_true d7
         obtain ⟨b2, k8, H⟩ := Qc H
         obtain ⟨d8, H⟩ := Zm H
         replace d8 := Nat.eq_of_beq_eq_true d8
         refine aG [GEq (.agg (Qa (Qh .u32) a6).toArray), GEq (.int .i64 a5), GEq (.slice (Do eU8.sz 128 (Int.toNat a5) (some ⟨s, 0, none⟩)) (List.length d6) (128 - Int.toNat a5)), GEq (.agg (Qa (Qh .u32) b5).toArray), GEq (.agg (Qa (Qh .u32) b2).toArray), C3] [3, 4, 5] [sG [] [] [] w0 [Vp 89 eU8 g5 32 (List.replicate 32 (0 : UInt8)), Vp 149 (Qh .u32) f 8 a6, Vp 152 eU8 s 128 a4], sG [3] [(.agg (Qa (Qh .u32) b5).toArray)] [] w0 [Vp 89 eU8 g5 32 (List.replicate 32 (0 : UInt8)), Vp 149 (Qh .u32) f 8 a6, Vp 152 eU8 s 128 a4], sG [3, 4] [(.agg (Qa (Qh .u32) b5).toArray), (.agg (Qa (Qh .u32) b2).toArray)] [] w0 [Vp 89 eU8 g5 32 (List.replicate 32 (0 : UInt8)), Vp 149 (Qh .u32) f 8 a6, Vp 152 eU8 s 128 a4], sG [3, 4, 5] [(.agg (Qa (Qh .u32) b5).toArray), (.agg (Qa (Qh .u32) b2).toArray), undef] [] w0 [Vp 89 eU8 g5 32 (List.replicate 32 (0 : UInt8)), Vp 149 (Qh .u32) f 8 b2, Vp 152 eU8 s 128 a4]] 6 3 ⟨trivial, SP.drew c0⟩ ?_ ?_
         iterate 6 refine And.intro ?_ ?_
         exact trivial
         ·refine Owe.light K [0, 1] K (Ql ?_ (Ql ?_ Vu))
          ·rintro ρ' w' hs hah ⟨q3, k9⟩
           refine kM (kc (kS hs 3 (pt f 0)) k0) fun hkn => ?_
           refine Zd (e := (Qh .u32)) (l := a6) (m := 8) (t := 149) (x := (.tmp 3)) (g := f) (i := 1) (d := (some 62)) (k := 0) K rfl K k9 rfl K K ?_
           exact eK hkn
          ·rintro ρ' w' hs hah ⟨⟨q4, -⟩, l0⟩
           refine kM (kc (kS hs 3 (pt f 0)) k0) fun hkn => ?_
           refine Zd (e := (Qh .u32)) (l := a6) (m := 8) (t := 149) (x := (.tmp 3)) (g := f) (i := 1) (d := (some 62)) (k := 0) K rfl K l0 rfl K K ?_
           exact eK hkn
         ·exact oV (hC (hS 10 (.int .i64 a5)) (h0)) (.int .i64 a5)
         ·refine oL 0 ?_
          ·rintro ρ' w' hs hah ⟨q5, l1⟩
           refine kM (kc (kS hs 6 (pt s 0)) (kc (kA hah 1 63) k0)) fun hkn => ?_
           refine N8 (e := eU8) (l := a4) (l' := d6) (m := 128) (g := s) (T := 152) (E := 5) (x := (.tmp 6)) (lo := (some (.tmp 63))) (hi := none) (i := a5) (j := ((List.length a4 : Nat) : Int)) (q := 2) (d := (some 64)) (k := 2) K rfl K K K ⟨.i64, K⟩ rfl l1 rfl g2 g3 g4 hyl11720 ?_
           exact eK hkn
         ·refine oH 0 1 ?_
          ·rintro ρ' w' hs hah ⟨q6, g6⟩
           refine kM (kc (kA hah 2 64) k0) fun hkn => ?_
           refine cF 116 #[(.tmp 64)] #[52] 65 Tryz.call116 (U5 (Do eU8.sz 128 (Int.toNat a5) (some ⟨s, 0, none⟩)) (128 - Int.toNat a5) d6 w' ((Cc g2 g3 g4 hyl11720) w' (Vr (SP.get g6 (i := 2) rfl))) b5 k7) ?_
           rintro e q7 ⟨rfl, g7⟩
           refine ⟨_, rfl, ?_⟩
           have l2 := SP.call g6 g7
           clear g7
           refine ⟨_, Qb hkn, rfl, ?_⟩
           exact (And.intro (And.intro rfl (trivial)) (l2))
         ·refine oH 1 2 ?_
          ·rintro ρ' w' hs hah ⟨⟨g8, -⟩, l3⟩
           refine kN [(62, (.agg (Qa (Qh .u32) a6).toArray)), (65, (.agg (Qa (Qh .u32) b5).toArray))] ⟨hah 0 62 K, (Yl (h := 3) K).symm.trans g8, trivial⟩ fun hkn => ?_
           refine cF 115 #[(.tmp 62), (.tmp 65)] #[149, 135] 66 Tryz.call115 (Jh  a6 b5 w' k6 d7 b2 k8) ?_
           rintro e q8 ⟨rfl, g9⟩
           refine ⟨_, rfl, ?_⟩
           have l4 := SP.call l3 g9
           clear g9
           refine ⟨_, Qb hkn, rfl, ?_⟩
           exact (And.intro (And.intro g8 (And.intro rfl (trivial))) (l4))
         ·refine oH 2 3 ?_
          ·rintro ρ' w' hs hah ⟨⟨l5, h1, -⟩, l6⟩
           refine kN [(3, (pt f 0)), (66, (.agg (Qa (Qh .u32) b2).toArray))] ⟨(hs 3 K).trans K, (Yl (h := 4) K).symm.trans h1, trivial⟩ fun hkn => ?_
           refine V6 (e := (Qh .u32)) (l := a6) (l' := b2) (m := 8) (t := 149) (x := (.tmp 3)) (y := (.tmp 66)) (g := f) (i := 1) (d := none) (k := 5) K rfl K K d8 l6 rfl K ?_
           intro q9 l7
           refine ⟨_, Qb hkn, trivial, ?_⟩
           exact (And.intro (And.intro l5 (And.intro h1 (And.intro rfl (trivial)))) (l7))
         ·rintro ρ' w' hs hf ⟨⟨r0, r1, r2, -⟩, h2⟩
          refine Vj [(2, (pt g5 0)), (3, (pt f 0)), (6, (pt s 0)), (8, (.int .i64 p)), (10, (.int .i64 a5))] ⟨(hs 2 K).trans K, (hs 3 K).trans K, (hs 6 K).trans K, (hs 8 K).trans K, (hs 10 K).trans K, trivial⟩ ?_
          obtain ⟨r3, l8⟩ : ∃ x, w' = x := ⟨_, rfl⟩
          rw [l8] at h2 ⊢
          refine aR ?_
          refine iR 3 3 [(60, (.int .i64 a5)), (61, (.int .i64 (IntKind.wrap .i64 (a5 + 64)))), (10, (.int .i64 (IntKind.wrap .i64 (a5 + 64))))] ?_
          refine iF ?_
          exact ⟨b2, (IntKind.wrap .i64 (a5 + 64)), ⟨K, K, K, K, K, trivial⟩, SP.sel h2 [0, 1, 2] rfl rfl, H⟩
        ·have H := cf H d5
         refine At.exit K (id := 4) K ?_
         refine aQ ?_
         refine aR ?_
         refine iS 1 ?_
         refine Vc (e := eU8) (l := (List.replicate 32 (0 : UInt8))) (m := 32) (t := 89) (z := .agg (Qa eU8 (List.replicate 32 (0 : UInt8))).toArray) (d := (some 11)) (k := 0) K rfl K rfl rfl K c0 ?_
         intro b6 r4 l9
         refine iF ?_
         refine aQ ?_
         refine aQ ?_
         refine aR ?_
         refine iR 1 1 [(67, (.int .i64 0))] ?_
         refine iF ?_
         refine X8 K (id := 6) K ?_
         refine Ne K (fun d9 ρ w => ∃ (a9 : (List UInt8)) (a0 : Int), Zg ρ [(2, (pt g5 0)), (3, (pt f 0)), (11, (pt b6 0)), (67, (.int .i64 a0))] ∧ SP [] w0 w [Vp 89 eU8 g5 32 (List.replicate 32 (0 : UInt8)), Vp 149 (Qh .u32) f 8 a6, Vp 89 eU8 b6 32 a9] ∧ Xg (Qn p1 a1) (Q6 (Qn p1 a1) p1 u p a8) (Vw (Qn p1 a1) (Q6 (Qn p1 a1) p1 u p a8) p a4 b9) a6 d9 a9 a0 = some r) (by rintro ρ w ⟨a9, a0, hk, hs, H⟩; cases H) ?_ Zw ?_
         ·rintro d9 ρ r5 ⟨a9, a0, hk, b0, H⟩
          refine At.known [(2, (pt g5 0)), (3, (pt f 0)), (11, (pt b6 0)), (67, (.int .i64 a0))] hk ?_
          replace H := (show Xf (Qn p1 a1) (Q6 (Qn p1 a1) p1 u p a8) (Vw (Qn p1 a1) (Q6 (Qn p1 a1) p1 u p a8) p a4 b9) (Xg (Qn p1 a1) (Q6 (Qn p1 a1) p1 u p a8) (Vw (Qn p1 a1) (Q6 (Qn p1 a1) p1 u p a8) p a4 b9) a6 d9) a6 a9 a0 = some r from H)
          unfold Xf at H
          have r6 := Vm (SP.get b0 (i := 0) rfl)
          have r7 := Vm (SP.get b0 (i := 1) rfl)
          have m0 := Vm (SP.get b0 (i := 2) rfl)
          refine aQ ?_
          refine aR ?_
          refine iR 1 1 [(68, (.bool (decide (a0 < 32))))] ?_
          refine iF ?_
          refine aQ ?_
          refine Zu K (o := (.tmp 68)) K (b := (decide (a0 < 32))) K (fun e0 => ?_) (fun e0 => ?_)
          ·have H := ct H e0
           refine At.skip K ?_
           refine aQ ?_
           refine X8 K (id := 7) K ?_
           refine aQ ?_
           refine aR ?_
           refine iR 2 2 [(69, (.int .i64 a0)), (12, (.int .i64 a0))] ?_
           refine iF ?_
           refine aR ?_
           refine iR 3 3 [(70, (.int .i64 a0)), (71, (.int .i64 a0)), (72, (.int .i64 (IntKind.wrap .i64 (Int.tdiv a0 4))))] ?_
           obtain ⟨b7, h3, h4, m1, H⟩ := Qy H
           refine iS 4 ?_
           refine Qs (e := (Qh .u32)) (l := a6) (m := 8) (g := f) (T := 149) (E := 111) (x := (.tmp 3)) (ix := (.tmp 72)) (ki := .i64) (iz := (IntKind.wrap .i64 (Int.tdiv a0 4))) (i := 1) (d := (some 73)) (k := 3) K rfl K K K K b0 rfl h3 h4 ?_
           refine iS 5 ?_
           refine sC 111 73 f (0 + Int.toNat (IntKind.wrap .i64 (Int.tdiv a0 4)) * (Qh .u32).sz) (.int .u32 b7) 74 (Qw (e := (Qh .u32)) (Qp (Vr (SP.get b0 (i := 1) rfl)) rfl h3 h4) m1 (j := 0) rfl) ?_
           refine iR 4 9 [(75, (.int .i64 a0)), (76, (.int .i64 (Int.tmod a0 4))), (77, (.int .i64 (IntKind.wrap .i64 ((Int.tmod a0 4) * 8)))), (78, (.int .i64 (IntKind.wrap .i64 (24 - (IntKind.wrap .i64 ((Int.tmod a0 4) * 8))))))] ?_
           obtain ⟨hl11873, H⟩ := Zm H
           refine iS 10 ?_
           refine Qj.shift (op := .shr) (T := 111) (T' := 3) (x := (.tmp 74)) (y := (.tmp 78)) (kx := .u32) (ky := .i64) (a := b7) (b := (IntKind.wrap .i64 (24 - (IntKind.wrap .i64 ((Int.tmod a0 4) * 8))))) (v := (.int .u32 (Nk .u32 b7 (IntKind.wrap .i64 (24 - (IntKind.wrap .i64 ((Int.tmod a0 4) * 8))))))) (d := (some 79)) (k := 9) K rfl K K (of_decide_eq_true hl11873) rfl ?_
           refine iR 1 11 [(80, (.int .u8 (IntKind.wrap .u8 (Nk .u32 b7 (IntKind.wrap .i64 (24 - (IntKind.wrap .i64 ((Int.tmod a0 4) * 8))))))))] ?_
           obtain ⟨r8, h5, h6, r9, H⟩ := Qy H
           refine iS 12 ?_
           refine Qs (e := eU8) (l := a9) (m := 32) (g := b6) (T := 89) (E := 5) (x := (.tmp 11)) (ix := (.tmp 70)) (ki := .i64) (iz := a0) (i := 2) (d := (some 81)) (k := 11) K rfl K K K K b0 rfl h5 h6 ?_
           obtain ⟨h7, hyl11878, H⟩ := V5 H
           have hnl11878 : List.length h7 = List.length a9 := by rw [← hyl11878, List.length_set]
           refine iS 13 ?_
           refine Zp (e := eU8) (t := 5) (x := (.tmp 81)) (y := (.tmp 80)) (l := a9) (iz := a0) (m := 32) (g := b6) (b := b6) (off := 0) (i := 2) (v := (.int .u8 (IntKind.wrap .u8 (Nk .u32 b7 (IntKind.wrap .i64 (24 - (IntKind.wrap .i64 ((Int.tmod a0 4) * 8)))))))) (x' := (De (IntKind.wrap .u8 (Nk .u32 b7 (IntKind.wrap .i64 (24 - (IntKind.wrap .i64 ((Int.tmod a0 4) * 8)))))))) (d := none) (k := 12) K rfl rfl K K b0 rfl rfl h6 h5 (by show [Value.int .u8 (((De (IntKind.wrap .u8 (Nk .u32 b7 (IntKind.wrap .i64 (24 - (IntKind.wrap .i64 ((Int.tmod a0 4) * 8)))))))).toNat : Int)] = _; rw [N1 (Bf _)]) K ?_
           rw [hyl11878]
           intro s0 m2
           refine In.known [] trivial ?_
           refine iF ?_
           refine aR ?_
           refine iR 2 2 [(82, (.int .i64 (IntKind.wrap .i64 (a0 + 1)))), (67, (.int .i64 (IntKind.wrap .i64 (a0 + 1))))] ?_
           refine iF ?_
           exact ⟨h7, (IntKind.wrap .i64 (a0 + 1)), ⟨K, K, K, K, trivial⟩, SP.sel m2 [0, 1, 2] rfl rfl, H⟩
          ·have H := cf H e0
           refine At.exit K (id := 6) K ?_
           refine aQ ?_
           refine aR ?_
           refine iS 1 ?_
           refine Zd (e := eU8) (l := a9) (m := 32) (t := 89) (x := (.tmp 11)) (g := b6) (i := 2) (d := (some 83)) (k := 0) K rfl K b0 rfl K K ?_
           refine iS 2 ?_
           refine V6 (e := eU8) (l := (List.replicate 32 (0 : UInt8))) (l' := a9) (m := 32) (t := 89) (x := (.tmp 2)) (y := (.tmp 83)) (g := g5) (i := 0) (d := none) (k := 1) K rfl K K m0 b0 rfl K ?_
           intro s1 h8
           refine iF ?_
           refine At.ret K ?_
           refine ⟨(.agg (Qa eU8 a9).toArray), Rf K (Nb (e := eU8) (l := a9) (a := 2) (t := 89) K (SP.get h8 (i := 0) rfl) K K), ?_⟩
           obtain rfl := Qf H
           exact ⟨rfl, SP.sel h8 [] rfl rfl⟩
         ·exact ⟨(List.replicate 32 (0 : UInt8)), 0, ⟨K, K, K, K, trivial⟩, SP.sel l9 [0, 1, 3] rfl rfl, H⟩
       ·exact ⟨u, 0, ⟨K, K, K, K, K, trivial⟩, SP.sel b8 [0, 1, 2] rfl rfl, H⟩
     ·exact ⟨c5, 0, ⟨K, K, K, K, K, K, trivial⟩, SP.sel c6 [0, 1, 2] rfl rfl, H⟩
 ·exact ⟨z9, 0, ⟨K, K, K, K, K, trivial⟩, SP.sel i4 [0, 1] rfl rfl, H⟩
def Xv (e : (List UInt8) → Int → Option ((List UInt8))) (p1 : (List UInt8)) (b : (List UInt8)) (a : Int) : Option ((List UInt8)) :=
  (cond (decide (a < ((List.length p1 : Nat) : Int))) ((idx p1 a).bind fun c => ((idx ([48, 49, 50, 51, 52, 53, 54, 55, 56, 57, 97, 98, 99, 100, 101, 102] : List UInt8) (Nk .u8 ((c).toNat : Int) 4)).bind fun f => ((idx ([48, 49, 50, 51, 52, 53, 54, 55, 56, 57, 97, 98, 99, 100, 101, 102] : List UInt8) (Yc .u8 ((c).toNat : Int) 15)).bind fun g => ((idx b (IntKind.wrap .i64 (2 * a))).bind fun i => ((some (List.set b (Int.toNat (IntKind.wrap .i64 (2 * a))) f)).bind fun d => ((idx d (IntKind.wrap .i64 ((IntKind.wrap .i64 (2 * a)) + 1))).bind fun j => ((some (List.set d (Int.toNat (IntKind.wrap .i64 ((IntKind.wrap .i64 (2 * a)) + 1))) g)).bind fun h => (e h (IntKind.wrap .i64 (a + 1)))))))))) (some (b)))
def Xw (p1 : (List UInt8)) : Nat → (List UInt8) → Int → Option ((List UInt8))
  | 0, _, _ => none
  | f + 1, a, b => Xv  (Xw p1 f) p1 a b
def Ur (p1 : (List UInt8)) : Option ((List UInt8)) :=
  ((chk (decide (0 ≤ (IntKind.wrap .i64 (2 * ((List.length p1 : Nat) : Int))) ∧ (IntKind.wrap .i64 (2 * ((List.length p1 : Nat) : Int))) ≤ 2147483648))).bind fun _ => ((some (List.replicate (Int.toNat (IntKind.wrap .i64 (2 * ((List.length p1 : Nat) : Int)))) ((0 : UInt8) : UInt8))).bind fun l5 => (Xw p1 Zw l5 0)))
set_option maxRecDepth 100000 in
set_option maxHeartbeats 4000000 in
theorem Dl (A2 : Option Addr) (c3 : Nat) (p1 : (List UInt8)) (w0 : World) (a5 : RdT eU8 w0 A2 c3 p1) (r : ((List UInt8))) (H : Ur p1 = some r) :
  Calls Tryz.prog 71 #[(.slice A2 (List.length p1) c3)] w0 (fun e w' => e = .returned (.string ⟨List.toArray r⟩) ∧ SP [] w0 w' []) := by
 unfold Ur at H
 refine Qt (n := 35) Tryz.func71 K K K ?_
 have b6 := Q1 [] w0
 refine aQ ?_
 refine aR ?_
 refine iR 1 1 [(2, (.string ⟨List.toArray ([] : List UInt8)⟩))] ?_
 refine iF ?_
 refine aQ ?_
 refine aR ?_
 refine iR 3 3 [(6, (.slice A2 (List.length p1) c3)), (7, (.int .i64 ((List.length p1 : Nat) : Int))), (8, (.int .i64 (IntKind.wrap .i64 (2 * ((List.length p1 : Nat) : Int)))))] ?_
 obtain ⟨hl6, H⟩ := Zm H
 obtain ⟨l5, hyl5, H⟩ := V5 H
 refine iS 4 ?_
 refine Qj.make (e := eU8) (l' := l5) (z := (0 : UInt8)) (v := (.int .u8 0)) (b := 1) (T := 52) (E := 5) (x := (.tmp 8)) (y := (.tmp 8)) (k1 := .i64) (k2 := .i64) (iz := (IntKind.wrap .i64 (2 * ((List.length p1 : Nat) : Int)))) (d := (some 9)) (k := 3) K rfl K K K K K rfl rfl rfl hl6 b6 hyl5 ?_
 intro g7 w8 a6 e8
 have b7 : SP [] w0 w8 [Ut 5 eU8 (some ⟨g7, 0, none⟩) (Int.toNat (IntKind.wrap .i64 (2 * ((List.length p1 : Nat) : Int)))) l5] := a6
 clear a6
 refine iR 1 5 [(3, (.slice (some ⟨g7, 0, none⟩) (List.length l5) (Int.toNat (IntKind.wrap .i64 (2 * ((List.length p1 : Nat) : Int))))))] ?_
 refine iF ?_
 refine aQ ?_
 refine aQ ?_
 refine aR ?_
 refine iR 3 3 [(10, (.slice A2 (List.length p1) c3)), (11, (.int .i64 ((List.length p1 : Nat) : Int))), (12, (.int .i64 0))] ?_
 refine iF ?_
 refine X8 K (id := 0) K ?_
 refine Ne K (fun f1 ρ w => ∃ (m : (List UInt8)) (f : Int) (g : Option Addr) (h : Nat), Zg ρ [(3, (.slice g (List.length m) h)), (10, (.slice A2 (List.length p1) c3)), (11, (.int .i64 ((List.length p1 : Nat) : Int))), (12, (.int .i64 f))] ∧ SP [] w0 w [Ut 5 eU8 g h m] ∧ Xw p1 f1 m f = some r) (by rintro ρ w ⟨m, f, g, h, hk, hs, H⟩; cases H) ?_ Zw ?_
 ·rintro f1 ρ e9 ⟨m, f, g, h, hk, s, H⟩
  refine At.known [(3, (.slice g (List.length m) h)), (10, (.slice A2 (List.length p1) c3)), (11, (.int .i64 ((List.length p1 : Nat) : Int))), (12, (.int .i64 f))] hk ?_
  replace H := (show Xv (Xw p1 f1) p1 m f = some r from H)
  unfold Xv at H
  refine aQ ?_
  refine aR ?_
  refine iR 1 1 [(13, (.bool (decide (f < ((List.length p1 : Nat) : Int)))))] ?_
  refine iF ?_
  refine aQ ?_
  refine Zu K (o := (.tmp 13)) K (b := (decide (f < ((List.length p1 : Nat) : Int)))) K (fun a3 => ?_) (fun a3 => ?_)
  ·have H := ct H a3
   refine At.skip K ?_
   refine aQ ?_
   refine X8 K (id := 1) K ?_
   refine aQ ?_
   refine aR ?_
   refine iR 1 1 [(14, (.int .i64 f))] ?_
   obtain ⟨p, a7, a8, b8, H⟩ := Qy H
   refine iS 2 ?_
   refine Z2 (e := eU8) (l := p1) (A := A2) (c := c3) (T := 52) (E := 5) (x := (.tmp 10)) (ix := (.tmp 12)) (ki := .i64) (iz := f) (d := (some 15)) (k := 1) K rfl K K K K (RdT.sp a5 s) a7 a8 ?_
   intro b9 c0 c1 f0 hc321
   refine iS 3 ?_
   refine sC 5 15 b9 (c0 + Int.toNat f * eU8.sz) (.int .u8 ((p).toNat : Int)) 16 (Qw (e := eU8) (Qp (RdT.sp a5 s) c1 a7 a8) b8 (j := 0) rfl) ?_
   refine iR 2 5 [(4, (.int .i64 f)), (5, (.int .u8 ((p).toNat : Int)))] ?_
   refine iF ?_
   obtain ⟨a2, c2, f2, c4, H⟩ := Qy H
   obtain ⟨a0, a9, f3, b0, H⟩ := Qy H
   obtain ⟨f4, b1, b2, f5, H⟩ := Qy H
   obtain ⟨q, hyl341, H⟩ := V5 H
   have hnl341 : List.length q = List.length m := by rw [← hyl341, List.length_set]
   obtain ⟨f6, b3, b4, f7, H⟩ := Qy H
   obtain ⟨a1, hyl354, H⟩ := V5 H
   have hnl354 : List.length a1 = List.length q := by rw [← hyl354, List.length_set]
   refine aG [GEq (.slice g (List.length m) h), GEq (.int .i64 f), GEq (.int .i64 (IntKind.wrap .i64 (2 * f))), GEq (.slice g (List.length m) h), GEq (.int .i64 f), GEq (.int .i64 (IntKind.wrap .i64 (2 * f))), GEq (.int .i64 (IntKind.wrap .i64 ((IntKind.wrap .i64 (2 * f)) + 1))), GEq (.int .u8 ((p).toNat : Int)), GEq (.int .u8 (Nk .u8 ((p).toNat : Int) 4)), GEq (.int .u8 ((a2).toNat : Int)), GEq (.int .u8 ((p).toNat : Int)), GEq (.int .u8 (Yc .u8 ((p).toNat : Int) 15)), GEq (.int .u8 ((a0).toNat : Int)), Xt g eU8.sz (IntKind.wrap .i64 (2 * f)), C3, Xt g eU8.sz (IntKind.wrap .i64 ((IntKind.wrap .i64 (2 * f)) + 1)), C3] [14, 16] [sG [] [] [] w0 [Ut 5 eU8 g h m], sG [14] [undef] [] w0 [Ut 5 eU8 g h q], sG [14, 16] [undef, undef] [] w0 [Ut 5 eU8 g h a1]] 17 2 ⟨trivial, SP.drew s⟩ ?_ ?_
   iterate 17 refine And.intro ?_ ?_
   exact trivial
   ·exact oV (hC (hS 3 (.slice g (List.length m) h)) (h0)) (.slice g (List.length m) h)
   ·exact oV (hC (hS 4 (.int .i64 f)) (h0)) (.int .i64 f)
   ·exact oV (hC (hA 1 18) (h0)) (.int .i64 (IntKind.wrap .i64 (2 * f)))
   ·exact oV (hC (hS 3 (.slice g (List.length m) h)) (h0)) (.slice g (List.length m) h)
   ·exact oV (hC (hS 4 (.int .i64 f)) (h0)) (.int .i64 f)
   ·exact oV (hC (hA 4 21) (h0)) (.int .i64 (IntKind.wrap .i64 (2 * f)))
   ·exact oV (hC (hA 5 22) (h0)) (.int .i64 (IntKind.wrap .i64 ((IntKind.wrap .i64 (2 * f)) + 1)))
   ·exact oV (hC (hS 5 (.int .u8 ((p).toNat : Int))) (h0)) (.int .u8 ((p).toNat : Int))
   ·exact oV (hC (hA 7 24) (h0)) (.int .u8 (Nk .u8 ((p).toNat : Int) 4))
   ·refine oL 0 ?_
    ·rintro ρ' w' hs hah ⟨f8, f9⟩
     refine kM (kc (kA hah 8 25) k0) fun hkn => ?_
     refine U3 (a := ([48, 49, 50, 51, 52, 53, 54, 55, 56, 57, 97, 98, 99, 100, 101, 102] : List UInt8)) (u := a2) (T := 9) (x := (.const (.string ⟨List.toArray ([48, 49, 50, 51, 52, 53, 54, 55, 56, 57, 97, 98, 99, 100, 101, 102] : List UInt8)⟩))) (ix := (.tmp 25)) (ki := .u8) (iz := (Nk .u8 ((p).toNat : Int) 4)) (d := (some 26)) (k := 9) K rfl K K K c2 c4 ?_
     exact eK hkn
   ·exact oV (hC (hS 5 (.int .u8 ((p).toNat : Int))) (h0)) (.int .u8 ((p).toNat : Int))
   ·exact oV (hC (hA 10 27) (h0)) (.int .u8 (Yc .u8 ((p).toNat : Int) 15))
   ·refine Owe.light K [0, 1] K (Ql ?_ (Ql ?_ Vu))
    ·rintro ρ' w' hs hah ⟨g0, g1⟩
     refine kM (kc (kA hah 11 28) k0) fun hkn => ?_
     refine U3 (a := ([48, 49, 50, 51, 52, 53, 54, 55, 56, 57, 97, 98, 99, 100, 101, 102] : List UInt8)) (u := a0) (T := 9) (x := (.const (.string ⟨List.toArray ([48, 49, 50, 51, 52, 53, 54, 55, 56, 57, 97, 98, 99, 100, 101, 102] : List UInt8)⟩))) (ix := (.tmp 28)) (ki := .u8) (iz := (Yc .u8 ((p).toNat : Int) 15)) (d := (some 29)) (k := 12) K rfl K K K a9 b0 ?_
     exact eK hkn
    ·rintro ρ' w' hs hah ⟨⟨g2, -⟩, g3⟩
     refine kM (kc (kA hah 11 28) k0) fun hkn => ?_
     refine U3 (a := ([48, 49, 50, 51, 52, 53, 54, 55, 56, 57, 97, 98, 99, 100, 101, 102] : List UInt8)) (u := a0) (T := 9) (x := (.const (.string ⟨List.toArray ([48, 49, 50, 51, 52, 53, 54, 55, 56, 57, 97, 98, 99, 100, 101, 102] : List UInt8)⟩))) (ix := (.tmp 28)) (ki := .u8) (iz := (Yc .u8 ((p).toNat : Int) 15)) (d := (some 29)) (k := 12) K rfl K K K a9 b0 ?_
     exact eK hkn
   ·refine oL 0 ?_
    ·rintro ρ' w' hs hah ⟨g4, c5⟩
     refine kM (kc (kA hah 0 17) (kc (kA hah 2 19) k0)) fun hkn => ?_
     refine Z2 (e := eU8) (l := m) (A := g) (c := h) (T := 52) (E := 5) (x := (.tmp 17)) (ix := (.tmp 19)) (ki := .i64) (iz := (IntKind.wrap .i64 (2 * f))) (d := (some 30)) (k := 13) K rfl K K K K (V1 (SP.get c5 (i := 0) rfl)) b1 b2 ?_
     intro c6 c7 c8 g5 hc378
     exact ⟨rfl, _, Qb hkn, ⟨c6, c7, c8, rfl⟩⟩
   ·refine oH 0 1 ?_
    ·rintro ρ' w' hs hah ⟨g6, c9⟩
     obtain ⟨d0, d1, d2, d3⟩ := hah 13 30 K
     refine kM (kc d3 (kc (kA hah 9 26) k0)) fun hkn => ?_
     refine G8 (e := eU8) (t := 5) (E := 5) (x := (.tmp 30)) (y := (.tmp 26)) (A := g) (c := h) (l := m) (iz := (IntKind.wrap .i64 (2 * f))) (b := d0) (off := d1) (i := 0) (v := (.int .u8 ((a2).toNat : Int))) (x' := a2) (d := none) (k := 14) K rfl K K c9 rfl d2 rfl b2 b1 rfl K ?_
     rw [hyl341]
     intro g8 d4
     refine ⟨_, Qb hkn, trivial, ?_⟩
     exact (And.intro (And.intro rfl (trivial)) (d4))
   ·refine oL 1 ?_
    ·rintro ρ' w' hs hah ⟨⟨g9, -⟩, d5⟩
     have a4 := hah 3 20 K
     replace a4 : ρ' 20 = (.slice g (List.length q) h) := by rw [hnl341]; exact a4
     refine kM (kc a4 (kc (kA hah 6 23) k0)) fun hkn => ?_
     refine Z2 (e := eU8) (l := q) (A := g) (c := h) (T := 52) (E := 5) (x := (.tmp 20)) (ix := (.tmp 23)) (ki := .i64) (iz := (IntKind.wrap .i64 ((IntKind.wrap .i64 (2 * f)) + 1))) (d := (some 31)) (k := 15) K rfl K K K K (V1 (SP.get d5 (i := 0) rfl)) b3 b4 ?_
     intro d6 d7 d8 h1 hc394
     exact ⟨rfl, _, Qb hkn, ⟨d6, d7, d8, rfl⟩⟩
   ·refine oH 1 2 ?_
    ·rintro ρ' w' hs hah ⟨⟨d9, -⟩, e0⟩
     obtain ⟨e1, e2, e4, e5⟩ := hah 15 31 K
     refine kM (kc e5 (kc (kA hah 12 29) k0)) fun hkn => ?_
     refine G8 (e := eU8) (t := 5) (E := 5) (x := (.tmp 31)) (y := (.tmp 29)) (A := g) (c := h) (l := q) (iz := (IntKind.wrap .i64 ((IntKind.wrap .i64 (2 * f)) + 1))) (b := e1) (off := e2) (i := 0) (v := (.int .u8 ((a0).toNat : Int))) (x' := a0) (d := none) (k := 16) K rfl K K e0 rfl e4 rfl b4 b3 rfl K ?_
     rw [hyl354]
     intro h2 e6
     refine ⟨_, Qb hkn, trivial, ?_⟩
     exact (And.intro (And.intro d9 (And.intro rfl (trivial))) (e6))
   ·rintro ρ' w' hs hf ⟨⟨h3, h4, -⟩, b5⟩
    have e3 : ρ' 3 = (.slice g (List.length m) h) := (hs 3 K).trans K
    replace e3 : ρ' 3 = (.slice g (List.length a1) h) := by rw [hnl354, hnl341]; exact e3
    refine Vj [(3, (.slice g (List.length a1) h)), (10, (.slice A2 (List.length p1) c3)), (11, (.int .i64 ((List.length p1 : Nat) : Int))), (12, (.int .i64 f))] ⟨e3, (hs 10 K).trans K, (hs 11 K).trans K, (hs 12 K).trans K, trivial⟩ ?_
    obtain ⟨h5, e7⟩ : ∃ x, w' = x := ⟨_, rfl⟩
    rw [e7] at b5 ⊢
    refine aR ?_
    refine iR 2 2 [(32, (.int .i64 (IntKind.wrap .i64 (f + 1)))), (12, (.int .i64 (IntKind.wrap .i64 (f + 1))))] ?_
    refine iF ?_
    exact ⟨a1, (IntKind.wrap .i64 (f + 1)), g, h, ⟨K, K, K, K, trivial⟩, SP.sel b5 [0] rfl rfl, H⟩
  ·have H := cf H a3
   refine At.exit K (id := 0) K ?_
   refine aQ ?_
   refine aR ?_
   refine iR 1 1 [(33, (.slice g (List.length m) h))] ?_
   refine iS 2 ?_
   refine Ho (T := 52) (S' := 9) (E := 5) (x := (.tmp 33)) (A := g) (c := h) (l := m) (d := (some 34)) (k := 1) K rfl K K K K (V1 (SP.get s (i := 0) rfl)) ?_
   refine iR 1 3 [(2, (.string ⟨List.toArray m⟩))] ?_
   refine iF ?_
   refine At.ret K ?_
   refine ⟨(.string ⟨List.toArray m⟩), K, ?_⟩
   obtain rfl := Qf H
   exact ⟨rfl, SP.sel s [] rfl rfl⟩
 ·exact ⟨l5, 0, (some ⟨g7, 0, none⟩), (Int.toNat (IntKind.wrap .i64 (2 * ((List.length p1 : Nat) : Int)))), ⟨K, K, K, K, trivial⟩, SP.sel b7 [0] rfl rfl, H⟩
end Go.Proofs.YtmgfanhcdfobhaaGreatDoor
namespace Go.Proofs.YtmgfanhcdfobhaaGreatDoor
theorem Bl (x : BitVec 32) : IntKind.wrap .u32 (x.toNat : Int) = (x.toNat : Int) := by
  have := x.isLt
  unfold IntKind.wrap
  simp only [IntKind.bits, IntKind.signed]
  simp
  omega
theorem Cu (x : BitVec 32) : BitVec.ofInt 32 (x.toNat : Int) = x := by
  rw [BitVec.ofInt_natCast, BitVec.ofNat_toNat, BitVec.setWidth_eq]
theorem bAnd_bv (a b : Int) : Yc .u32 a b = ((BitVec.ofInt 32 a &&& BitVec.ofInt 32 b).toNat : Int) := Bl _
theorem Hb (a b : Int) : bOr .u32 a b = ((BitVec.ofInt 32 a ||| BitVec.ofInt 32 b).toNat : Int) := Bl _
theorem bXor_bv (a b : Int) : Xn .u32 a b = ((BitVec.ofInt 32 a ^^^ BitVec.ofInt 32 b).toNat : Int) := Bl _
theorem bOr_comm (a b : Int) : bOr .u32 a b = bOr .u32 b a := by rw [Hb, Hb, BitVec.or_comm]
theorem ch_eq (a b c : Int) : Xn .u32 c (Yc .u32 a (Xn .u32 b c)) = Xn .u32 (Yc .u32 a b) (Yc .u32 (Xn .u32 (IntKind.max .u32) a) c) := by
  simp only [bXor_bv, bAnd_bv, Cu]
  have hm : BitVec.ofInt 32 (IntKind.max .u32) = BitVec.allOnes 32 := by decide
  rw [hm]
  generalize BitVec.ofInt 32 a = x
  generalize BitVec.ofInt 32 b = y
  generalize BitVec.ofInt 32 c = z
  congr 2
  apply BitVec.eq_of_getLsbD_eq
  intro i hi
  simp only [BitVec.getLsbD_xor, BitVec.getLsbD_and, BitVec.getLsbD_or, BitVec.getLsbD_allOnes, hi, decide_true]
  cases x.getLsbD i <;> cases y.getLsbD i <;> cases z.getLsbD i <;> rfl
theorem maj_eq (a b c : Int) : bOr .u32 (Yc .u32 a (bOr .u32 b c)) (Yc .u32 b c) = Xn .u32 (Xn .u32 (Yc .u32 a b) (Yc .u32 a c)) (Yc .u32 b c) := by
  simp only [bXor_bv, bAnd_bv, Hb, Cu]
  generalize BitVec.ofInt 32 a = x
  generalize BitVec.ofInt 32 b = y
  generalize BitVec.ofInt 32 c = z
  congr 2
  apply BitVec.eq_of_getLsbD_eq
  intro i hi
  simp only [BitVec.getLsbD_xor, BitVec.getLsbD_and, BitVec.getLsbD_or, BitVec.getLsbD_allOnes, hi, decide_true]
  cases x.getLsbD i <;> cases y.getLsbD i <;> cases z.getLsbD i <;> rfl
def rotI (x n : Int) : Int := bOr .u32 (Nk .u32 x n) (Gn .u32 x (32 - n))
def smlI (x a b c : Int) : Int := Xn .u32 (Xn .u32 (rotI x a) (rotI x b)) (Nk .u32 x c)
def grtI (x a b c : Int) : Int := Xn .u32 (Xn .u32 (rotI x a) (rotI x b)) (rotI x c)
theorem Gg (x n : Int) (h1 : Yc .u64 (IntKind.wrap .u64 (IntKind.wrap .i64 (0 - n))) 31 = 32 - n) (h2 : IntKind.wrap .u64 (32 - (32 - n)) = n) (h3 : 0 ≤ n ∧ n ≤ 32) : Vs x (IntKind.wrap .i64 (0 - n)) = some (rotI x n) := by
  unfold Vs
  rw [h1, h2]
  rw [show decide (0 ≤ 32 - n) = true by simp; omega, show decide (0 ≤ n) = true by simp; omega]
  simp only [chk, Option.bind_some]
  rw [bOr_comm]
  rfl
theorem mix_17 (x : Int) : Vt x [17, 19, 10] true = some (smlI x 17 19 10) := by
  have a := Gg x 17 (by decide) (by decide) (by decide)
  have b := Gg x 19 (by decide) (by decide) (by decide)
  have c := Gg x 10 (by decide) (by decide) (by decide)
  unfold Vt Zj
  simp only [idx, Int.toNat, List.getElem?_cons_zero, List.getElem?_cons_succ, Option.bind_some, cond_true, chk, Int.reduceLE, if_true, decide_true, a, b, c]
  rfl
theorem mix_7 (x : Int) : Vt x [7, 18, 3] true = some (smlI x 7 18 3) := by
  have a := Gg x 7 (by decide) (by decide) (by decide)
  have b := Gg x 18 (by decide) (by decide) (by decide)
  have c := Gg x 3 (by decide) (by decide) (by decide)
  unfold Vt Zj
  simp only [idx, Int.toNat, List.getElem?_cons_zero, List.getElem?_cons_succ, Option.bind_some, cond_true, chk, Int.reduceLE, if_true, decide_true, a, b, c]
  rfl
theorem mix_6 (x : Int) : Vt x [6, 11, 25] false = some (grtI x 6 11 25) := by
  have a := Gg x 6 (by decide) (by decide) (by decide)
  have b := Gg x 11 (by decide) (by decide) (by decide)
  have c := Gg x 25 (by decide) (by decide) (by decide)
  unfold Vt Zj
  simp only [idx, Int.toNat, List.getElem?_cons_zero, List.getElem?_cons_succ, Option.bind_some, cond_false, chk, Int.reduceLE, if_true, decide_true, a, b, c]
  rfl
theorem mix_2 (x : Int) : Vt x [2, 13, 22] false = some (grtI x 2 13 22) := by
  have a := Gg x 2 (by decide) (by decide) (by decide)
  have b := Gg x 13 (by decide) (by decide) (by decide)
  have c := Gg x 22 (by decide) (by decide) (by decide)
  unfold Vt Zj
  simp only [idx, Int.toNat, List.getElem?_cons_zero, List.getElem?_cons_succ, Option.bind_some, cond_false, chk, Int.reduceLE, if_true, decide_true, a, b, c]
  rfl
theorem Fq {α : Type} (l : List α) (i : Nat) (x d : α) (h : i < l.length) : (l.set i x).getD i d = x := by simp [List.getD, h]
theorem Fs {α : Type} (l : List α) (i j : Nat) (x d : α) (h : i ≠ j) : (l.set i x).getD j d = l.getD j d := by simp [List.getD, List.getElem?_set, h]
theorem Z9 {α : Type} (l : List α) (i : Nat) (d : α) (h : i < l.length) : idx l (i : Int) = some (l.getD i d) := by rw [Ji h]; simp [List.getD, h]
def wordI (b0 b1 b2 b3 : UInt8) : Int := bOr .u32 (bOr .u32 (bOr .u32 (Gn .u32 (IntKind.wrap .u32 ((b0).toNat : Int)) 24) (Gn .u32 (IntKind.wrap .u32 ((b1).toNat : Int)) 16)) (Gn .u32 (IntKind.wrap .u32 ((b2).toNat : Int)) 8)) (IntKind.wrap .u32 ((b3).toNat : Int))
def mixI (w : List Int) (t : Nat) : Int := IntKind.wrap .u32 (IntKind.wrap .u32 (IntKind.wrap .u32 (smlI (w.getD (t - 2) 0) 17 19 10 + w.getD (t - 7) 0) + smlI (w.getD (t - 15) 0) 7 18 3) + w.getD (t - 16) 0)
def Rb (b : List UInt8) : Nat → List Int
  | 0 => List.replicate 64 0
  | t + 1 => (Rb b t).set t (if t < 16 then wordI (b.getD (4 * t) 0) (b.getD (4 * t + 1) 0) (b.getD (4 * t + 2) 0) (b.getD (4 * t + 3) 0) else mixI (Rb b t) t)
theorem Ug (b : List UInt8) : ∀ t, (Rb b t).length = 64
  | 0 => by simp [Rb]
  | t + 1 => by simp [Rb, Ug b t]
theorem Eu (b : List UInt8) : ∀ t q, t ≤ q → (Rb b t).getD q 0 = 0
  | 0, q, _ => by simp only [Rb, List.getD, List.getElem?_replicate]; split <;> rfl
  | t + 1, q, h => by
    simp only [Rb]
    rw [Fs _ _ _ _ _ (by omega)]
    exact Eu b t q (by omega)
theorem Hv (rec4 : List Int → Int → Option (List Int)) (b : List UInt8) : ∀ (d t f : Nat), d = 64 - t → 16 ≤ t → t ≤ 64 → d < f → Zz rec4 f (Rb b t) (t : Int) = some (Rb b 64) := by
  intro d
  induction d with
  | zero =>
    intro t f hd h16 ht hf
    obtain ⟨f, rfl⟩ : ∃ g, f = g + 1 := ⟨f - 1, by omega⟩
    have : t = 64 := by omega
    subst this
    rfl
  | succ d ih =>
    intro t f hd h16 ht hf
    obtain ⟨f, rfl⟩ : ∃ g, f = g + 1 := ⟨f - 1, by omega⟩
    show Yi rec4 (Zz rec4 f) (Rb b t) (t : Int) = _
    unfold Yi
    have hl := Ug b t
    have hnext : ∀ x, (Rb b (t + 1)) = x → Zz rec4 f x (IntKind.wrap .i64 ((t : Int) + 1)) = some (Rb b 64) := by
      intro x hx
      rw [show ((t : Int) + 1) = ((t + 1 : Nat) : Int) by omega, Xu (by omega), ← hx]
      exact ih (t + 1) f (by omega) (by omega) (by omega) (by omega)
    rw [show decide ((t : Int) < 64) = true by simp; omega, cond_true]
    have e2 : IntKind.wrap .i64 ((t : Int) - 2) = ((t - 2 : Nat) : Int) := by rw [show ((t : Int) - 2) = ((t - 2 : Nat) : Int) by omega, Xu (by omega)]
    have e7 : IntKind.wrap .i64 ((t : Int) - 7) = ((t - 7 : Nat) : Int) := by rw [show ((t : Int) - 7) = ((t - 7 : Nat) : Int) by omega, Xu (by omega)]
    have e15 : IntKind.wrap .i64 ((t : Int) - 15) = ((t - 15 : Nat) : Int) := by rw [show ((t : Int) - 15) = ((t - 15 : Nat) : Int) by omega, Xu (by omega)]
    have e16 : IntKind.wrap .i64 ((t : Int) - 16) = ((t - 16 : Nat) : Int) := by rw [show ((t : Int) - 16) = ((t - 16 : Nat) : Int) by omega, Xu (by omega)]
    rw [e2, e7, e15, e16]
    rw [Z9 (Rb b t) (t - 2) 0 (by omega), Z9 (Rb b t) (t - 7) 0 (by omega), Z9 (Rb b t) (t - 15) 0 (by omega), Z9 (Rb b t) (t - 16) 0 (by omega), Z9 (Rb b t) t 0 (by omega)]
    simp only [Option.bind_some, Int.toNat_natCast, mix_17, mix_7]
    exact hnext _ (by simp only [Rb]; rw [if_neg (by omega)]; rfl)
def Hw (b : List UInt8) : Nat → List Int
  | 0 => List.replicate 64 0
  | i + 1 => (Hw b i).set (i / 4) (bOr .u32 (Gn .u32 ((Hw b i).getD (i / 4) 0) 8) (IntKind.wrap .u32 ((b.getD i 0).toNat : Int)))
theorem Rp (b : List UInt8) : ∀ t, (Hw b t).length = 64
  | 0 => by simp [Hw]
  | t + 1 => by simp [Hw, Rp b t]
theorem byte_bv (c : UInt8) : IntKind.wrap .u32 ((c.toNat : Nat) : Int) = (((c.toBitVec.setWidth 32 : BitVec 32)).toNat : Int) := by
  have h1 := c.toNat_lt
  have : (c.toBitVec.setWidth 32 : BitVec 32).toNat = c.toNat := by
    rw [BitVec.toNat_setWidth]
    show c.toNat % 2 ^ 32 = _
    omega
  rw [this]
  unfold IntKind.wrap
  simp only [IntKind.bits, IntKind.signed]
  simp
  omega
theorem Ft (x : BitVec 32) (n : Nat) (h : n < 32) : Gn .u32 (x.toNat : Int) (n : Int) = ((x <<< n).toNat : Int) := by
  have hx := x.isLt
  unfold Gn
  have hmin : min (n : Int).toNat (IntKind.bits .u32) = n := by show min n 32 = n; omega
  rw [hmin]
  have h2 : ((x.toNat : Int) * 2 ^ n) = ((x.toNat * 2 ^ n : Nat) : Int) := by push_cast; rfl
  rw [h2]
  unfold IntKind.wrap
  simp only [IntKind.bits, IntKind.signed]
  rw [BitVec.toNat_shiftLeft, Nat.shiftLeft_eq]
  simp
theorem word_eq (b0 b1 b2 b3 : UInt8) : bOr .u32 (Gn .u32 (bOr .u32 (Gn .u32 (bOr .u32 (Gn .u32 (bOr .u32 (Gn .u32 0 8) (IntKind.wrap .u32 (b0.toNat : Int))) 8) (IntKind.wrap .u32 (b1.toNat : Int))) 8) (IntKind.wrap .u32 (b2.toNat : Int))) 8) (IntKind.wrap .u32 (b3.toNat : Int)) = wordI b0 b1 b2 b3 := by
  unfold wordI
  have h0 : (0 : Int) = ((0 : BitVec 32).toNat : Int) := rfl
  have s8 : ∀ x : BitVec 32, Gn .u32 (x.toNat : Int) 8 = ((x <<< 8).toNat : Int) := fun x => Ft x 8 (by omega)
  have s16 : ∀ x : BitVec 32, Gn .u32 (x.toNat : Int) 16 = ((x <<< 16).toNat : Int) := fun x => Ft x 16 (by omega)
  have s24 : ∀ x : BitVec 32, Gn .u32 (x.toNat : Int) 24 = ((x <<< 24).toNat : Int) := fun x => Ft x 24 (by omega)
  rw [h0]
  simp only [byte_bv, s8, s16, s24, Hb, Cu]
  congr 2
  apply BitVec.eq_of_getLsbD_eq
  intro i hi
  simp only [BitVec.getLsbD_or, BitVec.getLsbD_shiftLeft, BitVec.getLsbD_setWidth, BitVec.getLsbD_zero, hi, decide_true, Bool.true_and, Bool.and_false, Bool.false_or]
  by_cases h8 : i < 8
  · simp [h8, show i < 16 by omega, show i < 24 by omega]
  · by_cases h16 : i < 16
    · simp [h8, h16, show i < 24 by omega, show i - 8 < 8 by omega, show i - 8 < 32 by omega]
    · by_cases h24 : i < 24
      · simp [h8, h16, h24, show ¬ i - 8 < 8 by omega, show i - 8 - 8 < 8 by omega, show i - 8 - 8 = i - 16 by omega, show i - 16 < 8 by omega, show i - 8 < 32 by omega, show i - 16 < 32 by omega]
      · simp [h8, h16, h24, show ¬ i - 8 < 8 by omega, show ¬ i - 8 - 8 < 8 by omega, show i - 8 - 8 - 8 = i - 24 by omega, show i - 8 - 8 = i - 16 by omega, show ¬ i - 16 < 8 by omega, show i - 8 < 32 by omega, show i - 16 < 32 by omega, show i - 24 < 32 by omega, show i - 16 - 8 = i - 24 by omega]
theorem four_set (S : List Int) (t : Nat) (h : t < S.length) (f0 f1 f2 f3 : Int → Int) :
    (((S.set t (f0 (S.getD t 0))).set t (f1 ((S.set t (f0 (S.getD t 0))).getD t 0))).set t (f2 (((S.set t (f0 (S.getD t 0))).set t (f1 ((S.set t (f0 (S.getD t 0))).getD t 0))).getD t 0))).set t (f3 ((((S.set t (f0 (S.getD t 0))).set t (f1 ((S.set t (f0 (S.getD t 0))).getD t 0))).set t (f2 (((S.set t (f0 (S.getD t 0))).set t (f1 ((S.set t (f0 (S.getD t 0))).getD t 0))).getD t 0))).getD t 0)) =
      S.set t (f3 (f2 (f1 (f0 (S.getD t 0))))) := by
  simp only [List.set_set, Fq _ _ _ _ h]
theorem Ev (b : List UInt8) : ∀ t, t ≤ 16 → Hw b (4 * t) = Rb b t
  | 0, _ => rfl
  | t + 1, h => by
    have ih := Ev b t (by omega)
    have hl := Rp b (4 * t)
    have hz := Eu b t t (Nat.le_refl _)
    rw [show 4 * (t + 1) = 4 * t + 3 + 1 by omega]
    have d0 : 4 * t / 4 = t := by omega
    have d1 : (4 * t + 1) / 4 = t := by omega
    have d2 : (4 * t + 2) / 4 = t := by omega
    have d3 : (4 * t + 3) / 4 = t := by omega
    simp only [Hw, d0, d1, d2, d3]
    rw [ih]
    have hlt : t < (Rb b t).length := by rw [Ug]; omega
    refine (four_set (Rb b t) t hlt (fun x => bOr .u32 (Gn .u32 x 8) (IntKind.wrap .u32 ((b.getD (4 * t) 0).toNat : Int))) (fun x => bOr .u32 (Gn .u32 x 8) (IntKind.wrap .u32 ((b.getD (4 * t + 1) 0).toNat : Int)))
      (fun x => bOr .u32 (Gn .u32 x 8) (IntKind.wrap .u32 ((b.getD (4 * t + 2) 0).toNat : Int))) (fun x => bOr .u32 (Gn .u32 x 8) (IntKind.wrap .u32 ((b.getD (4 * t + 3) 0).toNat : Int)))).trans ?_
    simp only [hz, word_eq, Rb, show t < 16 by omega, if_true]
theorem Fu (b : List UInt8) (hb : b.length = 64) : ∀ (d i f : Nat), d = 64 - i → i ≤ 64 → d < f → Vy b f (Hw b i) (i : Int) = some (Rb b 64) := by
  intro d
  induction d with
  | zero =>
    intro i f hd hi hf
    obtain ⟨f, rfl⟩ : ∃ g, f = g + 1 := ⟨f - 1, by omega⟩
    have : i = 64 := by omega
    subst this
    show Z0 (Vy b f) b (Hw b 64) _ = _
    unfold Z0
    rw [hb, show decide (((64 : Nat) : Int) < ((64 : Nat) : Int)) = false by decide, cond_false]
    rw [show Hw b 64 = Rb b 16 from Ev b 16 (by omega)]
    exact Hv _ b 48 16 Zw (by omega) (by omega) (by omega) (by unfold Zw; omega)
  | succ d ih =>
    intro i f hd hi hf
    obtain ⟨f, rfl⟩ : ∃ g, f = g + 1 := ⟨f - 1, by omega⟩
    show Z0 (Vy b f) b (Hw b i) _ = _
    unfold Z0
    have hl := Rp b i
    rw [hb, show decide ((i : Int) < ((64 : Nat) : Int)) = true by simp; omega, cond_true]
    have e4 : IntKind.wrap .i64 (Int.tdiv (i : Int) 4) = ((i / 4 : Nat) : Int) := by
      have := D4 i 4
      rw [show ((4 : Nat) : Int) = 4 from rfl] at this
      rw [this, Xu (by omega)]
    rw [e4, Z9 b i 0 (by omega), Z9 (Hw b i) (i / 4) 0 (by omega)]
    simp only [Option.bind_some, Int.toNat_natCast]
    rw [show ((i : Int) + 1) = ((i + 1 : Nat) : Int) by omega, Xu (by omega)]
    exact ih (i + 1) f (by omega) (by omega) (by omega)
theorem Dm {b c : List UInt8} (h : ∀ i, i < 64 → b.getD i 0 = c.getD i 0) : ∀ t, Rb b t = Rb c t
  | 0 => rfl
  | t + 1 => by
    simp only [Rb, Dm h t]
    by_cases h16 : t < 16
    · simp only [h16, if_true]
      rw [h _ (by omega), h _ (by omega), h _ (by omega), h _ (by omega)]
    · simp only [h16, if_false]
theorem Hc (b : List UInt8) (hb : 64 ≤ b.length) : Y1 b = some (Rb b 64) := by
  unfold Y1
  have hs := Cr b (i := 0) (j := 64) (by omega) hb
  rw [show ((0 : Nat) : Int) = 0 from rfl, show ((64 : Nat) : Int) = 64 from rfl] at hs
  rw [hs, Option.bind_some]
  have h64 : ((b.take 64).drop 0).length = 64 := by simp; omega
  have := Fu ((b.take 64).drop 0) h64 64 0 Zw (by omega) (by omega) (by unfold Zw; omega)
  rw [show Hw ((b.take 64).drop 0) 0 = List.replicate 64 0 from rfl] at this
  rw [show ((0 : Nat) : Int) = 0 from rfl] at this
  have hc := Dm (b := (b.take 64).drop 0) (c := b) (fun i hi => by simp [List.getD, List.getElem?_take, hi]) 64
  rw [this, hc]
end Go.Proofs.YtmgfanhcdfobhaaGreatDoor
namespace Go.Proofs.YtmgfanhcdfobhaaGreatDoor
def rndX (e f g h k w : Int) : Int := IntKind.wrap .u32 (IntKind.wrap .u32 (IntKind.wrap .u32 (IntKind.wrap .u32 (h + grtI e 6 11 25) + Xn .u32 (Yc .u32 e f) (Yc .u32 (Xn .u32 (IntKind.max .u32) e) g)) + k) + w)
def rndY (a b c : Int) : Int := IntKind.wrap .u32 (grtI a 2 13 22 + Xn .u32 (Xn .u32 (Yc .u32 a b) (Yc .u32 a c)) (Yc .u32 b c))
def rnd (s : List Int) (k w : Int) : List Int :=
  match s with
  | [a, b, c, d, e, f, g, h] => [IntKind.wrap .u32 (rndX e f g h k w + rndY a b c), a, b, c, IntKind.wrap .u32 (d + rndX e f g h k w), e, f, g]
  | _ => []
theorem eight {s : List Int} (h : s.length = 8) : ∃ a b c d e f g i, s = [a, b, c, d, e, f, g, i] := by
  match s, h with
  | [a, b, c, d, e, f, g, i], _ => exact ⟨a, b, c, d, e, f, g, i, rfl⟩
theorem Hx {s : List Int} (h : s.length = 8) (k w : Int) : (rnd s k w).length = 8 := by
  obtain ⟨a, b, c, d, e, f, g, i, rfl⟩ := eight h
  rfl
def Dt : List Int := [1116352408, 1899447441, 3049323471, 3921009573, 961987163, 1508970993, 2453635748, 2870763221, 3624381080, 310598401, 607225278, 1426881987, 1925078388, 2162078206, 2614888103, 3248222580, 3835390401, 4022224774, 264347078, 604807628, 770255983, 1249150122, 1555081692, 1996064986, 2554220882, 2821834349, 2952996808, 3210313671, 3336571891, 3584528711, 113926993, 338241895, 666307205, 773529912, 1294757372, 1396182291, 1695183700, 1986661051, 2177026350, 2456956037, 2730485921, 2820302411, 3259730800, 3345764771, 3516065817, 3600352804, 4094571909, 275423344, 430227734, 506948616, 659060556, 883997877, 958139571, 1322822218, 1537002063, 1747873779, 1955562222, 2024104815, 2227730452, 2361852424, 2428436474, 2756734187, 3204031479, 3329325298]
theorem Hy : Um = some Dt := rfl
theorem Du : Dt.length = 64 := rfl
theorem Hz (rec4 : List Int → Int → Option (List Int)) (p1 w z : List Int) {s : List Int} (hs : s.length = 8) {t : Nat} (ht : t < 64) (hz : z.length = 64) (hw : w.length = 64) :
    Vn rec4 p1 w z s (t : Int) = rec4 (rnd s (z.getD t 0) (w.getD t 0)) ((t + 1 : Nat) : Int) := by
  obtain ⟨a, b, c, d, e, f, g, h, rfl⟩ := eight hs
  unfold Vn
  have i0 : idx [a, b, c, d, e, f, g, h] 0 = some a := rfl
  have i1 : idx [a, b, c, d, e, f, g, h] 1 = some b := rfl
  have i2 : idx [a, b, c, d, e, f, g, h] 2 = some c := rfl
  have i4 : idx [a, b, c, d, e, f, g, h] 4 = some e := rfl
  have i5 : idx [a, b, c, d, e, f, g, h] 5 = some f := rfl
  have i6 : idx [a, b, c, d, e, f, g, h] 6 = some g := rfl
  have i7 : idx [a, b, c, d, e, f, g, h] 7 = some h := rfl
  have s1 : sub [a, b, c, d, e, f, g, h] 1 (([a, b, c, d, e, f, g, h].length : Nat) : Int) = some [b, c, d, e, f, g, h] := rfl
  have s0 : sub [a, b, c, d, e, f, g, h] 0 7 = some [a, b, c, d, e, f, g] := rfl
  have cp : cpy [a, b, c, d, e, f, g, h] (Int.toNat 1) [b, c, d, e, f, g, h].length [a, b, c, d, e, f, g] = [a, a, b, c, d, e, f, g] := rfl
  have j4 : idx [a, a, b, c, d, e, f, g] 4 = some d := rfl
  have j0 : idx [a, a, b, c, d, e, f, g] 0 = some a := rfl
  have st0 : ∀ x, List.set [a, a, b, c, d, e, f, g] (Int.toNat 0) x = [x, a, b, c, d, e, f, g] := fun _ => rfl
  have k4 : ∀ x, idx [x, a, b, c, d, e, f, g] 4 = some d := fun _ => rfl
  have st4 : ∀ x y, List.set [x, a, b, c, d, e, f, g] (Int.toNat 4) y = [x, a, b, c, y, e, f, g] := fun _ _ => rfl
  have iz := Z9 z t 0 (by omega)
  have iw := Z9 w t 0 (by omega)
  rw [show decide ((t : Int) < 64) = true by simp; omega, cond_true, show ((t : Int) + 1) = ((t + 1 : Nat) : Int) by omega, Xu (by omega)]
  simp only [i0, i1, i2, i4, i5, i6, i7, iz, iw, mix_6, mix_2, s1, s0, Option.bind_some, cp, j4, j0, st0, k4, st4, ch_eq, maj_eq]
  rfl
def rndS (p w : List Int) : Nat → List Int
  | 0 => p
  | t + 1 => rnd (rndS p w t) (Dt.getD t 0) (w.getD t 0)
theorem Ga {p : List Int} (h : p.length = 8) (w : List Int) : ∀ t, (rndS p w t).length = 8
  | 0 => h
  | t + 1 => Hx (Ga h w t) _ _
def addI (p s : List Int) : List Int := (s.zip p).map fun x => IntKind.wrap .u32 (x.1 + x.2)
theorem prog_add (rec4 : List Int → Int → Option (List Int)) {p s : List Int} (hp : p.length = 8) (hs : s.length = 8) (f : Nat) : Zk rec4 p (f + 9) s 0 = some (addI p s) := by
  obtain ⟨a, b, c, d, e, q, g, h, rfl⟩ := eight hs
  obtain ⟨a', b', c', d', e', q', g', h', rfl⟩ := eight hp
  rfl
theorem Fv {p s : List Int} (hp : p.length = 8) (hs : s.length = 8) : (addI p s).length = 8 := by simp [addI, hp, hs]
theorem fuel9 : Zw = (Zw - 9) + 9 := by unfold Zw; omega
theorem Fw (p w : List Int) (hp : p.length = 8) (hw : w.length = 64) : ∀ (d t f : Nat), d = 64 - t → t ≤ 64 → d < f → Q4 p w Dt f (rndS p w t) (t : Int) = some (addI p (rndS p w 64)) := by
  intro d
  induction d with
  | zero =>
    intro t f hd ht hf
    obtain ⟨f, rfl⟩ : ∃ g, f = g + 1 := ⟨f - 1, by omega⟩
    have : t = 64 := by omega
    subst this
    show Vn (Q4 p w Dt f) p w Dt (rndS p w 64) ((64 : Nat) : Int) = _
    unfold Vn
    rw [show decide (((64 : Nat) : Int) < 64) = false by decide, cond_false, fuel9, prog_add _ hp (Ga hp w 64)]
  | succ d ih =>
    intro t f hd ht hf
    obtain ⟨f, rfl⟩ : ∃ g, f = g + 1 := ⟨f - 1, by omega⟩
    show Vn (Q4 p w Dt f) p w Dt (rndS p w t) (t : Int) = _
    rw [Hz _ _ _ _ (Ga hp w t) (by omega) Du hw]
    exact ih (t + 1) f (by omega) (by omega) (by omega)
def blkL (h : List Int) (b : List UInt8) : List Int := addI h (rndS h (Rb b 64) 64)
theorem Rq {h : List Int} (hh : h.length = 8) (b : List UInt8) : (blkL h b).length = 8 := Fv hh (Ga hh _ 64)
theorem H0 {b c : List UInt8} (hh : ∀ i, i < 64 → b.getD i 0 = c.getD i 0) (h : List Int) : blkL h b = blkL h c := by
  have := Dm hh 64
  unfold blkL
  rw [this]
theorem Bm {h : List Int} (hh : h.length = 8) {b : List UInt8} (hb : 64 ≤ b.length) : Zl h (Rb b 64) = some (blkL h b) := by
  have hsc := Ug b 64
  unfold Zl blkL
  rw [Hy]
  generalize Rb b 64 = w at hsc ⊢
  have h1 := Fw h w hh hsc 64 0 Zw (by omega) (by omega) (by unfold Zw; omega)
  simp only [Option.bind_some, Du, hsc, Nat.beq_refl, chk]
  exact h1
end Go.Proofs.YtmgfanhcdfobhaaGreatDoor
namespace Go.Proofs.YtmgfanhcdfobhaaGreatDoor
def h0I : List Int := [1779033703, 3144134277, 1013904242, 2773480762, 1359893119, 2600822924, 528734635, 1541459225]
def fbS (h : List Int) (l : List UInt8) : Nat → List Int
  | 0 => h
  | k + 1 => blkL (fbS h l k) (l.drop (64 * k))
theorem Nr {h : List Int} (hh : h.length = 8) (l : List UInt8) : ∀ k, (fbS h l k).length = 8
  | 0 => hh
  | k + 1 => Rq (Nr hh l k) _
theorem Ew (l : List UInt8) (k i : Nat) : (l.drop k).getD i 0 = l.getD (k + i) 0 := by simp [List.getD]
theorem Bn {h : List Int} {l l' : List UInt8} : ∀ m, (∀ i, i < 64 * m → l.getD i 0 = l'.getD i 0) → fbS h l m = fbS h l' m
  | 0, _ => rfl
  | m + 1, hc => by
    simp only [fbS]
    rw [Bn m (fun i hi => hc i (by omega))]
    exact H0 (fun i hi => by rw [Ew, Ew]; exact hc _ (by omega)) _
theorem fbS_add (h : List Int) (l : List UInt8) (k : Nat) : ∀ q, fbS h l (k + q) = fbS (fbS h l k) (l.drop (64 * k)) q
  | 0 => rfl
  | q + 1 => by
    show blkL (fbS h l (k + q)) (l.drop (64 * (k + q))) = blkL (fbS (fbS h l k) (l.drop (64 * k)) q) ((l.drop (64 * k)).drop (64 * q))
    rw [fbS_add h l k q, List.drop_drop, show 64 * k + 64 * q = 64 * (k + q) by omega]
def outB (h : List Int) (i : Nat) : UInt8 := De (IntKind.wrap .u8 (Nk .u32 (h.getD (i / 4) 0) ((24 - 8 * (i % 4) : Nat) : Int)))
def Hd (h : List Int) : Nat → List UInt8
  | 0 => List.replicate 32 0
  | i + 1 => (Hd h i).set i (outB h i)
theorem Rr (h : List Int) : ∀ i, (Hd h i).length = 32
  | 0 => by simp [Hd]
  | i + 1 => by simp [Hd, Rr h i]
theorem div4 (i : Nat) (h : i < 1000) : IntKind.wrap .i64 (Int.tdiv (i : Int) 4) = ((i / 4 : Nat) : Int) := by
  have := D4 i 4
  rw [show ((4 : Nat) : Int) = 4 from rfl] at this
  rw [this, Xu (by omega)]
theorem mod4 (i : Nat) : Int.tmod (i : Int) 4 = ((i % 4 : Nat) : Int) := by
  have := tmod_nat i 4
  rw [show ((4 : Nat) : Int) = 4 from rfl] at this
  exact this
theorem shift_ref (i : Nat) : IntKind.wrap .i64 (24 - IntKind.wrap .i64 (8 * Int.tmod (i : Int) 4)) = ((24 - 8 * (i % 4) : Nat) : Int) := by
  have h4 : i % 4 < 4 := Nat.mod_lt _ (by omega)
  rw [mod4, show (8 * ((i % 4 : Nat) : Int)) = ((8 * (i % 4) : Nat) : Int) by omega, Xu (by omega), show (24 - ((8 * (i % 4) : Nat) : Int)) = ((24 - 8 * (i % 4) : Nat) : Int) by omega, Xu (by omega)]
theorem H1 (i : Nat) : IntKind.wrap .i64 (24 - IntKind.wrap .i64 (Int.tmod (i : Int) 4 * 8)) = ((24 - 8 * (i % 4) : Nat) : Int) := by rw [Int.mul_comm]; exact shift_ref i
theorem prog_out (r1 r2 r3) {h : List Int} (hh : h.length = 8) : ∀ (d i f : Nat), d = 32 - i → i ≤ 32 → d < f → Xg r1 r2 r3 h f (Hd h i) (i : Int) = some (Hd h 32) := by
  intro d
  induction d with
  | zero =>
    intro i f hd hi hf
    obtain ⟨f, rfl⟩ : ∃ g, f = g + 1 := ⟨f - 1, by omega⟩
    have : i = 32 := by omega
    subst this
    show Xf r1 r2 r3 (Xg r1 r2 r3 h f) h (Hd h 32) ((32 : Nat) : Int) = _
    unfold Xf
    rw [show decide (((32 : Nat) : Int) < 32) = false by decide, cond_false]
  | succ d ih =>
    intro i f hd hi hf
    obtain ⟨f, rfl⟩ : ∃ g, f = g + 1 := ⟨f - 1, by omega⟩
    show Xf r1 r2 r3 (Xg r1 r2 r3 h f) h (Hd h i) (i : Int) = _
    unfold Xf
    have hl := Rr h i
    rw [show decide ((i : Int) < 32) = true by simp; omega, cond_true, div4 i (by omega), Z9 h (i / 4) 0 (by omega), Option.bind_some, H1, show decide (0 ≤ ((24 - 8 * (i % 4) : Nat) : Int)) = true from decide_eq_true (by omega), Z9 (Hd h i) i 0 (by omega), show ((i : Int) + 1) = ((i + 1 : Nat) : Int) by omega, Xu (by omega)]
    simp only [chk, Option.bind_some, Int.toNat_natCast]
    exact ih (i + 1) f (by omega) (by omega) (by omega)
theorem out0 {F : List UInt8 → Int → Option (List UInt8)} {h : List Int} (hF : F (Hd h 0) ((0 : Nat) : Int) = some (Hd h 32)) : F (List.replicate 32 0) 0 = some (Hd h 32) := hF
def lenB (n i : Nat) : UInt8 := UInt8.ofNat (8 * n / 2 ^ (8 * i))
def Cv (n : Nat) : Nat → List UInt8
  | 0 => []
  | i + 1 => lenB n i :: Cv n i
theorem Gz (n : Nat) : ∀ i, (Cv n i).length = i
  | 0 => rfl
  | i + 1 => by simp [Cv, Gz n i]
theorem He (k : IntKind) (a b : Nat) (hb : b ≤ k.bits) : Nk k (a : Int) (b : Int) = ((a / 2 ^ b : Nat) : Int) := by
  unfold Nk
  rw [Int.toNat_natCast, Nat.min_eq_left hb, Int.fdiv_eq_ediv_of_nonneg _ (by exact Int.le_of_lt (Int.pow_pos (by omega)))]
  have : ((2 : Int) ^ b) = ((2 ^ b : Nat) : Int) := by push_cast; rfl
  rw [this]
  rfl
theorem wrapu {n : Nat} (h : n < 18446744073709551616) : IntKind.wrap .u64 (n : Int) = (n : Int) := by
  unfold IntKind.wrap
  simp only [IntKind.bits, IntKind.signed]
  simp
  omega
theorem lenB_prog {n i : Nat} (hn : n ≤ 1073741824) (hi : i < 8) : De (IntKind.wrap .u8 (Nk .u64 (IntKind.wrap .u64 (IntKind.wrap .u64 ((n : Nat) : Int) * 8)) (IntKind.wrap .i64 (8 * (i : Int))))) = lenB n i := by
  rw [wrapu (by omega), show (((n : Nat) : Int) * 8) = ((8 * n : Nat) : Int) by omega, wrapu (by omega), show (8 * (i : Int)) = ((8 * i : Nat) : Int) by omega, Xu (by omega), He _ _ _ (by show 8 * i ≤ 64; omega), Ek]
  rfl
def sumH (l : List UInt8) (m : Nat) : List UInt8 := Hd (fbS h0I l m) 32
theorem Fx (l : List UInt8) (m : Nat) : (sumH l m).length = 32 := Rr _ _
def zc (n : Nat) : Nat := if n % 64 < 56 then 55 - n % 64 else 119 - n % 64
def mB (n : Nat) : Nat := if n % 64 < 56 then n / 64 + 1 else n / 64 + 2
def padL (b : List UInt8) : List UInt8 := b ++ [128] ++ List.replicate (zc b.length) 0 ++ Cv b.length 8
theorem zc_ok (n : Nat) : (n + 1 + zc n) % 64 = 56 ∧ zc n < 64 ∧ n + 1 + zc n + 8 = 64 * mB n := by unfold zc mB; split <;> omega
def sumL (b : List UInt8) : List UInt8 := sumH (padL b) (mB b.length)
theorem Y9 (b : List UInt8) : (sumL b).length = 32 := Fx _ _
end Go.Proofs.YtmgfanhcdfobhaaGreatDoor
namespace Go.Proofs.YtmgfanhcdfobhaaGreatDoor
theorem Cw (l : List UInt8) (k : Nat) (h : k ≤ l.length) : sub l (k : Int) ((l.length : Nat) : Int) = some (l.drop k) := by
  rw [Cr l h (Nat.le_refl _), List.take_length]
theorem Ex (r1 r2) {h : List Int} (hh : h.length = 8) {en : List UInt8} {m : Nat} (he : en.length = 128) (hm : m ≤ 2) : ∀ (d k f : Nat), d = m - k → k ≤ m → d < f → Vw r1 r2 ((64 * m : Nat) : Int) en f (fbS h en k) ((64 * k : Nat) : Int) = some (Hd (fbS h en m) 32) := by
  intro d
  induction d with
  | zero =>
    intro k f hd hk hf
    obtain ⟨f, rfl⟩ : ∃ g, f = g + 1 := ⟨f - 1, by omega⟩
    have : k = m := by omega
    subst this
    show Xh r1 r2 (Vw r1 r2 ((64 * k : Nat) : Int) en f) ((64 * k : Nat) : Int) en (fbS h en k) ((64 * k : Nat) : Int) = _
    unfold Xh
    rw [show decide (((64 * k : Nat) : Int) < ((64 * k : Nat) : Int)) = false by simp, cond_false]
    exact out0 (prog_out _ _ _ (Nr hh en k) 32 0 Zw (by omega) (by omega) (by unfold Zw; omega))
  | succ d ih =>
    intro k f hd hk hf
    obtain ⟨f, rfl⟩ : ∃ g, f = g + 1 := ⟨f - 1, by omega⟩
    show Xh r1 r2 (Vw r1 r2 ((64 * m : Nat) : Int) en f) ((64 * m : Nat) : Int) en (fbS h en k) ((64 * k : Nat) : Int) = _
    unfold Xh
    have hl := Nr hh en k
    rw [show decide (((64 * k : Nat) : Int) < ((64 * m : Nat) : Int)) = true by simp; omega, cond_true, Cw en (64 * k) (by omega), Option.bind_some, Hc _ (by simp; omega), Option.bind_some, Ug, show Nat.beq 64 64 = true from rfl]
    simp only [chk, Option.bind_some]
    rw [Bm hl (by simp; omega), Option.bind_some, Rq hl, show (((64 * k : Nat) : Int) + 64) = ((64 * (k + 1) : Nat) : Int) by omega, Xu (by omega)]
    simp only [Nat.beq_refl, Option.bind_some]
    exact ih (k + 1) f (by omega) (by omega) (by omega)
def Fy (e1 : List UInt8) (n last i : Nat) : List UInt8 := e1.take (last - i) ++ Cv n i ++ e1.drop last
theorem Bo {e1 : List UInt8} (he : e1.length = 128) {n last i : Nat} (hl : last ≤ 128) (hi : i ≤ last) : (Fy e1 n last i).length = 128 := by
  simp [Fy, Gz]
  omega
theorem endS_next {e1 : List UInt8} (he : e1.length = 128) {n last i : Nat} (hl : last ≤ 128) (hi : i < last) : (Fy e1 n last i).set (last - 1 - i) (lenB n i) = Fy e1 n last (i + 1) := by
  have h1 : (e1.take (last - i)).set (last - 1 - i) (lenB n i) = e1.take (last - (i + 1)) ++ [lenB n i] := by
    rw [show last - i = (last - 1 - i) + 1 by omega, List.take_add_one, show last - (i + 1) = last - 1 - i by omega]
    have hlt : last - 1 - i < e1.length := by omega
    rw [List.getElem?_eq_getElem hlt]
    rw [List.set_append_right _ _ (by simp; omega)]
    simp
    rw [show last - 1 - i - min (last - 1 - i) e1.length = 0 by omega]
    rfl
  unfold Fy
  rw [List.append_assoc, List.set_append_left _ _ (by simp; omega), h1]
  simp [Cv]
theorem prog_lens (r1) (b : List UInt8) (hb : b.length ≤ 1073741824) {h : List Int} {e1 : List UInt8} (he : e1.length = 128) {last : Nat} (hl : last ≤ 128) (h8 : 8 ≤ last) {R : List UInt8} (hR : ∀ r2, Vw r1 r2 (last : Int) (Fy e1 b.length last 8) Zw h 0 = some R) :
    ∀ (d i f : Nat), d = 8 - i → i ≤ 8 → d < f → Q6 r1 b h (last : Int) f (Fy e1 b.length last i) (i : Int) = some R := by
  intro d
  induction d with
  | zero =>
    intro i f hd hi hf
    obtain ⟨f, rfl⟩ : ∃ g, f = g + 1 := ⟨f - 1, by omega⟩
    have : i = 8 := by omega
    subst this
    show Xi r1 (Q6 r1 b h (last : Int) f) b h (last : Int) (Fy e1 b.length last 8) ((8 : Nat) : Int) = _
    unfold Xi
    rw [show decide (((8 : Nat) : Int) < 8) = false by decide, cond_false]
    exact hR _
  | succ d ih =>
    intro i f hd hi hf
    obtain ⟨f, rfl⟩ : ∃ g, f = g + 1 := ⟨f - 1, by omega⟩
    show Xi r1 (Q6 r1 b h (last : Int) f) b h (last : Int) (Fy e1 b.length last i) (i : Int) = _
    unfold Xi
    have hle := Bo he (n := b.length) hl (show i ≤ last by omega)
    rw [show decide ((i : Int) < 8) = true by simp; omega, cond_true, lenB_prog hb (by omega), R2 (x := 8 * (i : Int)) (by omega), show decide (0 ≤ 8 * (i : Int)) = true from decide_eq_true (by omega), R2 (x := (last : Int) - 1) (by omega), show ((last : Int) - 1 - (i : Int)) = ((last - 1 - i : Nat) : Int) by omega, Xu (by omega), Z9 _ _ 0 (by omega), show ((i : Int) + 1) = ((i + 1 : Nat) : Int) by omega, Xu (by omega)]
    simp only [chk, Option.bind_some, Int.toNat_natCast]
    rw [endS_next he hl (by omega)]
    exact ih (i + 1) f (by omega) (by omega) (by omega)
theorem Ey (b : List UInt8) (hb : b.length ≤ 1073741824) {R : List UInt8} (hR : ∀ rec, Xj rec b (fbS h0I b (b.length / 64)) ((64 * (b.length / 64) : Nat) : Int) = some R) :
    ∀ (d k f : Nat), d = b.length / 64 - k → k ≤ b.length / 64 → d < f → Qn b f (fbS h0I b k) ((64 * k : Nat) : Int) = some R := by
  have hw : IntKind.wrap .i64 (IntKind.wrap .i64 (Int.tdiv ((b.length : Nat) : Int) 64) * 64) = ((64 * (b.length / 64) : Nat) : Int) := by
    have := D4 b.length 64
    rw [show ((64 : Nat) : Int) = 64 from rfl] at this
    rw [this, Xu (by omega), show (((b.length / 64 : Nat) : Int) * 64) = ((64 * (b.length / 64) : Nat) : Int) by omega, Xu (by omega)]
  intro d
  induction d with
  | zero =>
    intro k f hd hk hf
    obtain ⟨f, rfl⟩ : ∃ g, f = g + 1 := ⟨f - 1, by omega⟩
    have : k = b.length / 64 := by omega
    subst this
    exact hR _
  | succ d ih =>
    intro k f hd hk hf
    obtain ⟨f, rfl⟩ : ∃ g, f = g + 1 := ⟨f - 1, by omega⟩
    show Xj (Qn b f) b (fbS h0I b k) ((64 * k : Nat) : Int) = _
    unfold Xj
    have hl := Nr (h := h0I) rfl b k
    rw [hw, show decide (((64 * k : Nat) : Int) < ((64 * (b.length / 64) : Nat) : Int)) = true by simp; omega, cond_true, Cw b (64 * k) (by omega), Option.bind_some, Hc _ (by simp; omega), Option.bind_some, Ug, show Nat.beq 64 64 = true from rfl]
    simp only [chk, Option.bind_some]
    rw [Bm hl (by simp; omega), Option.bind_some, Rq hl, show (((64 * k : Nat) : Int) + 64) = ((64 * (k + 1) : Nat) : Int) by omega, Xu (by omega)]
    simp only [Nat.beq_refl, Option.bind_some]
    exact ih (k + 1) f (by omega) (by omega) (by omega)
theorem Hf (b : List UInt8) (hb : b.length ≤ 1073741824) : J2 b = some (sumL b) := by
  unfold J2
  rw [show Y6 = some h0I from rfl, Option.bind_some, show Nat.beq (List.length h0I) 8 = true from rfl]
  simp only [chk, Option.bind_some]
  refine Ey b hb (R := sumL b) (fun rec => ?_) (b.length / 64) 0 Zw (by omega) (by omega) (by unfold Zw; omega)
  have hw : IntKind.wrap .i64 (IntKind.wrap .i64 (Int.tdiv ((b.length : Nat) : Int) 64) * 64) = ((64 * (b.length / 64) : Nat) : Int) := by
    have := D4 b.length 64
    rw [show ((64 : Nat) : Int) = 64 from rfl] at this
    rw [this, Xu (by omega), show (((b.length / 64 : Nat) : Int) * 64) = ((64 * (b.length / 64) : Nat) : Int) by omega, Xu (by omega)]
  unfold Xj
  rw [hw, show decide (((64 * (b.length / 64) : Nat) : Int) < ((64 * (b.length / 64) : Nat) : Int)) = false by simp, cond_false, Cw b (64 * (b.length / 64)) (by omega), Option.bind_some]
  obtain ⟨r, hr⟩ : ∃ r, b.drop (64 * (b.length / 64)) = r := ⟨_, rfl⟩
  have hrl : r.length = b.length % 64 := by rw [← hr]; simp; omega
  have hn64 : b.length % 64 < 64 := Nat.mod_lt _ (by omega)
  rw [hr, Option.bind_some]
  have hcpy : cpy (List.replicate 128 (0 : UInt8)) 0 (List.length (List.replicate 128 (0 : UInt8))) r = r ++ List.replicate (128 - r.length) 0 := by
    unfold cpy
    rw [List.take_zero, List.nil_append, List.length_replicate, List.take_of_length_le (by omega), List.drop_replicate, show 128 - (0 + min 128 r.length) = 128 - r.length by omega]
  rw [hcpy]
  have hmin : min ((r.length : Nat) : Int) ((List.length (List.replicate 128 (0 : UInt8)) : Nat) : Int) = ((b.length % 64 : Nat) : Int) := by rw [List.length_replicate, hrl]; omega
  rw [hmin, Int.toNat_natCast]
  have h128 : (r ++ List.replicate (128 - r.length) (0 : UInt8)).length = 128 := by simp; omega
  rw [Z9 _ _ 0 (by rw [h128]; omega), Option.bind_some, Option.bind_some]
  obtain ⟨e1, he1⟩ : ∃ e1, (r ++ List.replicate (128 - r.length) (0 : UInt8)).set (b.length % 64) 128 = e1 := ⟨_, rfl⟩
  rw [he1]
  have he : e1.length = 128 := by rw [← he1, List.length_set, h128]
  have he1' : e1 = r ++ [128] ++ List.replicate (127 - r.length) 0 := by
    rw [← he1, ← hrl, List.set_append_right _ _ (Nat.le_refl _), Nat.sub_self, show 128 - r.length = (127 - r.length) + 1 by omega, List.replicate_succ]
    simp
  have e9 : IntKind.wrap .i64 (IntKind.wrap .i64 (((b.length % 64 : Nat) : Int) + 1) + 8) = ((b.length % 64 + 9 : Nat) : Int) := by
    rw [show (((b.length % 64 : Nat) : Int) + 1) = ((b.length % 64 + 1 : Nat) : Int) by omega, Xu (by omega), show (((b.length % 64 + 1 : Nat) : Int) + 8) = ((b.length % 64 + 9 : Nat) : Int) by omega, Xu (by omega)]
  rw [e9]
  have hz := zc_ok b.length
  have hfin : ∀ m, m ≤ 2 → 1 ≤ m → mB b.length = b.length / 64 + m → Xz rec b (fbS h0I b (b.length / 64)) e1 ((64 * m : Nat) : Int) = some (sumL b) := by
    intro m hm h1 hmB
    have hzc : zc b.length = 64 * m - 9 - r.length := by have := hz.2.2; omega
    have hend : ∀ i, i < 64 * m → (Fy e1 b.length (64 * m) 8).getD i 0 = ((padL b).drop (64 * (b.length / 64))).getD i 0 := by
      intro i hi
      have h1 : (padL b).drop (64 * (b.length / 64)) = r ++ [128] ++ List.replicate (zc b.length) 0 ++ Cv b.length 8 := by
        unfold padL
        rw [List.append_assoc, List.append_assoc, List.drop_append_of_le_length (by omega), hr]
        simp
      have h2 : Fy e1 b.length (64 * m) 8 = (r ++ [128] ++ List.replicate (zc b.length) 0 ++ Cv b.length 8) ++ e1.drop (64 * m) := by
        have h3 : e1.take (64 * m - 8) = r ++ [128] ++ List.replicate (zc b.length) 0 := by
          rw [he1', List.take_append, List.take_of_length_le (by simp; omega), List.take_replicate]
          rw [show min (64 * m - 8 - (r ++ [(128 : UInt8)]).length) (127 - r.length) = zc b.length by simp; omega]
        unfold Fy
        rw [h3]
      rw [h1, h2]
      simp only [List.getD]
      rw [List.getElem?_append_left (by simp [Gz]; omega)]
    unfold Xz
    have hE0 : e1 = Fy e1 b.length (64 * m) 0 := by
      unfold Fy
      simp [Cv]
    have := prog_lens rec b hb (h := fbS h0I b (b.length / 64)) he (last := 64 * m) (by omega) (by omega) (R := sumL b) (fun r2 => by
      have h3 := Ex rec r2 (h := fbS h0I b (b.length / 64)) (Nr rfl b _) (m := m) (Bo he (n := b.length) (last := 64 * m) (i := 8) (by omega) (by omega)) hm m 0 Zw (by omega) (by omega) (by unfold Zw; omega)
      have h4 : fbS (fbS h0I b (b.length / 64)) (Fy e1 b.length (64 * m) 8) m = fbS h0I (padL b) (mB b.length) := by
        have h5 : fbS h0I b (b.length / 64) = fbS h0I (padL b) (b.length / 64) := by
          refine Bn _ (fun i hi => ?_)
          unfold padL
          simp only [List.getD]
          rw [List.append_assoc, List.append_assoc, List.getElem?_append_left (by omega)]
        rw [hmB, fbS_add, Bn m hend, h5]
      rw [h4] at h3
      exact h3) 8 0 Zw (by omega) (by omega) (by unfold Zw; omega)
    rw [← hE0] at this
    exact this
  by_cases h56 : b.length % 64 < 56
  · rw [show decide (((b.length % 64 + 9 : Nat) : Int) > 64) = false from decide_eq_false (by omega), cond_false]
    exact hfin 1 (by omega) (by omega) (by unfold mB; rw [if_pos h56])
  · rw [show decide (((b.length % 64 + 9 : Nat) : Int) > 64) = true from decide_eq_true (by omega), cond_true]
    exact hfin 2 (by omega) (by omega) (by unfold mB; rw [if_neg h56])
end Go.Proofs.YtmgfanhcdfobhaaGreatDoor
namespace Go.Proofs.YtmgfanhcdfobhaaGreatDoor
open Go.RowKit
def Ns (p1 : (List UInt8)) : Option ((List UInt8)) :=
  (cond (decide (((List.length p1 : Nat) : Int) > 255)) (some (([] : List UInt8))) ((app ([(De (IntKind.wrap .u8 ((List.length p1 : Nat) : Int)))] : List UInt8) p1).bind fun a => (some (a))))
set_option maxRecDepth 100000 in
set_option maxHeartbeats 4000000 in
theorem Bp  (p1 : (List UInt8)) (w0 : World)  (r : ((List UInt8))) (H : Ns p1 = some r) :
  Calls Tryz.prog 69 #[(.string ⟨List.toArray p1⟩)] w0 (fun e w' => ∃ (A2 : Option Addr) (c3 : Nat), e = .returned (.slice A2 (List.length r) c3) ∧ SP [] w0 w' [Ut 5 eU8 A2 c3 r]) := by
 unfold Ns at H
 refine Qt (n := 12) Tryz.func69 K K K ?_
 have h := Q1 [] w0
 refine aQ ?_
 refine aR ?_
 refine iR 1 1 [(2, (.slice none (List.length ([] : List UInt8)) 0))] ?_
 refine iF ?_
 refine aQ ?_
 refine aQ ?_
 refine aR ?_
 refine iR 3 3 [(3, (.string ⟨List.toArray p1⟩)), (4, (.int .i64 ((List.length p1 : Nat) : Int))), (5, (.bool (decide (((List.length p1 : Nat) : Int) > 255))))] ?_
 refine iF ?_
 refine Zu K (o := (.tmp 5)) K (b := (decide (((List.length p1 : Nat) : Int) > 255))) K (fun a => ?_) (fun a => ?_)
 ·have H := ct H a
  refine aQ ?_
  refine aR ?_
  refine iR 1 1 [(2, (.slice none (List.length ([] : List UInt8)) 0))] ?_
  refine iF ?_
  refine At.ret K ?_
  have p : SP [] w0 w0 [Ut 5 eU8 none 0 ([] : List UInt8)] := Bd h 5 eU8
  refine ⟨(.slice none (List.length ([] : List UInt8)) 0), K, ?_⟩
  obtain rfl := Qf H
  exact ⟨none, 0, rfl, SP.sel p [0] rfl rfl⟩
 ·have H := cf H a
  refine At.skip K ?_
  refine aQ ?_
  refine aR ?_
  refine iR 3 3 [(6, (.string ⟨List.toArray p1⟩)), (7, (.int .i64 ((List.length p1 : Nat) : Int))), (8, (.int .u8 (IntKind.wrap .u8 ((List.length p1 : Nat) : Int))))] ?_
  refine iS 4 ?_
  refine Jc (e := eU8) (T := 52) (E := 5) (len := 1) (parts := #[(0, (.tmp 8))]) (cs := #[(.int .u8 (IntKind.wrap .u8 ((List.length p1 : Nat) : Int)))]) ([(De (IntKind.wrap .u8 ((List.length p1 : Nat) : Int)))] : List UInt8) (d := (some 9)) (k := 3) K rfl (fun _ => K) h (Fd (Or.inr ⟨rfl, (Bf _)⟩) rfl) rfl rfl rfl ?_
  intro g7 w8 q
  refine iR 1 5 [(10, (.string ⟨List.toArray p1⟩))] ?_
  obtain ⟨hl11, H⟩ := G3 H
  obtain ⟨j, hyl12⟩ : ∃ y, ([(De (IntKind.wrap .u8 ((List.length p1 : Nat) : Int)))] : List UInt8) ++ p1 = y := ⟨_, rfl⟩
  rw [hyl12] at H
  refine iS 6 ?_
  refine Qj.append (e := eU8) (l := ([(De (IntKind.wrap .u8 ((List.length p1 : Nat) : Int)))] : List UInt8)) (m := p1) (A := (some ⟨g7, 0, none⟩)) (c := (List.length ([(De (IntKind.wrap .u8 ((List.length p1 : Nat) : Int)))] : List UInt8))) (T := 52) (TX := 9) (E := 5) (b := 1) (s := (.tmp 9)) (x := (.tmp 10)) (i := 0) (vx := (.string ⟨List.toArray p1⟩)) (d := (some 11)) (k := 5) K rfl K K K K rfl q rfl (src_str K p1) hl11 ?_
  rw [hyl12]
  intro f g u t
  refine iR 1 7 [(2, (.slice f (List.length j) g))] ?_
  refine iF ?_
  refine At.ret K ?_
  refine ⟨(.slice f (List.length j) g), K, ?_⟩
  obtain rfl := Qf H
  exact ⟨f, g, rfl, SP.sel t [0] rfl rfl⟩
def Uh (a : (List UInt8)) : Option ((List UInt8)) :=
  ((some (cpy (List.replicate 64 (0 : UInt8)) 0 (List.length (List.replicate 64 (0 : UInt8))) a)).bind fun b => (some (b)))
def R8 (p1 : (List UInt8)) : Option ((List UInt8)) :=
  (cond (decide (((List.length p1 : Nat) : Int) > 64)) ((J2 p1).bind fun a => ((chk (Nat.beq (List.length a) 32)).bind fun _ => (Uh a))) (Uh p1))
set_option maxRecDepth 100000 in
set_option maxHeartbeats 4000000 in
theorem Cx (A2 : Option Addr) (c3 : Nat) (p1 : (List UInt8)) (w0 : World) (a3 : RdT eU8 w0 A2 c3 p1) (r : ((List UInt8))) (H : R8 p1 = some r) :
  Calls Tryz.prog 92 #[(.slice A2 (List.length p1) c3)] w0 (fun e w' => e = .returned (.agg (Qa eU8 r).toArray) ∧ SP [] w0 w' []) := by
 unfold R8 at H
 refine Qt (n := 15) Tryz.func92 K K K ?_
 have a8 := Q1 [] w0
 refine aQ ?_
 refine aR ?_
 refine iS 1 ?_
 refine Vc (e := eU8) (l := (List.replicate 64 (0 : UInt8))) (m := 64) (t := 125) (z := .agg (Qa eU8 (List.replicate 64 (0 : UInt8))).toArray) (d := (some 2)) (k := 0) K rfl K rfl rfl K a8 ?_
 intro g5 w6 a9
 refine iF ?_
 refine aQ ?_
 refine aR ?_
 refine iS 1 ?_
 refine Vc (e := eU8) (l := (List.replicate 64 (0 : UInt8))) (m := 64) (t := 125) (z := .agg (Qa eU8 (List.replicate 64 (0 : UInt8))).toArray) (d := (some 3)) (k := 0) K rfl K rfl rfl K a9 ?_
 intro g9 b0 s
 refine iF ?_
 refine aQ ?_
 refine aQ ?_
 refine aR ?_
 refine iR 3 3 [(5, (.slice A2 (List.length p1) c3)), (6, (.int .i64 ((List.length p1 : Nat) : Int))), (7, (.bool (decide (((List.length p1 : Nat) : Int) > 64))))] ?_
 refine iF ?_
 refine At.join (fun ρ w => ∃ (c : (List UInt8)) (h : Option Addr) (j : Nat), Zg ρ [(0, (.slice h (List.length c) j)), (2, (pt g5 0)), (3, (pt g9 0))] ∧ SP [] w0 w [Vp 125 eU8 g5 64 (List.replicate 64 (0 : UInt8)), Vp 125 eU8 g9 64 (List.replicate 64 (0 : UInt8))] ∧ RdT eU8 w h j c ∧ Uh c = some r) ?_ ?_
 ·refine Zu K (o := (.tmp 7)) K (b := (decide (((List.length p1 : Nat) : Int) > 64))) K (fun a0 => ?_) (fun a0 => ?_)
  ·have H := ct H a0
   refine aQ ?_
   refine aR ?_
   refine iR 1 1 [(8, (.slice A2 (List.length p1) c3))] ?_
   obtain ⟨p, b1, H⟩ := Qc H
   obtain ⟨a1, H⟩ := Zm H
   replace a1 := Nat.eq_of_beq_eq_true a1
   refine iS 2 ?_
   refine cF 100 #[(.tmp 8)] #[52] 9 Tryz.call100 (Nq A2 c3 p1 b0 (RdT.sp a3 s) p b1) ?_
   rintro e b7 ⟨rfl, a4⟩
   refine ⟨_, rfl, ?_⟩
   have b2 := SP.call s a4
   clear a4
   refine iS 3 ?_
   refine Vc (e := eU8) (l := (List.replicate 32 (0 : UInt8))) (m := 32) (t := 89) (z := .agg (Qa eU8 (List.replicate 32 (0 : UInt8))).toArray) (d := (some 4)) (k := 2) K rfl K rfl rfl K b2 ?_
   intro u b8 b3
   refine iS 4 ?_
   refine V6 (e := eU8) (l := (List.replicate 32 (0 : UInt8))) (l' := p) (m := 32) (t := 89) (x := (.tmp 4)) (y := (.tmp 9)) (g := u) (i := 2) (d := none) (k := 3) K rfl K K a1 b3 rfl K ?_
   intro b9 a2
   refine iF ?_
   refine aR ?_
   refine iS 1 ?_
   refine J1 (e := eU8) (l := p) (m := 32) (g := u) (T := 89) (E := 5) (x := (.tmp 4)) (q := 2) (d := (some 10)) (k := 0) K rfl K K K a2 rfl ?_
   refine iR 1 2 [(0, (.slice (some ⟨u, 0, none⟩) (List.length p) 32))] ?_
   refine iF ?_
   exact ⟨p, (some ⟨u, 0, none⟩), 32, ⟨K, K, K, trivial⟩, SP.sel a2 [0, 1] rfl rfl, (Vr (SP.get a2 (i := 2) rfl)), H⟩
  ·have H := cf H a0
   refine At.skip K ?_
   exact ⟨p1, A2, c3, ⟨K, K, K, trivial⟩, SP.sel s [0, 1] rfl rfl, (RdT.sp a3 s), H⟩
 ·rintro ρ w32 ⟨c, h, j, hk, v, b4, H⟩
  unfold Uh at H
  first | refine At.known [(0, (.slice h (List.length c) j)), (2, (pt g5 0)), (3, (pt g9 0))] hk ?_ | rw [← Q9 (l := [(0, (.slice h (List.length c) j)), (2, (pt g5 0)), (3, (pt g9 0))]) hk]
  have c0 := Vm (SP.get v (i := 0) rfl)
  have b5 := Vm (SP.get v (i := 1) rfl)
  refine aQ ?_
  refine aR ?_
  refine iS 1 ?_
  refine J1 (e := eU8) (l := (List.replicate 64 (0 : UInt8))) (m := 64) (g := g9) (T := 125) (E := 5) (x := (.tmp 3)) (q := 1) (d := (some 11)) (k := 0) K rfl K K K v rfl ?_
  refine iR 1 2 [(12, (.slice h (List.length c) j))] ?_
  obtain ⟨f, hyl36, H⟩ := V5 H
  have hnl36 : List.length f = List.length (List.replicate 64 (0 : UInt8)) := by rw [← hyl36]; exact G5 (by omega)
  refine iS 3 ?_
  refine Dk (e := eU8) (l := (List.replicate 64 (0 : UInt8))) (y' := c) (l' := f) (m := 64) (g := g9) (lo := 0) (dl := (List.length (List.replicate 64 (0 : UInt8)))) (T := 52) (T2 := 52) (E := 5) (x := (.tmp 11)) (y := (.tmp 12)) (i := 1) (A := (some ⟨g9, 0, none⟩)) (dc := 64) (A2 := h) (c2 := j) (d := (some 13)) (k := 2) K rfl K K K K rfl v rfl (Cg) (by omega) b4 hyl36 ?_
  intro b6 a5 _
  have a6 : SP [] w0 b6 [Vp 125 eU8 g5 64 (List.replicate 64 (0 : UInt8)), Vp 125 eU8 g9 64 f] := a5
  clear a5
  refine In.known [(11, (.slice (some ⟨g9, 0, none⟩) (List.length f) 64))] ⟨(by rw [hnl36]; kernel_rfl), trivial⟩ ?_
  refine iF ?_
  refine aQ ?_
  refine aR ?_
  refine iS 1 ?_
  refine Zd (e := eU8) (l := f) (m := 64) (t := 125) (x := (.tmp 3)) (g := g9) (i := 1) (d := (some 14)) (k := 0) K rfl K a6 rfl K K ?_
  refine iS 2 ?_
  refine V6 (e := eU8) (l := (List.replicate 64 (0 : UInt8))) (l' := f) (m := 64) (t := 125) (x := (.tmp 2)) (y := (.tmp 14)) (g := g5) (i := 0) (d := none) (k := 1) K rfl K K (hnl36.trans b5) a6 rfl K ?_
  intro c1 a7
  refine iF ?_
  refine At.ret K ?_
  refine ⟨(.agg (Qa eU8 f).toArray), Rf K (Nb (e := eU8) (l := f) (a := 2) (t := 125) K (SP.get a7 (i := 0) rfl) K K), ?_⟩
  obtain rfl := Qf H
  exact ⟨rfl, SP.sel a7 [] rfl rfl⟩
def Xk (d : (List UInt8) → Int → Option ((List UInt8))) (p3 : UInt8) (p4 : (List UInt8)) (b : (List UInt8)) (a : Int) : Option ((List UInt8)) :=
  (cond (decide (a < 64)) ((idx b a).bind fun e => ((idx b a).bind fun h => ((some (List.set b (Int.toNat a) (De (Xn .u8 ((e).toNat : Int) ((p3).toNat : Int))))).bind fun f => (d f (IntKind.wrap .i64 (a + 1)))))) ((app b p4).bind fun g => ((J2 g).bind fun c => ((chk (Nat.beq (List.length c) 32)).bind fun _ => (some (c))))))
def Xl (p3 : UInt8) (p4 : (List UInt8)) : Nat → (List UInt8) → Int → Option ((List UInt8))
  | 0, _, _ => none
  | f + 1, a, b => Xk  (Xl p3 p4 f) p3 p4 a b
def J7 (p1 : (List UInt8)) (p3 : UInt8) (p4 : (List UInt8)) : Option ((List UInt8)) :=
  (Xl p3 p4 Zw p1 0)
set_option maxRecDepth 100000 in
set_option maxHeartbeats 4000000 in
theorem Nc (A5 : Option Addr) (c6 : Nat) (p1 : (List UInt8)) (p3 : UInt8) (p4 : (List UInt8)) (w0 : World) (b3 : List.length p1 = 64) (b4 : RdT eU8 w0 A5 c6 p4) (r : ((List UInt8))) (H : J7 p1 p3 p4 = some r) :
  Calls Tryz.prog 91 #[(.agg (Qa eU8 p1).toArray), (.int .u8 ((p3).toNat : Int)), (.slice A5 (List.length p4) c6)] w0 (fun e w' => e = .returned (.agg (Qa eU8 r).toArray) ∧ SP [] w0 w' []) := by
 unfold J7 at H
 refine Qt (n := 22) Tryz.func91 K K K ?_
 have b5 := Q1 [] w0
 refine aQ ?_
 refine aR ?_
 refine iS 1 ?_
 refine R7 (e := eU8) (l := p1) (m := 64) (t := 125) (x := (.tmp 0)) (d := (some 3)) (k := 0) K rfl K b3 K b5 ?_
 intro g8 w9 b6
 refine iS 2 ?_
 refine Vc (e := eU8) (l := (List.replicate 32 (0 : UInt8))) (m := 32) (t := 89) (z := .agg (Qa eU8 (List.replicate 32 (0 : UInt8))).toArray) (d := (some 6)) (k := 1) K rfl K rfl rfl K b6 ?_
 intro p c7 b7
 refine iF ?_
 refine aQ ?_
 refine aQ ?_
 refine aR ?_
 refine iR 1 1 [(8, (.int .i64 0))] ?_
 refine iF ?_
 refine X8 K (id := 0) K ?_
 refine Ne K (fun f1 ρ w => ∃ (f : (List UInt8)) (c : Int), Zg ρ [(1, (.int .u8 ((p3).toNat : Int))), (2, (.slice A5 (List.length p4) c6)), (3, (pt g8 0)), (6, (pt p 0)), (8, (.int .i64 c))] ∧ SP [] w0 w [Vp 125 eU8 g8 64 f, Vp 89 eU8 p 32 (List.replicate 32 (0 : UInt8))] ∧ Xl p3 p4 f1 f c = some r) (by rintro ρ w ⟨f, c, hk, hs, H⟩; cases H) ?_ Zw ?_
 ·rintro f1 ρ c8 ⟨f, c, hk, h, H⟩
  refine At.known [(1, (.int .u8 ((p3).toNat : Int))), (2, (.slice A5 (List.length p4) c6)), (3, (pt g8 0)), (6, (pt p 0)), (8, (.int .i64 c))] hk ?_
  replace H := (show Xk (Xl p3 p4 f1) p3 p4 f c = some r from H)
  unfold Xk at H
  have c9 := Vm (SP.get h (i := 0) rfl)
  have d0 := Vm (SP.get h (i := 1) rfl)
  refine aQ ?_
  refine aR ?_
  refine iR 1 1 [(9, (.bool (decide (c < 64))))] ?_
  refine iF ?_
  refine aQ ?_
  refine Zu K (o := (.tmp 9)) K (b := (decide (c < 64))) K (fun a1 => ?_) (fun a1 => ?_)
  ·have H := ct H a1
   refine At.skip K ?_
   refine aQ ?_
   refine X8 K (id := 1) K ?_
   refine aQ ?_
   refine aR ?_
   refine iR 2 2 [(10, (.int .i64 c)), (7, (.int .i64 c))] ?_
   refine iF ?_
   refine aR ?_
   refine iR 1 1 [(11, (.int .i64 c))] ?_
   obtain ⟨u, a3, a4, b8, H⟩ := Qy H
   refine iS 2 ?_
   refine Qs (e := eU8) (l := f) (m := 64) (g := g8) (T := 125) (E := 5) (x := (.tmp 3)) (ix := (.tmp 11)) (ki := .i64) (iz := c) (i := 0) (d := (some 12)) (k := 1) K rfl K K K K h rfl a3 a4 ?_
   refine iS 3 ?_
   refine sC 5 12 g8 (0 + Int.toNat c * eU8.sz) (.int .u8 ((u).toNat : Int)) 13 (Qw (e := eU8) (Qp (Vr (SP.get h (i := 0) rfl)) rfl a3 a4) b8 (j := 0) rfl) ?_
   refine iR 2 5 [(14, (.int .u8 ((p3).toNat : Int))), (15, (.int .u8 (Xn .u8 ((u).toNat : Int) ((p3).toNat : Int))))] ?_
   obtain ⟨d1, a5, a6, d2, H⟩ := Qy H
   refine iS 6 ?_
   refine Qs (e := eU8) (l := f) (m := 64) (g := g8) (T := 125) (E := 5) (x := (.tmp 3)) (ix := (.tmp 11)) (ki := .i64) (iz := c) (i := 0) (d := (some 16)) (k := 5) K rfl K K K K h rfl a5 a6 ?_
   obtain ⟨a7, hyl133, H⟩ := V5 H
   have hnl133 : List.length a7 = List.length f := by rw [← hyl133, List.length_set]
   refine iS 7 ?_
   refine Zp (e := eU8) (t := 5) (x := (.tmp 16)) (y := (.tmp 15)) (l := f) (iz := c) (m := 64) (g := g8) (b := g8) (off := 0) (i := 0) (v := (.int .u8 (Xn .u8 ((u).toNat : Int) ((p3).toNat : Int)))) (x' := (De (Xn .u8 ((u).toNat : Int) ((p3).toNat : Int)))) (d := none) (k := 6) K rfl rfl K K h rfl rfl a6 a5 (by show [Value.int .u8 (((De (Xn .u8 ((u).toNat : Int) ((p3).toNat : Int)))).toNat : Int)] = _; rw [N1 (u8_xor _ _)]) K ?_
   rw [hyl133]
   intro d3 b9
   refine In.known [] trivial ?_
   refine iF ?_
   refine aR ?_
   refine iR 2 2 [(17, (.int .i64 (IntKind.wrap .i64 (c + 1)))), (8, (.int .i64 (IntKind.wrap .i64 (c + 1))))] ?_
   refine iF ?_
   exact ⟨a7, (IntKind.wrap .i64 (c + 1)), ⟨K, K, K, K, K, trivial⟩, SP.sel b9 [0, 1] rfl rfl, H⟩
  ·have H := cf H a1
   refine At.exit K (id := 0) K ?_
   refine aQ ?_
   refine aR ?_
   refine iS 1 ?_
   refine J1 (e := eU8) (l := f) (m := 64) (g := g8) (T := 125) (E := 5) (x := (.tmp 3)) (q := 0) (d := (some 18)) (k := 0) K rfl K K K h rfl ?_
   refine iR 1 2 [(19, (.slice A5 (List.length p4) c6))] ?_
   obtain ⟨hl137, H⟩ := G3 H
   obtain ⟨a8, hyl138⟩ : ∃ y, f ++ p4 = y := ⟨_, rfl⟩
   rw [hyl138] at H
   refine iS 3 ?_
   refine Et (e := eU8) (l := f) (y := p4) (l' := a8) (m := 64) (g := g8) (T := 52) (TX := 52) (E := 5) (b := 1) (s := (.tmp 18)) (x := (.tmp 19)) (i := 0) (vx := (.slice A5 (List.length p4) c6)) (d := (some 20)) (k := 2) K rfl K K K K rfl h rfl (Fc (E := 5) K (RdT.sp b4 h)) hl137 hyl138 ?_
   intro c0 c1 a9 b0 c2
   have c3 : SP [] w0 a9 [Vp 125 eU8 g8 64 f, Vp 89 eU8 p 32 (List.replicate 32 (0 : UInt8))] := b0
   clear b0
   obtain ⟨a0, c4, H⟩ := Qc H
   obtain ⟨a2, H⟩ := Zm H
   replace a2 := Nat.eq_of_beq_eq_true a2
   refine iS 4 ?_
   refine cF 100 #[(.tmp 20)] #[52] 21 Tryz.call100 (Nq c0 c1 a8 a9 c2 a0 c4) ?_
   rintro e d4 ⟨rfl, b1⟩
   refine ⟨_, rfl, ?_⟩
   have c5 := SP.call c3 b1
   clear b1
   refine iS 5 ?_
   refine V6 (e := eU8) (l := (List.replicate 32 (0 : UInt8))) (l' := a0) (m := 32) (t := 89) (x := (.tmp 6)) (y := (.tmp 21)) (g := p) (i := 1) (d := none) (k := 4) K rfl K K a2 c5 rfl K ?_
   intro d5 b2
   refine iF ?_
   refine At.ret K ?_
   refine ⟨(.agg (Qa eU8 a0).toArray), Rf K (Nb (e := eU8) (l := a0) (a := 6) (t := 89) K (SP.get b2 (i := 1) rfl) K K), ?_⟩
   obtain rfl := Qf H
   exact ⟨rfl, SP.sel b2 [] rfl rfl⟩
 ·exact ⟨p1, 0, ⟨K, K, K, K, K, trivial⟩, SP.sel b7 [0, 1] rfl rfl, H⟩
def G0 (p1 : (List UInt8)) (p5 : (List UInt8)) : Option ((List UInt8)) :=
  ((R8 p1).bind fun a => ((chk (Nat.beq (List.length a) 64)).bind fun _ => ((J7 a (54 : UInt8) p5).bind fun b => ((chk (Nat.beq (List.length b) 32)).bind fun _ => ((J7 a (92 : UInt8) b).bind fun c => ((chk (Nat.beq (List.length c) 32)).bind fun _ => (some (c))))))))
set_option maxRecDepth 100000 in
set_option maxHeartbeats 4000000 in
theorem B2 (A2 : Option Addr) (c3 : Nat) (A6 : Option Addr) (c7 : Nat) (p1 : (List UInt8)) (p5 : (List UInt8)) (w0 : World) (a7 : RdT eU8 w0 A2 c3 p1) (a8 : RdT eU8 w0 A6 c7 p5) (r : ((List UInt8))) (H : G0 p1 p5 = some r) :
  Calls Tryz.prog 70 #[(.slice A2 (List.length p1) c3), (.slice A6 (List.length p5) c7)] w0 (fun e w' => e = .returned (.agg (Qa eU8 r).toArray) ∧ SP [] w0 w' []) := by
 unfold G0 at H
 refine Qt (n := 18) Tryz.func70 K K K ?_
 have a9 := Q1 [] w0
 refine aQ ?_
 refine aR ?_
 refine iS 1 ?_
 refine Vc (e := eU8) (l := (List.replicate 32 (0 : UInt8))) (m := 32) (t := 89) (z := .agg (Qa eU8 (List.replicate 32 (0 : UInt8))).toArray) (d := (some 4)) (k := 0) K rfl K rfl rfl K a9 ?_
 intro g9 b0 a1
 refine iF ?_
 refine aQ ?_
 refine aR ?_
 refine iR 1 1 [(8, (.slice A2 (List.length p1) c3))] ?_
 obtain ⟨b, b1, H⟩ := Qc H
 obtain ⟨s, H⟩ := Zm H
 replace s := Nat.eq_of_beq_eq_true s
 refine iS 2 ?_
 refine cF 92 #[(.tmp 8)] #[52] 9 Tryz.call92 (Cx A2 c3 p1 b0 (RdT.sp a7 a1) b b1) ?_
 rintro e c8 ⟨rfl, a2⟩
 refine ⟨_, rfl, ?_⟩
 have b2 := SP.call a1 a2
 clear a2
 refine iS 3 ?_
 refine Vc (e := eU8) (l := (List.replicate 64 (0 : UInt8))) (m := 64) (t := 125) (z := .agg (Qa eU8 (List.replicate 64 (0 : UInt8))).toArray) (d := (some 6)) (k := 2) K rfl K rfl rfl K b2 ?_
 intro p c9 b3
 refine iR 1 4 [(5, (.func (.func 91) #[] #[]))] ?_
 refine iS 5 ?_
 refine V6 (e := eU8) (l := (List.replicate 64 (0 : UInt8))) (l' := b) (m := 64) (t := 125) (x := (.tmp 6)) (y := (.tmp 9)) (g := p) (i := 1) (d := none) (k := 4) K rfl K K s b3 rfl K ?_
 intro b4 u
 refine iF ?_
 refine aQ ?_
 refine aR ?_
 refine iR 1 1 [(10, (.func (.func 91) #[] #[]))] ?_
 refine iS 2 ?_
 refine Zd (e := eU8) (l := b) (m := 64) (t := 125) (x := (.tmp 6)) (g := p) (i := 1) (d := (some 11)) (k := 1) K rfl K u rfl K K ?_
 refine iR 1 3 [(12, (.slice A6 (List.length p5) c7))] ?_
 obtain ⟨j, b5, H⟩ := Qc H
 obtain ⟨v, H⟩ := Zm H
 replace v := Nat.eq_of_beq_eq_true v
 refine iS 4 ?_
 refine Z5 (f := 91) (fo := (.tmp 10)) (xs := #[(.tmp 11), (.const (.int .u8 (54))), (.tmp 12)]) (tys := #[125, 5, 52]) (first := #[]) (captured := #[]) (d := (some 13)) (k := 3) K rfl K K Tryz.call91 (Nc A6 c7 b (54 : UInt8) p5 b4 s (RdT.sp a8 u) j b5) ?_
 rintro e d0 ⟨rfl, a3⟩
 refine ⟨_, rfl, ?_⟩
 have b6 := SP.call u a3
 clear a3
 refine iS 5 ?_
 refine Vc (e := eU8) (l := (List.replicate 32 (0 : UInt8))) (m := 32) (t := 89) (z := .agg (Qa eU8 (List.replicate 32 (0 : UInt8))).toArray) (d := (some 7)) (k := 4) K rfl K rfl rfl K b6 ?_
 intro o d1 b7
 refine iS 6 ?_
 refine V6 (e := eU8) (l := (List.replicate 32 (0 : UInt8))) (l' := j) (m := 32) (t := 89) (x := (.tmp 7)) (y := (.tmp 13)) (g := o) (i := 2) (d := none) (k := 5) K rfl K K v b7 rfl K ?_
 intro d2 b8
 refine iF ?_
 refine aQ ?_
 obtain ⟨c, b9, H⟩ := Qc H
 obtain ⟨w, H⟩ := Zm H
 replace w := Nat.eq_of_beq_eq_true w
 refine aG [GEq (.func (.func 91) #[] #[]), GEq (.agg (Qa eU8 b).toArray), GEq (.slice (some ⟨o, 0, none⟩) (List.length j) 32), GEq (.agg (Qa eU8 c).toArray), C3] [3, 4] [sG [] [] [] w0 [Vp 89 eU8 g9 32 (List.replicate 32 (0 : UInt8)), Vp 125 eU8 p 64 b, Vp 89 eU8 o 32 j], sG [3] [(.agg (Qa eU8 c).toArray)] [] w0 [Vp 89 eU8 g9 32 (List.replicate 32 (0 : UInt8)), Vp 125 eU8 p 64 b, Vp 89 eU8 o 32 j], sG [3, 4] [(.agg (Qa eU8 c).toArray), undef] [] w0 [Vp 89 eU8 g9 32 c, Vp 125 eU8 p 64 b, Vp 89 eU8 o 32 j]] 5 2 ⟨trivial, SP.drew b8⟩ ?_ ?_
 iterate 5 refine And.intro ?_ ?_
 exact trivial
 ·exact oV (hC (hS 5 (.func (.func 91) #[] #[])) (h0)) (.func (.func 91) #[] #[])
 ·refine oL 0 ?_
  ·rintro ρ' w' hs hah ⟨d3, c0⟩
   refine kM (kc (kS hs 6 (pt p 0)) k0) fun hkn => ?_
   refine Zd (e := eU8) (l := b) (m := 64) (t := 125) (x := (.tmp 6)) (g := p) (i := 1) (d := (some 15)) (k := 1) K rfl K c0 rfl K K ?_
   exact eK hkn
 ·refine oL 0 ?_
  ·rintro ρ' w' hs hah ⟨d4, c1⟩
   refine kM (kc (kS hs 7 (pt o 0)) k0) fun hkn => ?_
   refine J1 (e := eU8) (l := j) (m := 32) (g := o) (T := 89) (E := 5) (x := (.tmp 7)) (q := 2) (d := (some 16)) (k := 2) K rfl K K K c1 rfl ?_
   exact eK hkn
 ·refine oH 0 1 ?_
  ·rintro ρ' w' hs hah ⟨d5, a4⟩
   refine kM (kc (kA hah 0 14) (kc (kA hah 1 15) (kc (kA hah 2 16) k0))) fun hkn => ?_
   refine Z5 (f := 91) (fo := (.tmp 14)) (xs := #[(.tmp 15), (.const (.int .u8 (92))), (.tmp 16)]) (tys := #[125, 5, 52]) (first := #[]) (captured := #[]) (d := (some 17)) (k := 3) K rfl K K Tryz.call91 (Nc (some ⟨o, 0, none⟩) 32 b (92 : UInt8) j w' s (Vr (SP.get a4 (i := 2) rfl)) c b9) ?_
   rintro e d6 ⟨rfl, a5⟩
   refine ⟨_, rfl, ?_⟩
   have c2 := SP.call a4 a5
   clear a5
   refine ⟨_, Qb hkn, rfl, ?_⟩
   exact (And.intro (And.intro rfl (trivial)) (c2))
 ·refine oH 1 2 ?_
  ·rintro ρ' w' hs hah ⟨⟨a6, -⟩, c4⟩
   refine kN [(4, (pt g9 0)), (17, (.agg (Qa eU8 c).toArray))] ⟨(hs 4 K).trans K, (Yl (h := 3) K).symm.trans a6, trivial⟩ fun hkn => ?_
   refine V6 (e := eU8) (l := (List.replicate 32 (0 : UInt8))) (l' := c) (m := 32) (t := 89) (x := (.tmp 4)) (y := (.tmp 17)) (g := g9) (i := 0) (d := none) (k := 4) K rfl K K w c4 rfl K ?_
   intro d7 c5
   refine ⟨_, Qb hkn, trivial, ?_⟩
   exact (And.intro (And.intro a6 (And.intro rfl (trivial))) (c5))
 ·rintro ρ' w' hs hf ⟨⟨d8, d9, -⟩, a0⟩
  refine Vj [(4, (pt g9 0))] ⟨(hs 4 K).trans K, trivial⟩ ?_
  obtain ⟨e0, c6⟩ : ∃ x, w' = x := ⟨_, rfl⟩
  rw [c6] at a0 ⊢
  refine At.ret K ?_
  refine ⟨(.agg (Qa eU8 c).toArray), Rf K (Nb (e := eU8) (l := c) (a := 4) (t := 89) K (SP.get a0 (i := 0) rfl) K K), ?_⟩
  obtain rfl := Qf H
  exact ⟨rfl, SP.sel a0 [] rfl rfl⟩
def X9 (e : (List UInt8) → Int → Option ((List UInt8))) (p1 : (List UInt8)) (p5 : (List (List UInt8))) (b : (List UInt8)) (a : Int) : Option ((List UInt8)) :=
  (cond (decide (a < ((List.length p5 : Nat) : Int))) ((idx p5 a).bind fun c => (cond (decide (((List.length c : Nat) : Int) > 255)) (some (([] : List UInt8))) ((Ns c).bind fun f => ((app b f).bind fun g => (e g (IntKind.wrap .i64 (a + 1))))))) ((G0 p1 b).bind fun d => ((chk (Nat.beq (List.length d) 32)).bind fun _ => ((Ur d).bind fun h => (some (h))))))
def Ya (p1 : (List UInt8)) (p5 : (List (List UInt8))) : Nat → (List UInt8) → Int → Option ((List UInt8))
  | 0, _, _ => none
  | f + 1, a, b => X9  (Ya p1 p5 f) p1 p5 a b
def Gb (p1 : (List UInt8)) (p5 : (List (List UInt8))) : Option ((List UInt8)) :=
  (Ya p1 p5 Zw ([] : List UInt8) 0)
set_option maxRecDepth 100000 in
set_option maxHeartbeats 4000000 in
theorem D0 (A2 : Option Addr) (c3 : Nat) (A6 : Option Addr) (c7 : Nat) (p1 : (List UInt8)) (p5 : (List (List UInt8))) (w0 : World) (b9 : RdT eU8 w0 A2 c3 p1) (a8 : RdT Zc w0 A6 c7 p5) (r : ((List UInt8))) (H : Gb p1 p5 = some r) :
  Calls Tryz.prog 51 #[(.slice A2 (List.length p1) c3), (.slice A6 (List.length p5) c7)] w0 (fun e w' => e = .returned (.string ⟨List.toArray r⟩) ∧ SP [] w0 w' []) := by
 unfold Gb at H
 refine Qt (n := 28) Tryz.func51 K K K ?_
 have c0 := Q1 [] w0
 refine aQ ?_
 refine aR ?_
 refine iR 1 1 [(4, (.string ⟨List.toArray ([] : List UInt8)⟩))] ?_
 refine iF ?_
 refine aQ ?_
 refine aR ?_
 refine iR 1 1 [(5, (.slice none (List.length ([] : List UInt8)) 0))] ?_
 refine iF ?_
 refine aQ ?_
 refine aQ ?_
 refine aR ?_
 refine iR 3 3 [(9, (.slice A6 (List.length p5) c7)), (10, (.int .i64 ((List.length p5 : Nat) : Int))), (11, (.int .i64 0))] ?_
 refine iF ?_
 refine X8 K (id := 0) K ?_
 refine Ne K (fun f1 ρ w => ∃ (f : (List UInt8)) (a : Int) (h : Option Addr) (p : Nat), Zg ρ [(0, (.slice A2 (List.length p1) c3)), (5, (.slice h (List.length f) p)), (9, (.slice A6 (List.length p5) c7)), (10, (.int .i64 ((List.length p5 : Nat) : Int))), (11, (.int .i64 a))] ∧ SP [] w0 w [Ut 5 eU8 h p f] ∧ Ya p1 p5 f1 f a = some r) (by rintro ρ w ⟨f, a, h, p, hk, hs, H⟩; cases H) ?_ Zw ?_
 ·rintro f1 ρ a9 ⟨f, a, h, p, hk, v, H⟩
  refine At.known [(0, (.slice A2 (List.length p1) c3)), (5, (.slice h (List.length f) p)), (9, (.slice A6 (List.length p5) c7)), (10, (.int .i64 ((List.length p5 : Nat) : Int))), (11, (.int .i64 a))] hk ?_
  replace H := (show X9 (Ya p1 p5 f1) p1 p5 f a = some r from H)
  unfold X9 at H
  refine aQ ?_
  refine aR ?_
  refine iR 1 1 [(12, (.bool (decide (a < ((List.length p5 : Nat) : Int)))))] ?_
  refine iF ?_
  refine aQ ?_
  refine Zu K (o := (.tmp 12)) K (b := (decide (a < ((List.length p5 : Nat) : Int)))) K (fun a2 => ?_) (fun a2 => ?_)
  ·have H := ct H a2
   refine At.skip K ?_
   refine aQ ?_
   refine X8 K (id := 1) K ?_
   refine aQ ?_
   refine aR ?_
   obtain ⟨u, b0, b1, c1, H⟩ := Qy H
   refine iS 1 ?_
   refine Z2 (e := Zc) (l := p5) (A := A6) (c := c7) (T := 53) (E := 9) (x := (.tmp 9)) (ix := (.tmp 11)) (ki := .i64) (iz := a) (d := (some 13)) (k := 0) K rfl K K K K (RdT.sp a8 v) b0 b1 ?_
   intro c2 c4 c5 d7 hc118
   refine iS 2 ?_
   refine sC 9 13 c2 (c4 + Int.toNat a * Zc.sz) (.string ⟨List.toArray u⟩) 14 (Qw (e := Zc) (Qp (RdT.sp a8 v) c5 b0 b1) c1 (j := 0) rfl) ?_
   refine iR 1 3 [(7, (.string ⟨List.toArray u⟩))] ?_
   refine iF ?_
   refine aQ ?_
   refine aQ ?_
   refine aR ?_
   refine iR 3 3 [(15, (.string ⟨List.toArray u⟩)), (16, (.int .i64 ((List.length u : Nat) : Int))), (17, (.bool (decide (((List.length u : Nat) : Int) > 255))))] ?_
   refine iF ?_
   refine Zu K (o := (.tmp 17)) K (b := (decide (((List.length u : Nat) : Int) > 255))) K (fun a3 => ?_) (fun a3 => ?_)
   ·have H := ct H a3
    refine aQ ?_
    refine aR ?_
    refine iR 1 1 [(4, (.string ⟨List.toArray ([] : List UInt8)⟩))] ?_
    refine iF ?_
    refine At.ret K ?_
    refine ⟨(.string ⟨List.toArray ([] : List UInt8)⟩), K, ?_⟩
    obtain rfl := Qf H
    exact ⟨rfl, SP.sel v [] rfl rfl⟩
   ·have H := cf H a3
    refine At.skip K ?_
    refine aR ?_
    refine iR 2 2 [(18, (.slice h (List.length f) p)), (19, (.string ⟨List.toArray u⟩))] ?_
    obtain ⟨a0, c6, H⟩ := Qc H
    refine iS 3 ?_
    refine cF 69 #[(.tmp 19)] #[9] 20 Tryz.call69 (Bp  u a9  a0 c6) ?_
    rintro e d8 ⟨c8, c9, rfl, b2⟩
    refine ⟨_, rfl, ?_⟩
    have b3 := SP.call v b2
    clear b2
    obtain ⟨hl130, H⟩ := G3 H
    obtain ⟨b4, hyl131⟩ : ∃ y, f ++ a0 = y := ⟨_, rfl⟩
    rw [hyl131] at H
    refine iS 4 ?_
    refine Qj.append (e := eU8) (l := f) (m := a0) (A := h) (c := p) (T := 52) (TX := 52) (E := 5) (b := 1) (s := (.tmp 18)) (x := (.tmp 20)) (i := 0) (vx := (.slice c8 (List.length a0) c9)) (d := (some 21)) (k := 3) K rfl K K K K rfl b3 rfl (Fc (E := 5) K (V1 (SP.get b3 (i := 1) rfl))) hl130 ?_
    rw [hyl131]
    intro b5 b6 d9 d0
    refine iR 1 5 [(5, (.slice b5 (List.length b4) b6))] ?_
    refine iF ?_
    refine aR ?_
    refine iR 2 2 [(22, (.int .i64 (IntKind.wrap .i64 (a + 1)))), (11, (.int .i64 (IntKind.wrap .i64 (a + 1))))] ?_
    refine iF ?_
    exact ⟨b4, (IntKind.wrap .i64 (a + 1)), b5, b6, ⟨K, K, K, K, K, trivial⟩, SP.sel d0 [0] rfl rfl, H⟩
  ·have H := cf H a2
   refine At.exit K (id := 0) K ?_
   refine aQ ?_
   refine aR ?_
   refine iR 2 2 [(23, (.slice A2 (List.length p1) c3)), (24, (.slice h (List.length f) p))] ?_
   obtain ⟨a1, d1, H⟩ := Qc H
   obtain ⟨a4, H⟩ := Zm H
   replace a4 := Nat.eq_of_beq_eq_true a4
   refine iS 3 ?_
   refine cF 70 #[(.tmp 23), (.tmp 24)] #[52, 52] 25 Tryz.call70 (B2 A2 c3 h p p1 f a9 (RdT.sp b9 v) (V1 (SP.get v (i := 0) rfl)) a1 d1) ?_
   rintro e e0 ⟨rfl, b7⟩
   refine ⟨_, rfl, ?_⟩
   have d2 := SP.call v b7
   clear b7
   refine iS 4 ?_
   refine Vc (e := eU8) (l := (List.replicate 32 (0 : UInt8))) (m := 32) (t := 89) (z := .agg (Qa eU8 (List.replicate 32 (0 : UInt8))).toArray) (d := (some 8)) (k := 3) K rfl K rfl rfl K d2 ?_
   intro a5 e1 d3
   refine iS 5 ?_
   refine V6 (e := eU8) (l := (List.replicate 32 (0 : UInt8))) (l' := a1) (m := 32) (t := 89) (x := (.tmp 8)) (y := (.tmp 25)) (g := a5) (i := 1) (d := none) (k := 4) K rfl K K a4 d3 rfl K ?_
   intro d4 a6
   refine iF ?_
   refine aQ ?_
   refine aR ?_
   refine iS 1 ?_
   refine J1 (e := eU8) (l := a1) (m := 32) (g := a5) (T := 89) (E := 5) (x := (.tmp 8)) (q := 1) (d := (some 26)) (k := 0) K rfl K K K a6 rfl ?_
   obtain ⟨a7, d5, H⟩ := Qc H
   refine iS 2 ?_
   refine cF 71 #[(.tmp 26)] #[52] 27 Tryz.call71 (Dl (some ⟨a5, 0, none⟩) 32 a1 d4 (Vr (SP.get a6 (i := 1) rfl)) a7 d5) ?_
   rintro e e2 ⟨rfl, b8⟩
   refine ⟨_, rfl, ?_⟩
   have d6 := SP.call a6 b8
   clear b8
   refine iR 1 3 [(4, (.string ⟨List.toArray a7⟩))] ?_
   refine iF ?_
   refine At.ret K ?_
   refine ⟨(.string ⟨List.toArray a7⟩), K, ?_⟩
   obtain rfl := Qf H
   exact ⟨rfl, SP.sel d6 [] rfl rfl⟩
 ·exact ⟨([] : List UInt8), 0, none, 0, ⟨K, K, K, K, K, trivial⟩, SP.sel (Bd c0 5 eU8) [0] rfl rfl, H⟩
end Go.Proofs.YtmgfanhcdfobhaaGreatDoor
namespace Go.Proofs.YtmgfanhcdfobhaaGreatDoor
def Cy : List UInt8 := [48, 49, 50, 51, 52, 53, 54, 55, 56, 57, 97, 98, 99, 100, 101, 102]
def hexC (c : UInt8) : List UInt8 := [Cy.getD (c.toNat / 16) 0, Cy.getD (c.toNat % 16) 0]
def hexL (b : List UInt8) : List UInt8 := b.flatMap hexC
theorem Gc : ∀ b : List UInt8, (hexL b).length = 2 * b.length
  | [] => rfl
  | c :: b => by
    have := Gc b
    simp [hexL, hexC] at *
    omega
theorem hexL_snoc (b : List UInt8) (c : UInt8) : hexL (b ++ [c]) = hexL b ++ hexC c := by simp [hexL]
theorem Bq {α : Type} (l : List α) (i : Nat) (d : α) (h : i < l.length) : l.take (i + 1) = l.take i ++ [l.getD i d] := by
  rw [List.take_add_one, List.getElem?_eq_getElem h]
  simp [List.getD, h]
theorem hi_prog (c : UInt8) : Nk .u8 ((c.toNat : Nat) : Int) 4 = ((c.toNat / 16 : Nat) : Int) := He .u8 c.toNat 4 (by decide)
theorem lo_prog (c : UInt8) : Yc .u8 ((c.toNat : Nat) : Int) 15 = ((c.toNat % 16 : Nat) : Int) := by
  have h := c.toNat_lt
  unfold Yc
  have : (BitVec.ofInt 8 ((c.toNat : Nat) : Int) &&& BitVec.ofInt 8 15).toNat = c.toNat % 16 := by
    rw [BitVec.toNat_and, BitVec.ofInt_natCast, BitVec.toNat_ofNat, Nat.mod_eq_of_lt (by omega)]
    show c.toNat &&& 15 = _
    exact Nat.and_two_pow_sub_one_eq_mod c.toNat 4
  show IntKind.wrap .u8 ((BitVec.ofInt 8 ((c.toNat : Nat) : Int) &&& BitVec.ofInt 8 15).toNat : Int) = _
  rw [this, wrap8]
  omega
theorem Ez : Cy.length = 16 := rfl
def hexS (b : List UInt8) (i : Nat) : List UInt8 := hexL (b.take i) ++ List.replicate (2 * b.length - 2 * i) 0
theorem Fz (b : List UInt8) (i : Nat) (h : i ≤ b.length) : (hexS b i).length = 2 * b.length := by
  simp [hexS, Gc]
  omega
theorem hexS_next (b : List UInt8) (i : Nat) (h : i < b.length) : ((hexS b i).set (2 * i) (Cy.getD ((b.getD i 0).toNat / 16) 0)).set (2 * i + 1) (Cy.getD ((b.getD i 0).toNat % 16) 0) = hexS b (i + 1) := by
  have hl : (hexL (b.take i)).length = 2 * i := by rw [Gc, List.length_take]; omega
  unfold hexS
  rw [show 2 * b.length - 2 * i = (2 * b.length - 2 * (i + 1)) + 1 + 1 by omega, List.replicate_succ, List.replicate_succ]
  rw [List.set_append_right _ _ (by omega), List.set_append_right _ _ (by omega), hl, Nat.sub_self, show 2 * i + 1 - 2 * i = 1 by omega]
  rw [Bq b i 0 h, hexL_snoc]
  simp [hexC]
theorem Cz (b : List UInt8) (hb : b.length ≤ 1000000) : ∀ (d i f : Nat), d = b.length - i → i ≤ b.length → d < f → Xw b f (hexS b i) (i : Int) = some (hexL b) := by
  intro d
  induction d with
  | zero =>
    intro i f hd hi hf
    obtain ⟨f, rfl⟩ : ∃ g, f = g + 1 := ⟨f - 1, by omega⟩
    have : i = b.length := by omega
    subst this
    show Xv (Xw b f) b (hexS b b.length) ((b.length : Nat) : Int) = _
    unfold Xv
    rw [show decide (((b.length : Nat) : Int) < ((b.length : Nat) : Int)) = false by simp, cond_false]
    unfold hexS
    rw [List.take_length, Nat.sub_self]
    simp
  | succ d ih =>
    intro i f hd hi hf
    obtain ⟨f, rfl⟩ : ∃ g, f = g + 1 := ⟨f - 1, by omega⟩
    show Xv (Xw b f) b (hexS b i) (i : Int) = _
    unfold Xv
    have hl := Fz b i (by omega)
    rw [show decide ((i : Int) < ((b.length : Nat) : Int)) = true by simp; omega, cond_true, Z9 b i 0 (by omega)]
    have hlt := (b.getD i 0).toNat_lt
    have e1 : idx ([48, 49, 50, 51, 52, 53, 54, 55, 56, 57, 97, 98, 99, 100, 101, 102] : List UInt8) (((b.getD i 0).toNat / 16 : Nat) : Int) = some (Cy.getD ((b.getD i 0).toNat / 16) 0) := Z9 Cy _ 0 (by rw [Ez]; omega)
    have e2 : idx ([48, 49, 50, 51, 52, 53, 54, 55, 56, 57, 97, 98, 99, 100, 101, 102] : List UInt8) (((b.getD i 0).toNat % 16 : Nat) : Int) = some (Cy.getD ((b.getD i 0).toNat % 16) 0) := Z9 Cy _ 0 (by rw [Ez]; omega)
    have w2 : IntKind.wrap .i64 (2 * (i : Int)) = ((2 * i : Nat) : Int) := by rw [show (2 * (i : Int)) = ((2 * i : Nat) : Int) by omega, Xu (by omega)]
    have w3 : IntKind.wrap .i64 (((2 * i : Nat) : Int) + 1) = ((2 * i + 1 : Nat) : Int) := by rw [show (((2 * i : Nat) : Int) + 1) = ((2 * i + 1 : Nat) : Int) by omega, Xu (by omega)]
    have w4 : IntKind.wrap .i64 ((i : Int) + 1) = ((i + 1 : Nat) : Int) := by rw [show ((i : Int) + 1) = ((i + 1 : Nat) : Int) by omega, Xu (by omega)]
    simp only [Option.bind_some, hi_prog, lo_prog, e1, e2, w2, w3, w4]
    rw [Z9 _ (2 * i) 0 (by omega), Option.bind_some, Z9 _ (2 * i + 1) 0 (by simp; omega), Option.bind_some, Int.toNat_natCast, Int.toNat_natCast, hexS_next b i (by omega)]
    exact ih (i + 1) f (by omega) (by omega) (by omega)
theorem prog_hex (b : List UInt8) (hb : b.length ≤ 1000000) : Ur b = some (hexL b) := by
  unfold Ur
  rw [show (2 * ((b.length : Nat) : Int)) = ((2 * b.length : Nat) : Int) by omega, Xu (by omega), show decide (0 ≤ ((2 * b.length : Nat) : Int) ∧ ((2 * b.length : Nat) : Int) ≤ 2147483648) = true from decide_eq_true ⟨by omega, by omega⟩]
  simp only [chk, Option.bind_some, Int.toNat_natCast]
  have := Cz b hb b.length 0 Zw (by omega) (by omega) (by unfold Zw; omega)
  have h0 : hexS b 0 = List.replicate (2 * b.length) 0 := by simp [hexS, hexL]
  rw [h0] at this
  exact this
def keyK (key : List UInt8) : List UInt8 := if key.length > 64 then sumL key else key
def keyL (key : List UInt8) : List UInt8 := keyK key ++ List.replicate (64 - (keyK key).length) 0
theorem E0 {key : List UInt8} (h : key.length > 64) : keyK key = sumL key := if_pos h
theorem Ch {key : List UInt8} (h : ¬ key.length > 64) : keyK key = key := if_neg h
def xorC (x c : UInt8) : UInt8 := De (Xn .u8 ((x.toNat : Nat) : Int) ((c.toNat : Nat) : Int))
def xorL (k : List UInt8) (c : UInt8) : List UInt8 := k.map fun x => xorC x c
def macL (key b : List UInt8) : List UInt8 := sumL (xorL (keyL key) 92 ++ sumL (xorL (keyL key) 54 ++ b))
theorem Rs (key : List UInt8) : (keyL key).length = 64 := by
  unfold keyL
  by_cases h : key.length > 64
  · rw [E0 h, List.length_append, List.length_replicate, Y9]
  · rw [Ch h, List.length_append, List.length_replicate]; omega
theorem Rt (key b : List UInt8) : (macL key b).length = 32 := Y9 _
theorem Jx (k : List UInt8) (c : UInt8) : (xorL k c).length = k.length := by simp [xorL]
def Hg (k : List UInt8) (c : UInt8) (i : Nat) : List UInt8 := (xorL k c).take i ++ k.drop i
theorem F0 (k : List UInt8) (c : UInt8) (i : Nat) : (Hg k c i).length = k.length := by
  simp [Hg, Jx]
  omega
theorem xorS_get (k : List UInt8) (c : UInt8) (i : Nat) (h : i < k.length) : (Hg k c i).getD i 0 = k.getD i 0 := by
  unfold Hg
  simp only [List.getD]
  rw [List.getElem?_append_right (by simp; omega), List.getElem?_drop]
  congr 2
  simp [Jx]
  omega
theorem xorS_next (k : List UInt8) (c : UInt8) (i : Nat) (h : i < k.length) : (Hg k c i).set i (xorC (k.getD i 0) c) = Hg k c (i + 1) := by
  unfold Hg
  have hl : ((xorL k c).take i).length = i := by simp [Jx]; omega
  rw [List.set_append_right _ _ (by omega), hl, Nat.sub_self, List.drop_eq_getElem_cons h, List.set_cons_zero, Bq (xorL k c) i 0 (by simp [Jx]; omega), List.append_assoc]
  congr 2
  simp [xorL, List.getD, h]
theorem prog_of (key : List UInt8) (hk : key.length ≤ 1073741824) : R8 key = some (keyL key) := by
  have hc : ∀ v : List UInt8, v.length ≤ 64 → Uh v = some (v ++ List.replicate (64 - v.length) 0) := by
    intro v hv
    unfold Uh
    rw [Option.bind_some]
    congr 1
    unfold cpy
    rw [List.take_zero, List.nil_append, List.length_replicate, List.take_of_length_le hv, List.drop_replicate, show 64 - (0 + min 64 v.length) = 64 - v.length by omega]
  unfold R8 keyL
  by_cases h : key.length > 64
  · rw [show decide (((key.length : Nat) : Int) > 64) = true from decide_eq_true (by omega), cond_true, Hf key hk, Option.bind_some, Y9]
    simp only [Nat.beq_refl, chk, Option.bind_some]
    rw [hc _ (by rw [Y9]; omega), E0 h]
  · rw [show decide (((key.length : Nat) : Int) > 64) = false from decide_eq_false (by omega), cond_false, hc _ (by omega), Ch h]
theorem prog_xor (k : List UInt8) (hk : k.length = 64) (c : UInt8) (b : List UInt8) (hb : b.length ≤ 1000000000) : ∀ (d i f : Nat), d = 64 - i → i ≤ 64 → d < f → Xl c b f (Hg k c i) (i : Int) = some (sumL (xorL k c ++ b)) := by
  intro d
  induction d with
  | zero =>
    intro i f hd hi hf
    obtain ⟨f, rfl⟩ : ∃ g, f = g + 1 := ⟨f - 1, by omega⟩
    have : i = 64 := by omega
    subst this
    show Xk (Xl c b f) c b (Hg k c 64) ((64 : Nat) : Int) = _
    unfold Xk
    have hx : Hg k c 64 = xorL k c := by
      unfold Hg
      rw [List.take_of_length_le (by rw [Jx]; omega), List.drop_of_length_le (by omega), List.append_nil]
    rw [show decide (((64 : Nat) : Int) < 64) = false by decide, cond_false, hx, Cd (by rw [Jx]; omega), Option.bind_some, Hf _ (by rw [List.length_append, Jx]; omega), Option.bind_some, Y9]
    rfl
  | succ d ih =>
    intro i f hd hi hf
    obtain ⟨f, rfl⟩ : ∃ g, f = g + 1 := ⟨f - 1, by omega⟩
    show Xk (Xl c b f) c b (Hg k c i) (i : Int) = _
    unfold Xk
    have hl := F0 k c i
    rw [show decide ((i : Int) < 64) = true from decide_eq_true (by omega), cond_true, Z9 _ i 0 (by omega), Option.bind_some, Option.bind_some, Option.bind_some, Int.toNat_natCast, xorS_get k c i (by omega)]
    rw [show ((i : Int) + 1) = ((i + 1 : Nat) : Int) by omega, Xu (by omega)]
    have hn := xorS_next k c i (by omega)
    unfold xorC at hn
    rw [hn]
    exact ih (i + 1) f (by omega) (by omega) (by omega)
theorem Br (k : List UInt8) (hk : k.length = 64) (c : UInt8) (b : List UInt8) (hb : b.length ≤ 1000000000) : J7 k c b = some (sumL (xorL k c ++ b)) := by
  have := prog_xor k hk c b hb 64 0 Zw (by omega) (by omega) (by unfold Zw; omega)
  rw [show Hg k c 0 = k by simp [Hg]] at this
  exact this
theorem prog_mac (key b : List UInt8) (hk : key.length ≤ 1073741824) (hb : b.length ≤ 1000000000) : G0 key b = some (macL key b) := by
  unfold G0
  rw [prog_of key hk, Option.bind_some, Rs]
  simp only [Nat.beq_refl, chk, Option.bind_some]
  rw [Br _ (Rs key) 54 b hb, Option.bind_some, Y9]
  simp only [Nat.beq_refl, Option.bind_some]
  rw [Br _ (Rs key) 92 _ (by rw [Y9]; omega), Option.bind_some, Y9]
  rfl
end Go.Proofs.YtmgfanhcdfobhaaGreatDoor
namespace Go.Proofs.YtmgfanhcdfobhaaGreatDoor
def txtL (s : List UInt8) : List UInt8 := UInt8.ofNat s.length :: s
def Dv (key : List UInt8) (ws : List (List UInt8)) : List UInt8 := if ws.all (fun w => decide (w.length ≤ 255)) then hexL (macL key (ws.flatMap txtL)) else []
theorem C0 {key : List UInt8} {ws : List (List UInt8)} (h : ∀ w ∈ ws, w.length ≤ 255) : (Dv key ws).length = 64 := by
  unfold Dv
  rw [if_pos (by simpa using h), Gc, Rt]
theorem prog_text (s : List UInt8) (h : s.length ≤ 255) : Ns s = some (txtL s) := by
  unfold Ns
  rw [show decide (((s.length : Nat) : Int) > 255) = false from decide_eq_false (by omega), cond_false, Cd (by simp; omega), Ek]
  rfl
theorem Bs (s : List UInt8) : (txtL s).length = s.length + 1 := by simp [txtL]
theorem B3 {ws : List (List UInt8)} {i : Nat} (hi : i < ws.length) (h : ¬ (ws.getD i []).length ≤ 255) : ws.all (fun w => decide (w.length ≤ 255)) = false := by
  rw [List.all_eq_false]
  refine ⟨ws.getD i [], ?_, by simpa using h⟩
  simp [List.getD, hi]
theorem Bt (key : List UInt8) (hk : key.length ≤ 1073741824) (ws : List (List UInt8)) (hw : ws.length ≤ 1000) : ∀ (d i f : Nat), d = ws.length - i → i ≤ ws.length → d < f → (∀ w ∈ ws.take i, w.length ≤ 255) → ((ws.take i).flatMap txtL).length ≤ 256 * i →
    Ya key ws f ((ws.take i).flatMap txtL) (i : Int) = some (Dv key ws) := by
  intro d
  induction d with
  | zero =>
    intro i f hd hi hf hall hlen
    obtain ⟨f, rfl⟩ : ∃ g, f = g + 1 := ⟨f - 1, by omega⟩
    have : i = ws.length := by omega
    subst this
    rw [List.take_length] at hall hlen ⊢
    show X9 (Ya key ws f) key ws (ws.flatMap txtL) ((ws.length : Nat) : Int) = _
    unfold X9 Dv
    rw [show decide (((ws.length : Nat) : Int) < ((ws.length : Nat) : Int)) = false by simp, cond_false, prog_mac key _ hk (by omega), Option.bind_some, Rt]
    simp only [Nat.beq_refl, chk, Option.bind_some]
    rw [prog_hex _ (by rw [Rt]; omega), Option.bind_some, if_pos (by simpa using hall)]
  | succ d ih =>
    intro i f hd hi hf hall hlen
    obtain ⟨f, rfl⟩ : ∃ g, f = g + 1 := ⟨f - 1, by omega⟩
    show X9 (Ya key ws f) key ws ((ws.take i).flatMap txtL) (i : Int) = _
    unfold X9
    rw [show decide ((i : Int) < ((ws.length : Nat) : Int)) = true from decide_eq_true (by omega), cond_true, Z9 ws i [] (by omega), Option.bind_some]
    by_cases h : (ws.getD i []).length ≤ 255
    · rw [show decide ((((ws.getD i []).length : Nat) : Int) > 255) = false from decide_eq_false (by omega), cond_false, prog_text _ h, Option.bind_some, Cd (by rw [Bs]; omega), Option.bind_some, show ((i : Int) + 1) = ((i + 1 : Nat) : Int) by omega, Xu (by omega)]
      have ht := Bq ws i [] (by omega)
      have hf : (ws.take (i + 1)).flatMap txtL = (ws.take i).flatMap txtL ++ txtL (ws.getD i []) := by rw [ht]; simp
      have := ih (i + 1) f (by omega) (by omega) (by omega) (by
        intro w hw'
        rw [ht] at hw'
        rcases List.mem_append.1 hw' with h1 | h1
        · exact hall w h1
        · simp only [List.mem_singleton] at h1
          rw [h1]; exact h) (by rw [hf, List.length_append, Bs]; omega)
      rw [hf] at this
      exact this
    · rw [show decide ((((ws.getD i []).length : Nat) : Int) > 255) = true from decide_eq_true (by omega), cond_true]
      unfold Dv
      rw [B3 (by omega) h]
      rfl
theorem H2 (key : List UInt8) (hk : key.length ≤ 1073741824) (ws : List (List UInt8)) (hw : ws.length ≤ 1000) : Gb key ws = some (Dv key ws) :=
  Bt key hk ws hw ws.length 0 Zw (by omega) (by omega) (by unfold Zw; omega) (by simp) (by simp)
end Go.Proofs.YtmgfanhcdfobhaaGreatDoor
namespace Go.Proofs.YtmgfanhcdfobhaaGreatDoor
open Go.RowKit Go.WideMaps Go.WideShapes
abbrev Us := List ((List UInt8 × List UInt8) × Int)
def E3 (k : List UInt8 × List UInt8) : Value := .agg #[.string ⟨k.1.toArray⟩, .string ⟨k.2.toArray⟩]
theorem keyV_inj {a b : List UInt8 × List UInt8} (h : E3 a = E3 b) : a = b := by
  unfold E3 at h
  injection h with h
  have := congrArg Array.toList h
  simp at this
  exact Prod.ext this.1 this.2
def E1 (L : Us) (k : List UInt8 × List UInt8) : Int := match L.findIdx? (fun e => e.1 == k) with | some j => (L.getD j (k, 0)).2 | none => 0
def mEnc (L : Us) : List (Value × Value) := L.map fun p => (E3 p.1, .int .i64 p.2)
structure MOk (m : Nat) (L : Us) (es : Array MapEntry) (clock : Nat) (w : World) : Prop where
  heap : w.heap[m]? = some (.map es clock)
  ents : es.toList.map (fun e => (e.key, e.val)) = mEnc L
  len : ∀ p ∈ L, p.1.1.length ≤ maxLen ∧ p.1.2.length ≤ maxLen
  nd : L.Pairwise fun a b => a.1 ≠ b.1
  born : es.toList.Pairwise fun a b => a.born ≠ b.born
  clk : ∀ e ∈ es.toList, e.born < clock
def Vq (m : Nat) (L : Us) : Ent := ⟨[m], fun w => ∃ es clock, MOk m L es clock w, fun w w' hk ⟨es, clock, h⟩ => ⟨es, clock, (hk m (by simp)).trans h.heap, h.ents, h.len, h.nd, h.born, h.clk⟩⟩
theorem find_at2 {L : Us} {k : List UInt8 × List UInt8} {j : Nat} {p : (List UInt8 × List UInt8) × Int} (hn : L.Pairwise fun a b => a.1 ≠ b.1) (hj : L[j]? = some p) (hp : p.1 = k) : L.findIdx? (fun e => e.1 == k) = some j := by
  obtain ⟨hlt, he⟩ := List.getElem?_eq_some_iff.1 hj
  rw [List.findIdx?_eq_some_iff_getElem]
  refine ⟨hlt, by rw [he, hp]; simp, fun i hi => ?_⟩
  have := List.pairwise_iff_getElem.1 hn i j (by omega) hlt hi
  rw [he, hp] at this
  simpa using this
theorem H3 {L : Us} {k : List UInt8 × List UInt8} (h : ∀ p ∈ L, p.1 ≠ k) : L.findIdx? (fun e => e.1 == k) = none := by
  rw [List.findIdx?_eq_none_iff]
  intro p hp
  simpa using h p hp
section
variable {P : Program} {w : World} {m : Nat} {L : Us} {es : Array MapEntry} {clock : Nat} {T kt et : TypeId} {k : List UInt8 × List UInt8}
structure KeyT (P : Program) (kt : TypeId) : Prop where
  law : KeyLaw P kt
  key : ∀ k : List UInt8 × List UInt8, k.1.length ≤ maxLen → k.2.length ≤ maxLen → ∃ l, keyOf P kt (E3 k) = some l
theorem MOk.find (h : MOk m L es clock w) (K : KeyT P kt) (h1 : k.1.length ≤ maxLen) (h2 : k.2.length ≤ maxLen) :
    ((Instr.findKey kt (E3 k) es.toList).run P w = .ok none w ∧ L.findIdx? (fun e => e.1 == k) = none) ∨ ∃ j p e, L[j]? = some p ∧ p.1 = k ∧ es.toList[j]? = some e ∧ e.key = E3 k ∧ e.val = .int .i64 p.2 ∧ L.findIdx? (fun e => e.1 == k) = some j ∧ (Instr.findKey kt (E3 k) es.toList).run P w = .ok (some (j, .int .i64 p.2)) w := by
  obtain ⟨l, hl⟩ := K.key k h1 h2
  have get : ∀ (j : Nat) (e : MapEntry), es.toList[j]? = some e → ∃ p, L[j]? = some p ∧ e.key = E3 p.1 ∧ e.val = .int .i64 p.2 := fun j e hj => by
    have h3 := congrArg (fun x => x[j]?) h.ents
    simp only [mEnc, List.getElem?_map, hj, Option.map_some] at h3
    have h3' := h3.symm
    rw [Option.map_eq_some_iff] at h3'
    obtain ⟨p, hp, he⟩ := h3'
    injection he with e1 e2
    exact ⟨p, hp, e1.symm, e2.symm⟩
  have hes : ∀ e ∈ es.toList, ∃ l, keyOf P kt e.key = some l := fun e he => by
    obtain ⟨j, hj⟩ := List.mem_iff_getElem?.1 he
    obtain ⟨p, hp, hk, _⟩ := get j e hj
    obtain ⟨q1, q2⟩ := h.len p (List.mem_of_getElem? hp)
    rw [hk]
    exact K.key p.1 q1 q2
  rcases K.law.find w hl es.toList hes with ⟨r, hno⟩ | ⟨j, e, r, hj, hk⟩
  · left
    refine ⟨r, H3 fun p hp hpk => ?_⟩
    obtain ⟨j, hj⟩ := List.mem_iff_getElem?.1 hp
    have h3 := congrArg (fun x => x[j]?) h.ents
    simp only [mEnc, List.getElem?_map, hj, Option.map_some] at h3
    rw [Option.map_eq_some_iff] at h3
    obtain ⟨e, he, hee⟩ := h3
    injection hee with e1 _
    exact hno e (List.mem_of_getElem? he) (by rw [e1, hpk])
  · right
    obtain ⟨p, hp, hk2, hv⟩ := get j e hj
    have hpk : p.1 = k := keyV_inj (hk2.symm.trans hk)
    exact ⟨j, p, e, hp, hpk, hj, hk, hv, find_at2 h.nd hp hpk, by rw [← hv]; exact r⟩
theorem run_m2get (h : MOk m L es clock w) (K : KeyT P kt) (hT : P.underlying T = some (.map kt et)) (hz : ∀ w, (zeroValue et).run P w = .ok (.int .i64 0) w) (h1 : k.1.length ≤ maxLen) (h2 : k.2.length ≤ maxLen) :
    (Instr.lookup T (.map (some m)) (E3 k) false).run P w = .ok (.int .i64 (E1 L k)) w := by
  obtain ⟨l, hl⟩ := K.key k h1 h2
  have hck := K.law.check w es.isEmpty hl
  unfold E1
  rcases h.find K h1 h2 with ⟨r, hf⟩ | ⟨j, p, e, hp, hpk, hj, hk, hv, hf, r⟩
  · rw [hf]
    simp only [Instr.lookup, Sem.run_bind, run_underlying hT, Go.MapKept.run_getObj_map h.heap, hck, r, hz, Result.andThen_ok, Sem.run_pure]
    rfl
  · rw [hf]
    have : L.getD j (k, 0) = p := by simp [List.getD, hp]
    simp only [this]
    simp only [Instr.lookup, Sem.run_bind, run_underlying hT, Go.MapKept.run_getObj_map h.heap, hck, r, Result.andThen_ok, Sem.run_pure]
    rfl
end
section
variable {P : Program} {w : World} {m : Nat} {L : Us} {es : Array MapEntry} {clock : Nat} {T kt et : TypeId} {k : List UInt8 × List UInt8}
theorem MOk.push {w' : World} (h : MOk m L es clock w) (h1 : k.1.length ≤ maxLen) (h2 : k.2.length ≤ maxLen) (hf : L.findIdx? (fun e => e.1 == k) = none) (hw : w'.heap[m]? = some (.map (es.push { key := E3 k, val := .int .i64 0, born := clock }) (clock + 1))) :
    MOk m (L ++ [(k, 0)]) (es.push { key := E3 k, val := .int .i64 0, born := clock }) (clock + 1) w' := by
  refine ⟨hw, by rw [Array.toList_push, List.map_append, h.ents]; simp [mEnc], fun p hp => ?_, ?_, ?_, fun e he => ?_⟩
  · rcases List.mem_append.1 hp with hp | hp
    · exact h.len p hp
    · simp at hp; subst hp; exact ⟨h1, h2⟩
  · refine List.pairwise_append.2 ⟨h.nd, List.pairwise_singleton _ _, fun a ha b hb => ?_⟩
    simp at hb; subst hb
    rw [List.findIdx?_eq_none_iff] at hf
    simpa using hf a ha
  · rw [Array.toList_push]
    refine List.pairwise_append.2 ⟨h.born, List.pairwise_singleton _ _, fun a ha b hb => ?_⟩
    simp at hb; subst hb
    have := h.clk a ha
    show a.born ≠ clock
    omega
  · rw [Array.toList_push] at he
    rcases List.mem_append.1 he with he | he
    · have := h.clk e he; omega
    · simp at he; subst he; exact Nat.lt_succ_self _
end
section
variable {P : Program} {n : Nat} {B : Code} {p : List Bool} {o : Nat} {K : Fr → World → Prop} {ρ : Fr} {w w0 : World} {ens : List Ent} {S : List Nat} {m : Nat} {L : Us} {dst : Option Nat} {k : List UInt8 × List UInt8}
theorem F1 {T : TypeId} (ho : U7 (Qe B p) o ρ = some (.makeMap T none, dst)) (hd : Z3 n dst = true) (hs : SP S w0 w ens)
    (next : ∀ (m : Nat) (w' : World), SP S w0 w' (ens ++ [Vq m []]) → K (Js ρ dst (.map (some m))) w') : Qj P n B p o K ρ w := by
  refine Qj.val ho hd (w' := w.alloc (.map #[] 0)) (v := .map (some w.heap.size)) (fun o hop => ?_) (next _ _ ?_)
  · unfold execOp; rw [hop]
    rfl
  · refine hs.push ((Below.refl _ _).alloc (Nat.le_refl _) _) ⟨#[], 0, heap_alloc_new w _, rfl, fun p hp => (by cases hp), List.Pairwise.nil, List.Pairwise.nil, fun e he => (by cases he)⟩ fun k hk => ?_
    have : k = w.heap.size := by simpa [Vq] using hk
    subst this
    simp
theorem Ci {T kt et : TypeId} {x ix : Operand} (ho : U7 (Qe B p) o ρ = some (.lookup T x ix false, dst)) (hd : Z3 n dst = true) (hx : opv ρ x = .map (some m)) (hix : opv ρ ix = E3 k) (hT : P.underlying T = some (.map kt et)) (hK : KeyT P kt)
    (hz : ∀ w, (zeroValue et).run P w = .ok (.int .i64 0) w) (h : (Vq m L).ok w) (h1 : k.1.length ≤ maxLen) (h2 : k.2.length ≤ maxLen) (next : K (Js ρ dst (.int .i64 (E1 L k))) w) : Qj P n B p o K ρ w := by
  obtain ⟨es, clock, h⟩ := h
  refine Qj.val ho hd (fun o hop => ?_) next
  unfold execOp; rw [hop]
  simp only [hx, hix, Sem.run_bind, run_m2get h hK hT hz h1 h2, Result.andThen_ok]
  rfl
end
theorem chk2 {a b : List UInt8} (h : (Nat.ble (List.length a) 140737488355328 && Nat.ble (List.length b) 140737488355328) = true) : a.length ≤ maxLen ∧ b.length ≤ maxLen := by
  rw [Bool.and_eq_true] at h
  have hm : 140737488355328 ≤ maxLen := by decide
  exact ⟨Nat.le_trans (Nat.le_of_ble_eq_true h.1) hm, Nat.le_trans (Nat.le_of_ble_eq_true h.2) hm⟩
theorem Hh : KeyT Tryz.prog 83 := by
  have hA : ArrKey Tryz.prog 83 9 2 := ⟨by kernel_rfl, by kernel_rfl, by kernel_rfl, by kernel_rfl⟩
  refine ⟨hA.law, fun k h1 h2 => ?_⟩
  have hs1 : (⟨k.1.toArray⟩ : ByteArray).size ≤ maxLen := by rw [Jt]; exact h1
  have hs2 : (⟨k.2.toArray⟩ : ByteArray).size ≤ maxLen := by rw [Jt]; exact h2
  unfold keyOf
  rw [hA.hu]
  have hkt : Tryz.prog.keyType 83 = true := by kernel_rfl
  have hfm : (E3 k).formed Tryz.prog 83 = true := by kernel_rfl
  simp only [hkt, hfm, Bool.and_self, if_true]
  have hkl : ∃ ls, Tryz.prog.keyLits (Tryz.prog.types.size + 1) 83 (E3 k).cells.toList = some ls := by
    obtain ⟨N, hN⟩ : ∃ N, Tryz.prog.types.size = N + 1 := ⟨Tryz.prog.types.size - 1, by kernel_rfl⟩
    rw [hN]
    unfold Program.keyLits
    rw [hA.hu]
    simp only [hA.size, hA.one]
    have hst : Tryz.prog.underlying 9 = some .string := by kernel_rfl
    have e1 : Tryz.prog.keyLits (N + 1) 9 [.string ⟨k.1.toArray⟩] = some [.string k.1] := by
      unfold Program.keyLits
      rw [hst]
      simp [hs1]
    have e2 : Tryz.prog.keyLits (N + 1) 9 [.string ⟨k.2.toArray⟩] = some [.string k.2] := by
      unfold Program.keyLits
      rw [hst]
      simp [hs2]
    refine ⟨[.string k.1, .string k.2], ?_⟩
    simp [E3, Value.cells, List.range_succ, e1, e2]
  obtain ⟨ls, hls⟩ := hkl
  exact ⟨_, by rw [hls]; rfl⟩
end Go.Proofs.YtmgfanhcdfobhaaGreatDoor
namespace Go.Proofs.YtmgfanhcdfobhaaGreatDoor
open Go.RowKit
def Ja (a : (List UInt8)) (c : Int) (d : Int) (e : (List (Int × Int))) (f : (List ((List UInt8) × (List UInt8) × Int))) (b : (List UInt8)) : Option (Bool) :=
  (some ((a == b)))
set_option maxRecDepth 100000 in
set_option maxHeartbeats 4000000 in
theorem G7 (A5 : Option Addr) (c6 : Nat) (A9 : Option Addr) (j : Nat) (l : Nat) (c : (List UInt8)) (m : Int) (o : Int) (h : (List (Int × Int))) (i : (List ((List UInt8) × (List UInt8) × Int))) (f : (List UInt8)) (w0 : World) (u : RdT (Qu (Qh .u32) (Qh .i64)) w0 A5 c6 h) (w : RdT (Qu Zc (Qu Zc (Qh .i64))) w0 A9 j i) (hg13 : w0.heap[l]? = some (.cells #[(.string ⟨List.toArray f⟩)] 9 (0, 0))) (r : (Bool)) (H : Ja c m o h i f = some r) :
  Calls Tryz.prog 88 #[(.agg #[(.string ⟨List.toArray c⟩), (.int .i64 m), (.int .i64 o), (.slice A5 (List.length h) c6), (.slice A9 (List.length i) j)]), (pt l 0)] w0 (fun e w' => e = .returned (.bool r) ∧ SP [] w0 w' []) := by
 unfold Ja at H
 refine Qt (n := 8) Tryz.func88 K K K ?_
 have s := Q1 [] w0
 refine aQ ?_
 refine aR ?_
 refine iS 1 ?_
 refine Vo (t := 44) (x := (.tmp 0)) (v := (.agg #[(.string ⟨List.toArray c⟩), (.int .i64 m), (.int .i64 o), (.slice A5 (List.length h) c6), (.slice A9 (List.length i) j)])) (d := (some 2)) (k := 0) K rfl K s ?_
 intro q z p
 refine iR 1 2 [(3, (.bool false))] ?_
 refine iF ?_
 refine aQ ?_
 refine aR ?_
 refine iR 1 1 [(4, (pt q 0))] ?_
 refine iS 2 ?_
 refine sL 9 4 q 0 0 (.string ⟨List.toArray c⟩) 5 p rfl ?_
 refine iS 3 ?_
 refine B8 (t := 9) (t' := 9) (x := (.tmp 1)) (g := l) (off := 0) (cs := #[(.string ⟨List.toArray f⟩)]) (v := (.string ⟨List.toArray f⟩)) (d := (some 6)) (k := 2) K rfl K (Rw hg13 (SP.keeps p)) K ?_
 refine iS 4 ?_
 refine Jb (op := .eql) (T := 9) (T' := 9) (x := (.tmp 5)) (y := (.tmp 6)) (a := c) (b := f) (r := (.bool (c == f))) (d := (some 7)) (k := 3) K rfl K K rfl ?_
 refine iR 1 5 [(3, (.bool (c == f)))] ?_
 refine iF ?_
 refine At.ret K ?_
 refine ⟨(.bool (c == f)), K, ?_⟩
 obtain rfl := Qf H
 exact ⟨rfl, SP.sel p [] rfl rfl⟩
def Jf (e : Int) (f : Int) (g : Int) (h : Int) (b : (List Qd)) (d : (List UInt8)) : Option ((List UInt8) × Int × Int × (List (Int × Int)) × (List ((List UInt8) × (List UInt8) × Int)) × Bool) :=
  ((Qz b (fun y0 y1 y2 y3 y4 => Ja y0 y1 y2 y3 y4 d)).bind fun c => (cond (decide (c < 0)) (some (([] : List UInt8), 0, 0, ([] : List (Int × Int)), ([] : List ((List UInt8) × (List UInt8) × Int)), false)) ((idx b c).bind fun a => (some (a.1, a.2.1, a.2.2.1, a.2.2.2.1, a.2.2.2.2, true)))))
set_option maxRecDepth 100000 in
set_option maxHeartbeats 4000000 in
theorem Nd {R : World → Prop} (A6 : Option Addr) (c7 : Nat) (a1 : Int) (a2 : Int) (a3 : Int) (a4 : Int) (d9 : (List Q8)) (j : (List UInt8)) (w0 : World) (hR : ∀ w, Below w0.heap.size w0 w → R w) (m : ∀ w, R w → (dDS J9 Bj).ok w (A6, c7, d9)) (r : ((List UInt8) × Int × Int × (List (Int × Int)) × (List ((List UInt8) × (List UInt8) × Int)) × Bool)) (H : Jf a1 a2 a3 a4 (List.map stT d9) j = some r) :
  Calls Tryz.prog 67 #[(.agg #[(.int .i64 a1), (.int .i64 a2), (.int .i64 a3), (.int .i64 a4), (.slice A6 (List.length (List.map stT d9)) c7)]), (.string ⟨List.toArray j⟩)] w0 (fun e w' => ∃ (a8 : Option Addr) (a9 : Nat) (b0 : Option Addr) (b1 : Nat), e = .returned (.tuple #[(.agg #[(.string ⟨List.toArray r.1⟩), (.int .i64 r.2.1), (.int .i64 r.2.2.1), (.slice a8 (List.length r.2.2.2.1) a9), (.slice b0 (List.length r.2.2.2.2.1) b1)]), (.bool r.2.2.2.2.2)]) ∧ (∀ w, R w → RdT (Qu (Qh .u32) (Qh .i64)) w a8 a9 r.2.2.2.1) ∧ (∀ w, R w → RdT (Qu Zc (Qu Zc (Qh .i64))) w b0 b1 r.2.2.2.2.1) ∧ SP [] w0 w' []) := by
 unfold Jf at H
 refine Qt (n := 19) Tryz.func67 K K K ?_
 have b8 := Q1 [] w0
 refine aQ ?_
 refine aR ?_
 refine iS 1 ?_
 refine Vo (t := 24) (x := (.tmp 0)) (v := (.agg #[(.int .i64 a1), (.int .i64 a2), (.int .i64 a3), (.int .i64 a4), (.slice A6 (List.length (List.map stT d9)) c7)])) (d := (some 2)) (k := 0) K rfl K b8 ?_
 intro q c5 b9
 refine iS 2 ?_
 refine Vo (t := 9) (x := (.tmp 1)) (v := (.string ⟨List.toArray j⟩)) (d := (some 3)) (k := 1) K rfl K b9 ?_
 intro s c6 c0
 refine iS 3 ?_
 refine Qj.alloc (t := 44) (z := (.agg #[(.string ⟨List.toArray ([] : List UInt8)⟩), (.int .i64 0), (.int .i64 0), (.slice none (List.length ([] : List (Int × Int))) 0), (.slice none (List.length ([] : List ((List UInt8) × (List UInt8) × Int))) 0)])) (d := (some 4)) (k := 2) K rfl K c0 ?_
 intro u a5 a0
 refine iR 1 4 [(5, (.bool false))] ?_
 refine iF ?_
 refine aQ ?_
 refine aR ?_
 refine iR 1 1 [(7, (pt q 4))] ?_
 refine iS 2 ?_
 refine sL 22 7 q 4 0 (.slice A6 (List.length (List.map stT d9)) c7) 8 a0 rfl ?_
 refine iR 1 3 [(9, (.func (.func 88) #[] #[(pt s 0)]))] ?_
 obtain ⟨h, c1, H⟩ := Qc H
 refine iS 4 ?_
 refine cF 76 #[(.tmp 8), (.tmp 9)] #[22, 102] 10 Tryz.call76 (Zh A6 c7 88 #[(pt s 0)] d9 (fun y0 y1 y2 y3 y4 => Ja y0 y1 y2 y3 y4 j) a5 (m a5 (hR _ (SP.keeps a0))) Tryz.call88 (fun y0 y1 y2 y3 y4 z w Ay3 cy3 Ay4 cy4 hw hy3 hy4 hz => G7 Ay3 cy3 Ay4 cy4 s y0 y1 y2 y3 y4 j w hy3 hy4 (Rw (show a5.heap[s]? = some (.cells #[(.string ⟨List.toArray j⟩)] 9 (0, 0)) from SP.get a0 (i := 1) rfl) hw) z hz) h c1) ?_
 rintro e b2 ⟨rfl, b3⟩
 refine ⟨_, rfl, ?_⟩
 have p := SP.call a0 b3
 clear b3
 refine iR 1 5 [(6, (.int .i64 h))] ?_
 refine iF ?_
 refine aQ ?_
 refine aQ ?_
 refine aR ?_
 refine iR 2 2 [(11, (.int .i64 h)), (12, (.bool (decide (h < 0))))] ?_
 refine iF ?_
 refine Zu K (o := (.tmp 12)) K (b := (decide (h < 0))) K (fun a6 => ?_) (fun a6 => ?_)
 ·have H := ct H a6
  refine aQ ?_
  refine aR ?_
  refine iR 1 1 [(13, (.agg #[(.string ⟨List.toArray ([] : List UInt8)⟩), (.int .i64 0), (.int .i64 0), (.slice none (List.length ([] : List (Int × Int))) 0), (.slice none (List.length ([] : List ((List UInt8) × (List UInt8) × Int))) 0)]))] ?_
  refine iS 2 ?_
  refine Qj.store (t := 44) (x := (.tmp 4)) (y := (.tmp 13)) (g := u) (off := 0) (i := 2) (v := (.agg #[(.string ⟨List.toArray ([] : List UInt8)⟩), (.int .i64 0), (.int .i64 0), (.slice none (List.length ([] : List (Int × Int))) 0), (.slice none (List.length ([] : List ((List UInt8) × (List UInt8) × Int))) 0)])) (cs' := #[(.string ⟨List.toArray ([] : List UInt8)⟩), (.int .i64 0), (.int .i64 0), (.slice none (List.length ([] : List (Int × Int))) 0), (.slice none (List.length ([] : List ((List UInt8) × (List UInt8) × Int))) 0)]) (d := none) (k := 1) K rfl K K p rfl K ?_
  intro c8 b4
  refine iR 1 3 [(5, (.bool false))] ?_
  refine iF ?_
  refine At.ret K ?_
  refine ⟨(.tuple #[(.agg #[(.string ⟨List.toArray ([] : List UInt8)⟩), (.int .i64 0), (.int .i64 0), (.slice none (List.length ([] : List (Int × Int))) 0), (.slice none (List.length ([] : List ((List UInt8) × (List UInt8) × Int))) 0)]), (.bool false)]), Fe K (J3 (a := 4) (t := 44) (g := u) (off := 0) K (SP.get b4 (i := 2) rfl) K) (Bg (t := 5) K), ?_⟩
  obtain rfl := Qf H
  exact ⟨none, 0, none, 0, rfl, (fun w _ => RdT.nil (Qu (Qh .u32) (Qh .i64)) w), (fun w _ => RdT.nil (Qu Zc (Qu Zc (Qh .i64))) w), SP.sel b4 [] rfl rfl⟩
 ·have H := cf H a6
  refine At.skip K ?_
  refine aQ ?_
  refine aR ?_
  refine iR 1 1 [(14, (pt q 4))] ?_
  refine iS 2 ?_
  refine sL 22 14 q 4 0 (.slice A6 (List.length (List.map stT d9)) c7) 15 p rfl ?_
  refine iR 1 3 [(16, (.int .i64 h))] ?_
  obtain ⟨f, b5, b6, a7, H⟩ := Gw H
  refine iS 4 ?_
  refine U1 stT (e := J9) (l := d9) (A := A6) (c := c7) (T := 22) (E := 44) (x := (.tmp 15)) (ix := (.tmp 16)) (ki := .i64) (iz := h) (d := (some 17)) (k := 3) K rfl K K K K ((fun w hm => (Uz (m w hm))) b2 (hR _ (SP.keeps p))) b5 b6 ?_
  intro c2 c3 c4 c9 hc46
  refine iS 5 ?_
  refine Qj.cells (t := 44) (x := (.tmp 17)) (b := c2) (off := (c3 + Int.toNat h * J9.sz)) (xs := [(.string ⟨List.toArray (stT f).1⟩), (.int .i64 (stT f).2.1), (.int .i64 (stT f).2.2.1), (.slice f.2.2.2.1.1 (List.length (stT f).2.2.2.1) f.2.2.2.1.2.1), (.slice f.2.2.2.2.1 (List.length (stT f).2.2.2.2) f.2.2.2.2.2.1)]) (d := (some 18)) (k := 4) K rfl K K K (Xc (e := J9) (Qp ((fun w hm => (Uz (m w hm))) b2 (hR _ (SP.keeps p))) c4 b5 b6) a7 rfl) ?_
  refine iS 6 ?_
  refine Qj.store (t := 44) (x := (.tmp 4)) (y := (.tmp 18)) (g := u) (off := 0) (i := 2) (v := (.agg #[(.string ⟨List.toArray (stT f).1⟩), (.int .i64 (stT f).2.1), (.int .i64 (stT f).2.2.1), (.slice f.2.2.2.1.1 (List.length (stT f).2.2.2.1) f.2.2.2.1.2.1), (.slice f.2.2.2.2.1 (List.length (stT f).2.2.2.2) f.2.2.2.2.2.1)])) (cs' := #[(.string ⟨List.toArray (stT f).1⟩), (.int .i64 (stT f).2.1), (.int .i64 (stT f).2.2.1), (.slice f.2.2.2.1.1 (List.length (stT f).2.2.2.1) f.2.2.2.1.2.1), (.slice f.2.2.2.2.1 (List.length (stT f).2.2.2.2) f.2.2.2.2.2.1)]) (d := none) (k := 5) K rfl K K p rfl K ?_
  intro d0 b7
  refine iR 1 7 [(5, (.bool true))] ?_
  refine iF ?_
  refine At.ret K ?_
  refine ⟨(.tuple #[(.agg #[(.string ⟨List.toArray (stT f).1⟩), (.int .i64 (stT f).2.1), (.int .i64 (stT f).2.2.1), (.slice f.2.2.2.1.1 (List.length (stT f).2.2.2.1) f.2.2.2.1.2.1), (.slice f.2.2.2.2.1 (List.length (stT f).2.2.2.2) f.2.2.2.2.2.1)]), (.bool true)]), Fe K (J3 (a := 4) (t := 44) (g := u) (off := 0) K (SP.get b7 (i := 2) rfl) K) (Bg (t := 5) K), ?_⟩
  obtain rfl := Qf H
  exact ⟨f.2.2.2.1.1, f.2.2.2.1.2.1, f.2.2.2.2.1, f.2.2.2.2.2.1, rfl, (fun w hm => (Uz ((fun w hm => (dp1 (dp2 (dp2 (dp2 (Dx (m w hm) a7)))))) w hm))), (fun w hm => (Uz ((fun w hm => (dp2 (dp2 (dp2 (dp2 (Dx (m w hm) a7)))))) w hm))), SP.sel b7 [] rfl rfl⟩
def Y0 (a : (List UInt8)) (b : (List UInt8)) (c : Int) (c6 : (List UInt8)) : Option (Bool) :=
  (some ((a == c6)))
set_option maxRecDepth 100000 in
set_option maxHeartbeats 4000000 in
theorem G1 (g4 : Nat) (c : (List UInt8)) (f : (List UInt8)) (h : Int) (c6 : (List UInt8)) (w0 : World) (hg5 : w0.heap[g4]? = some (.cells #[(.string ⟨List.toArray c6⟩)] 9 (0, 0))) (r : (Bool)) (H : Y0 c f h c6 = some r) :
  Calls Tryz.prog 90 #[(.agg #[(.string ⟨List.toArray c⟩), (.string ⟨List.toArray f⟩), (.int .i64 h)]), (pt g4 0)] w0 (fun e w' => e = .returned (.bool r) ∧ SP [] w0 w' []) := by
 unfold Y0 at H
 refine Qt (n := 8) Tryz.func90 K K K ?_
 have j := Q1 [] w0
 refine aQ ?_
 refine aR ?_
 refine iS 1 ?_
 refine Vo (t := 48) (x := (.tmp 0)) (v := (.agg #[(.string ⟨List.toArray c⟩), (.string ⟨List.toArray f⟩), (.int .i64 h)])) (d := (some 2)) (k := 0) K rfl K j ?_
 intro g7 w8 i
 refine iR 1 2 [(3, (.bool false))] ?_
 refine iF ?_
 refine aQ ?_
 refine aR ?_
 refine iR 1 1 [(4, (pt g7 0))] ?_
 refine iS 2 ?_
 refine sL 9 4 g7 0 0 (.string ⟨List.toArray c⟩) 5 i rfl ?_
 refine iS 3 ?_
 refine B8 (t := 9) (t' := 9) (x := (.tmp 1)) (g := g4) (off := 0) (cs := #[(.string ⟨List.toArray c6⟩)]) (v := (.string ⟨List.toArray c6⟩)) (d := (some 6)) (k := 2) K rfl K (Rw hg5 (SP.keeps i)) K ?_
 refine iS 4 ?_
 refine Jb (op := .eql) (T := 9) (T' := 9) (x := (.tmp 5)) (y := (.tmp 6)) (a := c) (b := c6) (r := (.bool (c == c6))) (d := (some 7)) (k := 3) K rfl K K rfl ?_
 refine iR 1 5 [(3, (.bool (c == c6)))] ?_
 refine iF ?_
 refine At.ret K ?_
 refine ⟨(.bool (c == c6)), K, ?_⟩
 obtain rfl := Qf H
 exact ⟨rfl, SP.sel i [] rfl rfl⟩
def Y2 (e : (List UInt8)) (f : Int) (g : Int) (h : (List (Int × Int))) (b : (List ((List UInt8) × (List UInt8) × Int))) (d : (List UInt8)) : Option ((List UInt8) × (List UInt8) × Int × Bool) :=
  ((Q2 b (fun y0 y1 y2 => Y0 y0 y1 y2 d)).bind fun c => (cond (decide (c < 0)) (some (([] : List UInt8), ([] : List UInt8), 0, false)) ((idx b c).bind fun a => (some (a.1, a.2.1, a.2.2, true)))))
set_option maxRecDepth 100000 in
set_option maxHeartbeats 4000000 in
theorem U6 (A5 : Option Addr) (c6 : Nat) (A9 : Option Addr) (m : Nat) (a3 : (List UInt8)) (a4 : Int) (a5 : Int) (s : (List (Int × Int))) (h : (List ((List UInt8) × (List UInt8) × Int))) (p : (List UInt8)) (w0 : World) (c2 : RdT (Qu (Qh .u32) (Qh .i64)) w0 A5 c6 s) (a6 : RdT (Qu Zc (Qu Zc (Qh .i64))) w0 A9 m h) (r : ((List UInt8) × (List UInt8) × Int × Bool)) (H : Y2 a3 a4 a5 s h p = some r) :
  Calls Tryz.prog 68 #[(.agg #[(.string ⟨List.toArray a3⟩), (.int .i64 a4), (.int .i64 a5), (.slice A5 (List.length s) c6), (.slice A9 (List.length h) m)]), (.string ⟨List.toArray p⟩)] w0 (fun e w' => e = .returned (.tuple #[(.agg #[(.string ⟨List.toArray r.1⟩), (.string ⟨List.toArray r.2.1⟩), (.int .i64 r.2.2.1)]), (.bool r.2.2.2)]) ∧ SP [] w0 w' []) := by
 unfold Y2 at H
 refine Qt (n := 19) Tryz.func68 K K K ?_
 have b4 := Q1 [] w0
 refine aQ ?_
 refine aR ?_
 refine iS 1 ?_
 refine Vo (t := 44) (x := (.tmp 0)) (v := (.agg #[(.string ⟨List.toArray a3⟩), (.int .i64 a4), (.int .i64 a5), (.slice A5 (List.length s) c6), (.slice A9 (List.length h) m)])) (d := (some 2)) (k := 0) K rfl K b4 ?_
 intro u c3 b5
 refine iS 2 ?_
 refine Vo (t := 9) (x := (.tmp 1)) (v := (.string ⟨List.toArray p⟩)) (d := (some 3)) (k := 1) K rfl K b5 ?_
 intro a0 c4 b6
 refine iS 3 ?_
 refine Qj.alloc (t := 48) (z := (.agg #[(.string ⟨List.toArray ([] : List UInt8)⟩), (.string ⟨List.toArray ([] : List UInt8)⟩), (.int .i64 0)])) (d := (some 4)) (k := 2) K rfl K b6 ?_
 intro a1 a8 a2
 refine iR 1 4 [(5, (.bool false))] ?_
 refine iF ?_
 refine aQ ?_
 refine aR ?_
 refine iR 1 1 [(7, (pt u 4))] ?_
 refine iS 2 ?_
 refine sL 42 7 u 4 0 (.slice A9 (List.length h) m) 8 a2 rfl ?_
 refine iR 1 3 [(9, (.func (.func 90) #[] #[(pt a0 0)]))] ?_
 obtain ⟨j, b7, H⟩ := Qc H
 refine iS 4 ?_
 refine cF 89 #[(.tmp 8), (.tmp 9)] #[42, 117] 10 Tryz.call89 (Zo A9 m 90 #[(pt a0 0)] h (fun y0 y1 y2 => Y0 y0 y1 y2 p) a8 (RdT.sp a6 a2) Tryz.call90 (fun y0 y1 y2 z w  hw  hz => G1 a0 y0 y1 y2 p w (Rw (show a8.heap[a0]? = some (.cells #[(.string ⟨List.toArray p⟩)] 9 (0, 0)) from SP.get a2 (i := 1) rfl) hw) z hz) j b7) ?_
 rintro e c5 ⟨rfl, a9⟩
 refine ⟨_, rfl, ?_⟩
 have q := SP.call a2 a9
 clear a9
 refine iR 1 5 [(6, (.int .i64 j))] ?_
 refine iF ?_
 refine aQ ?_
 refine aQ ?_
 refine aR ?_
 refine iR 2 2 [(11, (.int .i64 j)), (12, (.bool (decide (j < 0))))] ?_
 refine iF ?_
 refine Zu K (o := (.tmp 12)) K (b := (decide (j < 0))) K (fun a7 => ?_) (fun a7 => ?_)
 ·have H := ct H a7
  refine aQ ?_
  refine aR ?_
  refine iR 1 1 [(13, (.agg #[(.string ⟨List.toArray ([] : List UInt8)⟩), (.string ⟨List.toArray ([] : List UInt8)⟩), (.int .i64 0)]))] ?_
  refine iS 2 ?_
  refine Qj.store (t := 48) (x := (.tmp 4)) (y := (.tmp 13)) (g := a1) (off := 0) (i := 2) (v := (.agg #[(.string ⟨List.toArray ([] : List UInt8)⟩), (.string ⟨List.toArray ([] : List UInt8)⟩), (.int .i64 0)])) (cs' := #[(.string ⟨List.toArray ([] : List UInt8)⟩), (.string ⟨List.toArray ([] : List UInt8)⟩), (.int .i64 0)]) (d := none) (k := 1) K rfl K K q rfl K ?_
  intro w32 b0
  refine iR 1 3 [(5, (.bool false))] ?_
  refine iF ?_
  refine At.ret K ?_
  refine ⟨(.tuple #[(.agg #[(.string ⟨List.toArray ([] : List UInt8)⟩), (.string ⟨List.toArray ([] : List UInt8)⟩), (.int .i64 0)]), (.bool false)]), Fe K (J3 (a := 4) (t := 48) (g := a1) (off := 0) K (SP.get b0 (i := 2) rfl) K) (Bg (t := 5) K), ?_⟩
  obtain rfl := Qf H
  exact ⟨rfl, SP.sel b0 [] rfl rfl⟩
 ·have H := cf H a7
  refine At.skip K ?_
  refine aQ ?_
  refine aR ?_
  refine iR 1 1 [(14, (pt u 4))] ?_
  refine iS 2 ?_
  refine sL 42 14 u 4 0 (.slice A9 (List.length h) m) 15 q rfl ?_
  refine iR 1 3 [(16, (.int .i64 j))] ?_
  obtain ⟨f, b1, b2, b8, H⟩ := Qy H
  refine iS 4 ?_
  refine Z2 (e := (Qu Zc (Qu Zc (Qh .i64)))) (l := h) (A := A9) (c := m) (T := 42) (E := 48) (x := (.tmp 15)) (ix := (.tmp 16)) (ki := .i64) (iz := j) (d := (some 17)) (k := 3) K rfl K K K K (RdT.sp a6 q) b1 b2 ?_
  intro b9 c0 c1 c7 hc41
  refine iS 5 ?_
  refine Qj.cells (t := 48) (x := (.tmp 17)) (b := b9) (off := (c0 + Int.toNat j * (Qu Zc (Qu Zc (Qh .i64))).sz)) (xs := [(.string ⟨List.toArray f.1⟩), (.string ⟨List.toArray f.2.1⟩), (.int .i64 f.2.2)]) (d := (some 18)) (k := 4) K rfl K K K (Xc (e := (Qu Zc (Qu Zc (Qh .i64)))) (Qp (RdT.sp a6 q) c1 b1 b2) b8 rfl) ?_
  refine iS 6 ?_
  refine Qj.store (t := 48) (x := (.tmp 4)) (y := (.tmp 18)) (g := a1) (off := 0) (i := 2) (v := (.agg #[(.string ⟨List.toArray f.1⟩), (.string ⟨List.toArray f.2.1⟩), (.int .i64 f.2.2)])) (cs' := #[(.string ⟨List.toArray f.1⟩), (.string ⟨List.toArray f.2.1⟩), (.int .i64 f.2.2)]) (d := none) (k := 5) K rfl K K q rfl K ?_
  intro c8 b3
  refine iR 1 7 [(5, (.bool true))] ?_
  refine iF ?_
  refine At.ret K ?_
  refine ⟨(.tuple #[(.agg #[(.string ⟨List.toArray f.1⟩), (.string ⟨List.toArray f.2.1⟩), (.int .i64 f.2.2)]), (.bool true)]), Fe K (J3 (a := 4) (t := 48) (g := a1) (off := 0) K (SP.get b3 (i := 2) rfl) K) (Bg (t := 5) K), ?_⟩
  obtain rfl := Qf H
  exact ⟨rfl, SP.sel b3 [] rfl rfl⟩
end Go.Proofs.YtmgfanhcdfobhaaGreatDoor
namespace Go.Proofs.YtmgfanhcdfobhaaGreatDoor
open Go.RowKit
def Yr (c : UInt8 → Int → Option (Bool)) (p1 : (List UInt8)) (p5 : (List UInt8)) (b : UInt8) (a : Int) : Option (Bool) :=
  (cond (decide (a < ((List.length p1 : Nat) : Int))) ((idx p1 a).bind fun d => ((idx p5 a).bind fun e => (c (De (bOr .u8 ((b).toNat : Int) (Xn .u8 ((d).toNat : Int) ((e).toNat : Int)))) (IntKind.wrap .i64 (a + 1))))) (some ((((b).toNat : Int) == 0))))
def Ys (p1 : (List UInt8)) (p5 : (List UInt8)) : Nat → UInt8 → Int → Option (Bool)
  | 0, _, _ => none
  | f + 1, a, b => Yr  (Ys p1 p5 f) p1 p5 a b
def Nt (p1 : (List UInt8)) (p5 : (List UInt8)) : Option (Bool) :=
  (cond (((List.length p1 : Nat) : Int) != ((List.length p5 : Nat) : Int)) (some (false)) (Ys p1 p5 Zw (0 : UInt8) 0))
set_option maxRecDepth 100000 in
set_option maxHeartbeats 4000000 in
theorem Bu (A2 : Option Addr) (c3 : Nat) (A6 : Option Addr) (c7 : Nat) (p1 : (List UInt8)) (p5 : (List UInt8)) (w0 : World) (p : RdT eU8 w0 A2 c3 p1) (q : RdT eU8 w0 A6 c7 p5) (r : (Bool)) (H : Nt p1 p5 = some r) :
  Calls Tryz.prog 52 #[(.slice A2 (List.length p1) c3), (.slice A6 (List.length p5) c7)] w0 (fun e w' => e = .returned (.bool r) ∧ SP [] w0 w' []) := by
 unfold Nt at H
 refine Qt (n := 31) Tryz.func52 K K K ?_
 have s := Q1 [] w0
 refine aQ ?_
 refine aR ?_
 refine iR 1 1 [(4, (.bool false))] ?_
 refine iF ?_
 refine aQ ?_
 refine aQ ?_
 refine aR ?_
 refine iR 5 5 [(7, (.slice A2 (List.length p1) c3)), (8, (.int .i64 ((List.length p1 : Nat) : Int))), (9, (.slice A6 (List.length p5) c7)), (10, (.int .i64 ((List.length p5 : Nat) : Int))), (11, (.bool (((List.length p1 : Nat) : Int) != ((List.length p5 : Nat) : Int))))] ?_
 refine iF ?_
 refine Zu K (o := (.tmp 11)) K (b := (((List.length p1 : Nat) : Int) != ((List.length p5 : Nat) : Int))) K (fun i => ?_) (fun i => ?_)
 ·have H := ct H i
  refine aQ ?_
  refine aR ?_
  refine iR 1 1 [(4, (.bool false))] ?_
  refine iF ?_
  refine At.ret K ?_
  refine ⟨(.bool false), K, ?_⟩
  obtain rfl := Qf H
  exact ⟨rfl, SP.sel s [] rfl rfl⟩
 ·have H := cf H i
  refine At.skip K ?_
  refine aQ ?_
  refine aR ?_
  refine iR 1 1 [(5, (.int .u8 0))] ?_
  refine iF ?_
  refine aQ ?_
  refine aQ ?_
  refine aR ?_
  refine iR 3 3 [(12, (.slice A2 (List.length p1) c3)), (13, (.int .i64 ((List.length p1 : Nat) : Int))), (14, (.int .i64 0))] ?_
  refine iF ?_
  refine X8 K (id := 0) K ?_
  refine Ne K (fun f1 ρ w => ∃ (f : UInt8) (a : Int), Zg ρ [(0, (.slice A2 (List.length p1) c3)), (1, (.slice A6 (List.length p5) c7)), (5, (.int .u8 ((f).toNat : Int))), (13, (.int .i64 ((List.length p1 : Nat) : Int))), (14, (.int .i64 a))] ∧ SP [] w0 w [] ∧ Ys p1 p5 f1 f a = some r) (by rintro ρ w ⟨f, a, hk, hs, H⟩; cases H) ?_ Zw ?_
  ·rintro f1 ρ c2 ⟨f, a, hk, t, H⟩
   refine At.known [(0, (.slice A2 (List.length p1) c3)), (1, (.slice A6 (List.length p5) c7)), (5, (.int .u8 ((f).toNat : Int))), (13, (.int .i64 ((List.length p1 : Nat) : Int))), (14, (.int .i64 a))] hk ?_
   replace H := (show Yr (Ys p1 p5 f1) p1 p5 f a = some r from H)
   unfold Yr at H
   refine aQ ?_
   refine aR ?_
   refine iR 1 1 [(15, (.bool (decide (a < ((List.length p1 : Nat) : Int)))))] ?_
   refine iF ?_
   refine aQ ?_
   refine Zu K (o := (.tmp 15)) K (b := (decide (a < ((List.length p1 : Nat) : Int)))) K (fun m => ?_) (fun m => ?_)
   ·have H := ct H m
    refine At.skip K ?_
    refine aQ ?_
    refine X8 K (id := 1) K ?_
    refine aQ ?_
    refine aR ?_
    refine iR 2 2 [(16, (.int .i64 a)), (6, (.int .i64 a))] ?_
    refine iF ?_
    obtain ⟨g, u, v, a1, H⟩ := Qy H
    obtain ⟨h, y, z, a2, H⟩ := Qy H
    refine aG [GEq (.int .u8 ((f).toNat : Int)), GEq (.slice A2 (List.length p1) c3), GEq (.int .i64 a), Xt A2 eU8.sz a, GEq (.int .u8 ((g).toNat : Int)), GEq (.slice A6 (List.length p5) c7), GEq (.int .i64 a), Xt A6 eU8.sz a, GEq (.int .u8 ((h).toNat : Int)), GEq (.int .u8 (Xn .u8 ((g).toNat : Int) ((h).toNat : Int))), GEq (.int .u8 (bOr .u8 ((f).toNat : Int) (Xn .u8 ((g).toNat : Int) ((h).toNat : Int)))), GEq (.int .u8 (bOr .u8 ((f).toNat : Int) (Xn .u8 ((g).toNat : Int) ((h).toNat : Int))))] [] (tG [] w0 [] [([], [])]) 12 0 ⟨trivial, SP.drew t⟩ ?_ ?_
    iterate 12 refine And.intro ?_ ?_
    exact trivial
    ·exact oV (hC (hS 5 (.int .u8 ((f).toNat : Int))) (h0)) (.int .u8 ((f).toNat : Int))
    ·exact oV (hC (hS 0 (.slice A2 (List.length p1) c3)) (h0)) (.slice A2 (List.length p1) c3)
    ·exact oV (hC (hS 6 (.int .i64 a)) (h0)) (.int .i64 a)
    ·refine oL 0 ?_
     ·rintro ρ' w' hs hah ⟨c4, a3⟩
      refine kM (kc (kA hah 1 18) (kc (kA hah 2 19) k0)) fun hkn => ?_
      refine Z2 (e := eU8) (l := p1) (A := A2) (c := c3) (T := 52) (E := 5) (x := (.tmp 18)) (ix := (.tmp 19)) (ki := .i64) (iz := a) (d := (some 20)) (k := 3) K rfl K K K K (RdT.sp p a3) u v ?_
      intro a4 a5 a6 c5 hc131
      exact ⟨rfl, _, Qb hkn, ⟨a4, a5, a6, rfl⟩⟩
    ·refine oL 0 ?_
     ·rintro ρ' w' hs hah ⟨c6, a7⟩
      obtain ⟨a8, a9, b0, b1⟩ := hah 3 20 K
      refine kM (kc b1 k0) fun hkn => ?_
      refine sC 5 20 a8 (a9 + Int.toNat a * eU8.sz) (.int .u8 ((g).toNat : Int)) 21 (Qw (e := eU8) (Qp (RdT.sp p a7) b0 u v) a1 (j := 0) rfl) ?_
      exact eK hkn
    ·exact oV (hC (hS 1 (.slice A6 (List.length p5) c7)) (h0)) (.slice A6 (List.length p5) c7)
    ·exact oV (hC (hS 6 (.int .i64 a)) (h0)) (.int .i64 a)
    ·refine oL 0 ?_
     ·rintro ρ' w' hs hah ⟨c8, b2⟩
      refine kM (kc (kA hah 5 22) (kc (kA hah 6 23) k0)) fun hkn => ?_
      refine Z2 (e := eU8) (l := p5) (A := A6) (c := c7) (T := 52) (E := 5) (x := (.tmp 22)) (ix := (.tmp 23)) (ki := .i64) (iz := a) (d := (some 24)) (k := 7) K rfl K K K K (RdT.sp q b2) y z ?_
      intro b3 b4 b5 c9 hc143
      exact ⟨rfl, _, Qb hkn, ⟨b3, b4, b5, rfl⟩⟩
    ·refine oL 0 ?_
     ·rintro ρ' w' hs hah ⟨d0, b6⟩
      obtain ⟨b7, b8, b9, c0⟩ := hah 7 24 K
      refine kM (kc c0 k0) fun hkn => ?_
      refine sC 5 24 b7 (b8 + Int.toNat a * eU8.sz) (.int .u8 ((h).toNat : Int)) 25 (Qw (e := eU8) (Qp (RdT.sp q b6) b9 y z) a2 (j := 0) rfl) ?_
      exact eK hkn
    ·exact oV (hC (hA 4 21) (hC (hA 8 25) (h0))) (.int .u8 (Xn .u8 ((g).toNat : Int) ((h).toNat : Int)))
    ·exact oV (hC (hA 0 17) (hC (hA 9 26) (h0))) (.int .u8 (bOr .u8 ((f).toNat : Int) (Xn .u8 ((g).toNat : Int) ((h).toNat : Int))))
    ·exact oV (hC (hA 10 27) (h0)) (.int .u8 (bOr .u8 ((f).toNat : Int) (Xn .u8 ((g).toNat : Int) ((h).toNat : Int))))
    ·rintro ρ' w' hs hf ⟨d1, a0⟩
     refine Vj [(0, (.slice A2 (List.length p1) c3)), (1, (.slice A6 (List.length p5) c7)), (5, (.int .u8 (bOr .u8 ((f).toNat : Int) (Xn .u8 ((g).toNat : Int) ((h).toNat : Int))))), (13, (.int .i64 ((List.length p1 : Nat) : Int))), (14, (.int .i64 a))] ⟨(hs 0 K).trans K, (hs 1 K).trans K, hf 11 5 K, (hs 13 K).trans K, (hs 14 K).trans K, trivial⟩ ?_
     obtain ⟨d2, c1⟩ : ∃ x, w' = x := ⟨_, rfl⟩
     rw [c1] at a0 ⊢
     refine aR ?_
     refine iR 2 2 [(28, (.int .i64 (IntKind.wrap .i64 (a + 1)))), (14, (.int .i64 (IntKind.wrap .i64 (a + 1))))] ?_
     refine iF ?_
     exact ⟨(De (bOr .u8 ((f).toNat : Int) (Xn .u8 ((g).toNat : Int) ((h).toNat : Int)))), (IntKind.wrap .i64 (a + 1)), ⟨(by first | exact (by simp only [N1 (u8_or _ _)]; rfl) | rfl), (by first | exact (by simp only [N1 (u8_or _ _)]; rfl) | rfl), (by first | exact (by simp only [N1 (u8_or _ _)]; rfl) | rfl), (by first | exact (by simp only [N1 (u8_or _ _)]; rfl) | rfl), (by first | exact (by simp only [N1 (u8_or _ _)]; rfl) | rfl), trivial⟩, SP.sel a0 [] rfl rfl, H⟩
   ·have H := cf H m
    refine At.exit K (id := 0) K ?_
    refine aQ ?_
    refine aR ?_
    refine iR 3 3 [(29, (.int .u8 ((f).toNat : Int))), (30, (.bool (((f).toNat : Int) == 0))), (4, (.bool (((f).toNat : Int) == 0)))] ?_
    refine iF ?_
    refine At.ret K ?_
    refine ⟨(.bool (((f).toNat : Int) == 0)), K, ?_⟩
    obtain rfl := Qf H
    exact ⟨rfl, SP.sel t [] rfl rfl⟩
  ·exact ⟨(0 : UInt8), 0, ⟨K, K, K, K, K, trivial⟩, SP.sel s [] rfl rfl, H⟩
end Go.Proofs.YtmgfanhcdfobhaaGreatDoor
