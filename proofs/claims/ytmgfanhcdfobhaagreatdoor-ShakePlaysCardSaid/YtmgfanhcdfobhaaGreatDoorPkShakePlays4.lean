import Derived.Test.YtmgfanhcdfobhaaGreatDoorPkShakePlays3
set_option linter.unusedSimpArgs false
set_option linter.unusedVariables false
set_option linter.unusedSectionVars false
set_option maxRecDepth 100000
set_option maxHeartbeats 4000000
namespace Go.Proofs.YtmgfanhcdfobhaaGreatDoor
open Go.RowKit
def N0  : Option ((List Int)) :=
  (some (([1116352408, 1899447441, 3049323471, 3921009573, 961987163, 1508970993, 2453635748, 2870763221, 3624381080, 310598401, 607225278, 1426881987, 1925078388, 2162078206, 2614888103, 3248222580, 3835390401, 4022224774, 264347078, 604807628, 770255983, 1249150122, 1555081692, 1996064986, 2554220882, 2821834349, 2952996808, 3210313671, 3336571891, 3584528711, 113926993, 338241895, 666307205, 773529912, 1294757372, 1396182291, 1695183700, 1986661051, 2177026350, 2456956037, 2730485921, 2820302411, 3259730800, 3345764771, 3516065817, 3600352804, 4094571909, 275423344, 430227734, 506948616, 659060556, 883997877, 958139571, 1322822218, 1537002063, 1747873779, 1955562222, 2024104815, 2227730452, 2361852424, 2428436474, 2756734187, 3204031479, 3329325298] : List Int)))
theorem B3   (w0 : World)  (r : ((List Int))) (H : N0  = some r) :
  Calls Tryz.prog 101 #[] w0 (fun e w' => e = .returned (.agg (Qd (Qc .u32) r).toArray) ∧ SP [] w0 w' []) := by
 unfold N0 at H
 refine Qs (n := 2) Tryz.func101 K K K ?_
 have c := Q0 [] w0
 refine aQ ?_
 refine aR ?_
 refine iS 1 ?_
 refine Q4 (e := (Qc .u32)) (l := (List.replicate 64 0)) (m := 64) (t := 135) (z := .agg (Qd (Qc .u32) (List.replicate 64 0)).toArray) (d := (some 0)) (k := 0) K rfl K rfl rfl K c ?_
 intro g1 w2 f
 refine iF ?_
 refine aQ ?_
 refine aR ?_
 refine iR 1 1 [(1, (.agg (Qd (Qc .u32) ([1116352408, 1899447441, 3049323471, 3921009573, 961987163, 1508970993, 2453635748, 2870763221, 3624381080, 310598401, 607225278, 1426881987, 1925078388, 2162078206, 2614888103, 3248222580, 3835390401, 4022224774, 264347078, 604807628, 770255983, 1249150122, 1555081692, 1996064986, 2554220882, 2821834349, 2952996808, 3210313671, 3336571891, 3584528711, 113926993, 338241895, 666307205, 773529912, 1294757372, 1396182291, 1695183700, 1986661051, 2177026350, 2456956037, 2730485921, 2820302411, 3259730800, 3345764771, 3516065817, 3600352804, 4094571909, 275423344, 430227734, 506948616, 659060556, 883997877, 958139571, 1322822218, 1537002063, 1747873779, 1955562222, 2024104815, 2227730452, 2361852424, 2428436474, 2756734187, 3204031479, 3329325298] : List Int)).toArray))] ?_
 refine iS 2 ?_
 refine Vf (e := (Qc .u32)) (l := (List.replicate 64 0)) (l' := ([1116352408, 1899447441, 3049323471, 3921009573, 961987163, 1508970993, 2453635748, 2870763221, 3624381080, 310598401, 607225278, 1426881987, 1925078388, 2162078206, 2614888103, 3248222580, 3835390401, 4022224774, 264347078, 604807628, 770255983, 1249150122, 1555081692, 1996064986, 2554220882, 2821834349, 2952996808, 3210313671, 3336571891, 3584528711, 113926993, 338241895, 666307205, 773529912, 1294757372, 1396182291, 1695183700, 1986661051, 2177026350, 2456956037, 2730485921, 2820302411, 3259730800, 3345764771, 3516065817, 3600352804, 4094571909, 275423344, 430227734, 506948616, 659060556, 883997877, 958139571, 1322822218, 1537002063, 1747873779, 1955562222, 2024104815, 2227730452, 2361852424, 2428436474, 2756734187, 3204031479, 3329325298] : List Int)) (m := 64) (t := 135) (x := (.tmp 0)) (y := (.tmp 1)) (g := g1) (i := 0) (d := none) (k := 1) K rfl K K rfl f rfl K ?_
 intro w5 b
 refine iF ?_
 refine At.ret K ?_
 refine ⟨(.agg (Qd (Qc .u32) ([1116352408, 1899447441, 3049323471, 3921009573, 961987163, 1508970993, 2453635748, 2870763221, 3624381080, 310598401, 607225278, 1426881987, 1925078388, 2162078206, 2614888103, 3248222580, 3835390401, 4022224774, 264347078, 604807628, 770255983, 1249150122, 1555081692, 1996064986, 2554220882, 2821834349, 2952996808, 3210313671, 3336571891, 3584528711, 113926993, 338241895, 666307205, 773529912, 1294757372, 1396182291, 1695183700, 1986661051, 2177026350, 2456956037, 2730485921, 2820302411, 3259730800, 3345764771, 3516065817, 3600352804, 4094571909, 275423344, 430227734, 506948616, 659060556, 883997877, 958139571, 1322822218, 1537002063, 1747873779, 1955562222, 2024104815, 2227730452, 2361852424, 2428436474, 2756734187, 3204031479, 3329325298] : List Int)).toArray), Bs K (G0 (e := (Qc .u32)) (l := ([1116352408, 1899447441, 3049323471, 3921009573, 961987163, 1508970993, 2453635748, 2870763221, 3624381080, 310598401, 607225278, 1426881987, 1925078388, 2162078206, 2614888103, 3248222580, 3835390401, 4022224774, 264347078, 604807628, 770255983, 1249150122, 1555081692, 1996064986, 2554220882, 2821834349, 2952996808, 3210313671, 3336571891, 3584528711, 113926993, 338241895, 666307205, 773529912, 1294757372, 1396182291, 1695183700, 1986661051, 2177026350, 2456956037, 2730485921, 2820302411, 3259730800, 3345764771, 3516065817, 3600352804, 4094571909, 275423344, 430227734, 506948616, 659060556, 883997877, 958139571, 1322822218, 1537002063, 1747873779, 1955562222, 2024104815, 2227730452, 2361852424, 2428436474, 2756734187, 3204031479, 3329325298] : List Int)) (a := 0) (t := 135) K (SP.get b (i := 0) rfl) K K), ?_⟩
 obtain rfl := Qe H
 exact ⟨rfl, SP.sel b [] rfl rfl⟩
def Xr (p1 : Int) (p2 : Int) : Option (Int) :=
  ((chk (decide (0 ≤ p2))).bind fun _ => ((chk (decide (0 ≤ (IntKind.wrap .i64 (32 - p2))))).bind fun _ => (some ((bOr .u32 (Nm .u32 p1 p2) (Ns .u32 p1 (IntKind.wrap .i64 (32 - p2))))))))
theorem Y5  (p1 : Int) (p2 : Int) (w0 : World)  (r : (Int)) (H : Xr p1 p2 = some r) :
  Calls Tryz.prog 118 #[(.int .u32 p1), (.int .i64 p2)] w0 (fun e w' => e = .returned (.int .u32 r) ∧ SP [] w0 w' []) := by
 unfold Xr at H
 refine Qs (n := 13) Tryz.func118 K K K ?_
 have h := Q0 [] w0
 refine aQ ?_
 refine aR ?_
 refine iR 1 1 [(4, (.int .u32 0))] ?_
 refine iF ?_
 refine aQ ?_
 obtain ⟨hl3, H⟩ := V4 H
 obtain ⟨hl4, H⟩ := V4 H
 refine aG [GEq (.int .u32 p1), GEq (.int .i64 p2), GEq (.int .u32 (Nm .u32 p1 p2)), GEq (.int .u32 p1), GEq (.int .i64 p2), GEq (.int .i64 (IntKind.wrap .i64 (32 - p2))), GEq (.int .u32 (Ns .u32 p1 (IntKind.wrap .i64 (32 - p2)))), GEq (.int .u32 (bOr .u32 (Nm .u32 p1 p2) (Ns .u32 p1 (IntKind.wrap .i64 (32 - p2))))), GEq (.int .u32 (bOr .u32 (Nm .u32 p1 p2) (Ns .u32 p1 (IntKind.wrap .i64 (32 - p2)))))] [] (tG [] w0 [] [([], [])]) 9 0 ⟨trivial, SP.drew h⟩ ?_ ?_
 iterate 9 refine And.intro ?_ ?_
 exact trivial
 ·exact oV (hC (hS 0 (.int .u32 p1)) (h0)) (.int .u32 p1)
 ·exact oV (hC (hS 1 (.int .i64 p2)) (h0)) (.int .i64 p2)
 ·refine oL 0 ?_
  ·rintro ρ' w' hs c ⟨j, l⟩
   refine kM (kc (kA c 0 5) (kc (kA c 1 6) k0)) fun f => ?_
   refine Qi.shift (op := .shr) (T := 111) (T' := 3) (x := (.tmp 5)) (y := (.tmp 6)) (kx := .u32) (ky := .i64) (a := p1) (b := p2) (v := (.int .u32 (Nm .u32 p1 p2))) (d := (some 7)) (k := 2) K rfl K K (of_decide_eq_true hl3) rfl ?_
   exact eK f
 ·exact oV (hC (hS 0 (.int .u32 p1)) (h0)) (.int .u32 p1)
 ·exact oV (hC (hS 1 (.int .i64 p2)) (h0)) (.int .i64 p2)
 ·exact oV (hC (hA 4 9) (h0)) (.int .i64 (IntKind.wrap .i64 (32 - p2)))
 ·refine oL 0 ?_
  ·rintro ρ' w' hs c ⟨m, o⟩
   refine kM (kc (kA c 3 8) (kc (kA c 5 10) k0)) fun f => ?_
   refine Qi.shift (op := .shl) (T := 111) (T' := 3) (x := (.tmp 8)) (y := (.tmp 10)) (kx := .u32) (ky := .i64) (a := p1) (b := (IntKind.wrap .i64 (32 - p2))) (v := (.int .u32 (Ns .u32 p1 (IntKind.wrap .i64 (32 - p2))))) (d := (some 11)) (k := 6) K rfl K K (of_decide_eq_true hl4) rfl ?_
   exact eK f
 ·exact oV (hC (hA 2 7) (hC (hA 6 11) (h0))) (.int .u32 (bOr .u32 (Nm .u32 p1 p2) (Ns .u32 p1 (IntKind.wrap .i64 (32 - p2)))))
 ·exact oV (hC (hA 7 12) (h0)) (.int .u32 (bOr .u32 (Nm .u32 p1 p2) (Ns .u32 p1 (IntKind.wrap .i64 (32 - p2)))))
 ·rintro ρ' w' hs hf ⟨p, g⟩
  refine Q3 [(4, (.int .u32 (bOr .u32 (Nm .u32 p1 p2) (Ns .u32 p1 (IntKind.wrap .i64 (32 - p2))))))] ⟨hf 8 4 K, trivial⟩ ?_
  obtain ⟨q, i⟩ : ∃ x, w' = x := ⟨_, rfl⟩
  rw [i] at g ⊢
  refine At.ret K ?_
  refine ⟨(.int .u32 (bOr .u32 (Nm .u32 p1 p2) (Ns .u32 p1 (IntKind.wrap .i64 (32 - p2))))), K, ?_⟩
  obtain rfl := Qe H
  exact ⟨rfl, SP.sel g [] rfl rfl⟩
def Jn (p1 : Int) (p2 : Int) (p3 : Int) (p4 : Int) : Option (Int) :=
  ((Xr p1 p2).bind fun z5 => ((Xr p1 p3).bind fun a => ((chk (decide (0 ≤ p4))).bind fun _ => (some ((V7 .u32 (V7 .u32 z5 a) (Nm .u32 p1 p4)))))))
theorem Rt  (p1 : Int) (p2 : Int) (p3 : Int) (p4 : Int) (w0 : World)  (r : (Int)) (H : Jn p1 p2 p3 p4 = some r) :
  Calls Tryz.prog 117 #[(.int .u32 p1), (.int .i64 p2), (.int .i64 p3), (.int .i64 p4)] w0 (fun e w' => e = .returned (.int .u32 r) ∧ SP [] w0 w' []) := by
 unfold Jn at H
 refine Qs (n := 20) Tryz.func117 K K K ?_
 have l := Q0 [] w0
 refine aQ ?_
 refine aR ?_
 refine iR 1 1 [(8, (.int .u32 0))] ?_
 refine iF ?_
 refine aQ ?_
 obtain ⟨z5, m, H⟩ := Qb H
 obtain ⟨f, o, H⟩ := Qb H
 obtain ⟨hl17, H⟩ := V4 H
 refine aG [GEq (.int .u32 p1), GEq (.int .i64 p2), GEq (.int .u32 z5), GEq (.int .u32 p1), GEq (.int .i64 p3), GEq (.int .u32 f), GEq (.int .u32 (V7 .u32 z5 f)), GEq (.int .u32 p1), GEq (.int .i64 p4), GEq (.int .u32 (Nm .u32 p1 p4)), GEq (.int .u32 (V7 .u32 (V7 .u32 z5 f) (Nm .u32 p1 p4))), GEq (.int .u32 (V7 .u32 (V7 .u32 z5 f) (Nm .u32 p1 p4)))] [2, 5] (tG [] w0 [] [([], []), ([2], [(.int .u32 z5)]), ([2, 5], [(.int .u32 z5), (.int .u32 f)])]) 12 2 ⟨trivial, SP.drew l⟩ ?_ ?_
 iterate 12 refine And.intro ?_ ?_
 exact trivial
 ·exact oV (hC (hS 0 (.int .u32 p1)) (h0)) (.int .u32 p1)
 ·exact oV (hC (hS 1 (.int .i64 p2)) (h0)) (.int .i64 p2)
 ·refine oH 0 1 ?_
  ·rintro ρ' w' hs c ⟨z, p⟩
   refine kM (kc (kA c 0 9) (kc (kA c 1 10) k0)) fun g => ?_
   refine cF 118 #[(.tmp 9), (.tmp 10)] #[111, 3] 11 Tryz.call118 (Y5  p1 p2 w'  z5 m) ?_
   rintro e w32 ⟨rfl, h⟩
   refine ⟨_, rfl, ?_⟩
   have q := SP.call p h
   clear h
   refine ⟨_, Qa g, rfl, ?_⟩
   exact (And.intro (And.intro rfl (trivial)) (q))
 ·exact oV (hC (hS 0 (.int .u32 p1)) (h0)) (.int .u32 p1)
 ·exact oV (hC (hS 2 (.int .i64 p3)) (h0)) (.int .i64 p3)
 ·refine oH 1 2 ?_
  ·rintro ρ' w' hs c ⟨⟨s, -⟩, t⟩
   refine kM (kc (kA c 3 12) (kc (kA c 4 13) k0)) fun g => ?_
   refine cF 118 #[(.tmp 12), (.tmp 13)] #[111, 3] 14 Tryz.call118 (Y5  p1 p3 w'  f o) ?_
   rintro e a0 ⟨rfl, i⟩
   refine ⟨_, rfl, ?_⟩
   have u := SP.call t i
   clear i
   refine ⟨_, Qa g, rfl, ?_⟩
   exact (And.intro (And.intro s (And.intro rfl (trivial))) (u))
 ·exact oV (hC (hA 2 11) (hC (hA 5 14) (h0))) (.int .u32 (V7 .u32 z5 f))
 ·exact oV (hC (hS 0 (.int .u32 p1)) (h0)) (.int .u32 p1)
 ·exact oV (hC (hS 3 (.int .i64 p4)) (h0)) (.int .i64 p4)
 ·refine Owe.light K [0, 1, 2] K (Qf ?_ (Qf ?_ (Qf ?_ Q8)))
  ·rintro ρ' w' hs c ⟨a1, a2⟩
   refine kM (kc (kA c 7 16) (kc (kA c 8 17) k0)) fun g => ?_
   refine Qi.shift (op := .shr) (T := 111) (T' := 3) (x := (.tmp 16)) (y := (.tmp 17)) (kx := .u32) (ky := .i64) (a := p1) (b := p4) (v := (.int .u32 (Nm .u32 p1 p4))) (d := (some 18)) (k := 9) K rfl K K (of_decide_eq_true hl17) rfl ?_
   exact eK g
  ·rintro ρ' w' hs c ⟨⟨a3, -⟩, a4⟩
   refine kM (kc (kA c 7 16) (kc (kA c 8 17) k0)) fun g => ?_
   refine Qi.shift (op := .shr) (T := 111) (T' := 3) (x := (.tmp 16)) (y := (.tmp 17)) (kx := .u32) (ky := .i64) (a := p1) (b := p4) (v := (.int .u32 (Nm .u32 p1 p4))) (d := (some 18)) (k := 9) K rfl K K (of_decide_eq_true hl17) rfl ?_
   exact eK g
  ·rintro ρ' w' hs c ⟨⟨a5, a6, -⟩, a7⟩
   refine kM (kc (kA c 7 16) (kc (kA c 8 17) k0)) fun g => ?_
   refine Qi.shift (op := .shr) (T := 111) (T' := 3) (x := (.tmp 16)) (y := (.tmp 17)) (kx := .u32) (ky := .i64) (a := p1) (b := p4) (v := (.int .u32 (Nm .u32 p1 p4))) (d := (some 18)) (k := 9) K rfl K K (of_decide_eq_true hl17) rfl ?_
   exact eK g
 ·exact oV (hC (hA 6 15) (hC (hA 9 18) (h0))) (.int .u32 (V7 .u32 (V7 .u32 z5 f) (Nm .u32 p1 p4)))
 ·exact oV (hC (hA 10 19) (h0)) (.int .u32 (V7 .u32 (V7 .u32 z5 f) (Nm .u32 p1 p4)))
 ·rintro ρ' w' hs hf ⟨⟨a8, a9, -⟩, j⟩
  refine Q3 [(8, (.int .u32 (V7 .u32 (V7 .u32 z5 f) (Nm .u32 p1 p4))))] ⟨hf 11 8 K, trivial⟩ ?_
  obtain ⟨b0, w⟩ : ∃ x, w' = x := ⟨_, rfl⟩
  rw [w] at j ⊢
  refine At.ret K ?_
  refine ⟨(.int .u32 (V7 .u32 (V7 .u32 z5 f) (Nm .u32 p1 p4))), K, ?_⟩
  obtain rfl := Qe H
  exact ⟨rfl, SP.sel j [] rfl rfl⟩
def Jo (p1 : Int) (p2 : Int) (p3 : Int) (p4 : Int) : Option (Int) :=
  ((Xr p1 p2).bind fun z5 => ((Xr p1 p3).bind fun a => ((Xr p1 p4).bind fun b => (some ((V7 .u32 (V7 .u32 z5 a) b))))))
theorem Ru  (p1 : Int) (p2 : Int) (p3 : Int) (p4 : Int) (w0 : World)  (r : (Int)) (H : Jo p1 p2 p3 p4 = some r) :
  Calls Tryz.prog 103 #[(.int .u32 p1), (.int .i64 p2), (.int .i64 p3), (.int .i64 p4)] w0 (fun e w' => e = .returned (.int .u32 r) ∧ SP [] w0 w' []) := by
 unfold Jo at H
 refine Qs (n := 20) Tryz.func103 K K K ?_
 have g := Q0 [] w0
 refine aQ ?_
 refine aR ?_
 refine iR 1 1 [(8, (.int .u32 0))] ?_
 refine iF ?_
 refine aQ ?_
 refine aR ?_
 refine iR 2 2 [(9, (.int .u32 p1)), (10, (.int .i64 p2))] ?_
 obtain ⟨z5, h, H⟩ := Qb H
 refine iS 3 ?_
 refine cF 118 #[(.tmp 9), (.tmp 10)] #[111, 3] 11 Tryz.call118 (Y5  p1 p2 w0  z5 h) ?_
 rintro e w7 ⟨rfl, c⟩
 refine ⟨_, rfl, ?_⟩
 have i := SP.call g c
 clear c
 refine iR 2 5 [(12, (.int .u32 p1)), (13, (.int .i64 p3))] ?_
 obtain ⟨a, j, H⟩ := Qb H
 refine iS 6 ?_
 refine cF 118 #[(.tmp 12), (.tmp 13)] #[111, 3] 14 Tryz.call118 (Y5  p1 p3 w7  a j) ?_
 rintro e k ⟨rfl, d⟩
 refine ⟨_, rfl, ?_⟩
 have l := SP.call i d
 clear d
 refine iR 3 9 [(15, (.int .u32 (V7 .u32 z5 a))), (16, (.int .u32 p1)), (17, (.int .i64 p4))] ?_
 obtain ⟨b, m, H⟩ := Qb H
 refine iS 10 ?_
 refine cF 118 #[(.tmp 16), (.tmp 17)] #[111, 3] 18 Tryz.call118 (Y5  p1 p4 k  b m) ?_
 rintro e p ⟨rfl, f⟩
 refine ⟨_, rfl, ?_⟩
 have o := SP.call l f
 clear f
 refine iR 2 12 [(19, (.int .u32 (V7 .u32 (V7 .u32 z5 a) b))), (8, (.int .u32 (V7 .u32 (V7 .u32 z5 a) b)))] ?_
 refine iF ?_
 refine At.ret K ?_
 refine ⟨(.int .u32 (V7 .u32 (V7 .u32 z5 a) b)), K, ?_⟩
 obtain rfl := Qe H
 exact ⟨rfl, SP.sel o [] rfl rfl⟩
def Yq (a : (List Int) → Int → Option ((List Int))) (b : Int) (c : (List Int)) : Option ((List Int)) :=
  (a c (IntKind.wrap .i64 (b + 1)))
def Yr (c : (List Int) → Int → Option ((List Int))) (p1 : (List UInt8)) (b : (List Int)) (a : Int) : Option ((List Int)) :=
  (cond (decide (a < 64)) (cond (decide (a < 16)) ((idx p1 (IntKind.wrap .i64 (4 * a))).bind fun d => ((idx p1 (IntKind.wrap .i64 ((IntKind.wrap .i64 (4 * a)) + 1))).bind fun e => ((idx p1 (IntKind.wrap .i64 ((IntKind.wrap .i64 (4 * a)) + 2))).bind fun f => ((idx p1 (IntKind.wrap .i64 ((IntKind.wrap .i64 (4 * a)) + 3))).bind fun g => ((idx b a).bind fun p => ((some (List.set b (Int.toNat a) (bOr .u32 (bOr .u32 (bOr .u32 (Ns .u32 (IntKind.wrap .u32 ((d).toNat : Int)) 24) (Ns .u32 (IntKind.wrap .u32 ((e).toNat : Int)) 16)) (Ns .u32 (IntKind.wrap .u32 ((f).toNat : Int)) 8)) (IntKind.wrap .u32 ((g).toNat : Int))))).bind fun h => (Yq c a h))))))) ((idx b (IntKind.wrap .i64 (a - 2))).bind fun i => ((Jn i 17 19 10).bind fun j => ((idx b (IntKind.wrap .i64 (a - 7))).bind fun k => ((idx b (IntKind.wrap .i64 (a - 15))).bind fun l => ((Jn l 7 18 3).bind fun m => ((idx b (IntKind.wrap .i64 (a - 16))).bind fun n => ((idx b a).bind fun q => ((some (List.set b (Int.toNat a) (IntKind.wrap .u32 ((IntKind.wrap .u32 ((IntKind.wrap .u32 (j + k)) + m)) + n)))).bind fun o => (Yq c a o)))))))))) (some (b)))
def Zm (p1 : (List UInt8)) : Nat → (List Int) → Int → Option ((List Int))
  | 0, _, _ => none
  | f + 1, a, b => Yr  (Zm p1 f) p1 a b
def Jf (p1 : (List UInt8)) : Option ((List Int)) :=
  (Zm p1 Zj (List.replicate 64 0) 0)
theorem D7 (A2 : Option Addr) (c3 : Nat) (p1 : (List UInt8)) (w0 : World) (a4 : RdT eU8 w0 A2 c3 p1) (r : ((List Int))) (H : Jf p1 = some r) :
  Calls Tryz.prog 102 #[(.slice A2 (List.length p1) c3)] w0 (fun e w' => e = .returned (.agg (Qd (Qc .u32) r).toArray) ∧ SP [] w0 w' []) := by
 unfold Jf at H
 refine Qs (n := 70) Tryz.func102 K K K ?_
 have e8 := Q0 [] w0
 refine aQ ?_
 refine aR ?_
 refine iS 1 ?_
 refine Q4 (e := (Qc .u32)) (l := (List.replicate 64 0)) (m := 64) (t := 135) (z := .agg (Qd (Qc .u32) (List.replicate 64 0)).toArray) (d := (some 2)) (k := 0) K rfl K rfl rfl K e8 ?_
 intro g5 w6 e9
 refine iF ?_
 refine aQ ?_
 refine aR ?_
 refine iS 1 ?_
 refine Q4 (e := (Qc .u32)) (l := (List.replicate 64 0)) (m := 64) (t := 135) (z := .agg (Qd (Qc .u32) (List.replicate 64 0)).toArray) (d := (some 3)) (k := 0) K rfl K rfl rfl K e9 ?_
 intro g9 r0 f0
 refine iF ?_
 refine aQ ?_
 refine aQ ?_
 refine aR ?_
 refine iR 1 1 [(4, (.int .i64 0))] ?_
 refine iF ?_
 refine Z1 K (id := 0) K ?_
 refine Nl K (fun f4 ρ w => ∃ (q : (List Int)) (f : Int), V6 ρ [(0, (.slice A2 (List.length p1) c3)), (2, (pt g5 0)), (3, (pt g9 0)), (4, (.int .i64 f))] ∧ SP [] w0 w [Vk 135 (Qc .u32) g5 64 (List.replicate 64 0), Vk 135 (Qc .u32) g9 64 q] ∧ Zm p1 f4 q f = some r) (by rintro ρ w ⟨q, f, hk, hs, H⟩; cases H) ?_ Zj ?_
 ·rintro f4 ρ r1 ⟨q, f, hk, a7, H⟩
  refine At.known [(0, (.slice A2 (List.length p1) c3)), (2, (pt g5 0)), (3, (pt g9 0)), (4, (.int .i64 f))] hk ?_
  replace H := (show Yr (Zm p1 f4) p1 q f = some r from H)
  unfold Yr at H
  have r2 := Vc (SP.get a7 (i := 0) rfl)
  have f1 := Vc (SP.get a7 (i := 1) rfl)
  refine aQ ?_
  refine aQ ?_
  refine aR ?_
  refine iR 2 2 [(5, (.int .i64 f)), (6, (.bool (decide (f < 64))))] ?_
  refine iF ?_
  refine V1 K (o := (.tmp 6)) K (b := (decide (f < 64))) K (fun b8 => ?_) (fun b8 => ?_)
  ·have H := ct H b8
   refine At.skip K ?_
   refine aQ ?_
   refine Z1 K (id := 1) K ?_
   refine aQ ?_
   refine aR ?_
   refine iR 2 2 [(9, (.int .i64 f)), (10, (.bool (decide (f < 16))))] ?_
   refine iF ?_
   refine At.join (fun ρ w => ∃ (b4 : (List Int)), V6 ρ [(0, (.slice A2 (List.length p1) c3)), (2, (pt g5 0)), (3, (pt g9 0)), (4, (.int .i64 f))] ∧ SP [] w0 w [Vk 135 (Qc .u32) g5 64 (List.replicate 64 0), Vk 135 (Qc .u32) g9 64 b4] ∧ Yq (Zm p1 f4) f b4 = some r) ?_ ?_
   ·refine V1 K (o := (.tmp 10)) K (b := (decide (f < 16))) K (fun b9 => ?_) (fun b9 => ?_)
    ·have H := ct H b9
     obtain ⟨s, c8, c9, f2, H⟩ := Qo H
     obtain ⟨u, d0, d1, f3, H⟩ := Qo H
     obtain ⟨a1, d2, d3, f5, H⟩ := Qo H
     obtain ⟨a5, d4, d5, f6, H⟩ := Qo H
     obtain ⟨r3, d6, d7, r4, H⟩ := Qo H
     obtain ⟨c0, hyl2055, H⟩ := Zk H
     have hnl2055 : List.length c0 = List.length q := by rw [← hyl2055, List.length_set]
     refine aG [GEq (.int .i64 f), GEq (.slice A2 (List.length p1) c3), GEq (.int .i64 f), GEq (.int .i64 (IntKind.wrap .i64 (4 * f))), Vr A2 eU8.sz (IntKind.wrap .i64 (4 * f)), GEq (.int .u8 ((s).toNat : Int)), GEq (.int .u32 (IntKind.wrap .u32 ((s).toNat : Int))), GEq (.int .u32 (Ns .u32 (IntKind.wrap .u32 ((s).toNat : Int)) 24)), GEq (.slice A2 (List.length p1) c3), GEq (.int .i64 f), GEq (.int .i64 (IntKind.wrap .i64 (4 * f))), GEq (.int .i64 (IntKind.wrap .i64 ((IntKind.wrap .i64 (4 * f)) + 1))), Vr A2 eU8.sz (IntKind.wrap .i64 ((IntKind.wrap .i64 (4 * f)) + 1)), GEq (.int .u8 ((u).toNat : Int)), GEq (.int .u32 (IntKind.wrap .u32 ((u).toNat : Int))), GEq (.int .u32 (Ns .u32 (IntKind.wrap .u32 ((u).toNat : Int)) 16)), GEq (.int .u32 (bOr .u32 (Ns .u32 (IntKind.wrap .u32 ((s).toNat : Int)) 24) (Ns .u32 (IntKind.wrap .u32 ((u).toNat : Int)) 16))), GEq (.slice A2 (List.length p1) c3), GEq (.int .i64 f), GEq (.int .i64 (IntKind.wrap .i64 (4 * f))), GEq (.int .i64 (IntKind.wrap .i64 ((IntKind.wrap .i64 (4 * f)) + 2))), Vr A2 eU8.sz (IntKind.wrap .i64 ((IntKind.wrap .i64 (4 * f)) + 2)), GEq (.int .u8 ((a1).toNat : Int)), GEq (.int .u32 (IntKind.wrap .u32 ((a1).toNat : Int))), GEq (.int .u32 (Ns .u32 (IntKind.wrap .u32 ((a1).toNat : Int)) 8)), GEq (.int .u32 (bOr .u32 (bOr .u32 (Ns .u32 (IntKind.wrap .u32 ((s).toNat : Int)) 24) (Ns .u32 (IntKind.wrap .u32 ((u).toNat : Int)) 16)) (Ns .u32 (IntKind.wrap .u32 ((a1).toNat : Int)) 8))), GEq (.slice A2 (List.length p1) c3), GEq (.int .i64 f), GEq (.int .i64 (IntKind.wrap .i64 (4 * f))), GEq (.int .i64 (IntKind.wrap .i64 ((IntKind.wrap .i64 (4 * f)) + 3))), Vr A2 eU8.sz (IntKind.wrap .i64 ((IntKind.wrap .i64 (4 * f)) + 3)), GEq (.int .u8 ((a5).toNat : Int)), GEq (.int .u32 (IntKind.wrap .u32 ((a5).toNat : Int))), GEq (.int .u32 (bOr .u32 (bOr .u32 (bOr .u32 (Ns .u32 (IntKind.wrap .u32 ((s).toNat : Int)) 24) (Ns .u32 (IntKind.wrap .u32 ((u).toNat : Int)) 16)) (Ns .u32 (IntKind.wrap .u32 ((a1).toNat : Int)) 8)) (IntKind.wrap .u32 ((a5).toNat : Int)))), Vr (some ⟨g9, 0, none⟩) (Qc .u32).sz f, Ey] [35] [sG [] [] [] w0 [Vk 135 (Qc .u32) g5 64 (List.replicate 64 0), Vk 135 (Qc .u32) g9 64 q], sG [35] [undef] [] w0 [Vk 135 (Qc .u32) g5 64 (List.replicate 64 0), Vk 135 (Qc .u32) g9 64 c0]] 36 1 ⟨trivial, SP.drew a7⟩ ?_ ?_
     iterate 36 refine And.intro ?_ ?_
     exact trivial
     ·exact oV (hC (hS 4 (.int .i64 f)) (h0)) (.int .i64 f)
     ·exact oV (hC (hS 0 (.slice A2 (List.length p1) c3)) (h0)) (.slice A2 (List.length p1) c3)
     ·exact oV (hC (hS 4 (.int .i64 f)) (h0)) (.int .i64 f)
     ·exact oV (hC (hA 2 13) (h0)) (.int .i64 (IntKind.wrap .i64 (4 * f)))
     ·refine oL 0 ?_
      ·rintro ρ' w' hs h ⟨r5, f7⟩
       refine kM (kc (kA h 1 12) (kc (kA h 3 14) k0)) fun p => ?_
       refine Vi (e := eU8) (l := p1) (A := A2) (c := c3) (T := 52) (E := 5) (x := (.tmp 12)) (ix := (.tmp 14)) (ki := .i64) (iz := (IntKind.wrap .i64 (4 * f))) (d := (some 15)) (k := 4) K rfl K K K K (RdT.sp a4 f7) c8 c9 ?_
       intro f8 f9 g0 r6 hc2066
       exact ⟨rfl, _, Qa p, ⟨f8, f9, g0, rfl⟩⟩
     ·refine oL 0 ?_
      ·rintro ρ' w' hs h ⟨r7, g1⟩
       obtain ⟨g2, g3, g4, g6⟩ := h 4 15 K
       refine kM (kc g6 k0) fun p => ?_
       refine sC 5 15 g2 (g3 + Int.toNat (IntKind.wrap .i64 (4 * f)) * eU8.sz) (.int .u8 ((s).toNat : Int)) 16 (Qk (e := eU8) (Qh (RdT.sp a4 g1) g4 c8 c9) f2 (j := 0) rfl) ?_
       exact eK p
     ·exact oV (hC (hA 5 16) (h0)) (.int .u32 (IntKind.wrap .u32 ((s).toNat : Int)))
     ·exact oV (hC (hA 6 17) (h0)) (.int .u32 (Ns .u32 (IntKind.wrap .u32 ((s).toNat : Int)) 24))
     ·exact oV (hC (hS 0 (.slice A2 (List.length p1) c3)) (h0)) (.slice A2 (List.length p1) c3)
     ·exact oV (hC (hS 4 (.int .i64 f)) (h0)) (.int .i64 f)
     ·exact oV (hC (hA 9 20) (h0)) (.int .i64 (IntKind.wrap .i64 (4 * f)))
     ·exact oV (hC (hA 10 21) (h0)) (.int .i64 (IntKind.wrap .i64 ((IntKind.wrap .i64 (4 * f)) + 1)))
     ·refine oL 0 ?_
      ·rintro ρ' w' hs h ⟨r8, g7⟩
       refine kM (kc (kA h 8 19) (kc (kA h 11 22) k0)) fun p => ?_
       refine Vi (e := eU8) (l := p1) (A := A2) (c := c3) (T := 52) (E := 5) (x := (.tmp 19)) (ix := (.tmp 22)) (ki := .i64) (iz := (IntKind.wrap .i64 ((IntKind.wrap .i64 (4 * f)) + 1))) (d := (some 23)) (k := 12) K rfl K K K K (RdT.sp a4 g7) d0 d1 ?_
       intro g8 h1 h2 r9 hc2078
       exact ⟨rfl, _, Qa p, ⟨g8, h1, h2, rfl⟩⟩
     ·refine oL 0 ?_
      ·rintro ρ' w' hs h ⟨s0, h3⟩
       obtain ⟨h4, h5, h6, h7⟩ := h 12 23 K
       refine kM (kc h7 k0) fun p => ?_
       refine sC 5 23 h4 (h5 + Int.toNat (IntKind.wrap .i64 ((IntKind.wrap .i64 (4 * f)) + 1)) * eU8.sz) (.int .u8 ((u).toNat : Int)) 24 (Qk (e := eU8) (Qh (RdT.sp a4 h3) h6 d0 d1) f3 (j := 0) rfl) ?_
       exact eK p
     ·exact oV (hC (hA 13 24) (h0)) (.int .u32 (IntKind.wrap .u32 ((u).toNat : Int)))
     ·exact oV (hC (hA 14 25) (h0)) (.int .u32 (Ns .u32 (IntKind.wrap .u32 ((u).toNat : Int)) 16))
     ·exact oV (hC (hA 7 18) (hC (hA 15 26) (h0))) (.int .u32 (bOr .u32 (Ns .u32 (IntKind.wrap .u32 ((s).toNat : Int)) 24) (Ns .u32 (IntKind.wrap .u32 ((u).toNat : Int)) 16)))
     ·exact oV (hC (hS 0 (.slice A2 (List.length p1) c3)) (h0)) (.slice A2 (List.length p1) c3)
     ·exact oV (hC (hS 4 (.int .i64 f)) (h0)) (.int .i64 f)
     ·exact oV (hC (hA 18 29) (h0)) (.int .i64 (IntKind.wrap .i64 (4 * f)))
     ·exact oV (hC (hA 19 30) (h0)) (.int .i64 (IntKind.wrap .i64 ((IntKind.wrap .i64 (4 * f)) + 2)))
     ·refine oL 0 ?_
      ·rintro ρ' w' hs h ⟨s1, h8⟩
       refine kM (kc (kA h 17 28) (kc (kA h 20 31) k0)) fun p => ?_
       refine Vi (e := eU8) (l := p1) (A := A2) (c := c3) (T := 52) (E := 5) (x := (.tmp 28)) (ix := (.tmp 31)) (ki := .i64) (iz := (IntKind.wrap .i64 ((IntKind.wrap .i64 (4 * f)) + 2))) (d := (some 32)) (k := 21) K rfl K K K K (RdT.sp a4 h8) d2 d3 ?_
       intro h9 i0 i1 s2 hc2090
       exact ⟨rfl, _, Qa p, ⟨h9, i0, i1, rfl⟩⟩
     ·refine oL 0 ?_
      ·rintro ρ' w' hs h ⟨s3, i2⟩
       obtain ⟨i3, i4, i5, i6⟩ := h 21 32 K
       refine kM (kc i6 k0) fun p => ?_
       refine sC 5 32 i3 (i4 + Int.toNat (IntKind.wrap .i64 ((IntKind.wrap .i64 (4 * f)) + 2)) * eU8.sz) (.int .u8 ((a1).toNat : Int)) 33 (Qk (e := eU8) (Qh (RdT.sp a4 i2) i5 d2 d3) f5 (j := 0) rfl) ?_
       exact eK p
     ·exact oV (hC (hA 22 33) (h0)) (.int .u32 (IntKind.wrap .u32 ((a1).toNat : Int)))
     ·exact oV (hC (hA 23 34) (h0)) (.int .u32 (Ns .u32 (IntKind.wrap .u32 ((a1).toNat : Int)) 8))
     ·exact oV (hC (hA 16 27) (hC (hA 24 35) (h0))) (.int .u32 (bOr .u32 (bOr .u32 (Ns .u32 (IntKind.wrap .u32 ((s).toNat : Int)) 24) (Ns .u32 (IntKind.wrap .u32 ((u).toNat : Int)) 16)) (Ns .u32 (IntKind.wrap .u32 ((a1).toNat : Int)) 8)))
     ·exact oV (hC (hS 0 (.slice A2 (List.length p1) c3)) (h0)) (.slice A2 (List.length p1) c3)
     ·exact oV (hC (hS 4 (.int .i64 f)) (h0)) (.int .i64 f)
     ·exact oV (hC (hA 27 38) (h0)) (.int .i64 (IntKind.wrap .i64 (4 * f)))
     ·exact oV (hC (hA 28 39) (h0)) (.int .i64 (IntKind.wrap .i64 ((IntKind.wrap .i64 (4 * f)) + 3)))
     ·refine oL 0 ?_
      ·rintro ρ' w' hs h ⟨s4, i7⟩
       refine kM (kc (kA h 26 37) (kc (kA h 29 40) k0)) fun p => ?_
       refine Vi (e := eU8) (l := p1) (A := A2) (c := c3) (T := 52) (E := 5) (x := (.tmp 37)) (ix := (.tmp 40)) (ki := .i64) (iz := (IntKind.wrap .i64 ((IntKind.wrap .i64 (4 * f)) + 3))) (d := (some 41)) (k := 30) K rfl K K K K (RdT.sp a4 i7) d4 d5 ?_
       intro i8 i9 j0 s5 hc2102
       exact ⟨rfl, _, Qa p, ⟨i8, i9, j0, rfl⟩⟩
     ·refine oL 0 ?_
      ·rintro ρ' w' hs h ⟨s6, j1⟩
       obtain ⟨j2, j3, j4, j5⟩ := h 30 41 K
       refine kM (kc j5 k0) fun p => ?_
       refine sC 5 41 j2 (j3 + Int.toNat (IntKind.wrap .i64 ((IntKind.wrap .i64 (4 * f)) + 3)) * eU8.sz) (.int .u8 ((a5).toNat : Int)) 42 (Qk (e := eU8) (Qh (RdT.sp a4 j1) j4 d4 d5) f6 (j := 0) rfl) ?_
       exact eK p
     ·exact oV (hC (hA 31 42) (h0)) (.int .u32 (IntKind.wrap .u32 ((a5).toNat : Int)))
     ·exact oV (hC (hA 25 36) (hC (hA 32 43) (h0))) (.int .u32 (bOr .u32 (bOr .u32 (bOr .u32 (Ns .u32 (IntKind.wrap .u32 ((s).toNat : Int)) 24) (Ns .u32 (IntKind.wrap .u32 ((u).toNat : Int)) 16)) (Ns .u32 (IntKind.wrap .u32 ((a1).toNat : Int)) 8)) (IntKind.wrap .u32 ((a5).toNat : Int))))
     ·refine oL 0 ?_
      ·rintro ρ' w' hs h ⟨s7, j6⟩
       refine kM (kc (kS hs 3 (pt g9 0)) (kc (kA h 0 11) k0)) fun p => ?_
       refine Ql (e := (Qc .u32)) (l := q) (m := 64) (g := g9) (T := 135) (E := 111) (x := (.tmp 3)) (ix := (.tmp 11)) (ki := .i64) (iz := f) (i := 1) (d := (some 45)) (k := 34) K rfl K K K K j6 rfl d6 d7 ?_
       exact ⟨rfl, _, Qa p, ⟨g9, 0, rfl, rfl⟩⟩
     ·refine oH 0 1 ?_
      ·rintro ρ' w' hs h ⟨s8, j7⟩
       obtain ⟨j8, j9, k1, k2⟩ := h 34 45 K
       refine kM (kc k2 (kc (kA h 33 44) k0)) fun p => ?_
       refine Z3 (e := (Qc .u32)) (t := 111) (x := (.tmp 45)) (y := (.tmp 44)) (l := q) (iz := f) (m := 64) (g := g9) (b := j8) (off := j9) (i := 1) (v := (.int .u32 (bOr .u32 (bOr .u32 (bOr .u32 (Ns .u32 (IntKind.wrap .u32 ((s).toNat : Int)) 24) (Ns .u32 (IntKind.wrap .u32 ((u).toNat : Int)) 16)) (Ns .u32 (IntKind.wrap .u32 ((a1).toNat : Int)) 8)) (IntKind.wrap .u32 ((a5).toNat : Int))))) (x' := (bOr .u32 (bOr .u32 (bOr .u32 (Ns .u32 (IntKind.wrap .u32 ((s).toNat : Int)) 24) (Ns .u32 (IntKind.wrap .u32 ((u).toNat : Int)) 16)) (Ns .u32 (IntKind.wrap .u32 ((a1).toNat : Int)) 8)) (IntKind.wrap .u32 ((a5).toNat : Int)))) (d := none) (k := 35) K rfl k1 K K j7 rfl rfl d7 d6 rfl K ?_
       rw [hyl2055]
       intro s9 k3
       refine ⟨_, Qa p, trivial, ?_⟩
       exact (And.intro (And.intro rfl (trivial)) (k3))
     ·rintro ρ' w' hs hf ⟨⟨t0, -⟩, d8⟩
      refine Q3 [(0, (.slice A2 (List.length p1) c3)), (2, (pt g5 0)), (3, (pt g9 0)), (4, (.int .i64 f))] ⟨(hs 0 K).trans K, (hs 2 K).trans K, (hs 3 K).trans K, (hs 4 K).trans K, trivial⟩ ?_
      obtain ⟨t1, k4⟩ : ∃ x, w' = x := ⟨_, rfl⟩
      rw [k4] at d8 ⊢
      exact ⟨c0, ⟨K, K, K, K, trivial⟩, SP.sel d8 [0, 1] rfl rfl, H⟩
    ·have H := cf H b9
     obtain ⟨c1, d9, e0, k5, H⟩ := Qo H
     obtain ⟨a0, k6, H⟩ := Qb H
     obtain ⟨a2, a8, a9, c2, H⟩ := Qo H
     obtain ⟨b5, b6, b7, e1, H⟩ := Qo H
     obtain ⟨a3, k7, H⟩ := Qb H
     obtain ⟨a6, b0, b1, c4, H⟩ := Qo H
     obtain ⟨t2, e2, e3, t3, H⟩ := Qo H
     obtain ⟨c5, hyl2156, H⟩ := Zk H
     have hnl2156 : List.length c5 = List.length q := by rw [← hyl2156, List.length_set]
     refine aG [GEq (.int .i64 f), GEq (.int .i64 f), GEq (.int .i64 (IntKind.wrap .i64 (f - 2))), Vr (some ⟨g9, 0, none⟩) (Qc .u32).sz (IntKind.wrap .i64 (f - 2)), GEq (.int .u32 c1), GEq (.int .u32 a0), GEq (.int .i64 f), GEq (.int .i64 (IntKind.wrap .i64 (f - 7))), Vr (some ⟨g9, 0, none⟩) (Qc .u32).sz (IntKind.wrap .i64 (f - 7)), GEq (.int .u32 a2), GEq (.int .u32 (IntKind.wrap .u32 (a0 + a2))), GEq (.int .i64 f), GEq (.int .i64 (IntKind.wrap .i64 (f - 15))), Vr (some ⟨g9, 0, none⟩) (Qc .u32).sz (IntKind.wrap .i64 (f - 15)), GEq (.int .u32 b5), GEq (.int .u32 a3), GEq (.int .u32 (IntKind.wrap .u32 ((IntKind.wrap .u32 (a0 + a2)) + a3))), GEq (.int .i64 f), GEq (.int .i64 (IntKind.wrap .i64 (f - 16))), Vr (some ⟨g9, 0, none⟩) (Qc .u32).sz (IntKind.wrap .i64 (f - 16)), GEq (.int .u32 a6), GEq (.int .u32 (IntKind.wrap .u32 ((IntKind.wrap .u32 ((IntKind.wrap .u32 (a0 + a2)) + a3)) + a6))), Vr (some ⟨g9, 0, none⟩) (Qc .u32).sz f, Ey] [5, 15, 23] [sG [] [] [] w0 [Vk 135 (Qc .u32) g5 64 (List.replicate 64 0), Vk 135 (Qc .u32) g9 64 q], sG [5] [(.int .u32 a0)] [] w0 [Vk 135 (Qc .u32) g5 64 (List.replicate 64 0), Vk 135 (Qc .u32) g9 64 q], sG [5, 15] [(.int .u32 a0), (.int .u32 a3)] [] w0 [Vk 135 (Qc .u32) g5 64 (List.replicate 64 0), Vk 135 (Qc .u32) g9 64 q], sG [5, 15, 23] [(.int .u32 a0), (.int .u32 a3), undef] [] w0 [Vk 135 (Qc .u32) g5 64 (List.replicate 64 0), Vk 135 (Qc .u32) g9 64 c5]] 24 3 ⟨trivial, SP.drew a7⟩ ?_ ?_
     iterate 24 refine And.intro ?_ ?_
     exact trivial
     ·exact oV (hC (hS 4 (.int .i64 f)) (h0)) (.int .i64 f)
     ·exact oV (hC (hS 4 (.int .i64 f)) (h0)) (.int .i64 f)
     ·exact oV (hC (hA 1 47) (h0)) (.int .i64 (IntKind.wrap .i64 (f - 2)))
     ·refine oL 0 ?_
      ·rintro ρ' w' hs h ⟨t4, k8⟩
       refine kM (kc (kS hs 3 (pt g9 0)) (kc (kA h 2 48) k0)) fun p => ?_
       refine Ql (e := (Qc .u32)) (l := q) (m := 64) (g := g9) (T := 135) (E := 111) (x := (.tmp 3)) (ix := (.tmp 48)) (ki := .i64) (iz := (IntKind.wrap .i64 (f - 2))) (i := 1) (d := (some 49)) (k := 3) K rfl K K K K k8 rfl d9 e0 ?_
       exact ⟨rfl, _, Qa p, ⟨g9, 0, rfl, rfl⟩⟩
     ·refine oL 0 ?_
      ·rintro ρ' w' hs h ⟨t5, k9⟩
       obtain ⟨l0, l1, l2, l3⟩ := h 3 49 K
       refine kM (kc l3 k0) fun p => ?_
       refine sC 111 49 l0 (l1 + Int.toNat (IntKind.wrap .i64 (f - 2)) * (Qc .u32).sz) (.int .u32 c1) 50 (Qk (e := (Qc .u32)) (Qh (Qy (SP.get k9 (i := 1) rfl)) l2 d9 e0) k5 (j := 0) rfl) ?_
       exact eK p
     ·refine oH 0 1 ?_
      ·rintro ρ' w' hs h ⟨t6, l4⟩
       refine kM (kc (kA h 4 50) k0) fun p => ?_
       refine cF 117 #[(.tmp 50), (.const (.int .i64 (17))), (.const (.int .i64 (19))), (.const (.int .i64 (10)))] #[111, 3, 3, 3] 51 Tryz.call117 (Rt  c1 17 19 10 w'  a0 k6) ?_
       rintro e t7 ⟨rfl, e4⟩
       refine ⟨_, rfl, ?_⟩
       have l5 := SP.call l4 e4
       clear e4
       refine ⟨_, Qa p, rfl, ?_⟩
       exact (And.intro (And.intro rfl (trivial)) (l5))
     ·exact oV (hC (hS 4 (.int .i64 f)) (h0)) (.int .i64 f)
     ·exact oV (hC (hA 6 52) (h0)) (.int .i64 (IntKind.wrap .i64 (f - 7)))
     ·refine Owe.light K [0, 1, 2] K (Qf ?_ (Qf ?_ (Qf ?_ Q8)))
      ·rintro ρ' w' hs h ⟨t8, l6⟩
       refine kM (kc (kS hs 3 (pt g9 0)) (kc (kA h 7 53) k0)) fun p => ?_
       refine Ql (e := (Qc .u32)) (l := q) (m := 64) (g := g9) (T := 135) (E := 111) (x := (.tmp 3)) (ix := (.tmp 53)) (ki := .i64) (iz := (IntKind.wrap .i64 (f - 7))) (i := 1) (d := (some 54)) (k := 8) K rfl K K K K l6 rfl a8 a9 ?_
       exact ⟨rfl, _, Qa p, ⟨g9, 0, rfl, rfl⟩⟩
      ·rintro ρ' w' hs h ⟨⟨t9, -⟩, l7⟩
       refine kM (kc (kS hs 3 (pt g9 0)) (kc (kA h 7 53) k0)) fun p => ?_
       refine Ql (e := (Qc .u32)) (l := q) (m := 64) (g := g9) (T := 135) (E := 111) (x := (.tmp 3)) (ix := (.tmp 53)) (ki := .i64) (iz := (IntKind.wrap .i64 (f - 7))) (i := 1) (d := (some 54)) (k := 8) K rfl K K K K l7 rfl a8 a9 ?_
       exact ⟨rfl, _, Qa p, ⟨g9, 0, rfl, rfl⟩⟩
      ·rintro ρ' w' hs h ⟨⟨u0, u1, -⟩, l8⟩
       refine kM (kc (kS hs 3 (pt g9 0)) (kc (kA h 7 53) k0)) fun p => ?_
       refine Ql (e := (Qc .u32)) (l := q) (m := 64) (g := g9) (T := 135) (E := 111) (x := (.tmp 3)) (ix := (.tmp 53)) (ki := .i64) (iz := (IntKind.wrap .i64 (f - 7))) (i := 1) (d := (some 54)) (k := 8) K rfl K K K K l8 rfl a8 a9 ?_
       exact ⟨rfl, _, Qa p, ⟨g9, 0, rfl, rfl⟩⟩
     ·refine Owe.light K [0, 1, 2] K (Qf ?_ (Qf ?_ (Qf ?_ Q8)))
      ·rintro ρ' w' hs h ⟨u2, l9⟩
       obtain ⟨m0, m1, m2, b2⟩ := h 8 54 K
       refine kM (kc b2 k0) fun p => ?_
       refine sC 111 54 m0 (m1 + Int.toNat (IntKind.wrap .i64 (f - 7)) * (Qc .u32).sz) (.int .u32 a2) 55 (Qk (e := (Qc .u32)) (Qh (Qy (SP.get l9 (i := 1) rfl)) m2 a8 a9) c2 (j := 0) rfl) ?_
       exact eK p
      ·rintro ρ' w' hs h ⟨⟨u3, -⟩, m3⟩
       obtain ⟨m4, m5, m6, b2⟩ := h 8 54 K
       refine kM (kc b2 k0) fun p => ?_
       refine sC 111 54 m4 (m5 + Int.toNat (IntKind.wrap .i64 (f - 7)) * (Qc .u32).sz) (.int .u32 a2) 55 (Qk (e := (Qc .u32)) (Qh (Qy (SP.get m3 (i := 1) rfl)) m6 a8 a9) c2 (j := 0) rfl) ?_
       exact eK p
      ·rintro ρ' w' hs h ⟨⟨u4, u5, -⟩, m7⟩
       obtain ⟨m8, m9, n0, b2⟩ := h 8 54 K
       refine kM (kc b2 k0) fun p => ?_
       refine sC 111 54 m8 (m9 + Int.toNat (IntKind.wrap .i64 (f - 7)) * (Qc .u32).sz) (.int .u32 a2) 55 (Qk (e := (Qc .u32)) (Qh (Qy (SP.get m7 (i := 1) rfl)) n0 a8 a9) c2 (j := 0) rfl) ?_
       exact eK p
     ·exact oV (hC (hA 5 51) (hC (hA 9 55) (h0))) (.int .u32 (IntKind.wrap .u32 (a0 + a2)))
     ·exact oV (hC (hS 4 (.int .i64 f)) (h0)) (.int .i64 f)
     ·exact oV (hC (hA 11 57) (h0)) (.int .i64 (IntKind.wrap .i64 (f - 15)))
     ·refine Owe.light K [0, 1] K (Qf ?_ (Qf ?_ Q8))
      ·rintro ρ' w' hs h ⟨u6, n1⟩
       refine kM (kc (kS hs 3 (pt g9 0)) (kc (kA h 12 58) k0)) fun p => ?_
       refine Ql (e := (Qc .u32)) (l := q) (m := 64) (g := g9) (T := 135) (E := 111) (x := (.tmp 3)) (ix := (.tmp 58)) (ki := .i64) (iz := (IntKind.wrap .i64 (f - 15))) (i := 1) (d := (some 59)) (k := 13) K rfl K K K K n1 rfl b6 b7 ?_
       exact ⟨rfl, _, Qa p, ⟨g9, 0, rfl, rfl⟩⟩
      ·rintro ρ' w' hs h ⟨⟨u7, -⟩, n2⟩
       refine kM (kc (kS hs 3 (pt g9 0)) (kc (kA h 12 58) k0)) fun p => ?_
       refine Ql (e := (Qc .u32)) (l := q) (m := 64) (g := g9) (T := 135) (E := 111) (x := (.tmp 3)) (ix := (.tmp 58)) (ki := .i64) (iz := (IntKind.wrap .i64 (f - 15))) (i := 1) (d := (some 59)) (k := 13) K rfl K K K K n2 rfl b6 b7 ?_
       exact ⟨rfl, _, Qa p, ⟨g9, 0, rfl, rfl⟩⟩
     ·refine Owe.light K [0, 1] K (Qf ?_ (Qf ?_ Q8))
      ·rintro ρ' w' hs h ⟨u9, n3⟩
       obtain ⟨n4, n5, n6, c6⟩ := h 13 59 K
       refine kM (kc c6 k0) fun p => ?_
       refine sC 111 59 n4 (n5 + Int.toNat (IntKind.wrap .i64 (f - 15)) * (Qc .u32).sz) (.int .u32 b5) 60 (Qk (e := (Qc .u32)) (Qh (Qy (SP.get n3 (i := 1) rfl)) n6 b6 b7) e1 (j := 0) rfl) ?_
       exact eK p
      ·rintro ρ' w' hs h ⟨⟨v0, -⟩, n7⟩
       obtain ⟨n8, n9, o0, c6⟩ := h 13 59 K
       refine kM (kc c6 k0) fun p => ?_
       refine sC 111 59 n8 (n9 + Int.toNat (IntKind.wrap .i64 (f - 15)) * (Qc .u32).sz) (.int .u32 b5) 60 (Qk (e := (Qc .u32)) (Qh (Qy (SP.get n7 (i := 1) rfl)) o0 b6 b7) e1 (j := 0) rfl) ?_
       exact eK p
     ·refine oH 1 2 ?_
      ·rintro ρ' w' hs h ⟨⟨o1, -⟩, o2⟩
       refine kM (kc (kA h 14 60) k0) fun p => ?_
       refine cF 117 #[(.tmp 60), (.const (.int .i64 (7))), (.const (.int .i64 (18))), (.const (.int .i64 (3)))] #[111, 3, 3, 3] 61 Tryz.call117 (Rt  b5 7 18 3 w'  a3 k7) ?_
       rintro e v1 ⟨rfl, e5⟩
       refine ⟨_, rfl, ?_⟩
       have o3 := SP.call o2 e5
       clear e5
       refine ⟨_, Qa p, rfl, ?_⟩
       exact (And.intro (And.intro o1 (And.intro rfl (trivial))) (o3))
     ·exact oV (hC (hA 10 56) (hC (hA 15 61) (h0))) (.int .u32 (IntKind.wrap .u32 ((IntKind.wrap .u32 (a0 + a2)) + a3)))
     ·exact oV (hC (hS 4 (.int .i64 f)) (h0)) (.int .i64 f)
     ·exact oV (hC (hA 17 63) (h0)) (.int .i64 (IntKind.wrap .i64 (f - 16)))
     ·refine Owe.light K [0, 1, 2] K (Qf ?_ (Qf ?_ (Qf ?_ Q8)))
      ·rintro ρ' w' hs h ⟨v2, o4⟩
       refine kM (kc (kS hs 3 (pt g9 0)) (kc (kA h 18 64) k0)) fun p => ?_
       refine Ql (e := (Qc .u32)) (l := q) (m := 64) (g := g9) (T := 135) (E := 111) (x := (.tmp 3)) (ix := (.tmp 64)) (ki := .i64) (iz := (IntKind.wrap .i64 (f - 16))) (i := 1) (d := (some 65)) (k := 19) K rfl K K K K o4 rfl b0 b1 ?_
       exact ⟨rfl, _, Qa p, ⟨g9, 0, rfl, rfl⟩⟩
      ·rintro ρ' w' hs h ⟨⟨v3, -⟩, o5⟩
       refine kM (kc (kS hs 3 (pt g9 0)) (kc (kA h 18 64) k0)) fun p => ?_
       refine Ql (e := (Qc .u32)) (l := q) (m := 64) (g := g9) (T := 135) (E := 111) (x := (.tmp 3)) (ix := (.tmp 64)) (ki := .i64) (iz := (IntKind.wrap .i64 (f - 16))) (i := 1) (d := (some 65)) (k := 19) K rfl K K K K o5 rfl b0 b1 ?_
       exact ⟨rfl, _, Qa p, ⟨g9, 0, rfl, rfl⟩⟩
      ·rintro ρ' w' hs h ⟨⟨v4, v5, -⟩, o6⟩
       refine kM (kc (kS hs 3 (pt g9 0)) (kc (kA h 18 64) k0)) fun p => ?_
       refine Ql (e := (Qc .u32)) (l := q) (m := 64) (g := g9) (T := 135) (E := 111) (x := (.tmp 3)) (ix := (.tmp 64)) (ki := .i64) (iz := (IntKind.wrap .i64 (f - 16))) (i := 1) (d := (some 65)) (k := 19) K rfl K K K K o6 rfl b0 b1 ?_
       exact ⟨rfl, _, Qa p, ⟨g9, 0, rfl, rfl⟩⟩
     ·refine Owe.light K [0, 1, 2] K (Qf ?_ (Qf ?_ (Qf ?_ Q8)))
      ·rintro ρ' w' hs h ⟨v6, o7⟩
       obtain ⟨o8, o9, p0, b3⟩ := h 19 65 K
       refine kM (kc b3 k0) fun p => ?_
       refine sC 111 65 o8 (o9 + Int.toNat (IntKind.wrap .i64 (f - 16)) * (Qc .u32).sz) (.int .u32 a6) 66 (Qk (e := (Qc .u32)) (Qh (Qy (SP.get o7 (i := 1) rfl)) p0 b0 b1) c4 (j := 0) rfl) ?_
       exact eK p
      ·rintro ρ' w' hs h ⟨⟨v7, -⟩, p2⟩
       obtain ⟨p3, p4, p5, b3⟩ := h 19 65 K
       refine kM (kc b3 k0) fun p => ?_
       refine sC 111 65 p3 (p4 + Int.toNat (IntKind.wrap .i64 (f - 16)) * (Qc .u32).sz) (.int .u32 a6) 66 (Qk (e := (Qc .u32)) (Qh (Qy (SP.get p2 (i := 1) rfl)) p5 b0 b1) c4 (j := 0) rfl) ?_
       exact eK p
      ·rintro ρ' w' hs h ⟨⟨v8, v9, -⟩, p6⟩
       obtain ⟨p7, p8, p9, b3⟩ := h 19 65 K
       refine kM (kc b3 k0) fun p => ?_
       refine sC 111 65 p7 (p8 + Int.toNat (IntKind.wrap .i64 (f - 16)) * (Qc .u32).sz) (.int .u32 a6) 66 (Qk (e := (Qc .u32)) (Qh (Qy (SP.get p6 (i := 1) rfl)) p9 b0 b1) c4 (j := 0) rfl) ?_
       exact eK p
     ·exact oV (hC (hA 16 62) (hC (hA 20 66) (h0))) (.int .u32 (IntKind.wrap .u32 ((IntKind.wrap .u32 ((IntKind.wrap .u32 (a0 + a2)) + a3)) + a6)))
     ·refine oL 2 ?_
      ·rintro ρ' w' hs h ⟨⟨w1, w2, -⟩, q0⟩
       refine kM (kc (kS hs 3 (pt g9 0)) (kc (kA h 0 46) k0)) fun p => ?_
       refine Ql (e := (Qc .u32)) (l := q) (m := 64) (g := g9) (T := 135) (E := 111) (x := (.tmp 3)) (ix := (.tmp 46)) (ki := .i64) (iz := f) (i := 1) (d := (some 68)) (k := 22) K rfl K K K K q0 rfl e2 e3 ?_
       exact ⟨rfl, _, Qa p, ⟨g9, 0, rfl, rfl⟩⟩
     ·refine oH 2 3 ?_
      ·rintro ρ' w' hs h ⟨⟨q1, q2, -⟩, q3⟩
       obtain ⟨q4, q5, q6, q7⟩ := h 22 68 K
       refine kM (kc q7 (kc (kA h 21 67) k0)) fun p => ?_
       refine Z3 (e := (Qc .u32)) (t := 111) (x := (.tmp 68)) (y := (.tmp 67)) (l := q) (iz := f) (m := 64) (g := g9) (b := q4) (off := q5) (i := 1) (v := (.int .u32 (IntKind.wrap .u32 ((IntKind.wrap .u32 ((IntKind.wrap .u32 (a0 + a2)) + a3)) + a6)))) (x' := (IntKind.wrap .u32 ((IntKind.wrap .u32 ((IntKind.wrap .u32 (a0 + a2)) + a3)) + a6))) (d := none) (k := 23) K rfl q6 K K q3 rfl rfl e3 e2 rfl K ?_
       rw [hyl2156]
       intro w3 q8
       refine ⟨_, Qa p, trivial, ?_⟩
       exact (And.intro (And.intro q1 (And.intro q2 (And.intro rfl (trivial)))) (q8))
     ·rintro ρ' w' hs hf ⟨⟨w4, w5, w7, -⟩, e6⟩
      refine Q3 [(0, (.slice A2 (List.length p1) c3)), (2, (pt g5 0)), (3, (pt g9 0)), (4, (.int .i64 f))] ⟨(hs 0 K).trans K, (hs 2 K).trans K, (hs 3 K).trans K, (hs 4 K).trans K, trivial⟩ ?_
      obtain ⟨w8, q9⟩ : ∃ x, w' = x := ⟨_, rfl⟩
      rw [q9] at e6 ⊢
      exact ⟨c5, ⟨K, K, K, K, trivial⟩, SP.sel e6 [0, 1] rfl rfl, H⟩
   ·rintro ρ w9 ⟨b4, hk, c7, H⟩
    unfold Yq at H
    first | refine At.known [(0, (.slice A2 (List.length p1) c3)), (2, (pt g5 0)), (3, (pt g9 0)), (4, (.int .i64 f))] hk ?_ | rw [← Qv (l := [(0, (.slice A2 (List.length p1) c3)), (2, (pt g5 0)), (3, (pt g9 0)), (4, (.int .i64 f))]) hk]
    have x0 := Vc (SP.get c7 (i := 0) rfl)
    have x1 := Vc (SP.get c7 (i := 1) rfl)
    refine aR ?_
    refine iR 3 3 [(7, (.int .i64 f)), (8, (.int .i64 (IntKind.wrap .i64 (f + 1)))), (4, (.int .i64 (IntKind.wrap .i64 (f + 1))))] ?_
    refine iF ?_
    exact ⟨b4, (IntKind.wrap .i64 (f + 1)), ⟨K, K, K, K, trivial⟩, SP.sel c7 [0, 1] rfl rfl, H⟩
  ·have H := cf H b8
   refine At.exit K (id := 0) K ?_
   refine aQ ?_
   refine aR ?_
   refine iS 1 ?_
   refine Zu (e := (Qc .u32)) (l := q) (m := 64) (t := 135) (x := (.tmp 3)) (g := g9) (i := 1) (d := (some 69)) (k := 0) K rfl K a7 rfl K K ?_
   refine iS 2 ?_
   refine Vf (e := (Qc .u32)) (l := (List.replicate 64 0)) (l' := q) (m := 64) (t := 135) (x := (.tmp 2)) (y := (.tmp 69)) (g := g5) (i := 0) (d := none) (k := 1) K rfl K K f1 a7 rfl K ?_
   intro x2 e7
   refine iF ?_
   refine At.ret K ?_
   refine ⟨(.agg (Qd (Qc .u32) q).toArray), Bs K (G0 (e := (Qc .u32)) (l := q) (a := 2) (t := 135) K (SP.get e7 (i := 0) rfl) K K), ?_⟩
   obtain rfl := Qe H
   exact ⟨rfl, SP.sel e7 [] rfl rfl⟩
 ·exact ⟨(List.replicate 64 0), 0, ⟨K, K, K, K, trivial⟩, SP.sel f0 [0, 1] rfl rfl, H⟩
def Gh (h : (List Int) → Int → Option ((List Int))) (c : (List Int) → Int → Option ((List Int))) (d : (List Int)) (b : (List Int)) (a : Int) : Option ((List Int)) :=
  (cond (decide (a < 8)) ((idx b a).bind fun e => ((idx d a).bind fun f => ((idx b a).bind fun i => ((some (List.set b (Int.toNat a) (IntKind.wrap .u32 (e + f)))).bind fun g => (c g (IntKind.wrap .i64 (a + 1))))))) (some (b)))
def Jg (a : (List Int) → Int → Option ((List Int))) (b : (List Int)) : Nat → (List Int) → Int → Option ((List Int))
  | 0, _, _ => none
  | f + 1, c, d => Gh a (Jg a b f) b c d
def Z0 (c : (List Int) → Int → Option ((List Int))) (p1 : (List Int)) (l : ((List Int))) (m : ((List Int))) (a : (List Int)) (b : Int) : Option ((List Int)) :=
  (cond (decide (b < 64)) ((idx a 7).bind fun d => ((idx a 4).bind fun n => ((Jo n 6 11 25).bind fun e => ((idx a 4).bind fun f => ((idx a 5).bind fun g => ((idx a 4).bind fun h => ((idx a 6).bind fun i => ((idx l b).bind fun j => ((idx m b).bind fun k => ((idx a 0).bind fun o => ((Jo o 2 13 22).bind fun p => ((idx a 0).bind fun q => ((idx a 1).bind fun r => ((idx a 0).bind fun s => ((idx a 2).bind fun t => ((idx a 1).bind fun u => ((idx a 2).bind fun v => ((idx a 0).bind fun w => ((idx a 1).bind fun x => ((idx a 2).bind fun y => ((idx a 3).bind fun z => ((idx a 4).bind fun a0 => ((idx a 5).bind fun a1 => ((idx a 6).bind fun a2 => (c ([(IntKind.wrap .u32 ((IntKind.wrap .u32 ((IntKind.wrap .u32 ((IntKind.wrap .u32 ((IntKind.wrap .u32 (d + e)) + (V7 .u32 (Zt .u32 f g) (Zt .u32 (V7 .u32 (IntKind.max .u32) h) i)))) + j)) + k)) + (IntKind.wrap .u32 (p + (V7 .u32 (V7 .u32 (Zt .u32 q r) (Zt .u32 s t)) (Zt .u32 u v)))))), w, x, y, (IntKind.wrap .u32 (z + (IntKind.wrap .u32 ((IntKind.wrap .u32 ((IntKind.wrap .u32 ((IntKind.wrap .u32 (d + e)) + (V7 .u32 (Zt .u32 f g) (Zt .u32 (V7 .u32 (IntKind.max .u32) h) i)))) + j)) + k)))), a0, a1, a2] : List Int) (IntKind.wrap .i64 (b + 1))))))))))))))))))))))))))) (Jg c a Zj p1 0))
def V8 (p1 : (List Int)) (a : ((List Int))) (b : ((List Int))) : Nat → (List Int) → Int → Option ((List Int))
  | 0, _, _ => none
  | f + 1, c, d => Z0  (V8 p1 a b f) p1 a b c d
def Uu (p1 : (List Int)) (p3 : (List UInt8)) : Option ((List Int)) :=
  ((N0 ).bind fun a => ((chk (Nat.beq (List.length a) 64)).bind fun _ => ((Jf p3).bind fun b => ((chk (Nat.beq (List.length b) 64)).bind fun _ => (V8 p1 a b Zj p1 0)))))
theorem B4 (A4 : Option Addr) (c5 : Nat) (p1 : (List Int)) (p3 : (List UInt8)) (w0 : World) (i3 : List.length p1 = 8) (n1 : RdT eU8 w0 A4 c5 p3) (r : ((List Int))) (H : Uu p1 p3 = some r) :
  Calls Tryz.prog 93 #[(.agg (Qd (Qc .u32) p1).toArray), (.slice A4 (List.length p3) c5)] w0 (fun e w' => e = .returned (.agg (Qd (Qc .u32) r).toArray) ∧ SP [] w0 w' []) := by
 unfold Uu at H
 refine Qs (n := 102) Tryz.func93 K K K ?_
 have n2 := Q0 [] w0
 refine aQ ?_
 refine aR ?_
 refine iS 1 ?_
 refine Ej (e := (Qc .u32)) (l := p1) (m := 8) (t := 128) (x := (.tmp 0)) (d := (some 2)) (k := 0) K rfl K i3 K n2 ?_
 intro g7 w8 n3
 refine iS 2 ?_
 refine Q4 (e := (Qc .u32)) (l := (List.replicate 8 0)) (m := 8) (t := 128) (z := .agg (Qd (Qc .u32) (List.replicate 8 0)).toArray) (d := (some 4)) (k := 1) K rfl K rfl rfl K n3 ?_
 intro b6 n4 n5
 refine iF ?_
 refine aQ ?_
 refine aR ?_
 obtain ⟨b8, n6, H⟩ := Qb H
 obtain ⟨g1, H⟩ := V4 H
 replace g1 := Nat.eq_of_beq_eq_true g1
 refine iS 1 ?_
 refine cF 101 #[] #[] 12 Tryz.call101 (B3   n4  b8 n6) ?_
 rintro e w18 ⟨rfl, i4⟩
 refine ⟨_, rfl, ?_⟩
 have n7 := SP.call n5 i4
 clear i4
 refine iS 2 ?_
 refine Q4 (e := (Qc .u32)) (l := (List.replicate 64 0)) (m := 64) (t := 135) (z := .agg (Qd (Qc .u32) (List.replicate 64 0)).toArray) (d := (some 5)) (k := 1) K rfl K rfl rfl K n7 ?_
 intro b4 w23 n8
 refine iS 3 ?_
 refine Vf (e := (Qc .u32)) (l := (List.replicate 64 0)) (l' := b8) (m := 64) (t := 135) (x := (.tmp 5)) (y := (.tmp 12)) (g := b4) (i := 2) (d := none) (k := 2) K rfl K K g1 n8 rfl K ?_
 intro n9 i5
 refine iF ?_
 refine aQ ?_
 refine aR ?_
 refine iR 1 1 [(13, (.slice A4 (List.length p3) c5))] ?_
 obtain ⟨b9, o0, H⟩ := Qb H
 obtain ⟨g2, H⟩ := V4 H
 replace g2 := Nat.eq_of_beq_eq_true g2
 refine iS 2 ?_
 refine cF 102 #[(.tmp 13)] #[52] 14 Tryz.call102 (D7 A4 c5 p3 n9 (RdT.sp n1 i5) b9 o0) ?_
 rintro e w32 ⟨rfl, i6⟩
 refine ⟨_, rfl, ?_⟩
 have o1 := SP.call i5 i6
 clear i6
 refine iS 3 ?_
 refine Q4 (e := (Qc .u32)) (l := (List.replicate 64 0)) (m := 64) (t := 135) (z := .agg (Qd (Qc .u32) (List.replicate 64 0)).toArray) (d := (some 6)) (k := 2) K rfl K rfl rfl K o1 ?_
 intro b5 w37 o2
 refine iS 4 ?_
 refine Vf (e := (Qc .u32)) (l := (List.replicate 64 0)) (l' := b9) (m := 64) (t := 135) (x := (.tmp 6)) (y := (.tmp 14)) (g := b5) (i := 3) (d := none) (k := 3) K rfl K K g2 o2 rfl K ?_
 intro w40 i7
 refine iF ?_
 refine aQ ?_
 refine aR ?_
 refine iS 1 ?_
 refine Zu (e := (Qc .u32)) (l := p1) (m := 8) (t := 128) (x := (.tmp 2)) (g := g7) (i := 0) (d := (some 15)) (k := 0) K rfl K i7 rfl K K ?_
 refine iS 2 ?_
 refine Q4 (e := (Qc .u32)) (l := (List.replicate 8 0)) (m := 8) (t := 128) (z := .agg (Qd (Qc .u32) (List.replicate 8 0)).toArray) (d := (some 7)) (k := 1) K rfl K rfl rfl K i7 ?_
 intro f w44 o3
 refine iS 3 ?_
 refine Vf (e := (Qc .u32)) (l := (List.replicate 8 0)) (l' := p1) (m := 8) (t := 128) (x := (.tmp 7)) (y := (.tmp 15)) (g := f) (i := 4) (d := none) (k := 2) K rfl K K i3 o3 rfl K ?_
 intro w47 o4
 refine iF ?_
 refine aQ ?_
 refine aQ ?_
 refine aR ?_
 refine iR 1 1 [(8, (.int .i64 0))] ?_
 refine iF ?_
 refine Z1 K (id := 0) K ?_
 refine Nl K (fun f4 ρ w => ∃ (p : (List Int)) (s : Int), V6 ρ [(2, (pt g7 0)), (4, (pt b6 0)), (5, (pt b4 0)), (6, (pt b5 0)), (7, (pt f 0)), (8, (.int .i64 s))] ∧ SP [] w0 w [Vk 128 (Qc .u32) g7 8 p1, Vk 128 (Qc .u32) b6 8 (List.replicate 8 0), Vk 135 (Qc .u32) b4 64 b8, Vk 135 (Qc .u32) b5 64 b9, Vk 128 (Qc .u32) f 8 p] ∧ V8 p1 b8 b9 f4 p s = some r) (by rintro ρ w ⟨p, s, hk, hs, H⟩; cases H) ?_ Zj ?_
 ·rintro f4 ρ ah8 ⟨p, s, hk, c1, H⟩
  refine At.known [(2, (pt g7 0)), (4, (pt b6 0)), (5, (pt b4 0)), (6, (pt b5 0)), (7, (pt f 0)), (8, (.int .i64 s))] hk ?_
  replace H := (show Z0 (V8 p1 b8 b9 f4) p1 b8 b9 p s = some r from H)
  unfold Z0 at H
  have ah9 := Vc (SP.get c1 (i := 0) rfl)
  have ai0 := Vc (SP.get c1 (i := 1) rfl)
  have ai1 := Vc (SP.get c1 (i := 2) rfl)
  have ai2 := Vc (SP.get c1 (i := 3) rfl)
  have ai3 := Vc (SP.get c1 (i := 4) rfl)
  refine aQ ?_
  refine aQ ?_
  refine aR ?_
  refine iR 2 2 [(16, (.int .i64 s)), (17, (.bool (decide (s < 64))))] ?_
  refine iF ?_
  refine V1 K (o := (.tmp 17)) K (b := (decide (s < 64))) K (fun g3 => ?_) (fun g3 => ?_)
  ·have H := ct H g3
   refine At.skip K ?_
   refine aQ ?_
   refine Z1 K (id := 1) K ?_
   refine aQ ?_
   obtain ⟨a3, c7, c8, i8, H⟩ := Qo H
   obtain ⟨g4, i9, j0, o5, H⟩ := Qo H
   obtain ⟨a4, o6, H⟩ := Qb H
   obtain ⟨a0, c9, d0, j1, H⟩ := Qo H
   obtain ⟨a1, d1, d2, j2, H⟩ := Qo H
   obtain ⟨u, d3, d4, j3, H⟩ := Qo H
   obtain ⟨a2, d5, d6, j4, H⟩ := Qo H
   obtain ⟨a5, d7, d8, j5, H⟩ := Qo H
   obtain ⟨a6, d9, e0, j6, H⟩ := Qo H
   refine aG [Vr (some ⟨f, 0, none⟩) (Qc .u32).sz 7, GEq (.int .u32 a3), Vr (some ⟨f, 0, none⟩) (Qc .u32).sz 4, GEq (.int .u32 g4), GEq (.int .u32 a4), GEq (.int .u32 (IntKind.wrap .u32 (a3 + a4))), Vr (some ⟨f, 0, none⟩) (Qc .u32).sz 4, GEq (.int .u32 a0), Vr (some ⟨f, 0, none⟩) (Qc .u32).sz 5, GEq (.int .u32 a1), GEq (.int .u32 (Zt .u32 a0 a1)), Vr (some ⟨f, 0, none⟩) (Qc .u32).sz 4, GEq (.int .u32 u), GEq (.int .u32 (V7 .u32 (IntKind.max .u32) u)), Vr (some ⟨f, 0, none⟩) (Qc .u32).sz 6, GEq (.int .u32 a2), GEq (.int .u32 (Zt .u32 (V7 .u32 (IntKind.max .u32) u) a2)), GEq (.int .u32 (V7 .u32 (Zt .u32 a0 a1) (Zt .u32 (V7 .u32 (IntKind.max .u32) u) a2))), GEq (.int .u32 (IntKind.wrap .u32 ((IntKind.wrap .u32 (a3 + a4)) + (V7 .u32 (Zt .u32 a0 a1) (Zt .u32 (V7 .u32 (IntKind.max .u32) u) a2))))), GEq (.int .i64 s), Vr (some ⟨b4, 0, none⟩) (Qc .u32).sz s, GEq (.int .u32 a5), GEq (.int .u32 (IntKind.wrap .u32 ((IntKind.wrap .u32 ((IntKind.wrap .u32 (a3 + a4)) + (V7 .u32 (Zt .u32 a0 a1) (Zt .u32 (V7 .u32 (IntKind.max .u32) u) a2)))) + a5))), GEq (.int .i64 s), Vr (some ⟨b5, 0, none⟩) (Qc .u32).sz s, GEq (.int .u32 a6), GEq (.int .u32 (IntKind.wrap .u32 ((IntKind.wrap .u32 ((IntKind.wrap .u32 ((IntKind.wrap .u32 (a3 + a4)) + (V7 .u32 (Zt .u32 a0 a1) (Zt .u32 (V7 .u32 (IntKind.max .u32) u) a2)))) + a5)) + a6))), GEq (.int .u32 (IntKind.wrap .u32 ((IntKind.wrap .u32 ((IntKind.wrap .u32 ((IntKind.wrap .u32 (a3 + a4)) + (V7 .u32 (Zt .u32 a0 a1) (Zt .u32 (V7 .u32 (IntKind.max .u32) u) a2)))) + a5)) + a6)))] [4] (tG [] w0 [Vk 128 (Qc .u32) g7 8 p1, Vk 128 (Qc .u32) b6 8 (List.replicate 8 0), Vk 135 (Qc .u32) b4 64 b8, Vk 135 (Qc .u32) b5 64 b9, Vk 128 (Qc .u32) f 8 p] [([], []), ([4], [(.int .u32 a4)])]) 28 1 ⟨trivial, SP.drew c1⟩ ?_ ?_
   iterate 28 refine And.intro ?_ ?_
   exact trivial
   ·refine Owe.light K [0, 1] K (Qf ?_ (Qf ?_ Q8))
    ·rintro ρ' w' hs h ⟨ai4, o7⟩
     refine kM (kc (kS hs 7 (pt f 0)) k0) fun c => ?_
     refine Ql (e := (Qc .u32)) (l := p) (m := 8) (g := f) (T := 128) (E := 111) (x := (.tmp 7)) (ix := (.const (.int .i64 (7)))) (ki := .i64) (iz := 7) (i := 4) (d := (some 20)) (k := 0) K rfl K K K K o7 rfl c7 c8 ?_
     exact ⟨rfl, _, Qa c, ⟨f, 0, rfl, rfl⟩⟩
    ·rintro ρ' w' hs h ⟨⟨ai5, -⟩, o8⟩
     refine kM (kc (kS hs 7 (pt f 0)) k0) fun c => ?_
     refine Ql (e := (Qc .u32)) (l := p) (m := 8) (g := f) (T := 128) (E := 111) (x := (.tmp 7)) (ix := (.const (.int .i64 (7)))) (ki := .i64) (iz := 7) (i := 4) (d := (some 20)) (k := 0) K rfl K K K K o8 rfl c7 c8 ?_
     exact ⟨rfl, _, Qa c, ⟨f, 0, rfl, rfl⟩⟩
   ·refine Owe.light K [0, 1] K (Qf ?_ (Qf ?_ Q8))
    ·rintro ρ' w' hs h ⟨ai6, o9⟩
     obtain ⟨p0, p2, p4, g5⟩ := h 0 20 K
     refine kM (kc g5 k0) fun c => ?_
     refine sC 111 20 p0 (p2 + Int.toNat 7 * (Qc .u32).sz) (.int .u32 a3) 21 (Qk (e := (Qc .u32)) (Qh (Qy (SP.get o9 (i := 4) rfl)) p4 c7 c8) i8 (j := 0) rfl) ?_
     exact eK c
    ·rintro ρ' w' hs h ⟨⟨ai7, -⟩, p5⟩
     obtain ⟨p6, p7, p8, g5⟩ := h 0 20 K
     refine kM (kc g5 k0) fun c => ?_
     refine sC 111 20 p6 (p7 + Int.toNat 7 * (Qc .u32).sz) (.int .u32 a3) 21 (Qk (e := (Qc .u32)) (Qh (Qy (SP.get p5 (i := 4) rfl)) p8 c7 c8) i8 (j := 0) rfl) ?_
     exact eK c
   ·refine oL 0 ?_
    ·rintro ρ' w' hs h ⟨ai8, p9⟩
     refine kM (kc (kS hs 7 (pt f 0)) k0) fun c => ?_
     refine Ql (e := (Qc .u32)) (l := p) (m := 8) (g := f) (T := 128) (E := 111) (x := (.tmp 7)) (ix := (.const (.int .i64 (4)))) (ki := .i64) (iz := 4) (i := 4) (d := (some 22)) (k := 2) K rfl K K K K p9 rfl i9 j0 ?_
     exact ⟨rfl, _, Qa c, ⟨f, 0, rfl, rfl⟩⟩
   ·refine oL 0 ?_
    ·rintro ρ' w' hs h ⟨ai9, q0⟩
     obtain ⟨q1, q2, q3, q4⟩ := h 2 22 K
     refine kM (kc q4 k0) fun c => ?_
     refine sC 111 22 q1 (q2 + Int.toNat 4 * (Qc .u32).sz) (.int .u32 g4) 23 (Qk (e := (Qc .u32)) (Qh (Qy (SP.get q0 (i := 4) rfl)) q3 i9 j0) o5 (j := 0) rfl) ?_
     exact eK c
   ·refine oH 0 1 ?_
    ·rintro ρ' w' hs h ⟨aj0, q5⟩
     refine kM (kc (kA h 3 23) k0) fun c => ?_
     refine cF 103 #[(.tmp 23), (.const (.int .i64 (6))), (.const (.int .i64 (11))), (.const (.int .i64 (25)))] #[111, 3, 3, 3] 24 Tryz.call103 (Ru  g4 6 11 25 w'  a4 o6) ?_
     rintro e aj1 ⟨rfl, j7⟩
     refine ⟨_, rfl, ?_⟩
     have q6 := SP.call q5 j7
     clear j7
     refine ⟨_, Qa c, rfl, ?_⟩
     exact (And.intro (And.intro rfl (trivial)) (q6))
   ·exact oV (hC (hA 1 21) (hC (hA 4 24) (h0))) (.int .u32 (IntKind.wrap .u32 (a3 + a4)))
   ·refine Owe.light K [0, 1] K (Qf ?_ (Qf ?_ Q8))
    ·rintro ρ' w' hs h ⟨aj2, q7⟩
     refine kM (kc (kS hs 7 (pt f 0)) k0) fun c => ?_
     refine Ql (e := (Qc .u32)) (l := p) (m := 8) (g := f) (T := 128) (E := 111) (x := (.tmp 7)) (ix := (.const (.int .i64 (4)))) (ki := .i64) (iz := 4) (i := 4) (d := (some 26)) (k := 6) K rfl K K K K q7 rfl c9 d0 ?_
     exact ⟨rfl, _, Qa c, ⟨f, 0, rfl, rfl⟩⟩
    ·rintro ρ' w' hs h ⟨⟨aj3, -⟩, q8⟩
     refine kM (kc (kS hs 7 (pt f 0)) k0) fun c => ?_
     refine Ql (e := (Qc .u32)) (l := p) (m := 8) (g := f) (T := 128) (E := 111) (x := (.tmp 7)) (ix := (.const (.int .i64 (4)))) (ki := .i64) (iz := 4) (i := 4) (d := (some 26)) (k := 6) K rfl K K K K q8 rfl c9 d0 ?_
     exact ⟨rfl, _, Qa c, ⟨f, 0, rfl, rfl⟩⟩
   ·refine Owe.light K [0, 1] K (Qf ?_ (Qf ?_ Q8))
    ·rintro ρ' w' hs h ⟨aj4, q9⟩
     obtain ⟨r0, r1, r2, g6⟩ := h 6 26 K
     refine kM (kc g6 k0) fun c => ?_
     refine sC 111 26 r0 (r1 + Int.toNat 4 * (Qc .u32).sz) (.int .u32 a0) 27 (Qk (e := (Qc .u32)) (Qh (Qy (SP.get q9 (i := 4) rfl)) r2 c9 d0) j1 (j := 0) rfl) ?_
     exact eK c
    ·rintro ρ' w' hs h ⟨⟨aj5, -⟩, r3⟩
     obtain ⟨r4, r5, r6, g6⟩ := h 6 26 K
     refine kM (kc g6 k0) fun c => ?_
     refine sC 111 26 r4 (r5 + Int.toNat 4 * (Qc .u32).sz) (.int .u32 a0) 27 (Qk (e := (Qc .u32)) (Qh (Qy (SP.get r3 (i := 4) rfl)) r6 c9 d0) j1 (j := 0) rfl) ?_
     exact eK c
   ·refine Owe.light K [0, 1] K (Qf ?_ (Qf ?_ Q8))
    ·rintro ρ' w' hs h ⟨aj6, r7⟩
     refine kM (kc (kS hs 7 (pt f 0)) k0) fun c => ?_
     refine Ql (e := (Qc .u32)) (l := p) (m := 8) (g := f) (T := 128) (E := 111) (x := (.tmp 7)) (ix := (.const (.int .i64 (5)))) (ki := .i64) (iz := 5) (i := 4) (d := (some 28)) (k := 8) K rfl K K K K r7 rfl d1 d2 ?_
     exact ⟨rfl, _, Qa c, ⟨f, 0, rfl, rfl⟩⟩
    ·rintro ρ' w' hs h ⟨⟨aj7, -⟩, r8⟩
     refine kM (kc (kS hs 7 (pt f 0)) k0) fun c => ?_
     refine Ql (e := (Qc .u32)) (l := p) (m := 8) (g := f) (T := 128) (E := 111) (x := (.tmp 7)) (ix := (.const (.int .i64 (5)))) (ki := .i64) (iz := 5) (i := 4) (d := (some 28)) (k := 8) K rfl K K K K r8 rfl d1 d2 ?_
     exact ⟨rfl, _, Qa c, ⟨f, 0, rfl, rfl⟩⟩
   ·refine Owe.light K [0, 1] K (Qf ?_ (Qf ?_ Q8))
    ·rintro ρ' w' hs h ⟨aj8, r9⟩
     obtain ⟨s0, s1, s2, g8⟩ := h 8 28 K
     refine kM (kc g8 k0) fun c => ?_
     refine sC 111 28 s0 (s1 + Int.toNat 5 * (Qc .u32).sz) (.int .u32 a1) 29 (Qk (e := (Qc .u32)) (Qh (Qy (SP.get r9 (i := 4) rfl)) s2 d1 d2) j2 (j := 0) rfl) ?_
     exact eK c
    ·rintro ρ' w' hs h ⟨⟨aj9, -⟩, s3⟩
     obtain ⟨s4, s5, s6, g8⟩ := h 8 28 K
     refine kM (kc g8 k0) fun c => ?_
     refine sC 111 28 s4 (s5 + Int.toNat 5 * (Qc .u32).sz) (.int .u32 a1) 29 (Qk (e := (Qc .u32)) (Qh (Qy (SP.get s3 (i := 4) rfl)) s6 d1 d2) j2 (j := 0) rfl) ?_
     exact eK c
   ·exact oV (hC (hA 7 27) (hC (hA 9 29) (h0))) (.int .u32 (Zt .u32 a0 a1))
   ·refine Owe.light K [0, 1] K (Qf ?_ (Qf ?_ Q8))
    ·rintro ρ' w' hs h ⟨ak0, s7⟩
     refine kM (kc (kS hs 7 (pt f 0)) k0) fun c => ?_
     refine Ql (e := (Qc .u32)) (l := p) (m := 8) (g := f) (T := 128) (E := 111) (x := (.tmp 7)) (ix := (.const (.int .i64 (4)))) (ki := .i64) (iz := 4) (i := 4) (d := (some 31)) (k := 11) K rfl K K K K s7 rfl d3 d4 ?_
     exact ⟨rfl, _, Qa c, ⟨f, 0, rfl, rfl⟩⟩
    ·rintro ρ' w' hs h ⟨⟨ak1, -⟩, s8⟩
     refine kM (kc (kS hs 7 (pt f 0)) k0) fun c => ?_
     refine Ql (e := (Qc .u32)) (l := p) (m := 8) (g := f) (T := 128) (E := 111) (x := (.tmp 7)) (ix := (.const (.int .i64 (4)))) (ki := .i64) (iz := 4) (i := 4) (d := (some 31)) (k := 11) K rfl K K K K s8 rfl d3 d4 ?_
     exact ⟨rfl, _, Qa c, ⟨f, 0, rfl, rfl⟩⟩
   ·refine Owe.light K [0, 1] K (Qf ?_ (Qf ?_ Q8))
    ·rintro ρ' w' hs h ⟨ak2, s9⟩
     obtain ⟨t0, t1, t2, g9⟩ := h 11 31 K
     refine kM (kc g9 k0) fun c => ?_
     refine sC 111 31 t0 (t1 + Int.toNat 4 * (Qc .u32).sz) (.int .u32 u) 32 (Qk (e := (Qc .u32)) (Qh (Qy (SP.get s9 (i := 4) rfl)) t2 d3 d4) j3 (j := 0) rfl) ?_
     exact eK c
    ·rintro ρ' w' hs h ⟨⟨ak3, -⟩, t3⟩
     obtain ⟨t4, t5, t6, g9⟩ := h 11 31 K
     refine kM (kc g9 k0) fun c => ?_
     refine sC 111 31 t4 (t5 + Int.toNat 4 * (Qc .u32).sz) (.int .u32 u) 32 (Qk (e := (Qc .u32)) (Qh (Qy (SP.get t3 (i := 4) rfl)) t6 d3 d4) j3 (j := 0) rfl) ?_
     exact eK c
   ·exact oV (hC (hA 12 32) (h0)) (.int .u32 (V7 .u32 (IntKind.max .u32) u))
   ·refine Owe.light K [0, 1] K (Qf ?_ (Qf ?_ Q8))
    ·rintro ρ' w' hs h ⟨ak4, t7⟩
     refine kM (kc (kS hs 7 (pt f 0)) k0) fun c => ?_
     refine Ql (e := (Qc .u32)) (l := p) (m := 8) (g := f) (T := 128) (E := 111) (x := (.tmp 7)) (ix := (.const (.int .i64 (6)))) (ki := .i64) (iz := 6) (i := 4) (d := (some 34)) (k := 14) K rfl K K K K t7 rfl d5 d6 ?_
     exact ⟨rfl, _, Qa c, ⟨f, 0, rfl, rfl⟩⟩
    ·rintro ρ' w' hs h ⟨⟨ak5, -⟩, t8⟩
     refine kM (kc (kS hs 7 (pt f 0)) k0) fun c => ?_
     refine Ql (e := (Qc .u32)) (l := p) (m := 8) (g := f) (T := 128) (E := 111) (x := (.tmp 7)) (ix := (.const (.int .i64 (6)))) (ki := .i64) (iz := 6) (i := 4) (d := (some 34)) (k := 14) K rfl K K K K t8 rfl d5 d6 ?_
     exact ⟨rfl, _, Qa c, ⟨f, 0, rfl, rfl⟩⟩
   ·refine Owe.light K [0, 1] K (Qf ?_ (Qf ?_ Q8))
    ·rintro ρ' w' hs h ⟨ak6, t9⟩
     obtain ⟨u0, u1, u2, h1⟩ := h 14 34 K
     refine kM (kc h1 k0) fun c => ?_
     refine sC 111 34 u0 (u1 + Int.toNat 6 * (Qc .u32).sz) (.int .u32 a2) 35 (Qk (e := (Qc .u32)) (Qh (Qy (SP.get t9 (i := 4) rfl)) u2 d5 d6) j4 (j := 0) rfl) ?_
     exact eK c
    ·rintro ρ' w' hs h ⟨⟨ak7, -⟩, u3⟩
     obtain ⟨u4, u5, u6, h1⟩ := h 14 34 K
     refine kM (kc h1 k0) fun c => ?_
     refine sC 111 34 u4 (u5 + Int.toNat 6 * (Qc .u32).sz) (.int .u32 a2) 35 (Qk (e := (Qc .u32)) (Qh (Qy (SP.get u3 (i := 4) rfl)) u6 d5 d6) j4 (j := 0) rfl) ?_
     exact eK c
   ·exact oV (hC (hA 13 33) (hC (hA 15 35) (h0))) (.int .u32 (Zt .u32 (V7 .u32 (IntKind.max .u32) u) a2))
   ·exact oV (hC (hA 10 30) (hC (hA 16 36) (h0))) (.int .u32 (V7 .u32 (Zt .u32 a0 a1) (Zt .u32 (V7 .u32 (IntKind.max .u32) u) a2)))
   ·exact oV (hC (hA 5 25) (hC (hA 17 37) (h0))) (.int .u32 (IntKind.wrap .u32 ((IntKind.wrap .u32 (a3 + a4)) + (V7 .u32 (Zt .u32 a0 a1) (Zt .u32 (V7 .u32 (IntKind.max .u32) u) a2)))))
   ·exact oV (hC (hS 8 (.int .i64 s)) (h0)) (.int .i64 s)
   ·refine Owe.light K [0, 1] K (Qf ?_ (Qf ?_ Q8))
    ·rintro ρ' w' hs h ⟨ak8, u7⟩
     refine kM (kc (kS hs 5 (pt b4 0)) (kc (kA h 19 39) k0)) fun c => ?_
     refine Ql (e := (Qc .u32)) (l := b8) (m := 64) (g := b4) (T := 135) (E := 111) (x := (.tmp 5)) (ix := (.tmp 39)) (ki := .i64) (iz := s) (i := 2) (d := (some 40)) (k := 20) K rfl K K K K u7 rfl d7 d8 ?_
     exact ⟨rfl, _, Qa c, ⟨b4, 0, rfl, rfl⟩⟩
    ·rintro ρ' w' hs h ⟨⟨ak9, -⟩, u8⟩
     refine kM (kc (kS hs 5 (pt b4 0)) (kc (kA h 19 39) k0)) fun c => ?_
     refine Ql (e := (Qc .u32)) (l := b8) (m := 64) (g := b4) (T := 135) (E := 111) (x := (.tmp 5)) (ix := (.tmp 39)) (ki := .i64) (iz := s) (i := 2) (d := (some 40)) (k := 20) K rfl K K K K u8 rfl d7 d8 ?_
     exact ⟨rfl, _, Qa c, ⟨b4, 0, rfl, rfl⟩⟩
   ·refine Owe.light K [0, 1] K (Qf ?_ (Qf ?_ Q8))
    ·rintro ρ' w' hs h ⟨al0, u9⟩
     obtain ⟨v0, v1, v2, h2⟩ := h 20 40 K
     refine kM (kc h2 k0) fun c => ?_
     refine sC 111 40 v0 (v1 + Int.toNat s * (Qc .u32).sz) (.int .u32 a5) 41 (Qk (e := (Qc .u32)) (Qh (Qy (SP.get u9 (i := 2) rfl)) v2 d7 d8) j5 (j := 0) rfl) ?_
     exact eK c
    ·rintro ρ' w' hs h ⟨⟨al1, -⟩, v3⟩
     obtain ⟨v4, v5, v6, h2⟩ := h 20 40 K
     refine kM (kc h2 k0) fun c => ?_
     refine sC 111 40 v4 (v5 + Int.toNat s * (Qc .u32).sz) (.int .u32 a5) 41 (Qk (e := (Qc .u32)) (Qh (Qy (SP.get v3 (i := 2) rfl)) v6 d7 d8) j5 (j := 0) rfl) ?_
     exact eK c
   ·exact oV (hC (hA 18 38) (hC (hA 21 41) (h0))) (.int .u32 (IntKind.wrap .u32 ((IntKind.wrap .u32 ((IntKind.wrap .u32 (a3 + a4)) + (V7 .u32 (Zt .u32 a0 a1) (Zt .u32 (V7 .u32 (IntKind.max .u32) u) a2)))) + a5)))
   ·exact oV (hC (hS 8 (.int .i64 s)) (h0)) (.int .i64 s)
   ·refine Owe.light K [0, 1] K (Qf ?_ (Qf ?_ Q8))
    ·rintro ρ' w' hs h ⟨al2, v7⟩
     refine kM (kc (kS hs 6 (pt b5 0)) (kc (kA h 23 43) k0)) fun c => ?_
     refine Ql (e := (Qc .u32)) (l := b9) (m := 64) (g := b5) (T := 135) (E := 111) (x := (.tmp 6)) (ix := (.tmp 43)) (ki := .i64) (iz := s) (i := 3) (d := (some 44)) (k := 24) K rfl K K K K v7 rfl d9 e0 ?_
     exact ⟨rfl, _, Qa c, ⟨b5, 0, rfl, rfl⟩⟩
    ·rintro ρ' w' hs h ⟨⟨al3, -⟩, v8⟩
     refine kM (kc (kS hs 6 (pt b5 0)) (kc (kA h 23 43) k0)) fun c => ?_
     refine Ql (e := (Qc .u32)) (l := b9) (m := 64) (g := b5) (T := 135) (E := 111) (x := (.tmp 6)) (ix := (.tmp 43)) (ki := .i64) (iz := s) (i := 3) (d := (some 44)) (k := 24) K rfl K K K K v8 rfl d9 e0 ?_
     exact ⟨rfl, _, Qa c, ⟨b5, 0, rfl, rfl⟩⟩
   ·refine Owe.light K [0, 1] K (Qf ?_ (Qf ?_ Q8))
    ·rintro ρ' w' hs h ⟨al4, v9⟩
     obtain ⟨w1, w2, w3, h3⟩ := h 24 44 K
     refine kM (kc h3 k0) fun c => ?_
     refine sC 111 44 w1 (w2 + Int.toNat s * (Qc .u32).sz) (.int .u32 a6) 45 (Qk (e := (Qc .u32)) (Qh (Qy (SP.get v9 (i := 3) rfl)) w3 d9 e0) j6 (j := 0) rfl) ?_
     exact eK c
    ·rintro ρ' w' hs h ⟨⟨al5, -⟩, w4⟩
     obtain ⟨w5, w6, w7, h3⟩ := h 24 44 K
     refine kM (kc h3 k0) fun c => ?_
     refine sC 111 44 w5 (w6 + Int.toNat s * (Qc .u32).sz) (.int .u32 a6) 45 (Qk (e := (Qc .u32)) (Qh (Qy (SP.get w4 (i := 3) rfl)) w7 d9 e0) j6 (j := 0) rfl) ?_
     exact eK c
   ·exact oV (hC (hA 22 42) (hC (hA 25 45) (h0))) (.int .u32 (IntKind.wrap .u32 ((IntKind.wrap .u32 ((IntKind.wrap .u32 ((IntKind.wrap .u32 (a3 + a4)) + (V7 .u32 (Zt .u32 a0 a1) (Zt .u32 (V7 .u32 (IntKind.max .u32) u) a2)))) + a5)) + a6)))
   ·exact oV (hC (hA 26 46) (h0)) (.int .u32 (IntKind.wrap .u32 ((IntKind.wrap .u32 ((IntKind.wrap .u32 ((IntKind.wrap .u32 (a3 + a4)) + (V7 .u32 (Zt .u32 a0 a1) (Zt .u32 (V7 .u32 (IntKind.max .u32) u) a2)))) + a5)) + a6)))
   ·rintro ρ' w' hs hf ⟨⟨al6, -⟩, j8⟩
    refine Q3 [(2, (pt g7 0)), (4, (pt b6 0)), (5, (pt b4 0)), (6, (pt b5 0)), (7, (pt f 0)), (8, (.int .i64 s)), (9, (.int .u32 (IntKind.wrap .u32 ((IntKind.wrap .u32 ((IntKind.wrap .u32 ((IntKind.wrap .u32 (a3 + a4)) + (V7 .u32 (Zt .u32 a0 a1) (Zt .u32 (V7 .u32 (IntKind.max .u32) u) a2)))) + a5)) + a6))))] ⟨(hs 2 K).trans K, (hs 4 K).trans K, (hs 5 K).trans K, (hs 6 K).trans K, (hs 7 K).trans K, (hs 8 K).trans K, hf 27 9 K, trivial⟩ ?_
    obtain ⟨al7, w9⟩ : ∃ x, w' = x := ⟨_, rfl⟩
    rw [w9] at j8 ⊢
    refine aQ ?_
    obtain ⟨h4, j9, k1, x0, H⟩ := Qo H
    obtain ⟨c0, x1, H⟩ := Qb H
    obtain ⟨a7, e1, e2, k2, H⟩ := Qo H
    obtain ⟨a8, e3, e4, k3, H⟩ := Qo H
    obtain ⟨a9, e5, e6, k4, H⟩ := Qo H
    obtain ⟨b0, e7, e8, k5, H⟩ := Qo H
    obtain ⟨b1, e9, f0, k6, H⟩ := Qo H
    obtain ⟨b2, f1, f2, k7, H⟩ := Qo H
    refine aG [Vr (some ⟨f, 0, none⟩) (Qc .u32).sz 0, GEq (.int .u32 h4), GEq (.int .u32 c0), Vr (some ⟨f, 0, none⟩) (Qc .u32).sz 0, GEq (.int .u32 a7), Vr (some ⟨f, 0, none⟩) (Qc .u32).sz 1, GEq (.int .u32 a8), GEq (.int .u32 (Zt .u32 a7 a8)), Vr (some ⟨f, 0, none⟩) (Qc .u32).sz 0, GEq (.int .u32 a9), Vr (some ⟨f, 0, none⟩) (Qc .u32).sz 2, GEq (.int .u32 b0), GEq (.int .u32 (Zt .u32 a9 b0)), GEq (.int .u32 (V7 .u32 (Zt .u32 a7 a8) (Zt .u32 a9 b0))), Vr (some ⟨f, 0, none⟩) (Qc .u32).sz 1, GEq (.int .u32 b1), Vr (some ⟨f, 0, none⟩) (Qc .u32).sz 2, GEq (.int .u32 b2), GEq (.int .u32 (Zt .u32 b1 b2)), GEq (.int .u32 (V7 .u32 (V7 .u32 (Zt .u32 a7 a8) (Zt .u32 a9 b0)) (Zt .u32 b1 b2))), GEq (.int .u32 (IntKind.wrap .u32 (c0 + (V7 .u32 (V7 .u32 (Zt .u32 a7 a8) (Zt .u32 a9 b0)) (Zt .u32 b1 b2))))), GEq (.int .u32 (IntKind.wrap .u32 (c0 + (V7 .u32 (V7 .u32 (Zt .u32 a7 a8) (Zt .u32 a9 b0)) (Zt .u32 b1 b2)))))] [2] (tG [] w0 [Vk 128 (Qc .u32) g7 8 p1, Vk 128 (Qc .u32) b6 8 (List.replicate 8 0), Vk 135 (Qc .u32) b4 64 b8, Vk 135 (Qc .u32) b5 64 b9, Vk 128 (Qc .u32) f 8 p] [([], []), ([2], [(.int .u32 c0)])]) 22 1 ⟨trivial, SP.drew j8⟩ ?_ ?_
    iterate 22 refine And.intro ?_ ?_
    exact trivial
    ·refine oL 0 ?_
     ·rintro ρ' w' hs h ⟨al8, x2⟩
      refine kM (kc (kS hs 7 (pt f 0)) k0) fun c => ?_
      refine Ql (e := (Qc .u32)) (l := p) (m := 8) (g := f) (T := 128) (E := 111) (x := (.tmp 7)) (ix := (.const (.int .i64 (0)))) (ki := .i64) (iz := 0) (i := 4) (d := (some 47)) (k := 0) K rfl K K K K x2 rfl j9 k1 ?_
      exact ⟨rfl, _, Qa c, ⟨f, 0, rfl, rfl⟩⟩
    ·refine oL 0 ?_
     ·rintro ρ' w' hs h ⟨al9, x3⟩
      obtain ⟨x4, x5, x6, x7⟩ := h 0 47 K
      refine kM (kc x7 k0) fun c => ?_
      refine sC 111 47 x4 (x5 + Int.toNat 0 * (Qc .u32).sz) (.int .u32 h4) 48 (Qk (e := (Qc .u32)) (Qh (Qy (SP.get x3 (i := 4) rfl)) x6 j9 k1) x0 (j := 0) rfl) ?_
      exact eK c
    ·refine oH 0 1 ?_
     ·rintro ρ' w' hs h ⟨am0, x8⟩
      refine kM (kc (kA h 1 48) k0) fun c => ?_
      refine cF 103 #[(.tmp 48), (.const (.int .i64 (2))), (.const (.int .i64 (13))), (.const (.int .i64 (22)))] #[111, 3, 3, 3] 49 Tryz.call103 (Ru  h4 2 13 22 w'  c0 x1) ?_
      rintro e am1 ⟨rfl, k8⟩
      refine ⟨_, rfl, ?_⟩
      have x9 := SP.call x8 k8
      clear k8
      refine ⟨_, Qa c, rfl, ?_⟩
      exact (And.intro (And.intro rfl (trivial)) (x9))
    ·refine Owe.light K [0, 1] K (Qf ?_ (Qf ?_ Q8))
     ·rintro ρ' w' hs h ⟨am2, y0⟩
      refine kM (kc (kS hs 7 (pt f 0)) k0) fun c => ?_
      refine Ql (e := (Qc .u32)) (l := p) (m := 8) (g := f) (T := 128) (E := 111) (x := (.tmp 7)) (ix := (.const (.int .i64 (0)))) (ki := .i64) (iz := 0) (i := 4) (d := (some 50)) (k := 3) K rfl K K K K y0 rfl e1 e2 ?_
      exact ⟨rfl, _, Qa c, ⟨f, 0, rfl, rfl⟩⟩
     ·rintro ρ' w' hs h ⟨⟨am3, -⟩, y1⟩
      refine kM (kc (kS hs 7 (pt f 0)) k0) fun c => ?_
      refine Ql (e := (Qc .u32)) (l := p) (m := 8) (g := f) (T := 128) (E := 111) (x := (.tmp 7)) (ix := (.const (.int .i64 (0)))) (ki := .i64) (iz := 0) (i := 4) (d := (some 50)) (k := 3) K rfl K K K K y1 rfl e1 e2 ?_
      exact ⟨rfl, _, Qa c, ⟨f, 0, rfl, rfl⟩⟩
    ·refine Owe.light K [0, 1] K (Qf ?_ (Qf ?_ Q8))
     ·rintro ρ' w' hs h ⟨am4, y2⟩
      obtain ⟨y3, y4, y5, h5⟩ := h 3 50 K
      refine kM (kc h5 k0) fun c => ?_
      refine sC 111 50 y3 (y4 + Int.toNat 0 * (Qc .u32).sz) (.int .u32 a7) 51 (Qk (e := (Qc .u32)) (Qh (Qy (SP.get y2 (i := 4) rfl)) y5 e1 e2) k2 (j := 0) rfl) ?_
      exact eK c
     ·rintro ρ' w' hs h ⟨⟨am5, -⟩, y6⟩
      obtain ⟨y7, y8, y9, h5⟩ := h 3 50 K
      refine kM (kc h5 k0) fun c => ?_
      refine sC 111 50 y7 (y8 + Int.toNat 0 * (Qc .u32).sz) (.int .u32 a7) 51 (Qk (e := (Qc .u32)) (Qh (Qy (SP.get y6 (i := 4) rfl)) y9 e1 e2) k2 (j := 0) rfl) ?_
      exact eK c
    ·refine Owe.light K [0, 1] K (Qf ?_ (Qf ?_ Q8))
     ·rintro ρ' w' hs h ⟨am6, z0⟩
      refine kM (kc (kS hs 7 (pt f 0)) k0) fun c => ?_
      refine Ql (e := (Qc .u32)) (l := p) (m := 8) (g := f) (T := 128) (E := 111) (x := (.tmp 7)) (ix := (.const (.int .i64 (1)))) (ki := .i64) (iz := 1) (i := 4) (d := (some 52)) (k := 5) K rfl K K K K z0 rfl e3 e4 ?_
      exact ⟨rfl, _, Qa c, ⟨f, 0, rfl, rfl⟩⟩
     ·rintro ρ' w' hs h ⟨⟨am7, -⟩, z1⟩
      refine kM (kc (kS hs 7 (pt f 0)) k0) fun c => ?_
      refine Ql (e := (Qc .u32)) (l := p) (m := 8) (g := f) (T := 128) (E := 111) (x := (.tmp 7)) (ix := (.const (.int .i64 (1)))) (ki := .i64) (iz := 1) (i := 4) (d := (some 52)) (k := 5) K rfl K K K K z1 rfl e3 e4 ?_
      exact ⟨rfl, _, Qa c, ⟨f, 0, rfl, rfl⟩⟩
    ·refine Owe.light K [0, 1] K (Qf ?_ (Qf ?_ Q8))
     ·rintro ρ' w' hs h ⟨am8, z2⟩
      obtain ⟨z3, z4, z5, h6⟩ := h 5 52 K
      refine kM (kc h6 k0) fun c => ?_
      refine sC 111 52 z3 (z4 + Int.toNat 1 * (Qc .u32).sz) (.int .u32 a8) 53 (Qk (e := (Qc .u32)) (Qh (Qy (SP.get z2 (i := 4) rfl)) z5 e3 e4) k3 (j := 0) rfl) ?_
      exact eK c
     ·rintro ρ' w' hs h ⟨⟨am9, -⟩, z6⟩
      obtain ⟨z7, z8, z9, h6⟩ := h 5 52 K
      refine kM (kc h6 k0) fun c => ?_
      refine sC 111 52 z7 (z8 + Int.toNat 1 * (Qc .u32).sz) (.int .u32 a8) 53 (Qk (e := (Qc .u32)) (Qh (Qy (SP.get z6 (i := 4) rfl)) z9 e3 e4) k3 (j := 0) rfl) ?_
      exact eK c
    ·exact oV (hC (hA 4 51) (hC (hA 6 53) (h0))) (.int .u32 (Zt .u32 a7 a8))
    ·refine Owe.light K [0, 1] K (Qf ?_ (Qf ?_ Q8))
     ·rintro ρ' w' hs h ⟨an0, aa0⟩
      refine kM (kc (kS hs 7 (pt f 0)) k0) fun c => ?_
      refine Ql (e := (Qc .u32)) (l := p) (m := 8) (g := f) (T := 128) (E := 111) (x := (.tmp 7)) (ix := (.const (.int .i64 (0)))) (ki := .i64) (iz := 0) (i := 4) (d := (some 55)) (k := 8) K rfl K K K K aa0 rfl e5 e6 ?_
      exact ⟨rfl, _, Qa c, ⟨f, 0, rfl, rfl⟩⟩
     ·rintro ρ' w' hs h ⟨⟨an1, -⟩, aa1⟩
      refine kM (kc (kS hs 7 (pt f 0)) k0) fun c => ?_
      refine Ql (e := (Qc .u32)) (l := p) (m := 8) (g := f) (T := 128) (E := 111) (x := (.tmp 7)) (ix := (.const (.int .i64 (0)))) (ki := .i64) (iz := 0) (i := 4) (d := (some 55)) (k := 8) K rfl K K K K aa1 rfl e5 e6 ?_
      exact ⟨rfl, _, Qa c, ⟨f, 0, rfl, rfl⟩⟩
    ·refine Owe.light K [0, 1] K (Qf ?_ (Qf ?_ Q8))
     ·rintro ρ' w' hs h ⟨an2, aa2⟩
      obtain ⟨aa3, aa4, aa5, h7⟩ := h 8 55 K
      refine kM (kc h7 k0) fun c => ?_
      refine sC 111 55 aa3 (aa4 + Int.toNat 0 * (Qc .u32).sz) (.int .u32 a9) 56 (Qk (e := (Qc .u32)) (Qh (Qy (SP.get aa2 (i := 4) rfl)) aa5 e5 e6) k4 (j := 0) rfl) ?_
      exact eK c
     ·rintro ρ' w' hs h ⟨⟨an3, -⟩, aa6⟩
      obtain ⟨aa7, aa8, aa9, h7⟩ := h 8 55 K
      refine kM (kc h7 k0) fun c => ?_
      refine sC 111 55 aa7 (aa8 + Int.toNat 0 * (Qc .u32).sz) (.int .u32 a9) 56 (Qk (e := (Qc .u32)) (Qh (Qy (SP.get aa6 (i := 4) rfl)) aa9 e5 e6) k4 (j := 0) rfl) ?_
      exact eK c
    ·refine Owe.light K [0, 1] K (Qf ?_ (Qf ?_ Q8))
     ·rintro ρ' w' hs h ⟨an4, ab0⟩
      refine kM (kc (kS hs 7 (pt f 0)) k0) fun c => ?_
      refine Ql (e := (Qc .u32)) (l := p) (m := 8) (g := f) (T := 128) (E := 111) (x := (.tmp 7)) (ix := (.const (.int .i64 (2)))) (ki := .i64) (iz := 2) (i := 4) (d := (some 57)) (k := 10) K rfl K K K K ab0 rfl e7 e8 ?_
      exact ⟨rfl, _, Qa c, ⟨f, 0, rfl, rfl⟩⟩
     ·rintro ρ' w' hs h ⟨⟨an5, -⟩, ab1⟩
      refine kM (kc (kS hs 7 (pt f 0)) k0) fun c => ?_
      refine Ql (e := (Qc .u32)) (l := p) (m := 8) (g := f) (T := 128) (E := 111) (x := (.tmp 7)) (ix := (.const (.int .i64 (2)))) (ki := .i64) (iz := 2) (i := 4) (d := (some 57)) (k := 10) K rfl K K K K ab1 rfl e7 e8 ?_
      exact ⟨rfl, _, Qa c, ⟨f, 0, rfl, rfl⟩⟩
    ·refine Owe.light K [0, 1] K (Qf ?_ (Qf ?_ Q8))
     ·rintro ρ' w' hs h ⟨an6, ab2⟩
      obtain ⟨ab3, ab4, ab5, h8⟩ := h 10 57 K
      refine kM (kc h8 k0) fun c => ?_
      refine sC 111 57 ab3 (ab4 + Int.toNat 2 * (Qc .u32).sz) (.int .u32 b0) 58 (Qk (e := (Qc .u32)) (Qh (Qy (SP.get ab2 (i := 4) rfl)) ab5 e7 e8) k5 (j := 0) rfl) ?_
      exact eK c
     ·rintro ρ' w' hs h ⟨⟨an7, -⟩, ab6⟩
      obtain ⟨ab7, ab8, ab9, h8⟩ := h 10 57 K
      refine kM (kc h8 k0) fun c => ?_
      refine sC 111 57 ab7 (ab8 + Int.toNat 2 * (Qc .u32).sz) (.int .u32 b0) 58 (Qk (e := (Qc .u32)) (Qh (Qy (SP.get ab6 (i := 4) rfl)) ab9 e7 e8) k5 (j := 0) rfl) ?_
      exact eK c
    ·exact oV (hC (hA 9 56) (hC (hA 11 58) (h0))) (.int .u32 (Zt .u32 a9 b0))
    ·exact oV (hC (hA 7 54) (hC (hA 12 59) (h0))) (.int .u32 (V7 .u32 (Zt .u32 a7 a8) (Zt .u32 a9 b0)))
    ·refine Owe.light K [0, 1] K (Qf ?_ (Qf ?_ Q8))
     ·rintro ρ' w' hs h ⟨an8, ac0⟩
      refine kM (kc (kS hs 7 (pt f 0)) k0) fun c => ?_
      refine Ql (e := (Qc .u32)) (l := p) (m := 8) (g := f) (T := 128) (E := 111) (x := (.tmp 7)) (ix := (.const (.int .i64 (1)))) (ki := .i64) (iz := 1) (i := 4) (d := (some 61)) (k := 14) K rfl K K K K ac0 rfl e9 f0 ?_
      exact ⟨rfl, _, Qa c, ⟨f, 0, rfl, rfl⟩⟩
     ·rintro ρ' w' hs h ⟨⟨an9, -⟩, ac1⟩
      refine kM (kc (kS hs 7 (pt f 0)) k0) fun c => ?_
      refine Ql (e := (Qc .u32)) (l := p) (m := 8) (g := f) (T := 128) (E := 111) (x := (.tmp 7)) (ix := (.const (.int .i64 (1)))) (ki := .i64) (iz := 1) (i := 4) (d := (some 61)) (k := 14) K rfl K K K K ac1 rfl e9 f0 ?_
      exact ⟨rfl, _, Qa c, ⟨f, 0, rfl, rfl⟩⟩
    ·refine Owe.light K [0, 1] K (Qf ?_ (Qf ?_ Q8))
     ·rintro ρ' w' hs h ⟨ao0, ac2⟩
      obtain ⟨ac3, ac4, ac5, h9⟩ := h 14 61 K
      refine kM (kc h9 k0) fun c => ?_
      refine sC 111 61 ac3 (ac4 + Int.toNat 1 * (Qc .u32).sz) (.int .u32 b1) 62 (Qk (e := (Qc .u32)) (Qh (Qy (SP.get ac2 (i := 4) rfl)) ac5 e9 f0) k6 (j := 0) rfl) ?_
      exact eK c
     ·rintro ρ' w' hs h ⟨⟨ao1, -⟩, ac6⟩
      obtain ⟨ac7, ac8, ac9, h9⟩ := h 14 61 K
      refine kM (kc h9 k0) fun c => ?_
      refine sC 111 61 ac7 (ac8 + Int.toNat 1 * (Qc .u32).sz) (.int .u32 b1) 62 (Qk (e := (Qc .u32)) (Qh (Qy (SP.get ac6 (i := 4) rfl)) ac9 e9 f0) k6 (j := 0) rfl) ?_
      exact eK c
    ·refine Owe.light K [0, 1] K (Qf ?_ (Qf ?_ Q8))
     ·rintro ρ' w' hs h ⟨ao2, ad0⟩
      refine kM (kc (kS hs 7 (pt f 0)) k0) fun c => ?_
      refine Ql (e := (Qc .u32)) (l := p) (m := 8) (g := f) (T := 128) (E := 111) (x := (.tmp 7)) (ix := (.const (.int .i64 (2)))) (ki := .i64) (iz := 2) (i := 4) (d := (some 63)) (k := 16) K rfl K K K K ad0 rfl f1 f2 ?_
      exact ⟨rfl, _, Qa c, ⟨f, 0, rfl, rfl⟩⟩
     ·rintro ρ' w' hs h ⟨⟨ao3, -⟩, ad1⟩
      refine kM (kc (kS hs 7 (pt f 0)) k0) fun c => ?_
      refine Ql (e := (Qc .u32)) (l := p) (m := 8) (g := f) (T := 128) (E := 111) (x := (.tmp 7)) (ix := (.const (.int .i64 (2)))) (ki := .i64) (iz := 2) (i := 4) (d := (some 63)) (k := 16) K rfl K K K K ad1 rfl f1 f2 ?_
      exact ⟨rfl, _, Qa c, ⟨f, 0, rfl, rfl⟩⟩
    ·refine Owe.light K [0, 1] K (Qf ?_ (Qf ?_ Q8))
     ·rintro ρ' w' hs h ⟨ao4, ad2⟩
      obtain ⟨ad3, ad4, ad5, i0⟩ := h 16 63 K
      refine kM (kc i0 k0) fun c => ?_
      refine sC 111 63 ad3 (ad4 + Int.toNat 2 * (Qc .u32).sz) (.int .u32 b2) 64 (Qk (e := (Qc .u32)) (Qh (Qy (SP.get ad2 (i := 4) rfl)) ad5 f1 f2) k7 (j := 0) rfl) ?_
      exact eK c
     ·rintro ρ' w' hs h ⟨⟨ao5, -⟩, ad6⟩
      obtain ⟨ad7, ad8, ad9, i0⟩ := h 16 63 K
      refine kM (kc i0 k0) fun c => ?_
      refine sC 111 63 ad7 (ad8 + Int.toNat 2 * (Qc .u32).sz) (.int .u32 b2) 64 (Qk (e := (Qc .u32)) (Qh (Qy (SP.get ad6 (i := 4) rfl)) ad9 f1 f2) k7 (j := 0) rfl) ?_
      exact eK c
    ·exact oV (hC (hA 15 62) (hC (hA 17 64) (h0))) (.int .u32 (Zt .u32 b1 b2))
    ·exact oV (hC (hA 13 60) (hC (hA 18 65) (h0))) (.int .u32 (V7 .u32 (V7 .u32 (Zt .u32 a7 a8) (Zt .u32 a9 b0)) (Zt .u32 b1 b2)))
    ·exact oV (hC (hA 2 49) (hC (hA 19 66) (h0))) (.int .u32 (IntKind.wrap .u32 (c0 + (V7 .u32 (V7 .u32 (Zt .u32 a7 a8) (Zt .u32 a9 b0)) (Zt .u32 b1 b2)))))
    ·exact oV (hC (hA 20 67) (h0)) (.int .u32 (IntKind.wrap .u32 (c0 + (V7 .u32 (V7 .u32 (Zt .u32 a7 a8) (Zt .u32 a9 b0)) (Zt .u32 b1 b2)))))
    ·rintro ρ' w' hs hf ⟨⟨ao6, -⟩, b3⟩
     refine Q3 [(2, (pt g7 0)), (4, (pt b6 0)), (5, (pt b4 0)), (6, (pt b5 0)), (7, (pt f 0)), (8, (.int .i64 s)), (9, (.int .u32 (IntKind.wrap .u32 ((IntKind.wrap .u32 ((IntKind.wrap .u32 ((IntKind.wrap .u32 (a3 + a4)) + (V7 .u32 (Zt .u32 a0 a1) (Zt .u32 (V7 .u32 (IntKind.max .u32) u) a2)))) + a5)) + a6)))), (10, (.int .u32 (IntKind.wrap .u32 (c0 + (V7 .u32 (V7 .u32 (Zt .u32 a7 a8) (Zt .u32 a9 b0)) (Zt .u32 b1 b2))))))] ⟨(hs 2 K).trans K, (hs 4 K).trans K, (hs 5 K).trans K, (hs 6 K).trans K, (hs 7 K).trans K, (hs 8 K).trans K, (hs 9 K).trans K, hf 21 10 K, trivial⟩ ?_
     obtain ⟨ao7, ae0⟩ : ∃ x, w' = x := ⟨_, rfl⟩
     rw [ae0] at b3 ⊢
     refine aR ?_
     refine iR 3 3 [(68, (.int .u32 (IntKind.wrap .u32 ((IntKind.wrap .u32 ((IntKind.wrap .u32 ((IntKind.wrap .u32 (a3 + a4)) + (V7 .u32 (Zt .u32 a0 a1) (Zt .u32 (V7 .u32 (IntKind.max .u32) u) a2)))) + a5)) + a6)))), (69, (.int .u32 (IntKind.wrap .u32 (c0 + (V7 .u32 (V7 .u32 (Zt .u32 a7 a8) (Zt .u32 a9 b0)) (Zt .u32 b1 b2)))))), (70, (.int .u32 (IntKind.wrap .u32 ((IntKind.wrap .u32 ((IntKind.wrap .u32 ((IntKind.wrap .u32 ((IntKind.wrap .u32 (a3 + a4)) + (V7 .u32 (Zt .u32 a0 a1) (Zt .u32 (V7 .u32 (IntKind.max .u32) u) a2)))) + a5)) + a6)) + (IntKind.wrap .u32 (c0 + (V7 .u32 (V7 .u32 (Zt .u32 a7 a8) (Zt .u32 a9 b0)) (Zt .u32 b1 b2))))))))] ?_
     obtain ⟨f3, k9, l0, ae1, H⟩ := Qo H
     refine iS 4 ?_
     refine Ql (e := (Qc .u32)) (l := p) (m := 8) (g := f) (T := 128) (E := 111) (x := (.tmp 7)) (ix := (.const (.int .i64 (0)))) (ki := .i64) (iz := 0) (i := 4) (d := (some 71)) (k := 3) K rfl K K K K b3 rfl k9 l0 ?_
     refine iS 5 ?_
     refine sC 111 71 f (0 + Int.toNat 0 * (Qc .u32).sz) (.int .u32 f3) 72 (Qk (e := (Qc .u32)) (Qh (Qy (SP.get b3 (i := 4) rfl)) rfl k9 l0) ae1 (j := 0) rfl) ?_
     obtain ⟨f6, l1, l2, ae2, H⟩ := Qo H
     refine iS 6 ?_
     refine Ql (e := (Qc .u32)) (l := p) (m := 8) (g := f) (T := 128) (E := 111) (x := (.tmp 7)) (ix := (.const (.int .i64 (1)))) (ki := .i64) (iz := 1) (i := 4) (d := (some 73)) (k := 5) K rfl K K K K b3 rfl l1 l2 ?_
     refine iS 7 ?_
     refine sC 111 73 f (0 + Int.toNat 1 * (Qc .u32).sz) (.int .u32 f6) 74 (Qk (e := (Qc .u32)) (Qh (Qy (SP.get b3 (i := 4) rfl)) rfl l1 l2) ae2 (j := 0) rfl) ?_
     obtain ⟨f7, l3, l4, ae3, H⟩ := Qo H
     refine iS 8 ?_
     refine Ql (e := (Qc .u32)) (l := p) (m := 8) (g := f) (T := 128) (E := 111) (x := (.tmp 7)) (ix := (.const (.int .i64 (2)))) (ki := .i64) (iz := 2) (i := 4) (d := (some 75)) (k := 7) K rfl K K K K b3 rfl l3 l4 ?_
     refine iS 9 ?_
     refine sC 111 75 f (0 + Int.toNat 2 * (Qc .u32).sz) (.int .u32 f7) 76 (Qk (e := (Qc .u32)) (Qh (Qy (SP.get b3 (i := 4) rfl)) rfl l3 l4) ae3 (j := 0) rfl) ?_
     obtain ⟨c6, l5, l6, ae4, H⟩ := Qo H
     refine iS 10 ?_
     refine Ql (e := (Qc .u32)) (l := p) (m := 8) (g := f) (T := 128) (E := 111) (x := (.tmp 7)) (ix := (.const (.int .i64 (3)))) (ki := .i64) (iz := 3) (i := 4) (d := (some 77)) (k := 9) K rfl K K K K b3 rfl l5 l6 ?_
     refine iS 11 ?_
     refine sC 111 77 f (0 + Int.toNat 3 * (Qc .u32).sz) (.int .u32 c6) 78 (Qk (e := (Qc .u32)) (Qh (Qy (SP.get b3 (i := 4) rfl)) rfl l5 l6) ae4 (j := 0) rfl) ?_
     refine iR 2 13 [(79, (.int .u32 (IntKind.wrap .u32 ((IntKind.wrap .u32 ((IntKind.wrap .u32 ((IntKind.wrap .u32 (a3 + a4)) + (V7 .u32 (Zt .u32 a0 a1) (Zt .u32 (V7 .u32 (IntKind.max .u32) u) a2)))) + a5)) + a6)))), (80, (.int .u32 (IntKind.wrap .u32 (c6 + (IntKind.wrap .u32 ((IntKind.wrap .u32 ((IntKind.wrap .u32 ((IntKind.wrap .u32 (a3 + a4)) + (V7 .u32 (Zt .u32 a0 a1) (Zt .u32 (V7 .u32 (IntKind.max .u32) u) a2)))) + a5)) + a6))))))] ?_
     obtain ⟨f8, l7, l8, ae5, H⟩ := Qo H
     refine iS 14 ?_
     refine Ql (e := (Qc .u32)) (l := p) (m := 8) (g := f) (T := 128) (E := 111) (x := (.tmp 7)) (ix := (.const (.int .i64 (4)))) (ki := .i64) (iz := 4) (i := 4) (d := (some 81)) (k := 13) K rfl K K K K b3 rfl l7 l8 ?_
     refine iS 15 ?_
     refine sC 111 81 f (0 + Int.toNat 4 * (Qc .u32).sz) (.int .u32 f8) 82 (Qk (e := (Qc .u32)) (Qh (Qy (SP.get b3 (i := 4) rfl)) rfl l7 l8) ae5 (j := 0) rfl) ?_
     obtain ⟨f9, l9, m0, ae6, H⟩ := Qo H
     refine iS 16 ?_
     refine Ql (e := (Qc .u32)) (l := p) (m := 8) (g := f) (T := 128) (E := 111) (x := (.tmp 7)) (ix := (.const (.int .i64 (5)))) (ki := .i64) (iz := 5) (i := 4) (d := (some 83)) (k := 15) K rfl K K K K b3 rfl l9 m0 ?_
     refine iS 17 ?_
     refine sC 111 83 f (0 + Int.toNat 5 * (Qc .u32).sz) (.int .u32 f9) 84 (Qk (e := (Qc .u32)) (Qh (Qy (SP.get b3 (i := 4) rfl)) rfl l9 m0) ae6 (j := 0) rfl) ?_
     obtain ⟨g0, m1, m2, ae7, H⟩ := Qo H
     refine iS 18 ?_
     refine Ql (e := (Qc .u32)) (l := p) (m := 8) (g := f) (T := 128) (E := 111) (x := (.tmp 7)) (ix := (.const (.int .i64 (6)))) (ki := .i64) (iz := 6) (i := 4) (d := (some 85)) (k := 17) K rfl K K K K b3 rfl m1 m2 ?_
     refine iS 19 ?_
     refine sC 111 85 f (0 + Int.toNat 6 * (Qc .u32).sz) (.int .u32 g0) 86 (Qk (e := (Qc .u32)) (Qh (Qy (SP.get b3 (i := 4) rfl)) rfl m1 m2) ae7 (j := 0) rfl) ?_
     refine iR 1 20 [(87, (.agg (Qd (Qc .u32) ([(IntKind.wrap .u32 ((IntKind.wrap .u32 ((IntKind.wrap .u32 ((IntKind.wrap .u32 ((IntKind.wrap .u32 (a3 + a4)) + (V7 .u32 (Zt .u32 a0 a1) (Zt .u32 (V7 .u32 (IntKind.max .u32) u) a2)))) + a5)) + a6)) + (IntKind.wrap .u32 (c0 + (V7 .u32 (V7 .u32 (Zt .u32 a7 a8) (Zt .u32 a9 b0)) (Zt .u32 b1 b2)))))), f3, f6, f7, (IntKind.wrap .u32 (c6 + (IntKind.wrap .u32 ((IntKind.wrap .u32 ((IntKind.wrap .u32 ((IntKind.wrap .u32 (a3 + a4)) + (V7 .u32 (Zt .u32 a0 a1) (Zt .u32 (V7 .u32 (IntKind.max .u32) u) a2)))) + a5)) + a6)))), f8, f9, g0] : List Int)).toArray))] ?_
     refine iS 21 ?_
     refine Vf (e := (Qc .u32)) (l := p) (l' := ([(IntKind.wrap .u32 ((IntKind.wrap .u32 ((IntKind.wrap .u32 ((IntKind.wrap .u32 ((IntKind.wrap .u32 (a3 + a4)) + (V7 .u32 (Zt .u32 a0 a1) (Zt .u32 (V7 .u32 (IntKind.max .u32) u) a2)))) + a5)) + a6)) + (IntKind.wrap .u32 (c0 + (V7 .u32 (V7 .u32 (Zt .u32 a7 a8) (Zt .u32 a9 b0)) (Zt .u32 b1 b2)))))), f3, f6, f7, (IntKind.wrap .u32 (c6 + (IntKind.wrap .u32 ((IntKind.wrap .u32 ((IntKind.wrap .u32 ((IntKind.wrap .u32 (a3 + a4)) + (V7 .u32 (Zt .u32 a0 a1) (Zt .u32 (V7 .u32 (IntKind.max .u32) u) a2)))) + a5)) + a6)))), f8, f9, g0] : List Int)) (m := 8) (t := 128) (x := (.tmp 7)) (y := (.tmp 87)) (g := f) (i := 4) (d := none) (k := 20) K rfl K K rfl b3 rfl K ?_
     intro ao8 ae8
     refine iF ?_
     refine aR ?_
     refine iR 3 3 [(18, (.int .i64 s)), (19, (.int .i64 (IntKind.wrap .i64 (s + 1)))), (8, (.int .i64 (IntKind.wrap .i64 (s + 1))))] ?_
     refine iF ?_
     exact ⟨([(IntKind.wrap .u32 ((IntKind.wrap .u32 ((IntKind.wrap .u32 ((IntKind.wrap .u32 ((IntKind.wrap .u32 (a3 + a4)) + (V7 .u32 (Zt .u32 a0 a1) (Zt .u32 (V7 .u32 (IntKind.max .u32) u) a2)))) + a5)) + a6)) + (IntKind.wrap .u32 (c0 + (V7 .u32 (V7 .u32 (Zt .u32 a7 a8) (Zt .u32 a9 b0)) (Zt .u32 b1 b2)))))), f3, f6, f7, (IntKind.wrap .u32 (c6 + (IntKind.wrap .u32 ((IntKind.wrap .u32 ((IntKind.wrap .u32 ((IntKind.wrap .u32 (a3 + a4)) + (V7 .u32 (Zt .u32 a0 a1) (Zt .u32 (V7 .u32 (IntKind.max .u32) u) a2)))) + a5)) + a6)))), f8, f9, g0] : List Int), (IntKind.wrap .i64 (s + 1)), ⟨K, K, K, K, K, K, trivial⟩, SP.sel ae8 [0, 1, 2, 3, 4] rfl rfl, H⟩
  ·have H := cf H g3
   refine At.exit K (id := 0) K ?_
   refine aQ ?_
   refine aQ ?_
   refine aR ?_
   refine iR 1 1 [(11, (.int .i64 0))] ?_
   refine iF ?_
   refine Z1 K (id := 2) K ?_
   refine Nl K (fun f5 ρ w => ∃ (b7 : (List Int)) (q : Int), V6 ρ [(2, (pt g7 0)), (4, (pt b6 0)), (7, (pt f 0)), (11, (.int .i64 q))] ∧ SP [] w0 w [Vk 128 (Qc .u32) g7 8 b7, Vk 128 (Qc .u32) b6 8 (List.replicate 8 0), Vk 128 (Qc .u32) f 8 p] ∧ Jg (V8 p1 b8 b9 f4) p f5 b7 q = some r) (by rintro ρ w ⟨b7, q, hk, hs, H⟩; cases H) ?_ Zj ?_
   ·rintro f5 ρ ao9 ⟨b7, q, hk, c2, H⟩
    refine At.known [(2, (pt g7 0)), (4, (pt b6 0)), (7, (pt f 0)), (11, (.int .i64 q))] hk ?_
    replace H := (show Gh (V8 p1 b8 b9 f4) (Jg (V8 p1 b8 b9 f4) p f5) p b7 q = some r from H)
    unfold Gh at H
    have ae9 := Vc (SP.get c2 (i := 0) rfl)
    have ap0 := Vc (SP.get c2 (i := 1) rfl)
    have ap1 := Vc (SP.get c2 (i := 2) rfl)
    refine aQ ?_
    refine aQ ?_
    refine aR ?_
    refine iR 2 2 [(88, (.int .i64 q)), (89, (.bool (decide (q < 8))))] ?_
    refine iF ?_
    refine V1 K (o := (.tmp 89)) K (b := (decide (q < 8))) K (fun i1 => ?_) (fun i1 => ?_)
    ·have H := ct H i1
     refine At.skip K ?_
     refine aQ ?_
     refine Z1 K (id := 3) K ?_
     obtain ⟨c3, m3, m4, af0, H⟩ := Qo H
     obtain ⟨c4, m5, m6, af1, H⟩ := Qo H
     obtain ⟨ap2, m7, m8, ap3, H⟩ := Qo H
     obtain ⟨i2, hyl2347, H⟩ := Zk H
     have hnl2347 : List.length i2 = List.length b7 := by rw [← hyl2347, List.length_set]
     refine aG [GEq (.int .i64 q), GEq (.int .i64 q), Vr (some ⟨g7, 0, none⟩) (Qc .u32).sz q, GEq (.int .u32 c3), GEq (.int .i64 q), Vr (some ⟨f, 0, none⟩) (Qc .u32).sz q, GEq (.int .u32 c4), GEq (.int .u32 (IntKind.wrap .u32 (c3 + c4))), Vr (some ⟨g7, 0, none⟩) (Qc .u32).sz q, Ey] [9] [sG [] [] [] w0 [Vk 128 (Qc .u32) g7 8 b7, Vk 128 (Qc .u32) b6 8 (List.replicate 8 0), Vk 128 (Qc .u32) f 8 p], sG [9] [undef] [] w0 [Vk 128 (Qc .u32) g7 8 i2, Vk 128 (Qc .u32) b6 8 (List.replicate 8 0), Vk 128 (Qc .u32) f 8 p]] 10 1 ⟨trivial, SP.drew c2⟩ ?_ ?_
     iterate 10 refine And.intro ?_ ?_
     exact trivial
     ·exact oV (hC (hS 11 (.int .i64 q)) (h0)) (.int .i64 q)
     ·exact oV (hC (hS 11 (.int .i64 q)) (h0)) (.int .i64 q)
     ·refine oL 0 ?_
      ·rintro ρ' w' hs h ⟨ap4, af2⟩
       refine kM (kc (kS hs 2 (pt g7 0)) (kc (kA h 1 93) k0)) fun c => ?_
       refine Ql (e := (Qc .u32)) (l := b7) (m := 8) (g := g7) (T := 128) (E := 111) (x := (.tmp 2)) (ix := (.tmp 93)) (ki := .i64) (iz := q) (i := 0) (d := (some 94)) (k := 2) K rfl K K K K af2 rfl m3 m4 ?_
       exact ⟨rfl, _, Qa c, ⟨g7, 0, rfl, rfl⟩⟩
     ·refine oL 0 ?_
      ·rintro ρ' w' hs h ⟨ap5, af3⟩
       obtain ⟨af4, af5, af6, e94⟩ := h 2 94 K
       refine kM (kc e94 k0) fun c => ?_
       refine sC 111 94 af4 (af5 + Int.toNat q * (Qc .u32).sz) (.int .u32 c3) 95 (Qk (e := (Qc .u32)) (Qh (Qy (SP.get af3 (i := 0) rfl)) af6 m3 m4) af0 (j := 0) rfl) ?_
       exact eK c
     ·exact oV (hC (hS 11 (.int .i64 q)) (h0)) (.int .i64 q)
     ·refine oL 0 ?_
      ·rintro ρ' w' hs h ⟨ap6, af8⟩
       refine kM (kc (kS hs 7 (pt f 0)) (kc (kA h 4 96) k0)) fun c => ?_
       refine Ql (e := (Qc .u32)) (l := p) (m := 8) (g := f) (T := 128) (E := 111) (x := (.tmp 7)) (ix := (.tmp 96)) (ki := .i64) (iz := q) (i := 2) (d := (some 97)) (k := 5) K rfl K K K K af8 rfl m5 m6 ?_
       exact ⟨rfl, _, Qa c, ⟨f, 0, rfl, rfl⟩⟩
     ·refine oL 0 ?_
      ·rintro ρ' w' hs h ⟨ap7, af9⟩
       obtain ⟨ag0, ag1, ag2, e97⟩ := h 5 97 K
       refine kM (kc e97 k0) fun c => ?_
       refine sC 111 97 ag0 (ag1 + Int.toNat q * (Qc .u32).sz) (.int .u32 c4) 98 (Qk (e := (Qc .u32)) (Qh (Qy (SP.get af9 (i := 2) rfl)) ag2 m5 m6) af1 (j := 0) rfl) ?_
       exact eK c
     ·exact oV (hC (hA 3 95) (hC (hA 6 98) (h0))) (.int .u32 (IntKind.wrap .u32 (c3 + c4)))
     ·refine oL 0 ?_
      ·rintro ρ' w' hs h ⟨ap8, ag4⟩
       refine kM (kc (kS hs 2 (pt g7 0)) (kc (kA h 0 92) k0)) fun c => ?_
       refine Ql (e := (Qc .u32)) (l := b7) (m := 8) (g := g7) (T := 128) (E := 111) (x := (.tmp 2)) (ix := (.tmp 92)) (ki := .i64) (iz := q) (i := 0) (d := (some 100)) (k := 8) K rfl K K K K ag4 rfl m7 m8 ?_
       exact ⟨rfl, _, Qa c, ⟨g7, 0, rfl, rfl⟩⟩
     ·refine oH 0 1 ?_
      ·rintro ρ' w' hs h ⟨ap9, ag5⟩
       obtain ⟨ag6, ag7, ag8, ag9⟩ := h 8 100 K
       refine kM (kc ag9 (kc (kA h 7 99) k0)) fun c => ?_
       refine Z3 (e := (Qc .u32)) (t := 111) (x := (.tmp 100)) (y := (.tmp 99)) (l := b7) (iz := q) (m := 8) (g := g7) (b := ag6) (off := ag7) (i := 0) (v := (.int .u32 (IntKind.wrap .u32 (c3 + c4)))) (x' := (IntKind.wrap .u32 (c3 + c4))) (d := none) (k := 9) K rfl ag8 K K ag5 rfl rfl m8 m7 rfl K ?_
       rw [hyl2347]
       intro aq0 ah0
       refine ⟨_, Qa c, trivial, ?_⟩
       exact (And.intro (And.intro rfl (trivial)) (ah0))
     ·rintro ρ' w' hs hf ⟨⟨aq1, -⟩, m9⟩
      refine Q3 [(2, (pt g7 0)), (4, (pt b6 0)), (7, (pt f 0)), (11, (.int .i64 q))] ⟨(hs 2 K).trans K, (hs 4 K).trans K, (hs 7 K).trans K, (hs 11 K).trans K, trivial⟩ ?_
      obtain ⟨aq2, ah1⟩ : ∃ x, w' = x := ⟨_, rfl⟩
      rw [ah1] at m9 ⊢
      refine aR ?_
      refine iR 3 3 [(90, (.int .i64 q)), (91, (.int .i64 (IntKind.wrap .i64 (q + 1)))), (11, (.int .i64 (IntKind.wrap .i64 (q + 1))))] ?_
      refine iF ?_
      exact ⟨i2, (IntKind.wrap .i64 (q + 1)), ⟨K, K, K, K, trivial⟩, SP.sel m9 [0, 1, 2] rfl rfl, H⟩
    ·have H := cf H i1
     refine At.exit K (id := 2) K ?_
     refine aQ ?_
     refine aR ?_
     refine iS 1 ?_
     refine Zu (e := (Qc .u32)) (l := b7) (m := 8) (t := 128) (x := (.tmp 2)) (g := g7) (i := 0) (d := (some 101)) (k := 0) K rfl K c2 rfl K K ?_
     refine iS 2 ?_
     refine Vf (e := (Qc .u32)) (l := (List.replicate 8 0)) (l' := b7) (m := 8) (t := 128) (x := (.tmp 4)) (y := (.tmp 101)) (g := b6) (i := 1) (d := none) (k := 1) K rfl K K ae9 c2 rfl K ?_
     intro aq3 n0
     refine iF ?_
     refine At.ret K ?_
     refine ⟨(.agg (Qd (Qc .u32) b7).toArray), Bs K (G0 (e := (Qc .u32)) (l := b7) (a := 4) (t := 128) K (SP.get n0 (i := 1) rfl) K K), ?_⟩
     obtain rfl := Qe H
     exact ⟨rfl, SP.sel n0 [] rfl rfl⟩
   ·exact ⟨p1, 0, ⟨K, K, K, K, trivial⟩, SP.sel c1 [0, 1, 4] rfl rfl, H⟩
 ·exact ⟨p1, 0, ⟨K, K, K, K, K, K, trivial⟩, SP.sel o4 [0, 1, 2, 3, 4] rfl rfl, H⟩
def Xz (g : (List UInt8) → Option ((List UInt8))) (h : (List UInt8) → Int → Option ((List UInt8))) (i : (List Int) → Int → Option ((List UInt8))) (c : (List UInt8) → Int → Option ((List UInt8))) (d : (List Int)) (b : (List UInt8)) (a : Int) : Option ((List UInt8)) :=
  (cond (decide (a < 32)) ((idx d (IntKind.wrap .i64 (Int.tdiv a 4))).bind fun e => ((chk (decide (0 ≤ (IntKind.wrap .i64 (24 - (IntKind.wrap .i64 (8 * (Int.tmod a 4)))))))).bind fun _ => ((idx b a).bind fun j => ((some (List.set b (Int.toNat a) (Bc (IntKind.wrap .u8 (Nm .u32 e (IntKind.wrap .i64 (24 - (IntKind.wrap .i64 (8 * (Int.tmod a 4)))))))))).bind fun f => (c f (IntKind.wrap .i64 (a + 1))))))) (some (b)))
def X0 (a : (List UInt8) → Option ((List UInt8))) (b : (List UInt8) → Int → Option ((List UInt8))) (c : (List Int) → Int → Option ((List UInt8))) (d : (List Int)) : Nat → (List UInt8) → Int → Option ((List UInt8))
  | 0, _, _ => none
  | f + 1, e, g => Xz a b c (X0 a b c d f) d e g
def X1 (f : (List UInt8) → Option ((List UInt8))) (g : (List UInt8) → Int → Option ((List UInt8))) (b : (List Int) → Int → Option ((List UInt8))) (c : (List UInt8)) (d : (List Int)) (a : Int) : Option ((List UInt8)) :=
  (cond (decide (a < ((List.length c : Nat) : Int))) ((sub c a (IntKind.wrap .i64 (a + 64))).bind fun h => ((Uu d h).bind fun e => ((chk (Nat.beq (List.length e) 8)).bind fun _ => (b e (IntKind.wrap .i64 (a + 64)))))) (X0 f g b d Zj (List.replicate 32 (0 : UInt8)) 0))
def V2 (a : (List UInt8) → Option ((List UInt8))) (b : (List UInt8) → Int → Option ((List UInt8))) (c : (List UInt8)) : Nat → (List Int) → Int → Option ((List UInt8))
  | 0, _, _ => none
  | f + 1, d, e => X1 a b (V2 a b c f) c d e
def X2 (d : (List UInt8) → Option ((List UInt8))) (b : (List UInt8) → Int → Option ((List UInt8))) (p1 : (List UInt8)) (c : (List UInt8)) (a : Int) : Option ((List UInt8)) :=
  (cond (decide (a ≥ 0)) ((chk (decide (0 ≤ (IntKind.wrap .i64 (8 * a))))).bind fun _ => ((app c ([(Bc (IntKind.wrap .u8 (Nm .i64 (IntKind.wrap .i64 (8 * ((List.length p1 : Nat) : Int))) (IntKind.wrap .i64 (8 * a)))))] : List UInt8)).bind fun e => (b e (IntKind.wrap .i64 (a - 1))))) (V2 d b c Zj ([1779033703, 3144134277, 1013904242, 2773480762, 1359893119, 2600822924, 528734635, 1541459225] : List Int) 0))
def Q1 (a : (List UInt8) → Option ((List UInt8))) (p1 : (List UInt8)) : Nat → (List UInt8) → Int → Option ((List UInt8))
  | 0, _, _ => none
  | f + 1, b, c => X2 a (Q1 a p1 f) p1 b c
def X3 (b : (List UInt8) → Option ((List UInt8))) (p1 : (List UInt8)) (a : (List UInt8)) : Option ((List UInt8)) :=
  (cond ((Int.tmod ((List.length a : Nat) : Int) 64) != 56) ((app a ([(0 : UInt8)] : List UInt8)).bind fun c => (b c)) (Q1 b p1 Zj a 7))
def Qp (p1 : (List UInt8)) : Nat → (List UInt8) → Option ((List UInt8))
  | 0, _ => none
  | f + 1, a => X3  (Qp p1 f) p1 a
def Jp (p1 : (List UInt8)) : Option ((List UInt8)) :=
  ((app ([] : List UInt8) p1).bind fun a => ((app a ([(128 : UInt8)] : List UInt8)).bind fun b => (Qp p1 Zj b)))
theorem Gi (A2 : Option Addr) (c3 : Nat) (p1 : (List UInt8)) (w0 : World) (f5 : RdT eU8 w0 A2 c3 p1) (r : ((List UInt8))) (H : Jp p1 = some r) :
  Calls Tryz.prog 72 #[(.slice A2 (List.length p1) c3)] w0 (fun e w' => e = .returned (.agg (Qd eU8 r).toArray) ∧ SP [] w0 w' []) := by
 unfold Jp at H
 refine Qs (n := 68) Tryz.func72 K K K ?_
 have f6 := Q0 [] w0
 refine aQ ?_
 refine aR ?_
 refine iS 1 ?_
 refine Q4 (e := eU8) (l := (List.replicate 32 (0 : UInt8))) (m := 32) (t := 89) (z := .agg (Qd eU8 (List.replicate 32 (0 : UInt8))).toArray) (d := (some 2)) (k := 0) K rfl K rfl rfl K f6 ?_
 intro g5 w6 f7
 refine iF ?_
 refine aQ ?_
 refine aR ?_
 refine iS 1 ?_
 refine Zv (e := eU8) (T := 52) (E := 5) (len := 0) (parts := #[]) (cs := #[]) ([] : List UInt8) (d := (some 10)) (k := 0) K rfl (fun _ => K) f7 rfl rfl rfl rfl ?_
 intro g9 i4 c8
 refine iR 1 2 [(11, (.slice A2 (List.length p1) c3))] ?_
 obtain ⟨hl13, H⟩ := Uh H
 obtain ⟨c9, hyl14⟩ : ∃ y, ([] : List UInt8) ++ p1 = y := ⟨_, rfl⟩
 rw [hyl14] at H
 refine iS 3 ?_
 refine Qi.append (e := eU8) (l := ([] : List UInt8)) (m := p1) (A := (some ⟨g9, 0, none⟩)) (c := (List.length ([] : List UInt8))) (T := 52) (TX := 52) (E := 5) (b := 1) (s := (.tmp 10)) (x := (.tmp 11)) (i := 1) (vx := (.slice A2 (List.length p1) c3)) (d := (some 12)) (k := 2) K rfl K K K K rfl c8 rfl (Rk (E := 5) K (RdT.sp f5 c8)) hl13 ?_
 rw [hyl14]
 intro f8 f9 i5 g0
 refine iS 4 ?_
 refine Zv (e := eU8) (T := 52) (E := 5) (len := 1) (parts := #[(0, (.const (.int .u8 (128))))]) (cs := #[(.int .u8 128)]) ([(128 : UInt8)] : List UInt8) (d := (some 13)) (k := 3) K rfl (fun _ => K) g0 (Gs (Or.inl rfl) rfl) rfl rfl rfl ?_
 intro g1 i6 d0
 obtain ⟨hl24, H⟩ := Uh H
 obtain ⟨d1, hyl25⟩ : ∃ y, c9 ++ ([(128 : UInt8)] : List UInt8) = y := ⟨_, rfl⟩
 rw [hyl25] at H
 refine iS 5 ?_
 refine Qi.append (e := eU8) (l := c9) (m := ([(128 : UInt8)] : List UInt8)) (A := f8) (c := f9) (T := 52) (TX := 52) (E := 5) (b := 1) (s := (.tmp 12)) (x := (.tmp 13)) (i := 1) (vx := (.slice (some ⟨g1, 0, none⟩) (List.length ([(128 : UInt8)] : List UInt8)) (List.length ([(128 : UInt8)] : List UInt8)))) (d := (some 14)) (k := 4) K rfl K K K K rfl d0 rfl (Rk (E := 5) K (Vs (SP.get d0 (i := 2) rfl))) hl24 ?_
 rw [hyl25]
 intro d2 d3 i7 g2
 refine iR 1 6 [(3, (.slice d2 (List.length d1) d3))] ?_
 refine iF ?_
 refine aQ ?_
 refine Z1 K (id := 0) K ?_
 refine Nl K (fun u ρ w => ∃ (a4 : (List UInt8)) (a8 : Option Addr) (a9 : Nat), V6 ρ [(0, (.slice A2 (List.length p1) c3)), (2, (pt g5 0)), (3, (.slice a8 (List.length a4) a9))] ∧ SP [] w0 w [Vk 89 eU8 g5 32 (List.replicate 32 (0 : UInt8)), Yc 5 eU8 a8 a9 a4] ∧ Qp p1 u a4 = some r) (by rintro ρ w ⟨a4, a8, a9, hk, hs, H⟩; cases H) ?_ Zj ?_
 ·rintro u ρ i8 ⟨a4, a8, a9, hk, b8, H⟩
  refine At.known [(0, (.slice A2 (List.length p1) c3)), (2, (pt g5 0)), (3, (.slice a8 (List.length a4) a9))] hk ?_
  replace H := (show X3 (Qp p1 u) p1 a4 = some r from H)
  unfold X3 at H
  have i9 := Vc (SP.get b8 (i := 0) rfl)
  refine aQ ?_
  refine aQ ?_
  refine aR ?_
  refine iR 4 4 [(15, (.slice a8 (List.length a4) a9)), (16, (.int .i64 ((List.length a4 : Nat) : Int))), (17, (.int .i64 (Int.tmod ((List.length a4 : Nat) : Int) 64))), (18, (.bool ((Int.tmod ((List.length a4 : Nat) : Int) 64) != 56)))] ?_
  refine iF ?_
  refine V1 K (o := (.tmp 18)) K (b := ((Int.tmod ((List.length a4 : Nat) : Int) 64) != 56)) K (fun b9 => ?_) (fun b9 => ?_)
  ·have H := ct H b9
   refine At.skip K ?_
   refine Z1 K (id := 1) K ?_
   refine aR ?_
   refine iR 1 1 [(19, (.slice a8 (List.length a4) a9))] ?_
   refine iS 2 ?_
   refine Zv (e := eU8) (T := 52) (E := 5) (len := 1) (parts := #[(0, (.const (.int .u8 (0))))]) (cs := #[(.int .u8 0)]) ([(0 : UInt8)] : List UInt8) (d := (some 20)) (k := 1) K rfl (fun _ => K) b8 (Gs (Or.inl rfl) rfl) rfl rfl rfl ?_
   intro g3 j0 d4
   obtain ⟨hl7185, H⟩ := Uh H
   obtain ⟨d5, hyl7186⟩ : ∃ y, a4 ++ ([(0 : UInt8)] : List UInt8) = y := ⟨_, rfl⟩
   rw [hyl7186] at H
   refine iS 3 ?_
   refine Qi.append (e := eU8) (l := a4) (m := ([(0 : UInt8)] : List UInt8)) (A := a8) (c := a9) (T := 52) (TX := 52) (E := 5) (b := 1) (s := (.tmp 19)) (x := (.tmp 20)) (i := 1) (vx := (.slice (some ⟨g3, 0, none⟩) (List.length ([(0 : UInt8)] : List UInt8)) (List.length ([(0 : UInt8)] : List UInt8)))) (d := (some 21)) (k := 2) K rfl K K K K rfl d4 rfl (Rk (E := 5) K (Vs (SP.get d4 (i := 2) rfl))) hl7185 ?_
   rw [hyl7186]
   intro d6 d7 j1 g4
   refine iR 1 4 [(3, (.slice d6 (List.length d5) d7))] ?_
   refine iF ?_
   exact ⟨d5, d6, d7, ⟨K, K, K, trivial⟩, SP.sel g4 [0, 1] rfl rfl, H⟩
  ·have H := cf H b9
   refine At.exit K (id := 0) K ?_
   refine aQ ?_
   refine aR ?_
   refine iR 4 4 [(22, (.slice A2 (List.length p1) c3)), (23, (.int .i64 ((List.length p1 : Nat) : Int))), (24, (.int .i64 (IntKind.wrap .i64 (8 * ((List.length p1 : Nat) : Int))))), (4, (.int .i64 (IntKind.wrap .i64 (8 * ((List.length p1 : Nat) : Int)))))] ?_
   refine iF ?_
   refine aQ ?_
   refine aQ ?_
   refine aR ?_
   refine iR 1 1 [(5, (.int .i64 7))] ?_
   refine iF ?_
   refine Z1 K (id := 2) K ?_
   refine Nl K (fun a6 ρ w => ∃ (f : (List UInt8)) (a0 : Int) (a2 : Option Addr) (a1 : Nat), V6 ρ [(2, (pt g5 0)), (3, (.slice a2 (List.length f) a1)), (4, (.int .i64 (IntKind.wrap .i64 (8 * ((List.length p1 : Nat) : Int))))), (5, (.int .i64 a0))] ∧ SP [] w0 w [Vk 89 eU8 g5 32 (List.replicate 32 (0 : UInt8)), Yc 5 eU8 a2 a1 f] ∧ Q1 (Qp p1 u) p1 a6 f a0 = some r) (by rintro ρ w ⟨f, a0, a2, a1, hk, hs, H⟩; cases H) ?_ Zj ?_
   ·rintro a6 ρ j2 ⟨f, a0, a2, a1, hk, c0, H⟩
    refine At.known [(2, (pt g5 0)), (3, (.slice a2 (List.length f) a1)), (4, (.int .i64 (IntKind.wrap .i64 (8 * ((List.length p1 : Nat) : Int))))), (5, (.int .i64 a0))] hk ?_
    replace H := (show X2 (Qp p1 u) (Q1 (Qp p1 u) p1 a6) p1 f a0 = some r from H)
    unfold X2 at H
    have j3 := Vc (SP.get c0 (i := 0) rfl)
    refine aQ ?_
    refine aQ ?_
    refine aR ?_
    refine iR 2 2 [(25, (.int .i64 a0)), (26, (.bool (decide (a0 ≥ 0))))] ?_
    refine iF ?_
    refine V1 K (o := (.tmp 26)) K (b := (decide (a0 ≥ 0))) K (fun c1 => ?_) (fun c1 => ?_)
    ·have H := ct H c1
     refine At.skip K ?_
     refine aQ ?_
     refine Z1 K (id := 3) K ?_
     refine aR ?_
     refine iR 4 4 [(29, (.slice a2 (List.length f) a1)), (30, (.int .i64 (IntKind.wrap .i64 (8 * ((List.length p1 : Nat) : Int))))), (31, (.int .i64 a0)), (32, (.int .i64 (IntKind.wrap .i64 (8 * a0))))] ?_
     obtain ⟨hl8972, H⟩ := V4 H
     refine iS 5 ?_
     refine Qi.shift (op := .shr) (T := 3) (T' := 3) (x := (.tmp 30)) (y := (.tmp 32)) (kx := .i64) (ky := .i64) (a := (IntKind.wrap .i64 (8 * ((List.length p1 : Nat) : Int)))) (b := (IntKind.wrap .i64 (8 * a0))) (v := (.int .i64 (Nm .i64 (IntKind.wrap .i64 (8 * ((List.length p1 : Nat) : Int))) (IntKind.wrap .i64 (8 * a0))))) (d := (some 33)) (k := 4) K rfl K K (of_decide_eq_true hl8972) rfl ?_
     refine iR 1 6 [(34, (.int .u8 (IntKind.wrap .u8 (Nm .i64 (IntKind.wrap .i64 (8 * ((List.length p1 : Nat) : Int))) (IntKind.wrap .i64 (8 * a0))))))] ?_
     refine iS 7 ?_
     refine Zv (e := eU8) (T := 52) (E := 5) (len := 1) (parts := #[(0, (.tmp 34))]) (cs := #[(.int .u8 (IntKind.wrap .u8 (Nm .i64 (IntKind.wrap .i64 (8 * ((List.length p1 : Nat) : Int))) (IntKind.wrap .i64 (8 * a0)))))]) ([(Bc (IntKind.wrap .u8 (Nm .i64 (IntKind.wrap .i64 (8 * ((List.length p1 : Nat) : Int))) (IntKind.wrap .i64 (8 * a0)))))] : List UInt8) (d := (some 35)) (k := 6) K rfl (fun _ => K) c0 (Gs (Or.inr ⟨rfl, (Ec _)⟩) rfl) rfl rfl rfl ?_
     intro g6 j4 d8
     obtain ⟨hl8977, H⟩ := Uh H
     obtain ⟨d9, hyl8978⟩ : ∃ y, f ++ ([(Bc (IntKind.wrap .u8 (Nm .i64 (IntKind.wrap .i64 (8 * ((List.length p1 : Nat) : Int))) (IntKind.wrap .i64 (8 * a0)))))] : List UInt8) = y := ⟨_, rfl⟩
     rw [hyl8978] at H
     refine iS 8 ?_
     refine Qi.append (e := eU8) (l := f) (m := ([(Bc (IntKind.wrap .u8 (Nm .i64 (IntKind.wrap .i64 (8 * ((List.length p1 : Nat) : Int))) (IntKind.wrap .i64 (8 * a0)))))] : List UInt8)) (A := a2) (c := a1) (T := 52) (TX := 52) (E := 5) (b := 1) (s := (.tmp 29)) (x := (.tmp 35)) (i := 1) (vx := (.slice (some ⟨g6, 0, none⟩) (List.length ([(Bc (IntKind.wrap .u8 (Nm .i64 (IntKind.wrap .i64 (8 * ((List.length p1 : Nat) : Int))) (IntKind.wrap .i64 (8 * a0)))))] : List UInt8)) (List.length ([(Bc (IntKind.wrap .u8 (Nm .i64 (IntKind.wrap .i64 (8 * ((List.length p1 : Nat) : Int))) (IntKind.wrap .i64 (8 * a0)))))] : List UInt8)))) (d := (some 36)) (k := 7) K rfl K K K K rfl d8 rfl (Rk (E := 5) K (Vs (SP.get d8 (i := 2) rfl))) hl8977 ?_
     rw [hyl8978]
     intro e0 e1 j5 g7
     refine iR 1 9 [(3, (.slice e0 (List.length d9) e1))] ?_
     refine iF ?_
     refine aR ?_
     refine iR 3 3 [(27, (.int .i64 a0)), (28, (.int .i64 (IntKind.wrap .i64 (a0 - 1)))), (5, (.int .i64 (IntKind.wrap .i64 (a0 - 1))))] ?_
     refine iF ?_
     exact ⟨d9, (IntKind.wrap .i64 (a0 - 1)), e0, e1, ⟨K, K, K, K, trivial⟩, SP.sel g7 [0, 1] rfl rfl, H⟩
    ·have H := cf H c1
     refine At.exit K (id := 2) K ?_
     refine aQ ?_
     refine aR ?_
     refine iR 1 1 [(37, (.agg (Qd (Qc .u32) ([1779033703, 3144134277, 1013904242, 2773480762, 1359893119, 2600822924, 528734635, 1541459225] : List Int)).toArray))] ?_
     refine iS 2 ?_
     refine Q4 (e := (Qc .u32)) (l := (List.replicate 8 0)) (m := 8) (t := 128) (z := .agg (Qd (Qc .u32) (List.replicate 8 0)).toArray) (d := (some 6)) (k := 1) K rfl K rfl rfl K c0 ?_
     intro a3 j6 g8
     refine iS 3 ?_
     refine Vf (e := (Qc .u32)) (l := (List.replicate 8 0)) (l' := ([1779033703, 3144134277, 1013904242, 2773480762, 1359893119, 2600822924, 528734635, 1541459225] : List Int)) (m := 8) (t := 128) (x := (.tmp 6)) (y := (.tmp 37)) (g := a3) (i := 2) (d := none) (k := 2) K rfl K K rfl g8 rfl K ?_
     intro j7 h1
     refine iF ?_
     refine aQ ?_
     refine aQ ?_
     refine aR ?_
     refine iR 1 1 [(7, (.int .i64 0))] ?_
     refine iF ?_
     refine Z1 K (id := 4) K ?_
     refine Nl K (fun b6 ρ w => ∃ (a5 : (List Int)) (p : Int), V6 ρ [(2, (pt g5 0)), (3, (.slice a2 (List.length f) a1)), (6, (pt a3 0)), (7, (.int .i64 p))] ∧ SP [] w0 w [Vk 89 eU8 g5 32 (List.replicate 32 (0 : UInt8)), Vk 128 (Qc .u32) a3 8 a5, Yc 5 eU8 a2 a1 f] ∧ V2 (Qp p1 u) (Q1 (Qp p1 u) p1 a6) f b6 a5 p = some r) (by rintro ρ w ⟨a5, p, hk, hs, H⟩; cases H) ?_ Zj ?_
     ·rintro b6 ρ j8 ⟨a5, p, hk, b7, H⟩
      refine At.known [(2, (pt g5 0)), (3, (.slice a2 (List.length f) a1)), (6, (pt a3 0)), (7, (.int .i64 p))] hk ?_
      replace H := (show X1 (Qp p1 u) (Q1 (Qp p1 u) p1 a6) (V2 (Qp p1 u) (Q1 (Qp p1 u) p1 a6) f b6) f a5 p = some r from H)
      unfold X1 at H
      have j9 := Vc (SP.get b7 (i := 0) rfl)
      have h2 := Vc (SP.get b7 (i := 1) rfl)
      refine aQ ?_
      refine aQ ?_
      refine aR ?_
      refine iR 4 4 [(38, (.int .i64 p)), (39, (.slice a2 (List.length f) a1)), (40, (.int .i64 ((List.length f : Nat) : Int))), (41, (.bool (decide (p < ((List.length f : Nat) : Int)))))] ?_
      refine iF ?_
      refine V1 K (o := (.tmp 41)) K (b := (decide (p < ((List.length f : Nat) : Int)))) K (fun c2 => ?_) (fun c2 => ?_)
      ·have H := ct H c2
       refine At.skip K ?_
       refine aQ ?_
       refine Z1 K (id := 5) K ?_
       obtain ⟨e2, e3, e4, H⟩ := Dw H
       obtain ⟨c4, hyl9424⟩ : ∃ y, (List.drop (Int.toNat p) (List.take (Int.toNat (IntKind.wrap .i64 (p + 64))) f)) = y := ⟨_, rfl⟩
       rw [hyl9424] at H
       obtain ⟨b1, h3, H⟩ := Qb H
       obtain ⟨c5, H⟩ := V4 H
       replace c5 := Nat.eq_of_beq_eq_true c5
       refine aG [GEq (.agg (Qd (Qc .u32) a5).toArray), GEq (.slice a2 (List.length f) a1), GEq (.int .i64 p), GEq (.int .i64 p), GEq (.int .i64 (IntKind.wrap .i64 (p + 64))), GEq (.slice (F2 eU8.sz a1 (Int.toNat p) a2) (List.length c4) (a1 - Int.toNat p)), GEq (.agg (Qd (Qc .u32) b1).toArray), Ey] [6, 7] [sG [] [] [] w0 [Vk 89 eU8 g5 32 (List.replicate 32 (0 : UInt8)), Vk 128 (Qc .u32) a3 8 a5, Yc 5 eU8 a2 a1 f], sG [6] [(.agg (Qd (Qc .u32) b1).toArray)] [] w0 [Vk 89 eU8 g5 32 (List.replicate 32 (0 : UInt8)), Vk 128 (Qc .u32) a3 8 a5, Yc 5 eU8 a2 a1 f], sG [6, 7] [(.agg (Qd (Qc .u32) b1).toArray), undef] [] w0 [Vk 89 eU8 g5 32 (List.replicate 32 (0 : UInt8)), Vk 128 (Qc .u32) a3 8 b1, Yc 5 eU8 a2 a1 f]] 8 2 ⟨trivial, SP.drew b7⟩ ?_ ?_
       iterate 8 refine And.intro ?_ ?_
       exact trivial
       ·refine oL 0 ?_
        ·rintro ρ' w' hs b2 ⟨k1, h4⟩
         refine kM (kc (kS hs 6 (pt a3 0)) k0) fun b3 => ?_
         refine Zu (e := (Qc .u32)) (l := a5) (m := 8) (t := 128) (x := (.tmp 6)) (g := a3) (i := 1) (d := (some 44)) (k := 0) K rfl K h4 rfl K K ?_
         exact eK b3
       ·exact oV (hC (hS 3 (.slice a2 (List.length f) a1)) (h0)) (.slice a2 (List.length f) a1)
       ·exact oV (hC (hS 7 (.int .i64 p)) (h0)) (.int .i64 p)
       ·exact oV (hC (hS 7 (.int .i64 p)) (h0)) (.int .i64 p)
       ·exact oV (hC (hA 3 47) (h0)) (.int .i64 (IntKind.wrap .i64 (p + 64)))
       ·refine oL 0 ?_
        ·rintro ρ' w' hs b2 ⟨k2, h5⟩
         refine kM (kc (kA b2 1 45) (kc (kA b2 2 46) (kc (kA b2 4 48) k0))) fun b3 => ?_
         refine Cj (e := eU8) (l := f) (m := c4) (A := a2) (c := a1) (T := 52) (E := 5) (x := (.tmp 45)) (lo := (some (.tmp 46))) (hi := (some (.tmp 48))) (i := p) (j := (IntKind.wrap .i64 (p + 64))) (d := (some 49)) (k := 5) K rfl K K K ⟨.i64, K⟩ ⟨.i64, K⟩ (RdX.le (Vs (SP.get h5 (i := 2) rfl))) e2 e3 e4 hyl9424 ?_
         exact eK b3
       ·refine oH 0 1 ?_
        ·rintro ρ' w' hs b2 ⟨k3, e5⟩
         refine kM (kc (kA b2 0 44) (kc (kA b2 5 49) k0)) fun b3 => ?_
         refine cF 93 #[(.tmp 44), (.tmp 49)] #[128, 52] 50 Tryz.call93 (B4 (F2 eU8.sz a1 (Int.toNat p) a2) (a1 - Int.toNat p) a5 c4 w' h2 ((Ia e2 e3 e4 hyl9424) w' (Vs (SP.get e5 (i := 2) rfl))) b1 h3) ?_
         rintro e k4 ⟨rfl, e6⟩
         refine ⟨_, rfl, ?_⟩
         have h6 := SP.call e5 e6
         clear e6
         refine ⟨_, Qa b3, rfl, ?_⟩
         exact (And.intro (And.intro rfl (trivial)) (h6))
       ·refine oH 1 2 ?_
        ·rintro ρ' w' hs b2 ⟨⟨e7, -⟩, h7⟩
         refine kN [(6, (pt a3 0)), (50, (.agg (Qd (Qc .u32) b1).toArray))] ⟨(hs 6 K).trans K, (Jd (h := 6) K).symm.trans e7, trivial⟩ fun b3 => ?_
         refine Vf (e := (Qc .u32)) (l := a5) (l' := b1) (m := 8) (t := 128) (x := (.tmp 6)) (y := (.tmp 50)) (g := a3) (i := 1) (d := none) (k := 7) K rfl K K c5 h7 rfl K ?_
         intro k5 h8
         refine ⟨_, Qa b3, trivial, ?_⟩
         exact (And.intro (And.intro e7 (And.intro rfl (trivial))) (h8))
       ·rintro ρ' w' hs hf ⟨⟨k6, k7, -⟩, e8⟩
        refine Q3 [(2, (pt g5 0)), (3, (.slice a2 (List.length f) a1)), (6, (pt a3 0)), (7, (.int .i64 p))] ⟨(hs 2 K).trans K, (hs 3 K).trans K, (hs 6 K).trans K, (hs 7 K).trans K, trivial⟩ ?_
        obtain ⟨k8, h9⟩ : ∃ x, w' = x := ⟨_, rfl⟩
        rw [h9] at e8 ⊢
        refine aR ?_
        refine iR 3 3 [(42, (.int .i64 p)), (43, (.int .i64 (IntKind.wrap .i64 (p + 64)))), (7, (.int .i64 (IntKind.wrap .i64 (p + 64))))] ?_
        refine iF ?_
        exact ⟨b1, (IntKind.wrap .i64 (p + 64)), ⟨K, K, K, K, trivial⟩, SP.sel e8 [0, 1, 2] rfl rfl, H⟩
      ·have H := cf H c2
       refine At.exit K (id := 4) K ?_
       refine aQ ?_
       refine aR ?_
       refine iS 1 ?_
       refine Q4 (e := eU8) (l := (List.replicate 32 (0 : UInt8))) (m := 32) (t := 89) (z := .agg (Qd eU8 (List.replicate 32 (0 : UInt8))).toArray) (d := (some 8)) (k := 0) K rfl K rfl rfl K b7 ?_
       intro b4 k9 i0
       refine iF ?_
       refine aQ ?_
       refine aQ ?_
       refine aR ?_
       refine iR 1 1 [(9, (.int .i64 0))] ?_
       refine iF ?_
       refine Z1 K (id := 6) K ?_
       refine Nl K (fun c6 ρ w => ∃ (a7 : (List UInt8)) (q : Int), V6 ρ [(2, (pt g5 0)), (6, (pt a3 0)), (8, (pt b4 0)), (9, (.int .i64 q))] ∧ SP [] w0 w [Vk 89 eU8 g5 32 (List.replicate 32 (0 : UInt8)), Vk 128 (Qc .u32) a3 8 a5, Vk 89 eU8 b4 32 a7] ∧ X0 (Qp p1 u) (Q1 (Qp p1 u) p1 a6) (V2 (Qp p1 u) (Q1 (Qp p1 u) p1 a6) f b6) a5 c6 a7 q = some r) (by rintro ρ w ⟨a7, q, hk, hs, H⟩; cases H) ?_ Zj ?_
       ·rintro c6 ρ l0 ⟨a7, q, hk, b0, H⟩
        refine At.known [(2, (pt g5 0)), (6, (pt a3 0)), (8, (pt b4 0)), (9, (.int .i64 q))] hk ?_
        replace H := (show Xz (Qp p1 u) (Q1 (Qp p1 u) p1 a6) (V2 (Qp p1 u) (Q1 (Qp p1 u) p1 a6) f b6) (X0 (Qp p1 u) (Q1 (Qp p1 u) p1 a6) (V2 (Qp p1 u) (Q1 (Qp p1 u) p1 a6) f b6) a5 c6) a5 a7 q = some r from H)
        unfold Xz at H
        have l1 := Vc (SP.get b0 (i := 0) rfl)
        have l2 := Vc (SP.get b0 (i := 1) rfl)
        have i1 := Vc (SP.get b0 (i := 2) rfl)
        refine aQ ?_
        refine aQ ?_
        refine aR ?_
        refine iR 2 2 [(51, (.int .i64 q)), (52, (.bool (decide (q < 32))))] ?_
        refine iF ?_
        refine V1 K (o := (.tmp 52)) K (b := (decide (q < 32))) K (fun c7 => ?_) (fun c7 => ?_)
        ·have H := ct H c7
         refine At.skip K ?_
         refine aQ ?_
         refine Z1 K (id := 7) K ?_
         refine aR ?_
         refine iR 3 3 [(55, (.int .i64 q)), (56, (.int .i64 q)), (57, (.int .i64 (IntKind.wrap .i64 (Int.tdiv q 4))))] ?_
         obtain ⟨b5, e9, f0, i2, H⟩ := Qo H
         refine iS 4 ?_
         refine Ql (e := (Qc .u32)) (l := a5) (m := 8) (g := a3) (T := 128) (E := 111) (x := (.tmp 6)) (ix := (.tmp 57)) (ki := .i64) (iz := (IntKind.wrap .i64 (Int.tdiv q 4))) (i := 1) (d := (some 58)) (k := 3) K rfl K K K K b0 rfl e9 f0 ?_
         refine iS 5 ?_
         refine sC 111 58 a3 (0 + Int.toNat (IntKind.wrap .i64 (Int.tdiv q 4)) * (Qc .u32).sz) (.int .u32 b5) 59 (Qk (e := (Qc .u32)) (Qh (Qy (SP.get b0 (i := 1) rfl)) rfl e9 f0) i2 (j := 0) rfl) ?_
         refine iR 4 9 [(60, (.int .i64 q)), (61, (.int .i64 (Int.tmod q 4))), (62, (.int .i64 (IntKind.wrap .i64 (8 * (Int.tmod q 4))))), (63, (.int .i64 (IntKind.wrap .i64 (24 - (IntKind.wrap .i64 (8 * (Int.tmod q 4)))))))] ?_
         obtain ⟨hl9546, H⟩ := V4 H
         refine iS 10 ?_
         refine Qi.shift (op := .shr) (T := 111) (T' := 3) (x := (.tmp 59)) (y := (.tmp 63)) (kx := .u32) (ky := .i64) (a := b5) (b := (IntKind.wrap .i64 (24 - (IntKind.wrap .i64 (8 * (Int.tmod q 4)))))) (v := (.int .u32 (Nm .u32 b5 (IntKind.wrap .i64 (24 - (IntKind.wrap .i64 (8 * (Int.tmod q 4)))))))) (d := (some 64)) (k := 9) K rfl K K (of_decide_eq_true hl9546) rfl ?_
         refine iR 1 11 [(65, (.int .u8 (IntKind.wrap .u8 (Nm .u32 b5 (IntKind.wrap .i64 (24 - (IntKind.wrap .i64 (8 * (Int.tmod q 4)))))))))] ?_
         obtain ⟨l3, f1, f2, l4, H⟩ := Qo H
         refine iS 12 ?_
         refine Ql (e := eU8) (l := a7) (m := 32) (g := b4) (T := 89) (E := 5) (x := (.tmp 8)) (ix := (.tmp 55)) (ki := .i64) (iz := q) (i := 2) (d := (some 66)) (k := 11) K rfl K K K K b0 rfl f1 f2 ?_
         obtain ⟨f3, hyl9551, H⟩ := Zk H
         have hnl9551 : List.length f3 = List.length a7 := by rw [← hyl9551, List.length_set]
         refine iS 13 ?_
         refine Z3 (e := eU8) (t := 5) (x := (.tmp 66)) (y := (.tmp 65)) (l := a7) (iz := q) (m := 32) (g := b4) (b := b4) (off := 0) (i := 2) (v := (.int .u8 (IntKind.wrap .u8 (Nm .u32 b5 (IntKind.wrap .i64 (24 - (IntKind.wrap .i64 (8 * (Int.tmod q 4))))))))) (x' := (Bc (IntKind.wrap .u8 (Nm .u32 b5 (IntKind.wrap .i64 (24 - (IntKind.wrap .i64 (8 * (Int.tmod q 4))))))))) (d := none) (k := 12) K rfl rfl K K b0 rfl rfl f2 f1 (by show [Value.int .u8 (((Bc (IntKind.wrap .u8 (Nm .u32 b5 (IntKind.wrap .i64 (24 - (IntKind.wrap .i64 (8 * (Int.tmod q 4))))))))).toNat : Int)] = _; rw [D5 (Ec _)]) K ?_
         rw [hyl9551]
         intro l5 i3
         refine In.known [] trivial ?_
         refine iF ?_
         refine aR ?_
         refine iR 3 3 [(53, (.int .i64 q)), (54, (.int .i64 (IntKind.wrap .i64 (q + 1)))), (9, (.int .i64 (IntKind.wrap .i64 (q + 1))))] ?_
         refine iF ?_
         exact ⟨f3, (IntKind.wrap .i64 (q + 1)), ⟨K, K, K, K, trivial⟩, SP.sel i3 [0, 1, 2] rfl rfl, H⟩
        ·have H := cf H c7
         refine At.exit K (id := 6) K ?_
         refine aQ ?_
         refine aR ?_
         refine iS 1 ?_
         refine Zu (e := eU8) (l := a7) (m := 32) (t := 89) (x := (.tmp 8)) (g := b4) (i := 2) (d := (some 67)) (k := 0) K rfl K b0 rfl K K ?_
         refine iS 2 ?_
         refine Vf (e := eU8) (l := (List.replicate 32 (0 : UInt8))) (l' := a7) (m := 32) (t := 89) (x := (.tmp 2)) (y := (.tmp 67)) (g := g5) (i := 0) (d := none) (k := 1) K rfl K K i1 b0 rfl K ?_
         intro l6 f4
         refine iF ?_
         refine At.ret K ?_
         refine ⟨(.agg (Qd eU8 a7).toArray), Bs K (G0 (e := eU8) (l := a7) (a := 2) (t := 89) K (SP.get f4 (i := 0) rfl) K K), ?_⟩
         obtain rfl := Qe H
         exact ⟨rfl, SP.sel f4 [] rfl rfl⟩
       ·exact ⟨(List.replicate 32 (0 : UInt8)), 0, ⟨K, K, K, K, trivial⟩, SP.sel i0 [0, 1, 3] rfl rfl, H⟩
     ·exact ⟨([1779033703, 3144134277, 1013904242, 2773480762, 1359893119, 2600822924, 528734635, 1541459225] : List Int), 0, ⟨K, K, K, K, trivial⟩, SP.sel h1 [0, 2, 1] rfl rfl, H⟩
   ·exact ⟨a4, 7, a8, a9, ⟨K, K, K, K, trivial⟩, SP.sel b8 [0, 1] rfl rfl, H⟩
 ·exact ⟨d1, d2, d3, ⟨K, K, K, trivial⟩, SP.sel g2 [0, 1] rfl rfl, H⟩
def Yh (c : (List UInt8) → Int → Option ((List UInt8))) (p1 : (List UInt8)) (b : (List UInt8)) (a : Int) : Option ((List UInt8)) :=
  (cond (decide (a < ((List.length p1 : Nat) : Int))) ((idx p1 a).bind fun d => ((idx ([48, 49, 50, 51, 52, 53, 54, 55, 56, 57, 97, 98, 99, 100, 101, 102] : List UInt8) (IntKind.wrap .u8 (Int.tdiv ((d).toNat : Int) 16))).bind fun e => ((idx p1 a).bind fun f => ((idx ([48, 49, 50, 51, 52, 53, 54, 55, 56, 57, 97, 98, 99, 100, 101, 102] : List UInt8) (Int.tmod ((f).toNat : Int) 16)).bind fun g => ((app b ([e, g] : List UInt8)).bind fun h => (c h (IntKind.wrap .i64 (a + 1)))))))) (some (b)))
def Yi (p1 : (List UInt8)) : Nat → (List UInt8) → Int → Option ((List UInt8))
  | 0, _, _ => none
  | f + 1, a, b => Yh  (Yi p1 f) p1 a b
def G1 (p1 : (List UInt8)) : Option ((List UInt8)) :=
  (Yi p1 Zj ([] : List UInt8) 0)
theorem C7 (A2 : Option Addr) (c3 : Nat) (p1 : (List UInt8)) (w0 : World) (b0 : RdT eU8 w0 A2 c3 p1) (r : ((List UInt8))) (H : G1 p1 = some r) :
  Calls Tryz.prog 55 #[(.slice A2 (List.length p1) c3)] w0 (fun e w' => e = .returned (.string ⟨List.toArray r⟩) ∧ SP [] w0 w' []) := by
 unfold G1 at H
 refine Qs (n := 31) Tryz.func55 K K K ?_
 have c4 := Q0 [] w0
 refine aQ ?_
 refine aR ?_
 refine iR 1 1 [(2, (.string ⟨List.toArray ([] : List UInt8)⟩))] ?_
 refine iF ?_
 refine aQ ?_
 refine aR ?_
 refine iR 1 1 [(3, (.string ⟨List.toArray ([48, 49, 50, 51, 52, 53, 54, 55, 56, 57, 97, 98, 99, 100, 101, 102] : List UInt8)⟩))] ?_
 refine iF ?_
 refine aQ ?_
 refine aR ?_
 refine iR 1 1 [(4, (.slice none (List.length ([] : List UInt8)) 0))] ?_
 refine iF ?_
 refine aQ ?_
 refine aQ ?_
 refine aR ?_
 refine iR 1 1 [(5, (.int .i64 0))] ?_
 refine iF ?_
 refine Z1 K (id := 0) K ?_
 refine Nl K (fun f1 ρ w => ∃ (t : (List UInt8)) (f : Int) (a0 : Option Addr) (a1 : Nat), V6 ρ [(0, (.slice A2 (List.length p1) c3)), (3, (.string ⟨List.toArray ([48, 49, 50, 51, 52, 53, 54, 55, 56, 57, 97, 98, 99, 100, 101, 102] : List UInt8)⟩)), (4, (.slice a0 (List.length t) a1)), (5, (.int .i64 f))] ∧ SP [] w0 w [Yc 5 eU8 a0 a1 t] ∧ Yi p1 f1 t f = some r) (by rintro ρ w ⟨t, f, a0, a1, hk, hs, H⟩; cases H) ?_ Zj ?_
 ·rintro f1 ρ g0 ⟨t, f, a0, a1, hk, b2, H⟩
  refine At.known [(0, (.slice A2 (List.length p1) c3)), (3, (.string ⟨List.toArray ([48, 49, 50, 51, 52, 53, 54, 55, 56, 57, 97, 98, 99, 100, 101, 102] : List UInt8)⟩)), (4, (.slice a0 (List.length t) a1)), (5, (.int .i64 f))] hk ?_
  replace H := (show Yh (Yi p1 f1) p1 t f = some r from H)
  unfold Yh at H
  refine aQ ?_
  refine aQ ?_
  refine aR ?_
  refine iR 4 4 [(6, (.int .i64 f)), (7, (.slice A2 (List.length p1) c3)), (8, (.int .i64 ((List.length p1 : Nat) : Int))), (9, (.bool (decide (f < ((List.length p1 : Nat) : Int)))))] ?_
  refine iF ?_
  refine V1 K (o := (.tmp 9)) K (b := (decide (f < ((List.length p1 : Nat) : Int)))) K (fun b3 => ?_) (fun b3 => ?_)
  ·have H := ct H b3
   refine At.skip K ?_
   refine aQ ?_
   refine Z1 K (id := 1) K ?_
   obtain ⟨a8, b5, b6, c5, H⟩ := Qo H
   obtain ⟨g, c6, g1, c7, H⟩ := Qo H
   obtain ⟨a9, b7, b8, c8, H⟩ := Qo H
   obtain ⟨p, c9, g2, d0, H⟩ := Qo H
   obtain ⟨hl270, H⟩ := Uh H
   obtain ⟨a2, hyl271⟩ : ∃ y, t ++ ([g, p] : List UInt8) = y := ⟨_, rfl⟩
   rw [hyl271] at H
   refine aG [GEq (.slice a0 (List.length t) a1), GEq (.string ⟨List.toArray ([48, 49, 50, 51, 52, 53, 54, 55, 56, 57, 97, 98, 99, 100, 101, 102] : List UInt8)⟩), GEq (.slice A2 (List.length p1) c3), GEq (.int .i64 f), Vr A2 eU8.sz f, GEq (.int .u8 ((a8).toNat : Int)), GEq (.int .u8 (IntKind.wrap .u8 (Int.tdiv ((a8).toNat : Int) 16))), GEq (.int .u8 ((g).toNat : Int)), GEq (.string ⟨List.toArray ([48, 49, 50, 51, 52, 53, 54, 55, 56, 57, 97, 98, 99, 100, 101, 102] : List UInt8)⟩), GEq (.slice A2 (List.length p1) c3), GEq (.int .i64 f), Vr A2 eU8.sz f, GEq (.int .u8 ((a9).toNat : Int)), GEq (.int .u8 (Int.tmod ((a9).toNat : Int) 16)), GEq (.int .u8 ((p).toNat : Int)), Ey, Ey, Ey] [15, 16, 17] [([], fun vs w => VL vs [] ∧ SP [] w0 w [Yc 5 eU8 a0 a1 t]), ([15], fun vs w => ∃ (a3 : Nat), VL vs [(.slice (some ⟨a3, 0, none⟩) (List.length ([g, p] : List UInt8)) (List.length ([g, p] : List UInt8)))] ∧ SP [] w0 w [Yc 5 eU8 a0 a1 t, Yc 5 eU8 (some ⟨a3, 0, none⟩) (List.length ([g, p] : List UInt8)) ([g, p] : List UInt8)]), ([15, 16], fun vs w => ∃ (b1 : Nat), ∃ (a4 : Option Addr), ∃ (a5 : Nat), VL vs [(.slice (some ⟨b1, 0, none⟩) (List.length ([g, p] : List UInt8)) (List.length ([g, p] : List UInt8))), (.slice a4 (List.length a2) a5)] ∧ SP [] w0 w [Yc 5 eU8 a4 a5 a2, Yc 5 eU8 (some ⟨b1, 0, none⟩) (List.length ([g, p] : List UInt8)) ([g, p] : List UInt8)]), ([15, 16, 17], fun vs w => ∃ (b4 : Nat), ∃ (a6 : Option Addr), ∃ (a7 : Nat), VL vs [(.slice (some ⟨b4, 0, none⟩) (List.length ([g, p] : List UInt8)) (List.length ([g, p] : List UInt8))), (.slice a6 (List.length a2) a7), (.slice a6 (List.length a2) a7)] ∧ SP [] w0 w [Yc 5 eU8 a6 a7 a2, Yc 5 eU8 (some ⟨b4, 0, none⟩) (List.length ([g, p] : List UInt8)) ([g, p] : List UInt8)])] 18 3 ⟨trivial, SP.drew b2⟩ ?_ ?_
   iterate 18 refine And.intro ?_ ?_
   exact trivial
   ·exact oV (hC (hS 4 (.slice a0 (List.length t) a1)) (h0)) (.slice a0 (List.length t) a1)
   ·exact oV (hC (hS 3 (.string ⟨List.toArray ([48, 49, 50, 51, 52, 53, 54, 55, 56, 57, 97, 98, 99, 100, 101, 102] : List UInt8)⟩)) (h0)) (.string ⟨List.toArray ([48, 49, 50, 51, 52, 53, 54, 55, 56, 57, 97, 98, 99, 100, 101, 102] : List UInt8)⟩)
   ·exact oV (hC (hS 0 (.slice A2 (List.length p1) c3)) (h0)) (.slice A2 (List.length p1) c3)
   ·exact oV (hC (hS 5 (.int .i64 f)) (h0)) (.int .i64 f)
   ·refine oL 0 ?_
    ·rintro ρ' w' hs q ⟨g3, d1⟩
     refine kM (kc (kA q 2 14) (kc (kA q 3 15) k0)) fun z => ?_
     refine Vi (e := eU8) (l := p1) (A := A2) (c := c3) (T := 52) (E := 5) (x := (.tmp 14)) (ix := (.tmp 15)) (ki := .i64) (iz := f) (d := (some 16)) (k := 4) K rfl K K K K (RdT.sp b0 d1) b5 b6 ?_
     intro d2 d3 d4 g4 hc303
     exact ⟨rfl, _, Qa z, ⟨d2, d3, d4, rfl⟩⟩
   ·refine oL 0 ?_
    ·rintro ρ' w' hs q ⟨g5, d5⟩
     obtain ⟨d6, d7, d8, d9⟩ := q 4 16 K
     refine kM (kc d9 k0) fun z => ?_
     refine sC 5 16 d6 (d7 + Int.toNat f * eU8.sz) (.int .u8 ((a8).toNat : Int)) 17 (Qk (e := eU8) (Qh (RdT.sp b0 d5) d8 b5 b6) c5 (j := 0) rfl) ?_
     exact eK z
   ·exact oV (hC (hA 5 17) (h0)) (.int .u8 (IntKind.wrap .u8 (Int.tdiv ((a8).toNat : Int) 16)))
   ·refine oL 0 ?_
    ·rintro ρ' w' hs q ⟨g6, g7⟩
     refine kM (kc (kA q 1 13) (kc (kA q 6 18) k0)) fun z => ?_
     refine Gr (a := ([48, 49, 50, 51, 52, 53, 54, 55, 56, 57, 97, 98, 99, 100, 101, 102] : List UInt8)) (u := g) (T := 9) (x := (.tmp 13)) (ix := (.tmp 18)) (ki := .u8) (iz := (IntKind.wrap .u8 (Int.tdiv ((a8).toNat : Int) 16))) (d := (some 19)) (k := 7) K rfl K K K c6 c7 ?_
     exact eK z
   ·exact oV (hC (hS 3 (.string ⟨List.toArray ([48, 49, 50, 51, 52, 53, 54, 55, 56, 57, 97, 98, 99, 100, 101, 102] : List UInt8)⟩)) (h0)) (.string ⟨List.toArray ([48, 49, 50, 51, 52, 53, 54, 55, 56, 57, 97, 98, 99, 100, 101, 102] : List UInt8)⟩)
   ·exact oV (hC (hS 0 (.slice A2 (List.length p1) c3)) (h0)) (.slice A2 (List.length p1) c3)
   ·exact oV (hC (hS 5 (.int .i64 f)) (h0)) (.int .i64 f)
   ·refine oL 0 ?_
    ·rintro ρ' w' hs q ⟨g8, e0⟩
     refine kM (kc (kA q 9 21) (kc (kA q 10 22) k0)) fun z => ?_
     refine Vi (e := eU8) (l := p1) (A := A2) (c := c3) (T := 52) (E := 5) (x := (.tmp 21)) (ix := (.tmp 22)) (ki := .i64) (iz := f) (d := (some 23)) (k := 11) K rfl K K K K (RdT.sp b0 e0) b7 b8 ?_
     intro e1 e2 e3 g9 hc317
     exact ⟨rfl, _, Qa z, ⟨e1, e2, e3, rfl⟩⟩
   ·refine oL 0 ?_
    ·rintro ρ' w' hs q ⟨h1, e4⟩
     obtain ⟨e5, e6, e7, e8⟩ := q 11 23 K
     refine kM (kc e8 k0) fun z => ?_
     refine sC 5 23 e5 (e6 + Int.toNat f * eU8.sz) (.int .u8 ((a9).toNat : Int)) 24 (Qk (e := eU8) (Qh (RdT.sp b0 e4) e7 b7 b8) c8 (j := 0) rfl) ?_
     exact eK z
   ·exact oV (hC (hA 12 24) (h0)) (.int .u8 (Int.tmod ((a9).toNat : Int) 16))
   ·refine oL 0 ?_
    ·rintro ρ' w' hs q ⟨h2, h3⟩
     refine kM (kc (kA q 8 20) (kc (kA q 13 25) k0)) fun z => ?_
     refine Gr (a := ([48, 49, 50, 51, 52, 53, 54, 55, 56, 57, 97, 98, 99, 100, 101, 102] : List UInt8)) (u := p) (T := 9) (x := (.tmp 20)) (ix := (.tmp 25)) (ki := .u8) (iz := (Int.tmod ((a9).toNat : Int) 16)) (d := (some 26)) (k := 14) K rfl K K K c9 d0 ?_
     exact eK z
   ·refine oH 0 1 ?_
    ·rintro ρ' w' hs q ⟨h4, e9⟩
     refine kM (kc (kA q 7 19) (kc (kA q 14 26) k0)) fun z => ?_
     refine Zv (e := eU8) (T := 52) (E := 5) (len := 2) (parts := #[(0, (.tmp 19)), (1, (.tmp 26))]) (cs := #[(.int .u8 ((g).toNat : Int)), (.int .u8 ((p).toNat : Int))]) ([g, p] : List UInt8) (d := (some 27)) (k := 15) K rfl (fun _ => K) e9 (Gs (Or.inl rfl) (Gs (Or.inl rfl) rfl)) rfl rfl rfl ?_
     intro f0 h5 f2
     refine ⟨_, Qa z, trivial, ?_⟩
     exact (Exists.intro f0 (And.intro (And.intro rfl (trivial)) (f2)))
   ·refine oH 1 2 ?_
    ·rintro ρ' w' hs q ⟨a3, ⟨b9, -⟩, c0⟩
     refine kN [(12, (.slice a0 (List.length t) a1)), (27, (.slice (some ⟨a3, 0, none⟩) (List.length ([g, p] : List UInt8)) (List.length ([g, p] : List UInt8))))] ⟨q 0 12 K, (Jd (h := 15) K).symm.trans b9, trivial⟩ fun z => ?_
     refine Qi.append (e := eU8) (l := t) (m := ([g, p] : List UInt8)) (A := a0) (c := a1) (T := 52) (TX := 52) (E := 5) (b := 1) (s := (.tmp 12)) (x := (.tmp 27)) (i := 0) (vx := (.slice (some ⟨a3, 0, none⟩) (List.length ([g, p] : List UInt8)) (List.length ([g, p] : List UInt8)))) (d := (some 28)) (k := 16) K rfl K K K K rfl c0 rfl (Rk (E := 5) K (Vs (SP.get c0 (i := 1) rfl))) hl270 ?_
     rw [hyl271]
     intro f3 f4 h6 f5
     refine ⟨_, Qa z, trivial, ?_⟩
     exact (Exists.intro a3 (Exists.intro f3 (Exists.intro f4 (And.intro (And.intro b9 (And.intro rfl (trivial))) (f5)))))
   ·refine oH 2 3 ?_
    ·rintro ρ' w' hs q ⟨b1, a4, a5, ⟨f6, c1, -⟩, f7⟩
     refine kN [(28, (.slice a4 (List.length a2) a5))] ⟨(Jd (h := 16) K).symm.trans c1, trivial⟩ fun z => ?_
     refine Qi.run (k := 17) (v := (.slice a4 (List.length a2) a5)) K ?_
     refine ⟨_, Qa z, trivial, ?_⟩
     exact (Exists.intro b1 (Exists.intro a4 (Exists.intro a5 (And.intro (And.intro f6 (And.intro c1 (And.intro rfl (trivial)))) (f7)))))
   ·rintro ρ' w' hs hf ⟨b4, a6, a7, ⟨h7, h8, f8, -⟩, c2⟩
    refine Q3 [(0, (.slice A2 (List.length p1) c3)), (3, (.string ⟨List.toArray ([48, 49, 50, 51, 52, 53, 54, 55, 56, 57, 97, 98, 99, 100, 101, 102] : List UInt8)⟩)), (4, (.slice a6 (List.length a2) a7)), (5, (.int .i64 f))] ⟨(hs 0 K).trans K, (hs 3 K).trans K, (Jd (h := 17) K).symm.trans f8, (hs 5 K).trans K, trivial⟩ ?_
    obtain ⟨h9, f9⟩ : ∃ x, w' = x := ⟨_, rfl⟩
    rw [f9] at c2 ⊢
    refine aR ?_
    refine iR 3 3 [(10, (.int .i64 f)), (11, (.int .i64 (IntKind.wrap .i64 (f + 1)))), (5, (.int .i64 (IntKind.wrap .i64 (f + 1))))] ?_
    refine iF ?_
    exact ⟨a2, (IntKind.wrap .i64 (f + 1)), a6, a7, ⟨K, K, K, K, trivial⟩, SP.sel c2 [0] rfl rfl, H⟩
  ·have H := cf H b3
   refine At.exit K (id := 0) K ?_
   refine aQ ?_
   refine aR ?_
   refine iR 1 1 [(29, (.slice a0 (List.length t) a1))] ?_
   refine iS 2 ?_
   refine I3 (T := 52) (S' := 9) (E := 5) (x := (.tmp 29)) (A := a0) (c := a1) (l := t) (d := (some 30)) (k := 1) K rfl K K K K (Vs (SP.get b2 (i := 0) rfl)) ?_
   refine iR 1 3 [(2, (.string ⟨List.toArray t⟩))] ?_
   refine iF ?_
   refine At.ret K ?_
   refine ⟨(.string ⟨List.toArray t⟩), K, ?_⟩
   obtain rfl := Qe H
   exact ⟨rfl, SP.sel b2 [] rfl rfl⟩
 ·exact ⟨([] : List UInt8), 0, none, 0, ⟨K, K, K, K, trivial⟩, SP.sel (D4 c4 5 eU8) [0] rfl rfl, H⟩
end Go.Proofs.YtmgfanhcdfobhaaGreatDoor
namespace Go.Proofs.YtmgfanhcdfobhaaGreatDoor
theorem If (x : BitVec 32) : IntKind.wrap .u32 (x.toNat : Int) = (x.toNat : Int) := by
  have := x.isLt
  unfold IntKind.wrap
  simp only [IntKind.bits, IntKind.signed]
  simp
  omega
theorem Kq (x : BitVec 32) : BitVec.ofInt 32 (x.toNat : Int) = x := by
  rw [BitVec.ofInt_natCast, BitVec.ofNat_toNat, BitVec.setWidth_eq]
theorem bAnd_bv (a b : Int) : Zt .u32 a b = ((BitVec.ofInt 32 a &&& BitVec.ofInt 32 b).toNat : Int) := If _
theorem Og (a b : Int) : bOr .u32 a b = ((BitVec.ofInt 32 a ||| BitVec.ofInt 32 b).toNat : Int) := If _
theorem bXor_bv (a b : Int) : V7 .u32 a b = ((BitVec.ofInt 32 a ^^^ BitVec.ofInt 32 b).toNat : Int) := If _
theorem bOr_comm (a b : Int) : bOr .u32 a b = bOr .u32 b a := by rw [Og, Og, BitVec.or_comm]
theorem ch_eq (a b c : Int) : V7 .u32 c (Zt .u32 a (V7 .u32 b c)) = V7 .u32 (Zt .u32 a b) (Zt .u32 (V7 .u32 (IntKind.max .u32) a) c) := by
  simp only [bXor_bv, bAnd_bv, Kq]
  have hm : BitVec.ofInt 32 (IntKind.max .u32) = BitVec.allOnes 32 := by decide
  rw [hm]
  generalize BitVec.ofInt 32 a = x
  generalize BitVec.ofInt 32 b = y
  generalize BitVec.ofInt 32 c = z
  congr 2
  apply BitVec.eq_of_getLsbD_eq
  intro i hi
  simp only [BitVec.getLsbD_xor, BitVec.getLsbD_and, BitVec.getLsbD_or, BitVec.getLsbD_allOnes, hi, decide_true]
  cases x.getLsbD i <;> cases y.getLsbD i <;> cases z.getLsbD i <;> rfl
theorem maj_eq (a b c : Int) : bOr .u32 (Zt .u32 a (bOr .u32 b c)) (Zt .u32 b c) = V7 .u32 (V7 .u32 (Zt .u32 a b) (Zt .u32 a c)) (Zt .u32 b c) := by
  simp only [bXor_bv, bAnd_bv, Og, Kq]
  generalize BitVec.ofInt 32 a = x
  generalize BitVec.ofInt 32 b = y
  generalize BitVec.ofInt 32 c = z
  congr 2
  apply BitVec.eq_of_getLsbD_eq
  intro i hi
  simp only [BitVec.getLsbD_xor, BitVec.getLsbD_and, BitVec.getLsbD_or, BitVec.getLsbD_allOnes, hi, decide_true]
  cases x.getLsbD i <;> cases y.getLsbD i <;> cases z.getLsbD i <;> rfl
def rotI (x n : Int) : Int := bOr .u32 (Nm .u32 x n) (Ns .u32 x (32 - n))
def smlI (x a b c : Int) : Int := V7 .u32 (V7 .u32 (rotI x a) (rotI x b)) (Nm .u32 x c)
def grtI (x a b c : Int) : Int := V7 .u32 (V7 .u32 (rotI x a) (rotI x b)) (rotI x c)
theorem C0 (x n : Int) (h1 : Zt .u64 (IntKind.wrap .u64 (IntKind.wrap .i64 (0 - n))) 31 = 32 - n) (h2 : IntKind.wrap .u64 (32 - (32 - n)) = n) (h3 : 0 ≤ n ∧ n ≤ 32) : Z4 x (IntKind.wrap .i64 (0 - n)) = some (rotI x n) := by
  unfold Z4
  rw [h1, h2]
  rw [show decide (0 ≤ 32 - n) = true by simp; omega, show decide (0 ≤ n) = true by simp; omega]
  simp only [chk, Option.bind_some]
  rw [bOr_comm]
  rfl
theorem Ig (x n : Int) (h1 : IntKind.wrap .i64 (32 - n) = 32 - n) (h3 : 0 ≤ n ∧ n ≤ 32) : Xr x n = some (rotI x n) := by
  unfold Xr
  rw [h1, show decide (0 ≤ 32 - n) = true by simp; omega, show decide (0 ≤ n) = true by simp; omega]
  rfl
theorem mix_17 (x : Int) : Z7 x [17, 19, 10] true = some (smlI x 17 19 10) := by
  have a := C0 x 17 (by decide) (by decide) (by decide)
  have b := C0 x 19 (by decide) (by decide) (by decide)
  have c := C0 x 10 (by decide) (by decide) (by decide)
  unfold Z7 Yw
  simp only [idx, Int.toNat, List.getElem?_cons_zero, List.getElem?_cons_succ, Option.bind_some, cond_true, chk, Int.reduceLE, if_true, decide_true, a, b, c]
  rfl
theorem mix_7 (x : Int) : Z7 x [7, 18, 3] true = some (smlI x 7 18 3) := by
  have a := C0 x 7 (by decide) (by decide) (by decide)
  have b := C0 x 18 (by decide) (by decide) (by decide)
  have c := C0 x 3 (by decide) (by decide) (by decide)
  unfold Z7 Yw
  simp only [idx, Int.toNat, List.getElem?_cons_zero, List.getElem?_cons_succ, Option.bind_some, cond_true, chk, Int.reduceLE, if_true, decide_true, a, b, c]
  rfl
theorem mix_6 (x : Int) : Z7 x [6, 11, 25] false = some (grtI x 6 11 25) := by
  have a := C0 x 6 (by decide) (by decide) (by decide)
  have b := C0 x 11 (by decide) (by decide) (by decide)
  have c := C0 x 25 (by decide) (by decide) (by decide)
  unfold Z7 Yw
  simp only [idx, Int.toNat, List.getElem?_cons_zero, List.getElem?_cons_succ, Option.bind_some, cond_false, chk, Int.reduceLE, if_true, decide_true, a, b, c]
  rfl
theorem mix_2 (x : Int) : Z7 x [2, 13, 22] false = some (grtI x 2 13 22) := by
  have a := C0 x 2 (by decide) (by decide) (by decide)
  have b := C0 x 13 (by decide) (by decide) (by decide)
  have c := C0 x 22 (by decide) (by decide) (by decide)
  unfold Z7 Yw
  simp only [idx, Int.toNat, List.getElem?_cons_zero, List.getElem?_cons_succ, Option.bind_some, cond_false, chk, Int.reduceLE, if_true, decide_true, a, b, c]
  rfl
theorem Oh (x a b c : Int) (ha : IntKind.wrap .i64 (32 - a) = 32 - a) (hb : IntKind.wrap .i64 (32 - b) = 32 - b) (h : (0 ≤ a ∧ a ≤ 32) ∧ (0 ≤ b ∧ b ≤ 32) ∧ 0 ≤ c) : Jn x a b c = some (smlI x a b c) := by
  unfold Jn
  rw [Ig x a ha h.1, Ig x b hb h.2.1, show decide (0 ≤ c) = true by simp; omega]
  rfl
theorem Oi (x a b c : Int) (ha : IntKind.wrap .i64 (32 - a) = 32 - a) (hb : IntKind.wrap .i64 (32 - b) = 32 - b) (hc : IntKind.wrap .i64 (32 - c) = 32 - c) (h : (0 ≤ a ∧ a ≤ 32) ∧ (0 ≤ b ∧ b ≤ 32) ∧ (0 ≤ c ∧ c ≤ 32)) : Jo x a b c = some (grtI x a b c) := by
  unfold Jo
  rw [Ig x a ha h.1, Ig x b hb h.2.1, Ig x c hc h.2.2]
  rfl
theorem Ml {α : Type} (l : List α) (i : Nat) (x d : α) (h : i < l.length) : (l.set i x).getD i d = x := by simp [List.getD, h]
theorem Mm {α : Type} (l : List α) (i j : Nat) (x d : α) (h : i ≠ j) : (l.set i x).getD j d = l.getD j d := by simp [List.getD, List.getElem?_set, h]
theorem Zi {α : Type} (l : List α) (i : Nat) (d : α) (h : i < l.length) : idx l (i : Int) = some (l.getD i d) := by rw [Jt h]; simp [List.getD, h]
def wordI (b0 b1 b2 b3 : UInt8) : Int := bOr .u32 (bOr .u32 (bOr .u32 (Ns .u32 (IntKind.wrap .u32 ((b0).toNat : Int)) 24) (Ns .u32 (IntKind.wrap .u32 ((b1).toNat : Int)) 16)) (Ns .u32 (IntKind.wrap .u32 ((b2).toNat : Int)) 8)) (IntKind.wrap .u32 ((b3).toNat : Int))
def mixI (w : List Int) (t : Nat) : Int := IntKind.wrap .u32 (IntKind.wrap .u32 (IntKind.wrap .u32 (smlI (w.getD (t - 2) 0) 17 19 10 + w.getD (t - 7) 0) + smlI (w.getD (t - 15) 0) 7 18 3) + w.getD (t - 16) 0)
def Dz (b : List UInt8) : Nat → List Int
  | 0 => List.replicate 64 0
  | t + 1 => (Dz b t).set t (if t < 16 then wordI (b.getD (4 * t) 0) (b.getD (4 * t + 1) 0) (b.getD (4 * t + 2) 0) (b.getD (4 * t + 3) 0) else mixI (Dz b t) t)
theorem Gv (b : List UInt8) : ∀ t, (Dz b t).length = 64
  | 0 => by simp [Dz]
  | t + 1 => by simp [Dz, Gv b t]
theorem Lk (b : List UInt8) : ∀ t q, t ≤ q → (Dz b t).getD q 0 = 0
  | 0, q, _ => by simp only [Dz, List.getD, List.getElem?_replicate]; split <;> rfl
  | t + 1, q, h => by
    simp only [Dz]
    rw [Mm _ _ _ _ _ (by omega)]
    exact Lk b t q (by omega)
theorem ref_sched (b : List UInt8) (hb : 64 ≤ b.length) : ∀ (d t f : Nat), d = 64 - t → t ≤ 64 → d < f → Zm b f (Dz b t) (t : Int) = some (Dz b 64) := by
  intro d
  induction d with
  | zero =>
    intro t f hd ht hf
    obtain ⟨f, rfl⟩ : ∃ g, f = g + 1 := ⟨f - 1, by omega⟩
    have : t = 64 := by omega
    subst this
    rfl
  | succ d ih =>
    intro t f hd ht hf
    obtain ⟨f, rfl⟩ : ∃ g, f = g + 1 := ⟨f - 1, by omega⟩
    show Yr (Zm b f) b (Dz b t) (t : Int) = _
    unfold Yr Yq
    have hl := Gv b t
    have hnext : ∀ x, (Dz b (t + 1)) = x → Zm b f x (IntKind.wrap .i64 ((t : Int) + 1)) = some (Dz b 64) := by
      intro x hx
      rw [show ((t : Int) + 1) = ((t + 1 : Nat) : Int) by omega, Xh (by omega), ← hx]
      exact ih (t + 1) f (by omega) (by omega) (by omega)
    rw [show decide ((t : Int) < 64) = true by simp; omega, cond_true]
    by_cases h16 : t < 16
    · have e0 : IntKind.wrap .i64 (4 * (t : Int)) = ((4 * t : Nat) : Int) := by rw [show (4 * (t : Int)) = ((4 * t : Nat) : Int) by omega, Xh (by omega)]
      have e1 : IntKind.wrap .i64 (((4 * t : Nat) : Int) + 1) = ((4 * t + 1 : Nat) : Int) := by rw [show (((4 * t : Nat) : Int) + 1) = ((4 * t + 1 : Nat) : Int) by omega, Xh (by omega)]
      have e2 : IntKind.wrap .i64 (((4 * t : Nat) : Int) + 2) = ((4 * t + 2 : Nat) : Int) := by rw [show (((4 * t : Nat) : Int) + 2) = ((4 * t + 2 : Nat) : Int) by omega, Xh (by omega)]
      have e3 : IntKind.wrap .i64 (((4 * t : Nat) : Int) + 3) = ((4 * t + 3 : Nat) : Int) := by rw [show (((4 * t : Nat) : Int) + 3) = ((4 * t + 3 : Nat) : Int) by omega, Xh (by omega)]
      rw [show decide ((t : Int) < 16) = true by simp; omega, cond_true, e0, e1, e2, e3]
      rw [Zi b (4 * t) 0 (by omega), Zi b (4 * t + 1) 0 (by omega), Zi b (4 * t + 2) 0 (by omega), Zi b (4 * t + 3) 0 (by omega), Zi (Dz b t) t 0 (by omega)]
      simp only [Option.bind_some, Int.toNat_natCast]
      exact hnext _ (by simp only [Dz]; rw [if_pos h16]; rfl)
    · have e2 : IntKind.wrap .i64 ((t : Int) - 2) = ((t - 2 : Nat) : Int) := by rw [show ((t : Int) - 2) = ((t - 2 : Nat) : Int) by omega, Xh (by omega)]
      have e7 : IntKind.wrap .i64 ((t : Int) - 7) = ((t - 7 : Nat) : Int) := by rw [show ((t : Int) - 7) = ((t - 7 : Nat) : Int) by omega, Xh (by omega)]
      have e15 : IntKind.wrap .i64 ((t : Int) - 15) = ((t - 15 : Nat) : Int) := by rw [show ((t : Int) - 15) = ((t - 15 : Nat) : Int) by omega, Xh (by omega)]
      have e16 : IntKind.wrap .i64 ((t : Int) - 16) = ((t - 16 : Nat) : Int) := by rw [show ((t : Int) - 16) = ((t - 16 : Nat) : Int) by omega, Xh (by omega)]
      rw [show decide ((t : Int) < 16) = false by simp; omega, cond_false, e2, e7, e15, e16]
      rw [Zi (Dz b t) (t - 2) 0 (by omega), Zi (Dz b t) (t - 7) 0 (by omega), Zi (Dz b t) (t - 15) 0 (by omega), Zi (Dz b t) (t - 16) 0 (by omega), Zi (Dz b t) t 0 (by omega)]
      simp only [Option.bind_some, Int.toNat_natCast]
      rw [Oh _ 17 19 10 (by decide) (by decide) (by decide), Oh _ 7 18 3 (by decide) (by decide) (by decide)]
      simp only [Option.bind_some]
      exact hnext _ (by simp only [Dz]; rw [if_neg h16]; rfl)
theorem O8 (rec4 : List Int → Int → Option (List Int)) (b : List UInt8) : ∀ (d t f : Nat), d = 64 - t → 16 ≤ t → t ≤ 64 → d < f → Jl rec4 f (Dz b t) (t : Int) = some (Dz b 64) := by
  intro d
  induction d with
  | zero =>
    intro t f hd h16 ht hf
    obtain ⟨f, rfl⟩ : ∃ g, f = g + 1 := ⟨f - 1, by omega⟩
    have : t = 64 := by omega
    subst this
    rfl
  | succ d ih =>
    intro t f hd h16 ht hf
    obtain ⟨f, rfl⟩ : ∃ g, f = g + 1 := ⟨f - 1, by omega⟩
    show No rec4 (Jl rec4 f) (Dz b t) (t : Int) = _
    unfold No
    have hl := Gv b t
    have hnext : ∀ x, (Dz b (t + 1)) = x → Jl rec4 f x (IntKind.wrap .i64 ((t : Int) + 1)) = some (Dz b 64) := by
      intro x hx
      rw [show ((t : Int) + 1) = ((t + 1 : Nat) : Int) by omega, Xh (by omega), ← hx]
      exact ih (t + 1) f (by omega) (by omega) (by omega) (by omega)
    rw [show decide ((t : Int) < 64) = true by simp; omega, cond_true]
    have e2 : IntKind.wrap .i64 ((t : Int) - 2) = ((t - 2 : Nat) : Int) := by rw [show ((t : Int) - 2) = ((t - 2 : Nat) : Int) by omega, Xh (by omega)]
    have e7 : IntKind.wrap .i64 ((t : Int) - 7) = ((t - 7 : Nat) : Int) := by rw [show ((t : Int) - 7) = ((t - 7 : Nat) : Int) by omega, Xh (by omega)]
    have e15 : IntKind.wrap .i64 ((t : Int) - 15) = ((t - 15 : Nat) : Int) := by rw [show ((t : Int) - 15) = ((t - 15 : Nat) : Int) by omega, Xh (by omega)]
    have e16 : IntKind.wrap .i64 ((t : Int) - 16) = ((t - 16 : Nat) : Int) := by rw [show ((t : Int) - 16) = ((t - 16 : Nat) : Int) by omega, Xh (by omega)]
    rw [e2, e7, e15, e16]
    rw [Zi (Dz b t) (t - 2) 0 (by omega), Zi (Dz b t) (t - 7) 0 (by omega), Zi (Dz b t) (t - 15) 0 (by omega), Zi (Dz b t) (t - 16) 0 (by omega), Zi (Dz b t) t 0 (by omega)]
    simp only [Option.bind_some, Int.toNat_natCast, mix_17, mix_7]
    exact hnext _ (by simp only [Dz]; rw [if_neg (by omega)]; rfl)
def O9 (b : List UInt8) : Nat → List Int
  | 0 => List.replicate 64 0
  | i + 1 => (O9 b i).set (i / 4) (bOr .u32 (Ns .u32 ((O9 b i).getD (i / 4) 0) 8) (IntKind.wrap .u32 ((b.getD i 0).toNat : Int)))
theorem Fc (b : List UInt8) : ∀ t, (O9 b t).length = 64
  | 0 => by simp [O9]
  | t + 1 => by simp [O9, Fc b t]
theorem byte_bv (c : UInt8) : IntKind.wrap .u32 ((c.toNat : Nat) : Int) = (((c.toBitVec.setWidth 32 : BitVec 32)).toNat : Int) := by
  have h1 := c.toNat_lt
  have : (c.toBitVec.setWidth 32 : BitVec 32).toNat = c.toNat := by
    rw [BitVec.toNat_setWidth]
    show c.toNat % 2 ^ 32 = _
    omega
  rw [this]
  unfold IntKind.wrap
  simp only [IntKind.bits, IntKind.signed]
  simp
  omega
theorem Mn (x : BitVec 32) (n : Nat) (h : n < 32) : Ns .u32 (x.toNat : Int) (n : Int) = ((x <<< n).toNat : Int) := by
  have hx := x.isLt
  unfold Ns
  have hmin : min (n : Int).toNat (IntKind.bits .u32) = n := by show min n 32 = n; omega
  rw [hmin]
  have h2 : ((x.toNat : Int) * 2 ^ n) = ((x.toNat * 2 ^ n : Nat) : Int) := by push_cast; rfl
  rw [h2]
  unfold IntKind.wrap
  simp only [IntKind.bits, IntKind.signed]
  rw [BitVec.toNat_shiftLeft, Nat.shiftLeft_eq]
  simp
theorem word_eq (b0 b1 b2 b3 : UInt8) : bOr .u32 (Ns .u32 (bOr .u32 (Ns .u32 (bOr .u32 (Ns .u32 (bOr .u32 (Ns .u32 0 8) (IntKind.wrap .u32 (b0.toNat : Int))) 8) (IntKind.wrap .u32 (b1.toNat : Int))) 8) (IntKind.wrap .u32 (b2.toNat : Int))) 8) (IntKind.wrap .u32 (b3.toNat : Int)) = wordI b0 b1 b2 b3 := by
  unfold wordI
  have h0 : (0 : Int) = ((0 : BitVec 32).toNat : Int) := rfl
  have s8 : ∀ x : BitVec 32, Ns .u32 (x.toNat : Int) 8 = ((x <<< 8).toNat : Int) := fun x => Mn x 8 (by omega)
  have s16 : ∀ x : BitVec 32, Ns .u32 (x.toNat : Int) 16 = ((x <<< 16).toNat : Int) := fun x => Mn x 16 (by omega)
  have s24 : ∀ x : BitVec 32, Ns .u32 (x.toNat : Int) 24 = ((x <<< 24).toNat : Int) := fun x => Mn x 24 (by omega)
  rw [h0]
  simp only [byte_bv, s8, s16, s24, Og, Kq]
  congr 2
  apply BitVec.eq_of_getLsbD_eq
  intro i hi
  simp only [BitVec.getLsbD_or, BitVec.getLsbD_shiftLeft, BitVec.getLsbD_setWidth, BitVec.getLsbD_zero, hi, decide_true, Bool.true_and, Bool.and_false, Bool.false_or]
  by_cases h8 : i < 8
  · simp [h8, show i < 16 by omega, show i < 24 by omega]
  · by_cases h16 : i < 16
    · simp [h8, h16, show i < 24 by omega, show i - 8 < 8 by omega, show i - 8 < 32 by omega]
    · by_cases h24 : i < 24
      · simp [h8, h16, h24, show ¬ i - 8 < 8 by omega, show i - 8 - 8 < 8 by omega, show i - 8 - 8 = i - 16 by omega, show i - 16 < 8 by omega, show i - 8 < 32 by omega, show i - 16 < 32 by omega]
      · simp [h8, h16, h24, show ¬ i - 8 < 8 by omega, show ¬ i - 8 - 8 < 8 by omega, show i - 8 - 8 - 8 = i - 24 by omega, show i - 8 - 8 = i - 16 by omega, show ¬ i - 16 < 8 by omega, show i - 8 < 32 by omega, show i - 16 < 32 by omega, show i - 24 < 32 by omega, show i - 16 - 8 = i - 24 by omega]
theorem four_set (S : List Int) (t : Nat) (h : t < S.length) (f0 f1 f2 f3 : Int → Int) :
    (((S.set t (f0 (S.getD t 0))).set t (f1 ((S.set t (f0 (S.getD t 0))).getD t 0))).set t (f2 (((S.set t (f0 (S.getD t 0))).set t (f1 ((S.set t (f0 (S.getD t 0))).getD t 0))).getD t 0))).set t (f3 ((((S.set t (f0 (S.getD t 0))).set t (f1 ((S.set t (f0 (S.getD t 0))).getD t 0))).set t (f2 (((S.set t (f0 (S.getD t 0))).set t (f1 ((S.set t (f0 (S.getD t 0))).getD t 0))).getD t 0))).getD t 0)) =
      S.set t (f3 (f2 (f1 (f0 (S.getD t 0))))) := by
  simp only [List.set_set, Ml _ _ _ _ h]
theorem Ll (b : List UInt8) : ∀ t, t ≤ 16 → O9 b (4 * t) = Dz b t
  | 0, _ => rfl
  | t + 1, h => by
    have ih := Ll b t (by omega)
    have hl := Fc b (4 * t)
    have hz := Lk b t t (Nat.le_refl _)
    rw [show 4 * (t + 1) = 4 * t + 3 + 1 by omega]
    have d0 : 4 * t / 4 = t := by omega
    have d1 : (4 * t + 1) / 4 = t := by omega
    have d2 : (4 * t + 2) / 4 = t := by omega
    have d3 : (4 * t + 3) / 4 = t := by omega
    simp only [O9, d0, d1, d2, d3]
    rw [ih]
    have hlt : t < (Dz b t).length := by rw [Gv]; omega
    refine (four_set (Dz b t) t hlt (fun x => bOr .u32 (Ns .u32 x 8) (IntKind.wrap .u32 ((b.getD (4 * t) 0).toNat : Int))) (fun x => bOr .u32 (Ns .u32 x 8) (IntKind.wrap .u32 ((b.getD (4 * t + 1) 0).toNat : Int)))
      (fun x => bOr .u32 (Ns .u32 x 8) (IntKind.wrap .u32 ((b.getD (4 * t + 2) 0).toNat : Int))) (fun x => bOr .u32 (Ns .u32 x 8) (IntKind.wrap .u32 ((b.getD (4 * t + 3) 0).toNat : Int)))).trans ?_
    simp only [hz, word_eq, Dz, show t < 16 by omega, if_true]
theorem Mo (b : List UInt8) (hb : b.length = 64) : ∀ (d i f : Nat), d = 64 - i → i ≤ 64 → d < f → Xi b f (O9 b i) (i : Int) = some (Dz b 64) := by
  intro d
  induction d with
  | zero =>
    intro i f hd hi hf
    obtain ⟨f, rfl⟩ : ∃ g, f = g + 1 := ⟨f - 1, by omega⟩
    have : i = 64 := by omega
    subst this
    show Jm (Xi b f) b (O9 b 64) _ = _
    unfold Jm
    rw [hb, show decide (((64 : Nat) : Int) < ((64 : Nat) : Int)) = false by decide, cond_false]
    rw [show O9 b 64 = Dz b 16 from Ll b 16 (by omega)]
    exact O8 _ b 48 16 Zj (by omega) (by omega) (by omega) (by unfold Zj; omega)
  | succ d ih =>
    intro i f hd hi hf
    obtain ⟨f, rfl⟩ : ∃ g, f = g + 1 := ⟨f - 1, by omega⟩
    show Jm (Xi b f) b (O9 b i) _ = _
    unfold Jm
    have hl := Fc b i
    rw [hb, show decide ((i : Int) < ((64 : Nat) : Int)) = true by simp; omega, cond_true]
    have e4 : IntKind.wrap .i64 (Int.tdiv (i : Int) 4) = ((i / 4 : Nat) : Int) := by
      have := Fs i 4
      rw [show ((4 : Nat) : Int) = 4 from rfl] at this
      rw [this, Xh (by omega)]
    rw [e4, Zi b i 0 (by omega), Zi (O9 b i) (i / 4) 0 (by omega)]
    simp only [Option.bind_some, Int.toNat_natCast]
    rw [show ((i : Int) + 1) = ((i + 1 : Nat) : Int) by omega, Xh (by omega)]
    exact ih (i + 1) f (by omega) (by omega) (by omega)
theorem Hf {b c : List UInt8} (h : ∀ i, i < 64 → b.getD i 0 = c.getD i 0) : ∀ t, Dz b t = Dz c t
  | 0 => rfl
  | t + 1 => by
    simp only [Dz, Hf h t]
    by_cases h16 : t < 16
    · simp only [h16, if_true]
      rw [h _ (by omega), h _ (by omega), h _ (by omega), h _ (by omega)]
    · simp only [h16, if_false]
theorem Oj (b : List UInt8) (hb : 64 ≤ b.length) : Gf b = some (Dz b 64) := by
  unfold Gf
  have hs := Ic b (i := 0) (j := 64) (by omega) hb
  rw [show ((0 : Nat) : Int) = 0 from rfl, show ((64 : Nat) : Int) = 64 from rfl] at hs
  rw [hs, Option.bind_some]
  have h64 : ((b.take 64).drop 0).length = 64 := by simp; omega
  have := Mo ((b.take 64).drop 0) h64 64 0 Zj (by omega) (by omega) (by unfold Zj; omega)
  rw [show O9 ((b.take 64).drop 0) 0 = List.replicate 64 0 from rfl] at this
  rw [show ((0 : Nat) : Int) = 0 from rfl] at this
  have hc := Hf (b := (b.take 64).drop 0) (c := b) (fun i hi => by simp [List.getD, List.getElem?_take, hi]) 64
  rw [this, hc]
theorem sched_ok (b : List UInt8) (hb : 64 ≤ b.length) : Jf b = some (Dz b 64) := by
  obtain ⟨z, hz⟩ : ∃ z : Nat, z = 0 := ⟨0, rfl⟩
  have h := ref_sched b hb 64 z Zj (by omega) (by omega) (by unfold Zj; omega)
  have e : Dz b z = List.replicate 64 0 := by subst hz; simp only [Dz]
  have ez : (z : Int) = 0 := by omega
  rw [e, ez] at h
  unfold Jf
  rw [h]
end Go.Proofs.YtmgfanhcdfobhaaGreatDoor
namespace Go.Proofs.YtmgfanhcdfobhaaGreatDoor
def rndX (e f g h k w : Int) : Int := IntKind.wrap .u32 (IntKind.wrap .u32 (IntKind.wrap .u32 (IntKind.wrap .u32 (h + grtI e 6 11 25) + V7 .u32 (Zt .u32 e f) (Zt .u32 (V7 .u32 (IntKind.max .u32) e) g)) + k) + w)
def rndY (a b c : Int) : Int := IntKind.wrap .u32 (grtI a 2 13 22 + V7 .u32 (V7 .u32 (Zt .u32 a b) (Zt .u32 a c)) (Zt .u32 b c))
def rnd (s : List Int) (k w : Int) : List Int :=
  match s with
  | [a, b, c, d, e, f, g, h] => [IntKind.wrap .u32 (rndX e f g h k w + rndY a b c), a, b, c, IntKind.wrap .u32 (d + rndX e f g h k w), e, f, g]
  | _ => []
theorem Kr {s : List Int} (h : s.length = 8) : ∃ a b c d e f g i, s = [a, b, c, d, e, f, g, i] := by
  match s, h with
  | [a, b, c, d, e, f, g, i], _ => exact ⟨a, b, c, d, e, f, g, i, rfl⟩
theorem Pa {s : List Int} (h : s.length = 8) (k w : Int) : (rnd s k w).length = 8 := by
  obtain ⟨a, b, c, d, e, f, g, i, rfl⟩ := Kr h
  rfl
def Bi : List Int := [1116352408, 1899447441, 3049323471, 3921009573, 961987163, 1508970993, 2453635748, 2870763221, 3624381080, 310598401, 607225278, 1426881987, 1925078388, 2162078206, 2614888103, 3248222580, 3835390401, 4022224774, 264347078, 604807628, 770255983, 1249150122, 1555081692, 1996064986, 2554220882, 2821834349, 2952996808, 3210313671, 3336571891, 3584528711, 113926993, 338241895, 666307205, 773529912, 1294757372, 1396182291, 1695183700, 1986661051, 2177026350, 2456956037, 2730485921, 2820302411, 3259730800, 3345764771, 3516065817, 3600352804, 4094571909, 275423344, 430227734, 506948616, 659060556, 883997877, 958139571, 1322822218, 1537002063, 1747873779, 1955562222, 2024104815, 2227730452, 2361852424, 2428436474, 2756734187, 3204031479, 3329325298]
theorem roots_ref : N0 = some Bi := rfl
theorem Pb : Dh = some Bi := rfl
theorem Bj : Bi.length = 64 := rfl
theorem ref_round (rec4 : List Int → Int → Option (List Int)) (p1 z w : List Int) {s : List Int} (hs : s.length = 8) {t : Nat} (ht : t < 64) (hz : z.length = 64) (hw : w.length = 64) :
    Z0 rec4 p1 z w s (t : Int) = rec4 (rnd s (z.getD t 0) (w.getD t 0)) ((t + 1 : Nat) : Int) := by
  obtain ⟨a, b, c, d, e, f, g, h, rfl⟩ := Kr hs
  unfold Z0
  have i0 : idx [a, b, c, d, e, f, g, h] 0 = some a := rfl
  have i1 : idx [a, b, c, d, e, f, g, h] 1 = some b := rfl
  have i2 : idx [a, b, c, d, e, f, g, h] 2 = some c := rfl
  have i3 : idx [a, b, c, d, e, f, g, h] 3 = some d := rfl
  have i4 : idx [a, b, c, d, e, f, g, h] 4 = some e := rfl
  have i5 : idx [a, b, c, d, e, f, g, h] 5 = some f := rfl
  have i6 : idx [a, b, c, d, e, f, g, h] 6 = some g := rfl
  have i7 : idx [a, b, c, d, e, f, g, h] 7 = some h := rfl
  have iz := Zi z t 0 (by omega)
  have iw := Zi w t 0 (by omega)
  have g6 := Oi e 6 11 25 (by decide) (by decide) (by decide) (by decide)
  have g2 := Oi a 2 13 22 (by decide) (by decide) (by decide) (by decide)
  rw [show decide ((t : Int) < 64) = true by simp; omega, cond_true, show ((t : Int) + 1) = ((t + 1 : Nat) : Int) by omega, Xh (by omega)]
  simp only [i0, i1, i2, i3, i4, i5, i6, i7, iz, iw, g6, g2, Option.bind_some]
  rfl
theorem Pc (rec4 : List Int → Int → Option (List Int)) (p1 w z : List Int) {s : List Int} (hs : s.length = 8) {t : Nat} (ht : t < 64) (hz : z.length = 64) (hw : w.length = 64) :
    Zs rec4 p1 w z s (t : Int) = rec4 (rnd s (z.getD t 0) (w.getD t 0)) ((t + 1 : Nat) : Int) := by
  obtain ⟨a, b, c, d, e, f, g, h, rfl⟩ := Kr hs
  unfold Zs
  have i0 : idx [a, b, c, d, e, f, g, h] 0 = some a := rfl
  have i1 : idx [a, b, c, d, e, f, g, h] 1 = some b := rfl
  have i2 : idx [a, b, c, d, e, f, g, h] 2 = some c := rfl
  have i4 : idx [a, b, c, d, e, f, g, h] 4 = some e := rfl
  have i5 : idx [a, b, c, d, e, f, g, h] 5 = some f := rfl
  have i6 : idx [a, b, c, d, e, f, g, h] 6 = some g := rfl
  have i7 : idx [a, b, c, d, e, f, g, h] 7 = some h := rfl
  have s1 : sub [a, b, c, d, e, f, g, h] 1 (([a, b, c, d, e, f, g, h].length : Nat) : Int) = some [b, c, d, e, f, g, h] := rfl
  have s0 : sub [a, b, c, d, e, f, g, h] 0 7 = some [a, b, c, d, e, f, g] := rfl
  have cp : cpy [a, b, c, d, e, f, g, h] (Int.toNat 1) [b, c, d, e, f, g, h].length [a, b, c, d, e, f, g] = [a, a, b, c, d, e, f, g] := rfl
  have j4 : idx [a, a, b, c, d, e, f, g] 4 = some d := rfl
  have j0 : idx [a, a, b, c, d, e, f, g] 0 = some a := rfl
  have st0 : ∀ x, List.set [a, a, b, c, d, e, f, g] (Int.toNat 0) x = [x, a, b, c, d, e, f, g] := fun _ => rfl
  have k4 : ∀ x, idx [x, a, b, c, d, e, f, g] 4 = some d := fun _ => rfl
  have st4 : ∀ x y, List.set [x, a, b, c, d, e, f, g] (Int.toNat 4) y = [x, a, b, c, y, e, f, g] := fun _ _ => rfl
  have iz := Zi z t 0 (by omega)
  have iw := Zi w t 0 (by omega)
  rw [show decide ((t : Int) < 64) = true by simp; omega, cond_true, show ((t : Int) + 1) = ((t + 1 : Nat) : Int) by omega, Xh (by omega)]
  simp only [i0, i1, i2, i4, i5, i6, i7, iz, iw, mix_6, mix_2, s1, s0, Option.bind_some, cp, j4, j0, st0, k4, st4, ch_eq, maj_eq]
  rfl
def rndS (p w : List Int) : Nat → List Int
  | 0 => p
  | t + 1 => rnd (rndS p w t) (Bi.getD t 0) (w.getD t 0)
theorem Rn {p : List Int} (h : p.length = 8) (w : List Int) : ∀ t, (rndS p w t).length = 8
  | 0 => h
  | t + 1 => Pa (Rn h w t) _ _
def addI (p s : List Int) : List Int := (s.zip p).map fun x => IntKind.wrap .u32 (x.1 + x.2)
theorem ref_add (rec4 : List Int → Int → Option (List Int)) {p s : List Int} (hp : p.length = 8) (hs : s.length = 8) (f : Nat) : Jg rec4 s (f + 9) p 0 = some (addI s p) := by
  obtain ⟨a, b, c, d, e, q, g, h, rfl⟩ := Kr hs
  obtain ⟨a', b', c', d', e', q', g', h', rfl⟩ := Kr hp
  rfl
theorem prog_add (rec4 : List Int → Int → Option (List Int)) {p s : List Int} (hp : p.length = 8) (hs : s.length = 8) (f : Nat) : Yx rec4 p (f + 9) s 0 = some (addI p s) := by
  obtain ⟨a, b, c, d, e, q, g, h, rfl⟩ := Kr hs
  obtain ⟨a', b', c', d', e', q', g', h', rfl⟩ := Kr hp
  rfl
theorem add_comm8 {p s : List Int} (hp : p.length = 8) (hs : s.length = 8) : addI s p = addI p s := by
  obtain ⟨a, b, c, d, e, q, g, h, rfl⟩ := Kr hs
  obtain ⟨a', b', c', d', e', q', g', h', rfl⟩ := Kr hp
  simp [addI, Int.add_comm]
theorem Mp {p s : List Int} (hp : p.length = 8) (hs : s.length = 8) : (addI p s).length = 8 := by simp [addI, hp, hs]
theorem fuel9 : Zj = (Zj - 9) + 9 := by unfold Zj; omega
theorem Pd (p w : List Int) (hp : p.length = 8) (hw : w.length = 64) : ∀ (d t f : Nat), d = 64 - t → t ≤ 64 → d < f → V8 p Bi w f (rndS p w t) (t : Int) = some (addI p (rndS p w 64)) := by
  intro d
  induction d with
  | zero =>
    intro t f hd ht hf
    obtain ⟨f, rfl⟩ : ∃ g, f = g + 1 := ⟨f - 1, by omega⟩
    have : t = 64 := by omega
    subst this
    show Z0 (V8 p Bi w f) p Bi w (rndS p w 64) ((64 : Nat) : Int) = _
    unfold Z0
    rw [show decide (((64 : Nat) : Int) < 64) = false by decide, cond_false, fuel9, ref_add _ hp (Rn hp w 64)]
    rw [add_comm8 hp (Rn hp w 64)]
  | succ d ih =>
    intro t f hd ht hf
    obtain ⟨f, rfl⟩ : ∃ g, f = g + 1 := ⟨f - 1, by omega⟩
    show Z0 (V8 p Bi w f) p Bi w (rndS p w t) (t : Int) = _
    rw [ref_round _ _ _ _ (Rn hp w t) (by omega) Bj hw]
    exact ih (t + 1) f (by omega) (by omega) (by omega)
theorem Mq (p w : List Int) (hp : p.length = 8) (hw : w.length = 64) : ∀ (d t f : Nat), d = 64 - t → t ≤ 64 → d < f → Vu p w Bi f (rndS p w t) (t : Int) = some (addI p (rndS p w 64)) := by
  intro d
  induction d with
  | zero =>
    intro t f hd ht hf
    obtain ⟨f, rfl⟩ : ∃ g, f = g + 1 := ⟨f - 1, by omega⟩
    have : t = 64 := by omega
    subst this
    show Zs (Vu p w Bi f) p w Bi (rndS p w 64) ((64 : Nat) : Int) = _
    unfold Zs
    rw [show decide (((64 : Nat) : Int) < 64) = false by decide, cond_false, fuel9, prog_add _ hp (Rn hp w 64)]
  | succ d ih =>
    intro t f hd ht hf
    obtain ⟨f, rfl⟩ : ∃ g, f = g + 1 := ⟨f - 1, by omega⟩
    show Zs (Vu p w Bi f) p w Bi (rndS p w t) (t : Int) = _
    rw [Pc _ _ _ _ (Rn hp w t) (by omega) Bj hw]
    exact ih (t + 1) f (by omega) (by omega) (by omega)
def Pr (h : List Int) (b : List UInt8) : List Int := addI h (rndS h (Dz b 64) 64)
theorem Cq {h : List Int} (hh : h.length = 8) (b : List UInt8) : (Pr h b).length = 8 := Mp hh (Rn hh _ 64)
theorem Kc {b c : List UInt8} (hh : ∀ i, i < 64 → b.getD i 0 = c.getD i 0) (h : List Int) : Pr h b = Pr h c := by
  have := Hf hh 64
  unfold Pr
  rw [this]
theorem ref_block {h : List Int} (hh : h.length = 8) {b : List UInt8} (hb : 64 ≤ b.length) : Uu h b = some (Pr h b) := by
  have hsc := Gv b 64
  unfold Uu Pr
  rw [roots_ref, sched_ok b hb]
  generalize Dz b 64 = w at hsc ⊢
  have h1 := Pd h w hh hsc 64 0 Zj (by omega) (by omega) (by unfold Zj; omega)
  simp only [Option.bind_some, Bj, hsc, Nat.beq_refl, chk]
  exact h1
theorem Ih {h : List Int} (hh : h.length = 8) {b : List UInt8} (hb : 64 ≤ b.length) : Yy h (Dz b 64) = some (Pr h b) := by
  have hsc := Gv b 64
  unfold Yy Pr
  rw [Pb]
  generalize Dz b 64 = w at hsc ⊢
  have h1 := Mq h w hh hsc 64 0 Zj (by omega) (by omega) (by unfold Zj; omega)
  simp only [Option.bind_some, Bj, hsc, Nat.beq_refl, chk]
  exact h1
end Go.Proofs.YtmgfanhcdfobhaaGreatDoor
namespace Go.Proofs.YtmgfanhcdfobhaaGreatDoor
def h0I : List Int := [1779033703, 3144134277, 1013904242, 2773480762, 1359893119, 2600822924, 528734635, 1541459225]
def fbS (h : List Int) (l : List UInt8) : Nat → List Int
  | 0 => h
  | k + 1 => Pr (fbS h l k) (l.drop (64 * k))
theorem Rv {h : List Int} (hh : h.length = 8) (l : List UInt8) : ∀ k, (fbS h l k).length = 8
  | 0 => hh
  | k + 1 => Cq (Rv hh l k) _
theorem Fy (l : List UInt8) (k i : Nat) : (l.drop k).getD i 0 = l.getD (k + i) 0 := by simp [List.getD]
theorem Ii {h : List Int} {l l' : List UInt8} : ∀ m, (∀ i, i < 64 * m → l.getD i 0 = l'.getD i 0) → fbS h l m = fbS h l' m
  | 0, _ => rfl
  | m + 1, hc => by
    simp only [fbS]
    rw [Ii m (fun i hi => hc i (by omega))]
    exact Kc (fun i hi => by rw [Fy, Fy]; exact hc _ (by omega)) _
theorem fbS_add (h : List Int) (l : List UInt8) (k : Nat) : ∀ q, fbS h l (k + q) = fbS (fbS h l k) (l.drop (64 * k)) q
  | 0 => rfl
  | q + 1 => by
    show Pr (fbS h l (k + q)) (l.drop (64 * (k + q))) = Pr (fbS (fbS h l k) (l.drop (64 * k)) q) ((l.drop (64 * k)).drop (64 * q))
    rw [fbS_add h l k q, List.drop_drop, show 64 * k + 64 * q = 64 * (k + q) by omega]
def outB (h : List Int) (i : Nat) : UInt8 := Bc (IntKind.wrap .u8 (Nm .u32 (h.getD (i / 4) 0) ((24 - 8 * (i % 4) : Nat) : Int)))
def Ks (h : List Int) : Nat → List UInt8
  | 0 => List.replicate 32 0
  | i + 1 => (Ks h i).set i (outB h i)
theorem Cr (h : List Int) : ∀ i, (Ks h i).length = 32
  | 0 => by simp [Ks]
  | i + 1 => by simp [Ks, Cr h i]
theorem div4 (i : Nat) (h : i < 1000) : IntKind.wrap .i64 (Int.tdiv (i : Int) 4) = ((i / 4 : Nat) : Int) := by
  have := Fs i 4
  rw [show ((4 : Nat) : Int) = 4 from rfl] at this
  rw [this, Xh (by omega)]
theorem mod4 (i : Nat) : Int.tmod (i : Int) 4 = ((i % 4 : Nat) : Int) := by
  have := Hy i 4
  rw [show ((4 : Nat) : Int) = 4 from rfl] at this
  exact this
theorem Lm (i : Nat) : IntKind.wrap .i64 (24 - IntKind.wrap .i64 (8 * Int.tmod (i : Int) 4)) = ((24 - 8 * (i % 4) : Nat) : Int) := by
  have h4 : i % 4 < 4 := Nat.mod_lt _ (by omega)
  rw [mod4, show (8 * ((i % 4 : Nat) : Int)) = ((8 * (i % 4) : Nat) : Int) by omega, Xh (by omega), show (24 - ((8 * (i % 4) : Nat) : Int)) = ((24 - 8 * (i % 4) : Nat) : Int) by omega, Xh (by omega)]
theorem Pe (i : Nat) : IntKind.wrap .i64 (24 - IntKind.wrap .i64 (Int.tmod (i : Int) 4 * 8)) = ((24 - 8 * (i % 4) : Nat) : Int) := by rw [Int.mul_comm]; exact Lm i
theorem ref_out (r1 r2 r3) {h : List Int} (hh : h.length = 8) : ∀ (d i f : Nat), d = 32 - i → i ≤ 32 → d < f → X0 r1 r2 r3 h f (Ks h i) (i : Int) = some (Ks h 32) := by
  intro d
  induction d with
  | zero =>
    intro i f hd hi hf
    obtain ⟨f, rfl⟩ : ∃ g, f = g + 1 := ⟨f - 1, by omega⟩
    have : i = 32 := by omega
    subst this
    show Xz r1 r2 r3 (X0 r1 r2 r3 h f) h (Ks h 32) ((32 : Nat) : Int) = _
    unfold Xz
    rw [show decide (((32 : Nat) : Int) < 32) = false by decide, cond_false]
  | succ d ih =>
    intro i f hd hi hf
    obtain ⟨f, rfl⟩ : ∃ g, f = g + 1 := ⟨f - 1, by omega⟩
    show Xz r1 r2 r3 (X0 r1 r2 r3 h f) h (Ks h i) (i : Int) = _
    unfold Xz
    have hl := Cr h i
    rw [show decide ((i : Int) < 32) = true by simp; omega, cond_true, div4 i (by omega), Zi h (i / 4) 0 (by omega), Option.bind_some, Lm, show decide (0 ≤ ((24 - 8 * (i % 4) : Nat) : Int)) = true from decide_eq_true (by omega), Zi (Ks h i) i 0 (by omega), show ((i : Int) + 1) = ((i + 1 : Nat) : Int) by omega, Xh (by omega)]
    simp only [chk, Option.bind_some, Int.toNat_natCast]
    exact ih (i + 1) f (by omega) (by omega) (by omega)
theorem prog_out (r1 r2 r3) {h : List Int} (hh : h.length = 8) : ∀ (d i f : Nat), d = 32 - i → i ≤ 32 → d < f → J8 r1 r2 r3 h f (Ks h i) (i : Int) = some (Ks h 32) := by
  intro d
  induction d with
  | zero =>
    intro i f hd hi hf
    obtain ⟨f, rfl⟩ : ∃ g, f = g + 1 := ⟨f - 1, by omega⟩
    have : i = 32 := by omega
    subst this
    show J7 r1 r2 r3 (J8 r1 r2 r3 h f) h (Ks h 32) ((32 : Nat) : Int) = _
    unfold J7
    rw [show decide (((32 : Nat) : Int) < 32) = false by decide, cond_false]
  | succ d ih =>
    intro i f hd hi hf
    obtain ⟨f, rfl⟩ : ∃ g, f = g + 1 := ⟨f - 1, by omega⟩
    show J7 r1 r2 r3 (J8 r1 r2 r3 h f) h (Ks h i) (i : Int) = _
    unfold J7
    have hl := Cr h i
    rw [show decide ((i : Int) < 32) = true by simp; omega, cond_true, div4 i (by omega), Zi h (i / 4) 0 (by omega), Option.bind_some, Pe, show decide (0 ≤ ((24 - 8 * (i % 4) : Nat) : Int)) = true from decide_eq_true (by omega), Zi (Ks h i) i 0 (by omega), show ((i : Int) + 1) = ((i + 1 : Nat) : Int) by omega, Xh (by omega)]
    simp only [chk, Option.bind_some, Int.toNat_natCast]
    exact ih (i + 1) f (by omega) (by omega) (by omega)
theorem out0 {F : List UInt8 → Int → Option (List UInt8)} {h : List Int} (hF : F (Ks h 0) ((0 : Nat) : Int) = some (Ks h 32)) : F (List.replicate 32 0) 0 = some (Ks h 32) := hF
def lenB (n i : Nat) : UInt8 := UInt8.ofNat (8 * n / 2 ^ (8 * i))
def Hg (n : Nat) : Nat → List UInt8
  | 0 => []
  | i + 1 => lenB n i :: Hg n i
theorem Bk (n : Nat) : ∀ i, (Hg n i).length = i
  | 0 => rfl
  | i + 1 => by simp [Hg, Bk n i]
theorem Kt (k : IntKind) (a b : Nat) (hb : b ≤ k.bits) : Nm k (a : Int) (b : Int) = ((a / 2 ^ b : Nat) : Int) := by
  unfold Nm
  rw [Int.toNat_natCast, Nat.min_eq_left hb, Int.fdiv_eq_ediv_of_nonneg _ (by exact Int.le_of_lt (Int.pow_pos (by omega)))]
  have : ((2 : Int) ^ b) = ((2 ^ b : Nat) : Int) := by push_cast; rfl
  rw [this]
  rfl
theorem lenB_ref {n i : Nat} (hn : n ≤ 1073741824) (hi : i < 8) : Bc (IntKind.wrap .u8 (Nm .i64 (IntKind.wrap .i64 (8 * ((n : Nat) : Int))) (IntKind.wrap .i64 (8 * (i : Int))))) = lenB n i := by
  rw [show (8 * ((n : Nat) : Int)) = ((8 * n : Nat) : Int) by omega, Xh (by omega), show (8 * (i : Int)) = ((8 * i : Nat) : Int) by omega, Xh (by omega), Kt _ _ _ (by show 8 * i ≤ 64; omega), Fq]
  rfl
theorem wrapu {n : Nat} (h : n < 18446744073709551616) : IntKind.wrap .u64 (n : Int) = (n : Int) := by
  unfold IntKind.wrap
  simp only [IntKind.bits, IntKind.signed]
  simp
  omega
theorem lenB_prog {n i : Nat} (hn : n ≤ 1073741824) (hi : i < 8) : Bc (IntKind.wrap .u8 (Nm .u64 (IntKind.wrap .u64 (IntKind.wrap .u64 ((n : Nat) : Int) * 8)) (IntKind.wrap .i64 (8 * (i : Int))))) = lenB n i := by
  rw [wrapu (by omega), show (((n : Nat) : Int) * 8) = ((8 * n : Nat) : Int) by omega, wrapu (by omega), show (8 * (i : Int)) = ((8 * i : Nat) : Int) by omega, Xh (by omega), Kt _ _ _ (by show 8 * i ≤ 64; omega), Fq]
  rfl
def sumH (l : List UInt8) (m : Nat) : List UInt8 := Ks (fbS h0I l m) 32
theorem Mr (l : List UInt8) (m : Nat) : (sumH l m).length = 32 := Cr _ _
theorem Pf (r1 r2) {all : List UInt8} {m : Nat} (ha : all.length = 64 * m) (hm : m ≤ 1073741824) : ∀ (d k f : Nat), d = m - k → k ≤ m → d < f → V2 r1 r2 all f (fbS h0I all k) ((64 * k : Nat) : Int) = some (sumH all m) := by
  intro d
  induction d with
  | zero =>
    intro k f hd hk hf
    obtain ⟨f, rfl⟩ : ∃ g, f = g + 1 := ⟨f - 1, by omega⟩
    have : k = m := by omega
    subst this
    show X1 r1 r2 (V2 r1 r2 all f) all (fbS h0I all k) ((64 * k : Nat) : Int) = _
    unfold X1
    rw [ha, show decide (((64 * k : Nat) : Int) < ((64 * k : Nat) : Int)) = false by simp, cond_false]
    exact out0 (ref_out _ _ _ (Rv rfl all k) 32 0 Zj (by omega) (by omega) (by unfold Zj; omega))
  | succ d ih =>
    intro k f hd hk hf
    obtain ⟨f, rfl⟩ : ∃ g, f = g + 1 := ⟨f - 1, by omega⟩
    show X1 r1 r2 (V2 r1 r2 all f) all (fbS h0I all k) ((64 * k : Nat) : Int) = _
    unfold X1
    have hlb : ((all.take (64 * k + 64)).drop (64 * k)).length = 64 := by simp; omega
    rw [ha, show decide (((64 * k : Nat) : Int) < ((64 * m : Nat) : Int)) = true by simp; omega, cond_true, show (((64 * k : Nat) : Int) + 64) = ((64 * k + 64 : Nat) : Int) by omega, Xh (by omega), Ic all (by omega) (by omega), Option.bind_some, ref_block (Rv rfl all k) (by omega), Option.bind_some, Cq (Rv rfl all k)]
    rw [show Pr (fbS h0I all k) ((all.take (64 * k + 64)).drop (64 * k)) = fbS h0I all (k + 1) from Kc (fun i hi => by
      rw [Fy, Fy]
      simp [List.getD, List.getElem?_take, show 64 * k + i < 64 * k + 64 by omega]) _]
    simp only [Nat.beq_refl, chk, Option.bind_some]
    exact ih (k + 1) f (by omega) (by omega) (by omega)
theorem ref_lens (r1) (b : List UInt8) (hb : b.length ≤ 1073741824) {R : List UInt8} : ∀ (i : Nat) (v : List UInt8) (f : Nat), i ≤ 8 → i < f → v.length + i ≤ 2147483648 → (∀ r2, V2 r1 r2 (v ++ Hg b.length i) Zj h0I 0 = some R) → Q1 r1 b f v ((i : Int) - 1) = some R := by
  intro i
  induction i with
  | zero =>
    intro v f _ hf _ hR
    obtain ⟨f, rfl⟩ : ∃ g, f = g + 1 := ⟨f - 1, by omega⟩
    show X2 r1 (Q1 r1 b f) b v (((0 : Nat) : Int) - 1) = _
    unfold X2
    rw [show decide ((((0 : Nat) : Int) - 1) ≥ 0) = false by decide, cond_false]
    have := hR (Q1 r1 b f)
    rw [show Hg b.length 0 = [] from rfl, List.append_nil] at this
    exact this
  | succ i ih =>
    intro v f h8 hf hv hR
    obtain ⟨f, rfl⟩ : ∃ g, f = g + 1 := ⟨f - 1, by omega⟩
    show X2 r1 (Q1 r1 b f) b v (((i + 1 : Nat) : Int) - 1) = _
    unfold X2
    rw [show (((i + 1 : Nat) : Int) - 1) = (i : Int) by omega, show decide ((i : Int) ≥ 0) = true by simp, cond_true, lenB_ref hb (by omega), Bh (x := 8 * (i : Int)) (by omega), show decide (0 ≤ 8 * (i : Int)) = true by simp; omega, Ry (by simp; omega), Bh (x := (i : Int) - 1) (by omega)]
    simp only [chk, Option.bind_some]
    exact ih (v ++ [lenB b.length i]) f (by omega) (by omega) (by simp; omega) fun r2 => by
      have := hR r2
      rw [show Hg b.length (i + 1) = [lenB b.length i] ++ Hg b.length i from rfl, ← List.append_assoc] at this
      exact this
theorem ref_zeros (b : List UInt8) {R : List UInt8} : ∀ (z : Nat) (v : List UInt8) (f : Nat), (v.length + z) % 64 = 56 → z < 64 → z < f → v.length + z ≤ 2147483648 → (∀ r1, Q1 r1 b Zj (v ++ List.replicate z 0) 7 = some R) → Qp b f v = some R := by
  intro z
  induction z with
  | zero =>
    intro v f hz _ hf _ hR
    obtain ⟨f, rfl⟩ : ∃ g, f = g + 1 := ⟨f - 1, by omega⟩
    show X3 (Qp b f) b v = _
    unfold X3
    have hm : Int.tmod ((v.length : Nat) : Int) 64 = 56 := by
      have := Hy v.length 64
      rw [show ((64 : Nat) : Int) = 64 from rfl] at this
      rw [this]; omega
    rw [hm, show ((56 : Int) != 56) = false by decide, cond_false]
    have := hR (Qp b f)
    rw [show List.replicate 0 (0 : UInt8) = [] from rfl, List.append_nil] at this
    exact this
  | succ z ih =>
    intro v f hz h64 hf hv hR
    obtain ⟨f, rfl⟩ : ∃ g, f = g + 1 := ⟨f - 1, by omega⟩
    show X3 (Qp b f) b v = _
    unfold X3
    have hm : Int.tmod ((v.length : Nat) : Int) 64 = ((v.length % 64 : Nat) : Int) := by
      have := Hy v.length 64
      rw [show ((64 : Nat) : Int) = 64 from rfl] at this
      exact this
    rw [hm, show (((v.length % 64 : Nat) : Int) != 56) = true by simp; omega, cond_true, Ry (by simp; omega), Option.bind_some]
    refine ih (v ++ [0]) f (by simp; omega) (by omega) (by omega) (by simp; omega) fun r1 => ?_
    have := hR r1
    rw [show List.replicate (z + 1) (0 : UInt8) = [0] ++ List.replicate z 0 from rfl, ← List.append_assoc] at this
    exact this
def zc (n : Nat) : Nat := if n % 64 < 56 then 55 - n % 64 else 119 - n % 64
def mB (n : Nat) : Nat := if n % 64 < 56 then n / 64 + 1 else n / 64 + 2
def padL (b : List UInt8) : List UInt8 := b ++ [128] ++ List.replicate (zc b.length) 0 ++ Hg b.length 8
theorem zc_ok (n : Nat) : (n + 1 + zc n) % 64 = 56 ∧ zc n < 64 ∧ n + 1 + zc n + 8 = 64 * mB n := by unfold zc mB; split <;> omega
theorem Ms (b : List UInt8) : (padL b).length = 64 * mB b.length := by
  have := zc_ok b.length
  simp [padL, Bk]
  omega
def Ps (b : List UInt8) : List UInt8 := sumH (padL b) (mB b.length)
theorem Jq (b : List UInt8) : (Ps b).length = 32 := Mr _ _
theorem Mt (b : List UInt8) (hb : b.length ≤ 1073741824) : Jp b = some (Ps b) := by
  have hz := zc_ok b.length
  unfold Jp
  rw [Ry (by simp; omega), Option.bind_some, List.nil_append, Ry (by simp; omega), Option.bind_some]
  refine ref_zeros b (zc b.length) (b ++ [128]) Zj (by simp; omega) hz.2.1 (by unfold Zj; omega) (by simp; omega) fun r1 => ?_
  refine ref_lens r1 b hb 8 _ Zj (by omega) (by unfold Zj; omega) (by simp; omega) fun r2 => ?_
  exact Pf r1 r2 (Ms b) (by unfold mB; split <;> omega) (mB b.length) 0 Zj (by omega) (by omega) (by unfold Zj mB; split <;> omega)
end Go.Proofs.YtmgfanhcdfobhaaGreatDoor
namespace Go.Proofs.YtmgfanhcdfobhaaGreatDoor
theorem Ku (l : List UInt8) (k : Nat) (h : k ≤ l.length) : sub l (k : Int) ((l.length : Nat) : Int) = some (l.drop k) := by
  rw [Ic l h (Nat.le_refl _), List.take_length]
theorem Ln (r1 r2) {h : List Int} (hh : h.length = 8) {en : List UInt8} {m : Nat} (he : en.length = 128) (hm : m ≤ 2) : ∀ (d k f : Nat), d = m - k → k ≤ m → d < f → Xd r1 r2 ((64 * m : Nat) : Int) en f (fbS h en k) ((64 * k : Nat) : Int) = some (Ks (fbS h en m) 32) := by
  intro d
  induction d with
  | zero =>
    intro k f hd hk hf
    obtain ⟨f, rfl⟩ : ∃ g, f = g + 1 := ⟨f - 1, by omega⟩
    have : k = m := by omega
    subst this
    show J9 r1 r2 (Xd r1 r2 ((64 * k : Nat) : Int) en f) ((64 * k : Nat) : Int) en (fbS h en k) ((64 * k : Nat) : Int) = _
    unfold J9
    rw [show decide (((64 * k : Nat) : Int) < ((64 * k : Nat) : Int)) = false by simp, cond_false]
    exact out0 (prog_out _ _ _ (Rv hh en k) 32 0 Zj (by omega) (by omega) (by unfold Zj; omega))
  | succ d ih =>
    intro k f hd hk hf
    obtain ⟨f, rfl⟩ : ∃ g, f = g + 1 := ⟨f - 1, by omega⟩
    show J9 r1 r2 (Xd r1 r2 ((64 * m : Nat) : Int) en f) ((64 * m : Nat) : Int) en (fbS h en k) ((64 * k : Nat) : Int) = _
    unfold J9
    have hl := Rv hh en k
    rw [show decide (((64 * k : Nat) : Int) < ((64 * m : Nat) : Int)) = true by simp; omega, cond_true, Ku en (64 * k) (by omega), Option.bind_some, Oj _ (by simp; omega), Option.bind_some, Gv, show Nat.beq 64 64 = true from rfl]
    simp only [chk, Option.bind_some]
    rw [Ih hl (by simp; omega), Option.bind_some, Cq hl, show (((64 * k : Nat) : Int) + 64) = ((64 * (k + 1) : Nat) : Int) by omega, Xh (by omega)]
    simp only [Nat.beq_refl, Option.bind_some]
    exact ih (k + 1) f (by omega) (by omega) (by omega)
def Mu (e1 : List UInt8) (n last i : Nat) : List UInt8 := e1.take (last - i) ++ Hg n i ++ e1.drop last
theorem Ij {e1 : List UInt8} (he : e1.length = 128) {n last i : Nat} (hl : last ≤ 128) (hi : i ≤ last) : (Mu e1 n last i).length = 128 := by
  simp [Mu, Bk]
  omega
theorem endS_next {e1 : List UInt8} (he : e1.length = 128) {n last i : Nat} (hl : last ≤ 128) (hi : i < last) : (Mu e1 n last i).set (last - 1 - i) (lenB n i) = Mu e1 n last (i + 1) := by
  have h1 : (e1.take (last - i)).set (last - 1 - i) (lenB n i) = e1.take (last - (i + 1)) ++ [lenB n i] := by
    rw [show last - i = (last - 1 - i) + 1 by omega, List.take_add_one, show last - (i + 1) = last - 1 - i by omega]
    have hlt : last - 1 - i < e1.length := by omega
    rw [List.getElem?_eq_getElem hlt]
    rw [List.set_append_right _ _ (by simp; omega)]
    simp
    rw [show last - 1 - i - min (last - 1 - i) e1.length = 0 by omega]
    rfl
  unfold Mu
  rw [List.append_assoc, List.set_append_left _ _ (by simp; omega), h1]
  simp [Hg]
theorem prog_lens (r1) (b : List UInt8) (hb : b.length ≤ 1073741824) {h : List Int} {e1 : List UInt8} (he : e1.length = 128) {last : Nat} (hl : last ≤ 128) (h8 : 8 ≤ last) {R : List UInt8} (hR : ∀ r2, Xd r1 r2 (last : Int) (Mu e1 b.length last 8) Zj h 0 = some R) :
    ∀ (d i f : Nat), d = 8 - i → i ≤ 8 → d < f → Vy r1 b h (last : Int) f (Mu e1 b.length last i) (i : Int) = some R := by
  intro d
  induction d with
  | zero =>
    intro i f hd hi hf
    obtain ⟨f, rfl⟩ : ∃ g, f = g + 1 := ⟨f - 1, by omega⟩
    have : i = 8 := by omega
    subst this
    show Ua r1 (Vy r1 b h (last : Int) f) b h (last : Int) (Mu e1 b.length last 8) ((8 : Nat) : Int) = _
    unfold Ua
    rw [show decide (((8 : Nat) : Int) < 8) = false by decide, cond_false]
    exact hR _
  | succ d ih =>
    intro i f hd hi hf
    obtain ⟨f, rfl⟩ : ∃ g, f = g + 1 := ⟨f - 1, by omega⟩
    show Ua r1 (Vy r1 b h (last : Int) f) b h (last : Int) (Mu e1 b.length last i) (i : Int) = _
    unfold Ua
    have hle := Ij he (n := b.length) hl (show i ≤ last by omega)
    rw [show decide ((i : Int) < 8) = true by simp; omega, cond_true, lenB_prog hb (by omega), Bh (x := 8 * (i : Int)) (by omega), show decide (0 ≤ 8 * (i : Int)) = true from decide_eq_true (by omega), Bh (x := (last : Int) - 1) (by omega), show ((last : Int) - 1 - (i : Int)) = ((last - 1 - i : Nat) : Int) by omega, Xh (by omega), Zi _ _ 0 (by omega), show ((i : Int) + 1) = ((i + 1 : Nat) : Int) by omega, Xh (by omega)]
    simp only [chk, Option.bind_some, Int.toNat_natCast]
    rw [endS_next he hl (by omega)]
    exact ih (i + 1) f (by omega) (by omega) (by omega)
theorem Lo (b : List UInt8) (hb : b.length ≤ 1073741824) {R : List UInt8} (hR : ∀ rec, Ub rec b (fbS h0I b (b.length / 64)) ((64 * (b.length / 64) : Nat) : Int) = some R) :
    ∀ (d k f : Nat), d = b.length / 64 - k → k ≤ b.length / 64 → d < f → Qw b f (fbS h0I b k) ((64 * k : Nat) : Int) = some R := by
  have hw : IntKind.wrap .i64 (IntKind.wrap .i64 (Int.tdiv ((b.length : Nat) : Int) 64) * 64) = ((64 * (b.length / 64) : Nat) : Int) := by
    have := Fs b.length 64
    rw [show ((64 : Nat) : Int) = 64 from rfl] at this
    rw [this, Xh (by omega), show (((b.length / 64 : Nat) : Int) * 64) = ((64 * (b.length / 64) : Nat) : Int) by omega, Xh (by omega)]
  intro d
  induction d with
  | zero =>
    intro k f hd hk hf
    obtain ⟨f, rfl⟩ : ∃ g, f = g + 1 := ⟨f - 1, by omega⟩
    have : k = b.length / 64 := by omega
    subst this
    exact hR _
  | succ d ih =>
    intro k f hd hk hf
    obtain ⟨f, rfl⟩ : ∃ g, f = g + 1 := ⟨f - 1, by omega⟩
    show Ub (Qw b f) b (fbS h0I b k) ((64 * k : Nat) : Int) = _
    unfold Ub
    have hl := Rv (h := h0I) rfl b k
    rw [hw, show decide (((64 * k : Nat) : Int) < ((64 * (b.length / 64) : Nat) : Int)) = true by simp; omega, cond_true, Ku b (64 * k) (by omega), Option.bind_some, Oj _ (by simp; omega), Option.bind_some, Gv, show Nat.beq 64 64 = true from rfl]
    simp only [chk, Option.bind_some]
    rw [Ih hl (by simp; omega), Option.bind_some, Cq hl, show (((64 * k : Nat) : Int) + 64) = ((64 * (k + 1) : Nat) : Int) by omega, Xh (by omega)]
    simp only [Nat.beq_refl, Option.bind_some]
    exact ih (k + 1) f (by omega) (by omega) (by omega)
theorem Ok (b : List UInt8) (hb : b.length ≤ 1073741824) : Rs b = some (Ps b) := by
  unfold Rs
  rw [show Gq = some h0I from rfl, Option.bind_some, show Nat.beq (List.length h0I) 8 = true from rfl]
  simp only [chk, Option.bind_some]
  refine Lo b hb (R := Ps b) (fun rec => ?_) (b.length / 64) 0 Zj (by omega) (by omega) (by unfold Zj; omega)
  have hw : IntKind.wrap .i64 (IntKind.wrap .i64 (Int.tdiv ((b.length : Nat) : Int) 64) * 64) = ((64 * (b.length / 64) : Nat) : Int) := by
    have := Fs b.length 64
    rw [show ((64 : Nat) : Int) = 64 from rfl] at this
    rw [this, Xh (by omega), show (((b.length / 64 : Nat) : Int) * 64) = ((64 * (b.length / 64) : Nat) : Int) by omega, Xh (by omega)]
  unfold Ub
  rw [hw, show decide (((64 * (b.length / 64) : Nat) : Int) < ((64 * (b.length / 64) : Nat) : Int)) = false by simp, cond_false, Ku b (64 * (b.length / 64)) (by omega), Option.bind_some]
  obtain ⟨r, hr⟩ : ∃ r, b.drop (64 * (b.length / 64)) = r := ⟨_, rfl⟩
  have hrl : r.length = b.length % 64 := by rw [← hr]; simp; omega
  have hn64 : b.length % 64 < 64 := Nat.mod_lt _ (by omega)
  rw [hr, Option.bind_some]
  have hcpy : cpy (List.replicate 128 (0 : UInt8)) 0 (List.length (List.replicate 128 (0 : UInt8))) r = r ++ List.replicate (128 - r.length) 0 := by
    unfold cpy
    rw [List.take_zero, List.nil_append, List.length_replicate, List.take_of_length_le (by omega), List.drop_replicate, show 128 - (0 + min 128 r.length) = 128 - r.length by omega]
  rw [hcpy]
  have hmin : min ((r.length : Nat) : Int) ((List.length (List.replicate 128 (0 : UInt8)) : Nat) : Int) = ((b.length % 64 : Nat) : Int) := by rw [List.length_replicate, hrl]; omega
  rw [hmin, Int.toNat_natCast]
  have h128 : (r ++ List.replicate (128 - r.length) (0 : UInt8)).length = 128 := by simp; omega
  rw [Zi _ _ 0 (by rw [h128]; omega), Option.bind_some, Option.bind_some]
  obtain ⟨e1, he1⟩ : ∃ e1, (r ++ List.replicate (128 - r.length) (0 : UInt8)).set (b.length % 64) 128 = e1 := ⟨_, rfl⟩
  rw [he1]
  have he : e1.length = 128 := by rw [← he1, List.length_set, h128]
  have he1' : e1 = r ++ [128] ++ List.replicate (127 - r.length) 0 := by
    rw [← he1, ← hrl, List.set_append_right _ _ (Nat.le_refl _), Nat.sub_self, show 128 - r.length = (127 - r.length) + 1 by omega, List.replicate_succ]
    simp
  have e9 : IntKind.wrap .i64 (IntKind.wrap .i64 (((b.length % 64 : Nat) : Int) + 1) + 8) = ((b.length % 64 + 9 : Nat) : Int) := by
    rw [show (((b.length % 64 : Nat) : Int) + 1) = ((b.length % 64 + 1 : Nat) : Int) by omega, Xh (by omega), show (((b.length % 64 + 1 : Nat) : Int) + 8) = ((b.length % 64 + 9 : Nat) : Int) by omega, Xh (by omega)]
  rw [e9]
  have hz := zc_ok b.length
  have hfin : ∀ m, m ≤ 2 → 1 ≤ m → mB b.length = b.length / 64 + m → U1 rec b (fbS h0I b (b.length / 64)) e1 ((64 * m : Nat) : Int) = some (Ps b) := by
    intro m hm h1 hmB
    have hzc : zc b.length = 64 * m - 9 - r.length := by have := hz.2.2; omega
    have hend : ∀ i, i < 64 * m → (Mu e1 b.length (64 * m) 8).getD i 0 = ((padL b).drop (64 * (b.length / 64))).getD i 0 := by
      intro i hi
      have h1 : (padL b).drop (64 * (b.length / 64)) = r ++ [128] ++ List.replicate (zc b.length) 0 ++ Hg b.length 8 := by
        unfold padL
        rw [List.append_assoc, List.append_assoc, List.drop_append_of_le_length (by omega), hr]
        simp
      have h2 : Mu e1 b.length (64 * m) 8 = (r ++ [128] ++ List.replicate (zc b.length) 0 ++ Hg b.length 8) ++ e1.drop (64 * m) := by
        have h3 : e1.take (64 * m - 8) = r ++ [128] ++ List.replicate (zc b.length) 0 := by
          rw [he1', List.take_append, List.take_of_length_le (by simp; omega), List.take_replicate]
          rw [show min (64 * m - 8 - (r ++ [(128 : UInt8)]).length) (127 - r.length) = zc b.length by simp; omega]
        unfold Mu
        rw [h3]
      rw [h1, h2]
      simp only [List.getD]
      rw [List.getElem?_append_left (by simp [Bk]; omega)]
    unfold U1
    have hE0 : e1 = Mu e1 b.length (64 * m) 0 := by
      unfold Mu
      simp [Hg]
    have := prog_lens rec b hb (h := fbS h0I b (b.length / 64)) he (last := 64 * m) (by omega) (by omega) (R := Ps b) (fun r2 => by
      have h3 := Ln rec r2 (h := fbS h0I b (b.length / 64)) (Rv rfl b _) (m := m) (Ij he (n := b.length) (last := 64 * m) (i := 8) (by omega) (by omega)) hm m 0 Zj (by omega) (by omega) (by unfold Zj; omega)
      have h4 : fbS (fbS h0I b (b.length / 64)) (Mu e1 b.length (64 * m) 8) m = fbS h0I (padL b) (mB b.length) := by
        have h5 : fbS h0I b (b.length / 64) = fbS h0I (padL b) (b.length / 64) := by
          refine Ii _ (fun i hi => ?_)
          unfold padL
          simp only [List.getD]
          rw [List.append_assoc, List.append_assoc, List.getElem?_append_left (by omega)]
        rw [hmB, fbS_add, Ii m hend, h5]
      rw [h4] at h3
      exact h3) 8 0 Zj (by omega) (by omega) (by unfold Zj; omega)
    rw [← hE0] at this
    exact this
  by_cases h56 : b.length % 64 < 56
  · rw [show decide (((b.length % 64 + 9 : Nat) : Int) > 64) = false from decide_eq_false (by omega), cond_false]
    exact hfin 1 (by omega) (by omega) (by unfold mB; rw [if_pos h56])
  · rw [show decide (((b.length % 64 + 9 : Nat) : Int) > 64) = true from decide_eq_true (by omega), cond_true]
    exact hfin 2 (by omega) (by omega) (by unfold mB; rw [if_neg h56])
end Go.Proofs.YtmgfanhcdfobhaaGreatDoor
namespace Go.Proofs.YtmgfanhcdfobhaaGreatDoor
open Go.RowKit
def B5 (p1 : (List UInt8)) : Option ((List UInt8)) :=
  (cond (decide (((List.length p1 : Nat) : Int) > 255)) (some (([] : List UInt8))) ((app ([(Bc (IntKind.wrap .u8 ((List.length p1 : Nat) : Int)))] : List UInt8) p1).bind fun a => (some (a))))
theorem Ik  (p1 : (List UInt8)) (w0 : World)  (r : ((List UInt8))) (H : B5 p1 = some r) :
  Calls Tryz.prog 69 #[(.string ⟨List.toArray p1⟩)] w0 (fun e w' => ∃ (A2 : Option Addr) (c3 : Nat), e = .returned (.slice A2 (List.length r) c3) ∧ SP [] w0 w' [Yc 5 eU8 A2 c3 r]) := by
 unfold B5 at H
 refine Qs (n := 12) Tryz.func69 K K K ?_
 have h := Q0 [] w0
 refine aQ ?_
 refine aR ?_
 refine iR 1 1 [(2, (.slice none (List.length ([] : List UInt8)) 0))] ?_
 refine iF ?_
 refine aQ ?_
 refine aQ ?_
 refine aR ?_
 refine iR 3 3 [(3, (.string ⟨List.toArray p1⟩)), (4, (.int .i64 ((List.length p1 : Nat) : Int))), (5, (.bool (decide (((List.length p1 : Nat) : Int) > 255))))] ?_
 refine iF ?_
 refine V1 K (o := (.tmp 5)) K (b := (decide (((List.length p1 : Nat) : Int) > 255))) K (fun a => ?_) (fun a => ?_)
 ·have H := ct H a
  refine aQ ?_
  refine aR ?_
  refine iR 1 1 [(2, (.slice none (List.length ([] : List UInt8)) 0))] ?_
  refine iF ?_
  refine At.ret K ?_
  have p : SP [] w0 w0 [Yc 5 eU8 none 0 ([] : List UInt8)] := D4 h 5 eU8
  refine ⟨(.slice none (List.length ([] : List UInt8)) 0), K, ?_⟩
  obtain rfl := Qe H
  exact ⟨none, 0, rfl, SP.sel p [0] rfl rfl⟩
 ·have H := cf H a
  refine At.skip K ?_
  refine aQ ?_
  refine aR ?_
  refine iR 3 3 [(6, (.string ⟨List.toArray p1⟩)), (7, (.int .i64 ((List.length p1 : Nat) : Int))), (8, (.int .u8 (IntKind.wrap .u8 ((List.length p1 : Nat) : Int))))] ?_
  refine iS 4 ?_
  refine Zv (e := eU8) (T := 52) (E := 5) (len := 1) (parts := #[(0, (.tmp 8))]) (cs := #[(.int .u8 (IntKind.wrap .u8 ((List.length p1 : Nat) : Int)))]) ([(Bc (IntKind.wrap .u8 ((List.length p1 : Nat) : Int)))] : List UInt8) (d := (some 9)) (k := 3) K rfl (fun _ => K) h (Gs (Or.inr ⟨rfl, (Ec _)⟩) rfl) rfl rfl rfl ?_
  intro g7 w8 q
  refine iR 1 5 [(10, (.string ⟨List.toArray p1⟩))] ?_
  obtain ⟨hl11, H⟩ := Uh H
  obtain ⟨j, hyl12⟩ : ∃ y, ([(Bc (IntKind.wrap .u8 ((List.length p1 : Nat) : Int)))] : List UInt8) ++ p1 = y := ⟨_, rfl⟩
  rw [hyl12] at H
  refine iS 6 ?_
  refine Qi.append (e := eU8) (l := ([(Bc (IntKind.wrap .u8 ((List.length p1 : Nat) : Int)))] : List UInt8)) (m := p1) (A := (some ⟨g7, 0, none⟩)) (c := (List.length ([(Bc (IntKind.wrap .u8 ((List.length p1 : Nat) : Int)))] : List UInt8))) (T := 52) (TX := 9) (E := 5) (b := 1) (s := (.tmp 9)) (x := (.tmp 10)) (i := 0) (vx := (.string ⟨List.toArray p1⟩)) (d := (some 11)) (k := 5) K rfl K K K K rfl q rfl (src_str K p1) hl11 ?_
  rw [hyl12]
  intro f g u t
  refine iR 1 7 [(2, (.slice f (List.length j) g))] ?_
  refine iF ?_
  refine At.ret K ?_
  refine ⟨(.slice f (List.length j) g), K, ?_⟩
  obtain rfl := Qe H
  exact ⟨f, g, rfl, SP.sel t [0] rfl rfl⟩
def Db (a : (List UInt8)) : Option ((List UInt8)) :=
  ((some (cpy (List.replicate 64 (0 : UInt8)) 0 (List.length (List.replicate 64 (0 : UInt8))) a)).bind fun b => (some (b)))
def Fz (p1 : (List UInt8)) : Option ((List UInt8)) :=
  (cond (decide (((List.length p1 : Nat) : Int) > 64)) ((Rs p1).bind fun a => ((chk (Nat.beq (List.length a) 32)).bind fun _ => (Db a))) (Db p1))
theorem Kv (A2 : Option Addr) (c3 : Nat) (p1 : (List UInt8)) (w0 : World) (a3 : RdT eU8 w0 A2 c3 p1) (r : ((List UInt8))) (H : Fz p1 = some r) :
  Calls Tryz.prog 92 #[(.slice A2 (List.length p1) c3)] w0 (fun e w' => e = .returned (.agg (Qd eU8 r).toArray) ∧ SP [] w0 w' []) := by
 unfold Fz at H
 refine Qs (n := 15) Tryz.func92 K K K ?_
 have a8 := Q0 [] w0
 refine aQ ?_
 refine aR ?_
 refine iS 1 ?_
 refine Q4 (e := eU8) (l := (List.replicate 64 (0 : UInt8))) (m := 64) (t := 125) (z := .agg (Qd eU8 (List.replicate 64 (0 : UInt8))).toArray) (d := (some 2)) (k := 0) K rfl K rfl rfl K a8 ?_
 intro g5 w6 a9
 refine iF ?_
 refine aQ ?_
 refine aR ?_
 refine iS 1 ?_
 refine Q4 (e := eU8) (l := (List.replicate 64 (0 : UInt8))) (m := 64) (t := 125) (z := .agg (Qd eU8 (List.replicate 64 (0 : UInt8))).toArray) (d := (some 3)) (k := 0) K rfl K rfl rfl K a9 ?_
 intro g9 b0 s
 refine iF ?_
 refine aQ ?_
 refine aQ ?_
 refine aR ?_
 refine iR 3 3 [(5, (.slice A2 (List.length p1) c3)), (6, (.int .i64 ((List.length p1 : Nat) : Int))), (7, (.bool (decide (((List.length p1 : Nat) : Int) > 64))))] ?_
 refine iF ?_
 refine At.join (fun ρ w => ∃ (c : (List UInt8)) (h : Option Addr) (j : Nat), V6 ρ [(0, (.slice h (List.length c) j)), (2, (pt g5 0)), (3, (pt g9 0))] ∧ SP [] w0 w [Vk 125 eU8 g5 64 (List.replicate 64 (0 : UInt8)), Vk 125 eU8 g9 64 (List.replicate 64 (0 : UInt8))] ∧ RdT eU8 w h j c ∧ Db c = some r) ?_ ?_
 ·refine V1 K (o := (.tmp 7)) K (b := (decide (((List.length p1 : Nat) : Int) > 64))) K (fun a0 => ?_) (fun a0 => ?_)
  ·have H := ct H a0
   refine aQ ?_
   refine aR ?_
   refine iR 1 1 [(8, (.slice A2 (List.length p1) c3))] ?_
   obtain ⟨p, b1, H⟩ := Qb H
   obtain ⟨a1, H⟩ := V4 H
   replace a1 := Nat.eq_of_beq_eq_true a1
   refine iS 2 ?_
   refine cF 100 #[(.tmp 8)] #[52] 9 Tryz.call100 (B2 A2 c3 p1 b0 (RdT.sp a3 s) p b1) ?_
   rintro e b7 ⟨rfl, a4⟩
   refine ⟨_, rfl, ?_⟩
   have b2 := SP.call s a4
   clear a4
   refine iS 3 ?_
   refine Q4 (e := eU8) (l := (List.replicate 32 (0 : UInt8))) (m := 32) (t := 89) (z := .agg (Qd eU8 (List.replicate 32 (0 : UInt8))).toArray) (d := (some 4)) (k := 2) K rfl K rfl rfl K b2 ?_
   intro u b8 b3
   refine iS 4 ?_
   refine Vf (e := eU8) (l := (List.replicate 32 (0 : UInt8))) (l' := p) (m := 32) (t := 89) (x := (.tmp 4)) (y := (.tmp 9)) (g := u) (i := 2) (d := none) (k := 3) K rfl K K a1 b3 rfl K ?_
   intro b9 a2
   refine iF ?_
   refine aR ?_
   refine iS 1 ?_
   refine Uj (e := eU8) (l := p) (m := 32) (g := u) (T := 89) (E := 5) (x := (.tmp 4)) (q := 2) (d := (some 10)) (k := 0) K rfl K K K a2 rfl ?_
   refine iR 1 2 [(0, (.slice (some ⟨u, 0, none⟩) (List.length p) 32))] ?_
   refine iF ?_
   exact ⟨p, (some ⟨u, 0, none⟩), 32, ⟨K, K, K, trivial⟩, SP.sel a2 [0, 1] rfl rfl, (Qy (SP.get a2 (i := 2) rfl)), H⟩
  ·have H := cf H a0
   refine At.skip K ?_
   exact ⟨p1, A2, c3, ⟨K, K, K, trivial⟩, SP.sel s [0, 1] rfl rfl, (RdT.sp a3 s), H⟩
 ·rintro ρ w32 ⟨c, h, j, hk, v, b4, H⟩
  unfold Db at H
  first | refine At.known [(0, (.slice h (List.length c) j)), (2, (pt g5 0)), (3, (pt g9 0))] hk ?_ | rw [← Qv (l := [(0, (.slice h (List.length c) j)), (2, (pt g5 0)), (3, (pt g9 0))]) hk]
  have c0 := Vc (SP.get v (i := 0) rfl)
  have b5 := Vc (SP.get v (i := 1) rfl)
  refine aQ ?_
  refine aR ?_
  refine iS 1 ?_
  refine Uj (e := eU8) (l := (List.replicate 64 (0 : UInt8))) (m := 64) (g := g9) (T := 125) (E := 5) (x := (.tmp 3)) (q := 1) (d := (some 11)) (k := 0) K rfl K K K v rfl ?_
  refine iR 1 2 [(12, (.slice h (List.length c) j))] ?_
  obtain ⟨f, hyl36, H⟩ := Zk H
  have hnl36 : List.length f = List.length (List.replicate 64 (0 : UInt8)) := by rw [← hyl36]; exact Es (by omega)
  refine iS 3 ?_
  refine Hd (e := eU8) (l := (List.replicate 64 (0 : UInt8))) (y' := c) (l' := f) (m := 64) (g := g9) (lo := 0) (dl := (List.length (List.replicate 64 (0 : UInt8)))) (T := 52) (T2 := 52) (E := 5) (x := (.tmp 11)) (y := (.tmp 12)) (i := 1) (A := (some ⟨g9, 0, none⟩)) (dc := 64) (A2 := h) (c2 := j) (d := (some 13)) (k := 2) K rfl K K K K rfl v rfl (Kb) (by omega) b4 hyl36 ?_
  intro b6 a5 _
  have a6 : SP [] w0 b6 [Vk 125 eU8 g5 64 (List.replicate 64 (0 : UInt8)), Vk 125 eU8 g9 64 f] := a5
  clear a5
  refine In.known [(11, (.slice (some ⟨g9, 0, none⟩) (List.length f) 64))] ⟨(by rw [hnl36]; kernel_rfl), trivial⟩ ?_
  refine iF ?_
  refine aQ ?_
  refine aR ?_
  refine iS 1 ?_
  refine Zu (e := eU8) (l := f) (m := 64) (t := 125) (x := (.tmp 3)) (g := g9) (i := 1) (d := (some 14)) (k := 0) K rfl K a6 rfl K K ?_
  refine iS 2 ?_
  refine Vf (e := eU8) (l := (List.replicate 64 (0 : UInt8))) (l' := f) (m := 64) (t := 125) (x := (.tmp 2)) (y := (.tmp 14)) (g := g5) (i := 0) (d := none) (k := 1) K rfl K K (hnl36.trans b5) a6 rfl K ?_
  intro c1 a7
  refine iF ?_
  refine At.ret K ?_
  refine ⟨(.agg (Qd eU8 f).toArray), Bs K (G0 (e := eU8) (l := f) (a := 2) (t := 125) K (SP.get a7 (i := 0) rfl) K K), ?_⟩
  obtain rfl := Qe H
  exact ⟨rfl, SP.sel a7 [] rfl rfl⟩
def Uc (d : (List UInt8) → Int → Option ((List UInt8))) (p3 : UInt8) (p4 : (List UInt8)) (b : (List UInt8)) (a : Int) : Option ((List UInt8)) :=
  (cond (decide (a < 64)) ((idx b a).bind fun e => ((idx b a).bind fun h => ((some (List.set b (Int.toNat a) (Bc (V7 .u8 ((e).toNat : Int) ((p3).toNat : Int))))).bind fun f => (d f (IntKind.wrap .i64 (a + 1)))))) ((app b p4).bind fun g => ((Rs g).bind fun c => ((chk (Nat.beq (List.length c) 32)).bind fun _ => (some (c))))))
def Ud (p3 : UInt8) (p4 : (List UInt8)) : Nat → (List UInt8) → Int → Option ((List UInt8))
  | 0, _, _ => none
  | f + 1, a, b => Uc  (Ud p3 p4 f) p3 p4 a b
def R0 (p1 : (List UInt8)) (p3 : UInt8) (p4 : (List UInt8)) : Option ((List UInt8)) :=
  (Ud p3 p4 Zj p1 0)
theorem Bl (A5 : Option Addr) (c6 : Nat) (p1 : (List UInt8)) (p3 : UInt8) (p4 : (List UInt8)) (w0 : World) (b3 : List.length p1 = 64) (b4 : RdT eU8 w0 A5 c6 p4) (r : ((List UInt8))) (H : R0 p1 p3 p4 = some r) :
  Calls Tryz.prog 91 #[(.agg (Qd eU8 p1).toArray), (.int .u8 ((p3).toNat : Int)), (.slice A5 (List.length p4) c6)] w0 (fun e w' => e = .returned (.agg (Qd eU8 r).toArray) ∧ SP [] w0 w' []) := by
 unfold R0 at H
 refine Qs (n := 22) Tryz.func91 K K K ?_
 have b5 := Q0 [] w0
 refine aQ ?_
 refine aR ?_
 refine iS 1 ?_
 refine Ej (e := eU8) (l := p1) (m := 64) (t := 125) (x := (.tmp 0)) (d := (some 3)) (k := 0) K rfl K b3 K b5 ?_
 intro g8 w9 b6
 refine iS 2 ?_
 refine Q4 (e := eU8) (l := (List.replicate 32 (0 : UInt8))) (m := 32) (t := 89) (z := .agg (Qd eU8 (List.replicate 32 (0 : UInt8))).toArray) (d := (some 6)) (k := 1) K rfl K rfl rfl K b6 ?_
 intro p c7 b7
 refine iF ?_
 refine aQ ?_
 refine aQ ?_
 refine aR ?_
 refine iR 1 1 [(8, (.int .i64 0))] ?_
 refine iF ?_
 refine Z1 K (id := 0) K ?_
 refine Nl K (fun f1 ρ w => ∃ (f : (List UInt8)) (c : Int), V6 ρ [(1, (.int .u8 ((p3).toNat : Int))), (2, (.slice A5 (List.length p4) c6)), (3, (pt g8 0)), (6, (pt p 0)), (8, (.int .i64 c))] ∧ SP [] w0 w [Vk 125 eU8 g8 64 f, Vk 89 eU8 p 32 (List.replicate 32 (0 : UInt8))] ∧ Ud p3 p4 f1 f c = some r) (by rintro ρ w ⟨f, c, hk, hs, H⟩; cases H) ?_ Zj ?_
 ·rintro f1 ρ c8 ⟨f, c, hk, h, H⟩
  refine At.known [(1, (.int .u8 ((p3).toNat : Int))), (2, (.slice A5 (List.length p4) c6)), (3, (pt g8 0)), (6, (pt p 0)), (8, (.int .i64 c))] hk ?_
  replace H := (show Uc (Ud p3 p4 f1) p3 p4 f c = some r from H)
  unfold Uc at H
  have c9 := Vc (SP.get h (i := 0) rfl)
  have d0 := Vc (SP.get h (i := 1) rfl)
  refine aQ ?_
  refine aR ?_
  refine iR 1 1 [(9, (.bool (decide (c < 64))))] ?_
  refine iF ?_
  refine aQ ?_
  refine V1 K (o := (.tmp 9)) K (b := (decide (c < 64))) K (fun a1 => ?_) (fun a1 => ?_)
  ·have H := ct H a1
   refine At.skip K ?_
   refine aQ ?_
   refine Z1 K (id := 1) K ?_
   refine aQ ?_
   refine aR ?_
   refine iR 2 2 [(10, (.int .i64 c)), (7, (.int .i64 c))] ?_
   refine iF ?_
   refine aR ?_
   refine iR 1 1 [(11, (.int .i64 c))] ?_
   obtain ⟨u, a3, a4, b8, H⟩ := Qo H
   refine iS 2 ?_
   refine Ql (e := eU8) (l := f) (m := 64) (g := g8) (T := 125) (E := 5) (x := (.tmp 3)) (ix := (.tmp 11)) (ki := .i64) (iz := c) (i := 0) (d := (some 12)) (k := 1) K rfl K K K K h rfl a3 a4 ?_
   refine iS 3 ?_
   refine sC 5 12 g8 (0 + Int.toNat c * eU8.sz) (.int .u8 ((u).toNat : Int)) 13 (Qk (e := eU8) (Qh (Qy (SP.get h (i := 0) rfl)) rfl a3 a4) b8 (j := 0) rfl) ?_
   refine iR 2 5 [(14, (.int .u8 ((p3).toNat : Int))), (15, (.int .u8 (V7 .u8 ((u).toNat : Int) ((p3).toNat : Int))))] ?_
   obtain ⟨d1, a5, a6, d2, H⟩ := Qo H
   refine iS 6 ?_
   refine Ql (e := eU8) (l := f) (m := 64) (g := g8) (T := 125) (E := 5) (x := (.tmp 3)) (ix := (.tmp 11)) (ki := .i64) (iz := c) (i := 0) (d := (some 16)) (k := 5) K rfl K K K K h rfl a5 a6 ?_
   obtain ⟨a7, hyl133, H⟩ := Zk H
   have hnl133 : List.length a7 = List.length f := by rw [← hyl133, List.length_set]
   refine iS 7 ?_
   refine Z3 (e := eU8) (t := 5) (x := (.tmp 16)) (y := (.tmp 15)) (l := f) (iz := c) (m := 64) (g := g8) (b := g8) (off := 0) (i := 0) (v := (.int .u8 (V7 .u8 ((u).toNat : Int) ((p3).toNat : Int)))) (x' := (Bc (V7 .u8 ((u).toNat : Int) ((p3).toNat : Int)))) (d := none) (k := 6) K rfl rfl K K h rfl rfl a6 a5 (by show [Value.int .u8 (((Bc (V7 .u8 ((u).toNat : Int) ((p3).toNat : Int)))).toNat : Int)] = _; rw [D5 (u8_xor _ _)]) K ?_
   rw [hyl133]
   intro d3 b9
   refine In.known [] trivial ?_
   refine iF ?_
   refine aR ?_
   refine iR 2 2 [(17, (.int .i64 (IntKind.wrap .i64 (c + 1)))), (8, (.int .i64 (IntKind.wrap .i64 (c + 1))))] ?_
   refine iF ?_
   exact ⟨a7, (IntKind.wrap .i64 (c + 1)), ⟨K, K, K, K, K, trivial⟩, SP.sel b9 [0, 1] rfl rfl, H⟩
  ·have H := cf H a1
   refine At.exit K (id := 0) K ?_
   refine aQ ?_
   refine aR ?_
   refine iS 1 ?_
   refine Uj (e := eU8) (l := f) (m := 64) (g := g8) (T := 125) (E := 5) (x := (.tmp 3)) (q := 0) (d := (some 18)) (k := 0) K rfl K K K h rfl ?_
   refine iR 1 2 [(19, (.slice A5 (List.length p4) c6))] ?_
   obtain ⟨hl137, H⟩ := Uh H
   obtain ⟨a8, hyl138⟩ : ∃ y, f ++ p4 = y := ⟨_, rfl⟩
   rw [hyl138] at H
   refine iS 3 ?_
   refine Lj (e := eU8) (l := f) (y := p4) (l' := a8) (m := 64) (g := g8) (T := 52) (TX := 52) (E := 5) (b := 1) (s := (.tmp 18)) (x := (.tmp 19)) (i := 0) (vx := (.slice A5 (List.length p4) c6)) (d := (some 20)) (k := 2) K rfl K K K K rfl h rfl (Rk (E := 5) K (RdT.sp b4 h)) hl137 hyl138 ?_
   intro c0 c1 a9 b0 c2
   have c3 : SP [] w0 a9 [Vk 125 eU8 g8 64 f, Vk 89 eU8 p 32 (List.replicate 32 (0 : UInt8))] := b0
   clear b0
   obtain ⟨a0, c4, H⟩ := Qb H
   obtain ⟨a2, H⟩ := V4 H
   replace a2 := Nat.eq_of_beq_eq_true a2
   refine iS 4 ?_
   refine cF 100 #[(.tmp 20)] #[52] 21 Tryz.call100 (B2 c0 c1 a8 a9 c2 a0 c4) ?_
   rintro e d4 ⟨rfl, b1⟩
   refine ⟨_, rfl, ?_⟩
   have c5 := SP.call c3 b1
   clear b1
   refine iS 5 ?_
   refine Vf (e := eU8) (l := (List.replicate 32 (0 : UInt8))) (l' := a0) (m := 32) (t := 89) (x := (.tmp 6)) (y := (.tmp 21)) (g := p) (i := 1) (d := none) (k := 4) K rfl K K a2 c5 rfl K ?_
   intro d5 b2
   refine iF ?_
   refine At.ret K ?_
   refine ⟨(.agg (Qd eU8 a0).toArray), Bs K (G0 (e := eU8) (l := a0) (a := 6) (t := 89) K (SP.get b2 (i := 1) rfl) K K), ?_⟩
   obtain rfl := Qe H
   exact ⟨rfl, SP.sel b2 [] rfl rfl⟩
 ·exact ⟨p1, 0, ⟨K, K, K, K, K, trivial⟩, SP.sel b7 [0, 1] rfl rfl, H⟩
def Ek (p1 : (List UInt8)) (p5 : (List UInt8)) : Option ((List UInt8)) :=
  ((Fz p1).bind fun a => ((chk (Nat.beq (List.length a) 64)).bind fun _ => ((R0 a (54 : UInt8) p5).bind fun b => ((chk (Nat.beq (List.length b) 32)).bind fun _ => ((R0 a (92 : UInt8) b).bind fun c => ((chk (Nat.beq (List.length c) 32)).bind fun _ => (some (c))))))))
theorem Iz (A2 : Option Addr) (c3 : Nat) (A6 : Option Addr) (c7 : Nat) (p1 : (List UInt8)) (p5 : (List UInt8)) (w0 : World) (a9 : RdT eU8 w0 A2 c3 p1) (b0 : RdT eU8 w0 A6 c7 p5) (r : ((List UInt8))) (H : Ek p1 p5 = some r) :
  Calls Tryz.prog 70 #[(.slice A2 (List.length p1) c3), (.slice A6 (List.length p5) c7)] w0 (fun e w' => e = .returned (.agg (Qd eU8 r).toArray) ∧ SP [] w0 w' []) := by
 unfold Ek at H
 refine Qs (n := 18) Tryz.func70 K K K ?_
 have b1 := Q0 [] w0
 refine aQ ?_
 refine aR ?_
 refine iS 1 ?_
 refine Q4 (e := eU8) (l := (List.replicate 32 (0 : UInt8))) (m := 32) (t := 89) (z := .agg (Qd eU8 (List.replicate 32 (0 : UInt8))).toArray) (d := (some 4)) (k := 0) K rfl K rfl rfl K b1 ?_
 intro g9 b2 a3
 refine iF ?_
 refine aQ ?_
 refine aR ?_
 refine iR 1 1 [(8, (.slice A2 (List.length p1) c3))] ?_
 obtain ⟨b, b3, H⟩ := Qb H
 obtain ⟨v, H⟩ := V4 H
 replace v := Nat.eq_of_beq_eq_true v
 refine iS 2 ?_
 refine cF 92 #[(.tmp 8)] #[52] 9 Tryz.call92 (Kv A2 c3 p1 b2 (RdT.sp a9 a3) b b3) ?_
 rintro e d0 ⟨rfl, a4⟩
 refine ⟨_, rfl, ?_⟩
 have b4 := SP.call a3 a4
 clear a4
 refine iS 3 ?_
 refine Q4 (e := eU8) (l := (List.replicate 64 (0 : UInt8))) (m := 64) (t := 125) (z := .agg (Qd eU8 (List.replicate 64 (0 : UInt8))).toArray) (d := (some 6)) (k := 2) K rfl K rfl rfl K b4 ?_
 intro p d1 b5
 refine iR 1 4 [(5, (.func (.func 91) #[] #[]))] ?_
 refine iS 5 ?_
 refine Vf (e := eU8) (l := (List.replicate 64 (0 : UInt8))) (l' := b) (m := 64) (t := 125) (x := (.tmp 6)) (y := (.tmp 9)) (g := p) (i := 1) (d := none) (k := 4) K rfl K K v b5 rfl K ?_
 intro b6 w
 refine iF ?_
 refine aQ ?_
 refine aR ?_
 refine iR 1 1 [(10, (.func (.func 91) #[] #[]))] ?_
 refine iS 2 ?_
 refine Zu (e := eU8) (l := b) (m := 64) (t := 125) (x := (.tmp 6)) (g := p) (i := 1) (d := (some 11)) (k := 1) K rfl K w rfl K K ?_
 refine iR 1 3 [(12, (.slice A6 (List.length p5) c7))] ?_
 obtain ⟨j, b7, H⟩ := Qb H
 obtain ⟨a0, H⟩ := V4 H
 replace a0 := Nat.eq_of_beq_eq_true a0
 refine iS 4 ?_
 refine Jj (f := 91) (fo := (.tmp 10)) (xs := #[(.tmp 11), (.const (.int .u8 (54))), (.tmp 12)]) (tys := #[125, 5, 52]) (first := #[]) (captured := #[]) (d := (some 13)) (k := 3) K rfl K K Tryz.call91 (Bl A6 c7 b (54 : UInt8) p5 b6 v (RdT.sp b0 w) j b7) ?_
 rintro e d2 ⟨rfl, a5⟩
 refine ⟨_, rfl, ?_⟩
 have b8 := SP.call w a5
 clear a5
 refine iS 5 ?_
 refine Q4 (e := eU8) (l := (List.replicate 32 (0 : UInt8))) (m := 32) (t := 89) (z := .agg (Qd eU8 (List.replicate 32 (0 : UInt8))).toArray) (d := (some 7)) (k := 4) K rfl K rfl rfl K b8 ?_
 intro o d3 b9
 refine iS 6 ?_
 refine Vf (e := eU8) (l := (List.replicate 32 (0 : UInt8))) (l' := j) (m := 32) (t := 89) (x := (.tmp 7)) (y := (.tmp 13)) (g := o) (i := 2) (d := none) (k := 5) K rfl K K a0 b9 rfl K ?_
 intro d4 c0
 refine iF ?_
 refine aQ ?_
 obtain ⟨c, c1, H⟩ := Qb H
 obtain ⟨a1, H⟩ := V4 H
 replace a1 := Nat.eq_of_beq_eq_true a1
 refine aG [GEq (.func (.func 91) #[] #[]), GEq (.agg (Qd eU8 b).toArray), GEq (.slice (some ⟨o, 0, none⟩) (List.length j) 32), GEq (.agg (Qd eU8 c).toArray), Ey] [3, 4] [sG [] [] [] w0 [Vk 89 eU8 g9 32 (List.replicate 32 (0 : UInt8)), Vk 125 eU8 p 64 b, Vk 89 eU8 o 32 j], sG [3] [(.agg (Qd eU8 c).toArray)] [] w0 [Vk 89 eU8 g9 32 (List.replicate 32 (0 : UInt8)), Vk 125 eU8 p 64 b, Vk 89 eU8 o 32 j], sG [3, 4] [(.agg (Qd eU8 c).toArray), undef] [] w0 [Vk 89 eU8 g9 32 c, Vk 125 eU8 p 64 b, Vk 89 eU8 o 32 j]] 5 2 ⟨trivial, SP.drew c0⟩ ?_ ?_
 iterate 5 refine And.intro ?_ ?_
 exact trivial
 ·exact oV (hC (hS 5 (.func (.func 91) #[] #[])) (h0)) (.func (.func 91) #[] #[])
 ·refine oL 0 ?_
  ·rintro ρ' w' hs u ⟨d5, c2⟩
   refine kM (kc (kS hs 6 (pt p 0)) k0) fun s => ?_
   refine Zu (e := eU8) (l := b) (m := 64) (t := 125) (x := (.tmp 6)) (g := p) (i := 1) (d := (some 15)) (k := 1) K rfl K c2 rfl K K ?_
   exact eK s
 ·refine oL 0 ?_
  ·rintro ρ' w' hs u ⟨d6, c4⟩
   refine kM (kc (kS hs 7 (pt o 0)) k0) fun s => ?_
   refine Uj (e := eU8) (l := j) (m := 32) (g := o) (T := 89) (E := 5) (x := (.tmp 7)) (q := 2) (d := (some 16)) (k := 2) K rfl K K K c4 rfl ?_
   exact eK s
 ·refine oH 0 1 ?_
  ·rintro ρ' w' hs u ⟨d7, a6⟩
   refine kM (kc (kA u 0 14) (kc (kA u 1 15) (kc (kA u 2 16) k0))) fun s => ?_
   refine Jj (f := 91) (fo := (.tmp 14)) (xs := #[(.tmp 15), (.const (.int .u8 (92))), (.tmp 16)]) (tys := #[125, 5, 52]) (first := #[]) (captured := #[]) (d := (some 17)) (k := 3) K rfl K K Tryz.call91 (Bl (some ⟨o, 0, none⟩) 32 b (92 : UInt8) j w' v (Qy (SP.get a6 (i := 2) rfl)) c c1) ?_
   rintro e d8 ⟨rfl, a7⟩
   refine ⟨_, rfl, ?_⟩
   have c5 := SP.call a6 a7
   clear a7
   refine ⟨_, Qa s, rfl, ?_⟩
   exact (And.intro (And.intro rfl (trivial)) (c5))
 ·refine oH 1 2 ?_
  ·rintro ρ' w' hs u ⟨⟨a8, -⟩, c6⟩
   refine kN [(4, (pt g9 0)), (17, (.agg (Qd eU8 c).toArray))] ⟨(hs 4 K).trans K, (Jd (h := 3) K).symm.trans a8, trivial⟩ fun s => ?_
   refine Vf (e := eU8) (l := (List.replicate 32 (0 : UInt8))) (l' := c) (m := 32) (t := 89) (x := (.tmp 4)) (y := (.tmp 17)) (g := g9) (i := 0) (d := none) (k := 4) K rfl K K a1 c6 rfl K ?_
   intro d9 c8
   refine ⟨_, Qa s, trivial, ?_⟩
   exact (And.intro (And.intro a8 (And.intro rfl (trivial))) (c8))
 ·rintro ρ' w' hs hf ⟨⟨e0, e1, -⟩, a2⟩
  refine Q3 [(4, (pt g9 0))] ⟨(hs 4 K).trans K, trivial⟩ ?_
  obtain ⟨e2, c9⟩ : ∃ x, w' = x := ⟨_, rfl⟩
  rw [c9] at a2 ⊢
  refine At.ret K ?_
  refine ⟨(.agg (Qd eU8 c).toArray), Bs K (G0 (e := eU8) (l := c) (a := 4) (t := 89) K (SP.get a2 (i := 0) rfl) K K), ?_⟩
  obtain rfl := Qe H
  exact ⟨rfl, SP.sel a2 [] rfl rfl⟩
def Nd (e : (List UInt8) → Int → Option ((List UInt8))) (p1 : (List UInt8)) (p5 : (List (List UInt8))) (b : (List UInt8)) (a : Int) : Option ((List UInt8)) :=
  (cond (decide (a < ((List.length p5 : Nat) : Int))) ((idx p5 a).bind fun c => (cond (decide (((List.length c : Nat) : Int) > 255)) (some (([] : List UInt8))) ((B5 c).bind fun f => ((app b f).bind fun g => (e g (IntKind.wrap .i64 (a + 1))))))) ((Ek p1 b).bind fun d => ((chk (Nat.beq (List.length d) 32)).bind fun _ => ((Dm d).bind fun h => (some (h))))))
def Ne (p1 : (List UInt8)) (p5 : (List (List UInt8))) : Nat → (List UInt8) → Int → Option ((List UInt8))
  | 0, _, _ => none
  | f + 1, a, b => Nd  (Ne p1 p5 f) p1 p5 a b
def Cs (p1 : (List UInt8)) (p5 : (List (List UInt8))) : Option ((List UInt8)) :=
  (Ne p1 p5 Zj ([] : List UInt8) 0)
theorem Hu (A2 : Option Addr) (c3 : Nat) (A6 : Option Addr) (c7 : Nat) (p1 : (List UInt8)) (p5 : (List (List UInt8))) (w0 : World) (b9 : RdT eU8 w0 A2 c3 p1) (a8 : RdT Qx w0 A6 c7 p5) (r : ((List UInt8))) (H : Cs p1 p5 = some r) :
  Calls Tryz.prog 51 #[(.slice A2 (List.length p1) c3), (.slice A6 (List.length p5) c7)] w0 (fun e w' => e = .returned (.string ⟨List.toArray r⟩) ∧ SP [] w0 w' []) := by
 unfold Cs at H
 refine Qs (n := 28) Tryz.func51 K K K ?_
 have c0 := Q0 [] w0
 refine aQ ?_
 refine aR ?_
 refine iR 1 1 [(4, (.string ⟨List.toArray ([] : List UInt8)⟩))] ?_
 refine iF ?_
 refine aQ ?_
 refine aR ?_
 refine iR 1 1 [(5, (.slice none (List.length ([] : List UInt8)) 0))] ?_
 refine iF ?_
 refine aQ ?_
 refine aQ ?_
 refine aR ?_
 refine iR 3 3 [(9, (.slice A6 (List.length p5) c7)), (10, (.int .i64 ((List.length p5 : Nat) : Int))), (11, (.int .i64 0))] ?_
 refine iF ?_
 refine Z1 K (id := 0) K ?_
 refine Nl K (fun f1 ρ w => ∃ (f : (List UInt8)) (a : Int) (h : Option Addr) (p : Nat), V6 ρ [(0, (.slice A2 (List.length p1) c3)), (5, (.slice h (List.length f) p)), (9, (.slice A6 (List.length p5) c7)), (10, (.int .i64 ((List.length p5 : Nat) : Int))), (11, (.int .i64 a))] ∧ SP [] w0 w [Yc 5 eU8 h p f] ∧ Ne p1 p5 f1 f a = some r) (by rintro ρ w ⟨f, a, h, p, hk, hs, H⟩; cases H) ?_ Zj ?_
 ·rintro f1 ρ a9 ⟨f, a, h, p, hk, v, H⟩
  refine At.known [(0, (.slice A2 (List.length p1) c3)), (5, (.slice h (List.length f) p)), (9, (.slice A6 (List.length p5) c7)), (10, (.int .i64 ((List.length p5 : Nat) : Int))), (11, (.int .i64 a))] hk ?_
  replace H := (show Nd (Ne p1 p5 f1) p1 p5 f a = some r from H)
  unfold Nd at H
  refine aQ ?_
  refine aR ?_
  refine iR 1 1 [(12, (.bool (decide (a < ((List.length p5 : Nat) : Int)))))] ?_
  refine iF ?_
  refine aQ ?_
  refine V1 K (o := (.tmp 12)) K (b := (decide (a < ((List.length p5 : Nat) : Int)))) K (fun a2 => ?_) (fun a2 => ?_)
  ·have H := ct H a2
   refine At.skip K ?_
   refine aQ ?_
   refine Z1 K (id := 1) K ?_
   refine aQ ?_
   refine aR ?_
   obtain ⟨u, b0, b1, c1, H⟩ := Qo H
   refine iS 1 ?_
   refine Vi (e := Qx) (l := p5) (A := A6) (c := c7) (T := 53) (E := 9) (x := (.tmp 9)) (ix := (.tmp 11)) (ki := .i64) (iz := a) (d := (some 13)) (k := 0) K rfl K K K K (RdT.sp a8 v) b0 b1 ?_
   intro c2 c4 c5 d7 hc118
   refine iS 2 ?_
   refine sC 9 13 c2 (c4 + Int.toNat a * Qx.sz) (.string ⟨List.toArray u⟩) 14 (Qk (e := Qx) (Qh (RdT.sp a8 v) c5 b0 b1) c1 (j := 0) rfl) ?_
   refine iR 1 3 [(7, (.string ⟨List.toArray u⟩))] ?_
   refine iF ?_
   refine aQ ?_
   refine aQ ?_
   refine aR ?_
   refine iR 3 3 [(15, (.string ⟨List.toArray u⟩)), (16, (.int .i64 ((List.length u : Nat) : Int))), (17, (.bool (decide (((List.length u : Nat) : Int) > 255))))] ?_
   refine iF ?_
   refine V1 K (o := (.tmp 17)) K (b := (decide (((List.length u : Nat) : Int) > 255))) K (fun a3 => ?_) (fun a3 => ?_)
   ·have H := ct H a3
    refine aQ ?_
    refine aR ?_
    refine iR 1 1 [(4, (.string ⟨List.toArray ([] : List UInt8)⟩))] ?_
    refine iF ?_
    refine At.ret K ?_
    refine ⟨(.string ⟨List.toArray ([] : List UInt8)⟩), K, ?_⟩
    obtain rfl := Qe H
    exact ⟨rfl, SP.sel v [] rfl rfl⟩
   ·have H := cf H a3
    refine At.skip K ?_
    refine aR ?_
    refine iR 2 2 [(18, (.slice h (List.length f) p)), (19, (.string ⟨List.toArray u⟩))] ?_
    obtain ⟨a0, c6, H⟩ := Qb H
    refine iS 3 ?_
    refine cF 69 #[(.tmp 19)] #[9] 20 Tryz.call69 (Ik  u a9  a0 c6) ?_
    rintro e d8 ⟨c8, c9, rfl, b2⟩
    refine ⟨_, rfl, ?_⟩
    have b3 := SP.call v b2
    clear b2
    obtain ⟨hl130, H⟩ := Uh H
    obtain ⟨b4, hyl131⟩ : ∃ y, f ++ a0 = y := ⟨_, rfl⟩
    rw [hyl131] at H
    refine iS 4 ?_
    refine Qi.append (e := eU8) (l := f) (m := a0) (A := h) (c := p) (T := 52) (TX := 52) (E := 5) (b := 1) (s := (.tmp 18)) (x := (.tmp 20)) (i := 0) (vx := (.slice c8 (List.length a0) c9)) (d := (some 21)) (k := 3) K rfl K K K K rfl b3 rfl (Rk (E := 5) K (Vs (SP.get b3 (i := 1) rfl))) hl130 ?_
    rw [hyl131]
    intro b5 b6 d9 d0
    refine iR 1 5 [(5, (.slice b5 (List.length b4) b6))] ?_
    refine iF ?_
    refine aR ?_
    refine iR 2 2 [(22, (.int .i64 (IntKind.wrap .i64 (a + 1)))), (11, (.int .i64 (IntKind.wrap .i64 (a + 1))))] ?_
    refine iF ?_
    exact ⟨b4, (IntKind.wrap .i64 (a + 1)), b5, b6, ⟨K, K, K, K, K, trivial⟩, SP.sel d0 [0] rfl rfl, H⟩
  ·have H := cf H a2
   refine At.exit K (id := 0) K ?_
   refine aQ ?_
   refine aR ?_
   refine iR 2 2 [(23, (.slice A2 (List.length p1) c3)), (24, (.slice h (List.length f) p))] ?_
   obtain ⟨a1, d1, H⟩ := Qb H
   obtain ⟨a4, H⟩ := V4 H
   replace a4 := Nat.eq_of_beq_eq_true a4
   refine iS 3 ?_
   refine cF 70 #[(.tmp 23), (.tmp 24)] #[52, 52] 25 Tryz.call70 (Iz A2 c3 h p p1 f a9 (RdT.sp b9 v) (Vs (SP.get v (i := 0) rfl)) a1 d1) ?_
   rintro e e0 ⟨rfl, b7⟩
   refine ⟨_, rfl, ?_⟩
   have d2 := SP.call v b7
   clear b7
   refine iS 4 ?_
   refine Q4 (e := eU8) (l := (List.replicate 32 (0 : UInt8))) (m := 32) (t := 89) (z := .agg (Qd eU8 (List.replicate 32 (0 : UInt8))).toArray) (d := (some 8)) (k := 3) K rfl K rfl rfl K d2 ?_
   intro a5 e1 d3
   refine iS 5 ?_
   refine Vf (e := eU8) (l := (List.replicate 32 (0 : UInt8))) (l' := a1) (m := 32) (t := 89) (x := (.tmp 8)) (y := (.tmp 25)) (g := a5) (i := 1) (d := none) (k := 4) K rfl K K a4 d3 rfl K ?_
   intro d4 a6
   refine iF ?_
   refine aQ ?_
   refine aR ?_
   refine iS 1 ?_
   refine Uj (e := eU8) (l := a1) (m := 32) (g := a5) (T := 89) (E := 5) (x := (.tmp 8)) (q := 1) (d := (some 26)) (k := 0) K rfl K K K a6 rfl ?_
   obtain ⟨a7, d5, H⟩ := Qb H
   refine iS 2 ?_
   refine cF 71 #[(.tmp 26)] #[52] 27 Tryz.call71 (He (some ⟨a5, 0, none⟩) 32 a1 d4 (Qy (SP.get a6 (i := 1) rfl)) a7 d5) ?_
   rintro e e2 ⟨rfl, b8⟩
   refine ⟨_, rfl, ?_⟩
   have d6 := SP.call a6 b8
   clear b8
   refine iR 1 3 [(4, (.string ⟨List.toArray a7⟩))] ?_
   refine iF ?_
   refine At.ret K ?_
   refine ⟨(.string ⟨List.toArray a7⟩), K, ?_⟩
   obtain rfl := Qe H
   exact ⟨rfl, SP.sel d6 [] rfl rfl⟩
 ·exact ⟨([] : List UInt8), 0, none, 0, ⟨K, K, K, K, K, trivial⟩, SP.sel (D4 c0 5 eU8) [0] rfl rfl, H⟩
end Go.Proofs.YtmgfanhcdfobhaaGreatDoor
namespace Go.Proofs.YtmgfanhcdfobhaaGreatDoor
open Go.RowKit
def U9 (p1 : (List UInt8)) : Option ((List UInt8)) :=
  (cond (decide (((List.length p1 : Nat) : Int) > 255)) (some (([] : List UInt8))) ((app ([(Bc (IntKind.wrap .u8 ((List.length p1 : Nat) : Int)))] : List UInt8) p1).bind fun a => (some (a))))
theorem Ct  (p1 : (List UInt8)) (w0 : World)  (r : ((List UInt8))) (H : U9 p1 = some r) :
  Calls Tryz.prog 53 #[(.string ⟨List.toArray p1⟩)] w0 (fun e w' => ∃ (A2 : Option Addr) (c3 : Nat), e = .returned (.slice A2 (List.length r) c3) ∧ SP [] w0 w' [Yc 5 eU8 A2 c3 r]) := by
 unfold U9 at H
 refine Qs (n := 12) Tryz.func53 K K K ?_
 have h := Q0 [] w0
 refine aQ ?_
 refine aR ?_
 refine iR 1 1 [(2, (.slice none (List.length ([] : List UInt8)) 0))] ?_
 refine iF ?_
 refine aQ ?_
 refine aQ ?_
 refine aR ?_
 refine iR 3 3 [(3, (.string ⟨List.toArray p1⟩)), (4, (.int .i64 ((List.length p1 : Nat) : Int))), (5, (.bool (decide (((List.length p1 : Nat) : Int) > 255))))] ?_
 refine iF ?_
 refine V1 K (o := (.tmp 5)) K (b := (decide (((List.length p1 : Nat) : Int) > 255))) K (fun a => ?_) (fun a => ?_)
 ·have H := ct H a
  refine aQ ?_
  refine aR ?_
  refine iR 1 1 [(2, (.slice none (List.length ([] : List UInt8)) 0))] ?_
  refine iF ?_
  refine At.ret K ?_
  have p : SP [] w0 w0 [Yc 5 eU8 none 0 ([] : List UInt8)] := D4 h 5 eU8
  refine ⟨(.slice none (List.length ([] : List UInt8)) 0), K, ?_⟩
  obtain rfl := Qe H
  exact ⟨none, 0, rfl, SP.sel p [0] rfl rfl⟩
 ·have H := cf H a
  refine At.skip K ?_
  refine aQ ?_
  refine aR ?_
  refine iR 3 3 [(6, (.string ⟨List.toArray p1⟩)), (7, (.int .i64 ((List.length p1 : Nat) : Int))), (8, (.int .u8 (IntKind.wrap .u8 ((List.length p1 : Nat) : Int))))] ?_
  refine iS 4 ?_
  refine Zv (e := eU8) (T := 52) (E := 5) (len := 1) (parts := #[(0, (.tmp 8))]) (cs := #[(.int .u8 (IntKind.wrap .u8 ((List.length p1 : Nat) : Int)))]) ([(Bc (IntKind.wrap .u8 ((List.length p1 : Nat) : Int)))] : List UInt8) (d := (some 9)) (k := 3) K rfl (fun _ => K) h (Gs (Or.inr ⟨rfl, (Ec _)⟩) rfl) rfl rfl rfl ?_
  intro g7 w8 q
  refine iR 1 5 [(10, (.string ⟨List.toArray p1⟩))] ?_
  obtain ⟨hl11, H⟩ := Uh H
  obtain ⟨j, hyl12⟩ : ∃ y, ([(Bc (IntKind.wrap .u8 ((List.length p1 : Nat) : Int)))] : List UInt8) ++ p1 = y := ⟨_, rfl⟩
  rw [hyl12] at H
  refine iS 6 ?_
  refine Qi.append (e := eU8) (l := ([(Bc (IntKind.wrap .u8 ((List.length p1 : Nat) : Int)))] : List UInt8)) (m := p1) (A := (some ⟨g7, 0, none⟩)) (c := (List.length ([(Bc (IntKind.wrap .u8 ((List.length p1 : Nat) : Int)))] : List UInt8))) (T := 52) (TX := 9) (E := 5) (b := 1) (s := (.tmp 9)) (x := (.tmp 10)) (i := 0) (vx := (.string ⟨List.toArray p1⟩)) (d := (some 11)) (k := 5) K rfl K K K K rfl q rfl (src_str K p1) hl11 ?_
  rw [hyl12]
  intro f g u t
  refine iR 1 7 [(2, (.slice f (List.length j) g))] ?_
  refine iF ?_
  refine At.ret K ?_
  refine ⟨(.slice f (List.length j) g), K, ?_⟩
  obtain rfl := Qe H
  exact ⟨f, g, rfl, SP.sel t [0] rfl rfl⟩
end Go.Proofs.YtmgfanhcdfobhaaGreatDoor
namespace Go.Proofs.YtmgfanhcdfobhaaGreatDoor
open Go.RowKit
def Xa (f : (List UInt8) → Option ((List UInt8))) (c : (List UInt8) → Int → Option ((List UInt8))) (p5 : UInt8) (b : (List UInt8)) (a : Int) : Option ((List UInt8)) :=
  (cond (decide (a < 64)) ((idx b a).bind fun d => ((idx b a).bind fun g => ((some (List.set b (Int.toNat a) (Bc (V7 .u8 ((d).toNat : Int) ((p5).toNat : Int))))).bind fun e => (c e (IntKind.wrap .i64 (a + 1)))))) (some (b)))
def Zx (a : (List UInt8) → Option ((List UInt8))) (p5 : UInt8) : Nat → (List UInt8) → Int → Option ((List UInt8))
  | 0, _, _ => none
  | f + 1, b, c => Xa a (Zx a p5 f) p5 b c
def Xb (b : (List UInt8) → Option ((List UInt8))) (p5 : UInt8) (a : (List UInt8)) : Option ((List UInt8)) :=
  (cond (decide (((List.length a : Nat) : Int) < 64)) ((app a ([(0 : UInt8)] : List UInt8)).bind fun c => (b c)) (Zx b p5 Zj a 0))
def Vq (p5 : UInt8) : Nat → (List UInt8) → Option ((List UInt8))
  | 0, _ => none
  | f + 1, a => Xb  (Vq p5 f) p5 a
def Xc (p5 : UInt8) (a : (List UInt8)) : Option ((List UInt8)) :=
  (Vq p5 Zj a)
def Ja (p1 : (List UInt8)) (p5 : UInt8) : Option ((List UInt8)) :=
  ((app ([] : List UInt8) p1).bind fun a => (cond (decide (((List.length a : Nat) : Int) > 64)) ((Jp a).bind fun b => ((chk (Nat.beq (List.length b) 32)).bind fun _ => ((app ([] : List UInt8) b).bind fun c => (Xc p5 c)))) (Xc p5 a)))
theorem Rg (A2 : Option Addr) (c3 : Nat) (p1 : (List UInt8)) (p5 : UInt8) (w0 : World) (d5 : RdT eU8 w0 A2 c3 p1) (r : ((List UInt8))) (H : Ja p1 p5 = some r) :
  Calls Tryz.prog 73 #[(.slice A2 (List.length p1) c3), (.int .u8 ((p5).toNat : Int))] w0 (fun e w' => ∃ (A6 : Option Addr) (c7 : Nat), e = .returned (.slice A6 (List.length r) c7) ∧ SP [] w0 w' [Yc 5 eU8 A6 c7 r]) := by
 unfold Ja at H
 refine Qs (n := 39) Tryz.func73 K K K ?_
 have d6 := Q0 [] w0
 refine aQ ?_
 refine aR ?_
 refine iR 1 1 [(4, (.slice none (List.length ([] : List UInt8)) 0))] ?_
 refine iF ?_
 refine aQ ?_
 refine aR ?_
 refine iS 1 ?_
 refine Zv (e := eU8) (T := 52) (E := 5) (len := 0) (parts := #[]) (cs := #[]) ([] : List UInt8) (d := (some 8)) (k := 0) K rfl (fun _ => K) d6 rfl rfl rfl rfl ?_
 intro g8 w9 b9
 refine iR 1 2 [(9, (.slice A2 (List.length p1) c3))] ?_
 obtain ⟨hl12, H⟩ := Uh H
 obtain ⟨a2, hyl13⟩ : ∃ y, ([] : List UInt8) ++ p1 = y := ⟨_, rfl⟩
 rw [hyl13] at H
 refine iS 3 ?_
 refine Qi.append (e := eU8) (l := ([] : List UInt8)) (m := p1) (A := (some ⟨g8, 0, none⟩)) (c := (List.length ([] : List UInt8))) (T := 52) (TX := 52) (E := 5) (b := 1) (s := (.tmp 8)) (x := (.tmp 9)) (i := 0) (vx := (.slice A2 (List.length p1) c3)) (d := (some 10)) (k := 2) K rfl K K K K rfl b9 rfl (Rk (E := 5) K (RdT.sp d5 b9)) hl12 ?_
 rw [hyl13]
 intro a7 a8 d7 b2
 refine iR 1 4 [(5, (.slice a7 (List.length a2) a8))] ?_
 refine iF ?_
 refine aQ ?_
 refine aQ ?_
 refine aR ?_
 refine iR 3 3 [(11, (.slice a7 (List.length a2) a8)), (12, (.int .i64 ((List.length a2 : Nat) : Int))), (13, (.bool (decide (((List.length a2 : Nat) : Int) > 64))))] ?_
 refine iF ?_
 refine At.join (fun ρ w => ∃ (a3 : (List UInt8)) (a4 : Option Addr) (a5 : Nat), V6 ρ [(1, (.int .u8 ((p5).toNat : Int))), (5, (.slice a4 (List.length a3) a5))] ∧ SP [] w0 w [Yc 5 eU8 a4 a5 a3] ∧ Xc p5 a3 = some r) ?_ ?_
 ·refine V1 K (o := (.tmp 13)) K (b := (decide (((List.length a2 : Nat) : Int) > 64))) K (fun b3 => ?_) (fun b3 => ?_)
  ·have H := ct H b3
   refine aQ ?_
   refine aR ?_
   refine iR 1 1 [(14, (.slice a7 (List.length a2) a8))] ?_
   obtain ⟨a6, d8, H⟩ := Qb H
   obtain ⟨b4, H⟩ := V4 H
   replace b4 := Nat.eq_of_beq_eq_true b4
   refine iS 2 ?_
   refine cF 72 #[(.tmp 14)] #[52] 15 Tryz.call72 (Gi a7 a8 a2 d7 (Vs (SP.get b2 (i := 0) rfl)) a6 d8) ?_
   rintro e f7 ⟨rfl, c0⟩
   refine ⟨_, rfl, ?_⟩
   have d9 := SP.call b2 c0
   clear c0
   refine iS 3 ?_
   refine Q4 (e := eU8) (l := (List.replicate 32 (0 : UInt8))) (m := 32) (t := 89) (z := .agg (Qd eU8 (List.replicate 32 (0 : UInt8))).toArray) (d := (some 6)) (k := 2) K rfl K rfl rfl K d9 ?_
   intro b5 f8 e0
   refine iS 4 ?_
   refine Vf (e := eU8) (l := (List.replicate 32 (0 : UInt8))) (l' := a6) (m := 32) (t := 89) (x := (.tmp 6)) (y := (.tmp 15)) (g := b5) (i := 1) (d := none) (k := 3) K rfl K K b4 e0 rfl K ?_
   intro f9 e1
   refine iF ?_
   refine aR ?_
   refine iS 1 ?_
   refine Zv (e := eU8) (T := 52) (E := 5) (len := 0) (parts := #[]) (cs := #[]) ([] : List UInt8) (d := (some 16)) (k := 0) K rfl (fun _ => K) e1 rfl rfl rfl rfl ?_
   intro e2 g0 b6
   refine iS 2 ?_
   refine Uj (e := eU8) (l := a6) (m := 32) (g := b5) (T := 89) (E := 5) (x := (.tmp 6)) (q := 1) (d := (some 17)) (k := 1) K rfl K K K b6 rfl ?_
   obtain ⟨hl540, H⟩ := Uh H
   obtain ⟨c1, hyl541⟩ : ∃ y, ([] : List UInt8) ++ a6 = y := ⟨_, rfl⟩
   rw [hyl541] at H
   refine iS 3 ?_
   refine Qi.append (e := eU8) (l := ([] : List UInt8)) (m := a6) (A := (some ⟨e2, 0, none⟩)) (c := (List.length ([] : List UInt8))) (T := 52) (TX := 52) (E := 5) (b := 1) (s := (.tmp 16)) (x := (.tmp 17)) (i := 2) (vx := (.slice (some ⟨b5, 0, none⟩) (List.length a6) 32)) (d := (some 18)) (k := 2) K rfl K K K K rfl b6 rfl (Rk (E := 5) K (Qy (SP.get b6 (i := 1) rfl))) hl540 ?_
   rw [hyl541]
   intro c2 c4 g1 e3
   refine iR 1 4 [(5, (.slice c2 (List.length c1) c4))] ?_
   refine iF ?_
   exact ⟨c1, c2, c4, ⟨K, K, trivial⟩, SP.sel e3 [2] rfl rfl, H⟩
  ·have H := cf H b3
   refine At.skip K ?_
   exact ⟨a2, a7, a8, ⟨K, K, trivial⟩, SP.sel b2 [0] rfl rfl, H⟩
 ·rintro ρ g2 ⟨a3, a4, a5, hk, e4, H⟩
  unfold Xc at H
  first | refine At.known [(1, (.int .u8 ((p5).toNat : Int))), (5, (.slice a4 (List.length a3) a5))] hk ?_ | rw [← Qv (l := [(1, (.int .u8 ((p5).toNat : Int))), (5, (.slice a4 (List.length a3) a5))]) hk]
  refine aQ ?_
  refine Z1 K (id := 0) K ?_
  refine Nl K (fun f5 ρ w => ∃ (u : (List UInt8)) (a0 : Option Addr) (a1 : Nat), V6 ρ [(1, (.int .u8 ((p5).toNat : Int))), (5, (.slice a0 (List.length u) a1))] ∧ SP [] w0 w [Yc 5 eU8 a0 a1 u] ∧ Vq p5 f5 u = some r) (by rintro ρ w ⟨u, a0, a1, hk, hs, H⟩; cases H) ?_ Zj ?_
  ·rintro f5 ρ g3 ⟨u, a0, a1, hk, c5, H⟩
   refine At.known [(1, (.int .u8 ((p5).toNat : Int))), (5, (.slice a0 (List.length u) a1))] hk ?_
   replace H := (show Xb (Vq p5 f5) p5 u = some r from H)
   unfold Xb at H
   refine aQ ?_
   refine aQ ?_
   refine aR ?_
   refine iR 3 3 [(19, (.slice a0 (List.length u) a1)), (20, (.int .i64 ((List.length u : Nat) : Int))), (21, (.bool (decide (((List.length u : Nat) : Int) < 64))))] ?_
   refine iF ?_
   refine V1 K (o := (.tmp 21)) K (b := (decide (((List.length u : Nat) : Int) < 64))) K (fun b7 => ?_) (fun b7 => ?_)
   ·have H := ct H b7
    refine At.skip K ?_
    refine Z1 K (id := 1) K ?_
    refine aR ?_
    refine iR 1 1 [(22, (.slice a0 (List.length u) a1))] ?_
    refine iS 2 ?_
    refine Zv (e := eU8) (T := 52) (E := 5) (len := 1) (parts := #[(0, (.const (.int .u8 (0))))]) (cs := #[(.int .u8 0)]) ([(0 : UInt8)] : List UInt8) (d := (some 23)) (k := 1) K rfl (fun _ => K) c5 (Gs (Or.inl rfl) rfl) rfl rfl rfl ?_
    intro e5 g4 c6
    obtain ⟨hl411, H⟩ := Uh H
    obtain ⟨c8, hyl412⟩ : ∃ y, u ++ ([(0 : UInt8)] : List UInt8) = y := ⟨_, rfl⟩
    rw [hyl412] at H
    refine iS 3 ?_
    refine Qi.append (e := eU8) (l := u) (m := ([(0 : UInt8)] : List UInt8)) (A := a0) (c := a1) (T := 52) (TX := 52) (E := 5) (b := 1) (s := (.tmp 22)) (x := (.tmp 23)) (i := 0) (vx := (.slice (some ⟨e5, 0, none⟩) (List.length ([(0 : UInt8)] : List UInt8)) (List.length ([(0 : UInt8)] : List UInt8)))) (d := (some 24)) (k := 2) K rfl K K K K rfl c6 rfl (Rk (E := 5) K (Vs (SP.get c6 (i := 1) rfl))) hl411 ?_
    rw [hyl412]
    intro c9 d0 g5 e6
    refine iR 1 4 [(5, (.slice c9 (List.length c8) d0))] ?_
    refine iF ?_
    exact ⟨c8, c9, d0, ⟨K, K, trivial⟩, SP.sel e6 [0] rfl rfl, H⟩
   ·have H := cf H b7
    refine At.exit K (id := 0) K ?_
    refine aQ ?_
    refine aQ ?_
    refine aR ?_
    refine iR 1 1 [(7, (.int .i64 0))] ?_
    refine iF ?_
    refine Z1 K (id := 2) K ?_
    refine Nl K (fun f6 ρ w => ∃ (p : (List UInt8)) (a : Int) (f : Option Addr) (h : Nat), V6 ρ [(1, (.int .u8 ((p5).toNat : Int))), (5, (.slice f (List.length p) h)), (7, (.int .i64 a))] ∧ SP [] w0 w [Yc 5 eU8 f h p] ∧ Zx (Vq p5 f5) p5 f6 p a = some r) (by rintro ρ w ⟨p, a, f, h, hk, hs, H⟩; cases H) ?_ Zj ?_
    ·rintro f6 ρ g6 ⟨p, a, f, h, hk, a9, H⟩
     refine At.known [(1, (.int .u8 ((p5).toNat : Int))), (5, (.slice f (List.length p) h)), (7, (.int .i64 a))] hk ?_
     replace H := (show Xa (Vq p5 f5) (Zx (Vq p5 f5) p5 f6) p5 p a = some r from H)
     unfold Xa at H
     refine aQ ?_
     refine aQ ?_
     refine aR ?_
     refine iR 2 2 [(25, (.int .i64 a)), (26, (.bool (decide (a < 64))))] ?_
     refine iF ?_
     refine V1 K (o := (.tmp 26)) K (b := (decide (a < 64))) K (fun b8 => ?_) (fun b8 => ?_)
     ·have H := ct H b8
      refine At.skip K ?_
      refine aQ ?_
      refine Z1 K (id := 3) K ?_
      refine aR ?_
      refine iR 4 4 [(29, (.slice f (List.length p) h)), (30, (.int .i64 a)), (31, (.slice f (List.length p) h)), (32, (.int .i64 a))] ?_
      obtain ⟨b0, d1, d2, e7, H⟩ := Qo H
      refine iS 5 ?_
      refine Vi (e := eU8) (l := p) (A := f) (c := h) (T := 52) (E := 5) (x := (.tmp 31)) (ix := (.tmp 32)) (ki := .i64) (iz := a) (d := (some 33)) (k := 4) K rfl K K K K (Vs (SP.get a9 (i := 0) rfl)) d1 d2 ?_
      intro e8 e9 f0 g7 hc505
      refine iS 6 ?_
      refine sC 5 33 e8 (e9 + Int.toNat a * eU8.sz) (.int .u8 ((b0).toNat : Int)) 34 (Qk (e := eU8) (Qh (Vs (SP.get a9 (i := 0) rfl)) f0 d1 d2) e7 (j := 0) rfl) ?_
      refine iR 2 8 [(35, (.int .u8 ((p5).toNat : Int))), (36, (.int .u8 (V7 .u8 ((b0).toNat : Int) ((p5).toNat : Int))))] ?_
      obtain ⟨g9, d3, d4, h1, H⟩ := Qo H
      refine iS 9 ?_
      refine Vi (e := eU8) (l := p) (A := f) (c := h) (T := 52) (E := 5) (x := (.tmp 29)) (ix := (.tmp 30)) (ki := .i64) (iz := a) (d := (some 37)) (k := 8) K rfl K K K K (Vs (SP.get a9 (i := 0) rfl)) d3 d4 ?_
      intro f1 f2 f3 h2 hc514
      obtain ⟨b1, hyl517, H⟩ := Zk H
      have hnl517 : List.length b1 = List.length p := by rw [← hyl517, List.length_set]
      refine iS 10 ?_
      refine Bn (e := eU8) (t := 5) (E := 5) (x := (.tmp 37)) (y := (.tmp 36)) (A := f) (c := h) (l := p) (iz := a) (b := f1) (off := f2) (i := 0) (v := (.int .u8 (V7 .u8 ((b0).toNat : Int) ((p5).toNat : Int)))) (x' := (Bc (V7 .u8 ((b0).toNat : Int) ((p5).toNat : Int)))) (d := none) (k := 9) K rfl K K a9 rfl f3 rfl d4 d3 (by show [Value.int .u8 (((Bc (V7 .u8 ((b0).toNat : Int) ((p5).toNat : Int)))).toNat : Int)] = _; rw [D5 (u8_xor _ _)]) K ?_
      rw [hyl517]
      intro h3 f4
      refine In.known [(5, (.slice f (List.length b1) h)), (29, (.slice f (List.length b1) h)), (31, (.slice f (List.length b1) h))] ⟨(by rw [hnl517]; kernel_rfl), (by rw [hnl517]; kernel_rfl), (by rw [hnl517]; kernel_rfl), trivial⟩ ?_
      refine iF ?_
      refine aR ?_
      refine iR 3 3 [(27, (.int .i64 a)), (28, (.int .i64 (IntKind.wrap .i64 (a + 1)))), (7, (.int .i64 (IntKind.wrap .i64 (a + 1))))] ?_
      refine iF ?_
      exact ⟨b1, (IntKind.wrap .i64 (a + 1)), f, h, ⟨K, K, K, trivial⟩, SP.sel f4 [0] rfl rfl, H⟩
     ·have H := cf H b8
      refine At.exit K (id := 2) K ?_
      refine aQ ?_
      refine aR ?_
      refine iR 2 2 [(38, (.slice f (List.length p) h)), (4, (.slice f (List.length p) h))] ?_
      refine iF ?_
      refine At.ret K ?_
      refine ⟨(.slice f (List.length p) h), K, ?_⟩
      obtain rfl := Qe H
      exact ⟨f, h, rfl, SP.sel a9 [0] rfl rfl⟩
    ·exact ⟨u, 0, a0, a1, ⟨K, K, K, trivial⟩, SP.sel c5 [0] rfl rfl, H⟩
  ·exact ⟨a3, a4, a5, ⟨K, K, trivial⟩, SP.sel e4 [0] rfl rfl, H⟩
def Nq (p1 : (List UInt8)) (p5 : (List UInt8)) : Option ((List UInt8)) :=
  ((Ja p1 (54 : UInt8)).bind fun c => ((app c p5).bind fun d => ((Jp d).bind fun a => ((chk (Nat.beq (List.length a) 32)).bind fun _ => ((Ja p1 (92 : UInt8)).bind fun e => ((app e a).bind fun f => ((Jp f).bind fun b => ((chk (Nat.beq (List.length b) 32)).bind fun _ => (some (b))))))))))
theorem C8 (A2 : Option Addr) (c3 : Nat) (A6 : Option Addr) (c7 : Nat) (p1 : (List UInt8)) (p5 : (List UInt8)) (w0 : World) (c0 : RdT eU8 w0 A2 c3 p1) (d8 : RdT eU8 w0 A6 c7 p5) (r : ((List UInt8))) (H : Nq p1 p5 = some r) :
  Calls Tryz.prog 54 #[(.slice A2 (List.length p1) c3), (.slice A6 (List.length p5) c7)] w0 (fun e w' => e = .returned (.agg (Qd eU8 r).toArray) ∧ SP [] w0 w' []) := by
 unfold Nq at H
 refine Qs (n := 16) Tryz.func54 K K K ?_
 have d9 := Q0 [] w0
 refine aQ ?_
 refine aR ?_
 refine iS 1 ?_
 refine Q4 (e := eU8) (l := (List.replicate 32 (0 : UInt8))) (m := 32) (t := 89) (z := .agg (Qd eU8 (List.replicate 32 (0 : UInt8))).toArray) (d := (some 4)) (k := 0) K rfl K rfl rfl K d9 ?_
 intro g9 e0 c1
 refine iF ?_
 refine aQ ?_
 refine aR ?_
 refine iR 1 1 [(6, (.slice A2 (List.length p1) c3))] ?_
 obtain ⟨b0, e1, H⟩ := Qb H
 refine iS 2 ?_
 refine cF 73 #[(.tmp 6), (.const (.int .u8 (54)))] #[52, 5] 7 Tryz.call73 (Rg A2 c3 p1 (54 : UInt8) e0 (RdT.sp c0 c1) b0 e1) ?_
 rintro e g6 ⟨e2, e3, rfl, c2⟩
 refine ⟨_, rfl, ?_⟩
 have c4 := SP.call c1 c2
 clear c2
 refine iR 1 3 [(8, (.slice A6 (List.length p5) c7))] ?_
 obtain ⟨hl21, H⟩ := Uh H
 obtain ⟨a3, hyl22⟩ : ∃ y, b0 ++ p5 = y := ⟨_, rfl⟩
 rw [hyl22] at H
 refine iS 4 ?_
 refine Qi.append (e := eU8) (l := b0) (m := p5) (A := e2) (c := e3) (T := 52) (TX := 52) (E := 5) (b := 1) (s := (.tmp 7)) (x := (.tmp 8)) (i := 1) (vx := (.slice A6 (List.length p5) c7)) (d := (some 9)) (k := 3) K rfl K K K K rfl c4 rfl (Rk (E := 5) K (RdT.sp d8 c4)) hl21 ?_
 rw [hyl22]
 intro a4 a5 e4 c5
 obtain ⟨f, e5, H⟩ := Qb H
 obtain ⟨b1, H⟩ := V4 H
 replace b1 := Nat.eq_of_beq_eq_true b1
 refine iS 5 ?_
 refine cF 72 #[(.tmp 9)] #[52] 10 Tryz.call72 (Gi a4 a5 a3 e4 (Vs (SP.get c5 (i := 1) rfl)) f e5) ?_
 rintro e g7 ⟨rfl, c6⟩
 refine ⟨_, rfl, ?_⟩
 have e6 := SP.call c5 c6
 clear c6
 refine iS 6 ?_
 refine Q4 (e := eU8) (l := (List.replicate 32 (0 : UInt8))) (m := 32) (t := 89) (z := .agg (Qd eU8 (List.replicate 32 (0 : UInt8))).toArray) (d := (some 5)) (k := 5) K rfl K rfl rfl K e6 ?_
 intro j g8 e7
 refine iS 7 ?_
 refine Vf (e := eU8) (l := (List.replicate 32 (0 : UInt8))) (l' := f) (m := 32) (t := 89) (x := (.tmp 5)) (y := (.tmp 10)) (g := j) (i := 2) (d := none) (k := 6) K rfl K K b1 e7 rfl K ?_
 intro h1 e8
 refine iF ?_
 refine aQ ?_
 obtain ⟨p, e9, H⟩ := Qb H
 obtain ⟨hl50, H⟩ := Uh H
 obtain ⟨v, hyl51⟩ : ∃ y, p ++ f = y := ⟨_, rfl⟩
 rw [hyl51] at H
 obtain ⟨u, f0, H⟩ := Qb H
 obtain ⟨b2, H⟩ := V4 H
 replace b2 := Nat.eq_of_beq_eq_true b2
 refine aG [GEq (.slice A2 (List.length p1) c3), Ey, GEq (.slice (some ⟨j, 0, none⟩) (List.length f) 32), Ey, GEq (.agg (Qd eU8 u).toArray), Ey] [1, 3, 4, 5] [([], fun vs w => VL vs [] ∧ SP [] w0 w [Vk 89 eU8 g9 32 (List.replicate 32 (0 : UInt8)), Yc 5 eU8 a4 a5 a3, Vk 89 eU8 j 32 f]), ([1], fun vs w => ∃ (a0 : Option Addr), ∃ (a1 : Nat), VL vs [(.slice a0 (List.length p) a1)] ∧ SP [] w0 w [Vk 89 eU8 g9 32 (List.replicate 32 (0 : UInt8)), Yc 5 eU8 a4 a5 a3, Vk 89 eU8 j 32 f, Yc 5 eU8 a0 a1 p]), ([1, 3], fun vs w => ∃ (b3 : Option Addr), ∃ (b4 : Nat), ∃ (a6 : Option Addr), ∃ (a7 : Nat), VL vs [(.slice b3 (List.length p) b4), (.slice a6 (List.length v) a7)] ∧ SP [] w0 w [Vk 89 eU8 g9 32 (List.replicate 32 (0 : UInt8)), Yc 5 eU8 a4 a5 a3, Vk 89 eU8 j 32 f, Yc 5 eU8 a6 a7 v]), ([1, 3, 4], fun vs w => ∃ (b5 : Option Addr), ∃ (b6 : Nat), ∃ (a8 : Option Addr), ∃ (a9 : Nat), VL vs [(.slice b5 (List.length p) b6), (.slice a8 (List.length v) a9), (.agg (Qd eU8 u).toArray)] ∧ SP [] w0 w [Vk 89 eU8 g9 32 (List.replicate 32 (0 : UInt8)), Yc 5 eU8 a4 a5 a3, Vk 89 eU8 j 32 f, Yc 5 eU8 a8 a9 v]), ([1, 3, 4, 5], fun vs w => ∃ (c8 : Option Addr), ∃ (c9 : Nat), ∃ (b7 : Option Addr), ∃ (b8 : Nat), VL vs [(.slice c8 (List.length p) c9), (.slice b7 (List.length v) b8), (.agg (Qd eU8 u).toArray), undef] ∧ SP [] w0 w [Vk 89 eU8 g9 32 u, Yc 5 eU8 a4 a5 a3, Vk 89 eU8 j 32 f, Yc 5 eU8 b7 b8 v])] 6 4 ⟨trivial, SP.drew e8⟩ ?_ ?_
 iterate 6 refine And.intro ?_ ?_
 exact trivial
 ·exact oV (hC (hS 0 (.slice A2 (List.length p1) c3)) (h0)) (.slice A2 (List.length p1) c3)
 ·refine oH 0 1 ?_
  ·rintro ρ' w' hs a2 ⟨h2, d0⟩
   refine kM (kc (kA a2 0 11) k0) fun o => ?_
   refine cF 73 #[(.tmp 11), (.const (.int .u8 (92)))] #[52, 5] 12 Tryz.call73 (Rg A2 c3 p1 (92 : UInt8) w' (RdT.sp c0 d0) p e9) ?_
   rintro e h3 ⟨f1, f2, rfl, d1⟩
   refine ⟨_, rfl, ?_⟩
   have f3 := SP.call d0 d1
   clear d1
   refine ⟨_, Qa o, trivial, ?_⟩
   exact (Exists.intro f1 (Exists.intro f2 (And.intro (And.intro rfl (trivial)) (f3))))
 ·refine Owe.light K [0, 1] K (Qf ?_ (Qf ?_ Q8))
  ·rintro ρ' w' hs a2 ⟨h4, f4⟩
   refine kM (kc (kS hs 5 (pt j 0)) k0) fun o => ?_
   refine Uj (e := eU8) (l := f) (m := 32) (g := j) (T := 89) (E := 5) (x := (.tmp 5)) (q := 2) (d := (some 13)) (k := 2) K rfl K K K f4 rfl ?_
   exact eK o
  ·rintro ρ' w' hs a2 ⟨a0, a1, ⟨h5, -⟩, f5⟩
   refine kM (kc (kS hs 5 (pt j 0)) k0) fun o => ?_
   refine Uj (e := eU8) (l := f) (m := 32) (g := j) (T := 89) (E := 5) (x := (.tmp 5)) (q := 2) (d := (some 13)) (k := 2) K rfl K K K f5 rfl ?_
   exact eK o
 ·refine oH 1 2 ?_
  ·rintro ρ' w' hs a2 ⟨a0, a1, ⟨d2, -⟩, d3⟩
   refine kN [(12, (.slice a0 (List.length p) a1)), (13, (.slice (some ⟨j, 0, none⟩) (List.length f) 32))] ⟨(Jd (h := 1) K).symm.trans d2, a2 2 13 K, trivial⟩ fun o => ?_
   refine Qi.append (e := eU8) (l := p) (m := f) (A := a0) (c := a1) (T := 52) (TX := 52) (E := 5) (b := 1) (s := (.tmp 12)) (x := (.tmp 13)) (i := 3) (vx := (.slice (some ⟨j, 0, none⟩) (List.length f) 32)) (d := (some 14)) (k := 3) K rfl K K K K rfl d3 rfl (Rk (E := 5) K (Qy (SP.get d3 (i := 2) rfl))) hl50 ?_
   rw [hyl51]
   intro f6 f7 h6 f8
   refine ⟨_, Qa o, trivial, ?_⟩
   exact (Exists.intro a0 (Exists.intro a1 (Exists.intro f6 (Exists.intro f7 (And.intro (And.intro d2 (And.intro rfl (trivial))) (f8))))))
 ·refine oH 2 3 ?_
  ·rintro ρ' w' hs a2 ⟨b3, b4, a6, a7, ⟨f9, d4, -⟩, d5⟩
   refine kN [(14, (.slice a6 (List.length v) a7))] ⟨(Jd (h := 3) K).symm.trans d4, trivial⟩ fun o => ?_
   refine cF 72 #[(.tmp 14)] #[52] 15 Tryz.call72 (Gi a6 a7 v w' (Vs (SP.get d5 (i := 3) rfl)) u f0) ?_
   rintro e h7 ⟨rfl, d6⟩
   refine ⟨_, rfl, ?_⟩
   have g0 := SP.call d5 d6
   clear d6
   refine ⟨_, Qa o, rfl, ?_⟩
   exact (Exists.intro b3 (Exists.intro b4 (Exists.intro a6 (Exists.intro a7 (And.intro (And.intro f9 (And.intro d4 (And.intro rfl (trivial)))) (g0))))))
 ·refine oH 3 4 ?_
  ·rintro ρ' w' hs a2 ⟨b5, b6, a8, a9, ⟨g1, g2, d7, -⟩, g3⟩
   refine kN [(4, (pt g9 0)), (15, (.agg (Qd eU8 u).toArray))] ⟨(hs 4 K).trans K, (Jd (h := 4) K).symm.trans d7, trivial⟩ fun o => ?_
   refine Vf (e := eU8) (l := (List.replicate 32 (0 : UInt8))) (l' := u) (m := 32) (t := 89) (x := (.tmp 4)) (y := (.tmp 15)) (g := g9) (i := 0) (d := none) (k := 5) K rfl K K b2 g3 rfl K ?_
   intro h8 g4
   refine ⟨_, Qa o, trivial, ?_⟩
   exact (Exists.intro b5 (Exists.intro b6 (Exists.intro a8 (Exists.intro a9 (And.intro (And.intro g1 (And.intro g2 (And.intro d7 (And.intro rfl (trivial))))) (g4))))))
 ·rintro ρ' w' hs hf ⟨c8, c9, b7, b8, ⟨h9, i0, i1, i2, -⟩, b9⟩
  refine Q3 [(4, (pt g9 0))] ⟨(hs 4 K).trans K, trivial⟩ ?_
  obtain ⟨i3, g5⟩ : ∃ x, w' = x := ⟨_, rfl⟩
  rw [g5] at b9 ⊢
  refine At.ret K ?_
  refine ⟨(.agg (Qd eU8 u).toArray), Bs K (G0 (e := eU8) (l := u) (a := 4) (t := 89) K (SP.get b9 (i := 0) rfl) K K), ?_⟩
  obtain rfl := Qe H
  exact ⟨rfl, SP.sel b9 [] rfl rfl⟩
def Xo (d : (List UInt8) → Int → Option ((List UInt8))) (p1 : (List UInt8)) (p5 : (List (List UInt8))) (b : (List UInt8)) (a : Int) : Option ((List UInt8)) :=
  (cond (decide (a < ((List.length p5 : Nat) : Int))) ((idx p5 a).bind fun e => (cond (decide (((List.length e : Nat) : Int) > 255)) (some (([] : List UInt8))) ((idx p5 a).bind fun f => ((U9 f).bind fun g => ((app b g).bind fun h => (d h (IntKind.wrap .i64 (a + 1)))))))) ((Nq p1 b).bind fun c => ((chk (Nat.beq (List.length c) 32)).bind fun _ => ((G1 c).bind fun i => (some (i))))))
def Xp (p1 : (List UInt8)) (p5 : (List (List UInt8))) : Nat → (List UInt8) → Int → Option ((List UInt8))
  | 0, _, _ => none
  | f + 1, a, b => Xo  (Xp p1 p5 f) p1 p5 a b
def N1 (p1 : (List UInt8)) (p5 : (List (List UInt8))) : Option ((List UInt8)) :=
  (Xp p1 p5 Zj ([] : List UInt8) 0)
theorem B6 (A2 : Option Addr) (c3 : Nat) (A6 : Option Addr) (c7 : Nat) (p1 : (List UInt8)) (p5 : (List (List UInt8))) (w0 : World) (c2 : RdT eU8 w0 A2 c3 p1) (v : RdT Qx w0 A6 c7 p5) (r : ((List UInt8))) (H : N1 p1 p5 = some r) :
  Calls Tryz.prog 30 #[(.slice A2 (List.length p1) c3), (.slice A6 (List.length p5) c7)] w0 (fun e w' => e = .returned (.string ⟨List.toArray r⟩) ∧ SP [] w0 w' []) := by
 unfold N1 at H
 refine Qs (n := 32) Tryz.func30 K K K ?_
 have c4 := Q0 [] w0
 refine aQ ?_
 refine aR ?_
 refine iR 1 1 [(4, (.string ⟨List.toArray ([] : List UInt8)⟩))] ?_
 refine iF ?_
 refine aQ ?_
 refine aR ?_
 refine iR 1 1 [(5, (.slice none (List.length ([] : List UInt8)) 0))] ?_
 refine iF ?_
 refine aQ ?_
 refine aQ ?_
 refine aR ?_
 refine iR 1 1 [(6, (.int .i64 0))] ?_
 refine iF ?_
 refine Z1 K (id := 0) K ?_
 refine Nl K (fun f1 ρ w => ∃ (f : (List UInt8)) (a : Int) (h : Option Addr) (p : Nat), V6 ρ [(0, (.slice A2 (List.length p1) c3)), (1, (.slice A6 (List.length p5) c7)), (5, (.slice h (List.length f) p)), (6, (.int .i64 a))] ∧ SP [] w0 w [Yc 5 eU8 h p f] ∧ Xp p1 p5 f1 f a = some r) (by rintro ρ w ⟨f, a, h, p, hk, hs, H⟩; cases H) ?_ Zj ?_
 ·rintro f1 ρ a9 ⟨f, a, h, p, hk, u, H⟩
  refine At.known [(0, (.slice A2 (List.length p1) c3)), (1, (.slice A6 (List.length p5) c7)), (5, (.slice h (List.length f) p)), (6, (.int .i64 a))] hk ?_
  replace H := (show Xo (Xp p1 p5 f1) p1 p5 f a = some r from H)
  unfold Xo at H
  refine aQ ?_
  refine aQ ?_
  refine aR ?_
  refine iR 4 4 [(8, (.int .i64 a)), (9, (.slice A6 (List.length p5) c7)), (10, (.int .i64 ((List.length p5 : Nat) : Int))), (11, (.bool (decide (a < ((List.length p5 : Nat) : Int)))))] ?_
  refine iF ?_
  refine V1 K (o := (.tmp 11)) K (b := (decide (a < ((List.length p5 : Nat) : Int)))) K (fun a3 => ?_) (fun a3 => ?_)
  ·have H := ct H a3
   refine At.skip K ?_
   refine aQ ?_
   refine Z1 K (id := 1) K ?_
   refine aQ ?_
   refine aQ ?_
   refine aR ?_
   refine iR 2 2 [(14, (.slice A6 (List.length p5) c7)), (15, (.int .i64 a))] ?_
   obtain ⟨a0, b0, b1, c5, H⟩ := Qo H
   refine iS 3 ?_
   refine Vi (e := Qx) (l := p5) (A := A6) (c := c7) (T := 53) (E := 9) (x := (.tmp 14)) (ix := (.tmp 15)) (ki := .i64) (iz := a) (d := (some 16)) (k := 2) K rfl K K K K (RdT.sp v u) b0 b1 ?_
   intro c6 c8 c9 e4 hc136
   refine iS 4 ?_
   refine sC 9 16 c6 (c8 + Int.toNat a * Qx.sz) (.string ⟨List.toArray a0⟩) 17 (Qk (e := Qx) (Qh (RdT.sp v u) c9 b0 b1) c5 (j := 0) rfl) ?_
   refine iR 2 6 [(18, (.int .i64 ((List.length a0 : Nat) : Int))), (19, (.bool (decide (((List.length a0 : Nat) : Int) > 255))))] ?_
   refine iF ?_
   refine V1 K (o := (.tmp 19)) K (b := (decide (((List.length a0 : Nat) : Int) > 255))) K (fun a4 => ?_) (fun a4 => ?_)
   ·have H := ct H a4
    refine aQ ?_
    refine aR ?_
    refine iR 1 1 [(4, (.string ⟨List.toArray ([] : List UInt8)⟩))] ?_
    refine iF ?_
    refine At.ret K ?_
    refine ⟨(.string ⟨List.toArray ([] : List UInt8)⟩), K, ?_⟩
    obtain rfl := Qe H
    exact ⟨rfl, SP.sel u [] rfl rfl⟩
   ·have H := cf H a4
    refine At.skip K ?_
    refine aR ?_
    refine iR 3 3 [(20, (.slice h (List.length f) p)), (21, (.slice A6 (List.length p5) c7)), (22, (.int .i64 a))] ?_
    obtain ⟨b2, b3, b4, d0, H⟩ := Qo H
    refine iS 4 ?_
    refine Vi (e := Qx) (l := p5) (A := A6) (c := c7) (T := 53) (E := 9) (x := (.tmp 21)) (ix := (.tmp 22)) (ki := .i64) (iz := a) (d := (some 23)) (k := 3) K rfl K K K K (RdT.sp v u) b3 b4 ?_
    intro d1 d2 d3 e5 hc146
    refine iS 5 ?_
    refine sC 9 23 d1 (d2 + Int.toNat a * Qx.sz) (.string ⟨List.toArray b2⟩) 24 (Qk (e := Qx) (Qh (RdT.sp v u) d3 b3 b4) d0 (j := 0) rfl) ?_
    obtain ⟨a1, d4, H⟩ := Qb H
    refine iS 6 ?_
    refine cF 53 #[(.tmp 24)] #[9] 25 Tryz.call53 (Ct  b2 a9  a1 d4) ?_
    rintro e e6 ⟨d5, d6, rfl, b5⟩
    refine ⟨_, rfl, ?_⟩
    have b6 := SP.call u b5
    clear b5
    obtain ⟨hl157, H⟩ := Uh H
    obtain ⟨b7, hyl158⟩ : ∃ y, f ++ a1 = y := ⟨_, rfl⟩
    rw [hyl158] at H
    refine iS 7 ?_
    refine Qi.append (e := eU8) (l := f) (m := a1) (A := h) (c := p) (T := 52) (TX := 52) (E := 5) (b := 1) (s := (.tmp 20)) (x := (.tmp 25)) (i := 0) (vx := (.slice d5 (List.length a1) d6)) (d := (some 26)) (k := 6) K rfl K K K K rfl b6 rfl (Rk (E := 5) K (Vs (SP.get b6 (i := 1) rfl))) hl157 ?_
    rw [hyl158]
    intro b8 b9 e7 d7
    refine iR 1 8 [(5, (.slice b8 (List.length b7) b9))] ?_
    refine iF ?_
    refine aR ?_
    refine iR 3 3 [(12, (.int .i64 a)), (13, (.int .i64 (IntKind.wrap .i64 (a + 1)))), (6, (.int .i64 (IntKind.wrap .i64 (a + 1))))] ?_
    refine iF ?_
    exact ⟨b7, (IntKind.wrap .i64 (a + 1)), b8, b9, ⟨K, K, K, K, trivial⟩, SP.sel d7 [0] rfl rfl, H⟩
  ·have H := cf H a3
   refine At.exit K (id := 0) K ?_
   refine aQ ?_
   refine aR ?_
   refine iR 2 2 [(27, (.slice A2 (List.length p1) c3)), (28, (.slice h (List.length f) p))] ?_
   obtain ⟨a2, d8, H⟩ := Qb H
   obtain ⟨a5, H⟩ := V4 H
   replace a5 := Nat.eq_of_beq_eq_true a5
   refine iS 3 ?_
   refine cF 54 #[(.tmp 27), (.tmp 28)] #[52, 52] 29 Tryz.call54 (C8 A2 c3 h p p1 f a9 (RdT.sp c2 u) (Vs (SP.get u (i := 0) rfl)) a2 d8) ?_
   rintro e e8 ⟨rfl, c0⟩
   refine ⟨_, rfl, ?_⟩
   have d9 := SP.call u c0
   clear c0
   refine iS 4 ?_
   refine Q4 (e := eU8) (l := (List.replicate 32 (0 : UInt8))) (m := 32) (t := 89) (z := .agg (Qd eU8 (List.replicate 32 (0 : UInt8))).toArray) (d := (some 7)) (k := 3) K rfl K rfl rfl K d9 ?_
   intro a6 e9 e0
   refine iS 5 ?_
   refine Vf (e := eU8) (l := (List.replicate 32 (0 : UInt8))) (l' := a2) (m := 32) (t := 89) (x := (.tmp 7)) (y := (.tmp 29)) (g := a6) (i := 1) (d := none) (k := 4) K rfl K K a5 e0 rfl K ?_
   intro e1 a7
   refine iF ?_
   refine aQ ?_
   refine aR ?_
   refine iS 1 ?_
   refine Uj (e := eU8) (l := a2) (m := 32) (g := a6) (T := 89) (E := 5) (x := (.tmp 7)) (q := 1) (d := (some 30)) (k := 0) K rfl K K K a7 rfl ?_
   obtain ⟨a8, e2, H⟩ := Qb H
   refine iS 2 ?_
   refine cF 55 #[(.tmp 30)] #[52] 31 Tryz.call55 (C7 (some ⟨a6, 0, none⟩) 32 a2 e1 (Qy (SP.get a7 (i := 1) rfl)) a8 e2) ?_
   rintro e f0 ⟨rfl, c1⟩
   refine ⟨_, rfl, ?_⟩
   have e3 := SP.call a7 c1
   clear c1
   refine iR 1 3 [(4, (.string ⟨List.toArray a8⟩))] ?_
   refine iF ?_
   refine At.ret K ?_
   refine ⟨(.string ⟨List.toArray a8⟩), K, ?_⟩
   obtain rfl := Qe H
   exact ⟨rfl, SP.sel e3 [] rfl rfl⟩
 ·exact ⟨([] : List UInt8), 0, none, 0, ⟨K, K, K, K, trivial⟩, SP.sel (D4 c4 5 eU8) [0] rfl rfl, H⟩
end Go.Proofs.YtmgfanhcdfobhaaGreatDoor
namespace Go.Proofs.YtmgfanhcdfobhaaGreatDoor
def Hh : List UInt8 := [48, 49, 50, 51, 52, 53, 54, 55, 56, 57, 97, 98, 99, 100, 101, 102]
def hexC (c : UInt8) : List UInt8 := [Hh.getD (c.toNat / 16) 0, Hh.getD (c.toNat % 16) 0]
def Lp (b : List UInt8) : List UInt8 := b.flatMap hexC
theorem D8 : ∀ b : List UInt8, (Lp b).length = 2 * b.length
  | [] => rfl
  | c :: b => by
    have := D8 b
    simp [Lp, hexC] at *
    omega
theorem Lq (b : List UInt8) (c : UInt8) : Lp (b ++ [c]) = Lp b ++ hexC c := by simp [Lp]
theorem El {α : Type} (l : List α) (i : Nat) (d : α) (h : i < l.length) : l.take (i + 1) = l.take i ++ [l.getD i d] := by
  rw [List.take_add_one, List.getElem?_eq_getElem h]
  simp [List.getD, h]
theorem hi_ref (c : UInt8) : IntKind.wrap .u8 (Int.tdiv ((c.toNat : Nat) : Int) 16) = ((c.toNat / 16 : Nat) : Int) := by
  have h := c.toNat_lt
  have := Fs c.toNat 16
  rw [show ((16 : Nat) : Int) = 16 from rfl] at this
  rw [this, O3]
  omega
theorem lo_ref (c : UInt8) : Int.tmod ((c.toNat : Nat) : Int) 16 = ((c.toNat % 16 : Nat) : Int) := by
  have := Hy c.toNat 16
  rw [show ((16 : Nat) : Int) = 16 from rfl] at this
  exact this
theorem hi_prog (c : UInt8) : Nm .u8 ((c.toNat : Nat) : Int) 4 = ((c.toNat / 16 : Nat) : Int) := Kt .u8 c.toNat 4 (by decide)
theorem lo_prog (c : UInt8) : Zt .u8 ((c.toNat : Nat) : Int) 15 = ((c.toNat % 16 : Nat) : Int) := by
  have h := c.toNat_lt
  unfold Zt
  have : (BitVec.ofInt 8 ((c.toNat : Nat) : Int) &&& BitVec.ofInt 8 15).toNat = c.toNat % 16 := by
    rw [BitVec.toNat_and, BitVec.ofInt_natCast, BitVec.toNat_ofNat, Nat.mod_eq_of_lt (by omega)]
    show c.toNat &&& 15 = _
    exact Nat.and_two_pow_sub_one_eq_mod c.toNat 4
  show IntKind.wrap .u8 ((BitVec.ofInt 8 ((c.toNat : Nat) : Int) &&& BitVec.ofInt 8 15).toNat : Int) = _
  rw [this, O3]
  omega
theorem F0 : Hh.length = 16 := rfl
theorem Lr (b : List UInt8) (hb : b.length ≤ 1000000) : ∀ (d i f : Nat), d = b.length - i → i ≤ b.length → d < f → Yi b f (Lp (b.take i)) (i : Int) = some (Lp b) := by
  intro d
  induction d with
  | zero =>
    intro i f hd hi hf
    obtain ⟨f, rfl⟩ : ∃ g, f = g + 1 := ⟨f - 1, by omega⟩
    have : i = b.length := by omega
    subst this
    show Yh (Yi b f) b (Lp (b.take b.length)) ((b.length : Nat) : Int) = _
    unfold Yh
    rw [show decide (((b.length : Nat) : Int) < ((b.length : Nat) : Int)) = false by simp, cond_false, List.take_length]
  | succ d ih =>
    intro i f hd hi hf
    obtain ⟨f, rfl⟩ : ∃ g, f = g + 1 := ⟨f - 1, by omega⟩
    show Yh (Yi b f) b (Lp (b.take i)) (i : Int) = _
    unfold Yh
    have hl : (Lp (b.take i)).length ≤ 2000000 := by rw [D8, List.length_take]; omega
    rw [show decide ((i : Int) < ((b.length : Nat) : Int)) = true by simp; omega, cond_true, Zi b i 0 (by omega)]
    have hlt := (b.getD i 0).toNat_lt
    have e1 : idx ([48, 49, 50, 51, 52, 53, 54, 55, 56, 57, 97, 98, 99, 100, 101, 102] : List UInt8) (((b.getD i 0).toNat / 16 : Nat) : Int) = some (Hh.getD ((b.getD i 0).toNat / 16) 0) := Zi Hh _ 0 (by rw [F0]; omega)
    have e2 : idx ([48, 49, 50, 51, 52, 53, 54, 55, 56, 57, 97, 98, 99, 100, 101, 102] : List UInt8) (((b.getD i 0).toNat % 16 : Nat) : Int) = some (Hh.getD ((b.getD i 0).toNat % 16) 0) := Zi Hh _ 0 (by rw [F0]; omega)
    simp only [Option.bind_some, hi_ref, lo_ref, e1, e2]
    rw [Ry (by simp only [List.length_cons, List.length_nil]; omega), Option.bind_some, show ((i : Int) + 1) = ((i + 1 : Nat) : Int) by omega, Xh (by omega)]
    have := ih (i + 1) f (by omega) (by omega) (by omega)
    rw [El b i 0 (by omega), Lq] at this
    exact this
theorem ref_hex (b : List UInt8) (hb : b.length ≤ 1000000) : G1 b = some (Lp b) := Lr b hb b.length 0 Zj (by omega) (by omega) (by unfold Zj; omega)
def hexS (b : List UInt8) (i : Nat) : List UInt8 := Lp (b.take i) ++ List.replicate (2 * b.length - 2 * i) 0
theorem Mv (b : List UInt8) (i : Nat) (h : i ≤ b.length) : (hexS b i).length = 2 * b.length := by
  simp [hexS, D8]
  omega
theorem hexS_next (b : List UInt8) (i : Nat) (h : i < b.length) : ((hexS b i).set (2 * i) (Hh.getD ((b.getD i 0).toNat / 16) 0)).set (2 * i + 1) (Hh.getD ((b.getD i 0).toNat % 16) 0) = hexS b (i + 1) := by
  have hl : (Lp (b.take i)).length = 2 * i := by rw [D8, List.length_take]; omega
  unfold hexS
  rw [show 2 * b.length - 2 * i = (2 * b.length - 2 * (i + 1)) + 1 + 1 by omega, List.replicate_succ, List.replicate_succ]
  rw [List.set_append_right _ _ (by omega), List.set_append_right _ _ (by omega), hl, Nat.sub_self, show 2 * i + 1 - 2 * i = 1 by omega]
  rw [El b i 0 h, Lq]
  simp [hexC]
theorem Kw (b : List UInt8) (hb : b.length ≤ 1000000) : ∀ (d i f : Nat), d = b.length - i → i ≤ b.length → d < f → Ut b f (hexS b i) (i : Int) = some (Lp b) := by
  intro d
  induction d with
  | zero =>
    intro i f hd hi hf
    obtain ⟨f, rfl⟩ : ∃ g, f = g + 1 := ⟨f - 1, by omega⟩
    have : i = b.length := by omega
    subst this
    show Us (Ut b f) b (hexS b b.length) ((b.length : Nat) : Int) = _
    unfold Us
    rw [show decide (((b.length : Nat) : Int) < ((b.length : Nat) : Int)) = false by simp, cond_false]
    unfold hexS
    rw [List.take_length, Nat.sub_self]
    simp
  | succ d ih =>
    intro i f hd hi hf
    obtain ⟨f, rfl⟩ : ∃ g, f = g + 1 := ⟨f - 1, by omega⟩
    show Us (Ut b f) b (hexS b i) (i : Int) = _
    unfold Us
    have hl := Mv b i (by omega)
    rw [show decide ((i : Int) < ((b.length : Nat) : Int)) = true by simp; omega, cond_true, Zi b i 0 (by omega)]
    have hlt := (b.getD i 0).toNat_lt
    have e1 : idx ([48, 49, 50, 51, 52, 53, 54, 55, 56, 57, 97, 98, 99, 100, 101, 102] : List UInt8) (((b.getD i 0).toNat / 16 : Nat) : Int) = some (Hh.getD ((b.getD i 0).toNat / 16) 0) := Zi Hh _ 0 (by rw [F0]; omega)
    have e2 : idx ([48, 49, 50, 51, 52, 53, 54, 55, 56, 57, 97, 98, 99, 100, 101, 102] : List UInt8) (((b.getD i 0).toNat % 16 : Nat) : Int) = some (Hh.getD ((b.getD i 0).toNat % 16) 0) := Zi Hh _ 0 (by rw [F0]; omega)
    have w2 : IntKind.wrap .i64 (2 * (i : Int)) = ((2 * i : Nat) : Int) := by rw [show (2 * (i : Int)) = ((2 * i : Nat) : Int) by omega, Xh (by omega)]
    have w3 : IntKind.wrap .i64 (((2 * i : Nat) : Int) + 1) = ((2 * i + 1 : Nat) : Int) := by rw [show (((2 * i : Nat) : Int) + 1) = ((2 * i + 1 : Nat) : Int) by omega, Xh (by omega)]
    have w4 : IntKind.wrap .i64 ((i : Int) + 1) = ((i + 1 : Nat) : Int) := by rw [show ((i : Int) + 1) = ((i + 1 : Nat) : Int) by omega, Xh (by omega)]
    simp only [Option.bind_some, hi_prog, lo_prog, e1, e2, w2, w3, w4]
    rw [Zi _ (2 * i) 0 (by omega), Option.bind_some, Zi _ (2 * i + 1) 0 (by simp; omega), Option.bind_some, Int.toNat_natCast, Int.toNat_natCast, hexS_next b i (by omega)]
    exact ih (i + 1) f (by omega) (by omega) (by omega)
theorem prog_hex (b : List UInt8) (hb : b.length ≤ 1000000) : Dm b = some (Lp b) := by
  unfold Dm
  rw [show (2 * ((b.length : Nat) : Int)) = ((2 * b.length : Nat) : Int) by omega, Xh (by omega), show decide (0 ≤ ((2 * b.length : Nat) : Int) ∧ ((2 * b.length : Nat) : Int) ≤ 2147483648) = true from decide_eq_true ⟨by omega, by omega⟩]
  simp only [chk, Option.bind_some, Int.toNat_natCast]
  have := Kw b hb b.length 0 Zj (by omega) (by omega) (by unfold Zj; omega)
  have h0 : hexS b 0 = List.replicate (2 * b.length) 0 := by simp [hexS, Lp]
  rw [h0] at this
  exact this
def keyK (key : List UInt8) : List UInt8 := if key.length > 64 then Ps key else key
def keyL (key : List UInt8) : List UInt8 := keyK key ++ List.replicate (64 - (keyK key).length) 0
theorem Il {key : List UInt8} (h : key.length > 64) : keyK key = Ps key := if_pos h
theorem Hi {key : List UInt8} (h : ¬ key.length > 64) : keyK key = key := if_neg h
def xorC (x c : UInt8) : UInt8 := Bc (V7 .u8 ((x.toNat : Nat) : Int) ((c.toNat : Nat) : Int))
def Ls (k : List UInt8) (c : UInt8) : List UInt8 := k.map fun x => xorC x c
def macL (key b : List UInt8) : List UInt8 := Ps (Ls (keyL key) 92 ++ Ps (Ls (keyL key) 54 ++ b))
theorem Cu (key : List UInt8) : (keyL key).length = 64 := by
  unfold keyL
  by_cases h : key.length > 64
  · rw [Il h, List.length_append, List.length_replicate, Jq]
  · rw [Hi h, List.length_append, List.length_replicate]; omega
theorem D9 (key b : List UInt8) : (macL key b).length = 32 := Jq _
theorem N2 (k : List UInt8) (c : UInt8) : (Ls k c).length = k.length := by simp [Ls]
def I0 (k : List UInt8) (c : UInt8) (i : Nat) : List UInt8 := (Ls k c).take i ++ k.drop i
theorem Im (k : List UInt8) (c : UInt8) (i : Nat) : (I0 k c i).length = k.length := by
  simp [I0, N2]
  omega
theorem Ol (k : List UInt8) (c : UInt8) (i : Nat) (h : i < k.length) : (I0 k c i).getD i 0 = k.getD i 0 := by
  unfold I0
  simp only [List.getD]
  rw [List.getElem?_append_right (by simp; omega), List.getElem?_drop]
  congr 2
  simp [N2]
  omega
theorem Lt (k : List UInt8) (c : UInt8) (i : Nat) (h : i < k.length) : (I0 k c i).set i (xorC (k.getD i 0) c) = I0 k c (i + 1) := by
  unfold I0
  have hl : ((Ls k c).take i).length = i := by simp [N2]; omega
  rw [List.set_append_right _ _ (by omega), hl, Nat.sub_self, List.drop_eq_getElem_cons h, List.set_cons_zero, El (Ls k c) i 0 (by simp [N2]; omega), List.append_assoc]
  congr 2
  simp [Ls, List.getD, h]
theorem prog_of (key : List UInt8) (hk : key.length ≤ 1073741824) : Fz key = some (keyL key) := by
  have hc : ∀ v : List UInt8, v.length ≤ 64 → Db v = some (v ++ List.replicate (64 - v.length) 0) := by
    intro v hv
    unfold Db
    rw [Option.bind_some]
    congr 1
    unfold cpy
    rw [List.take_zero, List.nil_append, List.length_replicate, List.take_of_length_le hv, List.drop_replicate, show 64 - (0 + min 64 v.length) = 64 - v.length by omega]
  unfold Fz keyL
  by_cases h : key.length > 64
  · rw [show decide (((key.length : Nat) : Int) > 64) = true from decide_eq_true (by omega), cond_true, Ok key hk, Option.bind_some, Jq]
    simp only [Nat.beq_refl, chk, Option.bind_some]
    rw [hc _ (by rw [Jq]; omega), Il h]
  · rw [show decide (((key.length : Nat) : Int) > 64) = false from decide_eq_false (by omega), cond_false, hc _ (by omega), Hi h]
theorem prog_xor (k : List UInt8) (hk : k.length = 64) (c : UInt8) (b : List UInt8) (hb : b.length ≤ 1000000000) : ∀ (d i f : Nat), d = 64 - i → i ≤ 64 → d < f → Ud c b f (I0 k c i) (i : Int) = some (Ps (Ls k c ++ b)) := by
  intro d
  induction d with
  | zero =>
    intro i f hd hi hf
    obtain ⟨f, rfl⟩ : ∃ g, f = g + 1 := ⟨f - 1, by omega⟩
    have : i = 64 := by omega
    subst this
    show Uc (Ud c b f) c b (I0 k c 64) ((64 : Nat) : Int) = _
    unfold Uc
    have hx : I0 k c 64 = Ls k c := by
      unfold I0
      rw [List.take_of_length_le (by rw [N2]; omega), List.drop_of_length_le (by omega), List.append_nil]
    rw [show decide (((64 : Nat) : Int) < 64) = false by decide, cond_false, hx, Ry (by rw [N2]; omega), Option.bind_some, Ok _ (by rw [List.length_append, N2]; omega), Option.bind_some, Jq]
    rfl
  | succ d ih =>
    intro i f hd hi hf
    obtain ⟨f, rfl⟩ : ∃ g, f = g + 1 := ⟨f - 1, by omega⟩
    show Uc (Ud c b f) c b (I0 k c i) (i : Int) = _
    unfold Uc
    have hl := Im k c i
    rw [show decide ((i : Int) < 64) = true from decide_eq_true (by omega), cond_true, Zi _ i 0 (by omega), Option.bind_some, Option.bind_some, Option.bind_some, Int.toNat_natCast, Ol k c i (by omega)]
    rw [show ((i : Int) + 1) = ((i + 1 : Nat) : Int) by omega, Xh (by omega)]
    have hn := Lt k c i (by omega)
    unfold xorC at hn
    rw [hn]
    exact ih (i + 1) f (by omega) (by omega) (by omega)
theorem Io (k : List UInt8) (hk : k.length = 64) (c : UInt8) (b : List UInt8) (hb : b.length ≤ 1000000000) : R0 k c b = some (Ps (Ls k c ++ b)) := by
  have := prog_xor k hk c b hb 64 0 Zj (by omega) (by omega) (by unfold Zj; omega)
  rw [show I0 k c 0 = k by simp [I0]] at this
  exact this
theorem prog_mac (key b : List UInt8) (hk : key.length ≤ 1073741824) (hb : b.length ≤ 1000000000) : Ek key b = some (macL key b) := by
  unfold Ek
  rw [prog_of key hk, Option.bind_some, Cu]
  simp only [Nat.beq_refl, chk, Option.bind_some]
  rw [Io _ (Cu key) 54 b hb, Option.bind_some, Jq]
  simp only [Nat.beq_refl, Option.bind_some]
  rw [Io _ (Cu key) 92 _ (by rw [Jq]; omega), Option.bind_some, Jq]
  rfl
theorem ref_xor (r5) (k : List UInt8) (hk : k.length = 64) (c : UInt8) : ∀ (d i f : Nat), d = 64 - i → i ≤ 64 → d < f → Zx r5 c f (I0 k c i) (i : Int) = some (Ls k c) := by
  intro d
  induction d with
  | zero =>
    intro i f hd hi hf
    obtain ⟨f, rfl⟩ : ∃ g, f = g + 1 := ⟨f - 1, by omega⟩
    have : i = 64 := by omega
    subst this
    show Xa r5 (Zx r5 c f) c (I0 k c 64) ((64 : Nat) : Int) = _
    unfold Xa
    have hx : I0 k c 64 = Ls k c := by
      unfold I0
      rw [List.take_of_length_le (by rw [N2]; omega), List.drop_of_length_le (by omega), List.append_nil]
    rw [show decide (((64 : Nat) : Int) < 64) = false by decide, cond_false, hx]
  | succ d ih =>
    intro i f hd hi hf
    obtain ⟨f, rfl⟩ : ∃ g, f = g + 1 := ⟨f - 1, by omega⟩
    show Xa r5 (Zx r5 c f) c (I0 k c i) (i : Int) = _
    unfold Xa
    have hl := Im k c i
    rw [show decide ((i : Int) < 64) = true from decide_eq_true (by omega), cond_true, Zi _ i 0 (by omega), Option.bind_some, Option.bind_some, Option.bind_some, Int.toNat_natCast, Ol k c i (by omega)]
    rw [show ((i : Int) + 1) = ((i + 1 : Nat) : Int) by omega, Xh (by omega)]
    have hn := Lt k c i (by omega)
    unfold xorC at hn
    rw [hn]
    exact ih (i + 1) f (by omega) (by omega) (by omega)
theorem ref_fill (c : UInt8) {R : List UInt8} : ∀ (z : Nat) (v : List UInt8) (f : Nat), v.length + z = 64 → z < f → (∀ r5, Zx r5 c Zj (v ++ List.replicate z 0) 0 = some R) → Vq c f v = some R := by
  intro z
  induction z with
  | zero =>
    intro v f hv hf hR
    obtain ⟨f, rfl⟩ : ∃ g, f = g + 1 := ⟨f - 1, by omega⟩
    show Xb (Vq c f) c v = _
    unfold Xb
    rw [show decide (((v.length : Nat) : Int) < 64) = false from decide_eq_false (by omega), cond_false]
    have := hR (Vq c f)
    rw [show List.replicate 0 (0 : UInt8) = [] from rfl, List.append_nil] at this
    exact this
  | succ z ih =>
    intro v f hv hf hR
    obtain ⟨f, rfl⟩ : ∃ g, f = g + 1 := ⟨f - 1, by omega⟩
    show Xb (Vq c f) c v = _
    unfold Xb
    rw [show decide (((v.length : Nat) : Int) < 64) = true from decide_eq_true (by omega), cond_true, Ry (by simp; omega), Option.bind_some]
    refine ih (v ++ [0]) f (by simp; omega) (by omega) fun r5 => ?_
    have := hR r5
    rw [show List.replicate (z + 1) (0 : UInt8) = [0] ++ List.replicate z 0 from rfl, ← List.append_assoc] at this
    exact this
theorem Om (c : UInt8) (v : List UInt8) (hv : v.length ≤ 64) : Xc c v = some (Ls (v ++ List.replicate (64 - v.length) 0) c) := by
  unfold Xc
  refine ref_fill c (64 - v.length) v Zj (by omega) (by unfold Zj; omega) fun r5 => ?_
  have hl : (v ++ List.replicate (64 - v.length) (0 : UInt8)).length = 64 := by simp; omega
  generalize v ++ List.replicate (64 - v.length) (0 : UInt8) = k at hl ⊢
  have := ref_xor r5 k hl c 64 0 Zj (by omega) (by omega) (by unfold Zj; omega)
  rw [show I0 k c 0 = k by simp [I0]] at this
  exact this
end Go.Proofs.YtmgfanhcdfobhaaGreatDoor
namespace Go.Proofs.YtmgfanhcdfobhaaGreatDoor
theorem ref_pad2 (q : List UInt8) (hs : q.length = 32) (c : UInt8) : ((chk (Nat.beq (List.length q) 32)).bind fun _ => ((app ([] : List UInt8) q).bind fun l541 => (Xc c l541))) = some (Ls (q ++ List.replicate (64 - q.length) 0) c) := by
  rw [show Nat.beq q.length 32 = true by rw [hs]; rfl]
  simp only [chk, Option.bind_some]
  rw [Ry (by rw [List.length_nil, hs]; omega), Option.bind_some, List.nil_append]
  exact Om c q (by omega)
theorem Kd (key : List UInt8) (hk : key.length ≤ 1073741824) (c : UInt8) : Ja key c = some (Ls (keyL key) c) := by
  unfold Ja keyL
  rw [Ry (by rw [List.length_nil]; omega), Option.bind_some, List.nil_append]
  by_cases h : key.length > 64
  · rw [Il h, show decide (((key.length : Nat) : Int) > 64) = true from decide_eq_true (by omega), cond_true, Mt key hk, Option.bind_some]
    exact ref_pad2 _ (Jq key) c
  · rw [Hi h, show decide (((key.length : Nat) : Int) > 64) = false from decide_eq_false (by omega), cond_false]
    exact Om c key (by omega)
theorem ref_mac (key b : List UInt8) (hk : key.length ≤ 1073741824) (hb : b.length ≤ 1000000000) : Nq key b = some (macL key b) := by
  have hx : ∀ c, (Ls (keyL key) c).length = 64 := fun c => by rw [N2, Cu]
  unfold Nq
  rw [Kd key hk 54, Option.bind_some, Ry (by rw [hx]; omega), Option.bind_some, Mt _ (by rw [List.length_append, hx]; omega), Option.bind_some, Jq]
  simp only [Nat.beq_refl, chk, Option.bind_some]
  rw [Kd key hk 92, Option.bind_some, Ry (by rw [hx, Jq]; omega), Option.bind_some, Mt _ (by rw [List.length_append, hx, Jq]; omega), Option.bind_some, Jq]
  rfl
def Kx (s : List UInt8) : List UInt8 := UInt8.ofNat s.length :: s
def C1 (key : List UInt8) (ws : List (List UInt8)) : List UInt8 := if ws.all (fun w => decide (w.length ≤ 255)) then Lp (macL key (ws.flatMap Kx)) else []
theorem Ky {key : List UInt8} {ws : List (List UInt8)} (h : ∀ w ∈ ws, w.length ≤ 255) : (C1 key ws).length = 64 := by
  unfold C1
  rw [if_pos (by simpa using h), D8, D9]
theorem prog_text (s : List UInt8) (h : s.length ≤ 255) : B5 s = some (Kx s) := by
  unfold B5
  rw [show decide (((s.length : Nat) : Int) > 255) = false from decide_eq_false (by omega), cond_false, Ry (by simp; omega), Fq]
  rfl
theorem ref_text (s : List UInt8) (h : s.length ≤ 255) : U9 s = some (Kx s) := by
  unfold U9
  rw [show decide (((s.length : Nat) : Int) > 255) = false from decide_eq_false (by omega), cond_false, Ry (by simp; omega), Fq]
  rfl
theorem Cv (s : List UInt8) : (Kx s).length = s.length + 1 := by simp [Kx]
theorem E0 {ws : List (List UInt8)} {i : Nat} (hi : i < ws.length) (h : ¬ (ws.getD i []).length ≤ 255) : ws.all (fun w => decide (w.length ≤ 255)) = false := by
  rw [List.all_eq_false]
  refine ⟨ws.getD i [], ?_, by simpa using h⟩
  simp [List.getD, hi]
theorem Ip (key : List UInt8) (hk : key.length ≤ 1073741824) (ws : List (List UInt8)) (hw : ws.length ≤ 1000) : ∀ (d i f : Nat), d = ws.length - i → i ≤ ws.length → d < f → (∀ w ∈ ws.take i, w.length ≤ 255) → ((ws.take i).flatMap Kx).length ≤ 256 * i →
    Ne key ws f ((ws.take i).flatMap Kx) (i : Int) = some (C1 key ws) := by
  intro d
  induction d with
  | zero =>
    intro i f hd hi hf hall hlen
    obtain ⟨f, rfl⟩ : ∃ g, f = g + 1 := ⟨f - 1, by omega⟩
    have : i = ws.length := by omega
    subst this
    rw [List.take_length] at hall hlen ⊢
    show Nd (Ne key ws f) key ws (ws.flatMap Kx) ((ws.length : Nat) : Int) = _
    unfold Nd C1
    rw [show decide (((ws.length : Nat) : Int) < ((ws.length : Nat) : Int)) = false by simp, cond_false, prog_mac key _ hk (by omega), Option.bind_some, D9]
    simp only [Nat.beq_refl, chk, Option.bind_some]
    rw [prog_hex _ (by rw [D9]; omega), Option.bind_some, if_pos (by simpa using hall)]
  | succ d ih =>
    intro i f hd hi hf hall hlen
    obtain ⟨f, rfl⟩ : ∃ g, f = g + 1 := ⟨f - 1, by omega⟩
    show Nd (Ne key ws f) key ws ((ws.take i).flatMap Kx) (i : Int) = _
    unfold Nd
    rw [show decide ((i : Int) < ((ws.length : Nat) : Int)) = true from decide_eq_true (by omega), cond_true, Zi ws i [] (by omega), Option.bind_some]
    by_cases h : (ws.getD i []).length ≤ 255
    · rw [show decide ((((ws.getD i []).length : Nat) : Int) > 255) = false from decide_eq_false (by omega), cond_false, prog_text _ h, Option.bind_some, Ry (by rw [Cv]; omega), Option.bind_some, show ((i : Int) + 1) = ((i + 1 : Nat) : Int) by omega, Xh (by omega)]
      have ht := El ws i [] (by omega)
      have hf : (ws.take (i + 1)).flatMap Kx = (ws.take i).flatMap Kx ++ Kx (ws.getD i []) := by rw [ht]; simp
      have := ih (i + 1) f (by omega) (by omega) (by omega) (by
        intro w hw'
        rw [ht] at hw'
        rcases List.mem_append.1 hw' with h1 | h1
        · exact hall w h1
        · simp only [List.mem_singleton] at h1
          rw [h1]; exact h) (by rw [hf, List.length_append, Cv]; omega)
      rw [hf] at this
      exact this
    · rw [show decide ((((ws.getD i []).length : Nat) : Int) > 255) = true from decide_eq_true (by omega), cond_true]
      unfold C1
      rw [E0 (by omega) h]
      rfl
theorem Pg (key : List UInt8) (hk : key.length ≤ 1073741824) (ws : List (List UInt8)) (hw : ws.length ≤ 1000) : Cs key ws = some (C1 key ws) :=
  Ip key hk ws hw ws.length 0 Zj (by omega) (by omega) (by unfold Zj; omega) (by simp) (by simp)
theorem I1 (key : List UInt8) (hk : key.length ≤ 1073741824) (ws : List (List UInt8)) (hw : ws.length ≤ 1000) : ∀ (d i f : Nat), d = ws.length - i → i ≤ ws.length → d < f → (∀ w ∈ ws.take i, w.length ≤ 255) → ((ws.take i).flatMap Kx).length ≤ 256 * i →
    Xp key ws f ((ws.take i).flatMap Kx) (i : Int) = some (C1 key ws) := by
  intro d
  induction d with
  | zero =>
    intro i f hd hi hf hall hlen
    obtain ⟨f, rfl⟩ : ∃ g, f = g + 1 := ⟨f - 1, by omega⟩
    have : i = ws.length := by omega
    subst this
    rw [List.take_length] at hall hlen ⊢
    show Xo (Xp key ws f) key ws (ws.flatMap Kx) ((ws.length : Nat) : Int) = _
    unfold Xo C1
    rw [show decide (((ws.length : Nat) : Int) < ((ws.length : Nat) : Int)) = false by simp, cond_false, ref_mac key _ hk (by omega), Option.bind_some, D9]
    simp only [Nat.beq_refl, chk, Option.bind_some]
    rw [ref_hex _ (by rw [D9]; omega), Option.bind_some, if_pos (by simpa using hall)]
  | succ d ih =>
    intro i f hd hi hf hall hlen
    obtain ⟨f, rfl⟩ : ∃ g, f = g + 1 := ⟨f - 1, by omega⟩
    show Xo (Xp key ws f) key ws ((ws.take i).flatMap Kx) (i : Int) = _
    unfold Xo
    rw [show decide ((i : Int) < ((ws.length : Nat) : Int)) = true from decide_eq_true (by omega), cond_true, Zi ws i [] (by omega), Option.bind_some, Option.bind_some]
    by_cases h : (ws.getD i []).length ≤ 255
    · rw [show decide ((((ws.getD i []).length : Nat) : Int) > 255) = false from decide_eq_false (by omega), cond_false, ref_text _ h, Option.bind_some, Ry (by rw [Cv]; omega), Option.bind_some, show ((i : Int) + 1) = ((i + 1 : Nat) : Int) by omega, Xh (by omega)]
      have ht := El ws i [] (by omega)
      have hf : (ws.take (i + 1)).flatMap Kx = (ws.take i).flatMap Kx ++ Kx (ws.getD i []) := by rw [ht]; simp
      have := ih (i + 1) f (by omega) (by omega) (by omega) (by
        intro w hw'
        rw [ht] at hw'
        rcases List.mem_append.1 hw' with h1 | h1
        · exact hall w h1
        · simp only [List.mem_singleton] at h1
          rw [h1]; exact h) (by rw [hf, List.length_append, Cv]; omega)
      rw [hf] at this
      exact this
    · rw [show decide ((((ws.getD i []).length : Nat) : Int) > 255) = true from decide_eq_true (by omega), cond_true]
      unfold C1
      rw [E0 (by omega) h]
      rfl
theorem ref_proof (key : List UInt8) (hk : key.length ≤ 1073741824) (ws : List (List UInt8)) (hw : ws.length ≤ 1000) : N1 key ws = some (C1 key ws) :=
  I1 key hk ws hw ws.length 0 Zj (by omega) (by omega) (by unfold Zj; omega) (by simp) (by simp)
end Go.Proofs.YtmgfanhcdfobhaaGreatDoor
