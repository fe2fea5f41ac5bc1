import Derived.Test.YtmgfanhcdfobhaaGreatDoorPkVaultRevokes3
set_option linter.unusedSimpArgs false
set_option linter.unusedVariables false
set_option linter.unusedSectionVars false
namespace Go.Proofs.YtmgfanhcdfobhaaGreatDoor
open Go.RowKit
def Uy  : Option ((List Int)) :=
  (some (([1116352408, 1899447441, 3049323471, 3921009573, 961987163, 1508970993, 2453635748, 2870763221, 3624381080, 310598401, 607225278, 1426881987, 1925078388, 2162078206, 2614888103, 3248222580, 3835390401, 4022224774, 264347078, 604807628, 770255983, 1249150122, 1555081692, 1996064986, 2554220882, 2821834349, 2952996808, 3210313671, 3336571891, 3584528711, 113926993, 338241895, 666307205, 773529912, 1294757372, 1396182291, 1695183700, 1986661051, 2177026350, 2456956037, 2730485921, 2820302411, 3259730800, 3345764771, 3516065817, 3600352804, 4094571909, 275423344, 430227734, 506948616, 659060556, 883997877, 958139571, 1322822218, 1537002063, 1747873779, 1955562222, 2024104815, 2227730452, 2361852424, 2428436474, 2756734187, 3204031479, 3329325298] : List Int)))
set_option maxRecDepth 100000 in
set_option maxHeartbeats 4000000 in
theorem G6   (w0 : World)  (r : ((List Int))) (H : Uy  = some r) :
  Calls Tryz.prog 101 #[] w0 (fun e w' => e = .returned (.agg (Qb (Qc .u32) r).toArray) ∧ SP [] w0 w' []) := by
 unfold Uy at H
 refine Qv (n := 2) Tryz.func101 K K K ?_
 have c := Q1 [] w0
 refine aQ ?_
 refine aR ?_
 refine iS 1 ?_
 refine Qz (e := (Qc .u32)) (l := (List.replicate 64 0)) (m := 64) (t := 135) (z := .agg (Qb (Qc .u32) (List.replicate 64 0)).toArray) (d := (some 0)) (k := 0) K rfl K rfl rfl K c ?_
 intro g1 w2 f
 refine iF ?_
 refine aQ ?_
 refine aR ?_
 refine iR 1 1 [(1, (.agg (Qb (Qc .u32) ([1116352408, 1899447441, 3049323471, 3921009573, 961987163, 1508970993, 2453635748, 2870763221, 3624381080, 310598401, 607225278, 1426881987, 1925078388, 2162078206, 2614888103, 3248222580, 3835390401, 4022224774, 264347078, 604807628, 770255983, 1249150122, 1555081692, 1996064986, 2554220882, 2821834349, 2952996808, 3210313671, 3336571891, 3584528711, 113926993, 338241895, 666307205, 773529912, 1294757372, 1396182291, 1695183700, 1986661051, 2177026350, 2456956037, 2730485921, 2820302411, 3259730800, 3345764771, 3516065817, 3600352804, 4094571909, 275423344, 430227734, 506948616, 659060556, 883997877, 958139571, 1322822218, 1537002063, 1747873779, 1955562222, 2024104815, 2227730452, 2361852424, 2428436474, 2756734187, 3204031479, 3329325298] : List Int)).toArray))] ?_
 refine iS 2 ?_
 refine Q8 (e := (Qc .u32)) (l := (List.replicate 64 0)) (l' := ([1116352408, 1899447441, 3049323471, 3921009573, 961987163, 1508970993, 2453635748, 2870763221, 3624381080, 310598401, 607225278, 1426881987, 1925078388, 2162078206, 2614888103, 3248222580, 3835390401, 4022224774, 264347078, 604807628, 770255983, 1249150122, 1555081692, 1996064986, 2554220882, 2821834349, 2952996808, 3210313671, 3336571891, 3584528711, 113926993, 338241895, 666307205, 773529912, 1294757372, 1396182291, 1695183700, 1986661051, 2177026350, 2456956037, 2730485921, 2820302411, 3259730800, 3345764771, 3516065817, 3600352804, 4094571909, 275423344, 430227734, 506948616, 659060556, 883997877, 958139571, 1322822218, 1537002063, 1747873779, 1955562222, 2024104815, 2227730452, 2361852424, 2428436474, 2756734187, 3204031479, 3329325298] : List Int)) (m := 64) (t := 135) (x := (.tmp 0)) (y := (.tmp 1)) (g := g1) (i := 0) (d := none) (k := 1) K rfl K K rfl f rfl K ?_
 intro w5 b
 refine iF ?_
 refine At.ret K ?_
 refine ⟨(.agg (Qb (Qc .u32) ([1116352408, 1899447441, 3049323471, 3921009573, 961987163, 1508970993, 2453635748, 2870763221, 3624381080, 310598401, 607225278, 1426881987, 1925078388, 2162078206, 2614888103, 3248222580, 3835390401, 4022224774, 264347078, 604807628, 770255983, 1249150122, 1555081692, 1996064986, 2554220882, 2821834349, 2952996808, 3210313671, 3336571891, 3584528711, 113926993, 338241895, 666307205, 773529912, 1294757372, 1396182291, 1695183700, 1986661051, 2177026350, 2456956037, 2730485921, 2820302411, 3259730800, 3345764771, 3516065817, 3600352804, 4094571909, 275423344, 430227734, 506948616, 659060556, 883997877, 958139571, 1322822218, 1537002063, 1747873779, 1955562222, 2024104815, 2227730452, 2361852424, 2428436474, 2756734187, 3204031479, 3329325298] : List Int)).toArray), Bc K (J7 (e := (Qc .u32)) (l := ([1116352408, 1899447441, 3049323471, 3921009573, 961987163, 1508970993, 2453635748, 2870763221, 3624381080, 310598401, 607225278, 1426881987, 1925078388, 2162078206, 2614888103, 3248222580, 3835390401, 4022224774, 264347078, 604807628, 770255983, 1249150122, 1555081692, 1996064986, 2554220882, 2821834349, 2952996808, 3210313671, 3336571891, 3584528711, 113926993, 338241895, 666307205, 773529912, 1294757372, 1396182291, 1695183700, 1986661051, 2177026350, 2456956037, 2730485921, 2820302411, 3259730800, 3345764771, 3516065817, 3600352804, 4094571909, 275423344, 430227734, 506948616, 659060556, 883997877, 958139571, 1322822218, 1537002063, 1747873779, 1955562222, 2024104815, 2227730452, 2361852424, 2428436474, 2756734187, 3204031479, 3329325298] : List Int)) (a := 0) (t := 135) K (SP.get b (i := 0) rfl) K K), ?_⟩
 obtain rfl := Qm H
 exact ⟨rfl, SP.sel b [] rfl rfl⟩
def Z8 (p1 : Int) (p2 : Int) : Option (Int) :=
  ((chk (decide (0 ≤ p2))).bind fun _ => ((chk (decide (0 ≤ (IntKind.wrap .i64 (32 - p2))))).bind fun _ => (some ((bOr .u32 (J4 .u32 p1 p2) (Ni .u32 p1 (IntKind.wrap .i64 (32 - p2))))))))
set_option maxRecDepth 100000 in
set_option maxHeartbeats 4000000 in
theorem Z9  (p1 : Int) (p2 : Int) (w0 : World)  (r : (Int)) (H : Z8 p1 p2 = some r) :
  Calls Tryz.prog 118 #[(.int .u32 p1), (.int .i64 p2)] w0 (fun e w' => e = .returned (.int .u32 r) ∧ SP [] w0 w' []) := by
 unfold Z8 at H
 refine Qv (n := 13) Tryz.func118 K K K ?_
 have f := Q1 [] w0
 refine aQ ?_
 refine aR ?_
 refine iR 1 1 [(4, (.int .u32 0))] ?_
 refine iF ?_
 refine aQ ?_
 obtain ⟨hl3, H⟩ := Vv H
 obtain ⟨hl4, H⟩ := Vv H
 refine aG [GEq (.int .u32 p1), GEq (.int .i64 p2), GEq (.int .u32 (J4 .u32 p1 p2)), GEq (.int .u32 p1), GEq (.int .i64 p2), GEq (.int .i64 (IntKind.wrap .i64 (32 - p2))), GEq (.int .u32 (Ni .u32 p1 (IntKind.wrap .i64 (32 - p2)))), GEq (.int .u32 (bOr .u32 (J4 .u32 p1 p2) (Ni .u32 p1 (IntKind.wrap .i64 (32 - p2))))), GEq (.int .u32 (bOr .u32 (J4 .u32 p1 p2) (Ni .u32 p1 (IntKind.wrap .i64 (32 - p2)))))] [] (tG [] w0 [] [([], [])]) 9 0 ⟨trivial, SP.drew f⟩ ?_ ?_
 iterate 9 refine And.intro ?_ ?_
 exact trivial
 ·exact oV (hC (hS 0 (.int .u32 p1)) (h0)) (.int .u32 p1)
 ·exact oV (hC (hS 1 (.int .i64 p2)) (h0)) (.int .i64 p2)
 ·refine oL 0 ?_
  ·rintro ρ' w' hs hah ⟨h, i⟩
   refine kM (kc (kA hah 0 5) (kc (kA hah 1 6) k0)) fun hkn => ?_
   refine Qj.shift (op := .shr) (T := 111) (T' := 3) (x := (.tmp 5)) (y := (.tmp 6)) (kx := .u32) (ky := .i64) (a := p1) (b := p2) (v := (.int .u32 (J4 .u32 p1 p2))) (d := (some 7)) (k := 2) K rfl K K (of_decide_eq_true hl3) rfl ?_
   exact eK hkn
 ·exact oV (hC (hS 0 (.int .u32 p1)) (h0)) (.int .u32 p1)
 ·exact oV (hC (hS 1 (.int .i64 p2)) (h0)) (.int .i64 p2)
 ·exact oV (hC (hA 4 9) (h0)) (.int .i64 (IntKind.wrap .i64 (32 - p2)))
 ·refine oL 0 ?_
  ·rintro ρ' w' hs hah ⟨j, l⟩
   refine kM (kc (kA hah 3 8) (kc (kA hah 5 10) k0)) fun hkn => ?_
   refine Qj.shift (op := .shl) (T := 111) (T' := 3) (x := (.tmp 8)) (y := (.tmp 10)) (kx := .u32) (ky := .i64) (a := p1) (b := (IntKind.wrap .i64 (32 - p2))) (v := (.int .u32 (Ni .u32 p1 (IntKind.wrap .i64 (32 - p2))))) (d := (some 11)) (k := 6) K rfl K K (of_decide_eq_true hl4) rfl ?_
   exact eK hkn
 ·exact oV (hC (hA 2 7) (hC (hA 6 11) (h0))) (.int .u32 (bOr .u32 (J4 .u32 p1 p2) (Ni .u32 p1 (IntKind.wrap .i64 (32 - p2)))))
 ·exact oV (hC (hA 7 12) (h0)) (.int .u32 (bOr .u32 (J4 .u32 p1 p2) (Ni .u32 p1 (IntKind.wrap .i64 (32 - p2)))))
 ·rintro ρ' w' hs hf ⟨m, c⟩
  refine Vh [(4, (.int .u32 (bOr .u32 (J4 .u32 p1 p2) (Ni .u32 p1 (IntKind.wrap .i64 (32 - p2))))))] ⟨hf 8 4 K, trivial⟩ ?_
  obtain ⟨o, g⟩ : ∃ x, w' = x := ⟨_, rfl⟩
  rw [g] at c ⊢
  refine At.ret K ?_
  refine ⟨(.int .u32 (bOr .u32 (J4 .u32 p1 p2) (Ni .u32 p1 (IntKind.wrap .i64 (32 - p2))))), K, ?_⟩
  obtain rfl := Qm H
  exact ⟨rfl, SP.sel c [] rfl rfl⟩
def Y6 (p1 : Int) (p2 : Int) (p3 : Int) (p4 : Int) : Option (Int) :=
  ((Z8 p1 p2).bind fun z5 => ((Z8 p1 p3).bind fun a => ((chk (decide (0 ≤ p4))).bind fun _ => (some ((V0 .u32 (V0 .u32 z5 a) (J4 .u32 p1 p4)))))))
set_option maxRecDepth 100000 in
set_option maxHeartbeats 4000000 in
theorem U4  (p1 : Int) (p2 : Int) (p3 : Int) (p4 : Int) (w0 : World)  (r : (Int)) (H : Y6 p1 p2 p3 p4 = some r) :
  Calls Tryz.prog 117 #[(.int .u32 p1), (.int .i64 p2), (.int .i64 p3), (.int .i64 p4)] w0 (fun e w' => e = .returned (.int .u32 r) ∧ SP [] w0 w' []) := by
 unfold Y6 at H
 refine Qv (n := 20) Tryz.func117 K K K ?_
 have i := Q1 [] w0
 refine aQ ?_
 refine aR ?_
 refine iR 1 1 [(8, (.int .u32 0))] ?_
 refine iF ?_
 refine aQ ?_
 obtain ⟨z5, j, H⟩ := Qf H
 obtain ⟨c, l, H⟩ := Qf H
 obtain ⟨hl17, H⟩ := Vv H
 refine aG [GEq (.int .u32 p1), GEq (.int .i64 p2), GEq (.int .u32 z5), GEq (.int .u32 p1), GEq (.int .i64 p3), GEq (.int .u32 c), GEq (.int .u32 (V0 .u32 z5 c)), GEq (.int .u32 p1), GEq (.int .i64 p4), GEq (.int .u32 (J4 .u32 p1 p4)), GEq (.int .u32 (V0 .u32 (V0 .u32 z5 c) (J4 .u32 p1 p4))), GEq (.int .u32 (V0 .u32 (V0 .u32 z5 c) (J4 .u32 p1 p4)))] [2, 5] (tG [] w0 [] [([], []), ([2], [(.int .u32 z5)]), ([2, 5], [(.int .u32 z5), (.int .u32 c)])]) 12 2 ⟨trivial, SP.drew i⟩ ?_ ?_
 iterate 12 refine And.intro ?_ ?_
 exact trivial
 ·exact oV (hC (hS 0 (.int .u32 p1)) (h0)) (.int .u32 p1)
 ·exact oV (hC (hS 1 (.int .i64 p2)) (h0)) (.int .i64 p2)
 ·refine oH 0 1 ?_
  ·rintro ρ' w' hs hah ⟨u, m⟩
   refine kM (kc (kA hah 0 9) (kc (kA hah 1 10) k0)) fun hkn => ?_
   refine cF 118 #[(.tmp 9), (.tmp 10)] #[111, 3] 11 Tryz.call118 (Z9  p1 p2 w'  z5 j) ?_
   rintro e w32 ⟨rfl, f⟩
   refine ⟨_, rfl, ?_⟩
   have o := SP.call m f
   clear f
   refine ⟨_, Qa hkn, rfl, ?_⟩
   exact (And.intro (And.intro rfl (trivial)) (o))
 ·exact oV (hC (hS 0 (.int .u32 p1)) (h0)) (.int .u32 p1)
 ·exact oV (hC (hS 2 (.int .i64 p3)) (h0)) (.int .i64 p3)
 ·refine oH 1 2 ?_
  ·rintro ρ' w' hs hah ⟨⟨p, -⟩, q⟩
   refine kM (kc (kA hah 3 12) (kc (kA hah 4 13) k0)) fun hkn => ?_
   refine cF 118 #[(.tmp 12), (.tmp 13)] #[111, 3] 14 Tryz.call118 (Z9  p1 p3 w'  c l) ?_
   rintro e w ⟨rfl, g⟩
   refine ⟨_, rfl, ?_⟩
   have s := SP.call q g
   clear g
   refine ⟨_, Qa hkn, rfl, ?_⟩
   exact (And.intro (And.intro p (And.intro rfl (trivial))) (s))
 ·exact oV (hC (hA 2 11) (hC (hA 5 14) (h0))) (.int .u32 (V0 .u32 z5 c))
 ·exact oV (hC (hS 0 (.int .u32 p1)) (h0)) (.int .u32 p1)
 ·exact oV (hC (hS 3 (.int .i64 p4)) (h0)) (.int .i64 p4)
 ·refine Owe.light K [0, 1, 2] K (Qd ?_ (Qd ?_ (Qd ?_ Q4)))
  ·rintro ρ' w' hs hah ⟨z, a0⟩
   refine kM (kc (kA hah 7 16) (kc (kA hah 8 17) k0)) fun hkn => ?_
   refine Qj.shift (op := .shr) (T := 111) (T' := 3) (x := (.tmp 16)) (y := (.tmp 17)) (kx := .u32) (ky := .i64) (a := p1) (b := p4) (v := (.int .u32 (J4 .u32 p1 p4))) (d := (some 18)) (k := 9) K rfl K K (of_decide_eq_true hl17) rfl ?_
   exact eK hkn
  ·rintro ρ' w' hs hah ⟨⟨a1, -⟩, a2⟩
   refine kM (kc (kA hah 7 16) (kc (kA hah 8 17) k0)) fun hkn => ?_
   refine Qj.shift (op := .shr) (T := 111) (T' := 3) (x := (.tmp 16)) (y := (.tmp 17)) (kx := .u32) (ky := .i64) (a := p1) (b := p4) (v := (.int .u32 (J4 .u32 p1 p4))) (d := (some 18)) (k := 9) K rfl K K (of_decide_eq_true hl17) rfl ?_
   exact eK hkn
  ·rintro ρ' w' hs hah ⟨⟨a3, a4, -⟩, a5⟩
   refine kM (kc (kA hah 7 16) (kc (kA hah 8 17) k0)) fun hkn => ?_
   refine Qj.shift (op := .shr) (T := 111) (T' := 3) (x := (.tmp 16)) (y := (.tmp 17)) (kx := .u32) (ky := .i64) (a := p1) (b := p4) (v := (.int .u32 (J4 .u32 p1 p4))) (d := (some 18)) (k := 9) K rfl K K (of_decide_eq_true hl17) rfl ?_
   exact eK hkn
 ·exact oV (hC (hA 6 15) (hC (hA 9 18) (h0))) (.int .u32 (V0 .u32 (V0 .u32 z5 c) (J4 .u32 p1 p4)))
 ·exact oV (hC (hA 10 19) (h0)) (.int .u32 (V0 .u32 (V0 .u32 z5 c) (J4 .u32 p1 p4)))
 ·rintro ρ' w' hs hf ⟨⟨a6, a7, -⟩, h⟩
  refine Vh [(8, (.int .u32 (V0 .u32 (V0 .u32 z5 c) (J4 .u32 p1 p4))))] ⟨hf 11 8 K, trivial⟩ ?_
  obtain ⟨a8, t⟩ : ∃ x, w' = x := ⟨_, rfl⟩
  rw [t] at h ⊢
  refine At.ret K ?_
  refine ⟨(.int .u32 (V0 .u32 (V0 .u32 z5 c) (J4 .u32 p1 p4))), K, ?_⟩
  obtain rfl := Qm H
  exact ⟨rfl, SP.sel h [] rfl rfl⟩
def Y7 (p1 : Int) (p2 : Int) (p3 : Int) (p4 : Int) : Option (Int) :=
  ((Z8 p1 p2).bind fun z5 => ((Z8 p1 p3).bind fun a => ((Z8 p1 p4).bind fun b => (some ((V0 .u32 (V0 .u32 z5 a) b))))))
set_option maxRecDepth 100000 in
set_option maxHeartbeats 4000000 in
theorem U5  (p1 : Int) (p2 : Int) (p3 : Int) (p4 : Int) (w0 : World)  (r : (Int)) (H : Y7 p1 p2 p3 p4 = some r) :
  Calls Tryz.prog 103 #[(.int .u32 p1), (.int .i64 p2), (.int .i64 p3), (.int .i64 p4)] w0 (fun e w' => e = .returned (.int .u32 r) ∧ SP [] w0 w' []) := by
 unfold Y7 at H
 refine Qv (n := 20) Tryz.func103 K K K ?_
 have g := Q1 [] w0
 refine aQ ?_
 refine aR ?_
 refine iR 1 1 [(8, (.int .u32 0))] ?_
 refine iF ?_
 refine aQ ?_
 refine aR ?_
 refine iR 2 2 [(9, (.int .u32 p1)), (10, (.int .i64 p2))] ?_
 obtain ⟨z5, h, H⟩ := Qf H
 refine iS 3 ?_
 refine cF 118 #[(.tmp 9), (.tmp 10)] #[111, 3] 11 Tryz.call118 (Z9  p1 p2 w0  z5 h) ?_
 rintro e w7 ⟨rfl, c⟩
 refine ⟨_, rfl, ?_⟩
 have i := SP.call g c
 clear c
 refine iR 2 5 [(12, (.int .u32 p1)), (13, (.int .i64 p3))] ?_
 obtain ⟨a, j, H⟩ := Qf H
 refine iS 6 ?_
 refine cF 118 #[(.tmp 12), (.tmp 13)] #[111, 3] 14 Tryz.call118 (Z9  p1 p3 w7  a j) ?_
 rintro e k ⟨rfl, d⟩
 refine ⟨_, rfl, ?_⟩
 have l := SP.call i d
 clear d
 refine iR 3 9 [(15, (.int .u32 (V0 .u32 z5 a))), (16, (.int .u32 p1)), (17, (.int .i64 p4))] ?_
 obtain ⟨b, m, H⟩ := Qf H
 refine iS 10 ?_
 refine cF 118 #[(.tmp 16), (.tmp 17)] #[111, 3] 18 Tryz.call118 (Z9  p1 p4 k  b m) ?_
 rintro e p ⟨rfl, f⟩
 refine ⟨_, rfl, ?_⟩
 have o := SP.call l f
 clear f
 refine iR 2 12 [(19, (.int .u32 (V0 .u32 (V0 .u32 z5 a) b))), (8, (.int .u32 (V0 .u32 (V0 .u32 z5 a) b)))] ?_
 refine iF ?_
 refine At.ret K ?_
 refine ⟨(.int .u32 (V0 .u32 (V0 .u32 z5 a) b)), K, ?_⟩
 obtain rfl := Qm H
 exact ⟨rfl, SP.sel o [] rfl rfl⟩
def Xj (a : (List Int) → Int → Option ((List Int))) (b : Int) (c : (List Int)) : Option ((List Int)) :=
  (a c (IntKind.wrap .i64 (b + 1)))
def Yp (c : (List Int) → Int → Option ((List Int))) (p1 : (List UInt8)) (b : (List Int)) (a : Int) : Option ((List Int)) :=
  (cond (decide (a < 64)) (cond (decide (a < 16)) ((idx p1 (IntKind.wrap .i64 (4 * a))).bind fun d => ((idx p1 (IntKind.wrap .i64 ((IntKind.wrap .i64 (4 * a)) + 1))).bind fun e => ((idx p1 (IntKind.wrap .i64 ((IntKind.wrap .i64 (4 * a)) + 2))).bind fun f => ((idx p1 (IntKind.wrap .i64 ((IntKind.wrap .i64 (4 * a)) + 3))).bind fun g => ((idx b a).bind fun p => ((some (List.set b (Int.toNat a) (bOr .u32 (bOr .u32 (bOr .u32 (Ni .u32 (IntKind.wrap .u32 ((d).toNat : Int)) 24) (Ni .u32 (IntKind.wrap .u32 ((e).toNat : Int)) 16)) (Ni .u32 (IntKind.wrap .u32 ((f).toNat : Int)) 8)) (IntKind.wrap .u32 ((g).toNat : Int))))).bind fun h => (Xj c a h))))))) ((idx b (IntKind.wrap .i64 (a - 2))).bind fun i => ((Y6 i 17 19 10).bind fun j => ((idx b (IntKind.wrap .i64 (a - 7))).bind fun k => ((idx b (IntKind.wrap .i64 (a - 15))).bind fun l => ((Y6 l 7 18 3).bind fun m => ((idx b (IntKind.wrap .i64 (a - 16))).bind fun n => ((idx b a).bind fun q => ((some (List.set b (Int.toNat a) (IntKind.wrap .u32 ((IntKind.wrap .u32 ((IntKind.wrap .u32 (j + k)) + m)) + n)))).bind fun o => (Xj c a o)))))))))) (some (b)))
def Zz (p1 : (List UInt8)) : Nat → (List Int) → Int → Option ((List Int))
  | 0, _, _ => none
  | f + 1, a, b => Yp  (Zz p1 f) p1 a b
def Jm (p1 : (List UInt8)) : Option ((List Int)) :=
  (Zz p1 Z0 (List.replicate 64 0) 0)
set_option maxRecDepth 100000 in
set_option maxHeartbeats 4000000 in
theorem Gk (A2 : Option Addr) (c3 : Nat) (p1 : (List UInt8)) (w0 : World) (a2 : RdT eU8 w0 A2 c3 p1) (r : ((List Int))) (H : Jm p1 = some r) :
  Calls Tryz.prog 102 #[(.slice A2 (List.length p1) c3)] w0 (fun e w' => e = .returned (.agg (Qb (Qc .u32) r).toArray) ∧ SP [] w0 w' []) := by
 unfold Jm at H
 refine Qv (n := 70) Tryz.func102 K K K ?_
 have e6 := Q1 [] w0
 refine aQ ?_
 refine aR ?_
 refine iS 1 ?_
 refine Qz (e := (Qc .u32)) (l := (List.replicate 64 0)) (m := 64) (t := 135) (z := .agg (Qb (Qc .u32) (List.replicate 64 0)).toArray) (d := (some 2)) (k := 0) K rfl K rfl rfl K e6 ?_
 intro g5 w6 e7
 refine iF ?_
 refine aQ ?_
 refine aR ?_
 refine iS 1 ?_
 refine Qz (e := (Qc .u32)) (l := (List.replicate 64 0)) (m := 64) (t := 135) (z := .agg (Qb (Qc .u32) (List.replicate 64 0)).toArray) (d := (some 3)) (k := 0) K rfl K rfl rfl K e7 ?_
 intro g9 q8 e8
 refine iF ?_
 refine aQ ?_
 refine aQ ?_
 refine aR ?_
 refine iR 1 1 [(4, (.int .i64 0))] ?_
 refine iF ?_
 refine Zj K (id := 0) K ?_
 refine Jk K (fun f4 ρ w => ∃ (h : (List Int)) (f : Int), V8 ρ [(0, (.slice A2 (List.length p1) c3)), (2, (pt g5 0)), (3, (pt g9 0)), (4, (.int .i64 f))] ∧ SP [] w0 w [Vc 135 (Qc .u32) g5 64 (List.replicate 64 0), Vc 135 (Qc .u32) g9 64 h] ∧ Zz p1 f4 h f = some r) (by rintro ρ w ⟨h, f, hk, hs, H⟩; cases H) ?_ Z0 ?_
 ·rintro f4 ρ q9 ⟨h, f, hk, a5, H⟩
  refine At.known [(0, (.slice A2 (List.length p1) c3)), (2, (pt g5 0)), (3, (pt g9 0)), (4, (.int .i64 f))] hk ?_
  replace H := (show Yp (Zz p1 f4) p1 h f = some r from H)
  unfold Yp at H
  have r0 := Q5 (SP.get a5 (i := 0) rfl)
  have e9 := Q5 (SP.get a5 (i := 1) rfl)
  refine aQ ?_
  refine aQ ?_
  refine aR ?_
  refine iR 2 2 [(5, (.int .i64 f)), (6, (.bool (decide (f < 64))))] ?_
  refine iF ?_
  refine Zi K (o := (.tmp 6)) K (b := (decide (f < 64))) K (fun b6 => ?_) (fun b6 => ?_)
  ·have H := ct H b6
   refine At.skip K ?_
   refine aQ ?_
   refine Zj K (id := 1) K ?_
   refine aQ ?_
   refine aR ?_
   refine iR 2 2 [(9, (.int .i64 f)), (10, (.bool (decide (f < 16))))] ?_
   refine iF ?_
   refine At.join (fun ρ w => ∃ (b2 : (List Int)), V8 ρ [(0, (.slice A2 (List.length p1) c3)), (2, (pt g5 0)), (3, (pt g9 0)), (4, (.int .i64 f))] ∧ SP [] w0 w [Vc 135 (Qc .u32) g5 64 (List.replicate 64 0), Vc 135 (Qc .u32) g9 64 b2] ∧ Xj (Zz p1 f4) f b2 = some r) ?_ ?_
   ·refine Zi K (o := (.tmp 10)) K (b := (decide (f < 16))) K (fun b7 => ?_) (fun b7 => ?_)
    ·have H := ct H b7
     obtain ⟨p, c6, c7, f0, H⟩ := Qn H
     obtain ⟨q, c8, c9, f1, H⟩ := Qn H
     obtain ⟨u, d0, d1, f2, H⟩ := Qn H
     obtain ⟨a3, d2, d3, f3, H⟩ := Qn H
     obtain ⟨r1, d4, d5, r2, H⟩ := Qn H
     obtain ⟨b8, hyl2055, H⟩ := Vz H
     have hnl2055 : List.length b8 = List.length h := by rw [← hyl2055, List.length_set]
     refine aG [GEq (.int .i64 f), GEq (.slice A2 (List.length p1) c3), GEq (.int .i64 f), GEq (.int .i64 (IntKind.wrap .i64 (4 * f))), Vs A2 eU8.sz (IntKind.wrap .i64 (4 * f)), GEq (.int .u8 ((p).toNat : Int)), GEq (.int .u32 (IntKind.wrap .u32 ((p).toNat : Int))), GEq (.int .u32 (Ni .u32 (IntKind.wrap .u32 ((p).toNat : Int)) 24)), GEq (.slice A2 (List.length p1) c3), GEq (.int .i64 f), GEq (.int .i64 (IntKind.wrap .i64 (4 * f))), GEq (.int .i64 (IntKind.wrap .i64 ((IntKind.wrap .i64 (4 * f)) + 1))), Vs A2 eU8.sz (IntKind.wrap .i64 ((IntKind.wrap .i64 (4 * f)) + 1)), GEq (.int .u8 ((q).toNat : Int)), GEq (.int .u32 (IntKind.wrap .u32 ((q).toNat : Int))), GEq (.int .u32 (Ni .u32 (IntKind.wrap .u32 ((q).toNat : Int)) 16)), GEq (.int .u32 (bOr .u32 (Ni .u32 (IntKind.wrap .u32 ((p).toNat : Int)) 24) (Ni .u32 (IntKind.wrap .u32 ((q).toNat : Int)) 16))), GEq (.slice A2 (List.length p1) c3), GEq (.int .i64 f), GEq (.int .i64 (IntKind.wrap .i64 (4 * f))), GEq (.int .i64 (IntKind.wrap .i64 ((IntKind.wrap .i64 (4 * f)) + 2))), Vs A2 eU8.sz (IntKind.wrap .i64 ((IntKind.wrap .i64 (4 * f)) + 2)), GEq (.int .u8 ((u).toNat : Int)), GEq (.int .u32 (IntKind.wrap .u32 ((u).toNat : Int))), GEq (.int .u32 (Ni .u32 (IntKind.wrap .u32 ((u).toNat : Int)) 8)), GEq (.int .u32 (bOr .u32 (bOr .u32 (Ni .u32 (IntKind.wrap .u32 ((p).toNat : Int)) 24) (Ni .u32 (IntKind.wrap .u32 ((q).toNat : Int)) 16)) (Ni .u32 (IntKind.wrap .u32 ((u).toNat : Int)) 8))), GEq (.slice A2 (List.length p1) c3), GEq (.int .i64 f), GEq (.int .i64 (IntKind.wrap .i64 (4 * f))), GEq (.int .i64 (IntKind.wrap .i64 ((IntKind.wrap .i64 (4 * f)) + 3))), Vs A2 eU8.sz (IntKind.wrap .i64 ((IntKind.wrap .i64 (4 * f)) + 3)), GEq (.int .u8 ((a3).toNat : Int)), GEq (.int .u32 (IntKind.wrap .u32 ((a3).toNat : Int))), GEq (.int .u32 (bOr .u32 (bOr .u32 (bOr .u32 (Ni .u32 (IntKind.wrap .u32 ((p).toNat : Int)) 24) (Ni .u32 (IntKind.wrap .u32 ((q).toNat : Int)) 16)) (Ni .u32 (IntKind.wrap .u32 ((u).toNat : Int)) 8)) (IntKind.wrap .u32 ((a3).toNat : Int)))), Vs (some ⟨g9, 0, none⟩) (Qc .u32).sz f, Bq] [35] [sG [] [] [] w0 [Vc 135 (Qc .u32) g5 64 (List.replicate 64 0), Vc 135 (Qc .u32) g9 64 h], sG [35] [undef] [] w0 [Vc 135 (Qc .u32) g5 64 (List.replicate 64 0), Vc 135 (Qc .u32) g9 64 b8]] 36 1 ⟨trivial, SP.drew a5⟩ ?_ ?_
     iterate 36 refine And.intro ?_ ?_
     exact trivial
     ·exact oV (hC (hS 4 (.int .i64 f)) (h0)) (.int .i64 f)
     ·exact oV (hC (hS 0 (.slice A2 (List.length p1) c3)) (h0)) (.slice A2 (List.length p1) c3)
     ·exact oV (hC (hS 4 (.int .i64 f)) (h0)) (.int .i64 f)
     ·exact oV (hC (hA 2 13) (h0)) (.int .i64 (IntKind.wrap .i64 (4 * f)))
     ·refine oL 0 ?_
      ·rintro ρ' w' hs hah ⟨r3, f5⟩
       refine kM (kc (kA hah 1 12) (kc (kA hah 3 14) k0)) fun hkn => ?_
       refine Vj (e := eU8) (l := p1) (A := A2) (c := c3) (T := 52) (E := 5) (x := (.tmp 12)) (ix := (.tmp 14)) (ki := .i64) (iz := (IntKind.wrap .i64 (4 * f))) (d := (some 15)) (k := 4) K rfl K K K K (RdT.sp a2 f5) c6 c7 ?_
       intro f6 f7 f8 r4 hc2066
       exact ⟨rfl, _, Qa hkn, ⟨f6, f7, f8, rfl⟩⟩
     ·refine oL 0 ?_
      ·rintro ρ' w' hs hah ⟨r5, f9⟩
       obtain ⟨g0, g1, g2, g3⟩ := hah 4 15 K
       refine kM (kc g3 k0) fun hkn => ?_
       refine sC 5 15 g0 (g1 + Int.toNat (IntKind.wrap .i64 (4 * f)) * eU8.sz) (.int .u8 ((p).toNat : Int)) 16 (Qh (e := eU8) (Qe (RdT.sp a2 f9) g2 c6 c7) f0 (j := 0) rfl) ?_
       exact eK hkn
     ·exact oV (hC (hA 5 16) (h0)) (.int .u32 (IntKind.wrap .u32 ((p).toNat : Int)))
     ·exact oV (hC (hA 6 17) (h0)) (.int .u32 (Ni .u32 (IntKind.wrap .u32 ((p).toNat : Int)) 24))
     ·exact oV (hC (hS 0 (.slice A2 (List.length p1) c3)) (h0)) (.slice A2 (List.length p1) c3)
     ·exact oV (hC (hS 4 (.int .i64 f)) (h0)) (.int .i64 f)
     ·exact oV (hC (hA 9 20) (h0)) (.int .i64 (IntKind.wrap .i64 (4 * f)))
     ·exact oV (hC (hA 10 21) (h0)) (.int .i64 (IntKind.wrap .i64 ((IntKind.wrap .i64 (4 * f)) + 1)))
     ·refine oL 0 ?_
      ·rintro ρ' w' hs hah ⟨r6, g4⟩
       refine kM (kc (kA hah 8 19) (kc (kA hah 11 22) k0)) fun hkn => ?_
       refine Vj (e := eU8) (l := p1) (A := A2) (c := c3) (T := 52) (E := 5) (x := (.tmp 19)) (ix := (.tmp 22)) (ki := .i64) (iz := (IntKind.wrap .i64 ((IntKind.wrap .i64 (4 * f)) + 1))) (d := (some 23)) (k := 12) K rfl K K K K (RdT.sp a2 g4) c8 c9 ?_
       intro g6 g7 g8 r7 hc2078
       exact ⟨rfl, _, Qa hkn, ⟨g6, g7, g8, rfl⟩⟩
     ·refine oL 0 ?_
      ·rintro ρ' w' hs hah ⟨r8, h1⟩
       obtain ⟨h2, h3, h4, h5⟩ := hah 12 23 K
       refine kM (kc h5 k0) fun hkn => ?_
       refine sC 5 23 h2 (h3 + Int.toNat (IntKind.wrap .i64 ((IntKind.wrap .i64 (4 * f)) + 1)) * eU8.sz) (.int .u8 ((q).toNat : Int)) 24 (Qh (e := eU8) (Qe (RdT.sp a2 h1) h4 c8 c9) f1 (j := 0) rfl) ?_
       exact eK hkn
     ·exact oV (hC (hA 13 24) (h0)) (.int .u32 (IntKind.wrap .u32 ((q).toNat : Int)))
     ·exact oV (hC (hA 14 25) (h0)) (.int .u32 (Ni .u32 (IntKind.wrap .u32 ((q).toNat : Int)) 16))
     ·exact oV (hC (hA 7 18) (hC (hA 15 26) (h0))) (.int .u32 (bOr .u32 (Ni .u32 (IntKind.wrap .u32 ((p).toNat : Int)) 24) (Ni .u32 (IntKind.wrap .u32 ((q).toNat : Int)) 16)))
     ·exact oV (hC (hS 0 (.slice A2 (List.length p1) c3)) (h0)) (.slice A2 (List.length p1) c3)
     ·exact oV (hC (hS 4 (.int .i64 f)) (h0)) (.int .i64 f)
     ·exact oV (hC (hA 18 29) (h0)) (.int .i64 (IntKind.wrap .i64 (4 * f)))
     ·exact oV (hC (hA 19 30) (h0)) (.int .i64 (IntKind.wrap .i64 ((IntKind.wrap .i64 (4 * f)) + 2)))
     ·refine oL 0 ?_
      ·rintro ρ' w' hs hah ⟨r9, h6⟩
       refine kM (kc (kA hah 17 28) (kc (kA hah 20 31) k0)) fun hkn => ?_
       refine Vj (e := eU8) (l := p1) (A := A2) (c := c3) (T := 52) (E := 5) (x := (.tmp 28)) (ix := (.tmp 31)) (ki := .i64) (iz := (IntKind.wrap .i64 ((IntKind.wrap .i64 (4 * f)) + 2))) (d := (some 32)) (k := 21) K rfl K K K K (RdT.sp a2 h6) d0 d1 ?_
       intro h7 h8 h9 s0 hc2090
       exact ⟨rfl, _, Qa hkn, ⟨h7, h8, h9, rfl⟩⟩
     ·refine oL 0 ?_
      ·rintro ρ' w' hs hah ⟨s1, i0⟩
       obtain ⟨i1, i2, i3, i4⟩ := hah 21 32 K
       refine kM (kc i4 k0) fun hkn => ?_
       refine sC 5 32 i1 (i2 + Int.toNat (IntKind.wrap .i64 ((IntKind.wrap .i64 (4 * f)) + 2)) * eU8.sz) (.int .u8 ((u).toNat : Int)) 33 (Qh (e := eU8) (Qe (RdT.sp a2 i0) i3 d0 d1) f2 (j := 0) rfl) ?_
       exact eK hkn
     ·exact oV (hC (hA 22 33) (h0)) (.int .u32 (IntKind.wrap .u32 ((u).toNat : Int)))
     ·exact oV (hC (hA 23 34) (h0)) (.int .u32 (Ni .u32 (IntKind.wrap .u32 ((u).toNat : Int)) 8))
     ·exact oV (hC (hA 16 27) (hC (hA 24 35) (h0))) (.int .u32 (bOr .u32 (bOr .u32 (Ni .u32 (IntKind.wrap .u32 ((p).toNat : Int)) 24) (Ni .u32 (IntKind.wrap .u32 ((q).toNat : Int)) 16)) (Ni .u32 (IntKind.wrap .u32 ((u).toNat : Int)) 8)))
     ·exact oV (hC (hS 0 (.slice A2 (List.length p1) c3)) (h0)) (.slice A2 (List.length p1) c3)
     ·exact oV (hC (hS 4 (.int .i64 f)) (h0)) (.int .i64 f)
     ·exact oV (hC (hA 27 38) (h0)) (.int .i64 (IntKind.wrap .i64 (4 * f)))
     ·exact oV (hC (hA 28 39) (h0)) (.int .i64 (IntKind.wrap .i64 ((IntKind.wrap .i64 (4 * f)) + 3)))
     ·refine oL 0 ?_
      ·rintro ρ' w' hs hah ⟨s2, i5⟩
       refine kM (kc (kA hah 26 37) (kc (kA hah 29 40) k0)) fun hkn => ?_
       refine Vj (e := eU8) (l := p1) (A := A2) (c := c3) (T := 52) (E := 5) (x := (.tmp 37)) (ix := (.tmp 40)) (ki := .i64) (iz := (IntKind.wrap .i64 ((IntKind.wrap .i64 (4 * f)) + 3))) (d := (some 41)) (k := 30) K rfl K K K K (RdT.sp a2 i5) d2 d3 ?_
       intro i6 i7 i8 s3 hc2102
       exact ⟨rfl, _, Qa hkn, ⟨i6, i7, i8, rfl⟩⟩
     ·refine oL 0 ?_
      ·rintro ρ' w' hs hah ⟨s4, i9⟩
       obtain ⟨j0, j1, j2, j3⟩ := hah 30 41 K
       refine kM (kc j3 k0) fun hkn => ?_
       refine sC 5 41 j0 (j1 + Int.toNat (IntKind.wrap .i64 ((IntKind.wrap .i64 (4 * f)) + 3)) * eU8.sz) (.int .u8 ((a3).toNat : Int)) 42 (Qh (e := eU8) (Qe (RdT.sp a2 i9) j2 d2 d3) f3 (j := 0) rfl) ?_
       exact eK hkn
     ·exact oV (hC (hA 31 42) (h0)) (.int .u32 (IntKind.wrap .u32 ((a3).toNat : Int)))
     ·exact oV (hC (hA 25 36) (hC (hA 32 43) (h0))) (.int .u32 (bOr .u32 (bOr .u32 (bOr .u32 (Ni .u32 (IntKind.wrap .u32 ((p).toNat : Int)) 24) (Ni .u32 (IntKind.wrap .u32 ((q).toNat : Int)) 16)) (Ni .u32 (IntKind.wrap .u32 ((u).toNat : Int)) 8)) (IntKind.wrap .u32 ((a3).toNat : Int))))
     ·refine oL 0 ?_
      ·rintro ρ' w' hs hah ⟨s5, j4⟩
       refine kM (kc (kS hs 3 (pt g9 0)) (kc (kA hah 0 11) k0)) fun hkn => ?_
       refine Qg (e := (Qc .u32)) (l := h) (m := 64) (g := g9) (T := 135) (E := 111) (x := (.tmp 3)) (ix := (.tmp 11)) (ki := .i64) (iz := f) (i := 1) (d := (some 45)) (k := 34) K rfl K K K K j4 rfl d4 d5 ?_
       exact ⟨rfl, _, Qa hkn, ⟨g9, 0, rfl, rfl⟩⟩
     ·refine oH 0 1 ?_
      ·rintro ρ' w' hs hah ⟨s6, j5⟩
       obtain ⟨j6, j7, j8, j9⟩ := hah 34 45 K
       refine kM (kc j9 (kc (kA hah 33 44) k0)) fun hkn => ?_
       refine V9 (e := (Qc .u32)) (t := 111) (x := (.tmp 45)) (y := (.tmp 44)) (l := h) (iz := f) (m := 64) (g := g9) (b := j6) (off := j7) (i := 1) (v := (.int .u32 (bOr .u32 (bOr .u32 (bOr .u32 (Ni .u32 (IntKind.wrap .u32 ((p).toNat : Int)) 24) (Ni .u32 (IntKind.wrap .u32 ((q).toNat : Int)) 16)) (Ni .u32 (IntKind.wrap .u32 ((u).toNat : Int)) 8)) (IntKind.wrap .u32 ((a3).toNat : Int))))) (x' := (bOr .u32 (bOr .u32 (bOr .u32 (Ni .u32 (IntKind.wrap .u32 ((p).toNat : Int)) 24) (Ni .u32 (IntKind.wrap .u32 ((q).toNat : Int)) 16)) (Ni .u32 (IntKind.wrap .u32 ((u).toNat : Int)) 8)) (IntKind.wrap .u32 ((a3).toNat : Int)))) (d := none) (k := 35) K rfl j8 K K j5 rfl rfl d5 d4 rfl K ?_
       rw [hyl2055]
       intro s7 k1
       refine ⟨_, Qa hkn, trivial, ?_⟩
       exact (And.intro (And.intro rfl (trivial)) (k1))
     ·rintro ρ' w' hs hf ⟨⟨s8, -⟩, d6⟩
      refine Vh [(0, (.slice A2 (List.length p1) c3)), (2, (pt g5 0)), (3, (pt g9 0)), (4, (.int .i64 f))] ⟨(hs 0 K).trans K, (hs 2 K).trans K, (hs 3 K).trans K, (hs 4 K).trans K, trivial⟩ ?_
      obtain ⟨s9, k2⟩ : ∃ x, w' = x := ⟨_, rfl⟩
      rw [k2] at d6 ⊢
      exact ⟨b8, ⟨K, K, K, K, trivial⟩, SP.sel d6 [0, 1] rfl rfl, H⟩
    ·have H := cf H b7
     obtain ⟨b9, d7, d8, k3, H⟩ := Qn H
     obtain ⟨s, k4, H⟩ := Qf H
     obtain ⟨a0, a6, a7, c0, H⟩ := Qn H
     obtain ⟨b3, b4, b5, d9, H⟩ := Qn H
     obtain ⟨a1, k5, H⟩ := Qf H
     obtain ⟨a4, a8, a9, c1, H⟩ := Qn H
     obtain ⟨t0, e0, e1, t1, H⟩ := Qn H
     obtain ⟨c2, hyl2156, H⟩ := Vz H
     have hnl2156 : List.length c2 = List.length h := by rw [← hyl2156, List.length_set]
     refine aG [GEq (.int .i64 f), GEq (.int .i64 f), GEq (.int .i64 (IntKind.wrap .i64 (f - 2))), Vs (some ⟨g9, 0, none⟩) (Qc .u32).sz (IntKind.wrap .i64 (f - 2)), GEq (.int .u32 b9), GEq (.int .u32 s), GEq (.int .i64 f), GEq (.int .i64 (IntKind.wrap .i64 (f - 7))), Vs (some ⟨g9, 0, none⟩) (Qc .u32).sz (IntKind.wrap .i64 (f - 7)), GEq (.int .u32 a0), GEq (.int .u32 (IntKind.wrap .u32 (s + a0))), GEq (.int .i64 f), GEq (.int .i64 (IntKind.wrap .i64 (f - 15))), Vs (some ⟨g9, 0, none⟩) (Qc .u32).sz (IntKind.wrap .i64 (f - 15)), GEq (.int .u32 b3), GEq (.int .u32 a1), GEq (.int .u32 (IntKind.wrap .u32 ((IntKind.wrap .u32 (s + a0)) + a1))), GEq (.int .i64 f), GEq (.int .i64 (IntKind.wrap .i64 (f - 16))), Vs (some ⟨g9, 0, none⟩) (Qc .u32).sz (IntKind.wrap .i64 (f - 16)), GEq (.int .u32 a4), GEq (.int .u32 (IntKind.wrap .u32 ((IntKind.wrap .u32 ((IntKind.wrap .u32 (s + a0)) + a1)) + a4))), Vs (some ⟨g9, 0, none⟩) (Qc .u32).sz f, Bq] [5, 15, 23] [sG [] [] [] w0 [Vc 135 (Qc .u32) g5 64 (List.replicate 64 0), Vc 135 (Qc .u32) g9 64 h], sG [5] [(.int .u32 s)] [] w0 [Vc 135 (Qc .u32) g5 64 (List.replicate 64 0), Vc 135 (Qc .u32) g9 64 h], sG [5, 15] [(.int .u32 s), (.int .u32 a1)] [] w0 [Vc 135 (Qc .u32) g5 64 (List.replicate 64 0), Vc 135 (Qc .u32) g9 64 h], sG [5, 15, 23] [(.int .u32 s), (.int .u32 a1), undef] [] w0 [Vc 135 (Qc .u32) g5 64 (List.replicate 64 0), Vc 135 (Qc .u32) g9 64 c2]] 24 3 ⟨trivial, SP.drew a5⟩ ?_ ?_
     iterate 24 refine And.intro ?_ ?_
     exact trivial
     ·exact oV (hC (hS 4 (.int .i64 f)) (h0)) (.int .i64 f)
     ·exact oV (hC (hS 4 (.int .i64 f)) (h0)) (.int .i64 f)
     ·exact oV (hC (hA 1 47) (h0)) (.int .i64 (IntKind.wrap .i64 (f - 2)))
     ·refine oL 0 ?_
      ·rintro ρ' w' hs hah ⟨t2, k6⟩
       refine kM (kc (kS hs 3 (pt g9 0)) (kc (kA hah 2 48) k0)) fun hkn => ?_
       refine Qg (e := (Qc .u32)) (l := h) (m := 64) (g := g9) (T := 135) (E := 111) (x := (.tmp 3)) (ix := (.tmp 48)) (ki := .i64) (iz := (IntKind.wrap .i64 (f - 2))) (i := 1) (d := (some 49)) (k := 3) K rfl K K K K k6 rfl d7 d8 ?_
       exact ⟨rfl, _, Qa hkn, ⟨g9, 0, rfl, rfl⟩⟩
     ·refine oL 0 ?_
      ·rintro ρ' w' hs hah ⟨t3, k7⟩
       obtain ⟨k8, k9, l0, l1⟩ := hah 3 49 K
       refine kM (kc l1 k0) fun hkn => ?_
       refine sC 111 49 k8 (k9 + Int.toNat (IntKind.wrap .i64 (f - 2)) * (Qc .u32).sz) (.int .u32 b9) 50 (Qh (e := (Qc .u32)) (Qe (Qu (SP.get k7 (i := 1) rfl)) l0 d7 d8) k3 (j := 0) rfl) ?_
       exact eK hkn
     ·refine oH 0 1 ?_
      ·rintro ρ' w' hs hah ⟨t4, l2⟩
       refine kM (kc (kA hah 4 50) k0) fun hkn => ?_
       refine cF 117 #[(.tmp 50), (.const (.int .i64 (17))), (.const (.int .i64 (19))), (.const (.int .i64 (10)))] #[111, 3, 3, 3] 51 Tryz.call117 (U4  b9 17 19 10 w'  s k4) ?_
       rintro e t5 ⟨rfl, e2⟩
       refine ⟨_, rfl, ?_⟩
       have l3 := SP.call l2 e2
       clear e2
       refine ⟨_, Qa hkn, rfl, ?_⟩
       exact (And.intro (And.intro rfl (trivial)) (l3))
     ·exact oV (hC (hS 4 (.int .i64 f)) (h0)) (.int .i64 f)
     ·exact oV (hC (hA 6 52) (h0)) (.int .i64 (IntKind.wrap .i64 (f - 7)))
     ·refine Owe.light K [0, 1, 2] K (Qd ?_ (Qd ?_ (Qd ?_ Q4)))
      ·rintro ρ' w' hs hah ⟨t6, l4⟩
       refine kM (kc (kS hs 3 (pt g9 0)) (kc (kA hah 7 53) k0)) fun hkn => ?_
       refine Qg (e := (Qc .u32)) (l := h) (m := 64) (g := g9) (T := 135) (E := 111) (x := (.tmp 3)) (ix := (.tmp 53)) (ki := .i64) (iz := (IntKind.wrap .i64 (f - 7))) (i := 1) (d := (some 54)) (k := 8) K rfl K K K K l4 rfl a6 a7 ?_
       exact ⟨rfl, _, Qa hkn, ⟨g9, 0, rfl, rfl⟩⟩
      ·rintro ρ' w' hs hah ⟨⟨t7, -⟩, l5⟩
       refine kM (kc (kS hs 3 (pt g9 0)) (kc (kA hah 7 53) k0)) fun hkn => ?_
       refine Qg (e := (Qc .u32)) (l := h) (m := 64) (g := g9) (T := 135) (E := 111) (x := (.tmp 3)) (ix := (.tmp 53)) (ki := .i64) (iz := (IntKind.wrap .i64 (f - 7))) (i := 1) (d := (some 54)) (k := 8) K rfl K K K K l5 rfl a6 a7 ?_
       exact ⟨rfl, _, Qa hkn, ⟨g9, 0, rfl, rfl⟩⟩
      ·rintro ρ' w' hs hah ⟨⟨t8, t9, -⟩, l6⟩
       refine kM (kc (kS hs 3 (pt g9 0)) (kc (kA hah 7 53) k0)) fun hkn => ?_
       refine Qg (e := (Qc .u32)) (l := h) (m := 64) (g := g9) (T := 135) (E := 111) (x := (.tmp 3)) (ix := (.tmp 53)) (ki := .i64) (iz := (IntKind.wrap .i64 (f - 7))) (i := 1) (d := (some 54)) (k := 8) K rfl K K K K l6 rfl a6 a7 ?_
       exact ⟨rfl, _, Qa hkn, ⟨g9, 0, rfl, rfl⟩⟩
     ·refine Owe.light K [0, 1, 2] K (Qd ?_ (Qd ?_ (Qd ?_ Q4)))
      ·rintro ρ' w' hs hah ⟨u0, l7⟩
       obtain ⟨l8, l9, m0, b0⟩ := hah 8 54 K
       refine kM (kc b0 k0) fun hkn => ?_
       refine sC 111 54 l8 (l9 + Int.toNat (IntKind.wrap .i64 (f - 7)) * (Qc .u32).sz) (.int .u32 a0) 55 (Qh (e := (Qc .u32)) (Qe (Qu (SP.get l7 (i := 1) rfl)) m0 a6 a7) c0 (j := 0) rfl) ?_
       exact eK hkn
      ·rintro ρ' w' hs hah ⟨⟨u1, -⟩, m1⟩
       obtain ⟨m2, m3, m4, b0⟩ := hah 8 54 K
       refine kM (kc b0 k0) fun hkn => ?_
       refine sC 111 54 m2 (m3 + Int.toNat (IntKind.wrap .i64 (f - 7)) * (Qc .u32).sz) (.int .u32 a0) 55 (Qh (e := (Qc .u32)) (Qe (Qu (SP.get m1 (i := 1) rfl)) m4 a6 a7) c0 (j := 0) rfl) ?_
       exact eK hkn
      ·rintro ρ' w' hs hah ⟨⟨u2, u3, -⟩, m5⟩
       obtain ⟨m6, m7, m8, b0⟩ := hah 8 54 K
       refine kM (kc b0 k0) fun hkn => ?_
       refine sC 111 54 m6 (m7 + Int.toNat (IntKind.wrap .i64 (f - 7)) * (Qc .u32).sz) (.int .u32 a0) 55 (Qh (e := (Qc .u32)) (Qe (Qu (SP.get m5 (i := 1) rfl)) m8 a6 a7) c0 (j := 0) rfl) ?_
       exact eK hkn
     ·exact oV (hC (hA 5 51) (hC (hA 9 55) (h0))) (.int .u32 (IntKind.wrap .u32 (s + a0)))
     ·exact oV (hC (hS 4 (.int .i64 f)) (h0)) (.int .i64 f)
     ·exact oV (hC (hA 11 57) (h0)) (.int .i64 (IntKind.wrap .i64 (f - 15)))
     ·refine Owe.light K [0, 1] K (Qd ?_ (Qd ?_ Q4))
      ·rintro ρ' w' hs hah ⟨u4, m9⟩
       refine kM (kc (kS hs 3 (pt g9 0)) (kc (kA hah 12 58) k0)) fun hkn => ?_
       refine Qg (e := (Qc .u32)) (l := h) (m := 64) (g := g9) (T := 135) (E := 111) (x := (.tmp 3)) (ix := (.tmp 58)) (ki := .i64) (iz := (IntKind.wrap .i64 (f - 15))) (i := 1) (d := (some 59)) (k := 13) K rfl K K K K m9 rfl b4 b5 ?_
       exact ⟨rfl, _, Qa hkn, ⟨g9, 0, rfl, rfl⟩⟩
      ·rintro ρ' w' hs hah ⟨⟨u5, -⟩, n0⟩
       refine kM (kc (kS hs 3 (pt g9 0)) (kc (kA hah 12 58) k0)) fun hkn => ?_
       refine Qg (e := (Qc .u32)) (l := h) (m := 64) (g := g9) (T := 135) (E := 111) (x := (.tmp 3)) (ix := (.tmp 58)) (ki := .i64) (iz := (IntKind.wrap .i64 (f - 15))) (i := 1) (d := (some 59)) (k := 13) K rfl K K K K n0 rfl b4 b5 ?_
       exact ⟨rfl, _, Qa hkn, ⟨g9, 0, rfl, rfl⟩⟩
     ·refine Owe.light K [0, 1] K (Qd ?_ (Qd ?_ Q4))
      ·rintro ρ' w' hs hah ⟨u6, n1⟩
       obtain ⟨n2, n3, n4, c4⟩ := hah 13 59 K
       refine kM (kc c4 k0) fun hkn => ?_
       refine sC 111 59 n2 (n3 + Int.toNat (IntKind.wrap .i64 (f - 15)) * (Qc .u32).sz) (.int .u32 b3) 60 (Qh (e := (Qc .u32)) (Qe (Qu (SP.get n1 (i := 1) rfl)) n4 b4 b5) d9 (j := 0) rfl) ?_
       exact eK hkn
      ·rintro ρ' w' hs hah ⟨⟨u7, -⟩, n5⟩
       obtain ⟨n6, n7, n8, c4⟩ := hah 13 59 K
       refine kM (kc c4 k0) fun hkn => ?_
       refine sC 111 59 n6 (n7 + Int.toNat (IntKind.wrap .i64 (f - 15)) * (Qc .u32).sz) (.int .u32 b3) 60 (Qh (e := (Qc .u32)) (Qe (Qu (SP.get n5 (i := 1) rfl)) n8 b4 b5) d9 (j := 0) rfl) ?_
       exact eK hkn
     ·refine oH 1 2 ?_
      ·rintro ρ' w' hs hah ⟨⟨n9, -⟩, o0⟩
       refine kM (kc (kA hah 14 60) k0) fun hkn => ?_
       refine cF 117 #[(.tmp 60), (.const (.int .i64 (7))), (.const (.int .i64 (18))), (.const (.int .i64 (3)))] #[111, 3, 3, 3] 61 Tryz.call117 (U4  b3 7 18 3 w'  a1 k5) ?_
       rintro e u9 ⟨rfl, e3⟩
       refine ⟨_, rfl, ?_⟩
       have o1 := SP.call o0 e3
       clear e3
       refine ⟨_, Qa hkn, rfl, ?_⟩
       exact (And.intro (And.intro n9 (And.intro rfl (trivial))) (o1))
     ·exact oV (hC (hA 10 56) (hC (hA 15 61) (h0))) (.int .u32 (IntKind.wrap .u32 ((IntKind.wrap .u32 (s + a0)) + a1)))
     ·exact oV (hC (hS 4 (.int .i64 f)) (h0)) (.int .i64 f)
     ·exact oV (hC (hA 17 63) (h0)) (.int .i64 (IntKind.wrap .i64 (f - 16)))
     ·refine Owe.light K [0, 1, 2] K (Qd ?_ (Qd ?_ (Qd ?_ Q4)))
      ·rintro ρ' w' hs hah ⟨v0, o2⟩
       refine kM (kc (kS hs 3 (pt g9 0)) (kc (kA hah 18 64) k0)) fun hkn => ?_
       refine Qg (e := (Qc .u32)) (l := h) (m := 64) (g := g9) (T := 135) (E := 111) (x := (.tmp 3)) (ix := (.tmp 64)) (ki := .i64) (iz := (IntKind.wrap .i64 (f - 16))) (i := 1) (d := (some 65)) (k := 19) K rfl K K K K o2 rfl a8 a9 ?_
       exact ⟨rfl, _, Qa hkn, ⟨g9, 0, rfl, rfl⟩⟩
      ·rintro ρ' w' hs hah ⟨⟨v1, -⟩, o3⟩
       refine kM (kc (kS hs 3 (pt g9 0)) (kc (kA hah 18 64) k0)) fun hkn => ?_
       refine Qg (e := (Qc .u32)) (l := h) (m := 64) (g := g9) (T := 135) (E := 111) (x := (.tmp 3)) (ix := (.tmp 64)) (ki := .i64) (iz := (IntKind.wrap .i64 (f - 16))) (i := 1) (d := (some 65)) (k := 19) K rfl K K K K o3 rfl a8 a9 ?_
       exact ⟨rfl, _, Qa hkn, ⟨g9, 0, rfl, rfl⟩⟩
      ·rintro ρ' w' hs hah ⟨⟨v2, v3, -⟩, o4⟩
       refine kM (kc (kS hs 3 (pt g9 0)) (kc (kA hah 18 64) k0)) fun hkn => ?_
       refine Qg (e := (Qc .u32)) (l := h) (m := 64) (g := g9) (T := 135) (E := 111) (x := (.tmp 3)) (ix := (.tmp 64)) (ki := .i64) (iz := (IntKind.wrap .i64 (f - 16))) (i := 1) (d := (some 65)) (k := 19) K rfl K K K K o4 rfl a8 a9 ?_
       exact ⟨rfl, _, Qa hkn, ⟨g9, 0, rfl, rfl⟩⟩
     ·refine Owe.light K [0, 1, 2] K (Qd ?_ (Qd ?_ (Qd ?_ Q4)))
      ·rintro ρ' w' hs hah ⟨v4, o5⟩
       obtain ⟨o6, o7, o8, b1⟩ := hah 19 65 K
       refine kM (kc b1 k0) fun hkn => ?_
       refine sC 111 65 o6 (o7 + Int.toNat (IntKind.wrap .i64 (f - 16)) * (Qc .u32).sz) (.int .u32 a4) 66 (Qh (e := (Qc .u32)) (Qe (Qu (SP.get o5 (i := 1) rfl)) o8 a8 a9) c1 (j := 0) rfl) ?_
       exact eK hkn
      ·rintro ρ' w' hs hah ⟨⟨v5, -⟩, o9⟩
       obtain ⟨p0, p2, p3, b1⟩ := hah 19 65 K
       refine kM (kc b1 k0) fun hkn => ?_
       refine sC 111 65 p0 (p2 + Int.toNat (IntKind.wrap .i64 (f - 16)) * (Qc .u32).sz) (.int .u32 a4) 66 (Qh (e := (Qc .u32)) (Qe (Qu (SP.get o9 (i := 1) rfl)) p3 a8 a9) c1 (j := 0) rfl) ?_
       exact eK hkn
      ·rintro ρ' w' hs hah ⟨⟨v6, v7, -⟩, p4⟩
       obtain ⟨p5, p6, p7, b1⟩ := hah 19 65 K
       refine kM (kc b1 k0) fun hkn => ?_
       refine sC 111 65 p5 (p6 + Int.toNat (IntKind.wrap .i64 (f - 16)) * (Qc .u32).sz) (.int .u32 a4) 66 (Qh (e := (Qc .u32)) (Qe (Qu (SP.get p4 (i := 1) rfl)) p7 a8 a9) c1 (j := 0) rfl) ?_
       exact eK hkn
     ·exact oV (hC (hA 16 62) (hC (hA 20 66) (h0))) (.int .u32 (IntKind.wrap .u32 ((IntKind.wrap .u32 ((IntKind.wrap .u32 (s + a0)) + a1)) + a4)))
     ·refine oL 2 ?_
      ·rintro ρ' w' hs hah ⟨⟨v8, v9, -⟩, p8⟩
       refine kM (kc (kS hs 3 (pt g9 0)) (kc (kA hah 0 46) k0)) fun hkn => ?_
       refine Qg (e := (Qc .u32)) (l := h) (m := 64) (g := g9) (T := 135) (E := 111) (x := (.tmp 3)) (ix := (.tmp 46)) (ki := .i64) (iz := f) (i := 1) (d := (some 68)) (k := 22) K rfl K K K K p8 rfl e0 e1 ?_
       exact ⟨rfl, _, Qa hkn, ⟨g9, 0, rfl, rfl⟩⟩
     ·refine oH 2 3 ?_
      ·rintro ρ' w' hs hah ⟨⟨p9, q0, -⟩, q1⟩
       obtain ⟨q2, q3, q4, q5⟩ := hah 22 68 K
       refine kM (kc q5 (kc (kA hah 21 67) k0)) fun hkn => ?_
       refine V9 (e := (Qc .u32)) (t := 111) (x := (.tmp 68)) (y := (.tmp 67)) (l := h) (iz := f) (m := 64) (g := g9) (b := q2) (off := q3) (i := 1) (v := (.int .u32 (IntKind.wrap .u32 ((IntKind.wrap .u32 ((IntKind.wrap .u32 (s + a0)) + a1)) + a4)))) (x' := (IntKind.wrap .u32 ((IntKind.wrap .u32 ((IntKind.wrap .u32 (s + a0)) + a1)) + a4))) (d := none) (k := 23) K rfl q4 K K q1 rfl rfl e1 e0 rfl K ?_
       rw [hyl2156]
       intro w1 q6
       refine ⟨_, Qa hkn, trivial, ?_⟩
       exact (And.intro (And.intro p9 (And.intro q0 (And.intro rfl (trivial)))) (q6))
     ·rintro ρ' w' hs hf ⟨⟨w2, w3, w4, -⟩, e4⟩
      refine Vh [(0, (.slice A2 (List.length p1) c3)), (2, (pt g5 0)), (3, (pt g9 0)), (4, (.int .i64 f))] ⟨(hs 0 K).trans K, (hs 2 K).trans K, (hs 3 K).trans K, (hs 4 K).trans K, trivial⟩ ?_
      obtain ⟨w5, q7⟩ : ∃ x, w' = x := ⟨_, rfl⟩
      rw [q7] at e4 ⊢
      exact ⟨c2, ⟨K, K, K, K, trivial⟩, SP.sel e4 [0, 1] rfl rfl, H⟩
   ·rintro ρ w7 ⟨b2, hk, c5, H⟩
    unfold Xj at H
    first | refine At.known [(0, (.slice A2 (List.length p1) c3)), (2, (pt g5 0)), (3, (pt g9 0)), (4, (.int .i64 f))] hk ?_ | rw [← Va (l := [(0, (.slice A2 (List.length p1) c3)), (2, (pt g5 0)), (3, (pt g9 0)), (4, (.int .i64 f))]) hk]
    have w8 := Q5 (SP.get c5 (i := 0) rfl)
    have w9 := Q5 (SP.get c5 (i := 1) rfl)
    refine aR ?_
    refine iR 3 3 [(7, (.int .i64 f)), (8, (.int .i64 (IntKind.wrap .i64 (f + 1)))), (4, (.int .i64 (IntKind.wrap .i64 (f + 1))))] ?_
    refine iF ?_
    exact ⟨b2, (IntKind.wrap .i64 (f + 1)), ⟨K, K, K, K, trivial⟩, SP.sel c5 [0, 1] rfl rfl, H⟩
  ·have H := cf H b6
   refine At.exit K (id := 0) K ?_
   refine aQ ?_
   refine aR ?_
   refine iS 1 ?_
   refine V3 (e := (Qc .u32)) (l := h) (m := 64) (t := 135) (x := (.tmp 3)) (g := g9) (i := 1) (d := (some 69)) (k := 0) K rfl K a5 rfl K K ?_
   refine iS 2 ?_
   refine Q8 (e := (Qc .u32)) (l := (List.replicate 64 0)) (l' := h) (m := 64) (t := 135) (x := (.tmp 2)) (y := (.tmp 69)) (g := g5) (i := 0) (d := none) (k := 1) K rfl K K e9 a5 rfl K ?_
   intro x0 e5
   refine iF ?_
   refine At.ret K ?_
   refine ⟨(.agg (Qb (Qc .u32) h).toArray), Bc K (J7 (e := (Qc .u32)) (l := h) (a := 2) (t := 135) K (SP.get e5 (i := 0) rfl) K K), ?_⟩
   obtain rfl := Qm H
   exact ⟨rfl, SP.sel e5 [] rfl rfl⟩
 ·exact ⟨(List.replicate 64 0), 0, ⟨K, K, K, K, trivial⟩, SP.sel e8 [0, 1] rfl rfl, H⟩
def Jn (h : (List Int) → Int → Option ((List Int))) (c : (List Int) → Int → Option ((List Int))) (d : (List Int)) (b : (List Int)) (a : Int) : Option ((List Int)) :=
  (cond (decide (a < 8)) ((idx b a).bind fun e => ((idx d a).bind fun f => ((idx b a).bind fun i => ((some (List.set b (Int.toNat a) (IntKind.wrap .u32 (e + f)))).bind fun g => (c g (IntKind.wrap .i64 (a + 1))))))) (some (b)))
def X8 (a : (List Int) → Int → Option ((List Int))) (b : (List Int)) : Nat → (List Int) → Int → Option ((List Int))
  | 0, _, _ => none
  | f + 1, c, d => Jn a (X8 a b f) b c d
def Jo (c : (List Int) → Int → Option ((List Int))) (p1 : (List Int)) (l : ((List Int))) (m : ((List Int))) (a : (List Int)) (b : Int) : Option ((List Int)) :=
  (cond (decide (b < 64)) ((idx a 7).bind fun d => ((idx a 4).bind fun n => ((Y7 n 6 11 25).bind fun e => ((idx a 4).bind fun f => ((idx a 5).bind fun g => ((idx a 4).bind fun h => ((idx a 6).bind fun i => ((idx l b).bind fun j => ((idx m b).bind fun k => ((idx a 0).bind fun o => ((Y7 o 2 13 22).bind fun p => ((idx a 0).bind fun q => ((idx a 1).bind fun r => ((idx a 0).bind fun s => ((idx a 2).bind fun t => ((idx a 1).bind fun u => ((idx a 2).bind fun v => ((idx a 0).bind fun w => ((idx a 1).bind fun x => ((idx a 2).bind fun y => ((idx a 3).bind fun z => ((idx a 4).bind fun a0 => ((idx a 5).bind fun a1 => ((idx a 6).bind fun a2 => (c ([(IntKind.wrap .u32 ((IntKind.wrap .u32 ((IntKind.wrap .u32 ((IntKind.wrap .u32 ((IntKind.wrap .u32 (d + e)) + (V0 .u32 (V7 .u32 f g) (V7 .u32 (V0 .u32 (IntKind.max .u32) h) i)))) + j)) + k)) + (IntKind.wrap .u32 (p + (V0 .u32 (V0 .u32 (V7 .u32 q r) (V7 .u32 s t)) (V7 .u32 u v)))))), w, x, y, (IntKind.wrap .u32 (z + (IntKind.wrap .u32 ((IntKind.wrap .u32 ((IntKind.wrap .u32 ((IntKind.wrap .u32 (d + e)) + (V0 .u32 (V7 .u32 f g) (V7 .u32 (V0 .u32 (IntKind.max .u32) h) i)))) + j)) + k)))), a0, a1, a2] : List Int) (IntKind.wrap .i64 (b + 1))))))))))))))))))))))))))) (X8 c a Z0 p1 0))
def Zn (p1 : (List Int)) (a : ((List Int))) (b : ((List Int))) : Nat → (List Int) → Int → Option ((List Int))
  | 0, _, _ => none
  | f + 1, c, d => Jo  (Zn p1 a b f) p1 a b c d
def Uz (p1 : (List Int)) (p3 : (List UInt8)) : Option ((List Int)) :=
  ((Uy ).bind fun a => ((chk (Nat.beq (List.length a) 64)).bind fun _ => ((Jm p3).bind fun b => ((chk (Nat.beq (List.length b) 64)).bind fun _ => (Zn p1 a b Z0 p1 0)))))
set_option maxRecDepth 100000 in
set_option maxHeartbeats 4000000 in
theorem G7 (A4 : Option Addr) (c5 : Nat) (p1 : (List Int)) (p3 : (List UInt8)) (w0 : World) (i1 : List.length p1 = 8) (m9 : RdT eU8 w0 A4 c5 p3) (r : ((List Int))) (H : Uz p1 p3 = some r) :
  Calls Tryz.prog 93 #[(.agg (Qb (Qc .u32) p1).toArray), (.slice A4 (List.length p3) c5)] w0 (fun e w' => e = .returned (.agg (Qb (Qc .u32) r).toArray) ∧ SP [] w0 w' []) := by
 unfold Uz at H
 refine Qv (n := 102) Tryz.func93 K K K ?_
 have n0 := Q1 [] w0
 refine aQ ?_
 refine aR ?_
 refine iS 1 ?_
 refine De (e := (Qc .u32)) (l := p1) (m := 8) (t := 128) (x := (.tmp 0)) (d := (some 2)) (k := 0) K rfl K i1 K n0 ?_
 intro g7 w8 n1
 refine iS 2 ?_
 refine Qz (e := (Qc .u32)) (l := (List.replicate 8 0)) (m := 8) (t := 128) (z := .agg (Qb (Qc .u32) (List.replicate 8 0)).toArray) (d := (some 4)) (k := 1) K rfl K rfl rfl K n1 ?_
 intro b4 n2 n3
 refine iF ?_
 refine aQ ?_
 refine aR ?_
 obtain ⟨b6, n4, H⟩ := Qf H
 obtain ⟨f9, H⟩ := Vv H
 replace f9 := Nat.eq_of_beq_eq_true f9
 refine iS 1 ?_
 refine cF 101 #[] #[] 12 Tryz.call101 (G6   n2  b6 n4) ?_
 rintro e w18 ⟨rfl, i2⟩
 refine ⟨_, rfl, ?_⟩
 have n5 := SP.call n3 i2
 clear i2
 refine iS 2 ?_
 refine Qz (e := (Qc .u32)) (l := (List.replicate 64 0)) (m := 64) (t := 135) (z := .agg (Qb (Qc .u32) (List.replicate 64 0)).toArray) (d := (some 5)) (k := 1) K rfl K rfl rfl K n5 ?_
 intro b2 w23 n6
 refine iS 3 ?_
 refine Q8 (e := (Qc .u32)) (l := (List.replicate 64 0)) (l' := b6) (m := 64) (t := 135) (x := (.tmp 5)) (y := (.tmp 12)) (g := b2) (i := 2) (d := none) (k := 2) K rfl K K f9 n6 rfl K ?_
 intro n7 i3
 refine iF ?_
 refine aQ ?_
 refine aR ?_
 refine iR 1 1 [(13, (.slice A4 (List.length p3) c5))] ?_
 obtain ⟨b7, n8, H⟩ := Qf H
 obtain ⟨g0, H⟩ := Vv H
 replace g0 := Nat.eq_of_beq_eq_true g0
 refine iS 2 ?_
 refine cF 102 #[(.tmp 13)] #[52] 14 Tryz.call102 (Gk A4 c5 p3 n7 (RdT.sp m9 i3) b7 n8) ?_
 rintro e w32 ⟨rfl, i4⟩
 refine ⟨_, rfl, ?_⟩
 have n9 := SP.call i3 i4
 clear i4
 refine iS 3 ?_
 refine Qz (e := (Qc .u32)) (l := (List.replicate 64 0)) (m := 64) (t := 135) (z := .agg (Qb (Qc .u32) (List.replicate 64 0)).toArray) (d := (some 6)) (k := 2) K rfl K rfl rfl K n9 ?_
 intro b3 w37 o0
 refine iS 4 ?_
 refine Q8 (e := (Qc .u32)) (l := (List.replicate 64 0)) (l' := b7) (m := 64) (t := 135) (x := (.tmp 6)) (y := (.tmp 14)) (g := b3) (i := 3) (d := none) (k := 3) K rfl K K g0 o0 rfl K ?_
 intro w40 i5
 refine iF ?_
 refine aQ ?_
 refine aR ?_
 refine iS 1 ?_
 refine V3 (e := (Qc .u32)) (l := p1) (m := 8) (t := 128) (x := (.tmp 2)) (g := g7) (i := 0) (d := (some 15)) (k := 0) K rfl K i5 rfl K K ?_
 refine iS 2 ?_
 refine Qz (e := (Qc .u32)) (l := (List.replicate 8 0)) (m := 8) (t := 128) (z := .agg (Qb (Qc .u32) (List.replicate 8 0)).toArray) (d := (some 7)) (k := 1) K rfl K rfl rfl K i5 ?_
 intro c w44 o1
 refine iS 3 ?_
 refine Q8 (e := (Qc .u32)) (l := (List.replicate 8 0)) (l' := p1) (m := 8) (t := 128) (x := (.tmp 7)) (y := (.tmp 15)) (g := c) (i := 4) (d := none) (k := 2) K rfl K K i1 o1 rfl K ?_
 intro w47 o2
 refine iF ?_
 refine aQ ?_
 refine aQ ?_
 refine aR ?_
 refine iR 1 1 [(8, (.int .i64 0))] ?_
 refine iF ?_
 refine Zj K (id := 0) K ?_
 refine Jk K (fun f4 ρ w => ∃ (f : (List Int)) (p : Int), V8 ρ [(2, (pt g7 0)), (4, (pt b4 0)), (5, (pt b2 0)), (6, (pt b3 0)), (7, (pt c 0)), (8, (.int .i64 p))] ∧ SP [] w0 w [Vc 128 (Qc .u32) g7 8 p1, Vc 128 (Qc .u32) b4 8 (List.replicate 8 0), Vc 135 (Qc .u32) b2 64 b6, Vc 135 (Qc .u32) b3 64 b7, Vc 128 (Qc .u32) c 8 f] ∧ Zn p1 b6 b7 f4 f p = some r) (by rintro ρ w ⟨f, p, hk, hs, H⟩; cases H) ?_ Z0 ?_
 ·rintro f4 ρ ah6 ⟨f, p, hk, b9, H⟩
  refine At.known [(2, (pt g7 0)), (4, (pt b4 0)), (5, (pt b2 0)), (6, (pt b3 0)), (7, (pt c 0)), (8, (.int .i64 p))] hk ?_
  replace H := (show Jo (Zn p1 b6 b7 f4) p1 b6 b7 f p = some r from H)
  unfold Jo at H
  have ah7 := Q5 (SP.get b9 (i := 0) rfl)
  have ah8 := Q5 (SP.get b9 (i := 1) rfl)
  have ah9 := Q5 (SP.get b9 (i := 2) rfl)
  have ai0 := Q5 (SP.get b9 (i := 3) rfl)
  have ai1 := Q5 (SP.get b9 (i := 4) rfl)
  refine aQ ?_
  refine aQ ?_
  refine aR ?_
  refine iR 2 2 [(16, (.int .i64 p)), (17, (.bool (decide (p < 64))))] ?_
  refine iF ?_
  refine Zi K (o := (.tmp 17)) K (b := (decide (p < 64))) K (fun g1 => ?_) (fun g1 => ?_)
  ·have H := ct H g1
   refine At.skip K ?_
   refine aQ ?_
   refine Zj K (id := 1) K ?_
   refine aQ ?_
   obtain ⟨a1, c4, c6, i6, H⟩ := Qn H
   obtain ⟨g2, i7, i8, o3, H⟩ := Qn H
   obtain ⟨a2, o4, H⟩ := Qf H
   obtain ⟨s, c7, c8, i9, H⟩ := Qn H
   obtain ⟨u, c9, d0, j0, H⟩ := Qn H
   obtain ⟨q, d1, d2, j1, H⟩ := Qn H
   obtain ⟨a0, d3, d4, j2, H⟩ := Qn H
   obtain ⟨a3, d5, d6, j3, H⟩ := Qn H
   obtain ⟨a4, d7, d8, j4, H⟩ := Qn H
   refine aG [Vs (some ⟨c, 0, none⟩) (Qc .u32).sz 7, GEq (.int .u32 a1), Vs (some ⟨c, 0, none⟩) (Qc .u32).sz 4, GEq (.int .u32 g2), GEq (.int .u32 a2), GEq (.int .u32 (IntKind.wrap .u32 (a1 + a2))), Vs (some ⟨c, 0, none⟩) (Qc .u32).sz 4, GEq (.int .u32 s), Vs (some ⟨c, 0, none⟩) (Qc .u32).sz 5, GEq (.int .u32 u), GEq (.int .u32 (V7 .u32 s u)), Vs (some ⟨c, 0, none⟩) (Qc .u32).sz 4, GEq (.int .u32 q), GEq (.int .u32 (V0 .u32 (IntKind.max .u32) q)), Vs (some ⟨c, 0, none⟩) (Qc .u32).sz 6, GEq (.int .u32 a0), GEq (.int .u32 (V7 .u32 (V0 .u32 (IntKind.max .u32) q) a0)), GEq (.int .u32 (V0 .u32 (V7 .u32 s u) (V7 .u32 (V0 .u32 (IntKind.max .u32) q) a0))), GEq (.int .u32 (IntKind.wrap .u32 ((IntKind.wrap .u32 (a1 + a2)) + (V0 .u32 (V7 .u32 s u) (V7 .u32 (V0 .u32 (IntKind.max .u32) q) a0))))), GEq (.int .i64 p), Vs (some ⟨b2, 0, none⟩) (Qc .u32).sz p, GEq (.int .u32 a3), GEq (.int .u32 (IntKind.wrap .u32 ((IntKind.wrap .u32 ((IntKind.wrap .u32 (a1 + a2)) + (V0 .u32 (V7 .u32 s u) (V7 .u32 (V0 .u32 (IntKind.max .u32) q) a0)))) + a3))), GEq (.int .i64 p), Vs (some ⟨b3, 0, none⟩) (Qc .u32).sz p, GEq (.int .u32 a4), GEq (.int .u32 (IntKind.wrap .u32 ((IntKind.wrap .u32 ((IntKind.wrap .u32 ((IntKind.wrap .u32 (a1 + a2)) + (V0 .u32 (V7 .u32 s u) (V7 .u32 (V0 .u32 (IntKind.max .u32) q) a0)))) + a3)) + a4))), GEq (.int .u32 (IntKind.wrap .u32 ((IntKind.wrap .u32 ((IntKind.wrap .u32 ((IntKind.wrap .u32 (a1 + a2)) + (V0 .u32 (V7 .u32 s u) (V7 .u32 (V0 .u32 (IntKind.max .u32) q) a0)))) + a3)) + a4)))] [4] (tG [] w0 [Vc 128 (Qc .u32) g7 8 p1, Vc 128 (Qc .u32) b4 8 (List.replicate 8 0), Vc 135 (Qc .u32) b2 64 b6, Vc 135 (Qc .u32) b3 64 b7, Vc 128 (Qc .u32) c 8 f] [([], []), ([4], [(.int .u32 a2)])]) 28 1 ⟨trivial, SP.drew b9⟩ ?_ ?_
   iterate 28 refine And.intro ?_ ?_
   exact trivial
   ·refine Owe.light K [0, 1] K (Qd ?_ (Qd ?_ Q4))
    ·rintro ρ' w' hs hah ⟨ai2, o5⟩
     refine kM (kc (kS hs 7 (pt c 0)) k0) fun hkn => ?_
     refine Qg (e := (Qc .u32)) (l := f) (m := 8) (g := c) (T := 128) (E := 111) (x := (.tmp 7)) (ix := (.const (.int .i64 (7)))) (ki := .i64) (iz := 7) (i := 4) (d := (some 20)) (k := 0) K rfl K K K K o5 rfl c4 c6 ?_
     exact ⟨rfl, _, Qa hkn, ⟨c, 0, rfl, rfl⟩⟩
    ·rintro ρ' w' hs hah ⟨⟨ai3, -⟩, o6⟩
     refine kM (kc (kS hs 7 (pt c 0)) k0) fun hkn => ?_
     refine Qg (e := (Qc .u32)) (l := f) (m := 8) (g := c) (T := 128) (E := 111) (x := (.tmp 7)) (ix := (.const (.int .i64 (7)))) (ki := .i64) (iz := 7) (i := 4) (d := (some 20)) (k := 0) K rfl K K K K o6 rfl c4 c6 ?_
     exact ⟨rfl, _, Qa hkn, ⟨c, 0, rfl, rfl⟩⟩
   ·refine Owe.light K [0, 1] K (Qd ?_ (Qd ?_ Q4))
    ·rintro ρ' w' hs hah ⟨ai4, o7⟩
     obtain ⟨o8, o9, p0, g3⟩ := hah 0 20 K
     refine kM (kc g3 k0) fun hkn => ?_
     refine sC 111 20 o8 (o9 + Int.toNat 7 * (Qc .u32).sz) (.int .u32 a1) 21 (Qh (e := (Qc .u32)) (Qe (Qu (SP.get o7 (i := 4) rfl)) p0 c4 c6) i6 (j := 0) rfl) ?_
     exact eK hkn
    ·rintro ρ' w' hs hah ⟨⟨ai5, -⟩, p2⟩
     obtain ⟨p4, p5, p6, g3⟩ := hah 0 20 K
     refine kM (kc g3 k0) fun hkn => ?_
     refine sC 111 20 p4 (p5 + Int.toNat 7 * (Qc .u32).sz) (.int .u32 a1) 21 (Qh (e := (Qc .u32)) (Qe (Qu (SP.get p2 (i := 4) rfl)) p6 c4 c6) i6 (j := 0) rfl) ?_
     exact eK hkn
   ·refine oL 0 ?_
    ·rintro ρ' w' hs hah ⟨ai6, p7⟩
     refine kM (kc (kS hs 7 (pt c 0)) k0) fun hkn => ?_
     refine Qg (e := (Qc .u32)) (l := f) (m := 8) (g := c) (T := 128) (E := 111) (x := (.tmp 7)) (ix := (.const (.int .i64 (4)))) (ki := .i64) (iz := 4) (i := 4) (d := (some 22)) (k := 2) K rfl K K K K p7 rfl i7 i8 ?_
     exact ⟨rfl, _, Qa hkn, ⟨c, 0, rfl, rfl⟩⟩
   ·refine oL 0 ?_
    ·rintro ρ' w' hs hah ⟨ai7, p8⟩
     obtain ⟨p9, q0, q1, q2⟩ := hah 2 22 K
     refine kM (kc q2 k0) fun hkn => ?_
     refine sC 111 22 p9 (q0 + Int.toNat 4 * (Qc .u32).sz) (.int .u32 g2) 23 (Qh (e := (Qc .u32)) (Qe (Qu (SP.get p8 (i := 4) rfl)) q1 i7 i8) o3 (j := 0) rfl) ?_
     exact eK hkn
   ·refine oH 0 1 ?_
    ·rintro ρ' w' hs hah ⟨ai8, q3⟩
     refine kM (kc (kA hah 3 23) k0) fun hkn => ?_
     refine cF 103 #[(.tmp 23), (.const (.int .i64 (6))), (.const (.int .i64 (11))), (.const (.int .i64 (25)))] #[111, 3, 3, 3] 24 Tryz.call103 (U5  g2 6 11 25 w'  a2 o4) ?_
     rintro e ai9 ⟨rfl, j5⟩
     refine ⟨_, rfl, ?_⟩
     have q4 := SP.call q3 j5
     clear j5
     refine ⟨_, Qa hkn, rfl, ?_⟩
     exact (And.intro (And.intro rfl (trivial)) (q4))
   ·exact oV (hC (hA 1 21) (hC (hA 4 24) (h0))) (.int .u32 (IntKind.wrap .u32 (a1 + a2)))
   ·refine Owe.light K [0, 1] K (Qd ?_ (Qd ?_ Q4))
    ·rintro ρ' w' hs hah ⟨aj0, q5⟩
     refine kM (kc (kS hs 7 (pt c 0)) k0) fun hkn => ?_
     refine Qg (e := (Qc .u32)) (l := f) (m := 8) (g := c) (T := 128) (E := 111) (x := (.tmp 7)) (ix := (.const (.int .i64 (4)))) (ki := .i64) (iz := 4) (i := 4) (d := (some 26)) (k := 6) K rfl K K K K q5 rfl c7 c8 ?_
     exact ⟨rfl, _, Qa hkn, ⟨c, 0, rfl, rfl⟩⟩
    ·rintro ρ' w' hs hah ⟨⟨aj1, -⟩, q6⟩
     refine kM (kc (kS hs 7 (pt c 0)) k0) fun hkn => ?_
     refine Qg (e := (Qc .u32)) (l := f) (m := 8) (g := c) (T := 128) (E := 111) (x := (.tmp 7)) (ix := (.const (.int .i64 (4)))) (ki := .i64) (iz := 4) (i := 4) (d := (some 26)) (k := 6) K rfl K K K K q6 rfl c7 c8 ?_
     exact ⟨rfl, _, Qa hkn, ⟨c, 0, rfl, rfl⟩⟩
   ·refine Owe.light K [0, 1] K (Qd ?_ (Qd ?_ Q4))
    ·rintro ρ' w' hs hah ⟨aj2, q7⟩
     obtain ⟨q8, q9, r0, g4⟩ := hah 6 26 K
     refine kM (kc g4 k0) fun hkn => ?_
     refine sC 111 26 q8 (q9 + Int.toNat 4 * (Qc .u32).sz) (.int .u32 s) 27 (Qh (e := (Qc .u32)) (Qe (Qu (SP.get q7 (i := 4) rfl)) r0 c7 c8) i9 (j := 0) rfl) ?_
     exact eK hkn
    ·rintro ρ' w' hs hah ⟨⟨aj3, -⟩, r1⟩
     obtain ⟨r2, r3, r4, g4⟩ := hah 6 26 K
     refine kM (kc g4 k0) fun hkn => ?_
     refine sC 111 26 r2 (r3 + Int.toNat 4 * (Qc .u32).sz) (.int .u32 s) 27 (Qh (e := (Qc .u32)) (Qe (Qu (SP.get r1 (i := 4) rfl)) r4 c7 c8) i9 (j := 0) rfl) ?_
     exact eK hkn
   ·refine Owe.light K [0, 1] K (Qd ?_ (Qd ?_ Q4))
    ·rintro ρ' w' hs hah ⟨aj4, r5⟩
     refine kM (kc (kS hs 7 (pt c 0)) k0) fun hkn => ?_
     refine Qg (e := (Qc .u32)) (l := f) (m := 8) (g := c) (T := 128) (E := 111) (x := (.tmp 7)) (ix := (.const (.int .i64 (5)))) (ki := .i64) (iz := 5) (i := 4) (d := (some 28)) (k := 8) K rfl K K K K r5 rfl c9 d0 ?_
     exact ⟨rfl, _, Qa hkn, ⟨c, 0, rfl, rfl⟩⟩
    ·rintro ρ' w' hs hah ⟨⟨aj5, -⟩, r6⟩
     refine kM (kc (kS hs 7 (pt c 0)) k0) fun hkn => ?_
     refine Qg (e := (Qc .u32)) (l := f) (m := 8) (g := c) (T := 128) (E := 111) (x := (.tmp 7)) (ix := (.const (.int .i64 (5)))) (ki := .i64) (iz := 5) (i := 4) (d := (some 28)) (k := 8) K rfl K K K K r6 rfl c9 d0 ?_
     exact ⟨rfl, _, Qa hkn, ⟨c, 0, rfl, rfl⟩⟩
   ·refine Owe.light K [0, 1] K (Qd ?_ (Qd ?_ Q4))
    ·rintro ρ' w' hs hah ⟨aj6, r7⟩
     obtain ⟨r8, r9, s0, g5⟩ := hah 8 28 K
     refine kM (kc g5 k0) fun hkn => ?_
     refine sC 111 28 r8 (r9 + Int.toNat 5 * (Qc .u32).sz) (.int .u32 u) 29 (Qh (e := (Qc .u32)) (Qe (Qu (SP.get r7 (i := 4) rfl)) s0 c9 d0) j0 (j := 0) rfl) ?_
     exact eK hkn
    ·rintro ρ' w' hs hah ⟨⟨aj7, -⟩, s1⟩
     obtain ⟨s2, s3, s4, g5⟩ := hah 8 28 K
     refine kM (kc g5 k0) fun hkn => ?_
     refine sC 111 28 s2 (s3 + Int.toNat 5 * (Qc .u32).sz) (.int .u32 u) 29 (Qh (e := (Qc .u32)) (Qe (Qu (SP.get s1 (i := 4) rfl)) s4 c9 d0) j0 (j := 0) rfl) ?_
     exact eK hkn
   ·exact oV (hC (hA 7 27) (hC (hA 9 29) (h0))) (.int .u32 (V7 .u32 s u))
   ·refine Owe.light K [0, 1] K (Qd ?_ (Qd ?_ Q4))
    ·rintro ρ' w' hs hah ⟨aj8, s5⟩
     refine kM (kc (kS hs 7 (pt c 0)) k0) fun hkn => ?_
     refine Qg (e := (Qc .u32)) (l := f) (m := 8) (g := c) (T := 128) (E := 111) (x := (.tmp 7)) (ix := (.const (.int .i64 (4)))) (ki := .i64) (iz := 4) (i := 4) (d := (some 31)) (k := 11) K rfl K K K K s5 rfl d1 d2 ?_
     exact ⟨rfl, _, Qa hkn, ⟨c, 0, rfl, rfl⟩⟩
    ·rintro ρ' w' hs hah ⟨⟨aj9, -⟩, s6⟩
     refine kM (kc (kS hs 7 (pt c 0)) k0) fun hkn => ?_
     refine Qg (e := (Qc .u32)) (l := f) (m := 8) (g := c) (T := 128) (E := 111) (x := (.tmp 7)) (ix := (.const (.int .i64 (4)))) (ki := .i64) (iz := 4) (i := 4) (d := (some 31)) (k := 11) K rfl K K K K s6 rfl d1 d2 ?_
     exact ⟨rfl, _, Qa hkn, ⟨c, 0, rfl, rfl⟩⟩
   ·refine Owe.light K [0, 1] K (Qd ?_ (Qd ?_ Q4))
    ·rintro ρ' w' hs hah ⟨ak0, s7⟩
     obtain ⟨s8, s9, t0, g6⟩ := hah 11 31 K
     refine kM (kc g6 k0) fun hkn => ?_
     refine sC 111 31 s8 (s9 + Int.toNat 4 * (Qc .u32).sz) (.int .u32 q) 32 (Qh (e := (Qc .u32)) (Qe (Qu (SP.get s7 (i := 4) rfl)) t0 d1 d2) j1 (j := 0) rfl) ?_
     exact eK hkn
    ·rintro ρ' w' hs hah ⟨⟨ak1, -⟩, t1⟩
     obtain ⟨t2, t3, t4, g6⟩ := hah 11 31 K
     refine kM (kc g6 k0) fun hkn => ?_
     refine sC 111 31 t2 (t3 + Int.toNat 4 * (Qc .u32).sz) (.int .u32 q) 32 (Qh (e := (Qc .u32)) (Qe (Qu (SP.get t1 (i := 4) rfl)) t4 d1 d2) j1 (j := 0) rfl) ?_
     exact eK hkn
   ·exact oV (hC (hA 12 32) (h0)) (.int .u32 (V0 .u32 (IntKind.max .u32) q))
   ·refine Owe.light K [0, 1] K (Qd ?_ (Qd ?_ Q4))
    ·rintro ρ' w' hs hah ⟨ak2, t5⟩
     refine kM (kc (kS hs 7 (pt c 0)) k0) fun hkn => ?_
     refine Qg (e := (Qc .u32)) (l := f) (m := 8) (g := c) (T := 128) (E := 111) (x := (.tmp 7)) (ix := (.const (.int .i64 (6)))) (ki := .i64) (iz := 6) (i := 4) (d := (some 34)) (k := 14) K rfl K K K K t5 rfl d3 d4 ?_
     exact ⟨rfl, _, Qa hkn, ⟨c, 0, rfl, rfl⟩⟩
    ·rintro ρ' w' hs hah ⟨⟨ak3, -⟩, t6⟩
     refine kM (kc (kS hs 7 (pt c 0)) k0) fun hkn => ?_
     refine Qg (e := (Qc .u32)) (l := f) (m := 8) (g := c) (T := 128) (E := 111) (x := (.tmp 7)) (ix := (.const (.int .i64 (6)))) (ki := .i64) (iz := 6) (i := 4) (d := (some 34)) (k := 14) K rfl K K K K t6 rfl d3 d4 ?_
     exact ⟨rfl, _, Qa hkn, ⟨c, 0, rfl, rfl⟩⟩
   ·refine Owe.light K [0, 1] K (Qd ?_ (Qd ?_ Q4))
    ·rintro ρ' w' hs hah ⟨ak4, t7⟩
     obtain ⟨t8, t9, u0, g8⟩ := hah 14 34 K
     refine kM (kc g8 k0) fun hkn => ?_
     refine sC 111 34 t8 (t9 + Int.toNat 6 * (Qc .u32).sz) (.int .u32 a0) 35 (Qh (e := (Qc .u32)) (Qe (Qu (SP.get t7 (i := 4) rfl)) u0 d3 d4) j2 (j := 0) rfl) ?_
     exact eK hkn
    ·rintro ρ' w' hs hah ⟨⟨ak5, -⟩, u1⟩
     obtain ⟨u2, u3, u4, g8⟩ := hah 14 34 K
     refine kM (kc g8 k0) fun hkn => ?_
     refine sC 111 34 u2 (u3 + Int.toNat 6 * (Qc .u32).sz) (.int .u32 a0) 35 (Qh (e := (Qc .u32)) (Qe (Qu (SP.get u1 (i := 4) rfl)) u4 d3 d4) j2 (j := 0) rfl) ?_
     exact eK hkn
   ·exact oV (hC (hA 13 33) (hC (hA 15 35) (h0))) (.int .u32 (V7 .u32 (V0 .u32 (IntKind.max .u32) q) a0))
   ·exact oV (hC (hA 10 30) (hC (hA 16 36) (h0))) (.int .u32 (V0 .u32 (V7 .u32 s u) (V7 .u32 (V0 .u32 (IntKind.max .u32) q) a0)))
   ·exact oV (hC (hA 5 25) (hC (hA 17 37) (h0))) (.int .u32 (IntKind.wrap .u32 ((IntKind.wrap .u32 (a1 + a2)) + (V0 .u32 (V7 .u32 s u) (V7 .u32 (V0 .u32 (IntKind.max .u32) q) a0)))))
   ·exact oV (hC (hS 8 (.int .i64 p)) (h0)) (.int .i64 p)
   ·refine Owe.light K [0, 1] K (Qd ?_ (Qd ?_ Q4))
    ·rintro ρ' w' hs hah ⟨ak6, u5⟩
     refine kM (kc (kS hs 5 (pt b2 0)) (kc (kA hah 19 39) k0)) fun hkn => ?_
     refine Qg (e := (Qc .u32)) (l := b6) (m := 64) (g := b2) (T := 135) (E := 111) (x := (.tmp 5)) (ix := (.tmp 39)) (ki := .i64) (iz := p) (i := 2) (d := (some 40)) (k := 20) K rfl K K K K u5 rfl d5 d6 ?_
     exact ⟨rfl, _, Qa hkn, ⟨b2, 0, rfl, rfl⟩⟩
    ·rintro ρ' w' hs hah ⟨⟨ak7, -⟩, u6⟩
     refine kM (kc (kS hs 5 (pt b2 0)) (kc (kA hah 19 39) k0)) fun hkn => ?_
     refine Qg (e := (Qc .u32)) (l := b6) (m := 64) (g := b2) (T := 135) (E := 111) (x := (.tmp 5)) (ix := (.tmp 39)) (ki := .i64) (iz := p) (i := 2) (d := (some 40)) (k := 20) K rfl K K K K u6 rfl d5 d6 ?_
     exact ⟨rfl, _, Qa hkn, ⟨b2, 0, rfl, rfl⟩⟩
   ·refine Owe.light K [0, 1] K (Qd ?_ (Qd ?_ Q4))
    ·rintro ρ' w' hs hah ⟨ak8, u7⟩
     obtain ⟨u8, u9, v0, g9⟩ := hah 20 40 K
     refine kM (kc g9 k0) fun hkn => ?_
     refine sC 111 40 u8 (u9 + Int.toNat p * (Qc .u32).sz) (.int .u32 a3) 41 (Qh (e := (Qc .u32)) (Qe (Qu (SP.get u7 (i := 2) rfl)) v0 d5 d6) j3 (j := 0) rfl) ?_
     exact eK hkn
    ·rintro ρ' w' hs hah ⟨⟨ak9, -⟩, v1⟩
     obtain ⟨v2, v3, v4, g9⟩ := hah 20 40 K
     refine kM (kc g9 k0) fun hkn => ?_
     refine sC 111 40 v2 (v3 + Int.toNat p * (Qc .u32).sz) (.int .u32 a3) 41 (Qh (e := (Qc .u32)) (Qe (Qu (SP.get v1 (i := 2) rfl)) v4 d5 d6) j3 (j := 0) rfl) ?_
     exact eK hkn
   ·exact oV (hC (hA 18 38) (hC (hA 21 41) (h0))) (.int .u32 (IntKind.wrap .u32 ((IntKind.wrap .u32 ((IntKind.wrap .u32 (a1 + a2)) + (V0 .u32 (V7 .u32 s u) (V7 .u32 (V0 .u32 (IntKind.max .u32) q) a0)))) + a3)))
   ·exact oV (hC (hS 8 (.int .i64 p)) (h0)) (.int .i64 p)
   ·refine Owe.light K [0, 1] K (Qd ?_ (Qd ?_ Q4))
    ·rintro ρ' w' hs hah ⟨al0, v5⟩
     refine kM (kc (kS hs 6 (pt b3 0)) (kc (kA hah 23 43) k0)) fun hkn => ?_
     refine Qg (e := (Qc .u32)) (l := b7) (m := 64) (g := b3) (T := 135) (E := 111) (x := (.tmp 6)) (ix := (.tmp 43)) (ki := .i64) (iz := p) (i := 3) (d := (some 44)) (k := 24) K rfl K K K K v5 rfl d7 d8 ?_
     exact ⟨rfl, _, Qa hkn, ⟨b3, 0, rfl, rfl⟩⟩
    ·rintro ρ' w' hs hah ⟨⟨al1, -⟩, v6⟩
     refine kM (kc (kS hs 6 (pt b3 0)) (kc (kA hah 23 43) k0)) fun hkn => ?_
     refine Qg (e := (Qc .u32)) (l := b7) (m := 64) (g := b3) (T := 135) (E := 111) (x := (.tmp 6)) (ix := (.tmp 43)) (ki := .i64) (iz := p) (i := 3) (d := (some 44)) (k := 24) K rfl K K K K v6 rfl d7 d8 ?_
     exact ⟨rfl, _, Qa hkn, ⟨b3, 0, rfl, rfl⟩⟩
   ·refine Owe.light K [0, 1] K (Qd ?_ (Qd ?_ Q4))
    ·rintro ρ' w' hs hah ⟨al2, v7⟩
     obtain ⟨v8, v9, w1, h1⟩ := hah 24 44 K
     refine kM (kc h1 k0) fun hkn => ?_
     refine sC 111 44 v8 (v9 + Int.toNat p * (Qc .u32).sz) (.int .u32 a4) 45 (Qh (e := (Qc .u32)) (Qe (Qu (SP.get v7 (i := 3) rfl)) w1 d7 d8) j4 (j := 0) rfl) ?_
     exact eK hkn
    ·rintro ρ' w' hs hah ⟨⟨al3, -⟩, w2⟩
     obtain ⟨w3, w4, w5, h1⟩ := hah 24 44 K
     refine kM (kc h1 k0) fun hkn => ?_
     refine sC 111 44 w3 (w4 + Int.toNat p * (Qc .u32).sz) (.int .u32 a4) 45 (Qh (e := (Qc .u32)) (Qe (Qu (SP.get w2 (i := 3) rfl)) w5 d7 d8) j4 (j := 0) rfl) ?_
     exact eK hkn
   ·exact oV (hC (hA 22 42) (hC (hA 25 45) (h0))) (.int .u32 (IntKind.wrap .u32 ((IntKind.wrap .u32 ((IntKind.wrap .u32 ((IntKind.wrap .u32 (a1 + a2)) + (V0 .u32 (V7 .u32 s u) (V7 .u32 (V0 .u32 (IntKind.max .u32) q) a0)))) + a3)) + a4)))
   ·exact oV (hC (hA 26 46) (h0)) (.int .u32 (IntKind.wrap .u32 ((IntKind.wrap .u32 ((IntKind.wrap .u32 ((IntKind.wrap .u32 (a1 + a2)) + (V0 .u32 (V7 .u32 s u) (V7 .u32 (V0 .u32 (IntKind.max .u32) q) a0)))) + a3)) + a4)))
   ·rintro ρ' w' hs hf ⟨⟨al4, -⟩, j6⟩
    refine Vh [(2, (pt g7 0)), (4, (pt b4 0)), (5, (pt b2 0)), (6, (pt b3 0)), (7, (pt c 0)), (8, (.int .i64 p)), (9, (.int .u32 (IntKind.wrap .u32 ((IntKind.wrap .u32 ((IntKind.wrap .u32 ((IntKind.wrap .u32 (a1 + a2)) + (V0 .u32 (V7 .u32 s u) (V7 .u32 (V0 .u32 (IntKind.max .u32) q) a0)))) + a3)) + a4))))] ⟨(hs 2 K).trans K, (hs 4 K).trans K, (hs 5 K).trans K, (hs 6 K).trans K, (hs 7 K).trans K, (hs 8 K).trans K, hf 27 9 K, trivial⟩ ?_
    obtain ⟨al5, w6⟩ : ∃ x, w' = x := ⟨_, rfl⟩
    rw [w6] at j6 ⊢
    refine aQ ?_
    obtain ⟨h2, j7, j8, w7, H⟩ := Qn H
    obtain ⟨b8, w9, H⟩ := Qf H
    obtain ⟨a5, d9, e0, j9, H⟩ := Qn H
    obtain ⟨a6, e1, e2, k1, H⟩ := Qn H
    obtain ⟨a7, e3, e4, k2, H⟩ := Qn H
    obtain ⟨a8, e5, e6, k3, H⟩ := Qn H
    obtain ⟨a9, e7, e8, k4, H⟩ := Qn H
    obtain ⟨b0, e9, f0, k5, H⟩ := Qn H
    refine aG [Vs (some ⟨c, 0, none⟩) (Qc .u32).sz 0, GEq (.int .u32 h2), GEq (.int .u32 b8), Vs (some ⟨c, 0, none⟩) (Qc .u32).sz 0, GEq (.int .u32 a5), Vs (some ⟨c, 0, none⟩) (Qc .u32).sz 1, GEq (.int .u32 a6), GEq (.int .u32 (V7 .u32 a5 a6)), Vs (some ⟨c, 0, none⟩) (Qc .u32).sz 0, GEq (.int .u32 a7), Vs (some ⟨c, 0, none⟩) (Qc .u32).sz 2, GEq (.int .u32 a8), GEq (.int .u32 (V7 .u32 a7 a8)), GEq (.int .u32 (V0 .u32 (V7 .u32 a5 a6) (V7 .u32 a7 a8))), Vs (some ⟨c, 0, none⟩) (Qc .u32).sz 1, GEq (.int .u32 a9), Vs (some ⟨c, 0, none⟩) (Qc .u32).sz 2, GEq (.int .u32 b0), GEq (.int .u32 (V7 .u32 a9 b0)), GEq (.int .u32 (V0 .u32 (V0 .u32 (V7 .u32 a5 a6) (V7 .u32 a7 a8)) (V7 .u32 a9 b0))), GEq (.int .u32 (IntKind.wrap .u32 (b8 + (V0 .u32 (V0 .u32 (V7 .u32 a5 a6) (V7 .u32 a7 a8)) (V7 .u32 a9 b0))))), GEq (.int .u32 (IntKind.wrap .u32 (b8 + (V0 .u32 (V0 .u32 (V7 .u32 a5 a6) (V7 .u32 a7 a8)) (V7 .u32 a9 b0)))))] [2] (tG [] w0 [Vc 128 (Qc .u32) g7 8 p1, Vc 128 (Qc .u32) b4 8 (List.replicate 8 0), Vc 135 (Qc .u32) b2 64 b6, Vc 135 (Qc .u32) b3 64 b7, Vc 128 (Qc .u32) c 8 f] [([], []), ([2], [(.int .u32 b8)])]) 22 1 ⟨trivial, SP.drew j6⟩ ?_ ?_
    iterate 22 refine And.intro ?_ ?_
    exact trivial
    ·refine oL 0 ?_
     ·rintro ρ' w' hs hah ⟨al6, x0⟩
      refine kM (kc (kS hs 7 (pt c 0)) k0) fun hkn => ?_
      refine Qg (e := (Qc .u32)) (l := f) (m := 8) (g := c) (T := 128) (E := 111) (x := (.tmp 7)) (ix := (.const (.int .i64 (0)))) (ki := .i64) (iz := 0) (i := 4) (d := (some 47)) (k := 0) K rfl K K K K x0 rfl j7 j8 ?_
      exact ⟨rfl, _, Qa hkn, ⟨c, 0, rfl, rfl⟩⟩
    ·refine oL 0 ?_
     ·rintro ρ' w' hs hah ⟨al7, x1⟩
      obtain ⟨x2, x3, x4, x5⟩ := hah 0 47 K
      refine kM (kc x5 k0) fun hkn => ?_
      refine sC 111 47 x2 (x3 + Int.toNat 0 * (Qc .u32).sz) (.int .u32 h2) 48 (Qh (e := (Qc .u32)) (Qe (Qu (SP.get x1 (i := 4) rfl)) x4 j7 j8) w7 (j := 0) rfl) ?_
      exact eK hkn
    ·refine oH 0 1 ?_
     ·rintro ρ' w' hs hah ⟨al8, x6⟩
      refine kM (kc (kA hah 1 48) k0) fun hkn => ?_
      refine cF 103 #[(.tmp 48), (.const (.int .i64 (2))), (.const (.int .i64 (13))), (.const (.int .i64 (22)))] #[111, 3, 3, 3] 49 Tryz.call103 (U5  h2 2 13 22 w'  b8 w9) ?_
      rintro e al9 ⟨rfl, k6⟩
      refine ⟨_, rfl, ?_⟩
      have x7 := SP.call x6 k6
      clear k6
      refine ⟨_, Qa hkn, rfl, ?_⟩
      exact (And.intro (And.intro rfl (trivial)) (x7))
    ·refine Owe.light K [0, 1] K (Qd ?_ (Qd ?_ Q4))
     ·rintro ρ' w' hs hah ⟨am0, x8⟩
      refine kM (kc (kS hs 7 (pt c 0)) k0) fun hkn => ?_
      refine Qg (e := (Qc .u32)) (l := f) (m := 8) (g := c) (T := 128) (E := 111) (x := (.tmp 7)) (ix := (.const (.int .i64 (0)))) (ki := .i64) (iz := 0) (i := 4) (d := (some 50)) (k := 3) K rfl K K K K x8 rfl d9 e0 ?_
      exact ⟨rfl, _, Qa hkn, ⟨c, 0, rfl, rfl⟩⟩
     ·rintro ρ' w' hs hah ⟨⟨am1, -⟩, x9⟩
      refine kM (kc (kS hs 7 (pt c 0)) k0) fun hkn => ?_
      refine Qg (e := (Qc .u32)) (l := f) (m := 8) (g := c) (T := 128) (E := 111) (x := (.tmp 7)) (ix := (.const (.int .i64 (0)))) (ki := .i64) (iz := 0) (i := 4) (d := (some 50)) (k := 3) K rfl K K K K x9 rfl d9 e0 ?_
      exact ⟨rfl, _, Qa hkn, ⟨c, 0, rfl, rfl⟩⟩
    ·refine Owe.light K [0, 1] K (Qd ?_ (Qd ?_ Q4))
     ·rintro ρ' w' hs hah ⟨am2, y0⟩
      obtain ⟨y1, y2, y3, h3⟩ := hah 3 50 K
      refine kM (kc h3 k0) fun hkn => ?_
      refine sC 111 50 y1 (y2 + Int.toNat 0 * (Qc .u32).sz) (.int .u32 a5) 51 (Qh (e := (Qc .u32)) (Qe (Qu (SP.get y0 (i := 4) rfl)) y3 d9 e0) j9 (j := 0) rfl) ?_
      exact eK hkn
     ·rintro ρ' w' hs hah ⟨⟨am3, -⟩, y4⟩
      obtain ⟨y5, y6, y7, h3⟩ := hah 3 50 K
      refine kM (kc h3 k0) fun hkn => ?_
      refine sC 111 50 y5 (y6 + Int.toNat 0 * (Qc .u32).sz) (.int .u32 a5) 51 (Qh (e := (Qc .u32)) (Qe (Qu (SP.get y4 (i := 4) rfl)) y7 d9 e0) j9 (j := 0) rfl) ?_
      exact eK hkn
    ·refine Owe.light K [0, 1] K (Qd ?_ (Qd ?_ Q4))
     ·rintro ρ' w' hs hah ⟨am4, y8⟩
      refine kM (kc (kS hs 7 (pt c 0)) k0) fun hkn => ?_
      refine Qg (e := (Qc .u32)) (l := f) (m := 8) (g := c) (T := 128) (E := 111) (x := (.tmp 7)) (ix := (.const (.int .i64 (1)))) (ki := .i64) (iz := 1) (i := 4) (d := (some 52)) (k := 5) K rfl K K K K y8 rfl e1 e2 ?_
      exact ⟨rfl, _, Qa hkn, ⟨c, 0, rfl, rfl⟩⟩
     ·rintro ρ' w' hs hah ⟨⟨am5, -⟩, y9⟩
      refine kM (kc (kS hs 7 (pt c 0)) k0) fun hkn => ?_
      refine Qg (e := (Qc .u32)) (l := f) (m := 8) (g := c) (T := 128) (E := 111) (x := (.tmp 7)) (ix := (.const (.int .i64 (1)))) (ki := .i64) (iz := 1) (i := 4) (d := (some 52)) (k := 5) K rfl K K K K y9 rfl e1 e2 ?_
      exact ⟨rfl, _, Qa hkn, ⟨c, 0, rfl, rfl⟩⟩
    ·refine Owe.light K [0, 1] K (Qd ?_ (Qd ?_ Q4))
     ·rintro ρ' w' hs hah ⟨am6, z0⟩
      obtain ⟨z1, z2, z3, h4⟩ := hah 5 52 K
      refine kM (kc h4 k0) fun hkn => ?_
      refine sC 111 52 z1 (z2 + Int.toNat 1 * (Qc .u32).sz) (.int .u32 a6) 53 (Qh (e := (Qc .u32)) (Qe (Qu (SP.get z0 (i := 4) rfl)) z3 e1 e2) k1 (j := 0) rfl) ?_
      exact eK hkn
     ·rintro ρ' w' hs hah ⟨⟨am7, -⟩, z4⟩
      obtain ⟨z5, z6, z7, h4⟩ := hah 5 52 K
      refine kM (kc h4 k0) fun hkn => ?_
      refine sC 111 52 z5 (z6 + Int.toNat 1 * (Qc .u32).sz) (.int .u32 a6) 53 (Qh (e := (Qc .u32)) (Qe (Qu (SP.get z4 (i := 4) rfl)) z7 e1 e2) k1 (j := 0) rfl) ?_
      exact eK hkn
    ·exact oV (hC (hA 4 51) (hC (hA 6 53) (h0))) (.int .u32 (V7 .u32 a5 a6))
    ·refine Owe.light K [0, 1] K (Qd ?_ (Qd ?_ Q4))
     ·rintro ρ' w' hs hah ⟨am8, z8⟩
      refine kM (kc (kS hs 7 (pt c 0)) k0) fun hkn => ?_
      refine Qg (e := (Qc .u32)) (l := f) (m := 8) (g := c) (T := 128) (E := 111) (x := (.tmp 7)) (ix := (.const (.int .i64 (0)))) (ki := .i64) (iz := 0) (i := 4) (d := (some 55)) (k := 8) K rfl K K K K z8 rfl e3 e4 ?_
      exact ⟨rfl, _, Qa hkn, ⟨c, 0, rfl, rfl⟩⟩
     ·rintro ρ' w' hs hah ⟨⟨am9, -⟩, z9⟩
      refine kM (kc (kS hs 7 (pt c 0)) k0) fun hkn => ?_
      refine Qg (e := (Qc .u32)) (l := f) (m := 8) (g := c) (T := 128) (E := 111) (x := (.tmp 7)) (ix := (.const (.int .i64 (0)))) (ki := .i64) (iz := 0) (i := 4) (d := (some 55)) (k := 8) K rfl K K K K z9 rfl e3 e4 ?_
      exact ⟨rfl, _, Qa hkn, ⟨c, 0, rfl, rfl⟩⟩
    ·refine Owe.light K [0, 1] K (Qd ?_ (Qd ?_ Q4))
     ·rintro ρ' w' hs hah ⟨an0, aa0⟩
      obtain ⟨aa1, aa2, aa3, h5⟩ := hah 8 55 K
      refine kM (kc h5 k0) fun hkn => ?_
      refine sC 111 55 aa1 (aa2 + Int.toNat 0 * (Qc .u32).sz) (.int .u32 a7) 56 (Qh (e := (Qc .u32)) (Qe (Qu (SP.get aa0 (i := 4) rfl)) aa3 e3 e4) k2 (j := 0) rfl) ?_
      exact eK hkn
     ·rintro ρ' w' hs hah ⟨⟨an1, -⟩, aa4⟩
      obtain ⟨aa5, aa6, aa7, h5⟩ := hah 8 55 K
      refine kM (kc h5 k0) fun hkn => ?_
      refine sC 111 55 aa5 (aa6 + Int.toNat 0 * (Qc .u32).sz) (.int .u32 a7) 56 (Qh (e := (Qc .u32)) (Qe (Qu (SP.get aa4 (i := 4) rfl)) aa7 e3 e4) k2 (j := 0) rfl) ?_
      exact eK hkn
    ·refine Owe.light K [0, 1] K (Qd ?_ (Qd ?_ Q4))
     ·rintro ρ' w' hs hah ⟨an2, aa8⟩
      refine kM (kc (kS hs 7 (pt c 0)) k0) fun hkn => ?_
      refine Qg (e := (Qc .u32)) (l := f) (m := 8) (g := c) (T := 128) (E := 111) (x := (.tmp 7)) (ix := (.const (.int .i64 (2)))) (ki := .i64) (iz := 2) (i := 4) (d := (some 57)) (k := 10) K rfl K K K K aa8 rfl e5 e6 ?_
      exact ⟨rfl, _, Qa hkn, ⟨c, 0, rfl, rfl⟩⟩
     ·rintro ρ' w' hs hah ⟨⟨an3, -⟩, aa9⟩
      refine kM (kc (kS hs 7 (pt c 0)) k0) fun hkn => ?_
      refine Qg (e := (Qc .u32)) (l := f) (m := 8) (g := c) (T := 128) (E := 111) (x := (.tmp 7)) (ix := (.const (.int .i64 (2)))) (ki := .i64) (iz := 2) (i := 4) (d := (some 57)) (k := 10) K rfl K K K K aa9 rfl e5 e6 ?_
      exact ⟨rfl, _, Qa hkn, ⟨c, 0, rfl, rfl⟩⟩
    ·refine Owe.light K [0, 1] K (Qd ?_ (Qd ?_ Q4))
     ·rintro ρ' w' hs hah ⟨an4, ab0⟩
      obtain ⟨ab1, ab2, ab3, h6⟩ := hah 10 57 K
      refine kM (kc h6 k0) fun hkn => ?_
      refine sC 111 57 ab1 (ab2 + Int.toNat 2 * (Qc .u32).sz) (.int .u32 a8) 58 (Qh (e := (Qc .u32)) (Qe (Qu (SP.get ab0 (i := 4) rfl)) ab3 e5 e6) k3 (j := 0) rfl) ?_
      exact eK hkn
     ·rintro ρ' w' hs hah ⟨⟨an5, -⟩, ab4⟩
      obtain ⟨ab5, ab6, ab7, h6⟩ := hah 10 57 K
      refine kM (kc h6 k0) fun hkn => ?_
      refine sC 111 57 ab5 (ab6 + Int.toNat 2 * (Qc .u32).sz) (.int .u32 a8) 58 (Qh (e := (Qc .u32)) (Qe (Qu (SP.get ab4 (i := 4) rfl)) ab7 e5 e6) k3 (j := 0) rfl) ?_
      exact eK hkn
    ·exact oV (hC (hA 9 56) (hC (hA 11 58) (h0))) (.int .u32 (V7 .u32 a7 a8))
    ·exact oV (hC (hA 7 54) (hC (hA 12 59) (h0))) (.int .u32 (V0 .u32 (V7 .u32 a5 a6) (V7 .u32 a7 a8)))
    ·refine Owe.light K [0, 1] K (Qd ?_ (Qd ?_ Q4))
     ·rintro ρ' w' hs hah ⟨an6, ab8⟩
      refine kM (kc (kS hs 7 (pt c 0)) k0) fun hkn => ?_
      refine Qg (e := (Qc .u32)) (l := f) (m := 8) (g := c) (T := 128) (E := 111) (x := (.tmp 7)) (ix := (.const (.int .i64 (1)))) (ki := .i64) (iz := 1) (i := 4) (d := (some 61)) (k := 14) K rfl K K K K ab8 rfl e7 e8 ?_
      exact ⟨rfl, _, Qa hkn, ⟨c, 0, rfl, rfl⟩⟩
     ·rintro ρ' w' hs hah ⟨⟨an7, -⟩, ab9⟩
      refine kM (kc (kS hs 7 (pt c 0)) k0) fun hkn => ?_
      refine Qg (e := (Qc .u32)) (l := f) (m := 8) (g := c) (T := 128) (E := 111) (x := (.tmp 7)) (ix := (.const (.int .i64 (1)))) (ki := .i64) (iz := 1) (i := 4) (d := (some 61)) (k := 14) K rfl K K K K ab9 rfl e7 e8 ?_
      exact ⟨rfl, _, Qa hkn, ⟨c, 0, rfl, rfl⟩⟩
    ·refine Owe.light K [0, 1] K (Qd ?_ (Qd ?_ Q4))
     ·rintro ρ' w' hs hah ⟨an8, ac0⟩
      obtain ⟨ac1, ac2, ac3, h7⟩ := hah 14 61 K
      refine kM (kc h7 k0) fun hkn => ?_
      refine sC 111 61 ac1 (ac2 + Int.toNat 1 * (Qc .u32).sz) (.int .u32 a9) 62 (Qh (e := (Qc .u32)) (Qe (Qu (SP.get ac0 (i := 4) rfl)) ac3 e7 e8) k4 (j := 0) rfl) ?_
      exact eK hkn
     ·rintro ρ' w' hs hah ⟨⟨an9, -⟩, ac4⟩
      obtain ⟨ac5, ac6, ac7, h7⟩ := hah 14 61 K
      refine kM (kc h7 k0) fun hkn => ?_
      refine sC 111 61 ac5 (ac6 + Int.toNat 1 * (Qc .u32).sz) (.int .u32 a9) 62 (Qh (e := (Qc .u32)) (Qe (Qu (SP.get ac4 (i := 4) rfl)) ac7 e7 e8) k4 (j := 0) rfl) ?_
      exact eK hkn
    ·refine Owe.light K [0, 1] K (Qd ?_ (Qd ?_ Q4))
     ·rintro ρ' w' hs hah ⟨ao0, ac8⟩
      refine kM (kc (kS hs 7 (pt c 0)) k0) fun hkn => ?_
      refine Qg (e := (Qc .u32)) (l := f) (m := 8) (g := c) (T := 128) (E := 111) (x := (.tmp 7)) (ix := (.const (.int .i64 (2)))) (ki := .i64) (iz := 2) (i := 4) (d := (some 63)) (k := 16) K rfl K K K K ac8 rfl e9 f0 ?_
      exact ⟨rfl, _, Qa hkn, ⟨c, 0, rfl, rfl⟩⟩
     ·rintro ρ' w' hs hah ⟨⟨ao1, -⟩, ac9⟩
      refine kM (kc (kS hs 7 (pt c 0)) k0) fun hkn => ?_
      refine Qg (e := (Qc .u32)) (l := f) (m := 8) (g := c) (T := 128) (E := 111) (x := (.tmp 7)) (ix := (.const (.int .i64 (2)))) (ki := .i64) (iz := 2) (i := 4) (d := (some 63)) (k := 16) K rfl K K K K ac9 rfl e9 f0 ?_
      exact ⟨rfl, _, Qa hkn, ⟨c, 0, rfl, rfl⟩⟩
    ·refine Owe.light K [0, 1] K (Qd ?_ (Qd ?_ Q4))
     ·rintro ρ' w' hs hah ⟨ao2, ad0⟩
      obtain ⟨ad1, ad2, ad3, h8⟩ := hah 16 63 K
      refine kM (kc h8 k0) fun hkn => ?_
      refine sC 111 63 ad1 (ad2 + Int.toNat 2 * (Qc .u32).sz) (.int .u32 b0) 64 (Qh (e := (Qc .u32)) (Qe (Qu (SP.get ad0 (i := 4) rfl)) ad3 e9 f0) k5 (j := 0) rfl) ?_
      exact eK hkn
     ·rintro ρ' w' hs hah ⟨⟨ao3, -⟩, ad4⟩
      obtain ⟨ad5, ad6, ad7, h8⟩ := hah 16 63 K
      refine kM (kc h8 k0) fun hkn => ?_
      refine sC 111 63 ad5 (ad6 + Int.toNat 2 * (Qc .u32).sz) (.int .u32 b0) 64 (Qh (e := (Qc .u32)) (Qe (Qu (SP.get ad4 (i := 4) rfl)) ad7 e9 f0) k5 (j := 0) rfl) ?_
      exact eK hkn
    ·exact oV (hC (hA 15 62) (hC (hA 17 64) (h0))) (.int .u32 (V7 .u32 a9 b0))
    ·exact oV (hC (hA 13 60) (hC (hA 18 65) (h0))) (.int .u32 (V0 .u32 (V0 .u32 (V7 .u32 a5 a6) (V7 .u32 a7 a8)) (V7 .u32 a9 b0)))
    ·exact oV (hC (hA 2 49) (hC (hA 19 66) (h0))) (.int .u32 (IntKind.wrap .u32 (b8 + (V0 .u32 (V0 .u32 (V7 .u32 a5 a6) (V7 .u32 a7 a8)) (V7 .u32 a9 b0)))))
    ·exact oV (hC (hA 20 67) (h0)) (.int .u32 (IntKind.wrap .u32 (b8 + (V0 .u32 (V0 .u32 (V7 .u32 a5 a6) (V7 .u32 a7 a8)) (V7 .u32 a9 b0)))))
    ·rintro ρ' w' hs hf ⟨⟨ao4, -⟩, b1⟩
     refine Vh [(2, (pt g7 0)), (4, (pt b4 0)), (5, (pt b2 0)), (6, (pt b3 0)), (7, (pt c 0)), (8, (.int .i64 p)), (9, (.int .u32 (IntKind.wrap .u32 ((IntKind.wrap .u32 ((IntKind.wrap .u32 ((IntKind.wrap .u32 (a1 + a2)) + (V0 .u32 (V7 .u32 s u) (V7 .u32 (V0 .u32 (IntKind.max .u32) q) a0)))) + a3)) + a4)))), (10, (.int .u32 (IntKind.wrap .u32 (b8 + (V0 .u32 (V0 .u32 (V7 .u32 a5 a6) (V7 .u32 a7 a8)) (V7 .u32 a9 b0))))))] ⟨(hs 2 K).trans K, (hs 4 K).trans K, (hs 5 K).trans K, (hs 6 K).trans K, (hs 7 K).trans K, (hs 8 K).trans K, (hs 9 K).trans K, hf 21 10 K, trivial⟩ ?_
     obtain ⟨ao5, ad8⟩ : ∃ x, w' = x := ⟨_, rfl⟩
     rw [ad8] at b1 ⊢
     refine aR ?_
     refine iR 3 3 [(68, (.int .u32 (IntKind.wrap .u32 ((IntKind.wrap .u32 ((IntKind.wrap .u32 ((IntKind.wrap .u32 (a1 + a2)) + (V0 .u32 (V7 .u32 s u) (V7 .u32 (V0 .u32 (IntKind.max .u32) q) a0)))) + a3)) + a4)))), (69, (.int .u32 (IntKind.wrap .u32 (b8 + (V0 .u32 (V0 .u32 (V7 .u32 a5 a6) (V7 .u32 a7 a8)) (V7 .u32 a9 b0)))))), (70, (.int .u32 (IntKind.wrap .u32 ((IntKind.wrap .u32 ((IntKind.wrap .u32 ((IntKind.wrap .u32 ((IntKind.wrap .u32 (a1 + a2)) + (V0 .u32 (V7 .u32 s u) (V7 .u32 (V0 .u32 (IntKind.max .u32) q) a0)))) + a3)) + a4)) + (IntKind.wrap .u32 (b8 + (V0 .u32 (V0 .u32 (V7 .u32 a5 a6) (V7 .u32 a7 a8)) (V7 .u32 a9 b0))))))))] ?_
     obtain ⟨f1, k7, k8, ad9, H⟩ := Qn H
     refine iS 4 ?_
     refine Qg (e := (Qc .u32)) (l := f) (m := 8) (g := c) (T := 128) (E := 111) (x := (.tmp 7)) (ix := (.const (.int .i64 (0)))) (ki := .i64) (iz := 0) (i := 4) (d := (some 71)) (k := 3) K rfl K K K K b1 rfl k7 k8 ?_
     refine iS 5 ?_
     refine sC 111 71 c (0 + Int.toNat 0 * (Qc .u32).sz) (.int .u32 f1) 72 (Qh (e := (Qc .u32)) (Qe (Qu (SP.get b1 (i := 4) rfl)) rfl k7 k8) ad9 (j := 0) rfl) ?_
     obtain ⟨f2, k9, l0, ae0, H⟩ := Qn H
     refine iS 6 ?_
     refine Qg (e := (Qc .u32)) (l := f) (m := 8) (g := c) (T := 128) (E := 111) (x := (.tmp 7)) (ix := (.const (.int .i64 (1)))) (ki := .i64) (iz := 1) (i := 4) (d := (some 73)) (k := 5) K rfl K K K K b1 rfl k9 l0 ?_
     refine iS 7 ?_
     refine sC 111 73 c (0 + Int.toNat 1 * (Qc .u32).sz) (.int .u32 f2) 74 (Qh (e := (Qc .u32)) (Qe (Qu (SP.get b1 (i := 4) rfl)) rfl k9 l0) ae0 (j := 0) rfl) ?_
     obtain ⟨f3, l1, l2, ae1, H⟩ := Qn H
     refine iS 8 ?_
     refine Qg (e := (Qc .u32)) (l := f) (m := 8) (g := c) (T := 128) (E := 111) (x := (.tmp 7)) (ix := (.const (.int .i64 (2)))) (ki := .i64) (iz := 2) (i := 4) (d := (some 75)) (k := 7) K rfl K K K K b1 rfl l1 l2 ?_
     refine iS 9 ?_
     refine sC 111 75 c (0 + Int.toNat 2 * (Qc .u32).sz) (.int .u32 f3) 76 (Qh (e := (Qc .u32)) (Qe (Qu (SP.get b1 (i := 4) rfl)) rfl l1 l2) ae1 (j := 0) rfl) ?_
     obtain ⟨c3, l3, l4, ae2, H⟩ := Qn H
     refine iS 10 ?_
     refine Qg (e := (Qc .u32)) (l := f) (m := 8) (g := c) (T := 128) (E := 111) (x := (.tmp 7)) (ix := (.const (.int .i64 (3)))) (ki := .i64) (iz := 3) (i := 4) (d := (some 77)) (k := 9) K rfl K K K K b1 rfl l3 l4 ?_
     refine iS 11 ?_
     refine sC 111 77 c (0 + Int.toNat 3 * (Qc .u32).sz) (.int .u32 c3) 78 (Qh (e := (Qc .u32)) (Qe (Qu (SP.get b1 (i := 4) rfl)) rfl l3 l4) ae2 (j := 0) rfl) ?_
     refine iR 2 13 [(79, (.int .u32 (IntKind.wrap .u32 ((IntKind.wrap .u32 ((IntKind.wrap .u32 ((IntKind.wrap .u32 (a1 + a2)) + (V0 .u32 (V7 .u32 s u) (V7 .u32 (V0 .u32 (IntKind.max .u32) q) a0)))) + a3)) + a4)))), (80, (.int .u32 (IntKind.wrap .u32 (c3 + (IntKind.wrap .u32 ((IntKind.wrap .u32 ((IntKind.wrap .u32 ((IntKind.wrap .u32 (a1 + a2)) + (V0 .u32 (V7 .u32 s u) (V7 .u32 (V0 .u32 (IntKind.max .u32) q) a0)))) + a3)) + a4))))))] ?_
     obtain ⟨f6, l5, l6, ae3, H⟩ := Qn H
     refine iS 14 ?_
     refine Qg (e := (Qc .u32)) (l := f) (m := 8) (g := c) (T := 128) (E := 111) (x := (.tmp 7)) (ix := (.const (.int .i64 (4)))) (ki := .i64) (iz := 4) (i := 4) (d := (some 81)) (k := 13) K rfl K K K K b1 rfl l5 l6 ?_
     refine iS 15 ?_
     refine sC 111 81 c (0 + Int.toNat 4 * (Qc .u32).sz) (.int .u32 f6) 82 (Qh (e := (Qc .u32)) (Qe (Qu (SP.get b1 (i := 4) rfl)) rfl l5 l6) ae3 (j := 0) rfl) ?_
     obtain ⟨f7, l7, l8, ae4, H⟩ := Qn H
     refine iS 16 ?_
     refine Qg (e := (Qc .u32)) (l := f) (m := 8) (g := c) (T := 128) (E := 111) (x := (.tmp 7)) (ix := (.const (.int .i64 (5)))) (ki := .i64) (iz := 5) (i := 4) (d := (some 83)) (k := 15) K rfl K K K K b1 rfl l7 l8 ?_
     refine iS 17 ?_
     refine sC 111 83 c (0 + Int.toNat 5 * (Qc .u32).sz) (.int .u32 f7) 84 (Qh (e := (Qc .u32)) (Qe (Qu (SP.get b1 (i := 4) rfl)) rfl l7 l8) ae4 (j := 0) rfl) ?_
     obtain ⟨f8, l9, m0, ae5, H⟩ := Qn H
     refine iS 18 ?_
     refine Qg (e := (Qc .u32)) (l := f) (m := 8) (g := c) (T := 128) (E := 111) (x := (.tmp 7)) (ix := (.const (.int .i64 (6)))) (ki := .i64) (iz := 6) (i := 4) (d := (some 85)) (k := 17) K rfl K K K K b1 rfl l9 m0 ?_
     refine iS 19 ?_
     refine sC 111 85 c (0 + Int.toNat 6 * (Qc .u32).sz) (.int .u32 f8) 86 (Qh (e := (Qc .u32)) (Qe (Qu (SP.get b1 (i := 4) rfl)) rfl l9 m0) ae5 (j := 0) rfl) ?_
     refine iR 1 20 [(87, (.agg (Qb (Qc .u32) ([(IntKind.wrap .u32 ((IntKind.wrap .u32 ((IntKind.wrap .u32 ((IntKind.wrap .u32 ((IntKind.wrap .u32 (a1 + a2)) + (V0 .u32 (V7 .u32 s u) (V7 .u32 (V0 .u32 (IntKind.max .u32) q) a0)))) + a3)) + a4)) + (IntKind.wrap .u32 (b8 + (V0 .u32 (V0 .u32 (V7 .u32 a5 a6) (V7 .u32 a7 a8)) (V7 .u32 a9 b0)))))), f1, f2, f3, (IntKind.wrap .u32 (c3 + (IntKind.wrap .u32 ((IntKind.wrap .u32 ((IntKind.wrap .u32 ((IntKind.wrap .u32 (a1 + a2)) + (V0 .u32 (V7 .u32 s u) (V7 .u32 (V0 .u32 (IntKind.max .u32) q) a0)))) + a3)) + a4)))), f6, f7, f8] : List Int)).toArray))] ?_
     refine iS 21 ?_
     refine Q8 (e := (Qc .u32)) (l := f) (l' := ([(IntKind.wrap .u32 ((IntKind.wrap .u32 ((IntKind.wrap .u32 ((IntKind.wrap .u32 ((IntKind.wrap .u32 (a1 + a2)) + (V0 .u32 (V7 .u32 s u) (V7 .u32 (V0 .u32 (IntKind.max .u32) q) a0)))) + a3)) + a4)) + (IntKind.wrap .u32 (b8 + (V0 .u32 (V0 .u32 (V7 .u32 a5 a6) (V7 .u32 a7 a8)) (V7 .u32 a9 b0)))))), f1, f2, f3, (IntKind.wrap .u32 (c3 + (IntKind.wrap .u32 ((IntKind.wrap .u32 ((IntKind.wrap .u32 ((IntKind.wrap .u32 (a1 + a2)) + (V0 .u32 (V7 .u32 s u) (V7 .u32 (V0 .u32 (IntKind.max .u32) q) a0)))) + a3)) + a4)))), f6, f7, f8] : List Int)) (m := 8) (t := 128) (x := (.tmp 7)) (y := (.tmp 87)) (g := c) (i := 4) (d := none) (k := 20) K rfl K K rfl b1 rfl K ?_
     intro ao6 ae6
     refine iF ?_
     refine aR ?_
     refine iR 3 3 [(18, (.int .i64 p)), (19, (.int .i64 (IntKind.wrap .i64 (p + 1)))), (8, (.int .i64 (IntKind.wrap .i64 (p + 1))))] ?_
     refine iF ?_
     exact ⟨([(IntKind.wrap .u32 ((IntKind.wrap .u32 ((IntKind.wrap .u32 ((IntKind.wrap .u32 ((IntKind.wrap .u32 (a1 + a2)) + (V0 .u32 (V7 .u32 s u) (V7 .u32 (V0 .u32 (IntKind.max .u32) q) a0)))) + a3)) + a4)) + (IntKind.wrap .u32 (b8 + (V0 .u32 (V0 .u32 (V7 .u32 a5 a6) (V7 .u32 a7 a8)) (V7 .u32 a9 b0)))))), f1, f2, f3, (IntKind.wrap .u32 (c3 + (IntKind.wrap .u32 ((IntKind.wrap .u32 ((IntKind.wrap .u32 ((IntKind.wrap .u32 (a1 + a2)) + (V0 .u32 (V7 .u32 s u) (V7 .u32 (V0 .u32 (IntKind.max .u32) q) a0)))) + a3)) + a4)))), f6, f7, f8] : List Int), (IntKind.wrap .i64 (p + 1)), ⟨K, K, K, K, K, K, trivial⟩, SP.sel ae6 [0, 1, 2, 3, 4] rfl rfl, H⟩
  ·have H := cf H g1
   refine At.exit K (id := 0) K ?_
   refine aQ ?_
   refine aQ ?_
   refine aR ?_
   refine iR 1 1 [(11, (.int .i64 0))] ?_
   refine iF ?_
   refine Zj K (id := 2) K ?_
   refine Jk K (fun f5 ρ w => ∃ (b5 : (List Int)) (h : Int), V8 ρ [(2, (pt g7 0)), (4, (pt b4 0)), (7, (pt c 0)), (11, (.int .i64 h))] ∧ SP [] w0 w [Vc 128 (Qc .u32) g7 8 b5, Vc 128 (Qc .u32) b4 8 (List.replicate 8 0), Vc 128 (Qc .u32) c 8 f] ∧ X8 (Zn p1 b6 b7 f4) f f5 b5 h = some r) (by rintro ρ w ⟨b5, h, hk, hs, H⟩; cases H) ?_ Z0 ?_
   ·rintro f5 ρ ao7 ⟨b5, h, hk, c0, H⟩
    refine At.known [(2, (pt g7 0)), (4, (pt b4 0)), (7, (pt c 0)), (11, (.int .i64 h))] hk ?_
    replace H := (show Jn (Zn p1 b6 b7 f4) (X8 (Zn p1 b6 b7 f4) f f5) f b5 h = some r from H)
    unfold Jn at H
    have ae7 := Q5 (SP.get c0 (i := 0) rfl)
    have ao8 := Q5 (SP.get c0 (i := 1) rfl)
    have ao9 := Q5 (SP.get c0 (i := 2) rfl)
    refine aQ ?_
    refine aQ ?_
    refine aR ?_
    refine iR 2 2 [(88, (.int .i64 h)), (89, (.bool (decide (h < 8))))] ?_
    refine iF ?_
    refine Zi K (o := (.tmp 89)) K (b := (decide (h < 8))) K (fun h9 => ?_) (fun h9 => ?_)
    ·have H := ct H h9
     refine At.skip K ?_
     refine aQ ?_
     refine Zj K (id := 3) K ?_
     obtain ⟨c1, m1, m2, ae8, H⟩ := Qn H
     obtain ⟨c2, m3, m4, ae9, H⟩ := Qn H
     obtain ⟨ap0, m5, m6, ap1, H⟩ := Qn H
     obtain ⟨i0, hyl2347, H⟩ := Vz H
     have hnl2347 : List.length i0 = List.length b5 := by rw [← hyl2347, List.length_set]
     refine aG [GEq (.int .i64 h), GEq (.int .i64 h), Vs (some ⟨g7, 0, none⟩) (Qc .u32).sz h, GEq (.int .u32 c1), GEq (.int .i64 h), Vs (some ⟨c, 0, none⟩) (Qc .u32).sz h, GEq (.int .u32 c2), GEq (.int .u32 (IntKind.wrap .u32 (c1 + c2))), Vs (some ⟨g7, 0, none⟩) (Qc .u32).sz h, Bq] [9] [sG [] [] [] w0 [Vc 128 (Qc .u32) g7 8 b5, Vc 128 (Qc .u32) b4 8 (List.replicate 8 0), Vc 128 (Qc .u32) c 8 f], sG [9] [undef] [] w0 [Vc 128 (Qc .u32) g7 8 i0, Vc 128 (Qc .u32) b4 8 (List.replicate 8 0), Vc 128 (Qc .u32) c 8 f]] 10 1 ⟨trivial, SP.drew c0⟩ ?_ ?_
     iterate 10 refine And.intro ?_ ?_
     exact trivial
     ·exact oV (hC (hS 11 (.int .i64 h)) (h0)) (.int .i64 h)
     ·exact oV (hC (hS 11 (.int .i64 h)) (h0)) (.int .i64 h)
     ·refine oL 0 ?_
      ·rintro ρ' w' hs hah ⟨ap2, af0⟩
       refine kM (kc (kS hs 2 (pt g7 0)) (kc (kA hah 1 93) k0)) fun hkn => ?_
       refine Qg (e := (Qc .u32)) (l := b5) (m := 8) (g := g7) (T := 128) (E := 111) (x := (.tmp 2)) (ix := (.tmp 93)) (ki := .i64) (iz := h) (i := 0) (d := (some 94)) (k := 2) K rfl K K K K af0 rfl m1 m2 ?_
       exact ⟨rfl, _, Qa hkn, ⟨g7, 0, rfl, rfl⟩⟩
     ·refine oL 0 ?_
      ·rintro ρ' w' hs hah ⟨ap3, af1⟩
       obtain ⟨af2, af3, af4, e94⟩ := hah 2 94 K
       refine kM (kc e94 k0) fun hkn => ?_
       refine sC 111 94 af2 (af3 + Int.toNat h * (Qc .u32).sz) (.int .u32 c1) 95 (Qh (e := (Qc .u32)) (Qe (Qu (SP.get af1 (i := 0) rfl)) af4 m1 m2) ae8 (j := 0) rfl) ?_
       exact eK hkn
     ·exact oV (hC (hS 11 (.int .i64 h)) (h0)) (.int .i64 h)
     ·refine oL 0 ?_
      ·rintro ρ' w' hs hah ⟨ap4, af6⟩
       refine kM (kc (kS hs 7 (pt c 0)) (kc (kA hah 4 96) k0)) fun hkn => ?_
       refine Qg (e := (Qc .u32)) (l := f) (m := 8) (g := c) (T := 128) (E := 111) (x := (.tmp 7)) (ix := (.tmp 96)) (ki := .i64) (iz := h) (i := 2) (d := (some 97)) (k := 5) K rfl K K K K af6 rfl m3 m4 ?_
       exact ⟨rfl, _, Qa hkn, ⟨c, 0, rfl, rfl⟩⟩
     ·refine oL 0 ?_
      ·rintro ρ' w' hs hah ⟨ap5, af7⟩
       obtain ⟨af8, af9, ag0, e97⟩ := hah 5 97 K
       refine kM (kc e97 k0) fun hkn => ?_
       refine sC 111 97 af8 (af9 + Int.toNat h * (Qc .u32).sz) (.int .u32 c2) 98 (Qh (e := (Qc .u32)) (Qe (Qu (SP.get af7 (i := 2) rfl)) ag0 m3 m4) ae9 (j := 0) rfl) ?_
       exact eK hkn
     ·exact oV (hC (hA 3 95) (hC (hA 6 98) (h0))) (.int .u32 (IntKind.wrap .u32 (c1 + c2)))
     ·refine oL 0 ?_
      ·rintro ρ' w' hs hah ⟨ap6, ag2⟩
       refine kM (kc (kS hs 2 (pt g7 0)) (kc (kA hah 0 92) k0)) fun hkn => ?_
       refine Qg (e := (Qc .u32)) (l := b5) (m := 8) (g := g7) (T := 128) (E := 111) (x := (.tmp 2)) (ix := (.tmp 92)) (ki := .i64) (iz := h) (i := 0) (d := (some 100)) (k := 8) K rfl K K K K ag2 rfl m5 m6 ?_
       exact ⟨rfl, _, Qa hkn, ⟨g7, 0, rfl, rfl⟩⟩
     ·refine oH 0 1 ?_
      ·rintro ρ' w' hs hah ⟨ap7, ag3⟩
       obtain ⟨ag4, ag5, ag6, ag7⟩ := hah 8 100 K
       refine kM (kc ag7 (kc (kA hah 7 99) k0)) fun hkn => ?_
       refine V9 (e := (Qc .u32)) (t := 111) (x := (.tmp 100)) (y := (.tmp 99)) (l := b5) (iz := h) (m := 8) (g := g7) (b := ag4) (off := ag5) (i := 0) (v := (.int .u32 (IntKind.wrap .u32 (c1 + c2)))) (x' := (IntKind.wrap .u32 (c1 + c2))) (d := none) (k := 9) K rfl ag6 K K ag3 rfl rfl m6 m5 rfl K ?_
       rw [hyl2347]
       intro ap8 ag8
       refine ⟨_, Qa hkn, trivial, ?_⟩
       exact (And.intro (And.intro rfl (trivial)) (ag8))
     ·rintro ρ' w' hs hf ⟨⟨ap9, -⟩, m7⟩
      refine Vh [(2, (pt g7 0)), (4, (pt b4 0)), (7, (pt c 0)), (11, (.int .i64 h))] ⟨(hs 2 K).trans K, (hs 4 K).trans K, (hs 7 K).trans K, (hs 11 K).trans K, trivial⟩ ?_
      obtain ⟨aq0, ag9⟩ : ∃ x, w' = x := ⟨_, rfl⟩
      rw [ag9] at m7 ⊢
      refine aR ?_
      refine iR 3 3 [(90, (.int .i64 h)), (91, (.int .i64 (IntKind.wrap .i64 (h + 1)))), (11, (.int .i64 (IntKind.wrap .i64 (h + 1))))] ?_
      refine iF ?_
      exact ⟨i0, (IntKind.wrap .i64 (h + 1)), ⟨K, K, K, K, trivial⟩, SP.sel m7 [0, 1, 2] rfl rfl, H⟩
    ·have H := cf H h9
     refine At.exit K (id := 2) K ?_
     refine aQ ?_
     refine aR ?_
     refine iS 1 ?_
     refine V3 (e := (Qc .u32)) (l := b5) (m := 8) (t := 128) (x := (.tmp 2)) (g := g7) (i := 0) (d := (some 101)) (k := 0) K rfl K c0 rfl K K ?_
     refine iS 2 ?_
     refine Q8 (e := (Qc .u32)) (l := (List.replicate 8 0)) (l' := b5) (m := 8) (t := 128) (x := (.tmp 4)) (y := (.tmp 101)) (g := b4) (i := 1) (d := none) (k := 1) K rfl K K ae7 c0 rfl K ?_
     intro aq1 m8
     refine iF ?_
     refine At.ret K ?_
     refine ⟨(.agg (Qb (Qc .u32) b5).toArray), Bc K (J7 (e := (Qc .u32)) (l := b5) (a := 4) (t := 128) K (SP.get m8 (i := 1) rfl) K K), ?_⟩
     obtain rfl := Qm H
     exact ⟨rfl, SP.sel m8 [] rfl rfl⟩
   ·exact ⟨p1, 0, ⟨K, K, K, K, trivial⟩, SP.sel b9 [0, 1, 4] rfl rfl, H⟩
 ·exact ⟨p1, 0, ⟨K, K, K, K, K, K, trivial⟩, SP.sel o2 [0, 1, 2, 3, 4] rfl rfl, H⟩
def Jy (g : (List UInt8) → Option ((List UInt8))) (h : (List UInt8) → Int → Option ((List UInt8))) (i : (List Int) → Int → Option ((List UInt8))) (c : (List UInt8) → Int → Option ((List UInt8))) (d : (List Int)) (b : (List UInt8)) (a : Int) : Option ((List UInt8)) :=
  (cond (decide (a < 32)) ((idx d (IntKind.wrap .i64 (Int.tdiv a 4))).bind fun e => ((chk (decide (0 ≤ (IntKind.wrap .i64 (24 - (IntKind.wrap .i64 (8 * (Int.tmod a 4)))))))).bind fun _ => ((idx b a).bind fun j => ((some (List.set b (Int.toNat a) (Rx (IntKind.wrap .u8 (J4 .u32 e (IntKind.wrap .i64 (24 - (IntKind.wrap .i64 (8 * (Int.tmod a 4)))))))))).bind fun f => (c f (IntKind.wrap .i64 (a + 1))))))) (some (b)))
def Yl (a : (List UInt8) → Option ((List UInt8))) (b : (List UInt8) → Int → Option ((List UInt8))) (c : (List Int) → Int → Option ((List UInt8))) (d : (List Int)) : Nat → (List UInt8) → Int → Option ((List UInt8))
  | 0, _, _ => none
  | f + 1, e, g => Jy a b c (Yl a b c d f) d e g
def Jz (f : (List UInt8) → Option ((List UInt8))) (g : (List UInt8) → Int → Option ((List UInt8))) (b : (List Int) → Int → Option ((List UInt8))) (c : (List UInt8)) (d : (List Int)) (a : Int) : Option ((List UInt8)) :=
  (cond (decide (a < ((List.length c : Nat) : Int))) ((sub c a (IntKind.wrap .i64 (a + 64))).bind fun h => ((Uz d h).bind fun e => ((chk (Nat.beq (List.length e) 8)).bind fun _ => (b e (IntKind.wrap .i64 (a + 64)))))) (Yl f g b d Z0 (List.replicate 32 (0 : UInt8)) 0))
def Zr (a : (List UInt8) → Option ((List UInt8))) (b : (List UInt8) → Int → Option ((List UInt8))) (c : (List UInt8)) : Nat → (List Int) → Int → Option ((List UInt8))
  | 0, _, _ => none
  | f + 1, d, e => Jz a b (Zr a b c f) c d e
def J0 (d : (List UInt8) → Option ((List UInt8))) (b : (List UInt8) → Int → Option ((List UInt8))) (p1 : (List UInt8)) (c : (List UInt8)) (a : Int) : Option ((List UInt8)) :=
  (cond (decide (a ≥ 0)) ((chk (decide (0 ≤ (IntKind.wrap .i64 (8 * a))))).bind fun _ => ((app c ([(Rx (IntKind.wrap .u8 (J4 .i64 (IntKind.wrap .i64 (8 * ((List.length p1 : Nat) : Int))) (IntKind.wrap .i64 (8 * a)))))] : List UInt8)).bind fun e => (b e (IntKind.wrap .i64 (a - 1))))) (Zr d b c Z0 ([1779033703, 3144134277, 1013904242, 2773480762, 1359893119, 2600822924, 528734635, 1541459225] : List Int) 0))
def Vb (a : (List UInt8) → Option ((List UInt8))) (p1 : (List UInt8)) : Nat → (List UInt8) → Int → Option ((List UInt8))
  | 0, _, _ => none
  | f + 1, b, c => J0 a (Vb a p1 f) p1 b c
def J1 (b : (List UInt8) → Option ((List UInt8))) (p1 : (List UInt8)) (a : (List UInt8)) : Option ((List UInt8)) :=
  (cond ((Int.tmod ((List.length a : Nat) : Int) 64) != 56) ((app a ([(0 : UInt8)] : List UInt8)).bind fun c => (b c)) (Vb b p1 Z0 a 7))
def Qr (p1 : (List UInt8)) : Nat → (List UInt8) → Option ((List UInt8))
  | 0, _ => none
  | f + 1, a => J1  (Qr p1 f) p1 a
def Yy (p1 : (List UInt8)) : Option ((List UInt8)) :=
  ((app ([] : List UInt8) p1).bind fun a => ((app a ([(128 : UInt8)] : List UInt8)).bind fun b => (Qr p1 Z0 b)))
set_option maxRecDepth 100000 in
set_option maxHeartbeats 4000000 in
theorem Jp (A2 : Option Addr) (c3 : Nat) (p1 : (List UInt8)) (w0 : World) (f3 : RdT eU8 w0 A2 c3 p1) (r : ((List UInt8))) (H : Yy p1 = some r) :
  Calls Tryz.prog 72 #[(.slice A2 (List.length p1) c3)] w0 (fun e w' => e = .returned (.agg (Qb eU8 r).toArray) ∧ SP [] w0 w' []) := by
 unfold Yy at H
 refine Qv (n := 68) Tryz.func72 K K K ?_
 have f4 := Q1 [] w0
 refine aQ ?_
 refine aR ?_
 refine iS 1 ?_
 refine Qz (e := eU8) (l := (List.replicate 32 (0 : UInt8))) (m := 32) (t := 89) (z := .agg (Qb eU8 (List.replicate 32 (0 : UInt8))).toArray) (d := (some 2)) (k := 0) K rfl K rfl rfl K f4 ?_
 intro g5 w6 f5
 refine iF ?_
 refine aQ ?_
 refine aR ?_
 refine iS 1 ?_
 refine V1 (e := eU8) (T := 52) (E := 5) (len := 0) (parts := #[]) (cs := #[]) ([] : List UInt8) (d := (some 10)) (k := 0) K rfl (fun _ => K) f5 rfl rfl rfl rfl ?_
 intro g9 i2 c6
 refine iR 1 2 [(11, (.slice A2 (List.length p1) c3))] ?_
 obtain ⟨hl13, H⟩ := Xw H
 obtain ⟨c7, hyl14⟩ : ∃ y, ([] : List UInt8) ++ p1 = y := ⟨_, rfl⟩
 rw [hyl14] at H
 refine iS 3 ?_
 refine Qj.append (e := eU8) (l := ([] : List UInt8)) (m := p1) (A := (some ⟨g9, 0, none⟩)) (c := (List.length ([] : List UInt8))) (T := 52) (TX := 52) (E := 5) (b := 1) (s := (.tmp 10)) (x := (.tmp 11)) (i := 1) (vx := (.slice A2 (List.length p1) c3)) (d := (some 12)) (k := 2) K rfl K K K K rfl c6 rfl (Uw (E := 5) K (RdT.sp f3 c6)) hl13 ?_
 rw [hyl14]
 intro f6 f7 i3 f8
 refine iS 4 ?_
 refine V1 (e := eU8) (T := 52) (E := 5) (len := 1) (parts := #[(0, (.const (.int .u8 (128))))]) (cs := #[(.int .u8 128)]) ([(128 : UInt8)] : List UInt8) (d := (some 13)) (k := 3) K rfl (fun _ => K) f8 (Y0 (Or.inl rfl) rfl) rfl rfl rfl ?_
 intro f9 i4 c8
 obtain ⟨hl24, H⟩ := Xw H
 obtain ⟨c9, hyl25⟩ : ∃ y, c7 ++ ([(128 : UInt8)] : List UInt8) = y := ⟨_, rfl⟩
 rw [hyl25] at H
 refine iS 5 ?_
 refine Qj.append (e := eU8) (l := c7) (m := ([(128 : UInt8)] : List UInt8)) (A := f6) (c := f7) (T := 52) (TX := 52) (E := 5) (b := 1) (s := (.tmp 12)) (x := (.tmp 13)) (i := 1) (vx := (.slice (some ⟨f9, 0, none⟩) (List.length ([(128 : UInt8)] : List UInt8)) (List.length ([(128 : UInt8)] : List UInt8)))) (d := (some 14)) (k := 4) K rfl K K K K rfl c8 rfl (Uw (E := 5) K (Vf (SP.get c8 (i := 2) rfl))) hl24 ?_
 rw [hyl25]
 intro d0 d1 i5 g0
 refine iR 1 6 [(3, (.slice d0 (List.length c9) d1))] ?_
 refine iF ?_
 refine aQ ?_
 refine Zj K (id := 0) K ?_
 refine Jk K (fun u ρ w => ∃ (a4 : (List UInt8)) (a8 : Option Addr) (a9 : Nat), V8 ρ [(0, (.slice A2 (List.length p1) c3)), (2, (pt g5 0)), (3, (.slice a8 (List.length a4) a9))] ∧ SP [] w0 w [Vc 89 eU8 g5 32 (List.replicate 32 (0 : UInt8)), Xu 5 eU8 a8 a9 a4] ∧ Qr p1 u a4 = some r) (by rintro ρ w ⟨a4, a8, a9, hk, hs, H⟩; cases H) ?_ Z0 ?_
 ·rintro u ρ i6 ⟨a4, a8, a9, hk, b6, H⟩
  refine At.known [(0, (.slice A2 (List.length p1) c3)), (2, (pt g5 0)), (3, (.slice a8 (List.length a4) a9))] hk ?_
  replace H := (show J1 (Qr p1 u) p1 a4 = some r from H)
  unfold J1 at H
  have i7 := Q5 (SP.get b6 (i := 0) rfl)
  refine aQ ?_
  refine aQ ?_
  refine aR ?_
  refine iR 4 4 [(15, (.slice a8 (List.length a4) a9)), (16, (.int .i64 ((List.length a4 : Nat) : Int))), (17, (.int .i64 (Int.tmod ((List.length a4 : Nat) : Int) 64))), (18, (.bool ((Int.tmod ((List.length a4 : Nat) : Int) 64) != 56)))] ?_
  refine iF ?_
  refine Zi K (o := (.tmp 18)) K (b := ((Int.tmod ((List.length a4 : Nat) : Int) 64) != 56)) K (fun b7 => ?_) (fun b7 => ?_)
  ·have H := ct H b7
   refine At.skip K ?_
   refine Zj K (id := 1) K ?_
   refine aR ?_
   refine iR 1 1 [(19, (.slice a8 (List.length a4) a9))] ?_
   refine iS 2 ?_
   refine V1 (e := eU8) (T := 52) (E := 5) (len := 1) (parts := #[(0, (.const (.int .u8 (0))))]) (cs := #[(.int .u8 0)]) ([(0 : UInt8)] : List UInt8) (d := (some 20)) (k := 1) K rfl (fun _ => K) b6 (Y0 (Or.inl rfl) rfl) rfl rfl rfl ?_
   intro g1 i8 d2
   obtain ⟨hl7185, H⟩ := Xw H
   obtain ⟨d3, hyl7186⟩ : ∃ y, a4 ++ ([(0 : UInt8)] : List UInt8) = y := ⟨_, rfl⟩
   rw [hyl7186] at H
   refine iS 3 ?_
   refine Qj.append (e := eU8) (l := a4) (m := ([(0 : UInt8)] : List UInt8)) (A := a8) (c := a9) (T := 52) (TX := 52) (E := 5) (b := 1) (s := (.tmp 19)) (x := (.tmp 20)) (i := 1) (vx := (.slice (some ⟨g1, 0, none⟩) (List.length ([(0 : UInt8)] : List UInt8)) (List.length ([(0 : UInt8)] : List UInt8)))) (d := (some 21)) (k := 2) K rfl K K K K rfl d2 rfl (Uw (E := 5) K (Vf (SP.get d2 (i := 2) rfl))) hl7185 ?_
   rw [hyl7186]
   intro d4 d5 i9 g2
   refine iR 1 4 [(3, (.slice d4 (List.length d3) d5))] ?_
   refine iF ?_
   exact ⟨d3, d4, d5, ⟨K, K, K, trivial⟩, SP.sel g2 [0, 1] rfl rfl, H⟩
  ·have H := cf H b7
   refine At.exit K (id := 0) K ?_
   refine aQ ?_
   refine aR ?_
   refine iR 4 4 [(22, (.slice A2 (List.length p1) c3)), (23, (.int .i64 ((List.length p1 : Nat) : Int))), (24, (.int .i64 (IntKind.wrap .i64 (8 * ((List.length p1 : Nat) : Int))))), (4, (.int .i64 (IntKind.wrap .i64 (8 * ((List.length p1 : Nat) : Int)))))] ?_
   refine iF ?_
   refine aQ ?_
   refine aQ ?_
   refine aR ?_
   refine iR 1 1 [(5, (.int .i64 7))] ?_
   refine iF ?_
   refine Zj K (id := 2) K ?_
   refine Jk K (fun a6 ρ w => ∃ (f : (List UInt8)) (a0 : Int) (a2 : Option Addr) (a1 : Nat), V8 ρ [(2, (pt g5 0)), (3, (.slice a2 (List.length f) a1)), (4, (.int .i64 (IntKind.wrap .i64 (8 * ((List.length p1 : Nat) : Int))))), (5, (.int .i64 a0))] ∧ SP [] w0 w [Vc 89 eU8 g5 32 (List.replicate 32 (0 : UInt8)), Xu 5 eU8 a2 a1 f] ∧ Vb (Qr p1 u) p1 a6 f a0 = some r) (by rintro ρ w ⟨f, a0, a2, a1, hk, hs, H⟩; cases H) ?_ Z0 ?_
   ·rintro a6 ρ j0 ⟨f, a0, a2, a1, hk, b8, H⟩
    refine At.known [(2, (pt g5 0)), (3, (.slice a2 (List.length f) a1)), (4, (.int .i64 (IntKind.wrap .i64 (8 * ((List.length p1 : Nat) : Int))))), (5, (.int .i64 a0))] hk ?_
    replace H := (show J0 (Qr p1 u) (Vb (Qr p1 u) p1 a6) p1 f a0 = some r from H)
    unfold J0 at H
    have j1 := Q5 (SP.get b8 (i := 0) rfl)
    refine aQ ?_
    refine aQ ?_
    refine aR ?_
    refine iR 2 2 [(25, (.int .i64 a0)), (26, (.bool (decide (a0 ≥ 0))))] ?_
    refine iF ?_
    refine Zi K (o := (.tmp 26)) K (b := (decide (a0 ≥ 0))) K (fun b9 => ?_) (fun b9 => ?_)
    ·have H := ct H b9
     refine At.skip K ?_
     refine aQ ?_
     refine Zj K (id := 3) K ?_
     refine aR ?_
     refine iR 4 4 [(29, (.slice a2 (List.length f) a1)), (30, (.int .i64 (IntKind.wrap .i64 (8 * ((List.length p1 : Nat) : Int))))), (31, (.int .i64 a0)), (32, (.int .i64 (IntKind.wrap .i64 (8 * a0))))] ?_
     obtain ⟨hl8972, H⟩ := Vv H
     refine iS 5 ?_
     refine Qj.shift (op := .shr) (T := 3) (T' := 3) (x := (.tmp 30)) (y := (.tmp 32)) (kx := .i64) (ky := .i64) (a := (IntKind.wrap .i64 (8 * ((List.length p1 : Nat) : Int)))) (b := (IntKind.wrap .i64 (8 * a0))) (v := (.int .i64 (J4 .i64 (IntKind.wrap .i64 (8 * ((List.length p1 : Nat) : Int))) (IntKind.wrap .i64 (8 * a0))))) (d := (some 33)) (k := 4) K rfl K K (of_decide_eq_true hl8972) rfl ?_
     refine iR 1 6 [(34, (.int .u8 (IntKind.wrap .u8 (J4 .i64 (IntKind.wrap .i64 (8 * ((List.length p1 : Nat) : Int))) (IntKind.wrap .i64 (8 * a0))))))] ?_
     refine iS 7 ?_
     refine V1 (e := eU8) (T := 52) (E := 5) (len := 1) (parts := #[(0, (.tmp 34))]) (cs := #[(.int .u8 (IntKind.wrap .u8 (J4 .i64 (IntKind.wrap .i64 (8 * ((List.length p1 : Nat) : Int))) (IntKind.wrap .i64 (8 * a0)))))]) ([(Rx (IntKind.wrap .u8 (J4 .i64 (IntKind.wrap .i64 (8 * ((List.length p1 : Nat) : Int))) (IntKind.wrap .i64 (8 * a0)))))] : List UInt8) (d := (some 35)) (k := 6) K rfl (fun _ => K) b8 (Y0 (Or.inr ⟨rfl, (R8 _)⟩) rfl) rfl rfl rfl ?_
     intro g3 j2 d6
     obtain ⟨hl8977, H⟩ := Xw H
     obtain ⟨d7, hyl8978⟩ : ∃ y, f ++ ([(Rx (IntKind.wrap .u8 (J4 .i64 (IntKind.wrap .i64 (8 * ((List.length p1 : Nat) : Int))) (IntKind.wrap .i64 (8 * a0)))))] : List UInt8) = y := ⟨_, rfl⟩
     rw [hyl8978] at H
     refine iS 8 ?_
     refine Qj.append (e := eU8) (l := f) (m := ([(Rx (IntKind.wrap .u8 (J4 .i64 (IntKind.wrap .i64 (8 * ((List.length p1 : Nat) : Int))) (IntKind.wrap .i64 (8 * a0)))))] : List UInt8)) (A := a2) (c := a1) (T := 52) (TX := 52) (E := 5) (b := 1) (s := (.tmp 29)) (x := (.tmp 35)) (i := 1) (vx := (.slice (some ⟨g3, 0, none⟩) (List.length ([(Rx (IntKind.wrap .u8 (J4 .i64 (IntKind.wrap .i64 (8 * ((List.length p1 : Nat) : Int))) (IntKind.wrap .i64 (8 * a0)))))] : List UInt8)) (List.length ([(Rx (IntKind.wrap .u8 (J4 .i64 (IntKind.wrap .i64 (8 * ((List.length p1 : Nat) : Int))) (IntKind.wrap .i64 (8 * a0)))))] : List UInt8)))) (d := (some 36)) (k := 7) K rfl K K K K rfl d6 rfl (Uw (E := 5) K (Vf (SP.get d6 (i := 2) rfl))) hl8977 ?_
     rw [hyl8978]
     intro d8 d9 j3 g4
     refine iR 1 9 [(3, (.slice d8 (List.length d7) d9))] ?_
     refine iF ?_
     refine aR ?_
     refine iR 3 3 [(27, (.int .i64 a0)), (28, (.int .i64 (IntKind.wrap .i64 (a0 - 1)))), (5, (.int .i64 (IntKind.wrap .i64 (a0 - 1))))] ?_
     refine iF ?_
     exact ⟨d7, (IntKind.wrap .i64 (a0 - 1)), d8, d9, ⟨K, K, K, K, trivial⟩, SP.sel g4 [0, 1] rfl rfl, H⟩
    ·have H := cf H b9
     refine At.exit K (id := 2) K ?_
     refine aQ ?_
     refine aR ?_
     refine iR 1 1 [(37, (.agg (Qb (Qc .u32) ([1779033703, 3144134277, 1013904242, 2773480762, 1359893119, 2600822924, 528734635, 1541459225] : List Int)).toArray))] ?_
     refine iS 2 ?_
     refine Qz (e := (Qc .u32)) (l := (List.replicate 8 0)) (m := 8) (t := 128) (z := .agg (Qb (Qc .u32) (List.replicate 8 0)).toArray) (d := (some 6)) (k := 1) K rfl K rfl rfl K b8 ?_
     intro a3 j4 g6
     refine iS 3 ?_
     refine Q8 (e := (Qc .u32)) (l := (List.replicate 8 0)) (l' := ([1779033703, 3144134277, 1013904242, 2773480762, 1359893119, 2600822924, 528734635, 1541459225] : List Int)) (m := 8) (t := 128) (x := (.tmp 6)) (y := (.tmp 37)) (g := a3) (i := 2) (d := none) (k := 2) K rfl K K rfl g6 rfl K ?_
     intro j5 g7
     refine iF ?_
     refine aQ ?_
     refine aQ ?_
     refine aR ?_
     refine iR 1 1 [(7, (.int .i64 0))] ?_
     refine iF ?_
     refine Zj K (id := 4) K ?_
     refine Jk K (fun b4 ρ w => ∃ (a5 : (List Int)) (p : Int), V8 ρ [(2, (pt g5 0)), (3, (.slice a2 (List.length f) a1)), (6, (pt a3 0)), (7, (.int .i64 p))] ∧ SP [] w0 w [Vc 89 eU8 g5 32 (List.replicate 32 (0 : UInt8)), Vc 128 (Qc .u32) a3 8 a5, Xu 5 eU8 a2 a1 f] ∧ Zr (Qr p1 u) (Vb (Qr p1 u) p1 a6) f b4 a5 p = some r) (by rintro ρ w ⟨a5, p, hk, hs, H⟩; cases H) ?_ Z0 ?_
     ·rintro b4 ρ j6 ⟨a5, p, hk, b5, H⟩
      refine At.known [(2, (pt g5 0)), (3, (.slice a2 (List.length f) a1)), (6, (pt a3 0)), (7, (.int .i64 p))] hk ?_
      replace H := (show Jz (Qr p1 u) (Vb (Qr p1 u) p1 a6) (Zr (Qr p1 u) (Vb (Qr p1 u) p1 a6) f b4) f a5 p = some r from H)
      unfold Jz at H
      have j7 := Q5 (SP.get b5 (i := 0) rfl)
      have g8 := Q5 (SP.get b5 (i := 1) rfl)
      refine aQ ?_
      refine aQ ?_
      refine aR ?_
      refine iR 4 4 [(38, (.int .i64 p)), (39, (.slice a2 (List.length f) a1)), (40, (.int .i64 ((List.length f : Nat) : Int))), (41, (.bool (decide (p < ((List.length f : Nat) : Int)))))] ?_
      refine iF ?_
      refine Zi K (o := (.tmp 41)) K (b := (decide (p < ((List.length f : Nat) : Int)))) K (fun c0 => ?_) (fun c0 => ?_)
      ·have H := ct H c0
       refine At.skip K ?_
       refine aQ ?_
       refine Zj K (id := 5) K ?_
       obtain ⟨e0, e1, e2, H⟩ := Re H
       obtain ⟨c1, hyl9424⟩ : ∃ y, (List.drop (Int.toNat p) (List.take (Int.toNat (IntKind.wrap .i64 (p + 64))) f)) = y := ⟨_, rfl⟩
       rw [hyl9424] at H
       obtain ⟨b1, h1, H⟩ := Qf H
       obtain ⟨c2, H⟩ := Vv H
       replace c2 := Nat.eq_of_beq_eq_true c2
       refine aG [GEq (.agg (Qb (Qc .u32) a5).toArray), GEq (.slice a2 (List.length f) a1), GEq (.int .i64 p), GEq (.int .i64 p), GEq (.int .i64 (IntKind.wrap .i64 (p + 64))), GEq (.slice (Bo eU8.sz a1 (Int.toNat p) a2) (List.length c1) (a1 - Int.toNat p)), GEq (.agg (Qb (Qc .u32) b1).toArray), Bq] [6, 7] [sG [] [] [] w0 [Vc 89 eU8 g5 32 (List.replicate 32 (0 : UInt8)), Vc 128 (Qc .u32) a3 8 a5, Xu 5 eU8 a2 a1 f], sG [6] [(.agg (Qb (Qc .u32) b1).toArray)] [] w0 [Vc 89 eU8 g5 32 (List.replicate 32 (0 : UInt8)), Vc 128 (Qc .u32) a3 8 a5, Xu 5 eU8 a2 a1 f], sG [6, 7] [(.agg (Qb (Qc .u32) b1).toArray), undef] [] w0 [Vc 89 eU8 g5 32 (List.replicate 32 (0 : UInt8)), Vc 128 (Qc .u32) a3 8 b1, Xu 5 eU8 a2 a1 f]] 8 2 ⟨trivial, SP.drew b5⟩ ?_ ?_
       iterate 8 refine And.intro ?_ ?_
       exact trivial
       ·refine oL 0 ?_
        ·rintro ρ' w' hs hah ⟨j8, h2⟩
         refine kM (kc (kS hs 6 (pt a3 0)) k0) fun hkn => ?_
         refine V3 (e := (Qc .u32)) (l := a5) (m := 8) (t := 128) (x := (.tmp 6)) (g := a3) (i := 1) (d := (some 44)) (k := 0) K rfl K h2 rfl K K ?_
         exact eK hkn
       ·exact oV (hC (hS 3 (.slice a2 (List.length f) a1)) (h0)) (.slice a2 (List.length f) a1)
       ·exact oV (hC (hS 7 (.int .i64 p)) (h0)) (.int .i64 p)
       ·exact oV (hC (hS 7 (.int .i64 p)) (h0)) (.int .i64 p)
       ·exact oV (hC (hA 3 47) (h0)) (.int .i64 (IntKind.wrap .i64 (p + 64)))
       ·refine oL 0 ?_
        ·rintro ρ' w' hs hah ⟨j9, h3⟩
         refine kM (kc (kA hah 1 45) (kc (kA hah 2 46) (kc (kA hah 4 48) k0))) fun hkn => ?_
         refine Ri (e := eU8) (l := f) (m := c1) (A := a2) (c := a1) (T := 52) (E := 5) (x := (.tmp 45)) (lo := (some (.tmp 46))) (hi := (some (.tmp 48))) (i := p) (j := (IntKind.wrap .i64 (p + 64))) (d := (some 49)) (k := 5) K rfl K K K ⟨.i64, K⟩ ⟨.i64, K⟩ (RdX.le (Vf (SP.get h3 (i := 2) rfl))) e0 e1 e2 hyl9424 ?_
         exact eK hkn
       ·refine oH 0 1 ?_
        ·rintro ρ' w' hs hah ⟨k1, e3⟩
         refine kM (kc (kA hah 0 44) (kc (kA hah 5 49) k0)) fun hkn => ?_
         refine cF 93 #[(.tmp 44), (.tmp 49)] #[128, 52] 50 Tryz.call93 (G7 (Bo eU8.sz a1 (Int.toNat p) a2) (a1 - Int.toNat p) a5 c1 w' g8 ((Ck e0 e1 e2 hyl9424) w' (Vf (SP.get e3 (i := 2) rfl))) b1 h1) ?_
         rintro e k2 ⟨rfl, e4⟩
         refine ⟨_, rfl, ?_⟩
         have h4 := SP.call e3 e4
         clear e4
         refine ⟨_, Qa hkn, rfl, ?_⟩
         exact (And.intro (And.intro rfl (trivial)) (h4))
       ·refine oH 1 2 ?_
        ·rintro ρ' w' hs hah ⟨⟨e5, -⟩, h5⟩
         refine kN [(6, (pt a3 0)), (50, (.agg (Qb (Qc .u32) b1).toArray))] ⟨(hs 6 K).trans K, (Xk (h := 6) K).symm.trans e5, trivial⟩ fun hkn => ?_
         refine Q8 (e := (Qc .u32)) (l := a5) (l' := b1) (m := 8) (t := 128) (x := (.tmp 6)) (y := (.tmp 50)) (g := a3) (i := 1) (d := none) (k := 7) K rfl K K c2 h5 rfl K ?_
         intro k3 h6
         refine ⟨_, Qa hkn, trivial, ?_⟩
         exact (And.intro (And.intro e5 (And.intro rfl (trivial))) (h6))
       ·rintro ρ' w' hs hf ⟨⟨k4, k5, -⟩, e6⟩
        refine Vh [(2, (pt g5 0)), (3, (.slice a2 (List.length f) a1)), (6, (pt a3 0)), (7, (.int .i64 p))] ⟨(hs 2 K).trans K, (hs 3 K).trans K, (hs 6 K).trans K, (hs 7 K).trans K, trivial⟩ ?_
        obtain ⟨k6, h7⟩ : ∃ x, w' = x := ⟨_, rfl⟩
        rw [h7] at e6 ⊢
        refine aR ?_
        refine iR 3 3 [(42, (.int .i64 p)), (43, (.int .i64 (IntKind.wrap .i64 (p + 64)))), (7, (.int .i64 (IntKind.wrap .i64 (p + 64))))] ?_
        refine iF ?_
        exact ⟨b1, (IntKind.wrap .i64 (p + 64)), ⟨K, K, K, K, trivial⟩, SP.sel e6 [0, 1, 2] rfl rfl, H⟩
      ·have H := cf H c0
       refine At.exit K (id := 4) K ?_
       refine aQ ?_
       refine aR ?_
       refine iS 1 ?_
       refine Qz (e := eU8) (l := (List.replicate 32 (0 : UInt8))) (m := 32) (t := 89) (z := .agg (Qb eU8 (List.replicate 32 (0 : UInt8))).toArray) (d := (some 8)) (k := 0) K rfl K rfl rfl K b5 ?_
       intro b2 k7 h8
       refine iF ?_
       refine aQ ?_
       refine aQ ?_
       refine aR ?_
       refine iR 1 1 [(9, (.int .i64 0))] ?_
       refine iF ?_
       refine Zj K (id := 6) K ?_
       refine Jk K (fun c4 ρ w => ∃ (a7 : (List UInt8)) (q : Int), V8 ρ [(2, (pt g5 0)), (6, (pt a3 0)), (8, (pt b2 0)), (9, (.int .i64 q))] ∧ SP [] w0 w [Vc 89 eU8 g5 32 (List.replicate 32 (0 : UInt8)), Vc 128 (Qc .u32) a3 8 a5, Vc 89 eU8 b2 32 a7] ∧ Yl (Qr p1 u) (Vb (Qr p1 u) p1 a6) (Zr (Qr p1 u) (Vb (Qr p1 u) p1 a6) f b4) a5 c4 a7 q = some r) (by rintro ρ w ⟨a7, q, hk, hs, H⟩; cases H) ?_ Z0 ?_
       ·rintro c4 ρ k8 ⟨a7, q, hk, b0, H⟩
        refine At.known [(2, (pt g5 0)), (6, (pt a3 0)), (8, (pt b2 0)), (9, (.int .i64 q))] hk ?_
        replace H := (show Jy (Qr p1 u) (Vb (Qr p1 u) p1 a6) (Zr (Qr p1 u) (Vb (Qr p1 u) p1 a6) f b4) (Yl (Qr p1 u) (Vb (Qr p1 u) p1 a6) (Zr (Qr p1 u) (Vb (Qr p1 u) p1 a6) f b4) a5 c4) a5 a7 q = some r from H)
        unfold Jy at H
        have k9 := Q5 (SP.get b0 (i := 0) rfl)
        have l0 := Q5 (SP.get b0 (i := 1) rfl)
        have h9 := Q5 (SP.get b0 (i := 2) rfl)
        refine aQ ?_
        refine aQ ?_
        refine aR ?_
        refine iR 2 2 [(51, (.int .i64 q)), (52, (.bool (decide (q < 32))))] ?_
        refine iF ?_
        refine Zi K (o := (.tmp 52)) K (b := (decide (q < 32))) K (fun c5 => ?_) (fun c5 => ?_)
        ·have H := ct H c5
         refine At.skip K ?_
         refine aQ ?_
         refine Zj K (id := 7) K ?_
         refine aR ?_
         refine iR 3 3 [(55, (.int .i64 q)), (56, (.int .i64 q)), (57, (.int .i64 (IntKind.wrap .i64 (Int.tdiv q 4))))] ?_
         obtain ⟨b3, e7, e8, i0, H⟩ := Qn H
         refine iS 4 ?_
         refine Qg (e := (Qc .u32)) (l := a5) (m := 8) (g := a3) (T := 128) (E := 111) (x := (.tmp 6)) (ix := (.tmp 57)) (ki := .i64) (iz := (IntKind.wrap .i64 (Int.tdiv q 4))) (i := 1) (d := (some 58)) (k := 3) K rfl K K K K b0 rfl e7 e8 ?_
         refine iS 5 ?_
         refine sC 111 58 a3 (0 + Int.toNat (IntKind.wrap .i64 (Int.tdiv q 4)) * (Qc .u32).sz) (.int .u32 b3) 59 (Qh (e := (Qc .u32)) (Qe (Qu (SP.get b0 (i := 1) rfl)) rfl e7 e8) i0 (j := 0) rfl) ?_
         refine iR 4 9 [(60, (.int .i64 q)), (61, (.int .i64 (Int.tmod q 4))), (62, (.int .i64 (IntKind.wrap .i64 (8 * (Int.tmod q 4))))), (63, (.int .i64 (IntKind.wrap .i64 (24 - (IntKind.wrap .i64 (8 * (Int.tmod q 4)))))))] ?_
         obtain ⟨hl9546, H⟩ := Vv H
         refine iS 10 ?_
         refine Qj.shift (op := .shr) (T := 111) (T' := 3) (x := (.tmp 59)) (y := (.tmp 63)) (kx := .u32) (ky := .i64) (a := b3) (b := (IntKind.wrap .i64 (24 - (IntKind.wrap .i64 (8 * (Int.tmod q 4)))))) (v := (.int .u32 (J4 .u32 b3 (IntKind.wrap .i64 (24 - (IntKind.wrap .i64 (8 * (Int.tmod q 4)))))))) (d := (some 64)) (k := 9) K rfl K K (of_decide_eq_true hl9546) rfl ?_
         refine iR 1 11 [(65, (.int .u8 (IntKind.wrap .u8 (J4 .u32 b3 (IntKind.wrap .i64 (24 - (IntKind.wrap .i64 (8 * (Int.tmod q 4)))))))))] ?_
         obtain ⟨l1, e9, f0, l2, H⟩ := Qn H
         refine iS 12 ?_
         refine Qg (e := eU8) (l := a7) (m := 32) (g := b2) (T := 89) (E := 5) (x := (.tmp 8)) (ix := (.tmp 55)) (ki := .i64) (iz := q) (i := 2) (d := (some 66)) (k := 11) K rfl K K K K b0 rfl e9 f0 ?_
         obtain ⟨f1, hyl9551, H⟩ := Vz H
         have hnl9551 : List.length f1 = List.length a7 := by rw [← hyl9551, List.length_set]
         refine iS 13 ?_
         refine V9 (e := eU8) (t := 5) (x := (.tmp 66)) (y := (.tmp 65)) (l := a7) (iz := q) (m := 32) (g := b2) (b := b2) (off := 0) (i := 2) (v := (.int .u8 (IntKind.wrap .u8 (J4 .u32 b3 (IntKind.wrap .i64 (24 - (IntKind.wrap .i64 (8 * (Int.tmod q 4))))))))) (x' := (Rx (IntKind.wrap .u8 (J4 .u32 b3 (IntKind.wrap .i64 (24 - (IntKind.wrap .i64 (8 * (Int.tmod q 4))))))))) (d := none) (k := 12) K rfl rfl K K b0 rfl rfl f0 e9 (by show [Value.int .u8 (((Rx (IntKind.wrap .u8 (J4 .u32 b3 (IntKind.wrap .i64 (24 - (IntKind.wrap .i64 (8 * (Int.tmod q 4))))))))).toNat : Int)] = _; rw [Gg (R8 _)]) K ?_
         rw [hyl9551]
         intro l3 i1
         refine In.known [] trivial ?_
         refine iF ?_
         refine aR ?_
         refine iR 3 3 [(53, (.int .i64 q)), (54, (.int .i64 (IntKind.wrap .i64 (q + 1)))), (9, (.int .i64 (IntKind.wrap .i64 (q + 1))))] ?_
         refine iF ?_
         exact ⟨f1, (IntKind.wrap .i64 (q + 1)), ⟨K, K, K, K, trivial⟩, SP.sel i1 [0, 1, 2] rfl rfl, H⟩
        ·have H := cf H c5
         refine At.exit K (id := 6) K ?_
         refine aQ ?_
         refine aR ?_
         refine iS 1 ?_
         refine V3 (e := eU8) (l := a7) (m := 32) (t := 89) (x := (.tmp 8)) (g := b2) (i := 2) (d := (some 67)) (k := 0) K rfl K b0 rfl K K ?_
         refine iS 2 ?_
         refine Q8 (e := eU8) (l := (List.replicate 32 (0 : UInt8))) (l' := a7) (m := 32) (t := 89) (x := (.tmp 2)) (y := (.tmp 67)) (g := g5) (i := 0) (d := none) (k := 1) K rfl K K h9 b0 rfl K ?_
         intro l4 f2
         refine iF ?_
         refine At.ret K ?_
         refine ⟨(.agg (Qb eU8 a7).toArray), Bc K (J7 (e := eU8) (l := a7) (a := 2) (t := 89) K (SP.get f2 (i := 0) rfl) K K), ?_⟩
         obtain rfl := Qm H
         exact ⟨rfl, SP.sel f2 [] rfl rfl⟩
       ·exact ⟨(List.replicate 32 (0 : UInt8)), 0, ⟨K, K, K, K, trivial⟩, SP.sel h8 [0, 1, 3] rfl rfl, H⟩
     ·exact ⟨([1779033703, 3144134277, 1013904242, 2773480762, 1359893119, 2600822924, 528734635, 1541459225] : List Int), 0, ⟨K, K, K, K, trivial⟩, SP.sel g7 [0, 2, 1] rfl rfl, H⟩
   ·exact ⟨a4, 7, a8, a9, ⟨K, K, K, K, trivial⟩, SP.sel b6 [0, 1] rfl rfl, H⟩
 ·exact ⟨c9, d0, d1, ⟨K, K, K, trivial⟩, SP.sel g0 [0, 1] rfl rfl, H⟩
def Uc (c : (List UInt8) → Int → Option ((List UInt8))) (p1 : (List UInt8)) (b : (List UInt8)) (a : Int) : Option ((List UInt8)) :=
  (cond (decide (a < ((List.length p1 : Nat) : Int))) ((idx p1 a).bind fun d => ((idx ([48, 49, 50, 51, 52, 53, 54, 55, 56, 57, 97, 98, 99, 100, 101, 102] : List UInt8) (IntKind.wrap .u8 (Int.tdiv ((d).toNat : Int) 16))).bind fun e => ((idx p1 a).bind fun f => ((idx ([48, 49, 50, 51, 52, 53, 54, 55, 56, 57, 97, 98, 99, 100, 101, 102] : List UInt8) (Int.tmod ((f).toNat : Int) 16)).bind fun g => ((app b ([e, g] : List UInt8)).bind fun h => (c h (IntKind.wrap .i64 (a + 1)))))))) (some (b)))
def Yt (p1 : (List UInt8)) : Nat → (List UInt8) → Int → Option ((List UInt8))
  | 0, _, _ => none
  | f + 1, a, b => Uc  (Yt p1 f) p1 a b
def Nq (p1 : (List UInt8)) : Option ((List UInt8)) :=
  (Yt p1 Z0 ([] : List UInt8) 0)
set_option maxRecDepth 100000 in
set_option maxHeartbeats 4000000 in
theorem R2 (A2 : Option Addr) (c3 : Nat) (p1 : (List UInt8)) (w0 : World) (a8 : RdT eU8 w0 A2 c3 p1) (r : ((List UInt8))) (H : Nq p1 = some r) :
  Calls Tryz.prog 55 #[(.slice A2 (List.length p1) c3)] w0 (fun e w' => e = .returned (.string ⟨List.toArray r⟩) ∧ SP [] w0 w' []) := by
 unfold Nq at H
 refine Qv (n := 31) Tryz.func55 K K K ?_
 have c1 := Q1 [] w0
 refine aQ ?_
 refine aR ?_
 refine iR 1 1 [(2, (.string ⟨List.toArray ([] : List UInt8)⟩))] ?_
 refine iF ?_
 refine aQ ?_
 refine aR ?_
 refine iR 1 1 [(3, (.string ⟨List.toArray ([48, 49, 50, 51, 52, 53, 54, 55, 56, 57, 97, 98, 99, 100, 101, 102] : List UInt8)⟩))] ?_
 refine iF ?_
 refine aQ ?_
 refine aR ?_
 refine iR 1 1 [(4, (.slice none (List.length ([] : List UInt8)) 0))] ?_
 refine iF ?_
 refine aQ ?_
 refine aQ ?_
 refine aR ?_
 refine iR 1 1 [(5, (.int .i64 0))] ?_
 refine iF ?_
 refine Zj K (id := 0) K ?_
 refine Jk K (fun f1 ρ w => ∃ (q : (List UInt8)) (f : Int) (t : Option Addr) (z : Nat), V8 ρ [(0, (.slice A2 (List.length p1) c3)), (3, (.string ⟨List.toArray ([48, 49, 50, 51, 52, 53, 54, 55, 56, 57, 97, 98, 99, 100, 101, 102] : List UInt8)⟩)), (4, (.slice t (List.length q) z)), (5, (.int .i64 f))] ∧ SP [] w0 w [Xu 5 eU8 t z q] ∧ Yt p1 f1 q f = some r) (by rintro ρ w ⟨q, f, t, z, hk, hs, H⟩; cases H) ?_ Z0 ?_
 ·rintro f1 ρ f8 ⟨q, f, t, z, hk, b0, H⟩
  refine At.known [(0, (.slice A2 (List.length p1) c3)), (3, (.string ⟨List.toArray ([48, 49, 50, 51, 52, 53, 54, 55, 56, 57, 97, 98, 99, 100, 101, 102] : List UInt8)⟩)), (4, (.slice t (List.length q) z)), (5, (.int .i64 f))] hk ?_
  replace H := (show Uc (Yt p1 f1) p1 q f = some r from H)
  unfold Uc at H
  refine aQ ?_
  refine aQ ?_
  refine aR ?_
  refine iR 4 4 [(6, (.int .i64 f)), (7, (.slice A2 (List.length p1) c3)), (8, (.int .i64 ((List.length p1 : Nat) : Int))), (9, (.bool (decide (f < ((List.length p1 : Nat) : Int)))))] ?_
  refine iF ?_
  refine Zi K (o := (.tmp 9)) K (b := (decide (f < ((List.length p1 : Nat) : Int)))) K (fun b1 => ?_) (fun b1 => ?_)
  ·have H := ct H b1
   refine At.skip K ?_
   refine aQ ?_
   refine Zj K (id := 1) K ?_
   obtain ⟨a6, b3, b4, c2, H⟩ := Qn H
   obtain ⟨g, c4, f9, c5, H⟩ := Qn H
   obtain ⟨a7, b5, b6, c6, H⟩ := Qn H
   obtain ⟨p, c7, g0, c8, H⟩ := Qn H
   obtain ⟨hl270, H⟩ := Xw H
   obtain ⟨a0, hyl271⟩ : ∃ y, q ++ ([g, p] : List UInt8) = y := ⟨_, rfl⟩
   rw [hyl271] at H
   refine aG [GEq (.slice t (List.length q) z), GEq (.string ⟨List.toArray ([48, 49, 50, 51, 52, 53, 54, 55, 56, 57, 97, 98, 99, 100, 101, 102] : List UInt8)⟩), GEq (.slice A2 (List.length p1) c3), GEq (.int .i64 f), Vs A2 eU8.sz f, GEq (.int .u8 ((a6).toNat : Int)), GEq (.int .u8 (IntKind.wrap .u8 (Int.tdiv ((a6).toNat : Int) 16))), GEq (.int .u8 ((g).toNat : Int)), GEq (.string ⟨List.toArray ([48, 49, 50, 51, 52, 53, 54, 55, 56, 57, 97, 98, 99, 100, 101, 102] : List UInt8)⟩), GEq (.slice A2 (List.length p1) c3), GEq (.int .i64 f), Vs A2 eU8.sz f, GEq (.int .u8 ((a7).toNat : Int)), GEq (.int .u8 (Int.tmod ((a7).toNat : Int) 16)), GEq (.int .u8 ((p).toNat : Int)), Bq, Bq, Bq] [15, 16, 17] [([], fun vs w => VL vs [] ∧ SP [] w0 w [Xu 5 eU8 t z q]), ([15], fun vs w => ∃ (a1 : Nat), VL vs [(.slice (some ⟨a1, 0, none⟩) (List.length ([g, p] : List UInt8)) (List.length ([g, p] : List UInt8)))] ∧ SP [] w0 w [Xu 5 eU8 t z q, Xu 5 eU8 (some ⟨a1, 0, none⟩) (List.length ([g, p] : List UInt8)) ([g, p] : List UInt8)]), ([15, 16], fun vs w => ∃ (a9 : Nat), ∃ (a2 : Option Addr), ∃ (a3 : Nat), VL vs [(.slice (some ⟨a9, 0, none⟩) (List.length ([g, p] : List UInt8)) (List.length ([g, p] : List UInt8))), (.slice a2 (List.length a0) a3)] ∧ SP [] w0 w [Xu 5 eU8 a2 a3 a0, Xu 5 eU8 (some ⟨a9, 0, none⟩) (List.length ([g, p] : List UInt8)) ([g, p] : List UInt8)]), ([15, 16, 17], fun vs w => ∃ (b2 : Nat), ∃ (a4 : Option Addr), ∃ (a5 : Nat), VL vs [(.slice (some ⟨b2, 0, none⟩) (List.length ([g, p] : List UInt8)) (List.length ([g, p] : List UInt8))), (.slice a4 (List.length a0) a5), (.slice a4 (List.length a0) a5)] ∧ SP [] w0 w [Xu 5 eU8 a4 a5 a0, Xu 5 eU8 (some ⟨b2, 0, none⟩) (List.length ([g, p] : List UInt8)) ([g, p] : List UInt8)])] 18 3 ⟨trivial, SP.drew b0⟩ ?_ ?_
   iterate 18 refine And.intro ?_ ?_
   exact trivial
   ·exact oV (hC (hS 4 (.slice t (List.length q) z)) (h0)) (.slice t (List.length q) z)
   ·exact oV (hC (hS 3 (.string ⟨List.toArray ([48, 49, 50, 51, 52, 53, 54, 55, 56, 57, 97, 98, 99, 100, 101, 102] : List UInt8)⟩)) (h0)) (.string ⟨List.toArray ([48, 49, 50, 51, 52, 53, 54, 55, 56, 57, 97, 98, 99, 100, 101, 102] : List UInt8)⟩)
   ·exact oV (hC (hS 0 (.slice A2 (List.length p1) c3)) (h0)) (.slice A2 (List.length p1) c3)
   ·exact oV (hC (hS 5 (.int .i64 f)) (h0)) (.int .i64 f)
   ·refine oL 0 ?_
    ·rintro ρ' w' hs hah ⟨g1, c9⟩
     refine kM (kc (kA hah 2 14) (kc (kA hah 3 15) k0)) fun hkn => ?_
     refine Vj (e := eU8) (l := p1) (A := A2) (c := c3) (T := 52) (E := 5) (x := (.tmp 14)) (ix := (.tmp 15)) (ki := .i64) (iz := f) (d := (some 16)) (k := 4) K rfl K K K K (RdT.sp a8 c9) b3 b4 ?_
     intro d0 d1 d2 g2 hc303
     exact ⟨rfl, _, Qa hkn, ⟨d0, d1, d2, rfl⟩⟩
   ·refine oL 0 ?_
    ·rintro ρ' w' hs hah ⟨g3, d3⟩
     obtain ⟨d4, d5, d6, d7⟩ := hah 4 16 K
     refine kM (kc d7 k0) fun hkn => ?_
     refine sC 5 16 d4 (d5 + Int.toNat f * eU8.sz) (.int .u8 ((a6).toNat : Int)) 17 (Qh (e := eU8) (Qe (RdT.sp a8 d3) d6 b3 b4) c2 (j := 0) rfl) ?_
     exact eK hkn
   ·exact oV (hC (hA 5 17) (h0)) (.int .u8 (IntKind.wrap .u8 (Int.tdiv ((a6).toNat : Int) 16)))
   ·refine oL 0 ?_
    ·rintro ρ' w' hs hah ⟨g4, g5⟩
     refine kM (kc (kA hah 1 13) (kc (kA hah 6 18) k0)) fun hkn => ?_
     refine Uv (a := ([48, 49, 50, 51, 52, 53, 54, 55, 56, 57, 97, 98, 99, 100, 101, 102] : List UInt8)) (u := g) (T := 9) (x := (.tmp 13)) (ix := (.tmp 18)) (ki := .u8) (iz := (IntKind.wrap .u8 (Int.tdiv ((a6).toNat : Int) 16))) (d := (some 19)) (k := 7) K rfl K K K c4 c5 ?_
     exact eK hkn
   ·exact oV (hC (hS 3 (.string ⟨List.toArray ([48, 49, 50, 51, 52, 53, 54, 55, 56, 57, 97, 98, 99, 100, 101, 102] : List UInt8)⟩)) (h0)) (.string ⟨List.toArray ([48, 49, 50, 51, 52, 53, 54, 55, 56, 57, 97, 98, 99, 100, 101, 102] : List UInt8)⟩)
   ·exact oV (hC (hS 0 (.slice A2 (List.length p1) c3)) (h0)) (.slice A2 (List.length p1) c3)
   ·exact oV (hC (hS 5 (.int .i64 f)) (h0)) (.int .i64 f)
   ·refine oL 0 ?_
    ·rintro ρ' w' hs hah ⟨g6, d8⟩
     refine kM (kc (kA hah 9 21) (kc (kA hah 10 22) k0)) fun hkn => ?_
     refine Vj (e := eU8) (l := p1) (A := A2) (c := c3) (T := 52) (E := 5) (x := (.tmp 21)) (ix := (.tmp 22)) (ki := .i64) (iz := f) (d := (some 23)) (k := 11) K rfl K K K K (RdT.sp a8 d8) b5 b6 ?_
     intro d9 e0 e1 g7 hc317
     exact ⟨rfl, _, Qa hkn, ⟨d9, e0, e1, rfl⟩⟩
   ·refine oL 0 ?_
    ·rintro ρ' w' hs hah ⟨g8, e2⟩
     obtain ⟨e3, e4, e5, e6⟩ := hah 11 23 K
     refine kM (kc e6 k0) fun hkn => ?_
     refine sC 5 23 e3 (e4 + Int.toNat f * eU8.sz) (.int .u8 ((a7).toNat : Int)) 24 (Qh (e := eU8) (Qe (RdT.sp a8 e2) e5 b5 b6) c6 (j := 0) rfl) ?_
     exact eK hkn
   ·exact oV (hC (hA 12 24) (h0)) (.int .u8 (Int.tmod ((a7).toNat : Int) 16))
   ·refine oL 0 ?_
    ·rintro ρ' w' hs hah ⟨g9, h1⟩
     refine kM (kc (kA hah 8 20) (kc (kA hah 13 25) k0)) fun hkn => ?_
     refine Uv (a := ([48, 49, 50, 51, 52, 53, 54, 55, 56, 57, 97, 98, 99, 100, 101, 102] : List UInt8)) (u := p) (T := 9) (x := (.tmp 20)) (ix := (.tmp 25)) (ki := .u8) (iz := (Int.tmod ((a7).toNat : Int) 16)) (d := (some 26)) (k := 14) K rfl K K K c7 c8 ?_
     exact eK hkn
   ·refine oH 0 1 ?_
    ·rintro ρ' w' hs hah ⟨h2, e7⟩
     refine kM (kc (kA hah 7 19) (kc (kA hah 14 26) k0)) fun hkn => ?_
     refine V1 (e := eU8) (T := 52) (E := 5) (len := 2) (parts := #[(0, (.tmp 19)), (1, (.tmp 26))]) (cs := #[(.int .u8 ((g).toNat : Int)), (.int .u8 ((p).toNat : Int))]) ([g, p] : List UInt8) (d := (some 27)) (k := 15) K rfl (fun _ => K) e7 (Y0 (Or.inl rfl) (Y0 (Or.inl rfl) rfl)) rfl rfl rfl ?_
     intro e8 h3 e9
     refine ⟨_, Qa hkn, trivial, ?_⟩
     exact (Exists.intro e8 (And.intro (And.intro rfl (trivial)) (e9)))
   ·refine oH 1 2 ?_
    ·rintro ρ' w' hs hah ⟨a1, ⟨b7, -⟩, b8⟩
     refine kN [(12, (.slice t (List.length q) z)), (27, (.slice (some ⟨a1, 0, none⟩) (List.length ([g, p] : List UInt8)) (List.length ([g, p] : List UInt8))))] ⟨hah 0 12 K, (Xk (h := 15) K).symm.trans b7, trivial⟩ fun hkn => ?_
     refine Qj.append (e := eU8) (l := q) (m := ([g, p] : List UInt8)) (A := t) (c := z) (T := 52) (TX := 52) (E := 5) (b := 1) (s := (.tmp 12)) (x := (.tmp 27)) (i := 0) (vx := (.slice (some ⟨a1, 0, none⟩) (List.length ([g, p] : List UInt8)) (List.length ([g, p] : List UInt8)))) (d := (some 28)) (k := 16) K rfl K K K K rfl b8 rfl (Uw (E := 5) K (Vf (SP.get b8 (i := 1) rfl))) hl270 ?_
     rw [hyl271]
     intro f0 f2 h4 f3
     refine ⟨_, Qa hkn, trivial, ?_⟩
     exact (Exists.intro a1 (Exists.intro f0 (Exists.intro f2 (And.intro (And.intro b7 (And.intro rfl (trivial))) (f3)))))
   ·refine oH 2 3 ?_
    ·rintro ρ' w' hs hah ⟨a9, a2, a3, ⟨f4, b9, -⟩, f5⟩
     refine kN [(28, (.slice a2 (List.length a0) a3))] ⟨(Xk (h := 16) K).symm.trans b9, trivial⟩ fun hkn => ?_
     refine Qj.run (k := 17) (v := (.slice a2 (List.length a0) a3)) K ?_
     refine ⟨_, Qa hkn, trivial, ?_⟩
     exact (Exists.intro a9 (Exists.intro a2 (Exists.intro a3 (And.intro (And.intro f4 (And.intro b9 (And.intro rfl (trivial)))) (f5)))))
   ·rintro ρ' w' hs hf ⟨b2, a4, a5, ⟨h5, h6, f6, -⟩, c0⟩
    refine Vh [(0, (.slice A2 (List.length p1) c3)), (3, (.string ⟨List.toArray ([48, 49, 50, 51, 52, 53, 54, 55, 56, 57, 97, 98, 99, 100, 101, 102] : List UInt8)⟩)), (4, (.slice a4 (List.length a0) a5)), (5, (.int .i64 f))] ⟨(hs 0 K).trans K, (hs 3 K).trans K, (Xk (h := 17) K).symm.trans f6, (hs 5 K).trans K, trivial⟩ ?_
    obtain ⟨h7, f7⟩ : ∃ x, w' = x := ⟨_, rfl⟩
    rw [f7] at c0 ⊢
    refine aR ?_
    refine iR 3 3 [(10, (.int .i64 f)), (11, (.int .i64 (IntKind.wrap .i64 (f + 1)))), (5, (.int .i64 (IntKind.wrap .i64 (f + 1))))] ?_
    refine iF ?_
    exact ⟨a0, (IntKind.wrap .i64 (f + 1)), a4, a5, ⟨K, K, K, K, trivial⟩, SP.sel c0 [0] rfl rfl, H⟩
  ·have H := cf H b1
   refine At.exit K (id := 0) K ?_
   refine aQ ?_
   refine aR ?_
   refine iR 1 1 [(29, (.slice t (List.length q) z))] ?_
   refine iS 2 ?_
   refine C2 (T := 52) (S' := 9) (E := 5) (x := (.tmp 29)) (A := t) (c := z) (l := q) (d := (some 30)) (k := 1) K rfl K K K K (Vf (SP.get b0 (i := 0) rfl)) ?_
   refine iR 1 3 [(2, (.string ⟨List.toArray q⟩))] ?_
   refine iF ?_
   refine At.ret K ?_
   refine ⟨(.string ⟨List.toArray q⟩), K, ?_⟩
   obtain rfl := Qm H
   exact ⟨rfl, SP.sel b0 [] rfl rfl⟩
 ·exact ⟨([] : List UInt8), 0, none, 0, ⟨K, K, K, K, trivial⟩, SP.sel (Gf c1 5 eU8) [0] rfl rfl, H⟩
end Go.Proofs.YtmgfanhcdfobhaaGreatDoor
namespace Go.Proofs.YtmgfanhcdfobhaaGreatDoor
open Go.RowKit
def Bw (p1 : (List UInt8)) : Option ((List UInt8)) :=
  (cond (decide (((List.length p1 : Nat) : Int) > 255)) (some (([] : List UInt8))) ((app ([(Rx (IntKind.wrap .u8 ((List.length p1 : Nat) : Int)))] : List UInt8) p1).bind fun a => (some (a))))
set_option maxRecDepth 100000 in
set_option maxHeartbeats 4000000 in
theorem Co  (p1 : (List UInt8)) (w0 : World)  (r : ((List UInt8))) (H : Bw p1 = some r) :
  Calls Tryz.prog 69 #[(.string ⟨List.toArray p1⟩)] w0 (fun e w' => ∃ (A2 : Option Addr) (c3 : Nat), e = .returned (.slice A2 (List.length r) c3) ∧ SP [] w0 w' [Xu 5 eU8 A2 c3 r]) := by
 unfold Bw at H
 refine Qv (n := 12) Tryz.func69 K K K ?_
 have h := Q1 [] w0
 refine aQ ?_
 refine aR ?_
 refine iR 1 1 [(2, (.slice none (List.length ([] : List UInt8)) 0))] ?_
 refine iF ?_
 refine aQ ?_
 refine aQ ?_
 refine aR ?_
 refine iR 3 3 [(3, (.string ⟨List.toArray p1⟩)), (4, (.int .i64 ((List.length p1 : Nat) : Int))), (5, (.bool (decide (((List.length p1 : Nat) : Int) > 255))))] ?_
 refine iF ?_
 refine Zi K (o := (.tmp 5)) K (b := (decide (((List.length p1 : Nat) : Int) > 255))) K (fun a => ?_) (fun a => ?_)
 ·have H := ct H a
  refine aQ ?_
  refine aR ?_
  refine iR 1 1 [(2, (.slice none (List.length ([] : List UInt8)) 0))] ?_
  refine iF ?_
  refine At.ret K ?_
  have p : SP [] w0 w0 [Xu 5 eU8 none 0 ([] : List UInt8)] := Gf h 5 eU8
  refine ⟨(.slice none (List.length ([] : List UInt8)) 0), K, ?_⟩
  obtain rfl := Qm H
  exact ⟨none, 0, rfl, SP.sel p [0] rfl rfl⟩
 ·have H := cf H a
  refine At.skip K ?_
  refine aQ ?_
  refine aR ?_
  refine iR 3 3 [(6, (.string ⟨List.toArray p1⟩)), (7, (.int .i64 ((List.length p1 : Nat) : Int))), (8, (.int .u8 (IntKind.wrap .u8 ((List.length p1 : Nat) : Int))))] ?_
  refine iS 4 ?_
  refine V1 (e := eU8) (T := 52) (E := 5) (len := 1) (parts := #[(0, (.tmp 8))]) (cs := #[(.int .u8 (IntKind.wrap .u8 ((List.length p1 : Nat) : Int)))]) ([(Rx (IntKind.wrap .u8 ((List.length p1 : Nat) : Int)))] : List UInt8) (d := (some 9)) (k := 3) K rfl (fun _ => K) h (Y0 (Or.inr ⟨rfl, (R8 _)⟩) rfl) rfl rfl rfl ?_
  intro g7 w8 q
  refine iR 1 5 [(10, (.string ⟨List.toArray p1⟩))] ?_
  obtain ⟨hl11, H⟩ := Xw H
  obtain ⟨j, hyl12⟩ : ∃ y, ([(Rx (IntKind.wrap .u8 ((List.length p1 : Nat) : Int)))] : List UInt8) ++ p1 = y := ⟨_, rfl⟩
  rw [hyl12] at H
  refine iS 6 ?_
  refine Qj.append (e := eU8) (l := ([(Rx (IntKind.wrap .u8 ((List.length p1 : Nat) : Int)))] : List UInt8)) (m := p1) (A := (some ⟨g7, 0, none⟩)) (c := (List.length ([(Rx (IntKind.wrap .u8 ((List.length p1 : Nat) : Int)))] : List UInt8))) (T := 52) (TX := 9) (E := 5) (b := 1) (s := (.tmp 9)) (x := (.tmp 10)) (i := 0) (vx := (.string ⟨List.toArray p1⟩)) (d := (some 11)) (k := 5) K rfl K K K K rfl q rfl (src_str K p1) hl11 ?_
  rw [hyl12]
  intro f g u t
  refine iR 1 7 [(2, (.slice f (List.length j) g))] ?_
  refine iF ?_
  refine At.ret K ?_
  refine ⟨(.slice f (List.length j) g), K, ?_⟩
  obtain rfl := Qm H
  exact ⟨f, g, rfl, SP.sel t [0] rfl rfl⟩
def Rp (a : (List UInt8)) : Option ((List UInt8)) :=
  ((some (cpy (List.replicate 64 (0 : UInt8)) 0 (List.length (List.replicate 64 (0 : UInt8))) a)).bind fun b => (some (b)))
def Ep (p1 : (List UInt8)) : Option ((List UInt8)) :=
  (cond (decide (((List.length p1 : Nat) : Int) > 64)) ((Gs p1).bind fun a => ((chk (Nat.beq (List.length a) 32)).bind fun _ => (Rp a))) (Rp p1))
set_option maxRecDepth 100000 in
set_option maxHeartbeats 4000000 in
theorem Er (A2 : Option Addr) (c3 : Nat) (p1 : (List UInt8)) (w0 : World) (a3 : RdT eU8 w0 A2 c3 p1) (r : ((List UInt8))) (H : Ep p1 = some r) :
  Calls Tryz.prog 92 #[(.slice A2 (List.length p1) c3)] w0 (fun e w' => e = .returned (.agg (Qb eU8 r).toArray) ∧ SP [] w0 w' []) := by
 unfold Ep at H
 refine Qv (n := 15) Tryz.func92 K K K ?_
 have a8 := Q1 [] w0
 refine aQ ?_
 refine aR ?_
 refine iS 1 ?_
 refine Qz (e := eU8) (l := (List.replicate 64 (0 : UInt8))) (m := 64) (t := 125) (z := .agg (Qb eU8 (List.replicate 64 (0 : UInt8))).toArray) (d := (some 2)) (k := 0) K rfl K rfl rfl K a8 ?_
 intro g5 w6 a9
 refine iF ?_
 refine aQ ?_
 refine aR ?_
 refine iS 1 ?_
 refine Qz (e := eU8) (l := (List.replicate 64 (0 : UInt8))) (m := 64) (t := 125) (z := .agg (Qb eU8 (List.replicate 64 (0 : UInt8))).toArray) (d := (some 3)) (k := 0) K rfl K rfl rfl K a9 ?_
 intro g9 b0 s
 refine iF ?_
 refine aQ ?_
 refine aQ ?_
 refine aR ?_
 refine iR 3 3 [(5, (.slice A2 (List.length p1) c3)), (6, (.int .i64 ((List.length p1 : Nat) : Int))), (7, (.bool (decide (((List.length p1 : Nat) : Int) > 64))))] ?_
 refine iF ?_
 refine At.join (fun ρ w => ∃ (c : (List UInt8)) (h : Option Addr) (j : Nat), V8 ρ [(0, (.slice h (List.length c) j)), (2, (pt g5 0)), (3, (pt g9 0))] ∧ SP [] w0 w [Vc 125 eU8 g5 64 (List.replicate 64 (0 : UInt8)), Vc 125 eU8 g9 64 (List.replicate 64 (0 : UInt8))] ∧ RdT eU8 w h j c ∧ Rp c = some r) ?_ ?_
 ·refine Zi K (o := (.tmp 7)) K (b := (decide (((List.length p1 : Nat) : Int) > 64))) K (fun a0 => ?_) (fun a0 => ?_)
  ·have H := ct H a0
   refine aQ ?_
   refine aR ?_
   refine iR 1 1 [(8, (.slice A2 (List.length p1) c3))] ?_
   obtain ⟨p, b1, H⟩ := Qf H
   obtain ⟨a1, H⟩ := Vv H
   replace a1 := Nat.eq_of_beq_eq_true a1
   refine iS 2 ?_
   refine cF 100 #[(.tmp 8)] #[52] 9 Tryz.call100 (G5 A2 c3 p1 b0 (RdT.sp a3 s) p b1) ?_
   rintro e b7 ⟨rfl, a4⟩
   refine ⟨_, rfl, ?_⟩
   have b2 := SP.call s a4
   clear a4
   refine iS 3 ?_
   refine Qz (e := eU8) (l := (List.replicate 32 (0 : UInt8))) (m := 32) (t := 89) (z := .agg (Qb eU8 (List.replicate 32 (0 : UInt8))).toArray) (d := (some 4)) (k := 2) K rfl K rfl rfl K b2 ?_
   intro u b8 b3
   refine iS 4 ?_
   refine Q8 (e := eU8) (l := (List.replicate 32 (0 : UInt8))) (l' := p) (m := 32) (t := 89) (x := (.tmp 4)) (y := (.tmp 9)) (g := u) (i := 2) (d := none) (k := 3) K rfl K K a1 b3 rfl K ?_
   intro b9 a2
   refine iF ?_
   refine aR ?_
   refine iS 1 ?_
   refine X1 (e := eU8) (l := p) (m := 32) (g := u) (T := 89) (E := 5) (x := (.tmp 4)) (q := 2) (d := (some 10)) (k := 0) K rfl K K K a2 rfl ?_
   refine iR 1 2 [(0, (.slice (some ⟨u, 0, none⟩) (List.length p) 32))] ?_
   refine iF ?_
   exact ⟨p, (some ⟨u, 0, none⟩), 32, ⟨K, K, K, trivial⟩, SP.sel a2 [0, 1] rfl rfl, (Qu (SP.get a2 (i := 2) rfl)), H⟩
  ·have H := cf H a0
   refine At.skip K ?_
   exact ⟨p1, A2, c3, ⟨K, K, K, trivial⟩, SP.sel s [0, 1] rfl rfl, (RdT.sp a3 s), H⟩
 ·rintro ρ w32 ⟨c, h, j, hk, v, b4, H⟩
  unfold Rp at H
  first | refine At.known [(0, (.slice h (List.length c) j)), (2, (pt g5 0)), (3, (pt g9 0))] hk ?_ | rw [← Va (l := [(0, (.slice h (List.length c) j)), (2, (pt g5 0)), (3, (pt g9 0))]) hk]
  have c0 := Q5 (SP.get v (i := 0) rfl)
  have b5 := Q5 (SP.get v (i := 1) rfl)
  refine aQ ?_
  refine aR ?_
  refine iS 1 ?_
  refine X1 (e := eU8) (l := (List.replicate 64 (0 : UInt8))) (m := 64) (g := g9) (T := 125) (E := 5) (x := (.tmp 3)) (q := 1) (d := (some 11)) (k := 0) K rfl K K K v rfl ?_
  refine iR 1 2 [(12, (.slice h (List.length c) j))] ?_
  obtain ⟨f, hyl36, H⟩ := Vz H
  have hnl36 : List.length f = List.length (List.replicate 64 (0 : UInt8)) := by rw [← hyl36]; exact Dn (by omega)
  refine iS 3 ?_
  refine Bu (e := eU8) (l := (List.replicate 64 (0 : UInt8))) (y' := c) (l' := f) (m := 64) (g := g9) (lo := 0) (dl := (List.length (List.replicate 64 (0 : UInt8)))) (T := 52) (T2 := 52) (E := 5) (x := (.tmp 11)) (y := (.tmp 12)) (i := 1) (A := (some ⟨g9, 0, none⟩)) (dc := 64) (A2 := h) (c2 := j) (d := (some 13)) (k := 2) K rfl K K K K rfl v rfl (Eb) (by omega) b4 hyl36 ?_
  intro b6 a5 _
  have a6 : SP [] w0 b6 [Vc 125 eU8 g5 64 (List.replicate 64 (0 : UInt8)), Vc 125 eU8 g9 64 f] := a5
  clear a5
  refine In.known [(11, (.slice (some ⟨g9, 0, none⟩) (List.length f) 64))] ⟨(by rw [hnl36]; kernel_rfl), trivial⟩ ?_
  refine iF ?_
  refine aQ ?_
  refine aR ?_
  refine iS 1 ?_
  refine V3 (e := eU8) (l := f) (m := 64) (t := 125) (x := (.tmp 3)) (g := g9) (i := 1) (d := (some 14)) (k := 0) K rfl K a6 rfl K K ?_
  refine iS 2 ?_
  refine Q8 (e := eU8) (l := (List.replicate 64 (0 : UInt8))) (l' := f) (m := 64) (t := 125) (x := (.tmp 2)) (y := (.tmp 14)) (g := g5) (i := 0) (d := none) (k := 1) K rfl K K (hnl36.trans b5) a6 rfl K ?_
  intro c1 a7
  refine iF ?_
  refine At.ret K ?_
  refine ⟨(.agg (Qb eU8 f).toArray), Bc K (J7 (e := eU8) (l := f) (a := 2) (t := 125) K (SP.get a7 (i := 0) rfl) K K), ?_⟩
  obtain rfl := Qm H
  exact ⟨rfl, SP.sel a7 [] rfl rfl⟩
def N8 (d : (List UInt8) → Int → Option ((List UInt8))) (p3 : UInt8) (p4 : (List UInt8)) (b : (List UInt8)) (a : Int) : Option ((List UInt8)) :=
  (cond (decide (a < 64)) ((idx b a).bind fun e => ((idx b a).bind fun h => ((some (List.set b (Int.toNat a) (Rx (V0 .u8 ((e).toNat : Int) ((p3).toNat : Int))))).bind fun f => (d f (IntKind.wrap .i64 (a + 1)))))) ((app b p4).bind fun g => ((Gs g).bind fun c => ((chk (Nat.beq (List.length c) 32)).bind fun _ => (some (c))))))
def Uu (p3 : UInt8) (p4 : (List UInt8)) : Nat → (List UInt8) → Int → Option ((List UInt8))
  | 0, _, _ => none
  | f + 1, a, b => N8  (Uu p3 p4 f) p3 p4 a b
def Gc (p1 : (List UInt8)) (p3 : UInt8) (p4 : (List UInt8)) : Option ((List UInt8)) :=
  (Uu p3 p4 Z0 p1 0)
set_option maxRecDepth 100000 in
set_option maxHeartbeats 4000000 in
theorem Gt (A5 : Option Addr) (c6 : Nat) (p1 : (List UInt8)) (p3 : UInt8) (p4 : (List UInt8)) (w0 : World) (b3 : List.length p1 = 64) (b4 : RdT eU8 w0 A5 c6 p4) (r : ((List UInt8))) (H : Gc p1 p3 p4 = some r) :
  Calls Tryz.prog 91 #[(.agg (Qb eU8 p1).toArray), (.int .u8 ((p3).toNat : Int)), (.slice A5 (List.length p4) c6)] w0 (fun e w' => e = .returned (.agg (Qb eU8 r).toArray) ∧ SP [] w0 w' []) := by
 unfold Gc at H
 refine Qv (n := 22) Tryz.func91 K K K ?_
 have b5 := Q1 [] w0
 refine aQ ?_
 refine aR ?_
 refine iS 1 ?_
 refine De (e := eU8) (l := p1) (m := 64) (t := 125) (x := (.tmp 0)) (d := (some 3)) (k := 0) K rfl K b3 K b5 ?_
 intro g8 w9 b6
 refine iS 2 ?_
 refine Qz (e := eU8) (l := (List.replicate 32 (0 : UInt8))) (m := 32) (t := 89) (z := .agg (Qb eU8 (List.replicate 32 (0 : UInt8))).toArray) (d := (some 6)) (k := 1) K rfl K rfl rfl K b6 ?_
 intro p c7 b7
 refine iF ?_
 refine aQ ?_
 refine aQ ?_
 refine aR ?_
 refine iR 1 1 [(8, (.int .i64 0))] ?_
 refine iF ?_
 refine Zj K (id := 0) K ?_
 refine Jk K (fun f1 ρ w => ∃ (f : (List UInt8)) (c : Int), V8 ρ [(1, (.int .u8 ((p3).toNat : Int))), (2, (.slice A5 (List.length p4) c6)), (3, (pt g8 0)), (6, (pt p 0)), (8, (.int .i64 c))] ∧ SP [] w0 w [Vc 125 eU8 g8 64 f, Vc 89 eU8 p 32 (List.replicate 32 (0 : UInt8))] ∧ Uu p3 p4 f1 f c = some r) (by rintro ρ w ⟨f, c, hk, hs, H⟩; cases H) ?_ Z0 ?_
 ·rintro f1 ρ c8 ⟨f, c, hk, h, H⟩
  refine At.known [(1, (.int .u8 ((p3).toNat : Int))), (2, (.slice A5 (List.length p4) c6)), (3, (pt g8 0)), (6, (pt p 0)), (8, (.int .i64 c))] hk ?_
  replace H := (show N8 (Uu p3 p4 f1) p3 p4 f c = some r from H)
  unfold N8 at H
  have c9 := Q5 (SP.get h (i := 0) rfl)
  have d0 := Q5 (SP.get h (i := 1) rfl)
  refine aQ ?_
  refine aR ?_
  refine iR 1 1 [(9, (.bool (decide (c < 64))))] ?_
  refine iF ?_
  refine aQ ?_
  refine Zi K (o := (.tmp 9)) K (b := (decide (c < 64))) K (fun a1 => ?_) (fun a1 => ?_)
  ·have H := ct H a1
   refine At.skip K ?_
   refine aQ ?_
   refine Zj K (id := 1) K ?_
   refine aQ ?_
   refine aR ?_
   refine iR 2 2 [(10, (.int .i64 c)), (7, (.int .i64 c))] ?_
   refine iF ?_
   refine aR ?_
   refine iR 1 1 [(11, (.int .i64 c))] ?_
   obtain ⟨u, a3, a4, b8, H⟩ := Qn H
   refine iS 2 ?_
   refine Qg (e := eU8) (l := f) (m := 64) (g := g8) (T := 125) (E := 5) (x := (.tmp 3)) (ix := (.tmp 11)) (ki := .i64) (iz := c) (i := 0) (d := (some 12)) (k := 1) K rfl K K K K h rfl a3 a4 ?_
   refine iS 3 ?_
   refine sC 5 12 g8 (0 + Int.toNat c * eU8.sz) (.int .u8 ((u).toNat : Int)) 13 (Qh (e := eU8) (Qe (Qu (SP.get h (i := 0) rfl)) rfl a3 a4) b8 (j := 0) rfl) ?_
   refine iR 2 5 [(14, (.int .u8 ((p3).toNat : Int))), (15, (.int .u8 (V0 .u8 ((u).toNat : Int) ((p3).toNat : Int))))] ?_
   obtain ⟨d1, a5, a6, d2, H⟩ := Qn H
   refine iS 6 ?_
   refine Qg (e := eU8) (l := f) (m := 64) (g := g8) (T := 125) (E := 5) (x := (.tmp 3)) (ix := (.tmp 11)) (ki := .i64) (iz := c) (i := 0) (d := (some 16)) (k := 5) K rfl K K K K h rfl a5 a6 ?_
   obtain ⟨a7, hyl133, H⟩ := Vz H
   have hnl133 : List.length a7 = List.length f := by rw [← hyl133, List.length_set]
   refine iS 7 ?_
   refine V9 (e := eU8) (t := 5) (x := (.tmp 16)) (y := (.tmp 15)) (l := f) (iz := c) (m := 64) (g := g8) (b := g8) (off := 0) (i := 0) (v := (.int .u8 (V0 .u8 ((u).toNat : Int) ((p3).toNat : Int)))) (x' := (Rx (V0 .u8 ((u).toNat : Int) ((p3).toNat : Int)))) (d := none) (k := 6) K rfl rfl K K h rfl rfl a6 a5 (by show [Value.int .u8 (((Rx (V0 .u8 ((u).toNat : Int) ((p3).toNat : Int)))).toNat : Int)] = _; rw [Gg (u8_xor _ _)]) K ?_
   rw [hyl133]
   intro d3 b9
   refine In.known [] trivial ?_
   refine iF ?_
   refine aR ?_
   refine iR 2 2 [(17, (.int .i64 (IntKind.wrap .i64 (c + 1)))), (8, (.int .i64 (IntKind.wrap .i64 (c + 1))))] ?_
   refine iF ?_
   exact ⟨a7, (IntKind.wrap .i64 (c + 1)), ⟨K, K, K, K, K, trivial⟩, SP.sel b9 [0, 1] rfl rfl, H⟩
  ·have H := cf H a1
   refine At.exit K (id := 0) K ?_
   refine aQ ?_
   refine aR ?_
   refine iS 1 ?_
   refine X1 (e := eU8) (l := f) (m := 64) (g := g8) (T := 125) (E := 5) (x := (.tmp 3)) (q := 0) (d := (some 18)) (k := 0) K rfl K K K h rfl ?_
   refine iR 1 2 [(19, (.slice A5 (List.length p4) c6))] ?_
   obtain ⟨hl137, H⟩ := Xw H
   obtain ⟨a8, hyl138⟩ : ∃ y, f ++ p4 = y := ⟨_, rfl⟩
   rw [hyl138] at H
   refine iS 3 ?_
   refine Fe (e := eU8) (l := f) (y := p4) (l' := a8) (m := 64) (g := g8) (T := 52) (TX := 52) (E := 5) (b := 1) (s := (.tmp 18)) (x := (.tmp 19)) (i := 0) (vx := (.slice A5 (List.length p4) c6)) (d := (some 20)) (k := 2) K rfl K K K K rfl h rfl (Uw (E := 5) K (RdT.sp b4 h)) hl137 hyl138 ?_
   intro c0 c1 a9 b0 c2
   have c3 : SP [] w0 a9 [Vc 125 eU8 g8 64 f, Vc 89 eU8 p 32 (List.replicate 32 (0 : UInt8))] := b0
   clear b0
   obtain ⟨a0, c4, H⟩ := Qf H
   obtain ⟨a2, H⟩ := Vv H
   replace a2 := Nat.eq_of_beq_eq_true a2
   refine iS 4 ?_
   refine cF 100 #[(.tmp 20)] #[52] 21 Tryz.call100 (G5 c0 c1 a8 a9 c2 a0 c4) ?_
   rintro e d4 ⟨rfl, b1⟩
   refine ⟨_, rfl, ?_⟩
   have c5 := SP.call c3 b1
   clear b1
   refine iS 5 ?_
   refine Q8 (e := eU8) (l := (List.replicate 32 (0 : UInt8))) (l' := a0) (m := 32) (t := 89) (x := (.tmp 6)) (y := (.tmp 21)) (g := p) (i := 1) (d := none) (k := 4) K rfl K K a2 c5 rfl K ?_
   intro d5 b2
   refine iF ?_
   refine At.ret K ?_
   refine ⟨(.agg (Qb eU8 a0).toArray), Bc K (J7 (e := eU8) (l := a0) (a := 6) (t := 89) K (SP.get b2 (i := 1) rfl) K K), ?_⟩
   obtain rfl := Qm H
   exact ⟨rfl, SP.sel b2 [] rfl rfl⟩
 ·exact ⟨p1, 0, ⟨K, K, K, K, K, trivial⟩, SP.sel b7 [0, 1] rfl rfl, H⟩
def Cp (p1 : (List UInt8)) (p5 : (List UInt8)) : Option ((List UInt8)) :=
  ((Ep p1).bind fun a => ((chk (Nat.beq (List.length a) 64)).bind fun _ => ((Gc a (54 : UInt8) p5).bind fun b => ((chk (Nat.beq (List.length b) 32)).bind fun _ => ((Gc a (92 : UInt8) b).bind fun c => ((chk (Nat.beq (List.length c) 32)).bind fun _ => (some (c))))))))
set_option maxRecDepth 100000 in
set_option maxHeartbeats 4000000 in
theorem Cy (A2 : Option Addr) (c3 : Nat) (A6 : Option Addr) (c7 : Nat) (p1 : (List UInt8)) (p5 : (List UInt8)) (w0 : World) (a7 : RdT eU8 w0 A2 c3 p1) (a8 : RdT eU8 w0 A6 c7 p5) (r : ((List UInt8))) (H : Cp p1 p5 = some r) :
  Calls Tryz.prog 70 #[(.slice A2 (List.length p1) c3), (.slice A6 (List.length p5) c7)] w0 (fun e w' => e = .returned (.agg (Qb eU8 r).toArray) ∧ SP [] w0 w' []) := by
 unfold Cp at H
 refine Qv (n := 18) Tryz.func70 K K K ?_
 have a9 := Q1 [] w0
 refine aQ ?_
 refine aR ?_
 refine iS 1 ?_
 refine Qz (e := eU8) (l := (List.replicate 32 (0 : UInt8))) (m := 32) (t := 89) (z := .agg (Qb eU8 (List.replicate 32 (0 : UInt8))).toArray) (d := (some 4)) (k := 0) K rfl K rfl rfl K a9 ?_
 intro g9 b0 a1
 refine iF ?_
 refine aQ ?_
 refine aR ?_
 refine iR 1 1 [(8, (.slice A2 (List.length p1) c3))] ?_
 obtain ⟨b, b1, H⟩ := Qf H
 obtain ⟨s, H⟩ := Vv H
 replace s := Nat.eq_of_beq_eq_true s
 refine iS 2 ?_
 refine cF 92 #[(.tmp 8)] #[52] 9 Tryz.call92 (Er A2 c3 p1 b0 (RdT.sp a7 a1) b b1) ?_
 rintro e c8 ⟨rfl, a2⟩
 refine ⟨_, rfl, ?_⟩
 have b2 := SP.call a1 a2
 clear a2
 refine iS 3 ?_
 refine Qz (e := eU8) (l := (List.replicate 64 (0 : UInt8))) (m := 64) (t := 125) (z := .agg (Qb eU8 (List.replicate 64 (0 : UInt8))).toArray) (d := (some 6)) (k := 2) K rfl K rfl rfl K b2 ?_
 intro p c9 b3
 refine iR 1 4 [(5, (.func (.func 91) #[] #[]))] ?_
 refine iS 5 ?_
 refine Q8 (e := eU8) (l := (List.replicate 64 (0 : UInt8))) (l' := b) (m := 64) (t := 125) (x := (.tmp 6)) (y := (.tmp 9)) (g := p) (i := 1) (d := none) (k := 4) K rfl K K s b3 rfl K ?_
 intro b4 u
 refine iF ?_
 refine aQ ?_
 refine aR ?_
 refine iR 1 1 [(10, (.func (.func 91) #[] #[]))] ?_
 refine iS 2 ?_
 refine V3 (e := eU8) (l := b) (m := 64) (t := 125) (x := (.tmp 6)) (g := p) (i := 1) (d := (some 11)) (k := 1) K rfl K u rfl K K ?_
 refine iR 1 3 [(12, (.slice A6 (List.length p5) c7))] ?_
 obtain ⟨j, b5, H⟩ := Qf H
 obtain ⟨v, H⟩ := Vv H
 replace v := Nat.eq_of_beq_eq_true v
 refine iS 4 ?_
 refine X2 (f := 91) (fo := (.tmp 10)) (xs := #[(.tmp 11), (.const (.int .u8 (54))), (.tmp 12)]) (tys := #[125, 5, 52]) (first := #[]) (captured := #[]) (d := (some 13)) (k := 3) K rfl K K Tryz.call91 (Gt A6 c7 b (54 : UInt8) p5 b4 s (RdT.sp a8 u) j b5) ?_
 rintro e d0 ⟨rfl, a3⟩
 refine ⟨_, rfl, ?_⟩
 have b6 := SP.call u a3
 clear a3
 refine iS 5 ?_
 refine Qz (e := eU8) (l := (List.replicate 32 (0 : UInt8))) (m := 32) (t := 89) (z := .agg (Qb eU8 (List.replicate 32 (0 : UInt8))).toArray) (d := (some 7)) (k := 4) K rfl K rfl rfl K b6 ?_
 intro o d1 b7
 refine iS 6 ?_
 refine Q8 (e := eU8) (l := (List.replicate 32 (0 : UInt8))) (l' := j) (m := 32) (t := 89) (x := (.tmp 7)) (y := (.tmp 13)) (g := o) (i := 2) (d := none) (k := 5) K rfl K K v b7 rfl K ?_
 intro d2 b8
 refine iF ?_
 refine aQ ?_
 obtain ⟨c, b9, H⟩ := Qf H
 obtain ⟨w, H⟩ := Vv H
 replace w := Nat.eq_of_beq_eq_true w
 refine aG [GEq (.func (.func 91) #[] #[]), GEq (.agg (Qb eU8 b).toArray), GEq (.slice (some ⟨o, 0, none⟩) (List.length j) 32), GEq (.agg (Qb eU8 c).toArray), Bq] [3, 4] [sG [] [] [] w0 [Vc 89 eU8 g9 32 (List.replicate 32 (0 : UInt8)), Vc 125 eU8 p 64 b, Vc 89 eU8 o 32 j], sG [3] [(.agg (Qb eU8 c).toArray)] [] w0 [Vc 89 eU8 g9 32 (List.replicate 32 (0 : UInt8)), Vc 125 eU8 p 64 b, Vc 89 eU8 o 32 j], sG [3, 4] [(.agg (Qb eU8 c).toArray), undef] [] w0 [Vc 89 eU8 g9 32 c, Vc 125 eU8 p 64 b, Vc 89 eU8 o 32 j]] 5 2 ⟨trivial, SP.drew b8⟩ ?_ ?_
 iterate 5 refine And.intro ?_ ?_
 exact trivial
 ·exact oV (hC (hS 5 (.func (.func 91) #[] #[])) (h0)) (.func (.func 91) #[] #[])
 ·refine oL 0 ?_
  ·rintro ρ' w' hs hah ⟨d3, c0⟩
   refine kM (kc (kS hs 6 (pt p 0)) k0) fun hkn => ?_
   refine V3 (e := eU8) (l := b) (m := 64) (t := 125) (x := (.tmp 6)) (g := p) (i := 1) (d := (some 15)) (k := 1) K rfl K c0 rfl K K ?_
   exact eK hkn
 ·refine oL 0 ?_
  ·rintro ρ' w' hs hah ⟨d4, c1⟩
   refine kM (kc (kS hs 7 (pt o 0)) k0) fun hkn => ?_
   refine X1 (e := eU8) (l := j) (m := 32) (g := o) (T := 89) (E := 5) (x := (.tmp 7)) (q := 2) (d := (some 16)) (k := 2) K rfl K K K c1 rfl ?_
   exact eK hkn
 ·refine oH 0 1 ?_
  ·rintro ρ' w' hs hah ⟨d5, a4⟩
   refine kM (kc (kA hah 0 14) (kc (kA hah 1 15) (kc (kA hah 2 16) k0))) fun hkn => ?_
   refine X2 (f := 91) (fo := (.tmp 14)) (xs := #[(.tmp 15), (.const (.int .u8 (92))), (.tmp 16)]) (tys := #[125, 5, 52]) (first := #[]) (captured := #[]) (d := (some 17)) (k := 3) K rfl K K Tryz.call91 (Gt (some ⟨o, 0, none⟩) 32 b (92 : UInt8) j w' s (Qu (SP.get a4 (i := 2) rfl)) c b9) ?_
   rintro e d6 ⟨rfl, a5⟩
   refine ⟨_, rfl, ?_⟩
   have c2 := SP.call a4 a5
   clear a5
   refine ⟨_, Qa hkn, rfl, ?_⟩
   exact (And.intro (And.intro rfl (trivial)) (c2))
 ·refine oH 1 2 ?_
  ·rintro ρ' w' hs hah ⟨⟨a6, -⟩, c4⟩
   refine kN [(4, (pt g9 0)), (17, (.agg (Qb eU8 c).toArray))] ⟨(hs 4 K).trans K, (Xk (h := 3) K).symm.trans a6, trivial⟩ fun hkn => ?_
   refine Q8 (e := eU8) (l := (List.replicate 32 (0 : UInt8))) (l' := c) (m := 32) (t := 89) (x := (.tmp 4)) (y := (.tmp 17)) (g := g9) (i := 0) (d := none) (k := 4) K rfl K K w c4 rfl K ?_
   intro d7 c5
   refine ⟨_, Qa hkn, trivial, ?_⟩
   exact (And.intro (And.intro a6 (And.intro rfl (trivial))) (c5))
 ·rintro ρ' w' hs hf ⟨⟨d8, d9, -⟩, a0⟩
  refine Vh [(4, (pt g9 0))] ⟨(hs 4 K).trans K, trivial⟩ ?_
  obtain ⟨e0, c6⟩ : ∃ x, w' = x := ⟨_, rfl⟩
  rw [c6] at a0 ⊢
  refine At.ret K ?_
  refine ⟨(.agg (Qb eU8 c).toArray), Bc K (J7 (e := eU8) (l := c) (a := 4) (t := 89) K (SP.get a0 (i := 0) rfl) K K), ?_⟩
  obtain rfl := Qm H
  exact ⟨rfl, SP.sel a0 [] rfl rfl⟩
def Gx (e : (List UInt8) → Int → Option ((List UInt8))) (p1 : (List UInt8)) (p5 : (List (List UInt8))) (b : (List UInt8)) (a : Int) : Option ((List UInt8)) :=
  (cond (decide (a < ((List.length p5 : Nat) : Int))) ((idx p5 a).bind fun c => (cond (decide (((List.length c : Nat) : Int) > 255)) (some (([] : List UInt8))) ((Bw c).bind fun f => ((app b f).bind fun g => (e g (IntKind.wrap .i64 (a + 1))))))) ((Cp p1 b).bind fun d => ((chk (Nat.beq (List.length d) 32)).bind fun _ => ((Df d).bind fun h => (some (h))))))
def Ny (p1 : (List UInt8)) (p5 : (List (List UInt8))) : Nat → (List UInt8) → Int → Option ((List UInt8))
  | 0, _, _ => none
  | f + 1, a, b => Gx  (Ny p1 p5 f) p1 p5 a b
def D3 (p1 : (List UInt8)) (p5 : (List (List UInt8))) : Option ((List UInt8)) :=
  (Ny p1 p5 Z0 ([] : List UInt8) 0)
set_option maxRecDepth 100000 in
set_option maxHeartbeats 4000000 in
theorem Ca (A2 : Option Addr) (c3 : Nat) (A6 : Option Addr) (c7 : Nat) (p1 : (List UInt8)) (p5 : (List (List UInt8))) (w0 : World) (b9 : RdT eU8 w0 A2 c3 p1) (a8 : RdT Qy w0 A6 c7 p5) (r : ((List UInt8))) (H : D3 p1 p5 = some r) :
  Calls Tryz.prog 51 #[(.slice A2 (List.length p1) c3), (.slice A6 (List.length p5) c7)] w0 (fun e w' => e = .returned (.string ⟨List.toArray r⟩) ∧ SP [] w0 w' []) := by
 unfold D3 at H
 refine Qv (n := 28) Tryz.func51 K K K ?_
 have c0 := Q1 [] w0
 refine aQ ?_
 refine aR ?_
 refine iR 1 1 [(4, (.string ⟨List.toArray ([] : List UInt8)⟩))] ?_
 refine iF ?_
 refine aQ ?_
 refine aR ?_
 refine iR 1 1 [(5, (.slice none (List.length ([] : List UInt8)) 0))] ?_
 refine iF ?_
 refine aQ ?_
 refine aQ ?_
 refine aR ?_
 refine iR 3 3 [(9, (.slice A6 (List.length p5) c7)), (10, (.int .i64 ((List.length p5 : Nat) : Int))), (11, (.int .i64 0))] ?_
 refine iF ?_
 refine Zj K (id := 0) K ?_
 refine Jk K (fun f1 ρ w => ∃ (f : (List UInt8)) (a : Int) (h : Option Addr) (p : Nat), V8 ρ [(0, (.slice A2 (List.length p1) c3)), (5, (.slice h (List.length f) p)), (9, (.slice A6 (List.length p5) c7)), (10, (.int .i64 ((List.length p5 : Nat) : Int))), (11, (.int .i64 a))] ∧ SP [] w0 w [Xu 5 eU8 h p f] ∧ Ny p1 p5 f1 f a = some r) (by rintro ρ w ⟨f, a, h, p, hk, hs, H⟩; cases H) ?_ Z0 ?_
 ·rintro f1 ρ a9 ⟨f, a, h, p, hk, v, H⟩
  refine At.known [(0, (.slice A2 (List.length p1) c3)), (5, (.slice h (List.length f) p)), (9, (.slice A6 (List.length p5) c7)), (10, (.int .i64 ((List.length p5 : Nat) : Int))), (11, (.int .i64 a))] hk ?_
  replace H := (show Gx (Ny p1 p5 f1) p1 p5 f a = some r from H)
  unfold Gx at H
  refine aQ ?_
  refine aR ?_
  refine iR 1 1 [(12, (.bool (decide (a < ((List.length p5 : Nat) : Int)))))] ?_
  refine iF ?_
  refine aQ ?_
  refine Zi K (o := (.tmp 12)) K (b := (decide (a < ((List.length p5 : Nat) : Int)))) K (fun a2 => ?_) (fun a2 => ?_)
  ·have H := ct H a2
   refine At.skip K ?_
   refine aQ ?_
   refine Zj K (id := 1) K ?_
   refine aQ ?_
   refine aR ?_
   obtain ⟨u, b0, b1, c1, H⟩ := Qn H
   refine iS 1 ?_
   refine Vj (e := Qy) (l := p5) (A := A6) (c := c7) (T := 53) (E := 9) (x := (.tmp 9)) (ix := (.tmp 11)) (ki := .i64) (iz := a) (d := (some 13)) (k := 0) K rfl K K K K (RdT.sp a8 v) b0 b1 ?_
   intro c2 c4 c5 d7 hc118
   refine iS 2 ?_
   refine sC 9 13 c2 (c4 + Int.toNat a * Qy.sz) (.string ⟨List.toArray u⟩) 14 (Qh (e := Qy) (Qe (RdT.sp a8 v) c5 b0 b1) c1 (j := 0) rfl) ?_
   refine iR 1 3 [(7, (.string ⟨List.toArray u⟩))] ?_
   refine iF ?_
   refine aQ ?_
   refine aQ ?_
   refine aR ?_
   refine iR 3 3 [(15, (.string ⟨List.toArray u⟩)), (16, (.int .i64 ((List.length u : Nat) : Int))), (17, (.bool (decide (((List.length u : Nat) : Int) > 255))))] ?_
   refine iF ?_
   refine Zi K (o := (.tmp 17)) K (b := (decide (((List.length u : Nat) : Int) > 255))) K (fun a3 => ?_) (fun a3 => ?_)
   ·have H := ct H a3
    refine aQ ?_
    refine aR ?_
    refine iR 1 1 [(4, (.string ⟨List.toArray ([] : List UInt8)⟩))] ?_
    refine iF ?_
    refine At.ret K ?_
    refine ⟨(.string ⟨List.toArray ([] : List UInt8)⟩), K, ?_⟩
    obtain rfl := Qm H
    exact ⟨rfl, SP.sel v [] rfl rfl⟩
   ·have H := cf H a3
    refine At.skip K ?_
    refine aR ?_
    refine iR 2 2 [(18, (.slice h (List.length f) p)), (19, (.string ⟨List.toArray u⟩))] ?_
    obtain ⟨a0, c6, H⟩ := Qf H
    refine iS 3 ?_
    refine cF 69 #[(.tmp 19)] #[9] 20 Tryz.call69 (Co  u a9  a0 c6) ?_
    rintro e d8 ⟨c8, c9, rfl, b2⟩
    refine ⟨_, rfl, ?_⟩
    have b3 := SP.call v b2
    clear b2
    obtain ⟨hl130, H⟩ := Xw H
    obtain ⟨b4, hyl131⟩ : ∃ y, f ++ a0 = y := ⟨_, rfl⟩
    rw [hyl131] at H
    refine iS 4 ?_
    refine Qj.append (e := eU8) (l := f) (m := a0) (A := h) (c := p) (T := 52) (TX := 52) (E := 5) (b := 1) (s := (.tmp 18)) (x := (.tmp 20)) (i := 0) (vx := (.slice c8 (List.length a0) c9)) (d := (some 21)) (k := 3) K rfl K K K K rfl b3 rfl (Uw (E := 5) K (Vf (SP.get b3 (i := 1) rfl))) hl130 ?_
    rw [hyl131]
    intro b5 b6 d9 d0
    refine iR 1 5 [(5, (.slice b5 (List.length b4) b6))] ?_
    refine iF ?_
    refine aR ?_
    refine iR 2 2 [(22, (.int .i64 (IntKind.wrap .i64 (a + 1)))), (11, (.int .i64 (IntKind.wrap .i64 (a + 1))))] ?_
    refine iF ?_
    exact ⟨b4, (IntKind.wrap .i64 (a + 1)), b5, b6, ⟨K, K, K, K, K, trivial⟩, SP.sel d0 [0] rfl rfl, H⟩
  ·have H := cf H a2
   refine At.exit K (id := 0) K ?_
   refine aQ ?_
   refine aR ?_
   refine iR 2 2 [(23, (.slice A2 (List.length p1) c3)), (24, (.slice h (List.length f) p))] ?_
   obtain ⟨a1, d1, H⟩ := Qf H
   obtain ⟨a4, H⟩ := Vv H
   replace a4 := Nat.eq_of_beq_eq_true a4
   refine iS 3 ?_
   refine cF 70 #[(.tmp 23), (.tmp 24)] #[52, 52] 25 Tryz.call70 (Cy A2 c3 h p p1 f a9 (RdT.sp b9 v) (Vf (SP.get v (i := 0) rfl)) a1 d1) ?_
   rintro e e0 ⟨rfl, b7⟩
   refine ⟨_, rfl, ?_⟩
   have d2 := SP.call v b7
   clear b7
   refine iS 4 ?_
   refine Qz (e := eU8) (l := (List.replicate 32 (0 : UInt8))) (m := 32) (t := 89) (z := .agg (Qb eU8 (List.replicate 32 (0 : UInt8))).toArray) (d := (some 8)) (k := 3) K rfl K rfl rfl K d2 ?_
   intro a5 e1 d3
   refine iS 5 ?_
   refine Q8 (e := eU8) (l := (List.replicate 32 (0 : UInt8))) (l' := a1) (m := 32) (t := 89) (x := (.tmp 8)) (y := (.tmp 25)) (g := a5) (i := 1) (d := none) (k := 4) K rfl K K a4 d3 rfl K ?_
   intro d4 a6
   refine iF ?_
   refine aQ ?_
   refine aR ?_
   refine iS 1 ?_
   refine X1 (e := eU8) (l := a1) (m := 32) (g := a5) (T := 89) (E := 5) (x := (.tmp 8)) (q := 1) (d := (some 26)) (k := 0) K rfl K K K a6 rfl ?_
   obtain ⟨a7, d5, H⟩ := Qf H
   refine iS 2 ?_
   refine cF 71 #[(.tmp 26)] #[52] 27 Tryz.call71 (Bv (some ⟨a5, 0, none⟩) 32 a1 d4 (Qu (SP.get a6 (i := 1) rfl)) a7 d5) ?_
   rintro e e2 ⟨rfl, b8⟩
   refine ⟨_, rfl, ?_⟩
   have d6 := SP.call a6 b8
   clear b8
   refine iR 1 3 [(4, (.string ⟨List.toArray a7⟩))] ?_
   refine iF ?_
   refine At.ret K ?_
   refine ⟨(.string ⟨List.toArray a7⟩), K, ?_⟩
   obtain rfl := Qm H
   exact ⟨rfl, SP.sel d6 [] rfl rfl⟩
 ·exact ⟨([] : List UInt8), 0, none, 0, ⟨K, K, K, K, K, trivial⟩, SP.sel (Gf c0 5 eU8) [0] rfl rfl, H⟩
end Go.Proofs.YtmgfanhcdfobhaaGreatDoor
namespace Go.Proofs.YtmgfanhcdfobhaaGreatDoor
open Go.RowKit
def Ng (p1 : (List UInt8)) : Option ((List UInt8)) :=
  (cond (decide (((List.length p1 : Nat) : Int) > 255)) (some (([] : List UInt8))) ((app ([(Rx (IntKind.wrap .u8 ((List.length p1 : Nat) : Int)))] : List UInt8) p1).bind fun a => (some (a))))
set_option maxRecDepth 100000 in
set_option maxHeartbeats 4000000 in
theorem Rq  (p1 : (List UInt8)) (w0 : World)  (r : ((List UInt8))) (H : Ng p1 = some r) :
  Calls Tryz.prog 53 #[(.string ⟨List.toArray p1⟩)] w0 (fun e w' => ∃ (A2 : Option Addr) (c3 : Nat), e = .returned (.slice A2 (List.length r) c3) ∧ SP [] w0 w' [Xu 5 eU8 A2 c3 r]) := by
 unfold Ng at H
 refine Qv (n := 12) Tryz.func53 K K K ?_
 have h := Q1 [] w0
 refine aQ ?_
 refine aR ?_
 refine iR 1 1 [(2, (.slice none (List.length ([] : List UInt8)) 0))] ?_
 refine iF ?_
 refine aQ ?_
 refine aQ ?_
 refine aR ?_
 refine iR 3 3 [(3, (.string ⟨List.toArray p1⟩)), (4, (.int .i64 ((List.length p1 : Nat) : Int))), (5, (.bool (decide (((List.length p1 : Nat) : Int) > 255))))] ?_
 refine iF ?_
 refine Zi K (o := (.tmp 5)) K (b := (decide (((List.length p1 : Nat) : Int) > 255))) K (fun a => ?_) (fun a => ?_)
 ·have H := ct H a
  refine aQ ?_
  refine aR ?_
  refine iR 1 1 [(2, (.slice none (List.length ([] : List UInt8)) 0))] ?_
  refine iF ?_
  refine At.ret K ?_
  have p : SP [] w0 w0 [Xu 5 eU8 none 0 ([] : List UInt8)] := Gf h 5 eU8
  refine ⟨(.slice none (List.length ([] : List UInt8)) 0), K, ?_⟩
  obtain rfl := Qm H
  exact ⟨none, 0, rfl, SP.sel p [0] rfl rfl⟩
 ·have H := cf H a
  refine At.skip K ?_
  refine aQ ?_
  refine aR ?_
  refine iR 3 3 [(6, (.string ⟨List.toArray p1⟩)), (7, (.int .i64 ((List.length p1 : Nat) : Int))), (8, (.int .u8 (IntKind.wrap .u8 ((List.length p1 : Nat) : Int))))] ?_
  refine iS 4 ?_
  refine V1 (e := eU8) (T := 52) (E := 5) (len := 1) (parts := #[(0, (.tmp 8))]) (cs := #[(.int .u8 (IntKind.wrap .u8 ((List.length p1 : Nat) : Int)))]) ([(Rx (IntKind.wrap .u8 ((List.length p1 : Nat) : Int)))] : List UInt8) (d := (some 9)) (k := 3) K rfl (fun _ => K) h (Y0 (Or.inr ⟨rfl, (R8 _)⟩) rfl) rfl rfl rfl ?_
  intro g7 w8 q
  refine iR 1 5 [(10, (.string ⟨List.toArray p1⟩))] ?_
  obtain ⟨hl11, H⟩ := Xw H
  obtain ⟨j, hyl12⟩ : ∃ y, ([(Rx (IntKind.wrap .u8 ((List.length p1 : Nat) : Int)))] : List UInt8) ++ p1 = y := ⟨_, rfl⟩
  rw [hyl12] at H
  refine iS 6 ?_
  refine Qj.append (e := eU8) (l := ([(Rx (IntKind.wrap .u8 ((List.length p1 : Nat) : Int)))] : List UInt8)) (m := p1) (A := (some ⟨g7, 0, none⟩)) (c := (List.length ([(Rx (IntKind.wrap .u8 ((List.length p1 : Nat) : Int)))] : List UInt8))) (T := 52) (TX := 9) (E := 5) (b := 1) (s := (.tmp 9)) (x := (.tmp 10)) (i := 0) (vx := (.string ⟨List.toArray p1⟩)) (d := (some 11)) (k := 5) K rfl K K K K rfl q rfl (src_str K p1) hl11 ?_
  rw [hyl12]
  intro f g u t
  refine iR 1 7 [(2, (.slice f (List.length j) g))] ?_
  refine iF ?_
  refine At.ret K ?_
  refine ⟨(.slice f (List.length j) g), K, ?_⟩
  obtain rfl := Qm H
  exact ⟨f, g, rfl, SP.sel t [0] rfl rfl⟩
end Go.Proofs.YtmgfanhcdfobhaaGreatDoor
namespace Go.Proofs.YtmgfanhcdfobhaaGreatDoor
open Go.RowKit
def Y8 (f : (List UInt8) → Option ((List UInt8))) (c : (List UInt8) → Int → Option ((List UInt8))) (p5 : UInt8) (b : (List UInt8)) (a : Int) : Option ((List UInt8)) :=
  (cond (decide (a < 64)) ((idx b a).bind fun d => ((idx b a).bind fun g => ((some (List.set b (Int.toNat a) (Rx (V0 .u8 ((d).toNat : Int) ((p5).toNat : Int))))).bind fun e => (c e (IntKind.wrap .i64 (a + 1)))))) (some (b)))
def Xy (a : (List UInt8) → Option ((List UInt8))) (p5 : UInt8) : Nat → (List UInt8) → Int → Option ((List UInt8))
  | 0, _, _ => none
  | f + 1, b, c => Y8 a (Xy a p5 f) p5 b c
def Y9 (b : (List UInt8) → Option ((List UInt8))) (p5 : UInt8) (a : (List UInt8)) : Option ((List UInt8)) :=
  (cond (decide (((List.length a : Nat) : Int) < 64)) ((app a ([(0 : UInt8)] : List UInt8)).bind fun c => (b c)) (Xy b p5 Z0 a 0))
def Zc (p5 : UInt8) : Nat → (List UInt8) → Option ((List UInt8))
  | 0, _ => none
  | f + 1, a => Y9  (Zc p5 f) p5 a
def Xz (p5 : UInt8) (a : (List UInt8)) : Option ((List UInt8)) :=
  (Zc p5 Z0 a)
def Yu (p1 : (List UInt8)) (p5 : UInt8) : Option ((List UInt8)) :=
  ((app ([] : List UInt8) p1).bind fun a => (cond (decide (((List.length a : Nat) : Int) > 64)) ((Yy a).bind fun b => ((chk (Nat.beq (List.length b) 32)).bind fun _ => ((app ([] : List UInt8) b).bind fun c => (Xz p5 c)))) (Xz p5 a)))
set_option maxRecDepth 100000 in
set_option maxHeartbeats 4000000 in
theorem Uq (A2 : Option Addr) (c3 : Nat) (p1 : (List UInt8)) (p5 : UInt8) (w0 : World) (d5 : RdT eU8 w0 A2 c3 p1) (r : ((List UInt8))) (H : Yu p1 p5 = some r) :
  Calls Tryz.prog 73 #[(.slice A2 (List.length p1) c3), (.int .u8 ((p5).toNat : Int))] w0 (fun e w' => ∃ (A6 : Option Addr) (c7 : Nat), e = .returned (.slice A6 (List.length r) c7) ∧ SP [] w0 w' [Xu 5 eU8 A6 c7 r]) := by
 unfold Yu at H
 refine Qv (n := 39) Tryz.func73 K K K ?_
 have d6 := Q1 [] w0
 refine aQ ?_
 refine aR ?_
 refine iR 1 1 [(4, (.slice none (List.length ([] : List UInt8)) 0))] ?_
 refine iF ?_
 refine aQ ?_
 refine aR ?_
 refine iS 1 ?_
 refine V1 (e := eU8) (T := 52) (E := 5) (len := 0) (parts := #[]) (cs := #[]) ([] : List UInt8) (d := (some 8)) (k := 0) K rfl (fun _ => K) d6 rfl rfl rfl rfl ?_
 intro g8 w9 b9
 refine iR 1 2 [(9, (.slice A2 (List.length p1) c3))] ?_
 obtain ⟨hl12, H⟩ := Xw H
 obtain ⟨a2, hyl13⟩ : ∃ y, ([] : List UInt8) ++ p1 = y := ⟨_, rfl⟩
 rw [hyl13] at H
 refine iS 3 ?_
 refine Qj.append (e := eU8) (l := ([] : List UInt8)) (m := p1) (A := (some ⟨g8, 0, none⟩)) (c := (List.length ([] : List UInt8))) (T := 52) (TX := 52) (E := 5) (b := 1) (s := (.tmp 8)) (x := (.tmp 9)) (i := 0) (vx := (.slice A2 (List.length p1) c3)) (d := (some 10)) (k := 2) K rfl K K K K rfl b9 rfl (Uw (E := 5) K (RdT.sp d5 b9)) hl12 ?_
 rw [hyl13]
 intro a7 a8 d7 b2
 refine iR 1 4 [(5, (.slice a7 (List.length a2) a8))] ?_
 refine iF ?_
 refine aQ ?_
 refine aQ ?_
 refine aR ?_
 refine iR 3 3 [(11, (.slice a7 (List.length a2) a8)), (12, (.int .i64 ((List.length a2 : Nat) : Int))), (13, (.bool (decide (((List.length a2 : Nat) : Int) > 64))))] ?_
 refine iF ?_
 refine At.join (fun ρ w => ∃ (a3 : (List UInt8)) (a4 : Option Addr) (a5 : Nat), V8 ρ [(1, (.int .u8 ((p5).toNat : Int))), (5, (.slice a4 (List.length a3) a5))] ∧ SP [] w0 w [Xu 5 eU8 a4 a5 a3] ∧ Xz p5 a3 = some r) ?_ ?_
 ·refine Zi K (o := (.tmp 13)) K (b := (decide (((List.length a2 : Nat) : Int) > 64))) K (fun b3 => ?_) (fun b3 => ?_)
  ·have H := ct H b3
   refine aQ ?_
   refine aR ?_
   refine iR 1 1 [(14, (.slice a7 (List.length a2) a8))] ?_
   obtain ⟨a6, d8, H⟩ := Qf H
   obtain ⟨b4, H⟩ := Vv H
   replace b4 := Nat.eq_of_beq_eq_true b4
   refine iS 2 ?_
   refine cF 72 #[(.tmp 14)] #[52] 15 Tryz.call72 (Jp a7 a8 a2 d7 (Vf (SP.get b2 (i := 0) rfl)) a6 d8) ?_
   rintro e f7 ⟨rfl, c0⟩
   refine ⟨_, rfl, ?_⟩
   have d9 := SP.call b2 c0
   clear c0
   refine iS 3 ?_
   refine Qz (e := eU8) (l := (List.replicate 32 (0 : UInt8))) (m := 32) (t := 89) (z := .agg (Qb eU8 (List.replicate 32 (0 : UInt8))).toArray) (d := (some 6)) (k := 2) K rfl K rfl rfl K d9 ?_
   intro b5 f8 e0
   refine iS 4 ?_
   refine Q8 (e := eU8) (l := (List.replicate 32 (0 : UInt8))) (l' := a6) (m := 32) (t := 89) (x := (.tmp 6)) (y := (.tmp 15)) (g := b5) (i := 1) (d := none) (k := 3) K rfl K K b4 e0 rfl K ?_
   intro f9 e1
   refine iF ?_
   refine aR ?_
   refine iS 1 ?_
   refine V1 (e := eU8) (T := 52) (E := 5) (len := 0) (parts := #[]) (cs := #[]) ([] : List UInt8) (d := (some 16)) (k := 0) K rfl (fun _ => K) e1 rfl rfl rfl rfl ?_
   intro e2 g0 b6
   refine iS 2 ?_
   refine X1 (e := eU8) (l := a6) (m := 32) (g := b5) (T := 89) (E := 5) (x := (.tmp 6)) (q := 1) (d := (some 17)) (k := 1) K rfl K K K b6 rfl ?_
   obtain ⟨hl540, H⟩ := Xw H
   obtain ⟨c1, hyl541⟩ : ∃ y, ([] : List UInt8) ++ a6 = y := ⟨_, rfl⟩
   rw [hyl541] at H
   refine iS 3 ?_
   refine Qj.append (e := eU8) (l := ([] : List UInt8)) (m := a6) (A := (some ⟨e2, 0, none⟩)) (c := (List.length ([] : List UInt8))) (T := 52) (TX := 52) (E := 5) (b := 1) (s := (.tmp 16)) (x := (.tmp 17)) (i := 2) (vx := (.slice (some ⟨b5, 0, none⟩) (List.length a6) 32)) (d := (some 18)) (k := 2) K rfl K K K K rfl b6 rfl (Uw (E := 5) K (Qu (SP.get b6 (i := 1) rfl))) hl540 ?_
   rw [hyl541]
   intro c2 c4 g1 e3
   refine iR 1 4 [(5, (.slice c2 (List.length c1) c4))] ?_
   refine iF ?_
   exact ⟨c1, c2, c4, ⟨K, K, trivial⟩, SP.sel e3 [2] rfl rfl, H⟩
  ·have H := cf H b3
   refine At.skip K ?_
   exact ⟨a2, a7, a8, ⟨K, K, trivial⟩, SP.sel b2 [0] rfl rfl, H⟩
 ·rintro ρ g2 ⟨a3, a4, a5, hk, e4, H⟩
  unfold Xz at H
  first | refine At.known [(1, (.int .u8 ((p5).toNat : Int))), (5, (.slice a4 (List.length a3) a5))] hk ?_ | rw [← Va (l := [(1, (.int .u8 ((p5).toNat : Int))), (5, (.slice a4 (List.length a3) a5))]) hk]
  refine aQ ?_
  refine Zj K (id := 0) K ?_
  refine Jk K (fun f5 ρ w => ∃ (u : (List UInt8)) (a0 : Option Addr) (a1 : Nat), V8 ρ [(1, (.int .u8 ((p5).toNat : Int))), (5, (.slice a0 (List.length u) a1))] ∧ SP [] w0 w [Xu 5 eU8 a0 a1 u] ∧ Zc p5 f5 u = some r) (by rintro ρ w ⟨u, a0, a1, hk, hs, H⟩; cases H) ?_ Z0 ?_
  ·rintro f5 ρ g3 ⟨u, a0, a1, hk, c5, H⟩
   refine At.known [(1, (.int .u8 ((p5).toNat : Int))), (5, (.slice a0 (List.length u) a1))] hk ?_
   replace H := (show Y9 (Zc p5 f5) p5 u = some r from H)
   unfold Y9 at H
   refine aQ ?_
   refine aQ ?_
   refine aR ?_
   refine iR 3 3 [(19, (.slice a0 (List.length u) a1)), (20, (.int .i64 ((List.length u : Nat) : Int))), (21, (.bool (decide (((List.length u : Nat) : Int) < 64))))] ?_
   refine iF ?_
   refine Zi K (o := (.tmp 21)) K (b := (decide (((List.length u : Nat) : Int) < 64))) K (fun b7 => ?_) (fun b7 => ?_)
   ·have H := ct H b7
    refine At.skip K ?_
    refine Zj K (id := 1) K ?_
    refine aR ?_
    refine iR 1 1 [(22, (.slice a0 (List.length u) a1))] ?_
    refine iS 2 ?_
    refine V1 (e := eU8) (T := 52) (E := 5) (len := 1) (parts := #[(0, (.const (.int .u8 (0))))]) (cs := #[(.int .u8 0)]) ([(0 : UInt8)] : List UInt8) (d := (some 23)) (k := 1) K rfl (fun _ => K) c5 (Y0 (Or.inl rfl) rfl) rfl rfl rfl ?_
    intro e5 g4 c6
    obtain ⟨hl411, H⟩ := Xw H
    obtain ⟨c8, hyl412⟩ : ∃ y, u ++ ([(0 : UInt8)] : List UInt8) = y := ⟨_, rfl⟩
    rw [hyl412] at H
    refine iS 3 ?_
    refine Qj.append (e := eU8) (l := u) (m := ([(0 : UInt8)] : List UInt8)) (A := a0) (c := a1) (T := 52) (TX := 52) (E := 5) (b := 1) (s := (.tmp 22)) (x := (.tmp 23)) (i := 0) (vx := (.slice (some ⟨e5, 0, none⟩) (List.length ([(0 : UInt8)] : List UInt8)) (List.length ([(0 : UInt8)] : List UInt8)))) (d := (some 24)) (k := 2) K rfl K K K K rfl c6 rfl (Uw (E := 5) K (Vf (SP.get c6 (i := 1) rfl))) hl411 ?_
    rw [hyl412]
    intro c9 d0 g5 e6
    refine iR 1 4 [(5, (.slice c9 (List.length c8) d0))] ?_
    refine iF ?_
    exact ⟨c8, c9, d0, ⟨K, K, trivial⟩, SP.sel e6 [0] rfl rfl, H⟩
   ·have H := cf H b7
    refine At.exit K (id := 0) K ?_
    refine aQ ?_
    refine aQ ?_
    refine aR ?_
    refine iR 1 1 [(7, (.int .i64 0))] ?_
    refine iF ?_
    refine Zj K (id := 2) K ?_
    refine Jk K (fun f6 ρ w => ∃ (p : (List UInt8)) (a : Int) (f : Option Addr) (h : Nat), V8 ρ [(1, (.int .u8 ((p5).toNat : Int))), (5, (.slice f (List.length p) h)), (7, (.int .i64 a))] ∧ SP [] w0 w [Xu 5 eU8 f h p] ∧ Xy (Zc p5 f5) p5 f6 p a = some r) (by rintro ρ w ⟨p, a, f, h, hk, hs, H⟩; cases H) ?_ Z0 ?_
    ·rintro f6 ρ g6 ⟨p, a, f, h, hk, a9, H⟩
     refine At.known [(1, (.int .u8 ((p5).toNat : Int))), (5, (.slice f (List.length p) h)), (7, (.int .i64 a))] hk ?_
     replace H := (show Y8 (Zc p5 f5) (Xy (Zc p5 f5) p5 f6) p5 p a = some r from H)
     unfold Y8 at H
     refine aQ ?_
     refine aQ ?_
     refine aR ?_
     refine iR 2 2 [(25, (.int .i64 a)), (26, (.bool (decide (a < 64))))] ?_
     refine iF ?_
     refine Zi K (o := (.tmp 26)) K (b := (decide (a < 64))) K (fun b8 => ?_) (fun b8 => ?_)
     ·have H := ct H b8
      refine At.skip K ?_
      refine aQ ?_
      refine Zj K (id := 3) K ?_
      refine aR ?_
      refine iR 4 4 [(29, (.slice f (List.length p) h)), (30, (.int .i64 a)), (31, (.slice f (List.length p) h)), (32, (.int .i64 a))] ?_
      obtain ⟨b0, d1, d2, e7, H⟩ := Qn H
      refine iS 5 ?_
      refine Vj (e := eU8) (l := p) (A := f) (c := h) (T := 52) (E := 5) (x := (.tmp 31)) (ix := (.tmp 32)) (ki := .i64) (iz := a) (d := (some 33)) (k := 4) K rfl K K K K (Vf (SP.get a9 (i := 0) rfl)) d1 d2 ?_
      intro e8 e9 f0 g7 hc505
      refine iS 6 ?_
      refine sC 5 33 e8 (e9 + Int.toNat a * eU8.sz) (.int .u8 ((b0).toNat : Int)) 34 (Qh (e := eU8) (Qe (Vf (SP.get a9 (i := 0) rfl)) f0 d1 d2) e7 (j := 0) rfl) ?_
      refine iR 2 8 [(35, (.int .u8 ((p5).toNat : Int))), (36, (.int .u8 (V0 .u8 ((b0).toNat : Int) ((p5).toNat : Int))))] ?_
      obtain ⟨g9, d3, d4, h1, H⟩ := Qn H
      refine iS 9 ?_
      refine Vj (e := eU8) (l := p) (A := f) (c := h) (T := 52) (E := 5) (x := (.tmp 29)) (ix := (.tmp 30)) (ki := .i64) (iz := a) (d := (some 37)) (k := 8) K rfl K K K K (Vf (SP.get a9 (i := 0) rfl)) d3 d4 ?_
      intro f1 f2 f3 h2 hc514
      obtain ⟨b1, hyl517, H⟩ := Vz H
      have hnl517 : List.length b1 = List.length p := by rw [← hyl517, List.length_set]
      refine iS 10 ?_
      refine Gv (e := eU8) (t := 5) (E := 5) (x := (.tmp 37)) (y := (.tmp 36)) (A := f) (c := h) (l := p) (iz := a) (b := f1) (off := f2) (i := 0) (v := (.int .u8 (V0 .u8 ((b0).toNat : Int) ((p5).toNat : Int)))) (x' := (Rx (V0 .u8 ((b0).toNat : Int) ((p5).toNat : Int)))) (d := none) (k := 9) K rfl K K a9 rfl f3 rfl d4 d3 (by show [Value.int .u8 (((Rx (V0 .u8 ((b0).toNat : Int) ((p5).toNat : Int)))).toNat : Int)] = _; rw [Gg (u8_xor _ _)]) K ?_
      rw [hyl517]
      intro h3 f4
      refine In.known [(5, (.slice f (List.length b1) h)), (29, (.slice f (List.length b1) h)), (31, (.slice f (List.length b1) h))] ⟨(by rw [hnl517]; kernel_rfl), (by rw [hnl517]; kernel_rfl), (by rw [hnl517]; kernel_rfl), trivial⟩ ?_
      refine iF ?_
      refine aR ?_
      refine iR 3 3 [(27, (.int .i64 a)), (28, (.int .i64 (IntKind.wrap .i64 (a + 1)))), (7, (.int .i64 (IntKind.wrap .i64 (a + 1))))] ?_
      refine iF ?_
      exact ⟨b1, (IntKind.wrap .i64 (a + 1)), f, h, ⟨K, K, K, trivial⟩, SP.sel f4 [0] rfl rfl, H⟩
     ·have H := cf H b8
      refine At.exit K (id := 2) K ?_
      refine aQ ?_
      refine aR ?_
      refine iR 2 2 [(38, (.slice f (List.length p) h)), (4, (.slice f (List.length p) h))] ?_
      refine iF ?_
      refine At.ret K ?_
      refine ⟨(.slice f (List.length p) h), K, ?_⟩
      obtain rfl := Qm H
      exact ⟨f, h, rfl, SP.sel a9 [0] rfl rfl⟩
    ·exact ⟨u, 0, a0, a1, ⟨K, K, K, trivial⟩, SP.sel c5 [0] rfl rfl, H⟩
  ·exact ⟨a3, a4, a5, ⟨K, K, trivial⟩, SP.sel e4 [0] rfl rfl, H⟩
def Nr (p1 : (List UInt8)) (p5 : (List UInt8)) : Option ((List UInt8)) :=
  ((Yu p1 (54 : UInt8)).bind fun c => ((app c p5).bind fun d => ((Yy d).bind fun a => ((chk (Nat.beq (List.length a) 32)).bind fun _ => ((Yu p1 (92 : UInt8)).bind fun e => ((app e a).bind fun f => ((Yy f).bind fun b => ((chk (Nat.beq (List.length b) 32)).bind fun _ => (some (b))))))))))
set_option maxRecDepth 100000 in
set_option maxHeartbeats 4000000 in
theorem R3 (A2 : Option Addr) (c3 : Nat) (A6 : Option Addr) (c7 : Nat) (p1 : (List UInt8)) (p5 : (List UInt8)) (w0 : World) (b8 : RdT eU8 w0 A2 c3 p1) (d6 : RdT eU8 w0 A6 c7 p5) (r : ((List UInt8))) (H : Nr p1 p5 = some r) :
  Calls Tryz.prog 54 #[(.slice A2 (List.length p1) c3), (.slice A6 (List.length p5) c7)] w0 (fun e w' => e = .returned (.agg (Qb eU8 r).toArray) ∧ SP [] w0 w' []) := by
 unfold Nr at H
 refine Qv (n := 16) Tryz.func54 K K K ?_
 have d7 := Q1 [] w0
 refine aQ ?_
 refine aR ?_
 refine iS 1 ?_
 refine Qz (e := eU8) (l := (List.replicate 32 (0 : UInt8))) (m := 32) (t := 89) (z := .agg (Qb eU8 (List.replicate 32 (0 : UInt8))).toArray) (d := (some 4)) (k := 0) K rfl K rfl rfl K d7 ?_
 intro g9 d8 b9
 refine iF ?_
 refine aQ ?_
 refine aR ?_
 refine iR 1 1 [(6, (.slice A2 (List.length p1) c3))] ?_
 obtain ⟨a8, d9, H⟩ := Qf H
 refine iS 2 ?_
 refine cF 73 #[(.tmp 6), (.const (.int .u8 (54)))] #[52, 5] 7 Tryz.call73 (Uq A2 c3 p1 (54 : UInt8) d8 (RdT.sp b8 b9) a8 d9) ?_
 rintro e g4 ⟨e0, e1, rfl, c0⟩
 refine ⟨_, rfl, ?_⟩
 have c1 := SP.call b9 c0
 clear c0
 refine iR 1 3 [(8, (.slice A6 (List.length p5) c7))] ?_
 obtain ⟨hl21, H⟩ := Xw H
 obtain ⟨a1, hyl22⟩ : ∃ y, a8 ++ p5 = y := ⟨_, rfl⟩
 rw [hyl22] at H
 refine iS 4 ?_
 refine Qj.append (e := eU8) (l := a8) (m := p5) (A := e0) (c := e1) (T := 52) (TX := 52) (E := 5) (b := 1) (s := (.tmp 7)) (x := (.tmp 8)) (i := 1) (vx := (.slice A6 (List.length p5) c7)) (d := (some 9)) (k := 3) K rfl K K K K rfl c1 rfl (Uw (E := 5) K (RdT.sp d6 c1)) hl21 ?_
 rw [hyl22]
 intro a2 a3 e2 c2
 obtain ⟨f, e3, H⟩ := Qf H
 obtain ⟨a9, H⟩ := Vv H
 replace a9 := Nat.eq_of_beq_eq_true a9
 refine iS 5 ?_
 refine cF 72 #[(.tmp 9)] #[52] 10 Tryz.call72 (Jp a2 a3 a1 e2 (Vf (SP.get c2 (i := 1) rfl)) f e3) ?_
 rintro e g5 ⟨rfl, c4⟩
 refine ⟨_, rfl, ?_⟩
 have e4 := SP.call c2 c4
 clear c4
 refine iS 6 ?_
 refine Qz (e := eU8) (l := (List.replicate 32 (0 : UInt8))) (m := 32) (t := 89) (z := .agg (Qb eU8 (List.replicate 32 (0 : UInt8))).toArray) (d := (some 5)) (k := 5) K rfl K rfl rfl K e4 ?_
 intro j g6 e5
 refine iS 7 ?_
 refine Q8 (e := eU8) (l := (List.replicate 32 (0 : UInt8))) (l' := f) (m := 32) (t := 89) (x := (.tmp 5)) (y := (.tmp 10)) (g := j) (i := 2) (d := none) (k := 6) K rfl K K a9 e5 rfl K ?_
 intro g7 e6
 refine iF ?_
 refine aQ ?_
 obtain ⟨o, e7, H⟩ := Qf H
 obtain ⟨hl50, H⟩ := Xw H
 obtain ⟨u, hyl51⟩ : ∃ y, o ++ f = y := ⟨_, rfl⟩
 rw [hyl51] at H
 obtain ⟨p, e8, H⟩ := Qf H
 obtain ⟨b0, H⟩ := Vv H
 replace b0 := Nat.eq_of_beq_eq_true b0
 refine aG [GEq (.slice A2 (List.length p1) c3), Bq, GEq (.slice (some ⟨j, 0, none⟩) (List.length f) 32), Bq, GEq (.agg (Qb eU8 p).toArray), Bq] [1, 3, 4, 5] [([], fun vs w => VL vs [] ∧ SP [] w0 w [Vc 89 eU8 g9 32 (List.replicate 32 (0 : UInt8)), Xu 5 eU8 a2 a3 a1, Vc 89 eU8 j 32 f]), ([1], fun vs w => ∃ (v : Option Addr), ∃ (a0 : Nat), VL vs [(.slice v (List.length o) a0)] ∧ SP [] w0 w [Vc 89 eU8 g9 32 (List.replicate 32 (0 : UInt8)), Xu 5 eU8 a2 a3 a1, Vc 89 eU8 j 32 f, Xu 5 eU8 v a0 o]), ([1, 3], fun vs w => ∃ (b1 : Option Addr), ∃ (b2 : Nat), ∃ (a4 : Option Addr), ∃ (a5 : Nat), VL vs [(.slice b1 (List.length o) b2), (.slice a4 (List.length u) a5)] ∧ SP [] w0 w [Vc 89 eU8 g9 32 (List.replicate 32 (0 : UInt8)), Xu 5 eU8 a2 a3 a1, Vc 89 eU8 j 32 f, Xu 5 eU8 a4 a5 u]), ([1, 3, 4], fun vs w => ∃ (b3 : Option Addr), ∃ (b4 : Nat), ∃ (a6 : Option Addr), ∃ (a7 : Nat), VL vs [(.slice b3 (List.length o) b4), (.slice a6 (List.length u) a7), (.agg (Qb eU8 p).toArray)] ∧ SP [] w0 w [Vc 89 eU8 g9 32 (List.replicate 32 (0 : UInt8)), Xu 5 eU8 a2 a3 a1, Vc 89 eU8 j 32 f, Xu 5 eU8 a6 a7 u]), ([1, 3, 4, 5], fun vs w => ∃ (c5 : Option Addr), ∃ (c6 : Nat), ∃ (b5 : Option Addr), ∃ (b6 : Nat), VL vs [(.slice c5 (List.length o) c6), (.slice b5 (List.length u) b6), (.agg (Qb eU8 p).toArray), undef] ∧ SP [] w0 w [Vc 89 eU8 g9 32 p, Xu 5 eU8 a2 a3 a1, Vc 89 eU8 j 32 f, Xu 5 eU8 b5 b6 u])] 6 4 ⟨trivial, SP.drew e6⟩ ?_ ?_
 iterate 6 refine And.intro ?_ ?_
 exact trivial
 ·exact oV (hC (hS 0 (.slice A2 (List.length p1) c3)) (h0)) (.slice A2 (List.length p1) c3)
 ·refine oH 0 1 ?_
  ·rintro ρ' w' hs hah ⟨g8, c8⟩
   refine kM (kc (kA hah 0 11) k0) fun hkn => ?_
   refine cF 73 #[(.tmp 11), (.const (.int .u8 (92)))] #[52, 5] 12 Tryz.call73 (Uq A2 c3 p1 (92 : UInt8) w' (RdT.sp b8 c8) o e7) ?_
   rintro e h1 ⟨e9, f0, rfl, c9⟩
   refine ⟨_, rfl, ?_⟩
   have f1 := SP.call c8 c9
   clear c9
   refine ⟨_, Qa hkn, trivial, ?_⟩
   exact (Exists.intro e9 (Exists.intro f0 (And.intro (And.intro rfl (trivial)) (f1))))
 ·refine Owe.light K [0, 1] K (Qd ?_ (Qd ?_ Q4))
  ·rintro ρ' w' hs hah ⟨h2, f2⟩
   refine kM (kc (kS hs 5 (pt j 0)) k0) fun hkn => ?_
   refine X1 (e := eU8) (l := f) (m := 32) (g := j) (T := 89) (E := 5) (x := (.tmp 5)) (q := 2) (d := (some 13)) (k := 2) K rfl K K K f2 rfl ?_
   exact eK hkn
  ·rintro ρ' w' hs hah ⟨v, a0, ⟨h3, -⟩, f3⟩
   refine kM (kc (kS hs 5 (pt j 0)) k0) fun hkn => ?_
   refine X1 (e := eU8) (l := f) (m := 32) (g := j) (T := 89) (E := 5) (x := (.tmp 5)) (q := 2) (d := (some 13)) (k := 2) K rfl K K K f3 rfl ?_
   exact eK hkn
 ·refine oH 1 2 ?_
  ·rintro ρ' w' hs hah ⟨v, a0, ⟨d0, -⟩, d1⟩
   refine kN [(12, (.slice v (List.length o) a0)), (13, (.slice (some ⟨j, 0, none⟩) (List.length f) 32))] ⟨(Xk (h := 1) K).symm.trans d0, hah 2 13 K, trivial⟩ fun hkn => ?_
   refine Qj.append (e := eU8) (l := o) (m := f) (A := v) (c := a0) (T := 52) (TX := 52) (E := 5) (b := 1) (s := (.tmp 12)) (x := (.tmp 13)) (i := 3) (vx := (.slice (some ⟨j, 0, none⟩) (List.length f) 32)) (d := (some 14)) (k := 3) K rfl K K K K rfl d1 rfl (Uw (E := 5) K (Qu (SP.get d1 (i := 2) rfl))) hl50 ?_
   rw [hyl51]
   intro f4 f5 h4 f6
   refine ⟨_, Qa hkn, trivial, ?_⟩
   exact (Exists.intro v (Exists.intro a0 (Exists.intro f4 (Exists.intro f5 (And.intro (And.intro d0 (And.intro rfl (trivial))) (f6))))))
 ·refine oH 2 3 ?_
  ·rintro ρ' w' hs hah ⟨b1, b2, a4, a5, ⟨f7, d2, -⟩, d3⟩
   refine kN [(14, (.slice a4 (List.length u) a5))] ⟨(Xk (h := 3) K).symm.trans d2, trivial⟩ fun hkn => ?_
   refine cF 72 #[(.tmp 14)] #[52] 15 Tryz.call72 (Jp a4 a5 u w' (Vf (SP.get d3 (i := 3) rfl)) p e8) ?_
   rintro e h5 ⟨rfl, d4⟩
   refine ⟨_, rfl, ?_⟩
   have f8 := SP.call d3 d4
   clear d4
   refine ⟨_, Qa hkn, rfl, ?_⟩
   exact (Exists.intro b1 (Exists.intro b2 (Exists.intro a4 (Exists.intro a5 (And.intro (And.intro f7 (And.intro d2 (And.intro rfl (trivial)))) (f8))))))
 ·refine oH 3 4 ?_
  ·rintro ρ' w' hs hah ⟨b3, b4, a6, a7, ⟨f9, g0, d5, -⟩, g1⟩
   refine kN [(4, (pt g9 0)), (15, (.agg (Qb eU8 p).toArray))] ⟨(hs 4 K).trans K, (Xk (h := 4) K).symm.trans d5, trivial⟩ fun hkn => ?_
   refine Q8 (e := eU8) (l := (List.replicate 32 (0 : UInt8))) (l' := p) (m := 32) (t := 89) (x := (.tmp 4)) (y := (.tmp 15)) (g := g9) (i := 0) (d := none) (k := 5) K rfl K K b0 g1 rfl K ?_
   intro h6 g2
   refine ⟨_, Qa hkn, trivial, ?_⟩
   exact (Exists.intro b3 (Exists.intro b4 (Exists.intro a6 (Exists.intro a7 (And.intro (And.intro f9 (And.intro g0 (And.intro d5 (And.intro rfl (trivial))))) (g2))))))
 ·rintro ρ' w' hs hf ⟨c5, c6, b5, b6, ⟨h7, h8, h9, i0, -⟩, b7⟩
  refine Vh [(4, (pt g9 0))] ⟨(hs 4 K).trans K, trivial⟩ ?_
  obtain ⟨i1, g3⟩ : ∃ x, w' = x := ⟨_, rfl⟩
  rw [g3] at b7 ⊢
  refine At.ret K ?_
  refine ⟨(.agg (Qb eU8 p).toArray), Bc K (J7 (e := eU8) (l := p) (a := 4) (t := 89) K (SP.get b7 (i := 0) rfl) K K), ?_⟩
  obtain rfl := Qm H
  exact ⟨rfl, SP.sel b7 [] rfl rfl⟩
def Jq (d : (List UInt8) → Int → Option ((List UInt8))) (p1 : (List UInt8)) (p5 : (List (List UInt8))) (b : (List UInt8)) (a : Int) : Option ((List UInt8)) :=
  (cond (decide (a < ((List.length p5 : Nat) : Int))) ((idx p5 a).bind fun e => (cond (decide (((List.length e : Nat) : Int) > 255)) (some (([] : List UInt8))) ((idx p5 a).bind fun f => ((Ng f).bind fun g => ((app b g).bind fun h => (d h (IntKind.wrap .i64 (a + 1)))))))) ((Nr p1 b).bind fun c => ((chk (Nat.beq (List.length c) 32)).bind fun _ => ((Nq c).bind fun i => (some (i))))))
def X9 (p1 : (List UInt8)) (p5 : (List (List UInt8))) : Nat → (List UInt8) → Int → Option ((List UInt8))
  | 0, _, _ => none
  | f + 1, a, b => Jq  (X9 p1 p5 f) p1 p5 a b
def U0 (p1 : (List UInt8)) (p5 : (List (List UInt8))) : Option ((List UInt8)) :=
  (X9 p1 p5 Z0 ([] : List UInt8) 0)
set_option maxRecDepth 100000 in
set_option maxHeartbeats 4000000 in
theorem G8 (A2 : Option Addr) (c3 : Nat) (A6 : Option Addr) (c7 : Nat) (p1 : (List UInt8)) (p5 : (List (List UInt8))) (w0 : World) (c2 : RdT eU8 w0 A2 c3 p1) (v : RdT Qy w0 A6 c7 p5) (r : ((List UInt8))) (H : U0 p1 p5 = some r) :
  Calls Tryz.prog 30 #[(.slice A2 (List.length p1) c3), (.slice A6 (List.length p5) c7)] w0 (fun e w' => e = .returned (.string ⟨List.toArray r⟩) ∧ SP [] w0 w' []) := by
 unfold U0 at H
 refine Qv (n := 32) Tryz.func30 K K K ?_
 have c4 := Q1 [] w0
 refine aQ ?_
 refine aR ?_
 refine iR 1 1 [(4, (.string ⟨List.toArray ([] : List UInt8)⟩))] ?_
 refine iF ?_
 refine aQ ?_
 refine aR ?_
 refine iR 1 1 [(5, (.slice none (List.length ([] : List UInt8)) 0))] ?_
 refine iF ?_
 refine aQ ?_
 refine aQ ?_
 refine aR ?_
 refine iR 1 1 [(6, (.int .i64 0))] ?_
 refine iF ?_
 refine Zj K (id := 0) K ?_
 refine Jk K (fun f1 ρ w => ∃ (f : (List UInt8)) (a : Int) (h : Option Addr) (p : Nat), V8 ρ [(0, (.slice A2 (List.length p1) c3)), (1, (.slice A6 (List.length p5) c7)), (5, (.slice h (List.length f) p)), (6, (.int .i64 a))] ∧ SP [] w0 w [Xu 5 eU8 h p f] ∧ X9 p1 p5 f1 f a = some r) (by rintro ρ w ⟨f, a, h, p, hk, hs, H⟩; cases H) ?_ Z0 ?_
 ·rintro f1 ρ a9 ⟨f, a, h, p, hk, u, H⟩
  refine At.known [(0, (.slice A2 (List.length p1) c3)), (1, (.slice A6 (List.length p5) c7)), (5, (.slice h (List.length f) p)), (6, (.int .i64 a))] hk ?_
  replace H := (show Jq (X9 p1 p5 f1) p1 p5 f a = some r from H)
  unfold Jq at H
  refine aQ ?_
  refine aQ ?_
  refine aR ?_
  refine iR 4 4 [(8, (.int .i64 a)), (9, (.slice A6 (List.length p5) c7)), (10, (.int .i64 ((List.length p5 : Nat) : Int))), (11, (.bool (decide (a < ((List.length p5 : Nat) : Int)))))] ?_
  refine iF ?_
  refine Zi K (o := (.tmp 11)) K (b := (decide (a < ((List.length p5 : Nat) : Int)))) K (fun a3 => ?_) (fun a3 => ?_)
  ·have H := ct H a3
   refine At.skip K ?_
   refine aQ ?_
   refine Zj K (id := 1) K ?_
   refine aQ ?_
   refine aQ ?_
   refine aR ?_
   refine iR 2 2 [(14, (.slice A6 (List.length p5) c7)), (15, (.int .i64 a))] ?_
   obtain ⟨a0, b0, b1, c5, H⟩ := Qn H
   refine iS 3 ?_
   refine Vj (e := Qy) (l := p5) (A := A6) (c := c7) (T := 53) (E := 9) (x := (.tmp 14)) (ix := (.tmp 15)) (ki := .i64) (iz := a) (d := (some 16)) (k := 2) K rfl K K K K (RdT.sp v u) b0 b1 ?_
   intro c6 c8 c9 e4 hc136
   refine iS 4 ?_
   refine sC 9 16 c6 (c8 + Int.toNat a * Qy.sz) (.string ⟨List.toArray a0⟩) 17 (Qh (e := Qy) (Qe (RdT.sp v u) c9 b0 b1) c5 (j := 0) rfl) ?_
   refine iR 2 6 [(18, (.int .i64 ((List.length a0 : Nat) : Int))), (19, (.bool (decide (((List.length a0 : Nat) : Int) > 255))))] ?_
   refine iF ?_
   refine Zi K (o := (.tmp 19)) K (b := (decide (((List.length a0 : Nat) : Int) > 255))) K (fun a4 => ?_) (fun a4 => ?_)
   ·have H := ct H a4
    refine aQ ?_
    refine aR ?_
    refine iR 1 1 [(4, (.string ⟨List.toArray ([] : List UInt8)⟩))] ?_
    refine iF ?_
    refine At.ret K ?_
    refine ⟨(.string ⟨List.toArray ([] : List UInt8)⟩), K, ?_⟩
    obtain rfl := Qm H
    exact ⟨rfl, SP.sel u [] rfl rfl⟩
   ·have H := cf H a4
    refine At.skip K ?_
    refine aR ?_
    refine iR 3 3 [(20, (.slice h (List.length f) p)), (21, (.slice A6 (List.length p5) c7)), (22, (.int .i64 a))] ?_
    obtain ⟨b2, b3, b4, d0, H⟩ := Qn H
    refine iS 4 ?_
    refine Vj (e := Qy) (l := p5) (A := A6) (c := c7) (T := 53) (E := 9) (x := (.tmp 21)) (ix := (.tmp 22)) (ki := .i64) (iz := a) (d := (some 23)) (k := 3) K rfl K K K K (RdT.sp v u) b3 b4 ?_
    intro d1 d2 d3 e5 hc146
    refine iS 5 ?_
    refine sC 9 23 d1 (d2 + Int.toNat a * Qy.sz) (.string ⟨List.toArray b2⟩) 24 (Qh (e := Qy) (Qe (RdT.sp v u) d3 b3 b4) d0 (j := 0) rfl) ?_
    obtain ⟨a1, d4, H⟩ := Qf H
    refine iS 6 ?_
    refine cF 53 #[(.tmp 24)] #[9] 25 Tryz.call53 (Rq  b2 a9  a1 d4) ?_
    rintro e e6 ⟨d5, d6, rfl, b5⟩
    refine ⟨_, rfl, ?_⟩
    have b6 := SP.call u b5
    clear b5
    obtain ⟨hl157, H⟩ := Xw H
    obtain ⟨b7, hyl158⟩ : ∃ y, f ++ a1 = y := ⟨_, rfl⟩
    rw [hyl158] at H
    refine iS 7 ?_
    refine Qj.append (e := eU8) (l := f) (m := a1) (A := h) (c := p) (T := 52) (TX := 52) (E := 5) (b := 1) (s := (.tmp 20)) (x := (.tmp 25)) (i := 0) (vx := (.slice d5 (List.length a1) d6)) (d := (some 26)) (k := 6) K rfl K K K K rfl b6 rfl (Uw (E := 5) K (Vf (SP.get b6 (i := 1) rfl))) hl157 ?_
    rw [hyl158]
    intro b8 b9 e7 d7
    refine iR 1 8 [(5, (.slice b8 (List.length b7) b9))] ?_
    refine iF ?_
    refine aR ?_
    refine iR 3 3 [(12, (.int .i64 a)), (13, (.int .i64 (IntKind.wrap .i64 (a + 1)))), (6, (.int .i64 (IntKind.wrap .i64 (a + 1))))] ?_
    refine iF ?_
    exact ⟨b7, (IntKind.wrap .i64 (a + 1)), b8, b9, ⟨K, K, K, K, trivial⟩, SP.sel d7 [0] rfl rfl, H⟩
  ·have H := cf H a3
   refine At.exit K (id := 0) K ?_
   refine aQ ?_
   refine aR ?_
   refine iR 2 2 [(27, (.slice A2 (List.length p1) c3)), (28, (.slice h (List.length f) p))] ?_
   obtain ⟨a2, d8, H⟩ := Qf H
   obtain ⟨a5, H⟩ := Vv H
   replace a5 := Nat.eq_of_beq_eq_true a5
   refine iS 3 ?_
   refine cF 54 #[(.tmp 27), (.tmp 28)] #[52, 52] 29 Tryz.call54 (R3 A2 c3 h p p1 f a9 (RdT.sp c2 u) (Vf (SP.get u (i := 0) rfl)) a2 d8) ?_
   rintro e e8 ⟨rfl, c0⟩
   refine ⟨_, rfl, ?_⟩
   have d9 := SP.call u c0
   clear c0
   refine iS 4 ?_
   refine Qz (e := eU8) (l := (List.replicate 32 (0 : UInt8))) (m := 32) (t := 89) (z := .agg (Qb eU8 (List.replicate 32 (0 : UInt8))).toArray) (d := (some 7)) (k := 3) K rfl K rfl rfl K d9 ?_
   intro a6 e9 e0
   refine iS 5 ?_
   refine Q8 (e := eU8) (l := (List.replicate 32 (0 : UInt8))) (l' := a2) (m := 32) (t := 89) (x := (.tmp 7)) (y := (.tmp 29)) (g := a6) (i := 1) (d := none) (k := 4) K rfl K K a5 e0 rfl K ?_
   intro e1 a7
   refine iF ?_
   refine aQ ?_
   refine aR ?_
   refine iS 1 ?_
   refine X1 (e := eU8) (l := a2) (m := 32) (g := a6) (T := 89) (E := 5) (x := (.tmp 7)) (q := 1) (d := (some 30)) (k := 0) K rfl K K K a7 rfl ?_
   obtain ⟨a8, e2, H⟩ := Qf H
   refine iS 2 ?_
   refine cF 55 #[(.tmp 30)] #[52] 31 Tryz.call55 (R2 (some ⟨a6, 0, none⟩) 32 a2 e1 (Qu (SP.get a7 (i := 1) rfl)) a8 e2) ?_
   rintro e f0 ⟨rfl, c1⟩
   refine ⟨_, rfl, ?_⟩
   have e3 := SP.call a7 c1
   clear c1
   refine iR 1 3 [(4, (.string ⟨List.toArray a8⟩))] ?_
   refine iF ?_
   refine At.ret K ?_
   refine ⟨(.string ⟨List.toArray a8⟩), K, ?_⟩
   obtain rfl := Qm H
   exact ⟨rfl, SP.sel e3 [] rfl rfl⟩
 ·exact ⟨([] : List UInt8), 0, none, 0, ⟨K, K, K, K, trivial⟩, SP.sel (Gf c4 5 eU8) [0] rfl rfl, H⟩
end Go.Proofs.YtmgfanhcdfobhaaGreatDoor
namespace Go.Proofs.YtmgfanhcdfobhaaGreatDoor
open Go.RowKit Go.WideMaps Go.WideShapes
abbrev Jr := List ((List UInt8 × List UInt8) × Int)
def Cq (k : List UInt8 × List UInt8) : Value := .agg #[.string ⟨k.1.toArray⟩, .string ⟨k.2.toArray⟩]
theorem Hm {a b : List UInt8 × List UInt8} (h : Cq a = Cq b) : a = b := by
  unfold Cq at h
  injection h with h
  have := congrArg Array.toList h
  simp at this
  exact Prod.ext this.1 this.2
def U7 (L : Jr) (k : List UInt8 × List UInt8) : Int := match L.findIdx? (fun e => e.1 == k) with | some j => (L.getD j (k, 0)).2 | none => 0
def Hn (L : Jr) (k : List UInt8 × List UInt8) (v : Int) : Jr := match L.findIdx? (fun e => e.1 == k) with | some j => L.set j (k, v) | none => L ++ [(k, v)]
def D4 (L : Jr) (k : List UInt8 × List UInt8) : Jr := match L.findIdx? (fun e => e.1 == k) with | some j => L | none => L ++ [(k, 0)]
def mEnc (L : Jr) : List (Value × Value) := L.map fun p => (Cq p.1, .int .i64 p.2)
structure MOk (m : Nat) (L : Jr) (es : Array MapEntry) (clock : Nat) (w : World) : Prop where
  heap : w.heap[m]? = some (.map es clock)
  ents : es.toList.map (fun e => (e.key, e.val)) = mEnc L
  len : ∀ p ∈ L, p.1.1.length ≤ maxLen ∧ p.1.2.length ≤ maxLen
  nd : L.Pairwise fun a b => a.1 ≠ b.1
  born : es.toList.Pairwise fun a b => a.born ≠ b.born
  clk : ∀ e ∈ es.toList, e.born < clock
def Zv (m : Nat) (L : Jr) : Ent := ⟨[m], fun w => ∃ es clock, MOk m L es clock w, fun w w' hk ⟨es, clock, h⟩ => ⟨es, clock, (hk m (by simp)).trans h.heap, h.ents, h.len, h.nd, h.born, h.clk⟩⟩
def F4 (m : Nat) (L : Jr) (k : List UInt8 × List UInt8) (b : Nat) : Ent := ⟨[m], fun w => ∃ es clock, MOk m (D4 L k) es clock w ∧ ∃ (j : Nat) (e : MapEntry), es.toList[j]? = some e ∧ e.key = Cq k ∧ e.born = b,
  fun w w' hk ⟨es, clock, h, h2⟩ => ⟨es, clock, ⟨(hk m (by simp)).trans h.heap, h.ents, h.len, h.nd, h.born, h.clk⟩, h2⟩⟩
theorem Ho {L : Jr} {k : List UInt8 × List UInt8} {j : Nat} {p : (List UInt8 × List UInt8) × Int} (hn : L.Pairwise fun a b => a.1 ≠ b.1) (hj : L[j]? = some p) (hp : p.1 = k) : L.findIdx? (fun e => e.1 == k) = some j := by
  obtain ⟨hlt, he⟩ := List.getElem?_eq_some_iff.1 hj
  rw [List.findIdx?_eq_some_iff_getElem]
  refine ⟨hlt, by rw [he, hp]; simp, fun i hi => ?_⟩
  have := List.pairwise_iff_getElem.1 hn i j (by omega) hlt hi
  rw [he, hp] at this
  simpa using this
theorem H1 {L : Jr} {k : List UInt8 × List UInt8} (h : ∀ p ∈ L, p.1 ≠ k) : L.findIdx? (fun e => e.1 == k) = none := by
  rw [List.findIdx?_eq_none_iff]
  intro p hp
  simpa using h p hp
theorem m2put_get (L : Jr) (k : List UInt8 × List UInt8) : U7 (D4 L k) k = U7 L k := by
  unfold D4
  split
  · rfl
  · rename_i h
    unfold U7
    rw [h]
    have hf : (L ++ [(k, (0 : Int))]).findIdx? (fun e => e.1 == k) = some L.length := by
      rw [List.findIdx?_append, h]
      simp [List.findIdx?_cons]
    rw [hf]
    simp [List.getD]
theorem m2put_set (L : Jr) (k : List UInt8 × List UInt8) (v : Int) : Hn (D4 L k) k v = Hn L k v := by
  unfold D4
  split
  · rfl
  · rename_i h
    have hf : (L ++ [(k, (0 : Int))]).findIdx? (fun e => e.1 == k) = some L.length := by
      rw [List.findIdx?_append, h]
      simp [List.findIdx?_cons]
    unfold Hn
    rw [hf, h]
    simp
section
variable {P : Program} {w : World} {m : Nat} {L : Jr} {es : Array MapEntry} {clock : Nat} {T kt et : TypeId} {k : List UInt8 × List UInt8}
structure KeyT (P : Program) (kt : TypeId) : Prop where
  law : KeyLaw P kt
  key : ∀ k : List UInt8 × List UInt8, k.1.length ≤ maxLen → k.2.length ≤ maxLen → ∃ l, keyOf P kt (Cq k) = some l
theorem MOk.find (h : MOk m L es clock w) (K : KeyT P kt) (h1 : k.1.length ≤ maxLen) (h2 : k.2.length ≤ maxLen) :
    ((Instr.findKey kt (Cq k) es.toList).run P w = .ok none w ∧ L.findIdx? (fun e => e.1 == k) = none) ∨ ∃ j p e, L[j]? = some p ∧ p.1 = k ∧ es.toList[j]? = some e ∧ e.key = Cq k ∧ e.val = .int .i64 p.2 ∧ L.findIdx? (fun e => e.1 == k) = some j ∧ (Instr.findKey kt (Cq k) es.toList).run P w = .ok (some (j, .int .i64 p.2)) w := by
  obtain ⟨l, hl⟩ := K.key k h1 h2
  have get : ∀ (j : Nat) (e : MapEntry), es.toList[j]? = some e → ∃ p, L[j]? = some p ∧ e.key = Cq p.1 ∧ e.val = .int .i64 p.2 := fun j e hj => by
    have h3 := congrArg (fun x => x[j]?) h.ents
    simp only [mEnc, List.getElem?_map, hj, Option.map_some] at h3
    have h3' := h3.symm
    rw [Option.map_eq_some_iff] at h3'
    obtain ⟨p, hp, he⟩ := h3'
    injection he with e1 e2
    exact ⟨p, hp, e1.symm, e2.symm⟩
  have hes : ∀ e ∈ es.toList, ∃ l, keyOf P kt e.key = some l := fun e he => by
    obtain ⟨j, hj⟩ := List.mem_iff_getElem?.1 he
    obtain ⟨p, hp, hk, _⟩ := get j e hj
    obtain ⟨q1, q2⟩ := h.len p (List.mem_of_getElem? hp)
    rw [hk]
    exact K.key p.1 q1 q2
  rcases K.law.find w hl es.toList hes with ⟨r, hno⟩ | ⟨j, e, r, hj, hk⟩
  · left
    refine ⟨r, H1 fun p hp hpk => ?_⟩
    obtain ⟨j, hj⟩ := List.mem_iff_getElem?.1 hp
    have h3 := congrArg (fun x => x[j]?) h.ents
    simp only [mEnc, List.getElem?_map, hj, Option.map_some] at h3
    rw [Option.map_eq_some_iff] at h3
    obtain ⟨e, he, hee⟩ := h3
    injection hee with e1 _
    exact hno e (List.mem_of_getElem? he) (by rw [e1, hpk])
  · right
    obtain ⟨p, hp, hk2, hv⟩ := get j e hj
    have hpk : p.1 = k := Hm (hk2.symm.trans hk)
    exact ⟨j, p, e, hp, hpk, hj, hk, hv, Ho h.nd hp hpk, by rw [← hv]; exact r⟩
theorem Ff (h : MOk m L es clock w) (K : KeyT P kt) (hT : P.underlying T = some (.map kt et)) (hz : ∀ w, (zeroValue et).run P w = .ok (.int .i64 0) w) (h1 : k.1.length ≤ maxLen) (h2 : k.2.length ≤ maxLen) :
    (Instr.lookup T (.map (some m)) (Cq k) false).run P w = .ok (.int .i64 (U7 L k)) w := by
  obtain ⟨l, hl⟩ := K.key k h1 h2
  have hck := K.law.check w es.isEmpty hl
  unfold U7
  rcases h.find K h1 h2 with ⟨r, hf⟩ | ⟨j, p, e, hp, hpk, hj, hk, hv, hf, r⟩
  · rw [hf]
    simp only [Instr.lookup, Sem.run_bind, run_underlying hT, Go.MapKept.run_getObj_map h.heap, hck, r, hz, Result.andThen_ok, Sem.run_pure]
    rfl
  · rw [hf]
    have : L.getD j (k, 0) = p := by simp [List.getD, hp]
    simp only [this]
    simp only [Instr.lookup, Sem.run_bind, run_underlying hT, Go.MapKept.run_getObj_map h.heap, hck, r, Result.andThen_ok, Sem.run_pure]
    rfl
end
section
variable {P : Program} {w : World} {m : Nat} {L : Jr} {es : Array MapEntry} {clock : Nat} {T kt et : TypeId} {k : List UInt8 × List UInt8}
theorem MOk.push {w' : World} (h : MOk m L es clock w) (h1 : k.1.length ≤ maxLen) (h2 : k.2.length ≤ maxLen) (hf : L.findIdx? (fun e => e.1 == k) = none) (hw : w'.heap[m]? = some (.map (es.push { key := Cq k, val := .int .i64 0, born := clock }) (clock + 1))) :
    MOk m (L ++ [(k, 0)]) (es.push { key := Cq k, val := .int .i64 0, born := clock }) (clock + 1) w' := by
  refine ⟨hw, by rw [Array.toList_push, List.map_append, h.ents]; simp [mEnc], fun p hp => ?_, ?_, ?_, fun e he => ?_⟩
  · rcases List.mem_append.1 hp with hp | hp
    · exact h.len p hp
    · simp at hp; subst hp; exact ⟨h1, h2⟩
  · refine List.pairwise_append.2 ⟨h.nd, List.pairwise_singleton _ _, fun a ha b hb => ?_⟩
    simp at hb; subst hb
    rw [List.findIdx?_eq_none_iff] at hf
    simpa using hf a ha
  · rw [Array.toList_push]
    refine List.pairwise_append.2 ⟨h.born, List.pairwise_singleton _ _, fun a ha b hb => ?_⟩
    simp at hb; subst hb
    have := h.clk a ha
    show a.born ≠ clock
    omega
  · rw [Array.toList_push] at he
    rcases List.mem_append.1 he with he | he
    · have := h.clk e he; omega
    · simp at he; subst he; exact Nat.lt_succ_self _
theorem Es {w : World} {m : Nat} {o o' : Obj} (h : w.heap[m]? = some o) : ({ w with heap := w.heap.setIfInBounds m o' } : World).heap[m]? = some o' := (Go.MapKept.heap_set h).1
theorem F5 {w : World} {m : Nat} {o o' : Obj} (h : w.heap[m]? = some o) : Mod [m] w { w with heap := w.heap.setIfInBounds m o' } :=
  ⟨rfl, rfl, rfl, by simp, fun k _ hk => (Go.MapKept.heap_set h).2 k (by simpa using hk)⟩
theorem F6 (h : MOk m L es clock w) (K : KeyT P kt) (hT : P.underlying T = some (.map kt et)) (hz : ∀ w, (zeroValue et).run P w = .ok (.int .i64 0) w) (h1 : k.1.length ≤ maxLen) (h2 : k.2.length ≤ maxLen) :
    ∃ (b : Nat) (w' : World), (Instr.mapEntry T (.map (some m)) (Cq k)).run P w = .ok (.tuple #[.int .i64 (U7 L k), .int .i64 (b : Int)]) w' ∧ Mod [m] w w' ∧ (F4 m L k b).ok w' ∧ w'.heap.size = w.heap.size := by
  obtain ⟨l, hl⟩ := K.key k h1 h2
  have hck := K.law.check w false hl
  have hst := K.law.stays w hl
  rcases h.find K h1 h2 with ⟨r, hf⟩ | ⟨j, p, e, hp, hpk, hj, hk, hv, hf, r⟩
  · refine ⟨clock, { w with heap := w.heap.setIfInBounds m (.map (es.push { key := Cq k, val := .int .i64 0, born := clock }) (clock + 1)) }, ?_, F5 h.heap, ⟨_, _, by rw [show D4 L k = L ++ [(k, 0)] by unfold D4; rw [hf]]; exact h.push h1 h2 hf (Es h.heap), L.length, { key := Cq k, val := .int .i64 0, born := clock }, ?_, rfl, rfl⟩, by simp⟩
    · simp only [Instr.mapEntry, Sem.run_bind, run_underlying hT, Go.MapKept.run_getObj_map h.heap, hck, r, hz, Go.MapKept.run_setObj_map _ h.heap, Result.andThen_ok, Sem.run_pure]
      rw [show U7 L k = 0 by unfold U7; rw [hf]]
      rfl
    · have hl2 := congrArg List.length h.ents
      simp [mEnc] at hl2
      rw [Array.toList_push]
      simp [hl2]
  · have hj' : es[j]? = some e := by simpa using hj
    have hmod : es.modify j (fun e => { e with key := Cq k }) = es := by
      apply Array.ext_getElem?
      intro i
      rw [Array.getElem?_modify]
      by_cases hij : j = i
      · subst hij
        rw [if_pos rfl, hj', Option.map_some]
        rw [← hk]
      · rw [if_neg hij]
    refine ⟨e.born, { w with heap := w.heap.setIfInBounds m (.map es clock) }, ?_, F5 h.heap, ⟨es, clock, ?_, j, e, hj, hk, rfl⟩, by simp⟩
    · simp only [Instr.mapEntry, Sem.run_bind, run_underlying hT, Go.MapKept.run_getObj_map h.heap, hck, r, hj', Option.map_some, Option.getD_some, hk, hst, hmod, Go.MapKept.run_setObj_map _ h.heap, Result.andThen_ok, Sem.run_pure]
      rw [show U7 L k = p.2 by unfold U7; rw [hf]; simp [List.getD, hp]]
      rfl
    · rw [show D4 L k = L by unfold D4; rw [hf]]
      exact ⟨Es h.heap, h.ents, h.len, h.nd, h.born, h.clk⟩
theorem F7 {b : Nat} {v : Int} (hp : (F4 m L k b).ok w) (h1 : k.1.length ≤ maxLen) (h2 : k.2.length ≤ maxLen) :
    ∃ w' : World, (Instr.entryStore T (.map (some m)) (.int .i64 (b : Int)) (.int .i64 v)).run P w = .ok () w' ∧ Mod [m] w w' ∧ (Zv m (Hn L k v)).ok w' ∧ w'.heap.size = w.heap.size := by
  obtain ⟨es, clock, h, j, e, hj, hk, hb⟩ := hp
  have hlt : j < es.toList.length := (List.getElem?_eq_some_iff.1 hj).1
  have hfind : es.findIdx? (fun e => (e.born : Int) == (b : Int)) = some j := by
    rw [show es = es.toList.toArray by simp, List.findIdx?_toArray, List.findIdx?_eq_some_iff_getElem]
    have he := (List.getElem?_eq_some_iff.1 hj).2
    refine ⟨hlt, by rw [he, hb]; simp, fun i hi => ?_⟩
    have := List.pairwise_iff_getElem.1 h.born i j (by omega) hlt hi
    rw [he, hb] at this
    intro hh
    have h9 : ((es.toList[i].born : Nat) : Int) = (b : Int) := eq_of_beq hh
    omega
  have get : ∃ p, (D4 L k)[j]? = some p ∧ p.1 = k := by
    have h3 := congrArg (fun x => x[j]?) h.ents
    simp only [mEnc, List.getElem?_map, hj, Option.map_some] at h3
    have h3' := h3.symm
    rw [Option.map_eq_some_iff] at h3'
    obtain ⟨p, hp, he⟩ := h3'
    injection he with e1 _
    exact ⟨p, hp, Hm (e1.trans hk)⟩
  obtain ⟨p, hp, hpk⟩ := get
  have hf := Ho h.nd hp hpk
  have hset : Hn L k v = (D4 L k).set j (k, v) := by rw [← m2put_set]; unfold Hn; rw [hf]
  refine ⟨{ w with heap := w.heap.setIfInBounds m (.map (es.modify j fun e => { e with val := .int .i64 v }) clock) }, ?_, F5 h.heap, ⟨es.modify j fun e => { e with val := .int .i64 v }, clock, ?_⟩, by simp⟩
  · simp only [Instr.entryStore, Sem.run_bind, Go.MapKept.run_getObj_map h.heap, asInt, asIntOf, Result.andThen_ok, Sem.run_pure, hfind, Go.MapKept.run_setObj_map _ h.heap]
  · have hml : (es.modify j fun e => { e with val := .int .i64 v }).toList = es.toList.modify j (fun e => { e with val := .int .i64 v }) := by simp
    refine ⟨Es h.heap, ?_, ?_, ?_, ?_, ?_⟩
    · rw [hset, hml]
      apply List.ext_getElem?
      intro i
      have h3 := congrArg (fun x => x[i]?) h.ents
      simp only [mEnc, List.getElem?_map] at h3 ⊢
      rw [List.getElem?_modify, List.getElem?_set]
      by_cases hij : j = i
      · subst hij
        have hlt2 : j < (D4 L k).length := (List.getElem?_eq_some_iff.1 hp).1
        simp [hj, hlt2, hk]
      · simp only [if_neg hij]
        simpa using h3
    · rw [hset]
      intro q hq
      rcases List.mem_or_eq_of_mem_set hq with hq | rfl
      · exact h.len q hq
      · exact ⟨h1, h2⟩
    · rw [hset]
      rw [List.pairwise_iff_getElem]
      intro a b ha hb hab
      have hkey : ∀ (i : Nat) (hi : i < ((D4 L k).set j (k, v)).length), (((D4 L k).set j (k, v))[i]).1 = ((D4 L k)[i]'(by simpa using hi)).1 := fun i hi => by
        rw [List.getElem_set]
        split
        · rename_i hji
          subst hji
          have := (List.getElem?_eq_some_iff.1 hp).2
          rw [this, hpk]
        · rfl
      rw [hkey a ha, hkey b hb]
      exact List.pairwise_iff_getElem.1 h.nd a b (by simpa using ha) (by simpa using hb) hab
    · rw [hml, List.pairwise_iff_getElem]
      intro a b ha hb hab
      have hbn : ∀ (i : Nat) (hi : i < (es.toList.modify j (fun e => { e with val := .int .i64 v })).length), ((es.toList.modify j (fun e => { e with val := .int .i64 v }))[i]).born = (es.toList[i]'(by simpa using hi)).born := fun i hi => by
        rw [List.getElem_modify]
        split <;> rfl
      rw [hbn a ha, hbn b hb]
      exact List.pairwise_iff_getElem.1 h.born a b (by simpa using ha) (by simpa using hb) hab
    · rw [hml]
      intro q hq
      obtain ⟨i, hi, rfl⟩ := List.mem_iff_getElem.1 hq
      have hbn : ((es.toList.modify j (fun e => { e with val := .int .i64 v }))[i]).born = (es.toList[i]'(by simpa using hi)).born := by
        rw [List.getElem_modify]
        split <;> rfl
      rw [hbn]
      exact h.clk _ (List.getElem_mem _)
end
section
variable {P : Program} {n : Nat} {B : Code} {p : List Bool} {o : Nat} {K : Fr → World → Prop} {ρ : Fr} {w w0 : World} {ens : List Ent} {S : List Nat} {m : Nat} {L : Jr} {dst : Option Nat} {k : List UInt8 × List UInt8}
theorem F8 {T : TypeId} (ho : Gp (Ql B p) o ρ = some (.makeMap T none, dst)) (hd : Xi n dst = true) (hs : SP S w0 w ens)
    (next : ∀ (m : Nat) (w' : World), SP S w0 w' (ens ++ [Zv m []]) → K (Ui ρ dst (.map (some m))) w') : Qj P n B p o K ρ w := by
  refine Qj.val ho hd (w' := w.alloc (.map #[] 0)) (v := .map (some w.heap.size)) (fun o hop => ?_) (next _ _ ?_)
  · unfold execOp; rw [hop]
    rfl
  · refine hs.push ((Below.refl _ _).alloc (Nat.le_refl _) _) ⟨#[], 0, heap_alloc_new w _, rfl, fun p hp => (by cases hp), List.Pairwise.nil, List.Pairwise.nil, fun e he => (by cases he)⟩ fun k hk => ?_
    have : k = w.heap.size := by simpa [Zv] using hk
    subst this
    simp
theorem Do {T kt et : TypeId} {x ix : Operand} (ho : Gp (Ql B p) o ρ = some (.lookup T x ix false, dst)) (hd : Xi n dst = true) (hx : opv ρ x = .map (some m)) (hix : opv ρ ix = Cq k) (hT : P.underlying T = some (.map kt et)) (hK : KeyT P kt)
    (hz : ∀ w, (zeroValue et).run P w = .ok (.int .i64 0) w) (h : (Zv m L).ok w) (h1 : k.1.length ≤ maxLen) (h2 : k.2.length ≤ maxLen) (next : K (Ui ρ dst (.int .i64 (U7 L k))) w) : Qj P n B p o K ρ w := by
  obtain ⟨es, clock, h⟩ := h
  refine Qj.val ho hd (fun o hop => ?_) next
  unfold execOp; rw [hop]
  simp only [hx, hix, Sem.run_bind, Ff h hK hT hz h1 h2, Result.andThen_ok]
  rfl
theorem Cr {T kt et : TypeId} {b : Nat} {x ix : Operand} (ho : Gp (Ql B p) o ρ = some (.lookup T x ix false, dst)) (hd : Xi n dst = true) (hx : opv ρ x = .map (some m)) (hix : opv ρ ix = Cq k) (hT : P.underlying T = some (.map kt et)) (hK : KeyT P kt)
    (hz : ∀ w, (zeroValue et).run P w = .ok (.int .i64 0) w) (h : (F4 m L k b).ok w) (h1 : k.1.length ≤ maxLen) (h2 : k.2.length ≤ maxLen) (next : K (Ui ρ dst (.int .i64 (U7 L k))) w) : Qj P n B p o K ρ w := by
  obtain ⟨es, clock, h, _⟩ := h
  refine Qj.val ho hd (fun o hop => ?_) next
  unfold execOp; rw [hop]
  simp only [hx, hix, Sem.run_bind, Ff h hK hT hz h1 h2, m2put_get, Result.andThen_ok]
  rfl
theorem Fg {T kt et : TypeId} {x ix : Operand} {i : Nat} (ho : Gp (Ql B p) o ρ = some (.mapEntry T x ix, dst)) (hd : Xi n dst = true) (hx : opv ρ x = .map (some m)) (hix : opv ρ ix = Cq k) (hT : P.underlying T = some (.map kt et)) (hK : KeyT P kt)
    (hz : ∀ w, (zeroValue et).run P w = .ok (.int .i64 0) w) (hs : SP S w0 w ens) (hi : ens[i]? = some (Zv m L)) (h1 : k.1.length ≤ maxLen) (h2 : k.2.length ≤ maxLen)
    (next : ∀ (b : Nat) (w' : World), SP S w0 w' (ens.set i (F4 m L k b)) → K (Ui ρ dst (.tuple #[.int .i64 (U7 L k), .int .i64 (b : Int)])) w') : Qj P n B p o K ρ w := by
  obtain ⟨es, clock, h⟩ := hs.get hi
  obtain ⟨b, w', hr, hm, hok, hsz⟩ := F6 h hK hT hz h1 h2
  refine Qj.val ho hd (w' := w') (v := .tuple #[.int .i64 (U7 L k), .int .i64 (b : Int)]) (fun o hop => ?_) (next b w' ?_)
  · unfold execOp; rw [hop]
    simp only [hx, hix, Sem.run_bind, hr, Result.andThen_ok]
    rfl
  · refine hs.set hi (T := [m]) hm (fun k hk => hk) hok fun k hk => ⟨.inl hk, ?_⟩
    have := (hs.own.get hi).2 k hk
    omega
theorem Fh {T : TypeId} {x ix y : Operand} {i b : Nat} {v : Int} (ho : Gp (Ql B p) o ρ = some (.entryStore T x ix y, dst)) (hd : Xi n dst = true) (hx : opv ρ x = .map (some m)) (hix : opv ρ ix = .int .i64 (b : Int)) (hy : opv ρ y = .int .i64 v)
    (hs : SP S w0 w ens) (hi : ens[i]? = some (F4 m L k b)) (h1 : k.1.length ≤ maxLen) (h2 : k.2.length ≤ maxLen)
    (next : ∀ (w' : World), SP S w0 w' (ens.set i (Zv m (Hn L k v))) → K (Ui ρ dst undef) w') : Qj P n B p o K ρ w := by
  obtain ⟨w', hr, hm, hok, hsz⟩ := F7 (T := T) (P := P) (v := v) (hs.get hi) h1 h2
  refine D8 ho hd (w' := w') (fun o hop => ?_) (next w' ?_)
  · unfold execOp; rw [hop]
    simp only [hx, hix, hy, Sem.run_bind, hr, Result.andThen_ok]
    rfl
  · refine hs.set hi (T := [m]) hm (fun k hk => hk) hok fun k hk => ⟨.inl hk, ?_⟩
    have := (hs.own.get hi).2 k hk
    omega
end
theorem Fk {a b : List UInt8} (h : (Nat.ble (List.length a) 140737488355328 && Nat.ble (List.length b) 140737488355328) = true) : a.length ≤ maxLen ∧ b.length ≤ maxLen := by
  rw [Bool.and_eq_true] at h
  have hm : 140737488355328 ≤ maxLen := by decide
  exact ⟨Nat.le_trans (Nat.le_of_ble_eq_true h.1) hm, Nat.le_trans (Nat.le_of_ble_eq_true h.2) hm⟩
theorem Rr : KeyT Tryz.prog 83 := by
  have hA : ArrKey Tryz.prog 83 9 2 := ⟨by kernel_rfl, by kernel_rfl, by kernel_rfl, by kernel_rfl⟩
  refine ⟨hA.law, fun k h1 h2 => ?_⟩
  have hs1 : (⟨k.1.toArray⟩ : ByteArray).size ≤ maxLen := by rw [Nu]; exact h1
  have hs2 : (⟨k.2.toArray⟩ : ByteArray).size ≤ maxLen := by rw [Nu]; exact h2
  unfold keyOf
  rw [hA.hu]
  have hkt : Tryz.prog.keyType 83 = true := by kernel_rfl
  have hfm : (Cq k).formed Tryz.prog 83 = true := by kernel_rfl
  simp only [hkt, hfm, Bool.and_self, if_true]
  have hkl : ∃ ls, Tryz.prog.keyLits (Tryz.prog.types.size + 1) 83 (Cq k).cells.toList = some ls := by
    obtain ⟨N, hN⟩ : ∃ N, Tryz.prog.types.size = N + 1 := ⟨Tryz.prog.types.size - 1, by kernel_rfl⟩
    rw [hN]
    unfold Program.keyLits
    rw [hA.hu]
    simp only [hA.size, hA.one]
    have hst : Tryz.prog.underlying 9 = some .string := by kernel_rfl
    have e1 : Tryz.prog.keyLits (N + 1) 9 [.string ⟨k.1.toArray⟩] = some [.string k.1] := by
      unfold Program.keyLits
      rw [hst]
      simp [hs1]
    have e2 : Tryz.prog.keyLits (N + 1) 9 [.string ⟨k.2.toArray⟩] = some [.string k.2] := by
      unfold Program.keyLits
      rw [hst]
      simp [hs2]
    refine ⟨[.string k.1, .string k.2], ?_⟩
    simp [Cq, Value.cells, List.range_succ, e1, e2]
  obtain ⟨ls, hls⟩ := hkl
  exact ⟨_, by rw [hls]; rfl⟩
end Go.Proofs.YtmgfanhcdfobhaaGreatDoor
namespace Go.Proofs.YtmgfanhcdfobhaaGreatDoor
abbrev KeyL := List UInt8 × List UInt8
theorem mget_nil (k : KeyL) : U7 [] k = 0 := rfl
theorem Dg (e : KeyL × Int) (L : Jr) (k : KeyL) : U7 (e :: L) k = if e.1 = k then e.2 else U7 L k := by
  unfold U7
  rw [List.findIdx?_cons]
  by_cases h : e.1 = k
  · rw [if_pos h, if_pos (by simpa using h)]
    simp [List.getD]
  · rw [if_neg h, if_neg (by simpa using h)]
    cases hf : L.findIdx? (fun e => e.1 == k) with
    | none => rfl
    | some j => simp [List.getD]
theorem mset_nil (k : KeyL) (v : Int) : Hn [] k v = [(k, v)] := rfl
theorem mset_cons (e : KeyL × Int) (L : Jr) (k : KeyL) (v : Int) : Hn (e :: L) k v = if e.1 = k then (k, v) :: L else e :: Hn L k v := by
  unfold Hn
  rw [List.findIdx?_cons]
  by_cases h : e.1 = k
  · rw [if_pos h, if_pos (by simpa using h)]
    simp
  · rw [if_neg h, if_neg (by simpa using h)]
    cases hf : L.findIdx? (fun e => e.1 == k) with
    | none => simp
    | some j => simp
theorem Cs : ∀ (L : Jr) (k k' : KeyL) (v : Int), U7 (Hn L k v) k' = if k = k' then v else U7 L k'
  | [], k, k', v => by
    rw [mset_nil, Dg]
  | e :: L, k, k', v => by
    rw [mset_cons]
    by_cases h : e.1 = k
    · rw [if_pos h, Dg, Dg, h]
      by_cases h2 : k = k'
      · rw [if_pos h2, if_pos h2]
      · rw [if_neg h2, if_neg h2, if_neg h2]
    · rw [if_neg h, Dg, Dg, Cs L k k' v]
      by_cases h2 : e.1 = k'
      · rw [if_pos h2, if_pos h2, if_neg (fun h3 => h (h2.trans h3.symm))]
      · rw [if_neg h2, if_neg h2]
end Go.Proofs.YtmgfanhcdfobhaaGreatDoor
namespace Go.Proofs.YtmgfanhcdfobhaaGreatDoor
open Go.RowKit
def J2 (a : (List UInt8)) (c : Int) (d : Int) (e : (List (Int × Int))) (f : (List ((List UInt8) × (List UInt8) × Int))) (b : (List UInt8)) : Option (Bool) :=
  (some ((a == b)))
set_option maxRecDepth 100000 in
set_option maxHeartbeats 4000000 in
theorem Dr (A5 : Option Addr) (c6 : Nat) (A9 : Option Addr) (j : Nat) (l : Nat) (c : (List UInt8)) (m : Int) (o : Int) (h : (List (Int × Int))) (i : (List ((List UInt8) × (List UInt8) × Int))) (f : (List UInt8)) (w0 : World) (u : RdT (Qi (Qc .u32) (Qc .i64)) w0 A5 c6 h) (w : RdT (Qi Qy (Qi Qy (Qc .i64))) w0 A9 j i) (hg13 : w0.heap[l]? = some (.cells #[(.string ⟨List.toArray f⟩)] 9 (0, 0))) (r : (Bool)) (H : J2 c m o h i f = some r) :
  Calls Tryz.prog 88 #[(.agg #[(.string ⟨List.toArray c⟩), (.int .i64 m), (.int .i64 o), (.slice A5 (List.length h) c6), (.slice A9 (List.length i) j)]), (pt l 0)] w0 (fun e w' => e = .returned (.bool r) ∧ SP [] w0 w' []) := by
 unfold J2 at H
 refine Qv (n := 8) Tryz.func88 K K K ?_
 have s := Q1 [] w0
 refine aQ ?_
 refine aR ?_
 refine iS 1 ?_
 refine V5 (t := 44) (x := (.tmp 0)) (v := (.agg #[(.string ⟨List.toArray c⟩), (.int .i64 m), (.int .i64 o), (.slice A5 (List.length h) c6), (.slice A9 (List.length i) j)])) (d := (some 2)) (k := 0) K rfl K s ?_
 intro q z p
 refine iR 1 2 [(3, (.bool false))] ?_
 refine iF ?_
 refine aQ ?_
 refine aR ?_
 refine iR 1 1 [(4, (pt q 0))] ?_
 refine iS 2 ?_
 refine sL 9 4 q 0 0 (.string ⟨List.toArray c⟩) 5 p rfl ?_
 refine iS 3 ?_
 refine C5 (t := 9) (t' := 9) (x := (.tmp 1)) (g := l) (off := 0) (cs := #[(.string ⟨List.toArray f⟩)]) (v := (.string ⟨List.toArray f⟩)) (d := (some 6)) (k := 2) K rfl K (D9 hg13 (SP.keeps p)) K ?_
 refine iS 4 ?_
 refine Xe (op := .eql) (T := 9) (T' := 9) (x := (.tmp 5)) (y := (.tmp 6)) (a := c) (b := f) (r := (.bool (c == f))) (d := (some 7)) (k := 3) K rfl K K rfl ?_
 refine iR 1 5 [(3, (.bool (c == f)))] ?_
 refine iF ?_
 refine At.ret K ?_
 refine ⟨(.bool (c == f)), K, ?_⟩
 obtain rfl := Qm H
 exact ⟨rfl, SP.sel p [] rfl rfl⟩
def Ja (e : Int) (f : Int) (g : Int) (h : Int) (b : (List Qk)) (d : (List UInt8)) : Option ((List UInt8) × Int × Int × (List (Int × Int)) × (List ((List UInt8) × (List UInt8) × Int)) × Bool) :=
  ((Q9 b (fun y0 y1 y2 y3 y4 => J2 y0 y1 y2 y3 y4 d)).bind fun c => (cond (decide (c < 0)) (some (([] : List UInt8), 0, 0, ([] : List (Int × Int)), ([] : List ((List UInt8) × (List UInt8) × Int)), false)) ((idx b c).bind fun a => (some (a.1, a.2.1, a.2.2.1, a.2.2.2.1, a.2.2.2.2, true)))))
set_option maxRecDepth 100000 in
set_option maxHeartbeats 4000000 in
theorem Nh {R : World → Prop} (A6 : Option Addr) (c7 : Nat) (a1 : Int) (a2 : Int) (a3 : Int) (a4 : Int) (d9 : (List Vo)) (j : (List UInt8)) (w0 : World) (hR : ∀ w, Below w0.heap.size w0 w → R w) (m : ∀ w, R w → (dDS Ux Cv).ok w (A6, c7, d9)) (r : ((List UInt8) × Int × Int × (List (Int × Int)) × (List ((List UInt8) × (List UInt8) × Int)) × Bool)) (H : Ja a1 a2 a3 a4 (List.map stT d9) j = some r) :
  Calls Tryz.prog 67 #[(.agg #[(.int .i64 a1), (.int .i64 a2), (.int .i64 a3), (.int .i64 a4), (.slice A6 (List.length (List.map stT d9)) c7)]), (.string ⟨List.toArray j⟩)] w0 (fun e w' => ∃ (a8 : Option Addr) (a9 : Nat) (b0 : Option Addr) (b1 : Nat), e = .returned (.tuple #[(.agg #[(.string ⟨List.toArray r.1⟩), (.int .i64 r.2.1), (.int .i64 r.2.2.1), (.slice a8 (List.length r.2.2.2.1) a9), (.slice b0 (List.length r.2.2.2.2.1) b1)]), (.bool r.2.2.2.2.2)]) ∧ (∀ w, R w → RdT (Qi (Qc .u32) (Qc .i64)) w a8 a9 r.2.2.2.1) ∧ (∀ w, R w → RdT (Qi Qy (Qi Qy (Qc .i64))) w b0 b1 r.2.2.2.2.1) ∧ SP [] w0 w' []) := by
 unfold Ja at H
 refine Qv (n := 19) Tryz.func67 K K K ?_
 have b8 := Q1 [] w0
 refine aQ ?_
 refine aR ?_
 refine iS 1 ?_
 refine V5 (t := 24) (x := (.tmp 0)) (v := (.agg #[(.int .i64 a1), (.int .i64 a2), (.int .i64 a3), (.int .i64 a4), (.slice A6 (List.length (List.map stT d9)) c7)])) (d := (some 2)) (k := 0) K rfl K b8 ?_
 intro q c5 b9
 refine iS 2 ?_
 refine V5 (t := 9) (x := (.tmp 1)) (v := (.string ⟨List.toArray j⟩)) (d := (some 3)) (k := 1) K rfl K b9 ?_
 intro s c6 c0
 refine iS 3 ?_
 refine Qj.alloc (t := 44) (z := (.agg #[(.string ⟨List.toArray ([] : List UInt8)⟩), (.int .i64 0), (.int .i64 0), (.slice none (List.length ([] : List (Int × Int))) 0), (.slice none (List.length ([] : List ((List UInt8) × (List UInt8) × Int))) 0)])) (d := (some 4)) (k := 2) K rfl K c0 ?_
 intro u a5 a0
 refine iR 1 4 [(5, (.bool false))] ?_
 refine iF ?_
 refine aQ ?_
 refine aR ?_
 refine iR 1 1 [(7, (pt q 4))] ?_
 refine iS 2 ?_
 refine sL 22 7 q 4 0 (.slice A6 (List.length (List.map stT d9)) c7) 8 a0 rfl ?_
 refine iR 1 3 [(9, (.func (.func 88) #[] #[(pt s 0)]))] ?_
 obtain ⟨h, c1, H⟩ := Qf H
 refine iS 4 ?_
 refine cF 76 #[(.tmp 8), (.tmp 9)] #[22, 102] 10 Tryz.call76 (Z3 A6 c7 88 #[(pt s 0)] d9 (fun y0 y1 y2 y3 y4 => J2 y0 y1 y2 y3 y4 j) a5 (m a5 (hR _ (SP.keeps a0))) Tryz.call88 (fun y0 y1 y2 y3 y4 z w Ay3 cy3 Ay4 cy4 hw hy3 hy4 hz => Dr Ay3 cy3 Ay4 cy4 s y0 y1 y2 y3 y4 j w hy3 hy4 (D9 (show a5.heap[s]? = some (.cells #[(.string ⟨List.toArray j⟩)] 9 (0, 0)) from SP.get a0 (i := 1) rfl) hw) z hz) h c1) ?_
 rintro e b2 ⟨rfl, b3⟩
 refine ⟨_, rfl, ?_⟩
 have p := SP.call a0 b3
 clear b3
 refine iR 1 5 [(6, (.int .i64 h))] ?_
 refine iF ?_
 refine aQ ?_
 refine aQ ?_
 refine aR ?_
 refine iR 2 2 [(11, (.int .i64 h)), (12, (.bool (decide (h < 0))))] ?_
 refine iF ?_
 refine Zi K (o := (.tmp 12)) K (b := (decide (h < 0))) K (fun a6 => ?_) (fun a6 => ?_)
 ·have H := ct H a6
  refine aQ ?_
  refine aR ?_
  refine iR 1 1 [(13, (.agg #[(.string ⟨List.toArray ([] : List UInt8)⟩), (.int .i64 0), (.int .i64 0), (.slice none (List.length ([] : List (Int × Int))) 0), (.slice none (List.length ([] : List ((List UInt8) × (List UInt8) × Int))) 0)]))] ?_
  refine iS 2 ?_
  refine Qj.store (t := 44) (x := (.tmp 4)) (y := (.tmp 13)) (g := u) (off := 0) (i := 2) (v := (.agg #[(.string ⟨List.toArray ([] : List UInt8)⟩), (.int .i64 0), (.int .i64 0), (.slice none (List.length ([] : List (Int × Int))) 0), (.slice none (List.length ([] : List ((List UInt8) × (List UInt8) × Int))) 0)])) (cs' := #[(.string ⟨List.toArray ([] : List UInt8)⟩), (.int .i64 0), (.int .i64 0), (.slice none (List.length ([] : List (Int × Int))) 0), (.slice none (List.length ([] : List ((List UInt8) × (List UInt8) × Int))) 0)]) (d := none) (k := 1) K rfl K K p rfl K ?_
  intro c8 b4
  refine iR 1 3 [(5, (.bool false))] ?_
  refine iF ?_
  refine At.ret K ?_
  refine ⟨(.tuple #[(.agg #[(.string ⟨List.toArray ([] : List UInt8)⟩), (.int .i64 0), (.int .i64 0), (.slice none (List.length ([] : List (Int × Int))) 0), (.slice none (List.length ([] : List ((List UInt8) × (List UInt8) × Int))) 0)]), (.bool false)]), E2 K (Rg (a := 4) (t := 44) (g := u) (off := 0) K (SP.get b4 (i := 2) rfl) K) (B1 (t := 5) K), ?_⟩
  obtain rfl := Qm H
  exact ⟨none, 0, none, 0, rfl, (fun w _ => RdT.nil (Qi (Qc .u32) (Qc .i64)) w), (fun w _ => RdT.nil (Qi Qy (Qi Qy (Qc .i64))) w), SP.sel b4 [] rfl rfl⟩
 ·have H := cf H a6
  refine At.skip K ?_
  refine aQ ?_
  refine aR ?_
  refine iR 1 1 [(14, (pt q 4))] ?_
  refine iS 2 ?_
  refine sL 22 14 q 4 0 (.slice A6 (List.length (List.map stT d9)) c7) 15 p rfl ?_
  refine iR 1 3 [(16, (.int .i64 h))] ?_
  obtain ⟨f, b5, b6, a7, H⟩ := Gh H
  refine iS 4 ?_
  refine U3 stT (e := Ux) (l := d9) (A := A6) (c := c7) (T := 22) (E := 44) (x := (.tmp 15)) (ix := (.tmp 16)) (ki := .i64) (iz := h) (d := (some 17)) (k := 3) K rfl K K K K ((fun w hm => (U6 (m w hm))) b2 (hR _ (SP.keeps p))) b5 b6 ?_
  intro c2 c3 c4 c9 hc46
  refine iS 5 ?_
  refine Qj.cells (t := 44) (x := (.tmp 17)) (b := c2) (off := (c3 + Int.toNat h * Ux.sz)) (xs := [(.string ⟨List.toArray (stT f).1⟩), (.int .i64 (stT f).2.1), (.int .i64 (stT f).2.2.1), (.slice f.2.2.2.1.1 (List.length (stT f).2.2.2.1) f.2.2.2.1.2.1), (.slice f.2.2.2.2.1 (List.length (stT f).2.2.2.2) f.2.2.2.2.2.1)]) (d := (some 18)) (k := 4) K rfl K K K (Z2 (e := Ux) (Qe ((fun w hm => (U6 (m w hm))) b2 (hR _ (SP.keeps p))) c4 b5 b6) a7 rfl) ?_
  refine iS 6 ?_
  refine Qj.store (t := 44) (x := (.tmp 4)) (y := (.tmp 18)) (g := u) (off := 0) (i := 2) (v := (.agg #[(.string ⟨List.toArray (stT f).1⟩), (.int .i64 (stT f).2.1), (.int .i64 (stT f).2.2.1), (.slice f.2.2.2.1.1 (List.length (stT f).2.2.2.1) f.2.2.2.1.2.1), (.slice f.2.2.2.2.1 (List.length (stT f).2.2.2.2) f.2.2.2.2.2.1)])) (cs' := #[(.string ⟨List.toArray (stT f).1⟩), (.int .i64 (stT f).2.1), (.int .i64 (stT f).2.2.1), (.slice f.2.2.2.1.1 (List.length (stT f).2.2.2.1) f.2.2.2.1.2.1), (.slice f.2.2.2.2.1 (List.length (stT f).2.2.2.2) f.2.2.2.2.2.1)]) (d := none) (k := 5) K rfl K K p rfl K ?_
  intro d0 b7
  refine iR 1 7 [(5, (.bool true))] ?_
  refine iF ?_
  refine At.ret K ?_
  refine ⟨(.tuple #[(.agg #[(.string ⟨List.toArray (stT f).1⟩), (.int .i64 (stT f).2.1), (.int .i64 (stT f).2.2.1), (.slice f.2.2.2.1.1 (List.length (stT f).2.2.2.1) f.2.2.2.1.2.1), (.slice f.2.2.2.2.1 (List.length (stT f).2.2.2.2) f.2.2.2.2.2.1)]), (.bool true)]), E2 K (Rg (a := 4) (t := 44) (g := u) (off := 0) K (SP.get b7 (i := 2) rfl) K) (B1 (t := 5) K), ?_⟩
  obtain rfl := Qm H
  exact ⟨f.2.2.2.1.1, f.2.2.2.1.2.1, f.2.2.2.2.1, f.2.2.2.2.2.1, rfl, (fun w hm => (U6 ((fun w hm => (dp1 (dp2 (dp2 (dp2 (Bj (m w hm) a7)))))) w hm))), (fun w hm => (U6 ((fun w hm => (dp2 (dp2 (dp2 (dp2 (Bj (m w hm) a7)))))) w hm))), SP.sel b7 [] rfl rfl⟩
def Ji (a : (List UInt8)) (b : (List UInt8)) (c : Int) (c6 : (List UInt8)) : Option (Bool) :=
  (some ((a == c6)))
set_option maxRecDepth 100000 in
set_option maxHeartbeats 4000000 in
theorem Dh (g4 : Nat) (c : (List UInt8)) (f : (List UInt8)) (h : Int) (c6 : (List UInt8)) (w0 : World) (hg5 : w0.heap[g4]? = some (.cells #[(.string ⟨List.toArray c6⟩)] 9 (0, 0))) (r : (Bool)) (H : Ji c f h c6 = some r) :
  Calls Tryz.prog 90 #[(.agg #[(.string ⟨List.toArray c⟩), (.string ⟨List.toArray f⟩), (.int .i64 h)]), (pt g4 0)] w0 (fun e w' => e = .returned (.bool r) ∧ SP [] w0 w' []) := by
 unfold Ji at H
 refine Qv (n := 8) Tryz.func90 K K K ?_
 have j := Q1 [] w0
 refine aQ ?_
 refine aR ?_
 refine iS 1 ?_
 refine V5 (t := 48) (x := (.tmp 0)) (v := (.agg #[(.string ⟨List.toArray c⟩), (.string ⟨List.toArray f⟩), (.int .i64 h)])) (d := (some 2)) (k := 0) K rfl K j ?_
 intro g7 w8 i
 refine iR 1 2 [(3, (.bool false))] ?_
 refine iF ?_
 refine aQ ?_
 refine aR ?_
 refine iR 1 1 [(4, (pt g7 0))] ?_
 refine iS 2 ?_
 refine sL 9 4 g7 0 0 (.string ⟨List.toArray c⟩) 5 i rfl ?_
 refine iS 3 ?_
 refine C5 (t := 9) (t' := 9) (x := (.tmp 1)) (g := g4) (off := 0) (cs := #[(.string ⟨List.toArray c6⟩)]) (v := (.string ⟨List.toArray c6⟩)) (d := (some 6)) (k := 2) K rfl K (D9 hg5 (SP.keeps i)) K ?_
 refine iS 4 ?_
 refine Xe (op := .eql) (T := 9) (T' := 9) (x := (.tmp 5)) (y := (.tmp 6)) (a := c) (b := c6) (r := (.bool (c == c6))) (d := (some 7)) (k := 3) K rfl K K rfl ?_
 refine iR 1 5 [(3, (.bool (c == c6)))] ?_
 refine iF ?_
 refine At.ret K ?_
 refine ⟨(.bool (c == c6)), K, ?_⟩
 obtain rfl := Qm H
 exact ⟨rfl, SP.sel i [] rfl rfl⟩
def Yq (e : (List UInt8)) (f : Int) (g : Int) (h : (List (Int × Int))) (b : (List ((List UInt8) × (List UInt8) × Int))) (d : (List UInt8)) : Option ((List UInt8) × (List UInt8) × Int × Bool) :=
  ((Vd b (fun y0 y1 y2 => Ji y0 y1 y2 d)).bind fun c => (cond (decide (c < 0)) (some (([] : List UInt8), ([] : List UInt8), 0, false)) ((idx b c).bind fun a => (some (a.1, a.2.1, a.2.2, true)))))
set_option maxRecDepth 100000 in
set_option maxHeartbeats 4000000 in
theorem U1 (A5 : Option Addr) (c6 : Nat) (A9 : Option Addr) (m : Nat) (a3 : (List UInt8)) (a4 : Int) (a5 : Int) (s : (List (Int × Int))) (h : (List ((List UInt8) × (List UInt8) × Int))) (p : (List UInt8)) (w0 : World) (c2 : RdT (Qi (Qc .u32) (Qc .i64)) w0 A5 c6 s) (a6 : RdT (Qi Qy (Qi Qy (Qc .i64))) w0 A9 m h) (r : ((List UInt8) × (List UInt8) × Int × Bool)) (H : Yq a3 a4 a5 s h p = some r) :
  Calls Tryz.prog 68 #[(.agg #[(.string ⟨List.toArray a3⟩), (.int .i64 a4), (.int .i64 a5), (.slice A5 (List.length s) c6), (.slice A9 (List.length h) m)]), (.string ⟨List.toArray p⟩)] w0 (fun e w' => e = .returned (.tuple #[(.agg #[(.string ⟨List.toArray r.1⟩), (.string ⟨List.toArray r.2.1⟩), (.int .i64 r.2.2.1)]), (.bool r.2.2.2)]) ∧ SP [] w0 w' []) := by
 unfold Yq at H
 refine Qv (n := 19) Tryz.func68 K K K ?_
 have b4 := Q1 [] w0
 refine aQ ?_
 refine aR ?_
 refine iS 1 ?_
 refine V5 (t := 44) (x := (.tmp 0)) (v := (.agg #[(.string ⟨List.toArray a3⟩), (.int .i64 a4), (.int .i64 a5), (.slice A5 (List.length s) c6), (.slice A9 (List.length h) m)])) (d := (some 2)) (k := 0) K rfl K b4 ?_
 intro u c3 b5
 refine iS 2 ?_
 refine V5 (t := 9) (x := (.tmp 1)) (v := (.string ⟨List.toArray p⟩)) (d := (some 3)) (k := 1) K rfl K b5 ?_
 intro a0 c4 b6
 refine iS 3 ?_
 refine Qj.alloc (t := 48) (z := (.agg #[(.string ⟨List.toArray ([] : List UInt8)⟩), (.string ⟨List.toArray ([] : List UInt8)⟩), (.int .i64 0)])) (d := (some 4)) (k := 2) K rfl K b6 ?_
 intro a1 a8 a2
 refine iR 1 4 [(5, (.bool false))] ?_
 refine iF ?_
 refine aQ ?_
 refine aR ?_
 refine iR 1 1 [(7, (pt u 4))] ?_
 refine iS 2 ?_
 refine sL 42 7 u 4 0 (.slice A9 (List.length h) m) 8 a2 rfl ?_
 refine iR 1 3 [(9, (.func (.func 90) #[] #[(pt a0 0)]))] ?_
 obtain ⟨j, b7, H⟩ := Qf H
 refine iS 4 ?_
 refine cF 89 #[(.tmp 8), (.tmp 9)] #[42, 117] 10 Tryz.call89 (Z7 A9 m 90 #[(pt a0 0)] h (fun y0 y1 y2 => Ji y0 y1 y2 p) a8 (RdT.sp a6 a2) Tryz.call90 (fun y0 y1 y2 z w  hw  hz => Dh a0 y0 y1 y2 p w (D9 (show a8.heap[a0]? = some (.cells #[(.string ⟨List.toArray p⟩)] 9 (0, 0)) from SP.get a2 (i := 1) rfl) hw) z hz) j b7) ?_
 rintro e c5 ⟨rfl, a9⟩
 refine ⟨_, rfl, ?_⟩
 have q := SP.call a2 a9
 clear a9
 refine iR 1 5 [(6, (.int .i64 j))] ?_
 refine iF ?_
 refine aQ ?_
 refine aQ ?_
 refine aR ?_
 refine iR 2 2 [(11, (.int .i64 j)), (12, (.bool (decide (j < 0))))] ?_
 refine iF ?_
 refine Zi K (o := (.tmp 12)) K (b := (decide (j < 0))) K (fun a7 => ?_) (fun a7 => ?_)
 ·have H := ct H a7
  refine aQ ?_
  refine aR ?_
  refine iR 1 1 [(13, (.agg #[(.string ⟨List.toArray ([] : List UInt8)⟩), (.string ⟨List.toArray ([] : List UInt8)⟩), (.int .i64 0)]))] ?_
  refine iS 2 ?_
  refine Qj.store (t := 48) (x := (.tmp 4)) (y := (.tmp 13)) (g := a1) (off := 0) (i := 2) (v := (.agg #[(.string ⟨List.toArray ([] : List UInt8)⟩), (.string ⟨List.toArray ([] : List UInt8)⟩), (.int .i64 0)])) (cs' := #[(.string ⟨List.toArray ([] : List UInt8)⟩), (.string ⟨List.toArray ([] : List UInt8)⟩), (.int .i64 0)]) (d := none) (k := 1) K rfl K K q rfl K ?_
  intro w32 b0
  refine iR 1 3 [(5, (.bool false))] ?_
  refine iF ?_
  refine At.ret K ?_
  refine ⟨(.tuple #[(.agg #[(.string ⟨List.toArray ([] : List UInt8)⟩), (.string ⟨List.toArray ([] : List UInt8)⟩), (.int .i64 0)]), (.bool false)]), E2 K (Rg (a := 4) (t := 48) (g := a1) (off := 0) K (SP.get b0 (i := 2) rfl) K) (B1 (t := 5) K), ?_⟩
  obtain rfl := Qm H
  exact ⟨rfl, SP.sel b0 [] rfl rfl⟩
 ·have H := cf H a7
  refine At.skip K ?_
  refine aQ ?_
  refine aR ?_
  refine iR 1 1 [(14, (pt u 4))] ?_
  refine iS 2 ?_
  refine sL 42 14 u 4 0 (.slice A9 (List.length h) m) 15 q rfl ?_
  refine iR 1 3 [(16, (.int .i64 j))] ?_
  obtain ⟨f, b1, b2, b8, H⟩ := Qn H
  refine iS 4 ?_
  refine Vj (e := (Qi Qy (Qi Qy (Qc .i64)))) (l := h) (A := A9) (c := m) (T := 42) (E := 48) (x := (.tmp 15)) (ix := (.tmp 16)) (ki := .i64) (iz := j) (d := (some 17)) (k := 3) K rfl K K K K (RdT.sp a6 q) b1 b2 ?_
  intro b9 c0 c1 c7 hc41
  refine iS 5 ?_
  refine Qj.cells (t := 48) (x := (.tmp 17)) (b := b9) (off := (c0 + Int.toNat j * (Qi Qy (Qi Qy (Qc .i64))).sz)) (xs := [(.string ⟨List.toArray f.1⟩), (.string ⟨List.toArray f.2.1⟩), (.int .i64 f.2.2)]) (d := (some 18)) (k := 4) K rfl K K K (Z2 (e := (Qi Qy (Qi Qy (Qc .i64)))) (Qe (RdT.sp a6 q) c1 b1 b2) b8 rfl) ?_
  refine iS 6 ?_
  refine Qj.store (t := 48) (x := (.tmp 4)) (y := (.tmp 18)) (g := a1) (off := 0) (i := 2) (v := (.agg #[(.string ⟨List.toArray f.1⟩), (.string ⟨List.toArray f.2.1⟩), (.int .i64 f.2.2)])) (cs' := #[(.string ⟨List.toArray f.1⟩), (.string ⟨List.toArray f.2.1⟩), (.int .i64 f.2.2)]) (d := none) (k := 5) K rfl K K q rfl K ?_
  intro c8 b3
  refine iR 1 7 [(5, (.bool true))] ?_
  refine iF ?_
  refine At.ret K ?_
  refine ⟨(.tuple #[(.agg #[(.string ⟨List.toArray f.1⟩), (.string ⟨List.toArray f.2.1⟩), (.int .i64 f.2.2)]), (.bool true)]), E2 K (Rg (a := 4) (t := 48) (g := a1) (off := 0) K (SP.get b3 (i := 2) rfl) K) (B1 (t := 5) K), ?_⟩
  obtain rfl := Qm H
  exact ⟨rfl, SP.sel b3 [] rfl rfl⟩
end Go.Proofs.YtmgfanhcdfobhaaGreatDoor
namespace Go.Proofs.YtmgfanhcdfobhaaGreatDoor
open Go.RowKit
def Rs (c : UInt8 → Int → Option (Bool)) (p1 : (List UInt8)) (p5 : (List UInt8)) (b : UInt8) (a : Int) : Option (Bool) :=
  (cond (decide (a < ((List.length p1 : Nat) : Int))) ((idx p1 a).bind fun d => ((idx p5 a).bind fun e => (c (Rx (bOr .u8 ((b).toNat : Int) (V0 .u8 ((d).toNat : Int) ((e).toNat : Int)))) (IntKind.wrap .i64 (a + 1))))) (some ((((b).toNat : Int) == 0))))
def Gd (p1 : (List UInt8)) (p5 : (List UInt8)) : Nat → UInt8 → Int → Option (Bool)
  | 0, _, _ => none
  | f + 1, a, b => Rs  (Gd p1 p5 f) p1 p5 a b
def Bx (p1 : (List UInt8)) (p5 : (List UInt8)) : Option (Bool) :=
  (cond (((List.length p1 : Nat) : Int) != ((List.length p5 : Nat) : Int)) (some (false)) (Gd p1 p5 Z0 (0 : UInt8) 0))
set_option maxRecDepth 100000 in
set_option maxHeartbeats 4000000 in
theorem Ct (A2 : Option Addr) (c3 : Nat) (A6 : Option Addr) (c7 : Nat) (p1 : (List UInt8)) (p5 : (List UInt8)) (w0 : World) (p : RdT eU8 w0 A2 c3 p1) (q : RdT eU8 w0 A6 c7 p5) (r : (Bool)) (H : Bx p1 p5 = some r) :
  Calls Tryz.prog 52 #[(.slice A2 (List.length p1) c3), (.slice A6 (List.length p5) c7)] w0 (fun e w' => e = .returned (.bool r) ∧ SP [] w0 w' []) := by
 unfold Bx at H
 refine Qv (n := 31) Tryz.func52 K K K ?_
 have s := Q1 [] w0
 refine aQ ?_
 refine aR ?_
 refine iR 1 1 [(4, (.bool false))] ?_
 refine iF ?_
 refine aQ ?_
 refine aQ ?_
 refine aR ?_
 refine iR 5 5 [(7, (.slice A2 (List.length p1) c3)), (8, (.int .i64 ((List.length p1 : Nat) : Int))), (9, (.slice A6 (List.length p5) c7)), (10, (.int .i64 ((List.length p5 : Nat) : Int))), (11, (.bool (((List.length p1 : Nat) : Int) != ((List.length p5 : Nat) : Int))))] ?_
 refine iF ?_
 refine Zi K (o := (.tmp 11)) K (b := (((List.length p1 : Nat) : Int) != ((List.length p5 : Nat) : Int))) K (fun i => ?_) (fun i => ?_)
 ·have H := ct H i
  refine aQ ?_
  refine aR ?_
  refine iR 1 1 [(4, (.bool false))] ?_
  refine iF ?_
  refine At.ret K ?_
  refine ⟨(.bool false), K, ?_⟩
  obtain rfl := Qm H
  exact ⟨rfl, SP.sel s [] rfl rfl⟩
 ·have H := cf H i
  refine At.skip K ?_
  refine aQ ?_
  refine aR ?_
  refine iR 1 1 [(5, (.int .u8 0))] ?_
  refine iF ?_
  refine aQ ?_
  refine aQ ?_
  refine aR ?_
  refine iR 3 3 [(12, (.slice A2 (List.length p1) c3)), (13, (.int .i64 ((List.length p1 : Nat) : Int))), (14, (.int .i64 0))] ?_
  refine iF ?_
  refine Zj K (id := 0) K ?_
  refine Jk K (fun f1 ρ w => ∃ (f : UInt8) (a : Int), V8 ρ [(0, (.slice A2 (List.length p1) c3)), (1, (.slice A6 (List.length p5) c7)), (5, (.int .u8 ((f).toNat : Int))), (13, (.int .i64 ((List.length p1 : Nat) : Int))), (14, (.int .i64 a))] ∧ SP [] w0 w [] ∧ Gd p1 p5 f1 f a = some r) (by rintro ρ w ⟨f, a, hk, hs, H⟩; cases H) ?_ Z0 ?_
  ·rintro f1 ρ c2 ⟨f, a, hk, t, H⟩
   refine At.known [(0, (.slice A2 (List.length p1) c3)), (1, (.slice A6 (List.length p5) c7)), (5, (.int .u8 ((f).toNat : Int))), (13, (.int .i64 ((List.length p1 : Nat) : Int))), (14, (.int .i64 a))] hk ?_
   replace H := (show Rs (Gd p1 p5 f1) p1 p5 f a = some r from H)
   unfold Rs at H
   refine aQ ?_
   refine aR ?_
   refine iR 1 1 [(15, (.bool (decide (a < ((List.length p1 : Nat) : Int)))))] ?_
   refine iF ?_
   refine aQ ?_
   refine Zi K (o := (.tmp 15)) K (b := (decide (a < ((List.length p1 : Nat) : Int)))) K (fun m => ?_) (fun m => ?_)
   ·have H := ct H m
    refine At.skip K ?_
    refine aQ ?_
    refine Zj K (id := 1) K ?_
    refine aQ ?_
    refine aR ?_
    refine iR 2 2 [(16, (.int .i64 a)), (6, (.int .i64 a))] ?_
    refine iF ?_
    obtain ⟨g, u, v, a1, H⟩ := Qn H
    obtain ⟨h, y, z, a2, H⟩ := Qn H
    refine aG [GEq (.int .u8 ((f).toNat : Int)), GEq (.slice A2 (List.length p1) c3), GEq (.int .i64 a), Vs A2 eU8.sz a, GEq (.int .u8 ((g).toNat : Int)), GEq (.slice A6 (List.length p5) c7), GEq (.int .i64 a), Vs A6 eU8.sz a, GEq (.int .u8 ((h).toNat : Int)), GEq (.int .u8 (V0 .u8 ((g).toNat : Int) ((h).toNat : Int))), GEq (.int .u8 (bOr .u8 ((f).toNat : Int) (V0 .u8 ((g).toNat : Int) ((h).toNat : Int)))), GEq (.int .u8 (bOr .u8 ((f).toNat : Int) (V0 .u8 ((g).toNat : Int) ((h).toNat : Int))))] [] (tG [] w0 [] [([], [])]) 12 0 ⟨trivial, SP.drew t⟩ ?_ ?_
    iterate 12 refine And.intro ?_ ?_
    exact trivial
    ·exact oV (hC (hS 5 (.int .u8 ((f).toNat : Int))) (h0)) (.int .u8 ((f).toNat : Int))
    ·exact oV (hC (hS 0 (.slice A2 (List.length p1) c3)) (h0)) (.slice A2 (List.length p1) c3)
    ·exact oV (hC (hS 6 (.int .i64 a)) (h0)) (.int .i64 a)
    ·refine oL 0 ?_
     ·rintro ρ' w' hs hah ⟨c4, a3⟩
      refine kM (kc (kA hah 1 18) (kc (kA hah 2 19) k0)) fun hkn => ?_
      refine Vj (e := eU8) (l := p1) (A := A2) (c := c3) (T := 52) (E := 5) (x := (.tmp 18)) (ix := (.tmp 19)) (ki := .i64) (iz := a) (d := (some 20)) (k := 3) K rfl K K K K (RdT.sp p a3) u v ?_
      intro a4 a5 a6 c5 hc131
      exact ⟨rfl, _, Qa hkn, ⟨a4, a5, a6, rfl⟩⟩
    ·refine oL 0 ?_
     ·rintro ρ' w' hs hah ⟨c6, a7⟩
      obtain ⟨a8, a9, b0, b1⟩ := hah 3 20 K
      refine kM (kc b1 k0) fun hkn => ?_
      refine sC 5 20 a8 (a9 + Int.toNat a * eU8.sz) (.int .u8 ((g).toNat : Int)) 21 (Qh (e := eU8) (Qe (RdT.sp p a7) b0 u v) a1 (j := 0) rfl) ?_
      exact eK hkn
    ·exact oV (hC (hS 1 (.slice A6 (List.length p5) c7)) (h0)) (.slice A6 (List.length p5) c7)
    ·exact oV (hC (hS 6 (.int .i64 a)) (h0)) (.int .i64 a)
    ·refine oL 0 ?_
     ·rintro ρ' w' hs hah ⟨c8, b2⟩
      refine kM (kc (kA hah 5 22) (kc (kA hah 6 23) k0)) fun hkn => ?_
      refine Vj (e := eU8) (l := p5) (A := A6) (c := c7) (T := 52) (E := 5) (x := (.tmp 22)) (ix := (.tmp 23)) (ki := .i64) (iz := a) (d := (some 24)) (k := 7) K rfl K K K K (RdT.sp q b2) y z ?_
      intro b3 b4 b5 c9 hc143
      exact ⟨rfl, _, Qa hkn, ⟨b3, b4, b5, rfl⟩⟩
    ·refine oL 0 ?_
     ·rintro ρ' w' hs hah ⟨d0, b6⟩
      obtain ⟨b7, b8, b9, c0⟩ := hah 7 24 K
      refine kM (kc c0 k0) fun hkn => ?_
      refine sC 5 24 b7 (b8 + Int.toNat a * eU8.sz) (.int .u8 ((h).toNat : Int)) 25 (Qh (e := eU8) (Qe (RdT.sp q b6) b9 y z) a2 (j := 0) rfl) ?_
      exact eK hkn
    ·exact oV (hC (hA 4 21) (hC (hA 8 25) (h0))) (.int .u8 (V0 .u8 ((g).toNat : Int) ((h).toNat : Int)))
    ·exact oV (hC (hA 0 17) (hC (hA 9 26) (h0))) (.int .u8 (bOr .u8 ((f).toNat : Int) (V0 .u8 ((g).toNat : Int) ((h).toNat : Int))))
    ·exact oV (hC (hA 10 27) (h0)) (.int .u8 (bOr .u8 ((f).toNat : Int) (V0 .u8 ((g).toNat : Int) ((h).toNat : Int))))
    ·rintro ρ' w' hs hf ⟨d1, a0⟩
     refine Vh [(0, (.slice A2 (List.length p1) c3)), (1, (.slice A6 (List.length p5) c7)), (5, (.int .u8 (bOr .u8 ((f).toNat : Int) (V0 .u8 ((g).toNat : Int) ((h).toNat : Int))))), (13, (.int .i64 ((List.length p1 : Nat) : Int))), (14, (.int .i64 a))] ⟨(hs 0 K).trans K, (hs 1 K).trans K, hf 11 5 K, (hs 13 K).trans K, (hs 14 K).trans K, trivial⟩ ?_
     obtain ⟨d2, c1⟩ : ∃ x, w' = x := ⟨_, rfl⟩
     rw [c1] at a0 ⊢
     refine aR ?_
     refine iR 2 2 [(28, (.int .i64 (IntKind.wrap .i64 (a + 1)))), (14, (.int .i64 (IntKind.wrap .i64 (a + 1))))] ?_
     refine iF ?_
     exact ⟨(Rx (bOr .u8 ((f).toNat : Int) (V0 .u8 ((g).toNat : Int) ((h).toNat : Int)))), (IntKind.wrap .i64 (a + 1)), ⟨(by first | exact (by simp only [Gg (u8_or _ _)]; rfl) | rfl), (by first | exact (by simp only [Gg (u8_or _ _)]; rfl) | rfl), (by first | exact (by simp only [Gg (u8_or _ _)]; rfl) | rfl), (by first | exact (by simp only [Gg (u8_or _ _)]; rfl) | rfl), (by first | exact (by simp only [Gg (u8_or _ _)]; rfl) | rfl), trivial⟩, SP.sel a0 [] rfl rfl, H⟩
   ·have H := cf H m
    refine At.exit K (id := 0) K ?_
    refine aQ ?_
    refine aR ?_
    refine iR 3 3 [(29, (.int .u8 ((f).toNat : Int))), (30, (.bool (((f).toNat : Int) == 0))), (4, (.bool (((f).toNat : Int) == 0)))] ?_
    refine iF ?_
    refine At.ret K ?_
    refine ⟨(.bool (((f).toNat : Int) == 0)), K, ?_⟩
    obtain rfl := Qm H
    exact ⟨rfl, SP.sel t [] rfl rfl⟩
  ·exact ⟨(0 : UInt8), 0, ⟨K, K, K, K, K, trivial⟩, SP.sel s [] rfl rfl, H⟩
end Go.Proofs.YtmgfanhcdfobhaaGreatDoor
