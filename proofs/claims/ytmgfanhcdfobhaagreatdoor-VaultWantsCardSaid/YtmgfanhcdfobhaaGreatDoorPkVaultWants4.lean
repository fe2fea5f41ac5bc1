import Derived.Test.YtmgfanhcdfobhaaGreatDoorPkVaultWants3
set_option linter.unusedSimpArgs false
set_option linter.unusedVariables false
set_option linter.unusedSectionVars false
namespace Go.Proofs.YtmgfanhcdfobhaaGreatDoor
open Go.RowKit
def J7  : Option ((List Int)) :=
  (some (([1116352408, 1899447441, 3049323471, 3921009573, 961987163, 1508970993, 2453635748, 2870763221, 3624381080, 310598401, 607225278, 1426881987, 1925078388, 2162078206, 2614888103, 3248222580, 3835390401, 4022224774, 264347078, 604807628, 770255983, 1249150122, 1555081692, 1996064986, 2554220882, 2821834349, 2952996808, 3210313671, 3336571891, 3584528711, 113926993, 338241895, 666307205, 773529912, 1294757372, 1396182291, 1695183700, 1986661051, 2177026350, 2456956037, 2730485921, 2820302411, 3259730800, 3345764771, 3516065817, 3600352804, 4094571909, 275423344, 430227734, 506948616, 659060556, 883997877, 958139571, 1322822218, 1537002063, 1747873779, 1955562222, 2024104815, 2227730452, 2361852424, 2428436474, 2756734187, 3204031479, 3329325298] : List Int)))
set_option maxRecDepth 100000 in
set_option maxHeartbeats 4000000 in
theorem Ro   (w0 : World)  (r : ((List Int))) (H : J7  = some r) :
  Calls Tryz.prog 101 #[] w0 (fun e w' => e = .returned (.agg (Qb (Qc .u32) r).toArray) ∧ SP [] w0 w' []) := by
 unfold J7 at H
 refine Qv (n := 2) Tryz.func101 K K K ?_
 have c := Q1 [] w0
 refine aQ ?_
 refine aR ?_
 refine iS 1 ?_
 refine Qz (e := (Qc .u32)) (l := (List.replicate 64 0)) (m := 64) (t := 135) (z := .agg (Qb (Qc .u32) (List.replicate 64 0)).toArray) (d := (some 0)) (k := 0) K rfl K rfl rfl K c ?_
 intro g1 w2 f
 refine iF ?_
 refine aQ ?_
 refine aR ?_
 refine iR 1 1 [(1, (.agg (Qb (Qc .u32) ([1116352408, 1899447441, 3049323471, 3921009573, 961987163, 1508970993, 2453635748, 2870763221, 3624381080, 310598401, 607225278, 1426881987, 1925078388, 2162078206, 2614888103, 3248222580, 3835390401, 4022224774, 264347078, 604807628, 770255983, 1249150122, 1555081692, 1996064986, 2554220882, 2821834349, 2952996808, 3210313671, 3336571891, 3584528711, 113926993, 338241895, 666307205, 773529912, 1294757372, 1396182291, 1695183700, 1986661051, 2177026350, 2456956037, 2730485921, 2820302411, 3259730800, 3345764771, 3516065817, 3600352804, 4094571909, 275423344, 430227734, 506948616, 659060556, 883997877, 958139571, 1322822218, 1537002063, 1747873779, 1955562222, 2024104815, 2227730452, 2361852424, 2428436474, 2756734187, 3204031479, 3329325298] : List Int)).toArray))] ?_
 refine iS 2 ?_
 refine Q8 (e := (Qc .u32)) (l := (List.replicate 64 0)) (l' := ([1116352408, 1899447441, 3049323471, 3921009573, 961987163, 1508970993, 2453635748, 2870763221, 3624381080, 310598401, 607225278, 1426881987, 1925078388, 2162078206, 2614888103, 3248222580, 3835390401, 4022224774, 264347078, 604807628, 770255983, 1249150122, 1555081692, 1996064986, 2554220882, 2821834349, 2952996808, 3210313671, 3336571891, 3584528711, 113926993, 338241895, 666307205, 773529912, 1294757372, 1396182291, 1695183700, 1986661051, 2177026350, 2456956037, 2730485921, 2820302411, 3259730800, 3345764771, 3516065817, 3600352804, 4094571909, 275423344, 430227734, 506948616, 659060556, 883997877, 958139571, 1322822218, 1537002063, 1747873779, 1955562222, 2024104815, 2227730452, 2361852424, 2428436474, 2756734187, 3204031479, 3329325298] : List Int)) (m := 64) (t := 135) (x := (.tmp 0)) (y := (.tmp 1)) (g := g1) (i := 0) (d := none) (k := 1) K rfl K K rfl f rfl K ?_
 intro w5 b
 refine iF ?_
 refine At.ret K ?_
 refine ⟨(.agg (Qb (Qc .u32) ([1116352408, 1899447441, 3049323471, 3921009573, 961987163, 1508970993, 2453635748, 2870763221, 3624381080, 310598401, 607225278, 1426881987, 1925078388, 2162078206, 2614888103, 3248222580, 3835390401, 4022224774, 264347078, 604807628, 770255983, 1249150122, 1555081692, 1996064986, 2554220882, 2821834349, 2952996808, 3210313671, 3336571891, 3584528711, 113926993, 338241895, 666307205, 773529912, 1294757372, 1396182291, 1695183700, 1986661051, 2177026350, 2456956037, 2730485921, 2820302411, 3259730800, 3345764771, 3516065817, 3600352804, 4094571909, 275423344, 430227734, 506948616, 659060556, 883997877, 958139571, 1322822218, 1537002063, 1747873779, 1955562222, 2024104815, 2227730452, 2361852424, 2428436474, 2756734187, 3204031479, 3329325298] : List Int)).toArray), Bz K (U0 (e := (Qc .u32)) (l := ([1116352408, 1899447441, 3049323471, 3921009573, 961987163, 1508970993, 2453635748, 2870763221, 3624381080, 310598401, 607225278, 1426881987, 1925078388, 2162078206, 2614888103, 3248222580, 3835390401, 4022224774, 264347078, 604807628, 770255983, 1249150122, 1555081692, 1996064986, 2554220882, 2821834349, 2952996808, 3210313671, 3336571891, 3584528711, 113926993, 338241895, 666307205, 773529912, 1294757372, 1396182291, 1695183700, 1986661051, 2177026350, 2456956037, 2730485921, 2820302411, 3259730800, 3345764771, 3516065817, 3600352804, 4094571909, 275423344, 430227734, 506948616, 659060556, 883997877, 958139571, 1322822218, 1537002063, 1747873779, 1955562222, 2024104815, 2227730452, 2361852424, 2428436474, 2756734187, 3204031479, 3329325298] : List Int)) (a := 0) (t := 135) K (SP.get b (i := 0) rfl) K K), ?_⟩
 obtain rfl := Qm H
 exact ⟨rfl, SP.sel b [] rfl rfl⟩
def Z0 (p1 : Int) (p2 : Int) : Option (Int) :=
  ((chk (decide (0 ≤ p2))).bind fun _ => ((chk (decide (0 ≤ (IntKind.wrap .i64 (32 - p2))))).bind fun _ => (some ((bOr .u32 (Ud .u32 p1 p2) (Ui .u32 p1 (IntKind.wrap .i64 (32 - p2))))))))
set_option maxRecDepth 100000 in
set_option maxHeartbeats 4000000 in
theorem Xz  (p1 : Int) (p2 : Int) (w0 : World)  (r : (Int)) (H : Z0 p1 p2 = some r) :
  Calls Tryz.prog 118 #[(.int .u32 p1), (.int .i64 p2)] w0 (fun e w' => e = .returned (.int .u32 r) ∧ SP [] w0 w' []) := by
 unfold Z0 at H
 refine Qv (n := 13) Tryz.func118 K K K ?_
 have f := Q1 [] w0
 refine aQ ?_
 refine aR ?_
 refine iR 1 1 [(4, (.int .u32 0))] ?_
 refine iF ?_
 refine aQ ?_
 obtain ⟨hl3, H⟩ := Vu H
 obtain ⟨hl4, H⟩ := Vu H
 refine aG [GEq (.int .u32 p1), GEq (.int .i64 p2), GEq (.int .u32 (Ud .u32 p1 p2)), GEq (.int .u32 p1), GEq (.int .i64 p2), GEq (.int .i64 (IntKind.wrap .i64 (32 - p2))), GEq (.int .u32 (Ui .u32 p1 (IntKind.wrap .i64 (32 - p2)))), GEq (.int .u32 (bOr .u32 (Ud .u32 p1 p2) (Ui .u32 p1 (IntKind.wrap .i64 (32 - p2))))), GEq (.int .u32 (bOr .u32 (Ud .u32 p1 p2) (Ui .u32 p1 (IntKind.wrap .i64 (32 - p2)))))] [] (tG [] w0 [] [([], [])]) 9 0 ⟨trivial, SP.drew f⟩ ?_ ?_
 iterate 9 refine And.intro ?_ ?_
 exact trivial
 ·exact oV (hC (hS 0 (.int .u32 p1)) (h0)) (.int .u32 p1)
 ·exact oV (hC (hS 1 (.int .i64 p2)) (h0)) (.int .i64 p2)
 ·refine oL 0 ?_
  ·rintro ρ' w' hs hah ⟨h, i⟩
   refine kM (kc (kA hah 0 5) (kc (kA hah 1 6) k0)) fun hkn => ?_
   refine Qj.shift (op := .shr) (T := 111) (T' := 3) (x := (.tmp 5)) (y := (.tmp 6)) (kx := .u32) (ky := .i64) (a := p1) (b := p2) (v := (.int .u32 (Ud .u32 p1 p2))) (d := (some 7)) (k := 2) K rfl K K (of_decide_eq_true hl3) rfl ?_
   exact eK hkn
 ·exact oV (hC (hS 0 (.int .u32 p1)) (h0)) (.int .u32 p1)
 ·exact oV (hC (hS 1 (.int .i64 p2)) (h0)) (.int .i64 p2)
 ·exact oV (hC (hA 4 9) (h0)) (.int .i64 (IntKind.wrap .i64 (32 - p2)))
 ·refine oL 0 ?_
  ·rintro ρ' w' hs hah ⟨j, l⟩
   refine kM (kc (kA hah 3 8) (kc (kA hah 5 10) k0)) fun hkn => ?_
   refine Qj.shift (op := .shl) (T := 111) (T' := 3) (x := (.tmp 8)) (y := (.tmp 10)) (kx := .u32) (ky := .i64) (a := p1) (b := (IntKind.wrap .i64 (32 - p2))) (v := (.int .u32 (Ui .u32 p1 (IntKind.wrap .i64 (32 - p2))))) (d := (some 11)) (k := 6) K rfl K K (of_decide_eq_true hl4) rfl ?_
   exact eK hkn
 ·exact oV (hC (hA 2 7) (hC (hA 6 11) (h0))) (.int .u32 (bOr .u32 (Ud .u32 p1 p2) (Ui .u32 p1 (IntKind.wrap .i64 (32 - p2)))))
 ·exact oV (hC (hA 7 12) (h0)) (.int .u32 (bOr .u32 (Ud .u32 p1 p2) (Ui .u32 p1 (IntKind.wrap .i64 (32 - p2)))))
 ·rintro ρ' w' hs hf ⟨m, c⟩
  refine Vj [(4, (.int .u32 (bOr .u32 (Ud .u32 p1 p2) (Ui .u32 p1 (IntKind.wrap .i64 (32 - p2))))))] ⟨hf 8 4 K, trivial⟩ ?_
  obtain ⟨o, g⟩ : ∃ x, w' = x := ⟨_, rfl⟩
  rw [g] at c ⊢
  refine At.ret K ?_
  refine ⟨(.int .u32 (bOr .u32 (Ud .u32 p1 p2) (Ui .u32 p1 (IntKind.wrap .i64 (32 - p2))))), K, ?_⟩
  obtain rfl := Qm H
  exact ⟨rfl, SP.sel c [] rfl rfl⟩
def Ya (p1 : Int) (p2 : Int) (p3 : Int) (p4 : Int) : Option (Int) :=
  ((Z0 p1 p2).bind fun z5 => ((Z0 p1 p3).bind fun a => ((chk (decide (0 ≤ p4))).bind fun _ => (some ((Vt .u32 (Vt .u32 z5 a) (Ud .u32 p1 p4)))))))
set_option maxRecDepth 100000 in
set_option maxHeartbeats 4000000 in
theorem Ns  (p1 : Int) (p2 : Int) (p3 : Int) (p4 : Int) (w0 : World)  (r : (Int)) (H : Ya p1 p2 p3 p4 = some r) :
  Calls Tryz.prog 117 #[(.int .u32 p1), (.int .i64 p2), (.int .i64 p3), (.int .i64 p4)] w0 (fun e w' => e = .returned (.int .u32 r) ∧ SP [] w0 w' []) := by
 unfold Ya at H
 refine Qv (n := 20) Tryz.func117 K K K ?_
 have i := Q1 [] w0
 refine aQ ?_
 refine aR ?_
 refine iR 1 1 [(8, (.int .u32 0))] ?_
 refine iF ?_
 refine aQ ?_
 obtain ⟨z5, j, H⟩ := Qg H
 obtain ⟨c, l, H⟩ := Qg H
 obtain ⟨hl17, H⟩ := Vu H
 refine aG [GEq (.int .u32 p1), GEq (.int .i64 p2), GEq (.int .u32 z5), GEq (.int .u32 p1), GEq (.int .i64 p3), GEq (.int .u32 c), GEq (.int .u32 (Vt .u32 z5 c)), GEq (.int .u32 p1), GEq (.int .i64 p4), GEq (.int .u32 (Ud .u32 p1 p4)), GEq (.int .u32 (Vt .u32 (Vt .u32 z5 c) (Ud .u32 p1 p4))), GEq (.int .u32 (Vt .u32 (Vt .u32 z5 c) (Ud .u32 p1 p4)))] [2, 5] (tG [] w0 [] [([], []), ([2], [(.int .u32 z5)]), ([2, 5], [(.int .u32 z5), (.int .u32 c)])]) 12 2 ⟨trivial, SP.drew i⟩ ?_ ?_
 iterate 12 refine And.intro ?_ ?_
 exact trivial
 ·exact oV (hC (hS 0 (.int .u32 p1)) (h0)) (.int .u32 p1)
 ·exact oV (hC (hS 1 (.int .i64 p2)) (h0)) (.int .i64 p2)
 ·refine oH 0 1 ?_
  ·rintro ρ' w' hs hah ⟨u, m⟩
   refine kM (kc (kA hah 0 9) (kc (kA hah 1 10) k0)) fun hkn => ?_
   refine cF 118 #[(.tmp 9), (.tmp 10)] #[111, 3] 11 Tryz.call118 (Xz  p1 p2 w'  z5 j) ?_
   rintro e w32 ⟨rfl, f⟩
   refine ⟨_, rfl, ?_⟩
   have o := SP.call m f
   clear f
   refine ⟨_, Qa hkn, rfl, ?_⟩
   exact (And.intro (And.intro rfl (trivial)) (o))
 ·exact oV (hC (hS 0 (.int .u32 p1)) (h0)) (.int .u32 p1)
 ·exact oV (hC (hS 2 (.int .i64 p3)) (h0)) (.int .i64 p3)
 ·refine oH 1 2 ?_
  ·rintro ρ' w' hs hah ⟨⟨p, -⟩, q⟩
   refine kM (kc (kA hah 3 12) (kc (kA hah 4 13) k0)) fun hkn => ?_
   refine cF 118 #[(.tmp 12), (.tmp 13)] #[111, 3] 14 Tryz.call118 (Xz  p1 p3 w'  c l) ?_
   rintro e w ⟨rfl, g⟩
   refine ⟨_, rfl, ?_⟩
   have s := SP.call q g
   clear g
   refine ⟨_, Qa hkn, rfl, ?_⟩
   exact (And.intro (And.intro p (And.intro rfl (trivial))) (s))
 ·exact oV (hC (hA 2 11) (hC (hA 5 14) (h0))) (.int .u32 (Vt .u32 z5 c))
 ·exact oV (hC (hS 0 (.int .u32 p1)) (h0)) (.int .u32 p1)
 ·exact oV (hC (hS 3 (.int .i64 p4)) (h0)) (.int .i64 p4)
 ·refine Owe.light K [0, 1, 2] K (Qd ?_ (Qd ?_ (Qd ?_ Q3)))
  ·rintro ρ' w' hs hah ⟨z, a0⟩
   refine kM (kc (kA hah 7 16) (kc (kA hah 8 17) k0)) fun hkn => ?_
   refine Qj.shift (op := .shr) (T := 111) (T' := 3) (x := (.tmp 16)) (y := (.tmp 17)) (kx := .u32) (ky := .i64) (a := p1) (b := p4) (v := (.int .u32 (Ud .u32 p1 p4))) (d := (some 18)) (k := 9) K rfl K K (of_decide_eq_true hl17) rfl ?_
   exact eK hkn
  ·rintro ρ' w' hs hah ⟨⟨a1, -⟩, a2⟩
   refine kM (kc (kA hah 7 16) (kc (kA hah 8 17) k0)) fun hkn => ?_
   refine Qj.shift (op := .shr) (T := 111) (T' := 3) (x := (.tmp 16)) (y := (.tmp 17)) (kx := .u32) (ky := .i64) (a := p1) (b := p4) (v := (.int .u32 (Ud .u32 p1 p4))) (d := (some 18)) (k := 9) K rfl K K (of_decide_eq_true hl17) rfl ?_
   exact eK hkn
  ·rintro ρ' w' hs hah ⟨⟨a3, a4, -⟩, a5⟩
   refine kM (kc (kA hah 7 16) (kc (kA hah 8 17) k0)) fun hkn => ?_
   refine Qj.shift (op := .shr) (T := 111) (T' := 3) (x := (.tmp 16)) (y := (.tmp 17)) (kx := .u32) (ky := .i64) (a := p1) (b := p4) (v := (.int .u32 (Ud .u32 p1 p4))) (d := (some 18)) (k := 9) K rfl K K (of_decide_eq_true hl17) rfl ?_
   exact eK hkn
 ·exact oV (hC (hA 6 15) (hC (hA 9 18) (h0))) (.int .u32 (Vt .u32 (Vt .u32 z5 c) (Ud .u32 p1 p4)))
 ·exact oV (hC (hA 10 19) (h0)) (.int .u32 (Vt .u32 (Vt .u32 z5 c) (Ud .u32 p1 p4)))
 ·rintro ρ' w' hs hf ⟨⟨a6, a7, -⟩, h⟩
  refine Vj [(8, (.int .u32 (Vt .u32 (Vt .u32 z5 c) (Ud .u32 p1 p4))))] ⟨hf 11 8 K, trivial⟩ ?_
  obtain ⟨a8, t⟩ : ∃ x, w' = x := ⟨_, rfl⟩
  rw [t] at h ⊢
  refine At.ret K ?_
  refine ⟨(.int .u32 (Vt .u32 (Vt .u32 z5 c) (Ud .u32 p1 p4))), K, ?_⟩
  obtain rfl := Qm H
  exact ⟨rfl, SP.sel h [] rfl rfl⟩
def Yb (p1 : Int) (p2 : Int) (p3 : Int) (p4 : Int) : Option (Int) :=
  ((Z0 p1 p2).bind fun z5 => ((Z0 p1 p3).bind fun a => ((Z0 p1 p4).bind fun b => (some ((Vt .u32 (Vt .u32 z5 a) b))))))
set_option maxRecDepth 100000 in
set_option maxHeartbeats 4000000 in
theorem Nt  (p1 : Int) (p2 : Int) (p3 : Int) (p4 : Int) (w0 : World)  (r : (Int)) (H : Yb p1 p2 p3 p4 = some r) :
  Calls Tryz.prog 103 #[(.int .u32 p1), (.int .i64 p2), (.int .i64 p3), (.int .i64 p4)] w0 (fun e w' => e = .returned (.int .u32 r) ∧ SP [] w0 w' []) := by
 unfold Yb at H
 refine Qv (n := 20) Tryz.func103 K K K ?_
 have g := Q1 [] w0
 refine aQ ?_
 refine aR ?_
 refine iR 1 1 [(8, (.int .u32 0))] ?_
 refine iF ?_
 refine aQ ?_
 refine aR ?_
 refine iR 2 2 [(9, (.int .u32 p1)), (10, (.int .i64 p2))] ?_
 obtain ⟨z5, h, H⟩ := Qg H
 refine iS 3 ?_
 refine cF 118 #[(.tmp 9), (.tmp 10)] #[111, 3] 11 Tryz.call118 (Xz  p1 p2 w0  z5 h) ?_
 rintro e w7 ⟨rfl, c⟩
 refine ⟨_, rfl, ?_⟩
 have i := SP.call g c
 clear c
 refine iR 2 5 [(12, (.int .u32 p1)), (13, (.int .i64 p3))] ?_
 obtain ⟨a, j, H⟩ := Qg H
 refine iS 6 ?_
 refine cF 118 #[(.tmp 12), (.tmp 13)] #[111, 3] 14 Tryz.call118 (Xz  p1 p3 w7  a j) ?_
 rintro e k ⟨rfl, d⟩
 refine ⟨_, rfl, ?_⟩
 have l := SP.call i d
 clear d
 refine iR 3 9 [(15, (.int .u32 (Vt .u32 z5 a))), (16, (.int .u32 p1)), (17, (.int .i64 p4))] ?_
 obtain ⟨b, m, H⟩ := Qg H
 refine iS 10 ?_
 refine cF 118 #[(.tmp 16), (.tmp 17)] #[111, 3] 18 Tryz.call118 (Xz  p1 p4 k  b m) ?_
 rintro e p ⟨rfl, f⟩
 refine ⟨_, rfl, ?_⟩
 have o := SP.call l f
 clear f
 refine iR 2 12 [(19, (.int .u32 (Vt .u32 (Vt .u32 z5 a) b))), (8, (.int .u32 (Vt .u32 (Vt .u32 z5 a) b)))] ?_
 refine iF ?_
 refine At.ret K ?_
 refine ⟨(.int .u32 (Vt .u32 (Vt .u32 z5 a) b)), K, ?_⟩
 obtain rfl := Qm H
 exact ⟨rfl, SP.sel o [] rfl rfl⟩
def Xo (a : (List Int) → Int → Option ((List Int))) (b : Int) (c : (List Int)) : Option ((List Int)) :=
  (a c (IntKind.wrap .i64 (b + 1)))
def Xp (c : (List Int) → Int → Option ((List Int))) (p1 : (List UInt8)) (b : (List Int)) (a : Int) : Option ((List Int)) :=
  (cond (decide (a < 64)) (cond (decide (a < 16)) ((idx p1 (IntKind.wrap .i64 (4 * a))).bind fun d => ((idx p1 (IntKind.wrap .i64 ((IntKind.wrap .i64 (4 * a)) + 1))).bind fun e => ((idx p1 (IntKind.wrap .i64 ((IntKind.wrap .i64 (4 * a)) + 2))).bind fun f => ((idx p1 (IntKind.wrap .i64 ((IntKind.wrap .i64 (4 * a)) + 3))).bind fun g => ((idx b a).bind fun p => ((some (List.set b (Int.toNat a) (bOr .u32 (bOr .u32 (bOr .u32 (Ui .u32 (IntKind.wrap .u32 ((d).toNat : Int)) 24) (Ui .u32 (IntKind.wrap .u32 ((e).toNat : Int)) 16)) (Ui .u32 (IntKind.wrap .u32 ((f).toNat : Int)) 8)) (IntKind.wrap .u32 ((g).toNat : Int))))).bind fun h => (Xo c a h))))))) ((idx b (IntKind.wrap .i64 (a - 2))).bind fun i => ((Ya i 17 19 10).bind fun j => ((idx b (IntKind.wrap .i64 (a - 7))).bind fun k => ((idx b (IntKind.wrap .i64 (a - 15))).bind fun l => ((Ya l 7 18 3).bind fun m => ((idx b (IntKind.wrap .i64 (a - 16))).bind fun n => ((idx b a).bind fun q => ((some (List.set b (Int.toNat a) (IntKind.wrap .u32 ((IntKind.wrap .u32 ((IntKind.wrap .u32 (j + k)) + m)) + n)))).bind fun o => (Xo c a o)))))))))) (some (b)))
def V3 (p1 : (List UInt8)) : Nat → (List Int) → Int → Option ((List Int))
  | 0, _, _ => none
  | f + 1, a, b => Xp  (V3 p1 f) p1 a b
def X4 (p1 : (List UInt8)) : Option ((List Int)) :=
  (V3 p1 Zd (List.replicate 64 0) 0)
set_option maxRecDepth 100000 in
set_option maxHeartbeats 4000000 in
theorem Gy (A2 : Option Addr) (c3 : Nat) (p1 : (List UInt8)) (w0 : World) (a2 : RdT eU8 w0 A2 c3 p1) (r : ((List Int))) (H : X4 p1 = some r) :
  Calls Tryz.prog 102 #[(.slice A2 (List.length p1) c3)] w0 (fun e w' => e = .returned (.agg (Qb (Qc .u32) r).toArray) ∧ SP [] w0 w' []) := by
 unfold X4 at H
 refine Qv (n := 70) Tryz.func102 K K K ?_
 have e6 := Q1 [] w0
 refine aQ ?_
 refine aR ?_
 refine iS 1 ?_
 refine Qz (e := (Qc .u32)) (l := (List.replicate 64 0)) (m := 64) (t := 135) (z := .agg (Qb (Qc .u32) (List.replicate 64 0)).toArray) (d := (some 2)) (k := 0) K rfl K rfl rfl K e6 ?_
 intro g5 w6 e7
 refine iF ?_
 refine aQ ?_
 refine aR ?_
 refine iS 1 ?_
 refine Qz (e := (Qc .u32)) (l := (List.replicate 64 0)) (m := 64) (t := 135) (z := .agg (Qb (Qc .u32) (List.replicate 64 0)).toArray) (d := (some 3)) (k := 0) K rfl K rfl rfl K e7 ?_
 intro g9 q8 e8
 refine iF ?_
 refine aQ ?_
 refine aQ ?_
 refine aR ?_
 refine iR 1 1 [(4, (.int .i64 0))] ?_
 refine iF ?_
 refine Z4 K (id := 0) K ?_
 refine Ur K (fun f4 ρ w => ∃ (h : (List Int)) (f : Int), Zg ρ [(0, (.slice A2 (List.length p1) c3)), (2, (pt g5 0)), (3, (pt g9 0)), (4, (.int .i64 f))] ∧ SP [] w0 w [Vb 135 (Qc .u32) g5 64 (List.replicate 64 0), Vb 135 (Qc .u32) g9 64 h] ∧ V3 p1 f4 h f = some r) (by rintro ρ w ⟨h, f, hk, hs, H⟩; cases H) ?_ Zd ?_
 ·rintro f4 ρ q9 ⟨h, f, hk, a5, H⟩
  refine At.known [(0, (.slice A2 (List.length p1) c3)), (2, (pt g5 0)), (3, (pt g9 0)), (4, (.int .i64 f))] hk ?_
  replace H := (show Xp (V3 p1 f4) p1 h f = some r from H)
  unfold Xp at H
  have r0 := Q5 (SP.get a5 (i := 0) rfl)
  have e9 := Q5 (SP.get a5 (i := 1) rfl)
  refine aQ ?_
  refine aQ ?_
  refine aR ?_
  refine iR 2 2 [(5, (.int .i64 f)), (6, (.bool (decide (f < 64))))] ?_
  refine iF ?_
  refine Zs K (o := (.tmp 6)) K (b := (decide (f < 64))) K (fun b6 => ?_) (fun b6 => ?_)
  ·have H := ct H b6
   refine At.skip K ?_
   refine aQ ?_
   refine Z4 K (id := 1) K ?_
   refine aQ ?_
   refine aR ?_
   refine iR 2 2 [(9, (.int .i64 f)), (10, (.bool (decide (f < 16))))] ?_
   refine iF ?_
   refine At.join (fun ρ w => ∃ (b2 : (List Int)), Zg ρ [(0, (.slice A2 (List.length p1) c3)), (2, (pt g5 0)), (3, (pt g9 0)), (4, (.int .i64 f))] ∧ SP [] w0 w [Vb 135 (Qc .u32) g5 64 (List.replicate 64 0), Vb 135 (Qc .u32) g9 64 b2] ∧ Xo (V3 p1 f4) f b2 = some r) ?_ ?_
   ·refine Zs K (o := (.tmp 10)) K (b := (decide (f < 16))) K (fun b7 => ?_) (fun b7 => ?_)
    ·have H := ct H b7
     obtain ⟨p, c6, c7, f0, H⟩ := Qn H
     obtain ⟨q, c8, c9, f1, H⟩ := Qn H
     obtain ⟨u, d0, d1, f2, H⟩ := Qn H
     obtain ⟨a3, d2, d3, f3, H⟩ := Qn H
     obtain ⟨r1, d4, d5, r2, H⟩ := Qn H
     obtain ⟨b8, hyl2055, H⟩ := V2 H
     have hnl2055 : List.length b8 = List.length h := by rw [← hyl2055, List.length_set]
     refine aG [GEq (.int .i64 f), GEq (.slice A2 (List.length p1) c3), GEq (.int .i64 f), GEq (.int .i64 (IntKind.wrap .i64 (4 * f))), Vv A2 eU8.sz (IntKind.wrap .i64 (4 * f)), GEq (.int .u8 ((p).toNat : Int)), GEq (.int .u32 (IntKind.wrap .u32 ((p).toNat : Int))), GEq (.int .u32 (Ui .u32 (IntKind.wrap .u32 ((p).toNat : Int)) 24)), GEq (.slice A2 (List.length p1) c3), GEq (.int .i64 f), GEq (.int .i64 (IntKind.wrap .i64 (4 * f))), GEq (.int .i64 (IntKind.wrap .i64 ((IntKind.wrap .i64 (4 * f)) + 1))), Vv A2 eU8.sz (IntKind.wrap .i64 ((IntKind.wrap .i64 (4 * f)) + 1)), GEq (.int .u8 ((q).toNat : Int)), GEq (.int .u32 (IntKind.wrap .u32 ((q).toNat : Int))), GEq (.int .u32 (Ui .u32 (IntKind.wrap .u32 ((q).toNat : Int)) 16)), GEq (.int .u32 (bOr .u32 (Ui .u32 (IntKind.wrap .u32 ((p).toNat : Int)) 24) (Ui .u32 (IntKind.wrap .u32 ((q).toNat : Int)) 16))), GEq (.slice A2 (List.length p1) c3), GEq (.int .i64 f), GEq (.int .i64 (IntKind.wrap .i64 (4 * f))), GEq (.int .i64 (IntKind.wrap .i64 ((IntKind.wrap .i64 (4 * f)) + 2))), Vv A2 eU8.sz (IntKind.wrap .i64 ((IntKind.wrap .i64 (4 * f)) + 2)), GEq (.int .u8 ((u).toNat : Int)), GEq (.int .u32 (IntKind.wrap .u32 ((u).toNat : Int))), GEq (.int .u32 (Ui .u32 (IntKind.wrap .u32 ((u).toNat : Int)) 8)), GEq (.int .u32 (bOr .u32 (bOr .u32 (Ui .u32 (IntKind.wrap .u32 ((p).toNat : Int)) 24) (Ui .u32 (IntKind.wrap .u32 ((q).toNat : Int)) 16)) (Ui .u32 (IntKind.wrap .u32 ((u).toNat : Int)) 8))), GEq (.slice A2 (List.length p1) c3), GEq (.int .i64 f), GEq (.int .i64 (IntKind.wrap .i64 (4 * f))), GEq (.int .i64 (IntKind.wrap .i64 ((IntKind.wrap .i64 (4 * f)) + 3))), Vv A2 eU8.sz (IntKind.wrap .i64 ((IntKind.wrap .i64 (4 * f)) + 3)), GEq (.int .u8 ((a3).toNat : Int)), GEq (.int .u32 (IntKind.wrap .u32 ((a3).toNat : Int))), GEq (.int .u32 (bOr .u32 (bOr .u32 (bOr .u32 (Ui .u32 (IntKind.wrap .u32 ((p).toNat : Int)) 24) (Ui .u32 (IntKind.wrap .u32 ((q).toNat : Int)) 16)) (Ui .u32 (IntKind.wrap .u32 ((u).toNat : Int)) 8)) (IntKind.wrap .u32 ((a3).toNat : Int)))), Vv (some ⟨g9, 0, none⟩) (Qc .u32).sz f, Ch] [35] [sG [] [] [] w0 [Vb 135 (Qc .u32) g5 64 (List.replicate 64 0), Vb 135 (Qc .u32) g9 64 h], sG [35] [undef] [] w0 [Vb 135 (Qc .u32) g5 64 (List.replicate 64 0), Vb 135 (Qc .u32) g9 64 b8]] 36 1 ⟨trivial, SP.drew a5⟩ ?_ ?_
     iterate 36 refine And.intro ?_ ?_
     exact trivial
     ·exact oV (hC (hS 4 (.int .i64 f)) (h0)) (.int .i64 f)
     ·exact oV (hC (hS 0 (.slice A2 (List.length p1) c3)) (h0)) (.slice A2 (List.length p1) c3)
     ·exact oV (hC (hS 4 (.int .i64 f)) (h0)) (.int .i64 f)
     ·exact oV (hC (hA 2 13) (h0)) (.int .i64 (IntKind.wrap .i64 (4 * f)))
     ·refine oL 0 ?_
      ·rintro ρ' w' hs hah ⟨r3, f5⟩
       refine kM (kc (kA hah 1 12) (kc (kA hah 3 14) k0)) fun hkn => ?_
       refine Vi (e := eU8) (l := p1) (A := A2) (c := c3) (T := 52) (E := 5) (x := (.tmp 12)) (ix := (.tmp 14)) (ki := .i64) (iz := (IntKind.wrap .i64 (4 * f))) (d := (some 15)) (k := 4) K rfl K K K K (RdT.sp a2 f5) c6 c7 ?_
       intro f6 f7 f8 r4 hc2066
       exact ⟨rfl, _, Qa hkn, ⟨f6, f7, f8, rfl⟩⟩
     ·refine oL 0 ?_
      ·rintro ρ' w' hs hah ⟨r5, f9⟩
       obtain ⟨g0, g1, g2, g3⟩ := hah 4 15 K
       refine kM (kc g3 k0) fun hkn => ?_
       refine sC 5 15 g0 (g1 + Int.toNat (IntKind.wrap .i64 (4 * f)) * eU8.sz) (.int .u8 ((p).toNat : Int)) 16 (Qi (e := eU8) (Qf (RdT.sp a2 f9) g2 c6 c7) f0 (j := 0) rfl) ?_
       exact eK hkn
     ·exact oV (hC (hA 5 16) (h0)) (.int .u32 (IntKind.wrap .u32 ((p).toNat : Int)))
     ·exact oV (hC (hA 6 17) (h0)) (.int .u32 (Ui .u32 (IntKind.wrap .u32 ((p).toNat : Int)) 24))
     ·exact oV (hC (hS 0 (.slice A2 (List.length p1) c3)) (h0)) (.slice A2 (List.length p1) c3)
     ·exact oV (hC (hS 4 (.int .i64 f)) (h0)) (.int .i64 f)
     ·exact oV (hC (hA 9 20) (h0)) (.int .i64 (IntKind.wrap .i64 (4 * f)))
     ·exact oV (hC (hA 10 21) (h0)) (.int .i64 (IntKind.wrap .i64 ((IntKind.wrap .i64 (4 * f)) + 1)))
     ·refine oL 0 ?_
      ·rintro ρ' w' hs hah ⟨r6, g4⟩
       refine kM (kc (kA hah 8 19) (kc (kA hah 11 22) k0)) fun hkn => ?_
       refine Vi (e := eU8) (l := p1) (A := A2) (c := c3) (T := 52) (E := 5) (x := (.tmp 19)) (ix := (.tmp 22)) (ki := .i64) (iz := (IntKind.wrap .i64 ((IntKind.wrap .i64 (4 * f)) + 1))) (d := (some 23)) (k := 12) K rfl K K K K (RdT.sp a2 g4) c8 c9 ?_
       intro g6 g7 g8 r7 hc2078
       exact ⟨rfl, _, Qa hkn, ⟨g6, g7, g8, rfl⟩⟩
     ·refine oL 0 ?_
      ·rintro ρ' w' hs hah ⟨r8, h1⟩
       obtain ⟨h2, h3, h4, h5⟩ := hah 12 23 K
       refine kM (kc h5 k0) fun hkn => ?_
       refine sC 5 23 h2 (h3 + Int.toNat (IntKind.wrap .i64 ((IntKind.wrap .i64 (4 * f)) + 1)) * eU8.sz) (.int .u8 ((q).toNat : Int)) 24 (Qi (e := eU8) (Qf (RdT.sp a2 h1) h4 c8 c9) f1 (j := 0) rfl) ?_
       exact eK hkn
     ·exact oV (hC (hA 13 24) (h0)) (.int .u32 (IntKind.wrap .u32 ((q).toNat : Int)))
     ·exact oV (hC (hA 14 25) (h0)) (.int .u32 (Ui .u32 (IntKind.wrap .u32 ((q).toNat : Int)) 16))
     ·exact oV (hC (hA 7 18) (hC (hA 15 26) (h0))) (.int .u32 (bOr .u32 (Ui .u32 (IntKind.wrap .u32 ((p).toNat : Int)) 24) (Ui .u32 (IntKind.wrap .u32 ((q).toNat : Int)) 16)))
     ·exact oV (hC (hS 0 (.slice A2 (List.length p1) c3)) (h0)) (.slice A2 (List.length p1) c3)
     ·exact oV (hC (hS 4 (.int .i64 f)) (h0)) (.int .i64 f)
     ·exact oV (hC (hA 18 29) (h0)) (.int .i64 (IntKind.wrap .i64 (4 * f)))
     ·exact oV (hC (hA 19 30) (h0)) (.int .i64 (IntKind.wrap .i64 ((IntKind.wrap .i64 (4 * f)) + 2)))
     ·refine oL 0 ?_
      ·rintro ρ' w' hs hah ⟨r9, h6⟩
       refine kM (kc (kA hah 17 28) (kc (kA hah 20 31) k0)) fun hkn => ?_
       refine Vi (e := eU8) (l := p1) (A := A2) (c := c3) (T := 52) (E := 5) (x := (.tmp 28)) (ix := (.tmp 31)) (ki := .i64) (iz := (IntKind.wrap .i64 ((IntKind.wrap .i64 (4 * f)) + 2))) (d := (some 32)) (k := 21) K rfl K K K K (RdT.sp a2 h6) d0 d1 ?_
       intro h7 h8 h9 s0 hc2090
       exact ⟨rfl, _, Qa hkn, ⟨h7, h8, h9, rfl⟩⟩
     ·refine oL 0 ?_
      ·rintro ρ' w' hs hah ⟨s1, i0⟩
       obtain ⟨i1, i2, i3, i4⟩ := hah 21 32 K
       refine kM (kc i4 k0) fun hkn => ?_
       refine sC 5 32 i1 (i2 + Int.toNat (IntKind.wrap .i64 ((IntKind.wrap .i64 (4 * f)) + 2)) * eU8.sz) (.int .u8 ((u).toNat : Int)) 33 (Qi (e := eU8) (Qf (RdT.sp a2 i0) i3 d0 d1) f2 (j := 0) rfl) ?_
       exact eK hkn
     ·exact oV (hC (hA 22 33) (h0)) (.int .u32 (IntKind.wrap .u32 ((u).toNat : Int)))
     ·exact oV (hC (hA 23 34) (h0)) (.int .u32 (Ui .u32 (IntKind.wrap .u32 ((u).toNat : Int)) 8))
     ·exact oV (hC (hA 16 27) (hC (hA 24 35) (h0))) (.int .u32 (bOr .u32 (bOr .u32 (Ui .u32 (IntKind.wrap .u32 ((p).toNat : Int)) 24) (Ui .u32 (IntKind.wrap .u32 ((q).toNat : Int)) 16)) (Ui .u32 (IntKind.wrap .u32 ((u).toNat : Int)) 8)))
     ·exact oV (hC (hS 0 (.slice A2 (List.length p1) c3)) (h0)) (.slice A2 (List.length p1) c3)
     ·exact oV (hC (hS 4 (.int .i64 f)) (h0)) (.int .i64 f)
     ·exact oV (hC (hA 27 38) (h0)) (.int .i64 (IntKind.wrap .i64 (4 * f)))
     ·exact oV (hC (hA 28 39) (h0)) (.int .i64 (IntKind.wrap .i64 ((IntKind.wrap .i64 (4 * f)) + 3)))
     ·refine oL 0 ?_
      ·rintro ρ' w' hs hah ⟨s2, i5⟩
       refine kM (kc (kA hah 26 37) (kc (kA hah 29 40) k0)) fun hkn => ?_
       refine Vi (e := eU8) (l := p1) (A := A2) (c := c3) (T := 52) (E := 5) (x := (.tmp 37)) (ix := (.tmp 40)) (ki := .i64) (iz := (IntKind.wrap .i64 ((IntKind.wrap .i64 (4 * f)) + 3))) (d := (some 41)) (k := 30) K rfl K K K K (RdT.sp a2 i5) d2 d3 ?_
       intro i6 i7 i8 s3 hc2102
       exact ⟨rfl, _, Qa hkn, ⟨i6, i7, i8, rfl⟩⟩
     ·refine oL 0 ?_
      ·rintro ρ' w' hs hah ⟨s4, i9⟩
       obtain ⟨j0, j1, j2, j3⟩ := hah 30 41 K
       refine kM (kc j3 k0) fun hkn => ?_
       refine sC 5 41 j0 (j1 + Int.toNat (IntKind.wrap .i64 ((IntKind.wrap .i64 (4 * f)) + 3)) * eU8.sz) (.int .u8 ((a3).toNat : Int)) 42 (Qi (e := eU8) (Qf (RdT.sp a2 i9) j2 d2 d3) f3 (j := 0) rfl) ?_
       exact eK hkn
     ·exact oV (hC (hA 31 42) (h0)) (.int .u32 (IntKind.wrap .u32 ((a3).toNat : Int)))
     ·exact oV (hC (hA 25 36) (hC (hA 32 43) (h0))) (.int .u32 (bOr .u32 (bOr .u32 (bOr .u32 (Ui .u32 (IntKind.wrap .u32 ((p).toNat : Int)) 24) (Ui .u32 (IntKind.wrap .u32 ((q).toNat : Int)) 16)) (Ui .u32 (IntKind.wrap .u32 ((u).toNat : Int)) 8)) (IntKind.wrap .u32 ((a3).toNat : Int))))
     ·refine oL 0 ?_
      ·rintro ρ' w' hs hah ⟨s5, j4⟩
       refine kM (kc (kS hs 3 (pt g9 0)) (kc (kA hah 0 11) k0)) fun hkn => ?_
       refine Qh (e := (Qc .u32)) (l := h) (m := 64) (g := g9) (T := 135) (E := 111) (x := (.tmp 3)) (ix := (.tmp 11)) (ki := .i64) (iz := f) (i := 1) (d := (some 45)) (k := 34) K rfl K K K K j4 rfl d4 d5 ?_
       exact ⟨rfl, _, Qa hkn, ⟨g9, 0, rfl, rfl⟩⟩
     ·refine oH 0 1 ?_
      ·rintro ρ' w' hs hah ⟨s6, j5⟩
       obtain ⟨j6, j7, j8, j9⟩ := hah 34 45 K
       refine kM (kc j9 (kc (kA hah 33 44) k0)) fun hkn => ?_
       refine Zh (e := (Qc .u32)) (t := 111) (x := (.tmp 45)) (y := (.tmp 44)) (l := h) (iz := f) (m := 64) (g := g9) (b := j6) (off := j7) (i := 1) (v := (.int .u32 (bOr .u32 (bOr .u32 (bOr .u32 (Ui .u32 (IntKind.wrap .u32 ((p).toNat : Int)) 24) (Ui .u32 (IntKind.wrap .u32 ((q).toNat : Int)) 16)) (Ui .u32 (IntKind.wrap .u32 ((u).toNat : Int)) 8)) (IntKind.wrap .u32 ((a3).toNat : Int))))) (x' := (bOr .u32 (bOr .u32 (bOr .u32 (Ui .u32 (IntKind.wrap .u32 ((p).toNat : Int)) 24) (Ui .u32 (IntKind.wrap .u32 ((q).toNat : Int)) 16)) (Ui .u32 (IntKind.wrap .u32 ((u).toNat : Int)) 8)) (IntKind.wrap .u32 ((a3).toNat : Int)))) (d := none) (k := 35) K rfl j8 K K j5 rfl rfl d5 d4 rfl K ?_
       rw [hyl2055]
       intro s7 k1
       refine ⟨_, Qa hkn, trivial, ?_⟩
       exact (And.intro (And.intro rfl (trivial)) (k1))
     ·rintro ρ' w' hs hf ⟨⟨s8, -⟩, d6⟩
      refine Vj [(0, (.slice A2 (List.length p1) c3)), (2, (pt g5 0)), (3, (pt g9 0)), (4, (.int .i64 f))] ⟨(hs 0 K).trans K, (hs 2 K).trans K, (hs 3 K).trans K, (hs 4 K).trans K, trivial⟩ ?_
      obtain ⟨s9, k2⟩ : ∃ x, w' = x := ⟨_, rfl⟩
      rw [k2] at d6 ⊢
      exact ⟨b8, ⟨K, K, K, K, trivial⟩, SP.sel d6 [0, 1] rfl rfl, H⟩
    ·have H := cf H b7
     obtain ⟨b9, d7, d8, k3, H⟩ := Qn H
     obtain ⟨s, k4, H⟩ := Qg H
     obtain ⟨a0, a6, a7, c0, H⟩ := Qn H
     obtain ⟨b3, b4, b5, d9, H⟩ := Qn H
     obtain ⟨a1, k5, H⟩ := Qg H
     obtain ⟨a4, a8, a9, c1, H⟩ := Qn H
     obtain ⟨t0, e0, e1, t1, H⟩ := Qn H
     obtain ⟨c2, hyl2156, H⟩ := V2 H
     have hnl2156 : List.length c2 = List.length h := by rw [← hyl2156, List.length_set]
     refine aG [GEq (.int .i64 f), GEq (.int .i64 f), GEq (.int .i64 (IntKind.wrap .i64 (f - 2))), Vv (some ⟨g9, 0, none⟩) (Qc .u32).sz (IntKind.wrap .i64 (f - 2)), GEq (.int .u32 b9), GEq (.int .u32 s), GEq (.int .i64 f), GEq (.int .i64 (IntKind.wrap .i64 (f - 7))), Vv (some ⟨g9, 0, none⟩) (Qc .u32).sz (IntKind.wrap .i64 (f - 7)), GEq (.int .u32 a0), GEq (.int .u32 (IntKind.wrap .u32 (s + a0))), GEq (.int .i64 f), GEq (.int .i64 (IntKind.wrap .i64 (f - 15))), Vv (some ⟨g9, 0, none⟩) (Qc .u32).sz (IntKind.wrap .i64 (f - 15)), GEq (.int .u32 b3), GEq (.int .u32 a1), GEq (.int .u32 (IntKind.wrap .u32 ((IntKind.wrap .u32 (s + a0)) + a1))), GEq (.int .i64 f), GEq (.int .i64 (IntKind.wrap .i64 (f - 16))), Vv (some ⟨g9, 0, none⟩) (Qc .u32).sz (IntKind.wrap .i64 (f - 16)), GEq (.int .u32 a4), GEq (.int .u32 (IntKind.wrap .u32 ((IntKind.wrap .u32 ((IntKind.wrap .u32 (s + a0)) + a1)) + a4))), Vv (some ⟨g9, 0, none⟩) (Qc .u32).sz f, Ch] [5, 15, 23] [sG [] [] [] w0 [Vb 135 (Qc .u32) g5 64 (List.replicate 64 0), Vb 135 (Qc .u32) g9 64 h], sG [5] [(.int .u32 s)] [] w0 [Vb 135 (Qc .u32) g5 64 (List.replicate 64 0), Vb 135 (Qc .u32) g9 64 h], sG [5, 15] [(.int .u32 s), (.int .u32 a1)] [] w0 [Vb 135 (Qc .u32) g5 64 (List.replicate 64 0), Vb 135 (Qc .u32) g9 64 h], sG [5, 15, 23] [(.int .u32 s), (.int .u32 a1), undef] [] w0 [Vb 135 (Qc .u32) g5 64 (List.replicate 64 0), Vb 135 (Qc .u32) g9 64 c2]] 24 3 ⟨trivial, SP.drew a5⟩ ?_ ?_
     iterate 24 refine And.intro ?_ ?_
     exact trivial
     ·exact oV (hC (hS 4 (.int .i64 f)) (h0)) (.int .i64 f)
     ·exact oV (hC (hS 4 (.int .i64 f)) (h0)) (.int .i64 f)
     ·exact oV (hC (hA 1 47) (h0)) (.int .i64 (IntKind.wrap .i64 (f - 2)))
     ·refine oL 0 ?_
      ·rintro ρ' w' hs hah ⟨t2, k6⟩
       refine kM (kc (kS hs 3 (pt g9 0)) (kc (kA hah 2 48) k0)) fun hkn => ?_
       refine Qh (e := (Qc .u32)) (l := h) (m := 64) (g := g9) (T := 135) (E := 111) (x := (.tmp 3)) (ix := (.tmp 48)) (ki := .i64) (iz := (IntKind.wrap .i64 (f - 2))) (i := 1) (d := (some 49)) (k := 3) K rfl K K K K k6 rfl d7 d8 ?_
       exact ⟨rfl, _, Qa hkn, ⟨g9, 0, rfl, rfl⟩⟩
     ·refine oL 0 ?_
      ·rintro ρ' w' hs hah ⟨t3, k7⟩
       obtain ⟨k8, k9, l0, l1⟩ := hah 3 49 K
       refine kM (kc l1 k0) fun hkn => ?_
       refine sC 111 49 k8 (k9 + Int.toNat (IntKind.wrap .i64 (f - 2)) * (Qc .u32).sz) (.int .u32 b9) 50 (Qi (e := (Qc .u32)) (Qf (Qu (SP.get k7 (i := 1) rfl)) l0 d7 d8) k3 (j := 0) rfl) ?_
       exact eK hkn
     ·refine oH 0 1 ?_
      ·rintro ρ' w' hs hah ⟨t4, l2⟩
       refine kM (kc (kA hah 4 50) k0) fun hkn => ?_
       refine cF 117 #[(.tmp 50), (.const (.int .i64 (17))), (.const (.int .i64 (19))), (.const (.int .i64 (10)))] #[111, 3, 3, 3] 51 Tryz.call117 (Ns  b9 17 19 10 w'  s k4) ?_
       rintro e t5 ⟨rfl, e2⟩
       refine ⟨_, rfl, ?_⟩
       have l3 := SP.call l2 e2
       clear e2
       refine ⟨_, Qa hkn, rfl, ?_⟩
       exact (And.intro (And.intro rfl (trivial)) (l3))
     ·exact oV (hC (hS 4 (.int .i64 f)) (h0)) (.int .i64 f)
     ·exact oV (hC (hA 6 52) (h0)) (.int .i64 (IntKind.wrap .i64 (f - 7)))
     ·refine Owe.light K [0, 1, 2] K (Qd ?_ (Qd ?_ (Qd ?_ Q3)))
      ·rintro ρ' w' hs hah ⟨t6, l4⟩
       refine kM (kc (kS hs 3 (pt g9 0)) (kc (kA hah 7 53) k0)) fun hkn => ?_
       refine Qh (e := (Qc .u32)) (l := h) (m := 64) (g := g9) (T := 135) (E := 111) (x := (.tmp 3)) (ix := (.tmp 53)) (ki := .i64) (iz := (IntKind.wrap .i64 (f - 7))) (i := 1) (d := (some 54)) (k := 8) K rfl K K K K l4 rfl a6 a7 ?_
       exact ⟨rfl, _, Qa hkn, ⟨g9, 0, rfl, rfl⟩⟩
      ·rintro ρ' w' hs hah ⟨⟨t7, -⟩, l5⟩
       refine kM (kc (kS hs 3 (pt g9 0)) (kc (kA hah 7 53) k0)) fun hkn => ?_
       refine Qh (e := (Qc .u32)) (l := h) (m := 64) (g := g9) (T := 135) (E := 111) (x := (.tmp 3)) (ix := (.tmp 53)) (ki := .i64) (iz := (IntKind.wrap .i64 (f - 7))) (i := 1) (d := (some 54)) (k := 8) K rfl K K K K l5 rfl a6 a7 ?_
       exact ⟨rfl, _, Qa hkn, ⟨g9, 0, rfl, rfl⟩⟩
      ·rintro ρ' w' hs hah ⟨⟨t8, t9, -⟩, l6⟩
       refine kM (kc (kS hs 3 (pt g9 0)) (kc (kA hah 7 53) k0)) fun hkn => ?_
       refine Qh (e := (Qc .u32)) (l := h) (m := 64) (g := g9) (T := 135) (E := 111) (x := (.tmp 3)) (ix := (.tmp 53)) (ki := .i64) (iz := (IntKind.wrap .i64 (f - 7))) (i := 1) (d := (some 54)) (k := 8) K rfl K K K K l6 rfl a6 a7 ?_
       exact ⟨rfl, _, Qa hkn, ⟨g9, 0, rfl, rfl⟩⟩
     ·refine Owe.light K [0, 1, 2] K (Qd ?_ (Qd ?_ (Qd ?_ Q3)))
      ·rintro ρ' w' hs hah ⟨u0, l7⟩
       obtain ⟨l8, l9, m0, b0⟩ := hah 8 54 K
       refine kM (kc b0 k0) fun hkn => ?_
       refine sC 111 54 l8 (l9 + Int.toNat (IntKind.wrap .i64 (f - 7)) * (Qc .u32).sz) (.int .u32 a0) 55 (Qi (e := (Qc .u32)) (Qf (Qu (SP.get l7 (i := 1) rfl)) m0 a6 a7) c0 (j := 0) rfl) ?_
       exact eK hkn
      ·rintro ρ' w' hs hah ⟨⟨u1, -⟩, m1⟩
       obtain ⟨m2, m3, m4, b0⟩ := hah 8 54 K
       refine kM (kc b0 k0) fun hkn => ?_
       refine sC 111 54 m2 (m3 + Int.toNat (IntKind.wrap .i64 (f - 7)) * (Qc .u32).sz) (.int .u32 a0) 55 (Qi (e := (Qc .u32)) (Qf (Qu (SP.get m1 (i := 1) rfl)) m4 a6 a7) c0 (j := 0) rfl) ?_
       exact eK hkn
      ·rintro ρ' w' hs hah ⟨⟨u2, u3, -⟩, m5⟩
       obtain ⟨m6, m7, m8, b0⟩ := hah 8 54 K
       refine kM (kc b0 k0) fun hkn => ?_
       refine sC 111 54 m6 (m7 + Int.toNat (IntKind.wrap .i64 (f - 7)) * (Qc .u32).sz) (.int .u32 a0) 55 (Qi (e := (Qc .u32)) (Qf (Qu (SP.get m5 (i := 1) rfl)) m8 a6 a7) c0 (j := 0) rfl) ?_
       exact eK hkn
     ·exact oV (hC (hA 5 51) (hC (hA 9 55) (h0))) (.int .u32 (IntKind.wrap .u32 (s + a0)))
     ·exact oV (hC (hS 4 (.int .i64 f)) (h0)) (.int .i64 f)
     ·exact oV (hC (hA 11 57) (h0)) (.int .i64 (IntKind.wrap .i64 (f - 15)))
     ·refine Owe.light K [0, 1] K (Qd ?_ (Qd ?_ Q3))
      ·rintro ρ' w' hs hah ⟨u4, m9⟩
       refine kM (kc (kS hs 3 (pt g9 0)) (kc (kA hah 12 58) k0)) fun hkn => ?_
       refine Qh (e := (Qc .u32)) (l := h) (m := 64) (g := g9) (T := 135) (E := 111) (x := (.tmp 3)) (ix := (.tmp 58)) (ki := .i64) (iz := (IntKind.wrap .i64 (f - 15))) (i := 1) (d := (some 59)) (k := 13) K rfl K K K K m9 rfl b4 b5 ?_
       exact ⟨rfl, _, Qa hkn, ⟨g9, 0, rfl, rfl⟩⟩
      ·rintro ρ' w' hs hah ⟨⟨u5, -⟩, n0⟩
       refine kM (kc (kS hs 3 (pt g9 0)) (kc (kA hah 12 58) k0)) fun hkn => ?_
       refine Qh (e := (Qc .u32)) (l := h) (m := 64) (g := g9) (T := 135) (E := 111) (x := (.tmp 3)) (ix := (.tmp 58)) (ki := .i64) (iz := (IntKind.wrap .i64 (f - 15))) (i := 1) (d := (some 59)) (k := 13) K rfl K K K K n0 rfl b4 b5 ?_
       exact ⟨rfl, _, Qa hkn, ⟨g9, 0, rfl, rfl⟩⟩
     ·refine Owe.light K [0, 1] K (Qd ?_ (Qd ?_ Q3))
      ·rintro ρ' w' hs hah ⟨u6, n1⟩
       obtain ⟨n2, n3, n4, c4⟩ := hah 13 59 K
       refine kM (kc c4 k0) fun hkn => ?_
       refine sC 111 59 n2 (n3 + Int.toNat (IntKind.wrap .i64 (f - 15)) * (Qc .u32).sz) (.int .u32 b3) 60 (Qi (e := (Qc .u32)) (Qf (Qu (SP.get n1 (i := 1) rfl)) n4 b4 b5) d9 (j := 0) rfl) ?_
       exact eK hkn
      ·rintro ρ' w' hs hah ⟨⟨u7, -⟩, n5⟩
       obtain ⟨n6, n7, n8, c4⟩ := hah 13 59 K
       refine kM (kc c4 k0) fun hkn => ?_
       refine sC 111 59 n6 (n7 + Int.toNat (IntKind.wrap .i64 (f - 15)) * (Qc .u32).sz) (.int .u32 b3) 60 (Qi (e := (Qc .u32)) (Qf (Qu (SP.get n5 (i := 1) rfl)) n8 b4 b5) d9 (j := 0) rfl) ?_
       exact eK hkn
     ·refine oH 1 2 ?_
      ·rintro ρ' w' hs hah ⟨⟨n9, -⟩, o0⟩
       refine kM (kc (kA hah 14 60) k0) fun hkn => ?_
       refine cF 117 #[(.tmp 60), (.const (.int .i64 (7))), (.const (.int .i64 (18))), (.const (.int .i64 (3)))] #[111, 3, 3, 3] 61 Tryz.call117 (Ns  b3 7 18 3 w'  a1 k5) ?_
       rintro e u9 ⟨rfl, e3⟩
       refine ⟨_, rfl, ?_⟩
       have o1 := SP.call o0 e3
       clear e3
       refine ⟨_, Qa hkn, rfl, ?_⟩
       exact (And.intro (And.intro n9 (And.intro rfl (trivial))) (o1))
     ·exact oV (hC (hA 10 56) (hC (hA 15 61) (h0))) (.int .u32 (IntKind.wrap .u32 ((IntKind.wrap .u32 (s + a0)) + a1)))
     ·exact oV (hC (hS 4 (.int .i64 f)) (h0)) (.int .i64 f)
     ·exact oV (hC (hA 17 63) (h0)) (.int .i64 (IntKind.wrap .i64 (f - 16)))
     ·refine Owe.light K [0, 1, 2] K (Qd ?_ (Qd ?_ (Qd ?_ Q3)))
      ·rintro ρ' w' hs hah ⟨v0, o2⟩
       refine kM (kc (kS hs 3 (pt g9 0)) (kc (kA hah 18 64) k0)) fun hkn => ?_
       refine Qh (e := (Qc .u32)) (l := h) (m := 64) (g := g9) (T := 135) (E := 111) (x := (.tmp 3)) (ix := (.tmp 64)) (ki := .i64) (iz := (IntKind.wrap .i64 (f - 16))) (i := 1) (d := (some 65)) (k := 19) K rfl K K K K o2 rfl a8 a9 ?_
       exact ⟨rfl, _, Qa hkn, ⟨g9, 0, rfl, rfl⟩⟩
      ·rintro ρ' w' hs hah ⟨⟨v1, -⟩, o3⟩
       refine kM (kc (kS hs 3 (pt g9 0)) (kc (kA hah 18 64) k0)) fun hkn => ?_
       refine Qh (e := (Qc .u32)) (l := h) (m := 64) (g := g9) (T := 135) (E := 111) (x := (.tmp 3)) (ix := (.tmp 64)) (ki := .i64) (iz := (IntKind.wrap .i64 (f - 16))) (i := 1) (d := (some 65)) (k := 19) K rfl K K K K o3 rfl a8 a9 ?_
       exact ⟨rfl, _, Qa hkn, ⟨g9, 0, rfl, rfl⟩⟩
      ·rintro ρ' w' hs hah ⟨⟨v2, v3, -⟩, o4⟩
       refine kM (kc (kS hs 3 (pt g9 0)) (kc (kA hah 18 64) k0)) fun hkn => ?_
       refine Qh (e := (Qc .u32)) (l := h) (m := 64) (g := g9) (T := 135) (E := 111) (x := (.tmp 3)) (ix := (.tmp 64)) (ki := .i64) (iz := (IntKind.wrap .i64 (f - 16))) (i := 1) (d := (some 65)) (k := 19) K rfl K K K K o4 rfl a8 a9 ?_
       exact ⟨rfl, _, Qa hkn, ⟨g9, 0, rfl, rfl⟩⟩
     ·refine Owe.light K [0, 1, 2] K (Qd ?_ (Qd ?_ (Qd ?_ Q3)))
      ·rintro ρ' w' hs hah ⟨v4, o5⟩
       obtain ⟨o6, o7, o8, b1⟩ := hah 19 65 K
       refine kM (kc b1 k0) fun hkn => ?_
       refine sC 111 65 o6 (o7 + Int.toNat (IntKind.wrap .i64 (f - 16)) * (Qc .u32).sz) (.int .u32 a4) 66 (Qi (e := (Qc .u32)) (Qf (Qu (SP.get o5 (i := 1) rfl)) o8 a8 a9) c1 (j := 0) rfl) ?_
       exact eK hkn
      ·rintro ρ' w' hs hah ⟨⟨v5, -⟩, o9⟩
       obtain ⟨p0, p2, p3, b1⟩ := hah 19 65 K
       refine kM (kc b1 k0) fun hkn => ?_
       refine sC 111 65 p0 (p2 + Int.toNat (IntKind.wrap .i64 (f - 16)) * (Qc .u32).sz) (.int .u32 a4) 66 (Qi (e := (Qc .u32)) (Qf (Qu (SP.get o9 (i := 1) rfl)) p3 a8 a9) c1 (j := 0) rfl) ?_
       exact eK hkn
      ·rintro ρ' w' hs hah ⟨⟨v6, v7, -⟩, p4⟩
       obtain ⟨p5, p6, p7, b1⟩ := hah 19 65 K
       refine kM (kc b1 k0) fun hkn => ?_
       refine sC 111 65 p5 (p6 + Int.toNat (IntKind.wrap .i64 (f - 16)) * (Qc .u32).sz) (.int .u32 a4) 66 (Qi (e := (Qc .u32)) (Qf (Qu (SP.get p4 (i := 1) rfl)) p7 a8 a9) c1 (j := 0) rfl) ?_
       exact eK hkn
     ·exact oV (hC (hA 16 62) (hC (hA 20 66) (h0))) (.int .u32 (IntKind.wrap .u32 ((IntKind.wrap .u32 ((IntKind.wrap .u32 (s + a0)) + a1)) + a4)))
     ·refine oL 2 ?_
      ·rintro ρ' w' hs hah ⟨⟨v8, v9, -⟩, p8⟩
       refine kM (kc (kS hs 3 (pt g9 0)) (kc (kA hah 0 46) k0)) fun hkn => ?_
       refine Qh (e := (Qc .u32)) (l := h) (m := 64) (g := g9) (T := 135) (E := 111) (x := (.tmp 3)) (ix := (.tmp 46)) (ki := .i64) (iz := f) (i := 1) (d := (some 68)) (k := 22) K rfl K K K K p8 rfl e0 e1 ?_
       exact ⟨rfl, _, Qa hkn, ⟨g9, 0, rfl, rfl⟩⟩
     ·refine oH 2 3 ?_
      ·rintro ρ' w' hs hah ⟨⟨p9, q0, -⟩, q1⟩
       obtain ⟨q2, q3, q4, q5⟩ := hah 22 68 K
       refine kM (kc q5 (kc (kA hah 21 67) k0)) fun hkn => ?_
       refine Zh (e := (Qc .u32)) (t := 111) (x := (.tmp 68)) (y := (.tmp 67)) (l := h) (iz := f) (m := 64) (g := g9) (b := q2) (off := q3) (i := 1) (v := (.int .u32 (IntKind.wrap .u32 ((IntKind.wrap .u32 ((IntKind.wrap .u32 (s + a0)) + a1)) + a4)))) (x' := (IntKind.wrap .u32 ((IntKind.wrap .u32 ((IntKind.wrap .u32 (s + a0)) + a1)) + a4))) (d := none) (k := 23) K rfl q4 K K q1 rfl rfl e1 e0 rfl K ?_
       rw [hyl2156]
       intro w1 q6
       refine ⟨_, Qa hkn, trivial, ?_⟩
       exact (And.intro (And.intro p9 (And.intro q0 (And.intro rfl (trivial)))) (q6))
     ·rintro ρ' w' hs hf ⟨⟨w2, w3, w4, -⟩, e4⟩
      refine Vj [(0, (.slice A2 (List.length p1) c3)), (2, (pt g5 0)), (3, (pt g9 0)), (4, (.int .i64 f))] ⟨(hs 0 K).trans K, (hs 2 K).trans K, (hs 3 K).trans K, (hs 4 K).trans K, trivial⟩ ?_
      obtain ⟨w5, q7⟩ : ∃ x, w' = x := ⟨_, rfl⟩
      rw [q7] at e4 ⊢
      exact ⟨c2, ⟨K, K, K, K, trivial⟩, SP.sel e4 [0, 1] rfl rfl, H⟩
   ·rintro ρ w7 ⟨b2, hk, c5, H⟩
    unfold Xo at H
    first | refine At.known [(0, (.slice A2 (List.length p1) c3)), (2, (pt g5 0)), (3, (pt g9 0)), (4, (.int .i64 f))] hk ?_ | rw [← Q9 (l := [(0, (.slice A2 (List.length p1) c3)), (2, (pt g5 0)), (3, (pt g9 0)), (4, (.int .i64 f))]) hk]
    have w8 := Q5 (SP.get c5 (i := 0) rfl)
    have w9 := Q5 (SP.get c5 (i := 1) rfl)
    refine aR ?_
    refine iR 3 3 [(7, (.int .i64 f)), (8, (.int .i64 (IntKind.wrap .i64 (f + 1)))), (4, (.int .i64 (IntKind.wrap .i64 (f + 1))))] ?_
    refine iF ?_
    exact ⟨b2, (IntKind.wrap .i64 (f + 1)), ⟨K, K, K, K, trivial⟩, SP.sel c5 [0, 1] rfl rfl, H⟩
  ·have H := cf H b6
   refine At.exit K (id := 0) K ?_
   refine aQ ?_
   refine aR ?_
   refine iS 1 ?_
   refine V9 (e := (Qc .u32)) (l := h) (m := 64) (t := 135) (x := (.tmp 3)) (g := g9) (i := 1) (d := (some 69)) (k := 0) K rfl K a5 rfl K K ?_
   refine iS 2 ?_
   refine Q8 (e := (Qc .u32)) (l := (List.replicate 64 0)) (l' := h) (m := 64) (t := 135) (x := (.tmp 2)) (y := (.tmp 69)) (g := g5) (i := 0) (d := none) (k := 1) K rfl K K e9 a5 rfl K ?_
   intro x0 e5
   refine iF ?_
   refine At.ret K ?_
   refine ⟨(.agg (Qb (Qc .u32) h).toArray), Bz K (U0 (e := (Qc .u32)) (l := h) (a := 2) (t := 135) K (SP.get e5 (i := 0) rfl) K K), ?_⟩
   obtain rfl := Qm H
   exact ⟨rfl, SP.sel e5 [] rfl rfl⟩
 ·exact ⟨(List.replicate 64 0), 0, ⟨K, K, K, K, trivial⟩, SP.sel e8 [0, 1] rfl rfl, H⟩
def Um (h : (List Int) → Int → Option ((List Int))) (c : (List Int) → Int → Option ((List Int))) (d : (List Int)) (b : (List Int)) (a : Int) : Option ((List Int)) :=
  (cond (decide (a < 8)) ((idx b a).bind fun e => ((idx d a).bind fun f => ((idx b a).bind fun i => ((some (List.set b (Int.toNat a) (IntKind.wrap .u32 (e + f)))).bind fun g => (c g (IntKind.wrap .i64 (a + 1))))))) (some (b)))
def X5 (a : (List Int) → Int → Option ((List Int))) (b : (List Int)) : Nat → (List Int) → Int → Option ((List Int))
  | 0, _, _ => none
  | f + 1, c, d => Um a (X5 a b f) b c d
def Ze (c : (List Int) → Int → Option ((List Int))) (p1 : (List Int)) (l : ((List Int))) (m : ((List Int))) (a : (List Int)) (b : Int) : Option ((List Int)) :=
  (cond (decide (b < 64)) ((idx a 7).bind fun d => ((idx a 4).bind fun n => ((Yb n 6 11 25).bind fun e => ((idx a 4).bind fun f => ((idx a 5).bind fun g => ((idx a 4).bind fun h => ((idx a 6).bind fun i => ((idx l b).bind fun j => ((idx m b).bind fun k => ((idx a 0).bind fun o => ((Yb o 2 13 22).bind fun p => ((idx a 0).bind fun q => ((idx a 1).bind fun r => ((idx a 0).bind fun s => ((idx a 2).bind fun t => ((idx a 1).bind fun u => ((idx a 2).bind fun v => ((idx a 0).bind fun w => ((idx a 1).bind fun x => ((idx a 2).bind fun y => ((idx a 3).bind fun z => ((idx a 4).bind fun a0 => ((idx a 5).bind fun a1 => ((idx a 6).bind fun a2 => (c ([(IntKind.wrap .u32 ((IntKind.wrap .u32 ((IntKind.wrap .u32 ((IntKind.wrap .u32 ((IntKind.wrap .u32 (d + e)) + (Vt .u32 (V8 .u32 f g) (V8 .u32 (Vt .u32 (IntKind.max .u32) h) i)))) + j)) + k)) + (IntKind.wrap .u32 (p + (Vt .u32 (Vt .u32 (V8 .u32 q r) (V8 .u32 s t)) (V8 .u32 u v)))))), w, x, y, (IntKind.wrap .u32 (z + (IntKind.wrap .u32 ((IntKind.wrap .u32 ((IntKind.wrap .u32 ((IntKind.wrap .u32 (d + e)) + (Vt .u32 (V8 .u32 f g) (V8 .u32 (Vt .u32 (IntKind.max .u32) h) i)))) + j)) + k)))), a0, a1, a2] : List Int) (IntKind.wrap .i64 (b + 1))))))))))))))))))))))))))) (X5 c a Zd p1 0))
def Vq (p1 : (List Int)) (a : ((List Int))) (b : ((List Int))) : Nat → (List Int) → Int → Option ((List Int))
  | 0, _, _ => none
  | f + 1, c, d => Ze  (Vq p1 a b f) p1 a b c d
def Y8 (p1 : (List Int)) (p3 : (List UInt8)) : Option ((List Int)) :=
  ((J7 ).bind fun a => ((chk (Nat.beq (List.length a) 64)).bind fun _ => ((X4 p3).bind fun b => ((chk (Nat.beq (List.length b) 64)).bind fun _ => (Vq p1 a b Zd p1 0)))))
set_option maxRecDepth 100000 in
set_option maxHeartbeats 4000000 in
theorem Rp (A4 : Option Addr) (c5 : Nat) (p1 : (List Int)) (p3 : (List UInt8)) (w0 : World) (i1 : List.length p1 = 8) (m9 : RdT eU8 w0 A4 c5 p3) (r : ((List Int))) (H : Y8 p1 p3 = some r) :
  Calls Tryz.prog 93 #[(.agg (Qb (Qc .u32) p1).toArray), (.slice A4 (List.length p3) c5)] w0 (fun e w' => e = .returned (.agg (Qb (Qc .u32) r).toArray) ∧ SP [] w0 w' []) := by
 unfold Y8 at H
 refine Qv (n := 102) Tryz.func93 K K K ?_
 have n0 := Q1 [] w0
 refine aQ ?_
 refine aR ?_
 refine iS 1 ?_
 refine Dz (e := (Qc .u32)) (l := p1) (m := 8) (t := 128) (x := (.tmp 0)) (d := (some 2)) (k := 0) K rfl K i1 K n0 ?_
 intro g7 w8 n1
 refine iS 2 ?_
 refine Qz (e := (Qc .u32)) (l := (List.replicate 8 0)) (m := 8) (t := 128) (z := .agg (Qb (Qc .u32) (List.replicate 8 0)).toArray) (d := (some 4)) (k := 1) K rfl K rfl rfl K n1 ?_
 intro b4 n2 n3
 refine iF ?_
 refine aQ ?_
 refine aR ?_
 obtain ⟨b6, n4, H⟩ := Qg H
 obtain ⟨f9, H⟩ := Vu H
 replace f9 := Nat.eq_of_beq_eq_true f9
 refine iS 1 ?_
 refine cF 101 #[] #[] 12 Tryz.call101 (Ro   n2  b6 n4) ?_
 rintro e w18 ⟨rfl, i2⟩
 refine ⟨_, rfl, ?_⟩
 have n5 := SP.call n3 i2
 clear i2
 refine iS 2 ?_
 refine Qz (e := (Qc .u32)) (l := (List.replicate 64 0)) (m := 64) (t := 135) (z := .agg (Qb (Qc .u32) (List.replicate 64 0)).toArray) (d := (some 5)) (k := 1) K rfl K rfl rfl K n5 ?_
 intro b2 w23 n6
 refine iS 3 ?_
 refine Q8 (e := (Qc .u32)) (l := (List.replicate 64 0)) (l' := b6) (m := 64) (t := 135) (x := (.tmp 5)) (y := (.tmp 12)) (g := b2) (i := 2) (d := none) (k := 2) K rfl K K f9 n6 rfl K ?_
 intro n7 i3
 refine iF ?_
 refine aQ ?_
 refine aR ?_
 refine iR 1 1 [(13, (.slice A4 (List.length p3) c5))] ?_
 obtain ⟨b7, n8, H⟩ := Qg H
 obtain ⟨g0, H⟩ := Vu H
 replace g0 := Nat.eq_of_beq_eq_true g0
 refine iS 2 ?_
 refine cF 102 #[(.tmp 13)] #[52] 14 Tryz.call102 (Gy A4 c5 p3 n7 (RdT.sp m9 i3) b7 n8) ?_
 rintro e w32 ⟨rfl, i4⟩
 refine ⟨_, rfl, ?_⟩
 have n9 := SP.call i3 i4
 clear i4
 refine iS 3 ?_
 refine Qz (e := (Qc .u32)) (l := (List.replicate 64 0)) (m := 64) (t := 135) (z := .agg (Qb (Qc .u32) (List.replicate 64 0)).toArray) (d := (some 6)) (k := 2) K rfl K rfl rfl K n9 ?_
 intro b3 w37 o0
 refine iS 4 ?_
 refine Q8 (e := (Qc .u32)) (l := (List.replicate 64 0)) (l' := b7) (m := 64) (t := 135) (x := (.tmp 6)) (y := (.tmp 14)) (g := b3) (i := 3) (d := none) (k := 3) K rfl K K g0 o0 rfl K ?_
 intro w40 i5
 refine iF ?_
 refine aQ ?_
 refine aR ?_
 refine iS 1 ?_
 refine V9 (e := (Qc .u32)) (l := p1) (m := 8) (t := 128) (x := (.tmp 2)) (g := g7) (i := 0) (d := (some 15)) (k := 0) K rfl K i5 rfl K K ?_
 refine iS 2 ?_
 refine Qz (e := (Qc .u32)) (l := (List.replicate 8 0)) (m := 8) (t := 128) (z := .agg (Qb (Qc .u32) (List.replicate 8 0)).toArray) (d := (some 7)) (k := 1) K rfl K rfl rfl K i5 ?_
 intro c w44 o1
 refine iS 3 ?_
 refine Q8 (e := (Qc .u32)) (l := (List.replicate 8 0)) (l' := p1) (m := 8) (t := 128) (x := (.tmp 7)) (y := (.tmp 15)) (g := c) (i := 4) (d := none) (k := 2) K rfl K K i1 o1 rfl K ?_
 intro w47 o2
 refine iF ?_
 refine aQ ?_
 refine aQ ?_
 refine aR ?_
 refine iR 1 1 [(8, (.int .i64 0))] ?_
 refine iF ?_
 refine Z4 K (id := 0) K ?_
 refine Ur K (fun f4 ρ w => ∃ (f : (List Int)) (p : Int), Zg ρ [(2, (pt g7 0)), (4, (pt b4 0)), (5, (pt b2 0)), (6, (pt b3 0)), (7, (pt c 0)), (8, (.int .i64 p))] ∧ SP [] w0 w [Vb 128 (Qc .u32) g7 8 p1, Vb 128 (Qc .u32) b4 8 (List.replicate 8 0), Vb 135 (Qc .u32) b2 64 b6, Vb 135 (Qc .u32) b3 64 b7, Vb 128 (Qc .u32) c 8 f] ∧ Vq p1 b6 b7 f4 f p = some r) (by rintro ρ w ⟨f, p, hk, hs, H⟩; cases H) ?_ Zd ?_
 ·rintro f4 ρ ah6 ⟨f, p, hk, b9, H⟩
  refine At.known [(2, (pt g7 0)), (4, (pt b4 0)), (5, (pt b2 0)), (6, (pt b3 0)), (7, (pt c 0)), (8, (.int .i64 p))] hk ?_
  replace H := (show Ze (Vq p1 b6 b7 f4) p1 b6 b7 f p = some r from H)
  unfold Ze at H
  have ah7 := Q5 (SP.get b9 (i := 0) rfl)
  have ah8 := Q5 (SP.get b9 (i := 1) rfl)
  have ah9 := Q5 (SP.get b9 (i := 2) rfl)
  have ai0 := Q5 (SP.get b9 (i := 3) rfl)
  have ai1 := Q5 (SP.get b9 (i := 4) rfl)
  refine aQ ?_
  refine aQ ?_
  refine aR ?_
  refine iR 2 2 [(16, (.int .i64 p)), (17, (.bool (decide (p < 64))))] ?_
  refine iF ?_
  refine Zs K (o := (.tmp 17)) K (b := (decide (p < 64))) K (fun g1 => ?_) (fun g1 => ?_)
  ·have H := ct H g1
   refine At.skip K ?_
   refine aQ ?_
   refine Z4 K (id := 1) K ?_
   refine aQ ?_
   obtain ⟨a1, c4, c6, i6, H⟩ := Qn H
   obtain ⟨g2, i7, i8, o3, H⟩ := Qn H
   obtain ⟨a2, o4, H⟩ := Qg H
   obtain ⟨s, c7, c8, i9, H⟩ := Qn H
   obtain ⟨u, c9, d0, j0, H⟩ := Qn H
   obtain ⟨q, d1, d2, j1, H⟩ := Qn H
   obtain ⟨a0, d3, d4, j2, H⟩ := Qn H
   obtain ⟨a3, d5, d6, j3, H⟩ := Qn H
   obtain ⟨a4, d7, d8, j4, H⟩ := Qn H
   refine aG [Vv (some ⟨c, 0, none⟩) (Qc .u32).sz 7, GEq (.int .u32 a1), Vv (some ⟨c, 0, none⟩) (Qc .u32).sz 4, GEq (.int .u32 g2), GEq (.int .u32 a2), GEq (.int .u32 (IntKind.wrap .u32 (a1 + a2))), Vv (some ⟨c, 0, none⟩) (Qc .u32).sz 4, GEq (.int .u32 s), Vv (some ⟨c, 0, none⟩) (Qc .u32).sz 5, GEq (.int .u32 u), GEq (.int .u32 (V8 .u32 s u)), Vv (some ⟨c, 0, none⟩) (Qc .u32).sz 4, GEq (.int .u32 q), GEq (.int .u32 (Vt .u32 (IntKind.max .u32) q)), Vv (some ⟨c, 0, none⟩) (Qc .u32).sz 6, GEq (.int .u32 a0), GEq (.int .u32 (V8 .u32 (Vt .u32 (IntKind.max .u32) q) a0)), GEq (.int .u32 (Vt .u32 (V8 .u32 s u) (V8 .u32 (Vt .u32 (IntKind.max .u32) q) a0))), GEq (.int .u32 (IntKind.wrap .u32 ((IntKind.wrap .u32 (a1 + a2)) + (Vt .u32 (V8 .u32 s u) (V8 .u32 (Vt .u32 (IntKind.max .u32) q) a0))))), GEq (.int .i64 p), Vv (some ⟨b2, 0, none⟩) (Qc .u32).sz p, GEq (.int .u32 a3), GEq (.int .u32 (IntKind.wrap .u32 ((IntKind.wrap .u32 ((IntKind.wrap .u32 (a1 + a2)) + (Vt .u32 (V8 .u32 s u) (V8 .u32 (Vt .u32 (IntKind.max .u32) q) a0)))) + a3))), GEq (.int .i64 p), Vv (some ⟨b3, 0, none⟩) (Qc .u32).sz p, GEq (.int .u32 a4), GEq (.int .u32 (IntKind.wrap .u32 ((IntKind.wrap .u32 ((IntKind.wrap .u32 ((IntKind.wrap .u32 (a1 + a2)) + (Vt .u32 (V8 .u32 s u) (V8 .u32 (Vt .u32 (IntKind.max .u32) q) a0)))) + a3)) + a4))), GEq (.int .u32 (IntKind.wrap .u32 ((IntKind.wrap .u32 ((IntKind.wrap .u32 ((IntKind.wrap .u32 (a1 + a2)) + (Vt .u32 (V8 .u32 s u) (V8 .u32 (Vt .u32 (IntKind.max .u32) q) a0)))) + a3)) + a4)))] [4] (tG [] w0 [Vb 128 (Qc .u32) g7 8 p1, Vb 128 (Qc .u32) b4 8 (List.replicate 8 0), Vb 135 (Qc .u32) b2 64 b6, Vb 135 (Qc .u32) b3 64 b7, Vb 128 (Qc .u32) c 8 f] [([], []), ([4], [(.int .u32 a2)])]) 28 1 ⟨trivial, SP.drew b9⟩ ?_ ?_
   iterate 28 refine And.intro ?_ ?_
   exact trivial
   ·refine Owe.light K [0, 1] K (Qd ?_ (Qd ?_ Q3))
    ·rintro ρ' w' hs hah ⟨ai2, o5⟩
     refine kM (kc (kS hs 7 (pt c 0)) k0) fun hkn => ?_
     refine Qh (e := (Qc .u32)) (l := f) (m := 8) (g := c) (T := 128) (E := 111) (x := (.tmp 7)) (ix := (.const (.int .i64 (7)))) (ki := .i64) (iz := 7) (i := 4) (d := (some 20)) (k := 0) K rfl K K K K o5 rfl c4 c6 ?_
     exact ⟨rfl, _, Qa hkn, ⟨c, 0, rfl, rfl⟩⟩
    ·rintro ρ' w' hs hah ⟨⟨ai3, -⟩, o6⟩
     refine kM (kc (kS hs 7 (pt c 0)) k0) fun hkn => ?_
     refine Qh (e := (Qc .u32)) (l := f) (m := 8) (g := c) (T := 128) (E := 111) (x := (.tmp 7)) (ix := (.const (.int .i64 (7)))) (ki := .i64) (iz := 7) (i := 4) (d := (some 20)) (k := 0) K rfl K K K K o6 rfl c4 c6 ?_
     exact ⟨rfl, _, Qa hkn, ⟨c, 0, rfl, rfl⟩⟩
   ·refine Owe.light K [0, 1] K (Qd ?_ (Qd ?_ Q3))
    ·rintro ρ' w' hs hah ⟨ai4, o7⟩
     obtain ⟨o8, o9, p0, g3⟩ := hah 0 20 K
     refine kM (kc g3 k0) fun hkn => ?_
     refine sC 111 20 o8 (o9 + Int.toNat 7 * (Qc .u32).sz) (.int .u32 a1) 21 (Qi (e := (Qc .u32)) (Qf (Qu (SP.get o7 (i := 4) rfl)) p0 c4 c6) i6 (j := 0) rfl) ?_
     exact eK hkn
    ·rintro ρ' w' hs hah ⟨⟨ai5, -⟩, p2⟩
     obtain ⟨p4, p5, p6, g3⟩ := hah 0 20 K
     refine kM (kc g3 k0) fun hkn => ?_
     refine sC 111 20 p4 (p5 + Int.toNat 7 * (Qc .u32).sz) (.int .u32 a1) 21 (Qi (e := (Qc .u32)) (Qf (Qu (SP.get p2 (i := 4) rfl)) p6 c4 c6) i6 (j := 0) rfl) ?_
     exact eK hkn
   ·refine oL 0 ?_
    ·rintro ρ' w' hs hah ⟨ai6, p7⟩
     refine kM (kc (kS hs 7 (pt c 0)) k0) fun hkn => ?_
     refine Qh (e := (Qc .u32)) (l := f) (m := 8) (g := c) (T := 128) (E := 111) (x := (.tmp 7)) (ix := (.const (.int .i64 (4)))) (ki := .i64) (iz := 4) (i := 4) (d := (some 22)) (k := 2) K rfl K K K K p7 rfl i7 i8 ?_
     exact ⟨rfl, _, Qa hkn, ⟨c, 0, rfl, rfl⟩⟩
   ·refine oL 0 ?_
    ·rintro ρ' w' hs hah ⟨ai7, p8⟩
     obtain ⟨p9, q0, q1, q2⟩ := hah 2 22 K
     refine kM (kc q2 k0) fun hkn => ?_
     refine sC 111 22 p9 (q0 + Int.toNat 4 * (Qc .u32).sz) (.int .u32 g2) 23 (Qi (e := (Qc .u32)) (Qf (Qu (SP.get p8 (i := 4) rfl)) q1 i7 i8) o3 (j := 0) rfl) ?_
     exact eK hkn
   ·refine oH 0 1 ?_
    ·rintro ρ' w' hs hah ⟨ai8, q3⟩
     refine kM (kc (kA hah 3 23) k0) fun hkn => ?_
     refine cF 103 #[(.tmp 23), (.const (.int .i64 (6))), (.const (.int .i64 (11))), (.const (.int .i64 (25)))] #[111, 3, 3, 3] 24 Tryz.call103 (Nt  g2 6 11 25 w'  a2 o4) ?_
     rintro e ai9 ⟨rfl, j5⟩
     refine ⟨_, rfl, ?_⟩
     have q4 := SP.call q3 j5
     clear j5
     refine ⟨_, Qa hkn, rfl, ?_⟩
     exact (And.intro (And.intro rfl (trivial)) (q4))
   ·exact oV (hC (hA 1 21) (hC (hA 4 24) (h0))) (.int .u32 (IntKind.wrap .u32 (a1 + a2)))
   ·refine Owe.light K [0, 1] K (Qd ?_ (Qd ?_ Q3))
    ·rintro ρ' w' hs hah ⟨aj0, q5⟩
     refine kM (kc (kS hs 7 (pt c 0)) k0) fun hkn => ?_
     refine Qh (e := (Qc .u32)) (l := f) (m := 8) (g := c) (T := 128) (E := 111) (x := (.tmp 7)) (ix := (.const (.int .i64 (4)))) (ki := .i64) (iz := 4) (i := 4) (d := (some 26)) (k := 6) K rfl K K K K q5 rfl c7 c8 ?_
     exact ⟨rfl, _, Qa hkn, ⟨c, 0, rfl, rfl⟩⟩
    ·rintro ρ' w' hs hah ⟨⟨aj1, -⟩, q6⟩
     refine kM (kc (kS hs 7 (pt c 0)) k0) fun hkn => ?_
     refine Qh (e := (Qc .u32)) (l := f) (m := 8) (g := c) (T := 128) (E := 111) (x := (.tmp 7)) (ix := (.const (.int .i64 (4)))) (ki := .i64) (iz := 4) (i := 4) (d := (some 26)) (k := 6) K rfl K K K K q6 rfl c7 c8 ?_
     exact ⟨rfl, _, Qa hkn, ⟨c, 0, rfl, rfl⟩⟩
   ·refine Owe.light K [0, 1] K (Qd ?_ (Qd ?_ Q3))
    ·rintro ρ' w' hs hah ⟨aj2, q7⟩
     obtain ⟨q8, q9, r0, g4⟩ := hah 6 26 K
     refine kM (kc g4 k0) fun hkn => ?_
     refine sC 111 26 q8 (q9 + Int.toNat 4 * (Qc .u32).sz) (.int .u32 s) 27 (Qi (e := (Qc .u32)) (Qf (Qu (SP.get q7 (i := 4) rfl)) r0 c7 c8) i9 (j := 0) rfl) ?_
     exact eK hkn
    ·rintro ρ' w' hs hah ⟨⟨aj3, -⟩, r1⟩
     obtain ⟨r2, r3, r4, g4⟩ := hah 6 26 K
     refine kM (kc g4 k0) fun hkn => ?_
     refine sC 111 26 r2 (r3 + Int.toNat 4 * (Qc .u32).sz) (.int .u32 s) 27 (Qi (e := (Qc .u32)) (Qf (Qu (SP.get r1 (i := 4) rfl)) r4 c7 c8) i9 (j := 0) rfl) ?_
     exact eK hkn
   ·refine Owe.light K [0, 1] K (Qd ?_ (Qd ?_ Q3))
    ·rintro ρ' w' hs hah ⟨aj4, r5⟩
     refine kM (kc (kS hs 7 (pt c 0)) k0) fun hkn => ?_
     refine Qh (e := (Qc .u32)) (l := f) (m := 8) (g := c) (T := 128) (E := 111) (x := (.tmp 7)) (ix := (.const (.int .i64 (5)))) (ki := .i64) (iz := 5) (i := 4) (d := (some 28)) (k := 8) K rfl K K K K r5 rfl c9 d0 ?_
     exact ⟨rfl, _, Qa hkn, ⟨c, 0, rfl, rfl⟩⟩
    ·rintro ρ' w' hs hah ⟨⟨aj5, -⟩, r6⟩
     refine kM (kc (kS hs 7 (pt c 0)) k0) fun hkn => ?_
     refine Qh (e := (Qc .u32)) (l := f) (m := 8) (g := c) (T := 128) (E := 111) (x := (.tmp 7)) (ix := (.const (.int .i64 (5)))) (ki := .i64) (iz := 5) (i := 4) (d := (some 28)) (k := 8) K rfl K K K K r6 rfl c9 d0 ?_
     exact ⟨rfl, _, Qa hkn, ⟨c, 0, rfl, rfl⟩⟩
   ·refine Owe.light K [0, 1] K (Qd ?_ (Qd ?_ Q3))
    ·rintro ρ' w' hs hah ⟨aj6, r7⟩
     obtain ⟨r8, r9, s0, g5⟩ := hah 8 28 K
     refine kM (kc g5 k0) fun hkn => ?_
     refine sC 111 28 r8 (r9 + Int.toNat 5 * (Qc .u32).sz) (.int .u32 u) 29 (Qi (e := (Qc .u32)) (Qf (Qu (SP.get r7 (i := 4) rfl)) s0 c9 d0) j0 (j := 0) rfl) ?_
     exact eK hkn
    ·rintro ρ' w' hs hah ⟨⟨aj7, -⟩, s1⟩
     obtain ⟨s2, s3, s4, g5⟩ := hah 8 28 K
     refine kM (kc g5 k0) fun hkn => ?_
     refine sC 111 28 s2 (s3 + Int.toNat 5 * (Qc .u32).sz) (.int .u32 u) 29 (Qi (e := (Qc .u32)) (Qf (Qu (SP.get s1 (i := 4) rfl)) s4 c9 d0) j0 (j := 0) rfl) ?_
     exact eK hkn
   ·exact oV (hC (hA 7 27) (hC (hA 9 29) (h0))) (.int .u32 (V8 .u32 s u))
   ·refine Owe.light K [0, 1] K (Qd ?_ (Qd ?_ Q3))
    ·rintro ρ' w' hs hah ⟨aj8, s5⟩
     refine kM (kc (kS hs 7 (pt c 0)) k0) fun hkn => ?_
     refine Qh (e := (Qc .u32)) (l := f) (m := 8) (g := c) (T := 128) (E := 111) (x := (.tmp 7)) (ix := (.const (.int .i64 (4)))) (ki := .i64) (iz := 4) (i := 4) (d := (some 31)) (k := 11) K rfl K K K K s5 rfl d1 d2 ?_
     exact ⟨rfl, _, Qa hkn, ⟨c, 0, rfl, rfl⟩⟩
    ·rintro ρ' w' hs hah ⟨⟨aj9, -⟩, s6⟩
     refine kM (kc (kS hs 7 (pt c 0)) k0) fun hkn => ?_
     refine Qh (e := (Qc .u32)) (l := f) (m := 8) (g := c) (T := 128) (E := 111) (x := (.tmp 7)) (ix := (.const (.int .i64 (4)))) (ki := .i64) (iz := 4) (i := 4) (d := (some 31)) (k := 11) K rfl K K K K s6 rfl d1 d2 ?_
     exact ⟨rfl, _, Qa hkn, ⟨c, 0, rfl, rfl⟩⟩
   ·refine Owe.light K [0, 1] K (Qd ?_ (Qd ?_ Q3))
    ·rintro ρ' w' hs hah ⟨ak0, s7⟩
     obtain ⟨s8, s9, t0, g6⟩ := hah 11 31 K
     refine kM (kc g6 k0) fun hkn => ?_
     refine sC 111 31 s8 (s9 + Int.toNat 4 * (Qc .u32).sz) (.int .u32 q) 32 (Qi (e := (Qc .u32)) (Qf (Qu (SP.get s7 (i := 4) rfl)) t0 d1 d2) j1 (j := 0) rfl) ?_
     exact eK hkn
    ·rintro ρ' w' hs hah ⟨⟨ak1, -⟩, t1⟩
     obtain ⟨t2, t3, t4, g6⟩ := hah 11 31 K
     refine kM (kc g6 k0) fun hkn => ?_
     refine sC 111 31 t2 (t3 + Int.toNat 4 * (Qc .u32).sz) (.int .u32 q) 32 (Qi (e := (Qc .u32)) (Qf (Qu (SP.get t1 (i := 4) rfl)) t4 d1 d2) j1 (j := 0) rfl) ?_
     exact eK hkn
   ·exact oV (hC (hA 12 32) (h0)) (.int .u32 (Vt .u32 (IntKind.max .u32) q))
   ·refine Owe.light K [0, 1] K (Qd ?_ (Qd ?_ Q3))
    ·rintro ρ' w' hs hah ⟨ak2, t5⟩
     refine kM (kc (kS hs 7 (pt c 0)) k0) fun hkn => ?_
     refine Qh (e := (Qc .u32)) (l := f) (m := 8) (g := c) (T := 128) (E := 111) (x := (.tmp 7)) (ix := (.const (.int .i64 (6)))) (ki := .i64) (iz := 6) (i := 4) (d := (some 34)) (k := 14) K rfl K K K K t5 rfl d3 d4 ?_
     exact ⟨rfl, _, Qa hkn, ⟨c, 0, rfl, rfl⟩⟩
    ·rintro ρ' w' hs hah ⟨⟨ak3, -⟩, t6⟩
     refine kM (kc (kS hs 7 (pt c 0)) k0) fun hkn => ?_
     refine Qh (e := (Qc .u32)) (l := f) (m := 8) (g := c) (T := 128) (E := 111) (x := (.tmp 7)) (ix := (.const (.int .i64 (6)))) (ki := .i64) (iz := 6) (i := 4) (d := (some 34)) (k := 14) K rfl K K K K t6 rfl d3 d4 ?_
     exact ⟨rfl, _, Qa hkn, ⟨c, 0, rfl, rfl⟩⟩
   ·refine Owe.light K [0, 1] K (Qd ?_ (Qd ?_ Q3))
    ·rintro ρ' w' hs hah ⟨ak4, t7⟩
     obtain ⟨t8, t9, u0, g8⟩ := hah 14 34 K
     refine kM (kc g8 k0) fun hkn => ?_
     refine sC 111 34 t8 (t9 + Int.toNat 6 * (Qc .u32).sz) (.int .u32 a0) 35 (Qi (e := (Qc .u32)) (Qf (Qu (SP.get t7 (i := 4) rfl)) u0 d3 d4) j2 (j := 0) rfl) ?_
     exact eK hkn
    ·rintro ρ' w' hs hah ⟨⟨ak5, -⟩, u1⟩
     obtain ⟨u2, u3, u4, g8⟩ := hah 14 34 K
     refine kM (kc g8 k0) fun hkn => ?_
     refine sC 111 34 u2 (u3 + Int.toNat 6 * (Qc .u32).sz) (.int .u32 a0) 35 (Qi (e := (Qc .u32)) (Qf (Qu (SP.get u1 (i := 4) rfl)) u4 d3 d4) j2 (j := 0) rfl) ?_
     exact eK hkn
   ·exact oV (hC (hA 13 33) (hC (hA 15 35) (h0))) (.int .u32 (V8 .u32 (Vt .u32 (IntKind.max .u32) q) a0))
   ·exact oV (hC (hA 10 30) (hC (hA 16 36) (h0))) (.int .u32 (Vt .u32 (V8 .u32 s u) (V8 .u32 (Vt .u32 (IntKind.max .u32) q) a0)))
   ·exact oV (hC (hA 5 25) (hC (hA 17 37) (h0))) (.int .u32 (IntKind.wrap .u32 ((IntKind.wrap .u32 (a1 + a2)) + (Vt .u32 (V8 .u32 s u) (V8 .u32 (Vt .u32 (IntKind.max .u32) q) a0)))))
   ·exact oV (hC (hS 8 (.int .i64 p)) (h0)) (.int .i64 p)
   ·refine Owe.light K [0, 1] K (Qd ?_ (Qd ?_ Q3))
    ·rintro ρ' w' hs hah ⟨ak6, u5⟩
     refine kM (kc (kS hs 5 (pt b2 0)) (kc (kA hah 19 39) k0)) fun hkn => ?_
     refine Qh (e := (Qc .u32)) (l := b6) (m := 64) (g := b2) (T := 135) (E := 111) (x := (.tmp 5)) (ix := (.tmp 39)) (ki := .i64) (iz := p) (i := 2) (d := (some 40)) (k := 20) K rfl K K K K u5 rfl d5 d6 ?_
     exact ⟨rfl, _, Qa hkn, ⟨b2, 0, rfl, rfl⟩⟩
    ·rintro ρ' w' hs hah ⟨⟨ak7, -⟩, u6⟩
     refine kM (kc (kS hs 5 (pt b2 0)) (kc (kA hah 19 39) k0)) fun hkn => ?_
     refine Qh (e := (Qc .u32)) (l := b6) (m := 64) (g := b2) (T := 135) (E := 111) (x := (.tmp 5)) (ix := (.tmp 39)) (ki := .i64) (iz := p) (i := 2) (d := (some 40)) (k := 20) K rfl K K K K u6 rfl d5 d6 ?_
     exact ⟨rfl, _, Qa hkn, ⟨b2, 0, rfl, rfl⟩⟩
   ·refine Owe.light K [0, 1] K (Qd ?_ (Qd ?_ Q3))
    ·rintro ρ' w' hs hah ⟨ak8, u7⟩
     obtain ⟨u8, u9, v0, g9⟩ := hah 20 40 K
     refine kM (kc g9 k0) fun hkn => ?_
     refine sC 111 40 u8 (u9 + Int.toNat p * (Qc .u32).sz) (.int .u32 a3) 41 (Qi (e := (Qc .u32)) (Qf (Qu (SP.get u7 (i := 2) rfl)) v0 d5 d6) j3 (j := 0) rfl) ?_
     exact eK hkn
    ·rintro ρ' w' hs hah ⟨⟨ak9, -⟩, v1⟩
     obtain ⟨v2, v3, v4, g9⟩ := hah 20 40 K
     refine kM (kc g9 k0) fun hkn => ?_
     refine sC 111 40 v2 (v3 + Int.toNat p * (Qc .u32).sz) (.int .u32 a3) 41 (Qi (e := (Qc .u32)) (Qf (Qu (SP.get v1 (i := 2) rfl)) v4 d5 d6) j3 (j := 0) rfl) ?_
     exact eK hkn
   ·exact oV (hC (hA 18 38) (hC (hA 21 41) (h0))) (.int .u32 (IntKind.wrap .u32 ((IntKind.wrap .u32 ((IntKind.wrap .u32 (a1 + a2)) + (Vt .u32 (V8 .u32 s u) (V8 .u32 (Vt .u32 (IntKind.max .u32) q) a0)))) + a3)))
   ·exact oV (hC (hS 8 (.int .i64 p)) (h0)) (.int .i64 p)
   ·refine Owe.light K [0, 1] K (Qd ?_ (Qd ?_ Q3))
    ·rintro ρ' w' hs hah ⟨al0, v5⟩
     refine kM (kc (kS hs 6 (pt b3 0)) (kc (kA hah 23 43) k0)) fun hkn => ?_
     refine Qh (e := (Qc .u32)) (l := b7) (m := 64) (g := b3) (T := 135) (E := 111) (x := (.tmp 6)) (ix := (.tmp 43)) (ki := .i64) (iz := p) (i := 3) (d := (some 44)) (k := 24) K rfl K K K K v5 rfl d7 d8 ?_
     exact ⟨rfl, _, Qa hkn, ⟨b3, 0, rfl, rfl⟩⟩
    ·rintro ρ' w' hs hah ⟨⟨al1, -⟩, v6⟩
     refine kM (kc (kS hs 6 (pt b3 0)) (kc (kA hah 23 43) k0)) fun hkn => ?_
     refine Qh (e := (Qc .u32)) (l := b7) (m := 64) (g := b3) (T := 135) (E := 111) (x := (.tmp 6)) (ix := (.tmp 43)) (ki := .i64) (iz := p) (i := 3) (d := (some 44)) (k := 24) K rfl K K K K v6 rfl d7 d8 ?_
     exact ⟨rfl, _, Qa hkn, ⟨b3, 0, rfl, rfl⟩⟩
   ·refine Owe.light K [0, 1] K (Qd ?_ (Qd ?_ Q3))
    ·rintro ρ' w' hs hah ⟨al2, v7⟩
     obtain ⟨v8, v9, w1, h1⟩ := hah 24 44 K
     refine kM (kc h1 k0) fun hkn => ?_
     refine sC 111 44 v8 (v9 + Int.toNat p * (Qc .u32).sz) (.int .u32 a4) 45 (Qi (e := (Qc .u32)) (Qf (Qu (SP.get v7 (i := 3) rfl)) w1 d7 d8) j4 (j := 0) rfl) ?_
     exact eK hkn
    ·rintro ρ' w' hs hah ⟨⟨al3, -⟩, w2⟩
     obtain ⟨w3, w4, w5, h1⟩ := hah 24 44 K
     refine kM (kc h1 k0) fun hkn => ?_
     refine sC 111 44 w3 (w4 + Int.toNat p * (Qc .u32).sz) (.int .u32 a4) 45 (Qi (e := (Qc .u32)) (Qf (Qu (SP.get w2 (i := 3) rfl)) w5 d7 d8) j4 (j := 0) rfl) ?_
     exact eK hkn
   ·exact oV (hC (hA 22 42) (hC (hA 25 45) (h0))) (.int .u32 (IntKind.wrap .u32 ((IntKind.wrap .u32 ((IntKind.wrap .u32 ((IntKind.wrap .u32 (a1 + a2)) + (Vt .u32 (V8 .u32 s u) (V8 .u32 (Vt .u32 (IntKind.max .u32) q) a0)))) + a3)) + a4)))
   ·exact oV (hC (hA 26 46) (h0)) (.int .u32 (IntKind.wrap .u32 ((IntKind.wrap .u32 ((IntKind.wrap .u32 ((IntKind.wrap .u32 (a1 + a2)) + (Vt .u32 (V8 .u32 s u) (V8 .u32 (Vt .u32 (IntKind.max .u32) q) a0)))) + a3)) + a4)))
   ·rintro ρ' w' hs hf ⟨⟨al4, -⟩, j6⟩
    refine Vj [(2, (pt g7 0)), (4, (pt b4 0)), (5, (pt b2 0)), (6, (pt b3 0)), (7, (pt c 0)), (8, (.int .i64 p)), (9, (.int .u32 (IntKind.wrap .u32 ((IntKind.wrap .u32 ((IntKind.wrap .u32 ((IntKind.wrap .u32 (a1 + a2)) + (Vt .u32 (V8 .u32 s u) (V8 .u32 (Vt .u32 (IntKind.max .u32) q) a0)))) + a3)) + a4))))] ⟨(hs 2 K).trans K, (hs 4 K).trans K, (hs 5 K).trans K, (hs 6 K).trans K, (hs 7 K).trans K, (hs 8 K).trans K, hf 27 9 K, trivial⟩ ?_
    obtain ⟨al5, w6⟩ : ∃ x, w' = x := ⟨_, rfl⟩
    rw [w6] at j6 ⊢
    refine aQ ?_
    obtain ⟨h2, j7, j8, w7, H⟩ := Qn H
    obtain ⟨b8, w9, H⟩ := Qg H
    obtain ⟨a5, d9, e0, j9, H⟩ := Qn H
    obtain ⟨a6, e1, e2, k1, H⟩ := Qn H
    obtain ⟨a7, e3, e4, k2, H⟩ := Qn H
    obtain ⟨a8, e5, e6, k3, H⟩ := Qn H
    obtain ⟨a9, e7, e8, k4, H⟩ := Qn H
    obtain ⟨b0, e9, f0, k5, H⟩ := Qn H
    refine aG [Vv (some ⟨c, 0, none⟩) (Qc .u32).sz 0, GEq (.int .u32 h2), GEq (.int .u32 b8), Vv (some ⟨c, 0, none⟩) (Qc .u32).sz 0, GEq (.int .u32 a5), Vv (some ⟨c, 0, none⟩) (Qc .u32).sz 1, GEq (.int .u32 a6), GEq (.int .u32 (V8 .u32 a5 a6)), Vv (some ⟨c, 0, none⟩) (Qc .u32).sz 0, GEq (.int .u32 a7), Vv (some ⟨c, 0, none⟩) (Qc .u32).sz 2, GEq (.int .u32 a8), GEq (.int .u32 (V8 .u32 a7 a8)), GEq (.int .u32 (Vt .u32 (V8 .u32 a5 a6) (V8 .u32 a7 a8))), Vv (some ⟨c, 0, none⟩) (Qc .u32).sz 1, GEq (.int .u32 a9), Vv (some ⟨c, 0, none⟩) (Qc .u32).sz 2, GEq (.int .u32 b0), GEq (.int .u32 (V8 .u32 a9 b0)), GEq (.int .u32 (Vt .u32 (Vt .u32 (V8 .u32 a5 a6) (V8 .u32 a7 a8)) (V8 .u32 a9 b0))), GEq (.int .u32 (IntKind.wrap .u32 (b8 + (Vt .u32 (Vt .u32 (V8 .u32 a5 a6) (V8 .u32 a7 a8)) (V8 .u32 a9 b0))))), GEq (.int .u32 (IntKind.wrap .u32 (b8 + (Vt .u32 (Vt .u32 (V8 .u32 a5 a6) (V8 .u32 a7 a8)) (V8 .u32 a9 b0)))))] [2] (tG [] w0 [Vb 128 (Qc .u32) g7 8 p1, Vb 128 (Qc .u32) b4 8 (List.replicate 8 0), Vb 135 (Qc .u32) b2 64 b6, Vb 135 (Qc .u32) b3 64 b7, Vb 128 (Qc .u32) c 8 f] [([], []), ([2], [(.int .u32 b8)])]) 22 1 ⟨trivial, SP.drew j6⟩ ?_ ?_
    iterate 22 refine And.intro ?_ ?_
    exact trivial
    ·refine oL 0 ?_
     ·rintro ρ' w' hs hah ⟨al6, x0⟩
      refine kM (kc (kS hs 7 (pt c 0)) k0) fun hkn => ?_
      refine Qh (e := (Qc .u32)) (l := f) (m := 8) (g := c) (T := 128) (E := 111) (x := (.tmp 7)) (ix := (.const (.int .i64 (0)))) (ki := .i64) (iz := 0) (i := 4) (d := (some 47)) (k := 0) K rfl K K K K x0 rfl j7 j8 ?_
      exact ⟨rfl, _, Qa hkn, ⟨c, 0, rfl, rfl⟩⟩
    ·refine oL 0 ?_
     ·rintro ρ' w' hs hah ⟨al7, x1⟩
      obtain ⟨x2, x3, x4, x5⟩ := hah 0 47 K
      refine kM (kc x5 k0) fun hkn => ?_
      refine sC 111 47 x2 (x3 + Int.toNat 0 * (Qc .u32).sz) (.int .u32 h2) 48 (Qi (e := (Qc .u32)) (Qf (Qu (SP.get x1 (i := 4) rfl)) x4 j7 j8) w7 (j := 0) rfl) ?_
      exact eK hkn
    ·refine oH 0 1 ?_
     ·rintro ρ' w' hs hah ⟨al8, x6⟩
      refine kM (kc (kA hah 1 48) k0) fun hkn => ?_
      refine cF 103 #[(.tmp 48), (.const (.int .i64 (2))), (.const (.int .i64 (13))), (.const (.int .i64 (22)))] #[111, 3, 3, 3] 49 Tryz.call103 (Nt  h2 2 13 22 w'  b8 w9) ?_
      rintro e al9 ⟨rfl, k6⟩
      refine ⟨_, rfl, ?_⟩
      have x7 := SP.call x6 k6
      clear k6
      refine ⟨_, Qa hkn, rfl, ?_⟩
      exact (And.intro (And.intro rfl (trivial)) (x7))
    ·refine Owe.light K [0, 1] K (Qd ?_ (Qd ?_ Q3))
     ·rintro ρ' w' hs hah ⟨am0, x8⟩
      refine kM (kc (kS hs 7 (pt c 0)) k0) fun hkn => ?_
      refine Qh (e := (Qc .u32)) (l := f) (m := 8) (g := c) (T := 128) (E := 111) (x := (.tmp 7)) (ix := (.const (.int .i64 (0)))) (ki := .i64) (iz := 0) (i := 4) (d := (some 50)) (k := 3) K rfl K K K K x8 rfl d9 e0 ?_
      exact ⟨rfl, _, Qa hkn, ⟨c, 0, rfl, rfl⟩⟩
     ·rintro ρ' w' hs hah ⟨⟨am1, -⟩, x9⟩
      refine kM (kc (kS hs 7 (pt c 0)) k0) fun hkn => ?_
      refine Qh (e := (Qc .u32)) (l := f) (m := 8) (g := c) (T := 128) (E := 111) (x := (.tmp 7)) (ix := (.const (.int .i64 (0)))) (ki := .i64) (iz := 0) (i := 4) (d := (some 50)) (k := 3) K rfl K K K K x9 rfl d9 e0 ?_
      exact ⟨rfl, _, Qa hkn, ⟨c, 0, rfl, rfl⟩⟩
    ·refine Owe.light K [0, 1] K (Qd ?_ (Qd ?_ Q3))
     ·rintro ρ' w' hs hah ⟨am2, y0⟩
      obtain ⟨y1, y2, y3, h3⟩ := hah 3 50 K
      refine kM (kc h3 k0) fun hkn => ?_
      refine sC 111 50 y1 (y2 + Int.toNat 0 * (Qc .u32).sz) (.int .u32 a5) 51 (Qi (e := (Qc .u32)) (Qf (Qu (SP.get y0 (i := 4) rfl)) y3 d9 e0) j9 (j := 0) rfl) ?_
      exact eK hkn
     ·rintro ρ' w' hs hah ⟨⟨am3, -⟩, y4⟩
      obtain ⟨y5, y6, y7, h3⟩ := hah 3 50 K
      refine kM (kc h3 k0) fun hkn => ?_
      refine sC 111 50 y5 (y6 + Int.toNat 0 * (Qc .u32).sz) (.int .u32 a5) 51 (Qi (e := (Qc .u32)) (Qf (Qu (SP.get y4 (i := 4) rfl)) y7 d9 e0) j9 (j := 0) rfl) ?_
      exact eK hkn
    ·refine Owe.light K [0, 1] K (Qd ?_ (Qd ?_ Q3))
     ·rintro ρ' w' hs hah ⟨am4, y8⟩
      refine kM (kc (kS hs 7 (pt c 0)) k0) fun hkn => ?_
      refine Qh (e := (Qc .u32)) (l := f) (m := 8) (g := c) (T := 128) (E := 111) (x := (.tmp 7)) (ix := (.const (.int .i64 (1)))) (ki := .i64) (iz := 1) (i := 4) (d := (some 52)) (k := 5) K rfl K K K K y8 rfl e1 e2 ?_
      exact ⟨rfl, _, Qa hkn, ⟨c, 0, rfl, rfl⟩⟩
     ·rintro ρ' w' hs hah ⟨⟨am5, -⟩, y9⟩
      refine kM (kc (kS hs 7 (pt c 0)) k0) fun hkn => ?_
      refine Qh (e := (Qc .u32)) (l := f) (m := 8) (g := c) (T := 128) (E := 111) (x := (.tmp 7)) (ix := (.const (.int .i64 (1)))) (ki := .i64) (iz := 1) (i := 4) (d := (some 52)) (k := 5) K rfl K K K K y9 rfl e1 e2 ?_
      exact ⟨rfl, _, Qa hkn, ⟨c, 0, rfl, rfl⟩⟩
    ·refine Owe.light K [0, 1] K (Qd ?_ (Qd ?_ Q3))
     ·rintro ρ' w' hs hah ⟨am6, z0⟩
      obtain ⟨z1, z2, z3, h4⟩ := hah 5 52 K
      refine kM (kc h4 k0) fun hkn => ?_
      refine sC 111 52 z1 (z2 + Int.toNat 1 * (Qc .u32).sz) (.int .u32 a6) 53 (Qi (e := (Qc .u32)) (Qf (Qu (SP.get z0 (i := 4) rfl)) z3 e1 e2) k1 (j := 0) rfl) ?_
      exact eK hkn
     ·rintro ρ' w' hs hah ⟨⟨am7, -⟩, z4⟩
      obtain ⟨z5, z6, z7, h4⟩ := hah 5 52 K
      refine kM (kc h4 k0) fun hkn => ?_
      refine sC 111 52 z5 (z6 + Int.toNat 1 * (Qc .u32).sz) (.int .u32 a6) 53 (Qi (e := (Qc .u32)) (Qf (Qu (SP.get z4 (i := 4) rfl)) z7 e1 e2) k1 (j := 0) rfl) ?_
      exact eK hkn
    ·exact oV (hC (hA 4 51) (hC (hA 6 53) (h0))) (.int .u32 (V8 .u32 a5 a6))
    ·refine Owe.light K [0, 1] K (Qd ?_ (Qd ?_ Q3))
     ·rintro ρ' w' hs hah ⟨am8, z8⟩
      refine kM (kc (kS hs 7 (pt c 0)) k0) fun hkn => ?_
      refine Qh (e := (Qc .u32)) (l := f) (m := 8) (g := c) (T := 128) (E := 111) (x := (.tmp 7)) (ix := (.const (.int .i64 (0)))) (ki := .i64) (iz := 0) (i := 4) (d := (some 55)) (k := 8) K rfl K K K K z8 rfl e3 e4 ?_
      exact ⟨rfl, _, Qa hkn, ⟨c, 0, rfl, rfl⟩⟩
     ·rintro ρ' w' hs hah ⟨⟨am9, -⟩, z9⟩
      refine kM (kc (kS hs 7 (pt c 0)) k0) fun hkn => ?_
      refine Qh (e := (Qc .u32)) (l := f) (m := 8) (g := c) (T := 128) (E := 111) (x := (.tmp 7)) (ix := (.const (.int .i64 (0)))) (ki := .i64) (iz := 0) (i := 4) (d := (some 55)) (k := 8) K rfl K K K K z9 rfl e3 e4 ?_
      exact ⟨rfl, _, Qa hkn, ⟨c, 0, rfl, rfl⟩⟩
    ·refine Owe.light K [0, 1] K (Qd ?_ (Qd ?_ Q3))
     ·rintro ρ' w' hs hah ⟨an0, aa0⟩
      obtain ⟨aa1, aa2, aa3, h5⟩ := hah 8 55 K
      refine kM (kc h5 k0) fun hkn => ?_
      refine sC 111 55 aa1 (aa2 + Int.toNat 0 * (Qc .u32).sz) (.int .u32 a7) 56 (Qi (e := (Qc .u32)) (Qf (Qu (SP.get aa0 (i := 4) rfl)) aa3 e3 e4) k2 (j := 0) rfl) ?_
      exact eK hkn
     ·rintro ρ' w' hs hah ⟨⟨an1, -⟩, aa4⟩
      obtain ⟨aa5, aa6, aa7, h5⟩ := hah 8 55 K
      refine kM (kc h5 k0) fun hkn => ?_
      refine sC 111 55 aa5 (aa6 + Int.toNat 0 * (Qc .u32).sz) (.int .u32 a7) 56 (Qi (e := (Qc .u32)) (Qf (Qu (SP.get aa4 (i := 4) rfl)) aa7 e3 e4) k2 (j := 0) rfl) ?_
      exact eK hkn
    ·refine Owe.light K [0, 1] K (Qd ?_ (Qd ?_ Q3))
     ·rintro ρ' w' hs hah ⟨an2, aa8⟩
      refine kM (kc (kS hs 7 (pt c 0)) k0) fun hkn => ?_
      refine Qh (e := (Qc .u32)) (l := f) (m := 8) (g := c) (T := 128) (E := 111) (x := (.tmp 7)) (ix := (.const (.int .i64 (2)))) (ki := .i64) (iz := 2) (i := 4) (d := (some 57)) (k := 10) K rfl K K K K aa8 rfl e5 e6 ?_
      exact ⟨rfl, _, Qa hkn, ⟨c, 0, rfl, rfl⟩⟩
     ·rintro ρ' w' hs hah ⟨⟨an3, -⟩, aa9⟩
      refine kM (kc (kS hs 7 (pt c 0)) k0) fun hkn => ?_
      refine Qh (e := (Qc .u32)) (l := f) (m := 8) (g := c) (T := 128) (E := 111) (x := (.tmp 7)) (ix := (.const (.int .i64 (2)))) (ki := .i64) (iz := 2) (i := 4) (d := (some 57)) (k := 10) K rfl K K K K aa9 rfl e5 e6 ?_
      exact ⟨rfl, _, Qa hkn, ⟨c, 0, rfl, rfl⟩⟩
    ·refine Owe.light K [0, 1] K (Qd ?_ (Qd ?_ Q3))
     ·rintro ρ' w' hs hah ⟨an4, ab0⟩
      obtain ⟨ab1, ab2, ab3, h6⟩ := hah 10 57 K
      refine kM (kc h6 k0) fun hkn => ?_
      refine sC 111 57 ab1 (ab2 + Int.toNat 2 * (Qc .u32).sz) (.int .u32 a8) 58 (Qi (e := (Qc .u32)) (Qf (Qu (SP.get ab0 (i := 4) rfl)) ab3 e5 e6) k3 (j := 0) rfl) ?_
      exact eK hkn
     ·rintro ρ' w' hs hah ⟨⟨an5, -⟩, ab4⟩
      obtain ⟨ab5, ab6, ab7, h6⟩ := hah 10 57 K
      refine kM (kc h6 k0) fun hkn => ?_
      refine sC 111 57 ab5 (ab6 + Int.toNat 2 * (Qc .u32).sz) (.int .u32 a8) 58 (Qi (e := (Qc .u32)) (Qf (Qu (SP.get ab4 (i := 4) rfl)) ab7 e5 e6) k3 (j := 0) rfl) ?_
      exact eK hkn
    ·exact oV (hC (hA 9 56) (hC (hA 11 58) (h0))) (.int .u32 (V8 .u32 a7 a8))
    ·exact oV (hC (hA 7 54) (hC (hA 12 59) (h0))) (.int .u32 (Vt .u32 (V8 .u32 a5 a6) (V8 .u32 a7 a8)))
    ·refine Owe.light K [0, 1] K (Qd ?_ (Qd ?_ Q3))
     ·rintro ρ' w' hs hah ⟨an6, ab8⟩
      refine kM (kc (kS hs 7 (pt c 0)) k0) fun hkn => ?_
      refine Qh (e := (Qc .u32)) (l := f) (m := 8) (g := c) (T := 128) (E := 111) (x := (.tmp 7)) (ix := (.const (.int .i64 (1)))) (ki := .i64) (iz := 1) (i := 4) (d := (some 61)) (k := 14) K rfl K K K K ab8 rfl e7 e8 ?_
      exact ⟨rfl, _, Qa hkn, ⟨c, 0, rfl, rfl⟩⟩
     ·rintro ρ' w' hs hah ⟨⟨an7, -⟩, ab9⟩
      refine kM (kc (kS hs 7 (pt c 0)) k0) fun hkn => ?_
      refine Qh (e := (Qc .u32)) (l := f) (m := 8) (g := c) (T := 128) (E := 111) (x := (.tmp 7)) (ix := (.const (.int .i64 (1)))) (ki := .i64) (iz := 1) (i := 4) (d := (some 61)) (k := 14) K rfl K K K K ab9 rfl e7 e8 ?_
      exact ⟨rfl, _, Qa hkn, ⟨c, 0, rfl, rfl⟩⟩
    ·refine Owe.light K [0, 1] K (Qd ?_ (Qd ?_ Q3))
     ·rintro ρ' w' hs hah ⟨an8, ac0⟩
      obtain ⟨ac1, ac2, ac3, h7⟩ := hah 14 61 K
      refine kM (kc h7 k0) fun hkn => ?_
      refine sC 111 61 ac1 (ac2 + Int.toNat 1 * (Qc .u32).sz) (.int .u32 a9) 62 (Qi (e := (Qc .u32)) (Qf (Qu (SP.get ac0 (i := 4) rfl)) ac3 e7 e8) k4 (j := 0) rfl) ?_
      exact eK hkn
     ·rintro ρ' w' hs hah ⟨⟨an9, -⟩, ac4⟩
      obtain ⟨ac5, ac6, ac7, h7⟩ := hah 14 61 K
      refine kM (kc h7 k0) fun hkn => ?_
      refine sC 111 61 ac5 (ac6 + Int.toNat 1 * (Qc .u32).sz) (.int .u32 a9) 62 (Qi (e := (Qc .u32)) (Qf (Qu (SP.get ac4 (i := 4) rfl)) ac7 e7 e8) k4 (j := 0) rfl) ?_
      exact eK hkn
    ·refine Owe.light K [0, 1] K (Qd ?_ (Qd ?_ Q3))
     ·rintro ρ' w' hs hah ⟨ao0, ac8⟩
      refine kM (kc (kS hs 7 (pt c 0)) k0) fun hkn => ?_
      refine Qh (e := (Qc .u32)) (l := f) (m := 8) (g := c) (T := 128) (E := 111) (x := (.tmp 7)) (ix := (.const (.int .i64 (2)))) (ki := .i64) (iz := 2) (i := 4) (d := (some 63)) (k := 16) K rfl K K K K ac8 rfl e9 f0 ?_
      exact ⟨rfl, _, Qa hkn, ⟨c, 0, rfl, rfl⟩⟩
     ·rintro ρ' w' hs hah ⟨⟨ao1, -⟩, ac9⟩
      refine kM (kc (kS hs 7 (pt c 0)) k0) fun hkn => ?_
      refine Qh (e := (Qc .u32)) (l := f) (m := 8) (g := c) (T := 128) (E := 111) (x := (.tmp 7)) (ix := (.const (.int .i64 (2)))) (ki := .i64) (iz := 2) (i := 4) (d := (some 63)) (k := 16) K rfl K K K K ac9 rfl e9 f0 ?_
      exact ⟨rfl, _, Qa hkn, ⟨c, 0, rfl, rfl⟩⟩
    ·refine Owe.light K [0, 1] K (Qd ?_ (Qd ?_ Q3))
     ·rintro ρ' w' hs hah ⟨ao2, ad0⟩
      obtain ⟨ad1, ad2, ad3, h8⟩ := hah 16 63 K
      refine kM (kc h8 k0) fun hkn => ?_
      refine sC 111 63 ad1 (ad2 + Int.toNat 2 * (Qc .u32).sz) (.int .u32 b0) 64 (Qi (e := (Qc .u32)) (Qf (Qu (SP.get ad0 (i := 4) rfl)) ad3 e9 f0) k5 (j := 0) rfl) ?_
      exact eK hkn
     ·rintro ρ' w' hs hah ⟨⟨ao3, -⟩, ad4⟩
      obtain ⟨ad5, ad6, ad7, h8⟩ := hah 16 63 K
      refine kM (kc h8 k0) fun hkn => ?_
      refine sC 111 63 ad5 (ad6 + Int.toNat 2 * (Qc .u32).sz) (.int .u32 b0) 64 (Qi (e := (Qc .u32)) (Qf (Qu (SP.get ad4 (i := 4) rfl)) ad7 e9 f0) k5 (j := 0) rfl) ?_
      exact eK hkn
    ·exact oV (hC (hA 15 62) (hC (hA 17 64) (h0))) (.int .u32 (V8 .u32 a9 b0))
    ·exact oV (hC (hA 13 60) (hC (hA 18 65) (h0))) (.int .u32 (Vt .u32 (Vt .u32 (V8 .u32 a5 a6) (V8 .u32 a7 a8)) (V8 .u32 a9 b0)))
    ·exact oV (hC (hA 2 49) (hC (hA 19 66) (h0))) (.int .u32 (IntKind.wrap .u32 (b8 + (Vt .u32 (Vt .u32 (V8 .u32 a5 a6) (V8 .u32 a7 a8)) (V8 .u32 a9 b0)))))
    ·exact oV (hC (hA 20 67) (h0)) (.int .u32 (IntKind.wrap .u32 (b8 + (Vt .u32 (Vt .u32 (V8 .u32 a5 a6) (V8 .u32 a7 a8)) (V8 .u32 a9 b0)))))
    ·rintro ρ' w' hs hf ⟨⟨ao4, -⟩, b1⟩
     refine Vj [(2, (pt g7 0)), (4, (pt b4 0)), (5, (pt b2 0)), (6, (pt b3 0)), (7, (pt c 0)), (8, (.int .i64 p)), (9, (.int .u32 (IntKind.wrap .u32 ((IntKind.wrap .u32 ((IntKind.wrap .u32 ((IntKind.wrap .u32 (a1 + a2)) + (Vt .u32 (V8 .u32 s u) (V8 .u32 (Vt .u32 (IntKind.max .u32) q) a0)))) + a3)) + a4)))), (10, (.int .u32 (IntKind.wrap .u32 (b8 + (Vt .u32 (Vt .u32 (V8 .u32 a5 a6) (V8 .u32 a7 a8)) (V8 .u32 a9 b0))))))] ⟨(hs 2 K).trans K, (hs 4 K).trans K, (hs 5 K).trans K, (hs 6 K).trans K, (hs 7 K).trans K, (hs 8 K).trans K, (hs 9 K).trans K, hf 21 10 K, trivial⟩ ?_
     obtain ⟨ao5, ad8⟩ : ∃ x, w' = x := ⟨_, rfl⟩
     rw [ad8] at b1 ⊢
     refine aR ?_
     refine iR 3 3 [(68, (.int .u32 (IntKind.wrap .u32 ((IntKind.wrap .u32 ((IntKind.wrap .u32 ((IntKind.wrap .u32 (a1 + a2)) + (Vt .u32 (V8 .u32 s u) (V8 .u32 (Vt .u32 (IntKind.max .u32) q) a0)))) + a3)) + a4)))), (69, (.int .u32 (IntKind.wrap .u32 (b8 + (Vt .u32 (Vt .u32 (V8 .u32 a5 a6) (V8 .u32 a7 a8)) (V8 .u32 a9 b0)))))), (70, (.int .u32 (IntKind.wrap .u32 ((IntKind.wrap .u32 ((IntKind.wrap .u32 ((IntKind.wrap .u32 ((IntKind.wrap .u32 (a1 + a2)) + (Vt .u32 (V8 .u32 s u) (V8 .u32 (Vt .u32 (IntKind.max .u32) q) a0)))) + a3)) + a4)) + (IntKind.wrap .u32 (b8 + (Vt .u32 (Vt .u32 (V8 .u32 a5 a6) (V8 .u32 a7 a8)) (V8 .u32 a9 b0))))))))] ?_
     obtain ⟨f1, k7, k8, ad9, H⟩ := Qn H
     refine iS 4 ?_
     refine Qh (e := (Qc .u32)) (l := f) (m := 8) (g := c) (T := 128) (E := 111) (x := (.tmp 7)) (ix := (.const (.int .i64 (0)))) (ki := .i64) (iz := 0) (i := 4) (d := (some 71)) (k := 3) K rfl K K K K b1 rfl k7 k8 ?_
     refine iS 5 ?_
     refine sC 111 71 c (0 + Int.toNat 0 * (Qc .u32).sz) (.int .u32 f1) 72 (Qi (e := (Qc .u32)) (Qf (Qu (SP.get b1 (i := 4) rfl)) rfl k7 k8) ad9 (j := 0) rfl) ?_
     obtain ⟨f2, k9, l0, ae0, H⟩ := Qn H
     refine iS 6 ?_
     refine Qh (e := (Qc .u32)) (l := f) (m := 8) (g := c) (T := 128) (E := 111) (x := (.tmp 7)) (ix := (.const (.int .i64 (1)))) (ki := .i64) (iz := 1) (i := 4) (d := (some 73)) (k := 5) K rfl K K K K b1 rfl k9 l0 ?_
     refine iS 7 ?_
     refine sC 111 73 c (0 + Int.toNat 1 * (Qc .u32).sz) (.int .u32 f2) 74 (Qi (e := (Qc .u32)) (Qf (Qu (SP.get b1 (i := 4) rfl)) rfl k9 l0) ae0 (j := 0) rfl) ?_
     obtain ⟨f3, l1, l2, ae1, H⟩ := Qn H
     refine iS 8 ?_
     refine Qh (e := (Qc .u32)) (l := f) (m := 8) (g := c) (T := 128) (E := 111) (x := (.tmp 7)) (ix := (.const (.int .i64 (2)))) (ki := .i64) (iz := 2) (i := 4) (d := (some 75)) (k := 7) K rfl K K K K b1 rfl l1 l2 ?_
     refine iS 9 ?_
     refine sC 111 75 c (0 + Int.toNat 2 * (Qc .u32).sz) (.int .u32 f3) 76 (Qi (e := (Qc .u32)) (Qf (Qu (SP.get b1 (i := 4) rfl)) rfl l1 l2) ae1 (j := 0) rfl) ?_
     obtain ⟨c3, l3, l4, ae2, H⟩ := Qn H
     refine iS 10 ?_
     refine Qh (e := (Qc .u32)) (l := f) (m := 8) (g := c) (T := 128) (E := 111) (x := (.tmp 7)) (ix := (.const (.int .i64 (3)))) (ki := .i64) (iz := 3) (i := 4) (d := (some 77)) (k := 9) K rfl K K K K b1 rfl l3 l4 ?_
     refine iS 11 ?_
     refine sC 111 77 c (0 + Int.toNat 3 * (Qc .u32).sz) (.int .u32 c3) 78 (Qi (e := (Qc .u32)) (Qf (Qu (SP.get b1 (i := 4) rfl)) rfl l3 l4) ae2 (j := 0) rfl) ?_
     refine iR 2 13 [(79, (.int .u32 (IntKind.wrap .u32 ((IntKind.wrap .u32 ((IntKind.wrap .u32 ((IntKind.wrap .u32 (a1 + a2)) + (Vt .u32 (V8 .u32 s u) (V8 .u32 (Vt .u32 (IntKind.max .u32) q) a0)))) + a3)) + a4)))), (80, (.int .u32 (IntKind.wrap .u32 (c3 + (IntKind.wrap .u32 ((IntKind.wrap .u32 ((IntKind.wrap .u32 ((IntKind.wrap .u32 (a1 + a2)) + (Vt .u32 (V8 .u32 s u) (V8 .u32 (Vt .u32 (IntKind.max .u32) q) a0)))) + a3)) + a4))))))] ?_
     obtain ⟨f6, l5, l6, ae3, H⟩ := Qn H
     refine iS 14 ?_
     refine Qh (e := (Qc .u32)) (l := f) (m := 8) (g := c) (T := 128) (E := 111) (x := (.tmp 7)) (ix := (.const (.int .i64 (4)))) (ki := .i64) (iz := 4) (i := 4) (d := (some 81)) (k := 13) K rfl K K K K b1 rfl l5 l6 ?_
     refine iS 15 ?_
     refine sC 111 81 c (0 + Int.toNat 4 * (Qc .u32).sz) (.int .u32 f6) 82 (Qi (e := (Qc .u32)) (Qf (Qu (SP.get b1 (i := 4) rfl)) rfl l5 l6) ae3 (j := 0) rfl) ?_
     obtain ⟨f7, l7, l8, ae4, H⟩ := Qn H
     refine iS 16 ?_
     refine Qh (e := (Qc .u32)) (l := f) (m := 8) (g := c) (T := 128) (E := 111) (x := (.tmp 7)) (ix := (.const (.int .i64 (5)))) (ki := .i64) (iz := 5) (i := 4) (d := (some 83)) (k := 15) K rfl K K K K b1 rfl l7 l8 ?_
     refine iS 17 ?_
     refine sC 111 83 c (0 + Int.toNat 5 * (Qc .u32).sz) (.int .u32 f7) 84 (Qi (e := (Qc .u32)) (Qf (Qu (SP.get b1 (i := 4) rfl)) rfl l7 l8) ae4 (j := 0) rfl) ?_
     obtain ⟨f8, l9, m0, ae5, H⟩ := Qn H
     refine iS 18 ?_
     refine Qh (e := (Qc .u32)) (l := f) (m := 8) (g := c) (T := 128) (E := 111) (x := (.tmp 7)) (ix := (.const (.int .i64 (6)))) (ki := .i64) (iz := 6) (i := 4) (d := (some 85)) (k := 17) K rfl K K K K b1 rfl l9 m0 ?_
     refine iS 19 ?_
     refine sC 111 85 c (0 + Int.toNat 6 * (Qc .u32).sz) (.int .u32 f8) 86 (Qi (e := (Qc .u32)) (Qf (Qu (SP.get b1 (i := 4) rfl)) rfl l9 m0) ae5 (j := 0) rfl) ?_
     refine iR 1 20 [(87, (.agg (Qb (Qc .u32) ([(IntKind.wrap .u32 ((IntKind.wrap .u32 ((IntKind.wrap .u32 ((IntKind.wrap .u32 ((IntKind.wrap .u32 (a1 + a2)) + (Vt .u32 (V8 .u32 s u) (V8 .u32 (Vt .u32 (IntKind.max .u32) q) a0)))) + a3)) + a4)) + (IntKind.wrap .u32 (b8 + (Vt .u32 (Vt .u32 (V8 .u32 a5 a6) (V8 .u32 a7 a8)) (V8 .u32 a9 b0)))))), f1, f2, f3, (IntKind.wrap .u32 (c3 + (IntKind.wrap .u32 ((IntKind.wrap .u32 ((IntKind.wrap .u32 ((IntKind.wrap .u32 (a1 + a2)) + (Vt .u32 (V8 .u32 s u) (V8 .u32 (Vt .u32 (IntKind.max .u32) q) a0)))) + a3)) + a4)))), f6, f7, f8] : List Int)).toArray))] ?_
     refine iS 21 ?_
     refine Q8 (e := (Qc .u32)) (l := f) (l' := ([(IntKind.wrap .u32 ((IntKind.wrap .u32 ((IntKind.wrap .u32 ((IntKind.wrap .u32 ((IntKind.wrap .u32 (a1 + a2)) + (Vt .u32 (V8 .u32 s u) (V8 .u32 (Vt .u32 (IntKind.max .u32) q) a0)))) + a3)) + a4)) + (IntKind.wrap .u32 (b8 + (Vt .u32 (Vt .u32 (V8 .u32 a5 a6) (V8 .u32 a7 a8)) (V8 .u32 a9 b0)))))), f1, f2, f3, (IntKind.wrap .u32 (c3 + (IntKind.wrap .u32 ((IntKind.wrap .u32 ((IntKind.wrap .u32 ((IntKind.wrap .u32 (a1 + a2)) + (Vt .u32 (V8 .u32 s u) (V8 .u32 (Vt .u32 (IntKind.max .u32) q) a0)))) + a3)) + a4)))), f6, f7, f8] : List Int)) (m := 8) (t := 128) (x := (.tmp 7)) (y := (.tmp 87)) (g := c) (i := 4) (d := none) (k := 20) K rfl K K rfl b1 rfl K ?_
     intro ao6 ae6
     refine iF ?_
     refine aR ?_
     refine iR 3 3 [(18, (.int .i64 p)), (19, (.int .i64 (IntKind.wrap .i64 (p + 1)))), (8, (.int .i64 (IntKind.wrap .i64 (p + 1))))] ?_
     refine iF ?_
     exact ⟨([(IntKind.wrap .u32 ((IntKind.wrap .u32 ((IntKind.wrap .u32 ((IntKind.wrap .u32 ((IntKind.wrap .u32 (a1 + a2)) + (Vt .u32 (V8 .u32 s u) (V8 .u32 (Vt .u32 (IntKind.max .u32) q) a0)))) + a3)) + a4)) + (IntKind.wrap .u32 (b8 + (Vt .u32 (Vt .u32 (V8 .u32 a5 a6) (V8 .u32 a7 a8)) (V8 .u32 a9 b0)))))), f1, f2, f3, (IntKind.wrap .u32 (c3 + (IntKind.wrap .u32 ((IntKind.wrap .u32 ((IntKind.wrap .u32 ((IntKind.wrap .u32 (a1 + a2)) + (Vt .u32 (V8 .u32 s u) (V8 .u32 (Vt .u32 (IntKind.max .u32) q) a0)))) + a3)) + a4)))), f6, f7, f8] : List Int), (IntKind.wrap .i64 (p + 1)), ⟨K, K, K, K, K, K, trivial⟩, SP.sel ae6 [0, 1, 2, 3, 4] rfl rfl, H⟩
  ·have H := cf H g1
   refine At.exit K (id := 0) K ?_
   refine aQ ?_
   refine aQ ?_
   refine aR ?_
   refine iR 1 1 [(11, (.int .i64 0))] ?_
   refine iF ?_
   refine Z4 K (id := 2) K ?_
   refine Ur K (fun f5 ρ w => ∃ (b5 : (List Int)) (h : Int), Zg ρ [(2, (pt g7 0)), (4, (pt b4 0)), (7, (pt c 0)), (11, (.int .i64 h))] ∧ SP [] w0 w [Vb 128 (Qc .u32) g7 8 b5, Vb 128 (Qc .u32) b4 8 (List.replicate 8 0), Vb 128 (Qc .u32) c 8 f] ∧ X5 (Vq p1 b6 b7 f4) f f5 b5 h = some r) (by rintro ρ w ⟨b5, h, hk, hs, H⟩; cases H) ?_ Zd ?_
   ·rintro f5 ρ ao7 ⟨b5, h, hk, c0, H⟩
    refine At.known [(2, (pt g7 0)), (4, (pt b4 0)), (7, (pt c 0)), (11, (.int .i64 h))] hk ?_
    replace H := (show Um (Vq p1 b6 b7 f4) (X5 (Vq p1 b6 b7 f4) f f5) f b5 h = some r from H)
    unfold Um at H
    have ae7 := Q5 (SP.get c0 (i := 0) rfl)
    have ao8 := Q5 (SP.get c0 (i := 1) rfl)
    have ao9 := Q5 (SP.get c0 (i := 2) rfl)
    refine aQ ?_
    refine aQ ?_
    refine aR ?_
    refine iR 2 2 [(88, (.int .i64 h)), (89, (.bool (decide (h < 8))))] ?_
    refine iF ?_
    refine Zs K (o := (.tmp 89)) K (b := (decide (h < 8))) K (fun h9 => ?_) (fun h9 => ?_)
    ·have H := ct H h9
     refine At.skip K ?_
     refine aQ ?_
     refine Z4 K (id := 3) K ?_
     obtain ⟨c1, m1, m2, ae8, H⟩ := Qn H
     obtain ⟨c2, m3, m4, ae9, H⟩ := Qn H
     obtain ⟨ap0, m5, m6, ap1, H⟩ := Qn H
     obtain ⟨i0, hyl2347, H⟩ := V2 H
     have hnl2347 : List.length i0 = List.length b5 := by rw [← hyl2347, List.length_set]
     refine aG [GEq (.int .i64 h), GEq (.int .i64 h), Vv (some ⟨g7, 0, none⟩) (Qc .u32).sz h, GEq (.int .u32 c1), GEq (.int .i64 h), Vv (some ⟨c, 0, none⟩) (Qc .u32).sz h, GEq (.int .u32 c2), GEq (.int .u32 (IntKind.wrap .u32 (c1 + c2))), Vv (some ⟨g7, 0, none⟩) (Qc .u32).sz h, Ch] [9] [sG [] [] [] w0 [Vb 128 (Qc .u32) g7 8 b5, Vb 128 (Qc .u32) b4 8 (List.replicate 8 0), Vb 128 (Qc .u32) c 8 f], sG [9] [undef] [] w0 [Vb 128 (Qc .u32) g7 8 i0, Vb 128 (Qc .u32) b4 8 (List.replicate 8 0), Vb 128 (Qc .u32) c 8 f]] 10 1 ⟨trivial, SP.drew c0⟩ ?_ ?_
     iterate 10 refine And.intro ?_ ?_
     exact trivial
     ·exact oV (hC (hS 11 (.int .i64 h)) (h0)) (.int .i64 h)
     ·exact oV (hC (hS 11 (.int .i64 h)) (h0)) (.int .i64 h)
     ·refine oL 0 ?_
      ·rintro ρ' w' hs hah ⟨ap2, af0⟩
       refine kM (kc (kS hs 2 (pt g7 0)) (kc (kA hah 1 93) k0)) fun hkn => ?_
       refine Qh (e := (Qc .u32)) (l := b5) (m := 8) (g := g7) (T := 128) (E := 111) (x := (.tmp 2)) (ix := (.tmp 93)) (ki := .i64) (iz := h) (i := 0) (d := (some 94)) (k := 2) K rfl K K K K af0 rfl m1 m2 ?_
       exact ⟨rfl, _, Qa hkn, ⟨g7, 0, rfl, rfl⟩⟩
     ·refine oL 0 ?_
      ·rintro ρ' w' hs hah ⟨ap3, af1⟩
       obtain ⟨af2, af3, af4, e94⟩ := hah 2 94 K
       refine kM (kc e94 k0) fun hkn => ?_
       refine sC 111 94 af2 (af3 + Int.toNat h * (Qc .u32).sz) (.int .u32 c1) 95 (Qi (e := (Qc .u32)) (Qf (Qu (SP.get af1 (i := 0) rfl)) af4 m1 m2) ae8 (j := 0) rfl) ?_
       exact eK hkn
     ·exact oV (hC (hS 11 (.int .i64 h)) (h0)) (.int .i64 h)
     ·refine oL 0 ?_
      ·rintro ρ' w' hs hah ⟨ap4, af6⟩
       refine kM (kc (kS hs 7 (pt c 0)) (kc (kA hah 4 96) k0)) fun hkn => ?_
       refine Qh (e := (Qc .u32)) (l := f) (m := 8) (g := c) (T := 128) (E := 111) (x := (.tmp 7)) (ix := (.tmp 96)) (ki := .i64) (iz := h) (i := 2) (d := (some 97)) (k := 5) K rfl K K K K af6 rfl m3 m4 ?_
       exact ⟨rfl, _, Qa hkn, ⟨c, 0, rfl, rfl⟩⟩
     ·refine oL 0 ?_
      ·rintro ρ' w' hs hah ⟨ap5, af7⟩
       obtain ⟨af8, af9, ag0, e97⟩ := hah 5 97 K
       refine kM (kc e97 k0) fun hkn => ?_
       refine sC 111 97 af8 (af9 + Int.toNat h * (Qc .u32).sz) (.int .u32 c2) 98 (Qi (e := (Qc .u32)) (Qf (Qu (SP.get af7 (i := 2) rfl)) ag0 m3 m4) ae9 (j := 0) rfl) ?_
       exact eK hkn
     ·exact oV (hC (hA 3 95) (hC (hA 6 98) (h0))) (.int .u32 (IntKind.wrap .u32 (c1 + c2)))
     ·refine oL 0 ?_
      ·rintro ρ' w' hs hah ⟨ap6, ag2⟩
       refine kM (kc (kS hs 2 (pt g7 0)) (kc (kA hah 0 92) k0)) fun hkn => ?_
       refine Qh (e := (Qc .u32)) (l := b5) (m := 8) (g := g7) (T := 128) (E := 111) (x := (.tmp 2)) (ix := (.tmp 92)) (ki := .i64) (iz := h) (i := 0) (d := (some 100)) (k := 8) K rfl K K K K ag2 rfl m5 m6 ?_
       exact ⟨rfl, _, Qa hkn, ⟨g7, 0, rfl, rfl⟩⟩
     ·refine oH 0 1 ?_
      ·rintro ρ' w' hs hah ⟨ap7, ag3⟩
       obtain ⟨ag4, ag5, ag6, ag7⟩ := hah 8 100 K
       refine kM (kc ag7 (kc (kA hah 7 99) k0)) fun hkn => ?_
       refine Zh (e := (Qc .u32)) (t := 111) (x := (.tmp 100)) (y := (.tmp 99)) (l := b5) (iz := h) (m := 8) (g := g7) (b := ag4) (off := ag5) (i := 0) (v := (.int .u32 (IntKind.wrap .u32 (c1 + c2)))) (x' := (IntKind.wrap .u32 (c1 + c2))) (d := none) (k := 9) K rfl ag6 K K ag3 rfl rfl m6 m5 rfl K ?_
       rw [hyl2347]
       intro ap8 ag8
       refine ⟨_, Qa hkn, trivial, ?_⟩
       exact (And.intro (And.intro rfl (trivial)) (ag8))
     ·rintro ρ' w' hs hf ⟨⟨ap9, -⟩, m7⟩
      refine Vj [(2, (pt g7 0)), (4, (pt b4 0)), (7, (pt c 0)), (11, (.int .i64 h))] ⟨(hs 2 K).trans K, (hs 4 K).trans K, (hs 7 K).trans K, (hs 11 K).trans K, trivial⟩ ?_
      obtain ⟨aq0, ag9⟩ : ∃ x, w' = x := ⟨_, rfl⟩
      rw [ag9] at m7 ⊢
      refine aR ?_
      refine iR 3 3 [(90, (.int .i64 h)), (91, (.int .i64 (IntKind.wrap .i64 (h + 1)))), (11, (.int .i64 (IntKind.wrap .i64 (h + 1))))] ?_
      refine iF ?_
      exact ⟨i0, (IntKind.wrap .i64 (h + 1)), ⟨K, K, K, K, trivial⟩, SP.sel m7 [0, 1, 2] rfl rfl, H⟩
    ·have H := cf H h9
     refine At.exit K (id := 2) K ?_
     refine aQ ?_
     refine aR ?_
     refine iS 1 ?_
     refine V9 (e := (Qc .u32)) (l := b5) (m := 8) (t := 128) (x := (.tmp 2)) (g := g7) (i := 0) (d := (some 101)) (k := 0) K rfl K c0 rfl K K ?_
     refine iS 2 ?_
     refine Q8 (e := (Qc .u32)) (l := (List.replicate 8 0)) (l' := b5) (m := 8) (t := 128) (x := (.tmp 4)) (y := (.tmp 101)) (g := b4) (i := 1) (d := none) (k := 1) K rfl K K ae7 c0 rfl K ?_
     intro aq1 m8
     refine iF ?_
     refine At.ret K ?_
     refine ⟨(.agg (Qb (Qc .u32) b5).toArray), Bz K (U0 (e := (Qc .u32)) (l := b5) (a := 4) (t := 128) K (SP.get m8 (i := 1) rfl) K K), ?_⟩
     obtain rfl := Qm H
     exact ⟨rfl, SP.sel m8 [] rfl rfl⟩
   ·exact ⟨p1, 0, ⟨K, K, K, K, trivial⟩, SP.sel b9 [0, 1, 4] rfl rfl, H⟩
 ·exact ⟨p1, 0, ⟨K, K, K, K, K, K, trivial⟩, SP.sel o2 [0, 1, 2, 3, 4] rfl rfl, H⟩
def Z8 (g : (List UInt8) → Option ((List UInt8))) (h : (List UInt8) → Int → Option ((List UInt8))) (i : (List Int) → Int → Option ((List UInt8))) (c : (List UInt8) → Int → Option ((List UInt8))) (d : (List Int)) (b : (List UInt8)) (a : Int) : Option ((List UInt8)) :=
  (cond (decide (a < 32)) ((idx d (IntKind.wrap .i64 (Int.tdiv a 4))).bind fun e => ((chk (decide (0 ≤ (IntKind.wrap .i64 (24 - (IntKind.wrap .i64 (8 * (Int.tmod a 4)))))))).bind fun _ => ((idx b a).bind fun j => ((some (List.set b (Int.toNat a) (G3 (IntKind.wrap .u8 (Ud .u32 e (IntKind.wrap .i64 (24 - (IntKind.wrap .i64 (8 * (Int.tmod a 4)))))))))).bind fun f => (c f (IntKind.wrap .i64 (a + 1))))))) (some (b)))
def Z9 (a : (List UInt8) → Option ((List UInt8))) (b : (List UInt8) → Int → Option ((List UInt8))) (c : (List Int) → Int → Option ((List UInt8))) (d : (List Int)) : Nat → (List UInt8) → Int → Option ((List UInt8))
  | 0, _, _ => none
  | f + 1, e, g => Z8 a b c (Z9 a b c d f) d e g
def Xa (f : (List UInt8) → Option ((List UInt8))) (g : (List UInt8) → Int → Option ((List UInt8))) (b : (List Int) → Int → Option ((List UInt8))) (c : (List UInt8)) (d : (List Int)) (a : Int) : Option ((List UInt8)) :=
  (cond (decide (a < ((List.length c : Nat) : Int))) ((sub c a (IntKind.wrap .i64 (a + 64))).bind fun h => ((Y8 d h).bind fun e => ((chk (Nat.beq (List.length e) 8)).bind fun _ => (b e (IntKind.wrap .i64 (a + 64)))))) (Z9 f g b d Zd (List.replicate 32 (0 : UInt8)) 0))
def Vn (a : (List UInt8) → Option ((List UInt8))) (b : (List UInt8) → Int → Option ((List UInt8))) (c : (List UInt8)) : Nat → (List Int) → Int → Option ((List UInt8))
  | 0, _, _ => none
  | f + 1, d, e => Xa a b (Vn a b c f) c d e
def Xb (d : (List UInt8) → Option ((List UInt8))) (b : (List UInt8) → Int → Option ((List UInt8))) (p1 : (List UInt8)) (c : (List UInt8)) (a : Int) : Option ((List UInt8)) :=
  (cond (decide (a ≥ 0)) ((chk (decide (0 ≤ (IntKind.wrap .i64 (8 * a))))).bind fun _ => ((app c ([(G3 (IntKind.wrap .u8 (Ud .i64 (IntKind.wrap .i64 (8 * ((List.length p1 : Nat) : Int))) (IntKind.wrap .i64 (8 * a)))))] : List UInt8)).bind fun e => (b e (IntKind.wrap .i64 (a - 1))))) (Vn d b c Zd ([1779033703, 3144134277, 1013904242, 2773480762, 1359893119, 2600822924, 528734635, 1541459225] : List Int) 0))
def Qx (a : (List UInt8) → Option ((List UInt8))) (p1 : (List UInt8)) : Nat → (List UInt8) → Int → Option ((List UInt8))
  | 0, _, _ => none
  | f + 1, b, c => Xb a (Qx a p1 f) p1 b c
def Xc (b : (List UInt8) → Option ((List UInt8))) (p1 : (List UInt8)) (a : (List UInt8)) : Option ((List UInt8)) :=
  (cond ((Int.tmod ((List.length a : Nat) : Int) 64) != 56) ((app a ([(0 : UInt8)] : List UInt8)).bind fun c => (b c)) (Qx b p1 Zd a 7))
def Qo (p1 : (List UInt8)) : Nat → (List UInt8) → Option ((List UInt8))
  | 0, _ => none
  | f + 1, a => Xc  (Qo p1 f) p1 a
def Yc (p1 : (List UInt8)) : Option ((List UInt8)) :=
  ((app ([] : List UInt8) p1).bind fun a => ((app a ([(128 : UInt8)] : List UInt8)).bind fun b => (Qo p1 Zd b)))
set_option maxRecDepth 100000 in
set_option maxHeartbeats 4000000 in
theorem Un (A2 : Option Addr) (c3 : Nat) (p1 : (List UInt8)) (w0 : World) (f3 : RdT eU8 w0 A2 c3 p1) (r : ((List UInt8))) (H : Yc p1 = some r) :
  Calls Tryz.prog 72 #[(.slice A2 (List.length p1) c3)] w0 (fun e w' => e = .returned (.agg (Qb eU8 r).toArray) ∧ SP [] w0 w' []) := by
 unfold Yc at H
 refine Qv (n := 68) Tryz.func72 K K K ?_
 have f4 := Q1 [] w0
 refine aQ ?_
 refine aR ?_
 refine iS 1 ?_
 refine Qz (e := eU8) (l := (List.replicate 32 (0 : UInt8))) (m := 32) (t := 89) (z := .agg (Qb eU8 (List.replicate 32 (0 : UInt8))).toArray) (d := (some 2)) (k := 0) K rfl K rfl rfl K f4 ?_
 intro g5 w6 f5
 refine iF ?_
 refine aQ ?_
 refine aR ?_
 refine iS 1 ?_
 refine V6 (e := eU8) (T := 52) (E := 5) (len := 0) (parts := #[]) (cs := #[]) ([] : List UInt8) (d := (some 10)) (k := 0) K rfl (fun _ => K) f5 rfl rfl rfl rfl ?_
 intro g9 i2 c6
 refine iR 1 2 [(11, (.slice A2 (List.length p1) c3))] ?_
 obtain ⟨hl13, H⟩ := Jb H
 obtain ⟨c7, hyl14⟩ : ∃ y, ([] : List UInt8) ++ p1 = y := ⟨_, rfl⟩
 rw [hyl14] at H
 refine iS 3 ?_
 refine Qj.append (e := eU8) (l := ([] : List UInt8)) (m := p1) (A := (some ⟨g9, 0, none⟩)) (c := (List.length ([] : List UInt8))) (T := 52) (TX := 52) (E := 5) (b := 1) (s := (.tmp 10)) (x := (.tmp 11)) (i := 1) (vx := (.slice A2 (List.length p1) c3)) (d := (some 12)) (k := 2) K rfl K K K K rfl c6 rfl (Ny (E := 5) K (RdT.sp f3 c6)) hl13 ?_
 rw [hyl14]
 intro f6 f7 i3 f8
 refine iS 4 ?_
 refine V6 (e := eU8) (T := 52) (E := 5) (len := 1) (parts := #[(0, (.const (.int .u8 (128))))]) (cs := #[(.int .u8 128)]) ([(128 : UInt8)] : List UInt8) (d := (some 13)) (k := 3) K rfl (fun _ => K) f8 (J1 (Or.inl rfl) rfl) rfl rfl rfl ?_
 intro f9 i4 c8
 obtain ⟨hl24, H⟩ := Jb H
 obtain ⟨c9, hyl25⟩ : ∃ y, c7 ++ ([(128 : UInt8)] : List UInt8) = y := ⟨_, rfl⟩
 rw [hyl25] at H
 refine iS 5 ?_
 refine Qj.append (e := eU8) (l := c7) (m := ([(128 : UInt8)] : List UInt8)) (A := f6) (c := f7) (T := 52) (TX := 52) (E := 5) (b := 1) (s := (.tmp 12)) (x := (.tmp 13)) (i := 1) (vx := (.slice (some ⟨f9, 0, none⟩) (List.length ([(128 : UInt8)] : List UInt8)) (List.length ([(128 : UInt8)] : List UInt8)))) (d := (some 14)) (k := 4) K rfl K K K K rfl c8 rfl (Ny (E := 5) K (Vm (SP.get c8 (i := 2) rfl))) hl24 ?_
 rw [hyl25]
 intro d0 d1 i5 g0
 refine iR 1 6 [(3, (.slice d0 (List.length c9) d1))] ?_
 refine iF ?_
 refine aQ ?_
 refine Z4 K (id := 0) K ?_
 refine Ur K (fun u ρ w => ∃ (a4 : (List UInt8)) (a8 : Option Addr) (a9 : Nat), Zg ρ [(0, (.slice A2 (List.length p1) c3)), (2, (pt g5 0)), (3, (.slice a8 (List.length a4) a9))] ∧ SP [] w0 w [Vb 89 eU8 g5 32 (List.replicate 32 (0 : UInt8)), Ja 5 eU8 a8 a9 a4] ∧ Qo p1 u a4 = some r) (by rintro ρ w ⟨a4, a8, a9, hk, hs, H⟩; cases H) ?_ Zd ?_
 ·rintro u ρ i6 ⟨a4, a8, a9, hk, b6, H⟩
  refine At.known [(0, (.slice A2 (List.length p1) c3)), (2, (pt g5 0)), (3, (.slice a8 (List.length a4) a9))] hk ?_
  replace H := (show Xc (Qo p1 u) p1 a4 = some r from H)
  unfold Xc at H
  have i7 := Q5 (SP.get b6 (i := 0) rfl)
  refine aQ ?_
  refine aQ ?_
  refine aR ?_
  refine iR 4 4 [(15, (.slice a8 (List.length a4) a9)), (16, (.int .i64 ((List.length a4 : Nat) : Int))), (17, (.int .i64 (Int.tmod ((List.length a4 : Nat) : Int) 64))), (18, (.bool ((Int.tmod ((List.length a4 : Nat) : Int) 64) != 56)))] ?_
  refine iF ?_
  refine Zs K (o := (.tmp 18)) K (b := ((Int.tmod ((List.length a4 : Nat) : Int) 64) != 56)) K (fun b7 => ?_) (fun b7 => ?_)
  ·have H := ct H b7
   refine At.skip K ?_
   refine Z4 K (id := 1) K ?_
   refine aR ?_
   refine iR 1 1 [(19, (.slice a8 (List.length a4) a9))] ?_
   refine iS 2 ?_
   refine V6 (e := eU8) (T := 52) (E := 5) (len := 1) (parts := #[(0, (.const (.int .u8 (0))))]) (cs := #[(.int .u8 0)]) ([(0 : UInt8)] : List UInt8) (d := (some 20)) (k := 1) K rfl (fun _ => K) b6 (J1 (Or.inl rfl) rfl) rfl rfl rfl ?_
   intro g1 i8 d2
   obtain ⟨hl7185, H⟩ := Jb H
   obtain ⟨d3, hyl7186⟩ : ∃ y, a4 ++ ([(0 : UInt8)] : List UInt8) = y := ⟨_, rfl⟩
   rw [hyl7186] at H
   refine iS 3 ?_
   refine Qj.append (e := eU8) (l := a4) (m := ([(0 : UInt8)] : List UInt8)) (A := a8) (c := a9) (T := 52) (TX := 52) (E := 5) (b := 1) (s := (.tmp 19)) (x := (.tmp 20)) (i := 1) (vx := (.slice (some ⟨g1, 0, none⟩) (List.length ([(0 : UInt8)] : List UInt8)) (List.length ([(0 : UInt8)] : List UInt8)))) (d := (some 21)) (k := 2) K rfl K K K K rfl d2 rfl (Ny (E := 5) K (Vm (SP.get d2 (i := 2) rfl))) hl7185 ?_
   rw [hyl7186]
   intro d4 d5 i9 g2
   refine iR 1 4 [(3, (.slice d4 (List.length d3) d5))] ?_
   refine iF ?_
   exact ⟨d3, d4, d5, ⟨K, K, K, trivial⟩, SP.sel g2 [0, 1] rfl rfl, H⟩
  ·have H := cf H b7
   refine At.exit K (id := 0) K ?_
   refine aQ ?_
   refine aR ?_
   refine iR 4 4 [(22, (.slice A2 (List.length p1) c3)), (23, (.int .i64 ((List.length p1 : Nat) : Int))), (24, (.int .i64 (IntKind.wrap .i64 (8 * ((List.length p1 : Nat) : Int))))), (4, (.int .i64 (IntKind.wrap .i64 (8 * ((List.length p1 : Nat) : Int)))))] ?_
   refine iF ?_
   refine aQ ?_
   refine aQ ?_
   refine aR ?_
   refine iR 1 1 [(5, (.int .i64 7))] ?_
   refine iF ?_
   refine Z4 K (id := 2) K ?_
   refine Ur K (fun a6 ρ w => ∃ (f : (List UInt8)) (a0 : Int) (a2 : Option Addr) (a1 : Nat), Zg ρ [(2, (pt g5 0)), (3, (.slice a2 (List.length f) a1)), (4, (.int .i64 (IntKind.wrap .i64 (8 * ((List.length p1 : Nat) : Int))))), (5, (.int .i64 a0))] ∧ SP [] w0 w [Vb 89 eU8 g5 32 (List.replicate 32 (0 : UInt8)), Ja 5 eU8 a2 a1 f] ∧ Qx (Qo p1 u) p1 a6 f a0 = some r) (by rintro ρ w ⟨f, a0, a2, a1, hk, hs, H⟩; cases H) ?_ Zd ?_
   ·rintro a6 ρ j0 ⟨f, a0, a2, a1, hk, b8, H⟩
    refine At.known [(2, (pt g5 0)), (3, (.slice a2 (List.length f) a1)), (4, (.int .i64 (IntKind.wrap .i64 (8 * ((List.length p1 : Nat) : Int))))), (5, (.int .i64 a0))] hk ?_
    replace H := (show Xb (Qo p1 u) (Qx (Qo p1 u) p1 a6) p1 f a0 = some r from H)
    unfold Xb at H
    have j1 := Q5 (SP.get b8 (i := 0) rfl)
    refine aQ ?_
    refine aQ ?_
    refine aR ?_
    refine iR 2 2 [(25, (.int .i64 a0)), (26, (.bool (decide (a0 ≥ 0))))] ?_
    refine iF ?_
    refine Zs K (o := (.tmp 26)) K (b := (decide (a0 ≥ 0))) K (fun b9 => ?_) (fun b9 => ?_)
    ·have H := ct H b9
     refine At.skip K ?_
     refine aQ ?_
     refine Z4 K (id := 3) K ?_
     refine aR ?_
     refine iR 4 4 [(29, (.slice a2 (List.length f) a1)), (30, (.int .i64 (IntKind.wrap .i64 (8 * ((List.length p1 : Nat) : Int))))), (31, (.int .i64 a0)), (32, (.int .i64 (IntKind.wrap .i64 (8 * a0))))] ?_
     obtain ⟨hl8972, H⟩ := Vu H
     refine iS 5 ?_
     refine Qj.shift (op := .shr) (T := 3) (T' := 3) (x := (.tmp 30)) (y := (.tmp 32)) (kx := .i64) (ky := .i64) (a := (IntKind.wrap .i64 (8 * ((List.length p1 : Nat) : Int)))) (b := (IntKind.wrap .i64 (8 * a0))) (v := (.int .i64 (Ud .i64 (IntKind.wrap .i64 (8 * ((List.length p1 : Nat) : Int))) (IntKind.wrap .i64 (8 * a0))))) (d := (some 33)) (k := 4) K rfl K K (of_decide_eq_true hl8972) rfl ?_
     refine iR 1 6 [(34, (.int .u8 (IntKind.wrap .u8 (Ud .i64 (IntKind.wrap .i64 (8 * ((List.length p1 : Nat) : Int))) (IntKind.wrap .i64 (8 * a0))))))] ?_
     refine iS 7 ?_
     refine V6 (e := eU8) (T := 52) (E := 5) (len := 1) (parts := #[(0, (.tmp 34))]) (cs := #[(.int .u8 (IntKind.wrap .u8 (Ud .i64 (IntKind.wrap .i64 (8 * ((List.length p1 : Nat) : Int))) (IntKind.wrap .i64 (8 * a0)))))]) ([(G3 (IntKind.wrap .u8 (Ud .i64 (IntKind.wrap .i64 (8 * ((List.length p1 : Nat) : Int))) (IntKind.wrap .i64 (8 * a0)))))] : List UInt8) (d := (some 35)) (k := 6) K rfl (fun _ => K) b8 (J1 (Or.inr ⟨rfl, (Du _)⟩) rfl) rfl rfl rfl ?_
     intro g3 j2 d6
     obtain ⟨hl8977, H⟩ := Jb H
     obtain ⟨d7, hyl8978⟩ : ∃ y, f ++ ([(G3 (IntKind.wrap .u8 (Ud .i64 (IntKind.wrap .i64 (8 * ((List.length p1 : Nat) : Int))) (IntKind.wrap .i64 (8 * a0)))))] : List UInt8) = y := ⟨_, rfl⟩
     rw [hyl8978] at H
     refine iS 8 ?_
     refine Qj.append (e := eU8) (l := f) (m := ([(G3 (IntKind.wrap .u8 (Ud .i64 (IntKind.wrap .i64 (8 * ((List.length p1 : Nat) : Int))) (IntKind.wrap .i64 (8 * a0)))))] : List UInt8)) (A := a2) (c := a1) (T := 52) (TX := 52) (E := 5) (b := 1) (s := (.tmp 29)) (x := (.tmp 35)) (i := 1) (vx := (.slice (some ⟨g3, 0, none⟩) (List.length ([(G3 (IntKind.wrap .u8 (Ud .i64 (IntKind.wrap .i64 (8 * ((List.length p1 : Nat) : Int))) (IntKind.wrap .i64 (8 * a0)))))] : List UInt8)) (List.length ([(G3 (IntKind.wrap .u8 (Ud .i64 (IntKind.wrap .i64 (8 * ((List.length p1 : Nat) : Int))) (IntKind.wrap .i64 (8 * a0)))))] : List UInt8)))) (d := (some 36)) (k := 7) K rfl K K K K rfl d6 rfl (Ny (E := 5) K (Vm (SP.get d6 (i := 2) rfl))) hl8977 ?_
     rw [hyl8978]
     intro d8 d9 j3 g4
     refine iR 1 9 [(3, (.slice d8 (List.length d7) d9))] ?_
     refine iF ?_
     refine aR ?_
     refine iR 3 3 [(27, (.int .i64 a0)), (28, (.int .i64 (IntKind.wrap .i64 (a0 - 1)))), (5, (.int .i64 (IntKind.wrap .i64 (a0 - 1))))] ?_
     refine iF ?_
     exact ⟨d7, (IntKind.wrap .i64 (a0 - 1)), d8, d9, ⟨K, K, K, K, trivial⟩, SP.sel g4 [0, 1] rfl rfl, H⟩
    ·have H := cf H b9
     refine At.exit K (id := 2) K ?_
     refine aQ ?_
     refine aR ?_
     refine iR 1 1 [(37, (.agg (Qb (Qc .u32) ([1779033703, 3144134277, 1013904242, 2773480762, 1359893119, 2600822924, 528734635, 1541459225] : List Int)).toArray))] ?_
     refine iS 2 ?_
     refine Qz (e := (Qc .u32)) (l := (List.replicate 8 0)) (m := 8) (t := 128) (z := .agg (Qb (Qc .u32) (List.replicate 8 0)).toArray) (d := (some 6)) (k := 1) K rfl K rfl rfl K b8 ?_
     intro a3 j4 g6
     refine iS 3 ?_
     refine Q8 (e := (Qc .u32)) (l := (List.replicate 8 0)) (l' := ([1779033703, 3144134277, 1013904242, 2773480762, 1359893119, 2600822924, 528734635, 1541459225] : List Int)) (m := 8) (t := 128) (x := (.tmp 6)) (y := (.tmp 37)) (g := a3) (i := 2) (d := none) (k := 2) K rfl K K rfl g6 rfl K ?_
     intro j5 g7
     refine iF ?_
     refine aQ ?_
     refine aQ ?_
     refine aR ?_
     refine iR 1 1 [(7, (.int .i64 0))] ?_
     refine iF ?_
     refine Z4 K (id := 4) K ?_
     refine Ur K (fun b4 ρ w => ∃ (a5 : (List Int)) (p : Int), Zg ρ [(2, (pt g5 0)), (3, (.slice a2 (List.length f) a1)), (6, (pt a3 0)), (7, (.int .i64 p))] ∧ SP [] w0 w [Vb 89 eU8 g5 32 (List.replicate 32 (0 : UInt8)), Vb 128 (Qc .u32) a3 8 a5, Ja 5 eU8 a2 a1 f] ∧ Vn (Qo p1 u) (Qx (Qo p1 u) p1 a6) f b4 a5 p = some r) (by rintro ρ w ⟨a5, p, hk, hs, H⟩; cases H) ?_ Zd ?_
     ·rintro b4 ρ j6 ⟨a5, p, hk, b5, H⟩
      refine At.known [(2, (pt g5 0)), (3, (.slice a2 (List.length f) a1)), (6, (pt a3 0)), (7, (.int .i64 p))] hk ?_
      replace H := (show Xa (Qo p1 u) (Qx (Qo p1 u) p1 a6) (Vn (Qo p1 u) (Qx (Qo p1 u) p1 a6) f b4) f a5 p = some r from H)
      unfold Xa at H
      have j7 := Q5 (SP.get b5 (i := 0) rfl)
      have g8 := Q5 (SP.get b5 (i := 1) rfl)
      refine aQ ?_
      refine aQ ?_
      refine aR ?_
      refine iR 4 4 [(38, (.int .i64 p)), (39, (.slice a2 (List.length f) a1)), (40, (.int .i64 ((List.length f : Nat) : Int))), (41, (.bool (decide (p < ((List.length f : Nat) : Int)))))] ?_
      refine iF ?_
      refine Zs K (o := (.tmp 41)) K (b := (decide (p < ((List.length f : Nat) : Int)))) K (fun c0 => ?_) (fun c0 => ?_)
      ·have H := ct H c0
       refine At.skip K ?_
       refine aQ ?_
       refine Z4 K (id := 5) K ?_
       obtain ⟨e0, e1, e2, H⟩ := Rv H
       obtain ⟨c1, hyl9424⟩ : ∃ y, (List.drop (Int.toNat p) (List.take (Int.toNat (IntKind.wrap .i64 (p + 64))) f)) = y := ⟨_, rfl⟩
       rw [hyl9424] at H
       obtain ⟨b1, h1, H⟩ := Qg H
       obtain ⟨c2, H⟩ := Vu H
       replace c2 := Nat.eq_of_beq_eq_true c2
       refine aG [GEq (.agg (Qb (Qc .u32) a5).toArray), GEq (.slice a2 (List.length f) a1), GEq (.int .i64 p), GEq (.int .i64 p), GEq (.int .i64 (IntKind.wrap .i64 (p + 64))), GEq (.slice (Cf eU8.sz a1 (Int.toNat p) a2) (List.length c1) (a1 - Int.toNat p)), GEq (.agg (Qb (Qc .u32) b1).toArray), Ch] [6, 7] [sG [] [] [] w0 [Vb 89 eU8 g5 32 (List.replicate 32 (0 : UInt8)), Vb 128 (Qc .u32) a3 8 a5, Ja 5 eU8 a2 a1 f], sG [6] [(.agg (Qb (Qc .u32) b1).toArray)] [] w0 [Vb 89 eU8 g5 32 (List.replicate 32 (0 : UInt8)), Vb 128 (Qc .u32) a3 8 a5, Ja 5 eU8 a2 a1 f], sG [6, 7] [(.agg (Qb (Qc .u32) b1).toArray), undef] [] w0 [Vb 89 eU8 g5 32 (List.replicate 32 (0 : UInt8)), Vb 128 (Qc .u32) a3 8 b1, Ja 5 eU8 a2 a1 f]] 8 2 ⟨trivial, SP.drew b5⟩ ?_ ?_
       iterate 8 refine And.intro ?_ ?_
       exact trivial
       ·refine oL 0 ?_
        ·rintro ρ' w' hs hah ⟨j8, h2⟩
         refine kM (kc (kS hs 6 (pt a3 0)) k0) fun hkn => ?_
         refine V9 (e := (Qc .u32)) (l := a5) (m := 8) (t := 128) (x := (.tmp 6)) (g := a3) (i := 1) (d := (some 44)) (k := 0) K rfl K h2 rfl K K ?_
         exact eK hkn
       ·exact oV (hC (hS 3 (.slice a2 (List.length f) a1)) (h0)) (.slice a2 (List.length f) a1)
       ·exact oV (hC (hS 7 (.int .i64 p)) (h0)) (.int .i64 p)
       ·exact oV (hC (hS 7 (.int .i64 p)) (h0)) (.int .i64 p)
       ·exact oV (hC (hA 3 47) (h0)) (.int .i64 (IntKind.wrap .i64 (p + 64)))
       ·refine oL 0 ?_
        ·rintro ρ' w' hs hah ⟨j9, h3⟩
         refine kM (kc (kA hah 1 45) (kc (kA hah 2 46) (kc (kA hah 4 48) k0))) fun hkn => ?_
         refine Rz (e := eU8) (l := f) (m := c1) (A := a2) (c := a1) (T := 52) (E := 5) (x := (.tmp 45)) (lo := (some (.tmp 46))) (hi := (some (.tmp 48))) (i := p) (j := (IntKind.wrap .i64 (p + 64))) (d := (some 49)) (k := 5) K rfl K K K ⟨.i64, K⟩ ⟨.i64, K⟩ (RdX.le (Vm (SP.get h3 (i := 2) rfl))) e0 e1 e2 hyl9424 ?_
         exact eK hkn
       ·refine oH 0 1 ?_
        ·rintro ρ' w' hs hah ⟨k1, e3⟩
         refine kM (kc (kA hah 0 44) (kc (kA hah 5 49) k0)) fun hkn => ?_
         refine cF 93 #[(.tmp 44), (.tmp 49)] #[128, 52] 50 Tryz.call93 (Rp (Cf eU8.sz a1 (Int.toNat p) a2) (a1 - Int.toNat p) a5 c1 w' g8 ((Eh e0 e1 e2 hyl9424) w' (Vm (SP.get e3 (i := 2) rfl))) b1 h1) ?_
         rintro e k2 ⟨rfl, e4⟩
         refine ⟨_, rfl, ?_⟩
         have h4 := SP.call e3 e4
         clear e4
         refine ⟨_, Qa hkn, rfl, ?_⟩
         exact (And.intro (And.intro rfl (trivial)) (h4))
       ·refine oH 1 2 ?_
        ·rintro ρ' w' hs hah ⟨⟨e5, -⟩, h5⟩
         refine kN [(6, (pt a3 0)), (50, (.agg (Qb (Qc .u32) b1).toArray))] ⟨(hs 6 K).trans K, (Yh (h := 6) K).symm.trans e5, trivial⟩ fun hkn => ?_
         refine Q8 (e := (Qc .u32)) (l := a5) (l' := b1) (m := 8) (t := 128) (x := (.tmp 6)) (y := (.tmp 50)) (g := a3) (i := 1) (d := none) (k := 7) K rfl K K c2 h5 rfl K ?_
         intro k3 h6
         refine ⟨_, Qa hkn, trivial, ?_⟩
         exact (And.intro (And.intro e5 (And.intro rfl (trivial))) (h6))
       ·rintro ρ' w' hs hf ⟨⟨k4, k5, -⟩, e6⟩
        refine Vj [(2, (pt g5 0)), (3, (.slice a2 (List.length f) a1)), (6, (pt a3 0)), (7, (.int .i64 p))] ⟨(hs 2 K).trans K, (hs 3 K).trans K, (hs 6 K).trans K, (hs 7 K).trans K, trivial⟩ ?_
        obtain ⟨k6, h7⟩ : ∃ x, w' = x := ⟨_, rfl⟩
        rw [h7] at e6 ⊢
        refine aR ?_
        refine iR 3 3 [(42, (.int .i64 p)), (43, (.int .i64 (IntKind.wrap .i64 (p + 64)))), (7, (.int .i64 (IntKind.wrap .i64 (p + 64))))] ?_
        refine iF ?_
        exact ⟨b1, (IntKind.wrap .i64 (p + 64)), ⟨K, K, K, K, trivial⟩, SP.sel e6 [0, 1, 2] rfl rfl, H⟩
      ·have H := cf H c0
       refine At.exit K (id := 4) K ?_
       refine aQ ?_
       refine aR ?_
       refine iS 1 ?_
       refine Qz (e := eU8) (l := (List.replicate 32 (0 : UInt8))) (m := 32) (t := 89) (z := .agg (Qb eU8 (List.replicate 32 (0 : UInt8))).toArray) (d := (some 8)) (k := 0) K rfl K rfl rfl K b5 ?_
       intro b2 k7 h8
       refine iF ?_
       refine aQ ?_
       refine aQ ?_
       refine aR ?_
       refine iR 1 1 [(9, (.int .i64 0))] ?_
       refine iF ?_
       refine Z4 K (id := 6) K ?_
       refine Ur K (fun c4 ρ w => ∃ (a7 : (List UInt8)) (q : Int), Zg ρ [(2, (pt g5 0)), (6, (pt a3 0)), (8, (pt b2 0)), (9, (.int .i64 q))] ∧ SP [] w0 w [Vb 89 eU8 g5 32 (List.replicate 32 (0 : UInt8)), Vb 128 (Qc .u32) a3 8 a5, Vb 89 eU8 b2 32 a7] ∧ Z9 (Qo p1 u) (Qx (Qo p1 u) p1 a6) (Vn (Qo p1 u) (Qx (Qo p1 u) p1 a6) f b4) a5 c4 a7 q = some r) (by rintro ρ w ⟨a7, q, hk, hs, H⟩; cases H) ?_ Zd ?_
       ·rintro c4 ρ k8 ⟨a7, q, hk, b0, H⟩
        refine At.known [(2, (pt g5 0)), (6, (pt a3 0)), (8, (pt b2 0)), (9, (.int .i64 q))] hk ?_
        replace H := (show Z8 (Qo p1 u) (Qx (Qo p1 u) p1 a6) (Vn (Qo p1 u) (Qx (Qo p1 u) p1 a6) f b4) (Z9 (Qo p1 u) (Qx (Qo p1 u) p1 a6) (Vn (Qo p1 u) (Qx (Qo p1 u) p1 a6) f b4) a5 c4) a5 a7 q = some r from H)
        unfold Z8 at H
        have k9 := Q5 (SP.get b0 (i := 0) rfl)
        have l0 := Q5 (SP.get b0 (i := 1) rfl)
        have h9 := Q5 (SP.get b0 (i := 2) rfl)
        refine aQ ?_
        refine aQ ?_
        refine aR ?_
        refine iR 2 2 [(51, (.int .i64 q)), (52, (.bool (decide (q < 32))))] ?_
        refine iF ?_
        refine Zs K (o := (.tmp 52)) K (b := (decide (q < 32))) K (fun c5 => ?_) (fun c5 => ?_)
        ·have H := ct H c5
         refine At.skip K ?_
         refine aQ ?_
         refine Z4 K (id := 7) K ?_
         refine aR ?_
         refine iR 3 3 [(55, (.int .i64 q)), (56, (.int .i64 q)), (57, (.int .i64 (IntKind.wrap .i64 (Int.tdiv q 4))))] ?_
         obtain ⟨b3, e7, e8, i0, H⟩ := Qn H
         refine iS 4 ?_
         refine Qh (e := (Qc .u32)) (l := a5) (m := 8) (g := a3) (T := 128) (E := 111) (x := (.tmp 6)) (ix := (.tmp 57)) (ki := .i64) (iz := (IntKind.wrap .i64 (Int.tdiv q 4))) (i := 1) (d := (some 58)) (k := 3) K rfl K K K K b0 rfl e7 e8 ?_
         refine iS 5 ?_
         refine sC 111 58 a3 (0 + Int.toNat (IntKind.wrap .i64 (Int.tdiv q 4)) * (Qc .u32).sz) (.int .u32 b3) 59 (Qi (e := (Qc .u32)) (Qf (Qu (SP.get b0 (i := 1) rfl)) rfl e7 e8) i0 (j := 0) rfl) ?_
         refine iR 4 9 [(60, (.int .i64 q)), (61, (.int .i64 (Int.tmod q 4))), (62, (.int .i64 (IntKind.wrap .i64 (8 * (Int.tmod q 4))))), (63, (.int .i64 (IntKind.wrap .i64 (24 - (IntKind.wrap .i64 (8 * (Int.tmod q 4)))))))] ?_
         obtain ⟨hl9546, H⟩ := Vu H
         refine iS 10 ?_
         refine Qj.shift (op := .shr) (T := 111) (T' := 3) (x := (.tmp 59)) (y := (.tmp 63)) (kx := .u32) (ky := .i64) (a := b3) (b := (IntKind.wrap .i64 (24 - (IntKind.wrap .i64 (8 * (Int.tmod q 4)))))) (v := (.int .u32 (Ud .u32 b3 (IntKind.wrap .i64 (24 - (IntKind.wrap .i64 (8 * (Int.tmod q 4)))))))) (d := (some 64)) (k := 9) K rfl K K (of_decide_eq_true hl9546) rfl ?_
         refine iR 1 11 [(65, (.int .u8 (IntKind.wrap .u8 (Ud .u32 b3 (IntKind.wrap .i64 (24 - (IntKind.wrap .i64 (8 * (Int.tmod q 4)))))))))] ?_
         obtain ⟨l1, e9, f0, l2, H⟩ := Qn H
         refine iS 12 ?_
         refine Qh (e := eU8) (l := a7) (m := 32) (g := b2) (T := 89) (E := 5) (x := (.tmp 8)) (ix := (.tmp 55)) (ki := .i64) (iz := q) (i := 2) (d := (some 66)) (k := 11) K rfl K K K K b0 rfl e9 f0 ?_
         obtain ⟨f1, hyl9551, H⟩ := V2 H
         have hnl9551 : List.length f1 = List.length a7 := by rw [← hyl9551, List.length_set]
         refine iS 13 ?_
         refine Zh (e := eU8) (t := 5) (x := (.tmp 66)) (y := (.tmp 65)) (l := a7) (iz := q) (m := 32) (g := b2) (b := b2) (off := 0) (i := 2) (v := (.int .u8 (IntKind.wrap .u8 (Ud .u32 b3 (IntKind.wrap .i64 (24 - (IntKind.wrap .i64 (8 * (Int.tmod q 4))))))))) (x' := (G3 (IntKind.wrap .u8 (Ud .u32 b3 (IntKind.wrap .i64 (24 - (IntKind.wrap .i64 (8 * (Int.tmod q 4))))))))) (d := none) (k := 12) K rfl rfl K K b0 rfl rfl f0 e9 (by show [Value.int .u8 (((G3 (IntKind.wrap .u8 (Ud .u32 b3 (IntKind.wrap .i64 (24 - (IntKind.wrap .i64 (8 * (Int.tmod q 4))))))))).toNat : Int)] = _; rw [Gv (Du _)]) K ?_
         rw [hyl9551]
         intro l3 i1
         refine In.known [] trivial ?_
         refine iF ?_
         refine aR ?_
         refine iR 3 3 [(53, (.int .i64 q)), (54, (.int .i64 (IntKind.wrap .i64 (q + 1)))), (9, (.int .i64 (IntKind.wrap .i64 (q + 1))))] ?_
         refine iF ?_
         exact ⟨f1, (IntKind.wrap .i64 (q + 1)), ⟨K, K, K, K, trivial⟩, SP.sel i1 [0, 1, 2] rfl rfl, H⟩
        ·have H := cf H c5
         refine At.exit K (id := 6) K ?_
         refine aQ ?_
         refine aR ?_
         refine iS 1 ?_
         refine V9 (e := eU8) (l := a7) (m := 32) (t := 89) (x := (.tmp 8)) (g := b2) (i := 2) (d := (some 67)) (k := 0) K rfl K b0 rfl K K ?_
         refine iS 2 ?_
         refine Q8 (e := eU8) (l := (List.replicate 32 (0 : UInt8))) (l' := a7) (m := 32) (t := 89) (x := (.tmp 2)) (y := (.tmp 67)) (g := g5) (i := 0) (d := none) (k := 1) K rfl K K h9 b0 rfl K ?_
         intro l4 f2
         refine iF ?_
         refine At.ret K ?_
         refine ⟨(.agg (Qb eU8 a7).toArray), Bz K (U0 (e := eU8) (l := a7) (a := 2) (t := 89) K (SP.get f2 (i := 0) rfl) K K), ?_⟩
         obtain rfl := Qm H
         exact ⟨rfl, SP.sel f2 [] rfl rfl⟩
       ·exact ⟨(List.replicate 32 (0 : UInt8)), 0, ⟨K, K, K, K, trivial⟩, SP.sel h8 [0, 1, 3] rfl rfl, H⟩
     ·exact ⟨([1779033703, 3144134277, 1013904242, 2773480762, 1359893119, 2600822924, 528734635, 1541459225] : List Int), 0, ⟨K, K, K, K, trivial⟩, SP.sel g7 [0, 2, 1] rfl rfl, H⟩
   ·exact ⟨a4, 7, a8, a9, ⟨K, K, K, K, trivial⟩, SP.sel b6 [0, 1] rfl rfl, H⟩
 ·exact ⟨c9, d0, d1, ⟨K, K, K, trivial⟩, SP.sel g0 [0, 1] rfl rfl, H⟩
def Xi (c : (List UInt8) → Int → Option ((List UInt8))) (p1 : (List UInt8)) (b : (List UInt8)) (a : Int) : Option ((List UInt8)) :=
  (cond (decide (a < ((List.length p1 : Nat) : Int))) ((idx p1 a).bind fun d => ((idx ([48, 49, 50, 51, 52, 53, 54, 55, 56, 57, 97, 98, 99, 100, 101, 102] : List UInt8) (IntKind.wrap .u8 (Int.tdiv ((d).toNat : Int) 16))).bind fun e => ((idx p1 a).bind fun f => ((idx ([48, 49, 50, 51, 52, 53, 54, 55, 56, 57, 97, 98, 99, 100, 101, 102] : List UInt8) (Int.tmod ((f).toNat : Int) 16)).bind fun g => ((app b ([e, g] : List UInt8)).bind fun h => (c h (IntKind.wrap .i64 (a + 1)))))))) (some (b)))
def Xj (p1 : (List UInt8)) : Nat → (List UInt8) → Int → Option ((List UInt8))
  | 0, _, _ => none
  | f + 1, a, b => Xi  (Xj p1 f) p1 a b
def U1 (p1 : (List UInt8)) : Option ((List UInt8)) :=
  (Xj p1 Zd ([] : List UInt8) 0)
set_option maxRecDepth 100000 in
set_option maxHeartbeats 4000000 in
theorem Dq (A2 : Option Addr) (c3 : Nat) (p1 : (List UInt8)) (w0 : World) (a8 : RdT eU8 w0 A2 c3 p1) (r : ((List UInt8))) (H : U1 p1 = some r) :
  Calls Tryz.prog 55 #[(.slice A2 (List.length p1) c3)] w0 (fun e w' => e = .returned (.string ⟨List.toArray r⟩) ∧ SP [] w0 w' []) := by
 unfold U1 at H
 refine Qv (n := 31) Tryz.func55 K K K ?_
 have c1 := Q1 [] w0
 refine aQ ?_
 refine aR ?_
 refine iR 1 1 [(2, (.string ⟨List.toArray ([] : List UInt8)⟩))] ?_
 refine iF ?_
 refine aQ ?_
 refine aR ?_
 refine iR 1 1 [(3, (.string ⟨List.toArray ([48, 49, 50, 51, 52, 53, 54, 55, 56, 57, 97, 98, 99, 100, 101, 102] : List UInt8)⟩))] ?_
 refine iF ?_
 refine aQ ?_
 refine aR ?_
 refine iR 1 1 [(4, (.slice none (List.length ([] : List UInt8)) 0))] ?_
 refine iF ?_
 refine aQ ?_
 refine aQ ?_
 refine aR ?_
 refine iR 1 1 [(5, (.int .i64 0))] ?_
 refine iF ?_
 refine Z4 K (id := 0) K ?_
 refine Ur K (fun f1 ρ w => ∃ (q : (List UInt8)) (f : Int) (t : Option Addr) (z : Nat), Zg ρ [(0, (.slice A2 (List.length p1) c3)), (3, (.string ⟨List.toArray ([48, 49, 50, 51, 52, 53, 54, 55, 56, 57, 97, 98, 99, 100, 101, 102] : List UInt8)⟩)), (4, (.slice t (List.length q) z)), (5, (.int .i64 f))] ∧ SP [] w0 w [Ja 5 eU8 t z q] ∧ Xj p1 f1 q f = some r) (by rintro ρ w ⟨q, f, t, z, hk, hs, H⟩; cases H) ?_ Zd ?_
 ·rintro f1 ρ f8 ⟨q, f, t, z, hk, b0, H⟩
  refine At.known [(0, (.slice A2 (List.length p1) c3)), (3, (.string ⟨List.toArray ([48, 49, 50, 51, 52, 53, 54, 55, 56, 57, 97, 98, 99, 100, 101, 102] : List UInt8)⟩)), (4, (.slice t (List.length q) z)), (5, (.int .i64 f))] hk ?_
  replace H := (show Xi (Xj p1 f1) p1 q f = some r from H)
  unfold Xi at H
  refine aQ ?_
  refine aQ ?_
  refine aR ?_
  refine iR 4 4 [(6, (.int .i64 f)), (7, (.slice A2 (List.length p1) c3)), (8, (.int .i64 ((List.length p1 : Nat) : Int))), (9, (.bool (decide (f < ((List.length p1 : Nat) : Int)))))] ?_
  refine iF ?_
  refine Zs K (o := (.tmp 9)) K (b := (decide (f < ((List.length p1 : Nat) : Int)))) K (fun b1 => ?_) (fun b1 => ?_)
  ·have H := ct H b1
   refine At.skip K ?_
   refine aQ ?_
   refine Z4 K (id := 1) K ?_
   obtain ⟨a6, b3, b4, c2, H⟩ := Qn H
   obtain ⟨g, c4, f9, c5, H⟩ := Qn H
   obtain ⟨a7, b5, b6, c6, H⟩ := Qn H
   obtain ⟨p, c7, g0, c8, H⟩ := Qn H
   obtain ⟨hl270, H⟩ := Jb H
   obtain ⟨a0, hyl271⟩ : ∃ y, q ++ ([g, p] : List UInt8) = y := ⟨_, rfl⟩
   rw [hyl271] at H
   refine aG [GEq (.slice t (List.length q) z), GEq (.string ⟨List.toArray ([48, 49, 50, 51, 52, 53, 54, 55, 56, 57, 97, 98, 99, 100, 101, 102] : List UInt8)⟩), GEq (.slice A2 (List.length p1) c3), GEq (.int .i64 f), Vv A2 eU8.sz f, GEq (.int .u8 ((a6).toNat : Int)), GEq (.int .u8 (IntKind.wrap .u8 (Int.tdiv ((a6).toNat : Int) 16))), GEq (.int .u8 ((g).toNat : Int)), GEq (.string ⟨List.toArray ([48, 49, 50, 51, 52, 53, 54, 55, 56, 57, 97, 98, 99, 100, 101, 102] : List UInt8)⟩), GEq (.slice A2 (List.length p1) c3), GEq (.int .i64 f), Vv A2 eU8.sz f, GEq (.int .u8 ((a7).toNat : Int)), GEq (.int .u8 (Int.tmod ((a7).toNat : Int) 16)), GEq (.int .u8 ((p).toNat : Int)), Ch, Ch, Ch] [15, 16, 17] [([], fun vs w => VL vs [] ∧ SP [] w0 w [Ja 5 eU8 t z q]), ([15], fun vs w => ∃ (a1 : Nat), VL vs [(.slice (some ⟨a1, 0, none⟩) (List.length ([g, p] : List UInt8)) (List.length ([g, p] : List UInt8)))] ∧ SP [] w0 w [Ja 5 eU8 t z q, Ja 5 eU8 (some ⟨a1, 0, none⟩) (List.length ([g, p] : List UInt8)) ([g, p] : List UInt8)]), ([15, 16], fun vs w => ∃ (a9 : Nat), ∃ (a2 : Option Addr), ∃ (a3 : Nat), VL vs [(.slice (some ⟨a9, 0, none⟩) (List.length ([g, p] : List UInt8)) (List.length ([g, p] : List UInt8))), (.slice a2 (List.length a0) a3)] ∧ SP [] w0 w [Ja 5 eU8 a2 a3 a0, Ja 5 eU8 (some ⟨a9, 0, none⟩) (List.length ([g, p] : List UInt8)) ([g, p] : List UInt8)]), ([15, 16, 17], fun vs w => ∃ (b2 : Nat), ∃ (a4 : Option Addr), ∃ (a5 : Nat), VL vs [(.slice (some ⟨b2, 0, none⟩) (List.length ([g, p] : List UInt8)) (List.length ([g, p] : List UInt8))), (.slice a4 (List.length a0) a5), (.slice a4 (List.length a0) a5)] ∧ SP [] w0 w [Ja 5 eU8 a4 a5 a0, Ja 5 eU8 (some ⟨b2, 0, none⟩) (List.length ([g, p] : List UInt8)) ([g, p] : List UInt8)])] 18 3 ⟨trivial, SP.drew b0⟩ ?_ ?_
   iterate 18 refine And.intro ?_ ?_
   exact trivial
   ·exact oV (hC (hS 4 (.slice t (List.length q) z)) (h0)) (.slice t (List.length q) z)
   ·exact oV (hC (hS 3 (.string ⟨List.toArray ([48, 49, 50, 51, 52, 53, 54, 55, 56, 57, 97, 98, 99, 100, 101, 102] : List UInt8)⟩)) (h0)) (.string ⟨List.toArray ([48, 49, 50, 51, 52, 53, 54, 55, 56, 57, 97, 98, 99, 100, 101, 102] : List UInt8)⟩)
   ·exact oV (hC (hS 0 (.slice A2 (List.length p1) c3)) (h0)) (.slice A2 (List.length p1) c3)
   ·exact oV (hC (hS 5 (.int .i64 f)) (h0)) (.int .i64 f)
   ·refine oL 0 ?_
    ·rintro ρ' w' hs hah ⟨g1, c9⟩
     refine kM (kc (kA hah 2 14) (kc (kA hah 3 15) k0)) fun hkn => ?_
     refine Vi (e := eU8) (l := p1) (A := A2) (c := c3) (T := 52) (E := 5) (x := (.tmp 14)) (ix := (.tmp 15)) (ki := .i64) (iz := f) (d := (some 16)) (k := 4) K rfl K K K K (RdT.sp a8 c9) b3 b4 ?_
     intro d0 d1 d2 g2 hc303
     exact ⟨rfl, _, Qa hkn, ⟨d0, d1, d2, rfl⟩⟩
   ·refine oL 0 ?_
    ·rintro ρ' w' hs hah ⟨g3, d3⟩
     obtain ⟨d4, d5, d6, d7⟩ := hah 4 16 K
     refine kM (kc d7 k0) fun hkn => ?_
     refine sC 5 16 d4 (d5 + Int.toNat f * eU8.sz) (.int .u8 ((a6).toNat : Int)) 17 (Qi (e := eU8) (Qf (RdT.sp a8 d3) d6 b3 b4) c2 (j := 0) rfl) ?_
     exact eK hkn
   ·exact oV (hC (hA 5 17) (h0)) (.int .u8 (IntKind.wrap .u8 (Int.tdiv ((a6).toNat : Int) 16)))
   ·refine oL 0 ?_
    ·rintro ρ' w' hs hah ⟨g4, g5⟩
     refine kM (kc (kA hah 1 13) (kc (kA hah 6 18) k0)) fun hkn => ?_
     refine Nl (a := ([48, 49, 50, 51, 52, 53, 54, 55, 56, 57, 97, 98, 99, 100, 101, 102] : List UInt8)) (u := g) (T := 9) (x := (.tmp 13)) (ix := (.tmp 18)) (ki := .u8) (iz := (IntKind.wrap .u8 (Int.tdiv ((a6).toNat : Int) 16))) (d := (some 19)) (k := 7) K rfl K K K c4 c5 ?_
     exact eK hkn
   ·exact oV (hC (hS 3 (.string ⟨List.toArray ([48, 49, 50, 51, 52, 53, 54, 55, 56, 57, 97, 98, 99, 100, 101, 102] : List UInt8)⟩)) (h0)) (.string ⟨List.toArray ([48, 49, 50, 51, 52, 53, 54, 55, 56, 57, 97, 98, 99, 100, 101, 102] : List UInt8)⟩)
   ·exact oV (hC (hS 0 (.slice A2 (List.length p1) c3)) (h0)) (.slice A2 (List.length p1) c3)
   ·exact oV (hC (hS 5 (.int .i64 f)) (h0)) (.int .i64 f)
   ·refine oL 0 ?_
    ·rintro ρ' w' hs hah ⟨g6, d8⟩
     refine kM (kc (kA hah 9 21) (kc (kA hah 10 22) k0)) fun hkn => ?_
     refine Vi (e := eU8) (l := p1) (A := A2) (c := c3) (T := 52) (E := 5) (x := (.tmp 21)) (ix := (.tmp 22)) (ki := .i64) (iz := f) (d := (some 23)) (k := 11) K rfl K K K K (RdT.sp a8 d8) b5 b6 ?_
     intro d9 e0 e1 g7 hc317
     exact ⟨rfl, _, Qa hkn, ⟨d9, e0, e1, rfl⟩⟩
   ·refine oL 0 ?_
    ·rintro ρ' w' hs hah ⟨g8, e2⟩
     obtain ⟨e3, e4, e5, e6⟩ := hah 11 23 K
     refine kM (kc e6 k0) fun hkn => ?_
     refine sC 5 23 e3 (e4 + Int.toNat f * eU8.sz) (.int .u8 ((a7).toNat : Int)) 24 (Qi (e := eU8) (Qf (RdT.sp a8 e2) e5 b5 b6) c6 (j := 0) rfl) ?_
     exact eK hkn
   ·exact oV (hC (hA 12 24) (h0)) (.int .u8 (Int.tmod ((a7).toNat : Int) 16))
   ·refine oL 0 ?_
    ·rintro ρ' w' hs hah ⟨g9, h1⟩
     refine kM (kc (kA hah 8 20) (kc (kA hah 13 25) k0)) fun hkn => ?_
     refine Nl (a := ([48, 49, 50, 51, 52, 53, 54, 55, 56, 57, 97, 98, 99, 100, 101, 102] : List UInt8)) (u := p) (T := 9) (x := (.tmp 20)) (ix := (.tmp 25)) (ki := .u8) (iz := (Int.tmod ((a7).toNat : Int) 16)) (d := (some 26)) (k := 14) K rfl K K K c7 c8 ?_
     exact eK hkn
   ·refine oH 0 1 ?_
    ·rintro ρ' w' hs hah ⟨h2, e7⟩
     refine kM (kc (kA hah 7 19) (kc (kA hah 14 26) k0)) fun hkn => ?_
     refine V6 (e := eU8) (T := 52) (E := 5) (len := 2) (parts := #[(0, (.tmp 19)), (1, (.tmp 26))]) (cs := #[(.int .u8 ((g).toNat : Int)), (.int .u8 ((p).toNat : Int))]) ([g, p] : List UInt8) (d := (some 27)) (k := 15) K rfl (fun _ => K) e7 (J1 (Or.inl rfl) (J1 (Or.inl rfl) rfl)) rfl rfl rfl ?_
     intro e8 h3 e9
     refine ⟨_, Qa hkn, trivial, ?_⟩
     exact (Exists.intro e8 (And.intro (And.intro rfl (trivial)) (e9)))
   ·refine oH 1 2 ?_
    ·rintro ρ' w' hs hah ⟨a1, ⟨b7, -⟩, b8⟩
     refine kN [(12, (.slice t (List.length q) z)), (27, (.slice (some ⟨a1, 0, none⟩) (List.length ([g, p] : List UInt8)) (List.length ([g, p] : List UInt8))))] ⟨hah 0 12 K, (Yh (h := 15) K).symm.trans b7, trivial⟩ fun hkn => ?_
     refine Qj.append (e := eU8) (l := q) (m := ([g, p] : List UInt8)) (A := t) (c := z) (T := 52) (TX := 52) (E := 5) (b := 1) (s := (.tmp 12)) (x := (.tmp 27)) (i := 0) (vx := (.slice (some ⟨a1, 0, none⟩) (List.length ([g, p] : List UInt8)) (List.length ([g, p] : List UInt8)))) (d := (some 28)) (k := 16) K rfl K K K K rfl b8 rfl (Ny (E := 5) K (Vm (SP.get b8 (i := 1) rfl))) hl270 ?_
     rw [hyl271]
     intro f0 f2 h4 f3
     refine ⟨_, Qa hkn, trivial, ?_⟩
     exact (Exists.intro a1 (Exists.intro f0 (Exists.intro f2 (And.intro (And.intro b7 (And.intro rfl (trivial))) (f3)))))
   ·refine oH 2 3 ?_
    ·rintro ρ' w' hs hah ⟨a9, a2, a3, ⟨f4, b9, -⟩, f5⟩
     refine kN [(28, (.slice a2 (List.length a0) a3))] ⟨(Yh (h := 16) K).symm.trans b9, trivial⟩ fun hkn => ?_
     refine Qj.run (k := 17) (v := (.slice a2 (List.length a0) a3)) K ?_
     refine ⟨_, Qa hkn, trivial, ?_⟩
     exact (Exists.intro a9 (Exists.intro a2 (Exists.intro a3 (And.intro (And.intro f4 (And.intro b9 (And.intro rfl (trivial)))) (f5)))))
   ·rintro ρ' w' hs hf ⟨b2, a4, a5, ⟨h5, h6, f6, -⟩, c0⟩
    refine Vj [(0, (.slice A2 (List.length p1) c3)), (3, (.string ⟨List.toArray ([48, 49, 50, 51, 52, 53, 54, 55, 56, 57, 97, 98, 99, 100, 101, 102] : List UInt8)⟩)), (4, (.slice a4 (List.length a0) a5)), (5, (.int .i64 f))] ⟨(hs 0 K).trans K, (hs 3 K).trans K, (Yh (h := 17) K).symm.trans f6, (hs 5 K).trans K, trivial⟩ ?_
    obtain ⟨h7, f7⟩ : ∃ x, w' = x := ⟨_, rfl⟩
    rw [f7] at c0 ⊢
    refine aR ?_
    refine iR 3 3 [(10, (.int .i64 f)), (11, (.int .i64 (IntKind.wrap .i64 (f + 1)))), (5, (.int .i64 (IntKind.wrap .i64 (f + 1))))] ?_
    refine iF ?_
    exact ⟨a0, (IntKind.wrap .i64 (f + 1)), a4, a5, ⟨K, K, K, K, trivial⟩, SP.sel c0 [0] rfl rfl, H⟩
  ·have H := cf H b1
   refine At.exit K (id := 0) K ?_
   refine aQ ?_
   refine aR ?_
   refine iR 1 1 [(29, (.slice t (List.length q) z))] ?_
   refine iS 2 ?_
   refine Fc (T := 52) (S' := 9) (E := 5) (x := (.tmp 29)) (A := t) (c := z) (l := q) (d := (some 30)) (k := 1) K rfl K K K K (Vm (SP.get b0 (i := 0) rfl)) ?_
   refine iR 1 3 [(2, (.string ⟨List.toArray q⟩))] ?_
   refine iF ?_
   refine At.ret K ?_
   refine ⟨(.string ⟨List.toArray q⟩), K, ?_⟩
   obtain rfl := Qm H
   exact ⟨rfl, SP.sel b0 [] rfl rfl⟩
 ·exact ⟨([] : List UInt8), 0, none, 0, ⟨K, K, K, K, trivial⟩, SP.sel (Rh c1 5 eU8) [0] rfl rfl, H⟩
end Go.Proofs.YtmgfanhcdfobhaaGreatDoor
namespace Go.Proofs.YtmgfanhcdfobhaaGreatDoor
theorem Ek (x : BitVec 32) : IntKind.wrap .u32 (x.toNat : Int) = (x.toNat : Int) := by
  have := x.isLt
  unfold IntKind.wrap
  simp only [IntKind.bits, IntKind.signed]
  simp
  omega
theorem F1 (x : BitVec 32) : BitVec.ofInt 32 (x.toNat : Int) = x := by
  rw [BitVec.ofInt_natCast, BitVec.ofNat_toNat, BitVec.setWidth_eq]
theorem bAnd_bv (a b : Int) : V8 .u32 a b = ((BitVec.ofInt 32 a &&& BitVec.ofInt 32 b).toNat : Int) := Ek _
theorem Ko (a b : Int) : bOr .u32 a b = ((BitVec.ofInt 32 a ||| BitVec.ofInt 32 b).toNat : Int) := Ek _
theorem bXor_bv (a b : Int) : Vt .u32 a b = ((BitVec.ofInt 32 a ^^^ BitVec.ofInt 32 b).toNat : Int) := Ek _
theorem bOr_comm (a b : Int) : bOr .u32 a b = bOr .u32 b a := by rw [Ko, Ko, BitVec.or_comm]
theorem ch_eq (a b c : Int) : Vt .u32 c (V8 .u32 a (Vt .u32 b c)) = Vt .u32 (V8 .u32 a b) (V8 .u32 (Vt .u32 (IntKind.max .u32) a) c) := by
  simp only [bXor_bv, bAnd_bv, F1]
  have hm : BitVec.ofInt 32 (IntKind.max .u32) = BitVec.allOnes 32 := by decide
  rw [hm]
  generalize BitVec.ofInt 32 a = x
  generalize BitVec.ofInt 32 b = y
  generalize BitVec.ofInt 32 c = z
  congr 2
  apply BitVec.eq_of_getLsbD_eq
  intro i hi
  simp only [BitVec.getLsbD_xor, BitVec.getLsbD_and, BitVec.getLsbD_or, BitVec.getLsbD_allOnes, hi, decide_true]
  cases x.getLsbD i <;> cases y.getLsbD i <;> cases z.getLsbD i <;> rfl
theorem maj_eq (a b c : Int) : bOr .u32 (V8 .u32 a (bOr .u32 b c)) (V8 .u32 b c) = Vt .u32 (Vt .u32 (V8 .u32 a b) (V8 .u32 a c)) (V8 .u32 b c) := by
  simp only [bXor_bv, bAnd_bv, Ko, F1]
  generalize BitVec.ofInt 32 a = x
  generalize BitVec.ofInt 32 b = y
  generalize BitVec.ofInt 32 c = z
  congr 2
  apply BitVec.eq_of_getLsbD_eq
  intro i hi
  simp only [BitVec.getLsbD_xor, BitVec.getLsbD_and, BitVec.getLsbD_or, BitVec.getLsbD_allOnes, hi, decide_true]
  cases x.getLsbD i <;> cases y.getLsbD i <;> cases z.getLsbD i <;> rfl
def rotI (x n : Int) : Int := bOr .u32 (Ud .u32 x n) (Ui .u32 x (32 - n))
def smlI (x a b c : Int) : Int := Vt .u32 (Vt .u32 (rotI x a) (rotI x b)) (Ud .u32 x c)
def grtI (x a b c : Int) : Int := Vt .u32 (Vt .u32 (rotI x a) (rotI x b)) (rotI x c)
theorem Dk (x n : Int) (h1 : V8 .u64 (IntKind.wrap .u64 (IntKind.wrap .i64 (0 - n))) 31 = 32 - n) (h2 : IntKind.wrap .u64 (32 - (32 - n)) = n) (h3 : 0 ≤ n ∧ n ≤ 32) : Zi x (IntKind.wrap .i64 (0 - n)) = some (rotI x n) := by
  unfold Zi
  rw [h1, h2]
  rw [show decide (0 ≤ 32 - n) = true by simp; omega, show decide (0 ≤ n) = true by simp; omega]
  simp only [chk, Option.bind_some]
  rw [bOr_comm]
  rfl
theorem El (x n : Int) (h1 : IntKind.wrap .i64 (32 - n) = 32 - n) (h3 : 0 ≤ n ∧ n ≤ 32) : Z0 x n = some (rotI x n) := by
  unfold Z0
  rw [h1, show decide (0 ≤ 32 - n) = true by simp; omega, show decide (0 ≤ n) = true by simp; omega]
  rfl
theorem mix_17 (x : Int) : Zj x [17, 19, 10] true = some (smlI x 17 19 10) := by
  have a := Dk x 17 (by decide) (by decide) (by decide)
  have b := Dk x 19 (by decide) (by decide) (by decide)
  have c := Dk x 10 (by decide) (by decide) (by decide)
  unfold Zj Xt
  simp only [idx, Int.toNat, List.getElem?_cons_zero, List.getElem?_cons_succ, Option.bind_some, cond_true, chk, Int.reduceLE, if_true, decide_true, a, b, c]
  rfl
theorem mix_7 (x : Int) : Zj x [7, 18, 3] true = some (smlI x 7 18 3) := by
  have a := Dk x 7 (by decide) (by decide) (by decide)
  have b := Dk x 18 (by decide) (by decide) (by decide)
  have c := Dk x 3 (by decide) (by decide) (by decide)
  unfold Zj Xt
  simp only [idx, Int.toNat, List.getElem?_cons_zero, List.getElem?_cons_succ, Option.bind_some, cond_true, chk, Int.reduceLE, if_true, decide_true, a, b, c]
  rfl
theorem mix_6 (x : Int) : Zj x [6, 11, 25] false = some (grtI x 6 11 25) := by
  have a := Dk x 6 (by decide) (by decide) (by decide)
  have b := Dk x 11 (by decide) (by decide) (by decide)
  have c := Dk x 25 (by decide) (by decide) (by decide)
  unfold Zj Xt
  simp only [idx, Int.toNat, List.getElem?_cons_zero, List.getElem?_cons_succ, Option.bind_some, cond_false, chk, Int.reduceLE, if_true, decide_true, a, b, c]
  rfl
theorem mix_2 (x : Int) : Zj x [2, 13, 22] false = some (grtI x 2 13 22) := by
  have a := Dk x 2 (by decide) (by decide) (by decide)
  have b := Dk x 13 (by decide) (by decide) (by decide)
  have c := Dk x 22 (by decide) (by decide) (by decide)
  unfold Zj Xt
  simp only [idx, Int.toNat, List.getElem?_cons_zero, List.getElem?_cons_succ, Option.bind_some, cond_false, chk, Int.reduceLE, if_true, decide_true, a, b, c]
  rfl
theorem Kp (x a b c : Int) (ha : IntKind.wrap .i64 (32 - a) = 32 - a) (hb : IntKind.wrap .i64 (32 - b) = 32 - b) (h : (0 ≤ a ∧ a ≤ 32) ∧ (0 ≤ b ∧ b ≤ 32) ∧ 0 ≤ c) : Ya x a b c = some (smlI x a b c) := by
  unfold Ya
  rw [El x a ha h.1, El x b hb h.2.1, show decide (0 ≤ c) = true by simp; omega]
  rfl
theorem Kq (x a b c : Int) (ha : IntKind.wrap .i64 (32 - a) = 32 - a) (hb : IntKind.wrap .i64 (32 - b) = 32 - b) (hc : IntKind.wrap .i64 (32 - c) = 32 - c) (h : (0 ≤ a ∧ a ≤ 32) ∧ (0 ≤ b ∧ b ≤ 32) ∧ (0 ≤ c ∧ c ≤ 32)) : Yb x a b c = some (grtI x a b c) := by
  unfold Yb
  rw [El x a ha h.1, El x b hb h.2.1, El x c hc h.2.2]
  rfl
theorem Iy {α : Type} (l : List α) (i : Nat) (x d : α) (h : i < l.length) : (l.set i x).getD i d = x := by simp [List.getD, h]
theorem Iz {α : Type} (l : List α) (i j : Nat) (x d : α) (h : i ≠ j) : (l.set i x).getD j d = l.getD j d := by simp [List.getD, List.getElem?_set, h]
theorem V1 {α : Type} (l : List α) (i : Nat) (d : α) (h : i < l.length) : idx l (i : Int) = some (l.getD i d) := by rw [Ul h]; simp [List.getD, h]
def wordI (b0 b1 b2 b3 : UInt8) : Int := bOr .u32 (bOr .u32 (bOr .u32 (Ui .u32 (IntKind.wrap .u32 ((b0).toNat : Int)) 24) (Ui .u32 (IntKind.wrap .u32 ((b1).toNat : Int)) 16)) (Ui .u32 (IntKind.wrap .u32 ((b2).toNat : Int)) 8)) (IntKind.wrap .u32 ((b3).toNat : Int))
def mixI (w : List Int) (t : Nat) : Int := IntKind.wrap .u32 (IntKind.wrap .u32 (IntKind.wrap .u32 (smlI (w.getD (t - 2) 0) 17 19 10 + w.getD (t - 7) 0) + smlI (w.getD (t - 15) 0) 7 18 3) + w.getD (t - 16) 0)
def Gs (b : List UInt8) : Nat → List Int
  | 0 => List.replicate 64 0
  | t + 1 => (Gs b t).set t (if t < 16 then wordI (b.getD (4 * t) 0) (b.getD (4 * t + 1) 0) (b.getD (4 * t + 2) 0) (b.getD (4 * t + 3) 0) else mixI (Gs b t) t)
theorem Uv (b : List UInt8) : ∀ t, (Gs b t).length = 64
  | 0 => by simp [Gs]
  | t + 1 => by simp [Gs, Uv b t]
theorem Hy (b : List UInt8) : ∀ t q, t ≤ q → (Gs b t).getD q 0 = 0
  | 0, q, _ => by simp only [Gs, List.getD, List.getElem?_replicate]; split <;> rfl
  | t + 1, q, h => by
    simp only [Gs]
    rw [Iz _ _ _ _ _ (by omega)]
    exact Hy b t q (by omega)
theorem ref_sched (b : List UInt8) (hb : 64 ≤ b.length) : ∀ (d t f : Nat), d = 64 - t → t ≤ 64 → d < f → V3 b f (Gs b t) (t : Int) = some (Gs b 64) := by
  intro d
  induction d with
  | zero =>
    intro t f hd ht hf
    obtain ⟨f, rfl⟩ : ∃ g, f = g + 1 := ⟨f - 1, by omega⟩
    have : t = 64 := by omega
    subst this
    rfl
  | succ d ih =>
    intro t f hd ht hf
    obtain ⟨f, rfl⟩ : ∃ g, f = g + 1 := ⟨f - 1, by omega⟩
    show Xp (V3 b f) b (Gs b t) (t : Int) = _
    unfold Xp Xo
    have hl := Uv b t
    have hnext : ∀ x, (Gs b (t + 1)) = x → V3 b f x (IntKind.wrap .i64 ((t : Int) + 1)) = some (Gs b 64) := by
      intro x hx
      rw [show ((t : Int) + 1) = ((t + 1 : Nat) : Int) by omega, Xh (by omega), ← hx]
      exact ih (t + 1) f (by omega) (by omega) (by omega)
    rw [show decide ((t : Int) < 64) = true by simp; omega, cond_true]
    by_cases h16 : t < 16
    · have e0 : IntKind.wrap .i64 (4 * (t : Int)) = ((4 * t : Nat) : Int) := by rw [show (4 * (t : Int)) = ((4 * t : Nat) : Int) by omega, Xh (by omega)]
      have e1 : IntKind.wrap .i64 (((4 * t : Nat) : Int) + 1) = ((4 * t + 1 : Nat) : Int) := by rw [show (((4 * t : Nat) : Int) + 1) = ((4 * t + 1 : Nat) : Int) by omega, Xh (by omega)]
      have e2 : IntKind.wrap .i64 (((4 * t : Nat) : Int) + 2) = ((4 * t + 2 : Nat) : Int) := by rw [show (((4 * t : Nat) : Int) + 2) = ((4 * t + 2 : Nat) : Int) by omega, Xh (by omega)]
      have e3 : IntKind.wrap .i64 (((4 * t : Nat) : Int) + 3) = ((4 * t + 3 : Nat) : Int) := by rw [show (((4 * t : Nat) : Int) + 3) = ((4 * t + 3 : Nat) : Int) by omega, Xh (by omega)]
      rw [show decide ((t : Int) < 16) = true by simp; omega, cond_true, e0, e1, e2, e3]
      rw [V1 b (4 * t) 0 (by omega), V1 b (4 * t + 1) 0 (by omega), V1 b (4 * t + 2) 0 (by omega), V1 b (4 * t + 3) 0 (by omega), V1 (Gs b t) t 0 (by omega)]
      simp only [Option.bind_some, Int.toNat_natCast]
      exact hnext _ (by simp only [Gs]; rw [if_pos h16]; rfl)
    · have e2 : IntKind.wrap .i64 ((t : Int) - 2) = ((t - 2 : Nat) : Int) := by rw [show ((t : Int) - 2) = ((t - 2 : Nat) : Int) by omega, Xh (by omega)]
      have e7 : IntKind.wrap .i64 ((t : Int) - 7) = ((t - 7 : Nat) : Int) := by rw [show ((t : Int) - 7) = ((t - 7 : Nat) : Int) by omega, Xh (by omega)]
      have e15 : IntKind.wrap .i64 ((t : Int) - 15) = ((t - 15 : Nat) : Int) := by rw [show ((t : Int) - 15) = ((t - 15 : Nat) : Int) by omega, Xh (by omega)]
      have e16 : IntKind.wrap .i64 ((t : Int) - 16) = ((t - 16 : Nat) : Int) := by rw [show ((t : Int) - 16) = ((t - 16 : Nat) : Int) by omega, Xh (by omega)]
      rw [show decide ((t : Int) < 16) = false by simp; omega, cond_false, e2, e7, e15, e16]
      rw [V1 (Gs b t) (t - 2) 0 (by omega), V1 (Gs b t) (t - 7) 0 (by omega), V1 (Gs b t) (t - 15) 0 (by omega), V1 (Gs b t) (t - 16) 0 (by omega), V1 (Gs b t) t 0 (by omega)]
      simp only [Option.bind_some, Int.toNat_natCast]
      rw [Kp _ 17 19 10 (by decide) (by decide) (by decide), Kp _ 7 18 3 (by decide) (by decide) (by decide)]
      simp only [Option.bind_some]
      exact hnext _ (by simp only [Gs]; rw [if_neg h16]; rfl)
theorem K8 (rec4 : List Int → Int → Option (List Int)) (b : List UInt8) : ∀ (d t f : Nat), d = 64 - t → 16 ≤ t → t ≤ 64 → d < f → X8 rec4 f (Gs b t) (t : Int) = some (Gs b 64) := by
  intro d
  induction d with
  | zero =>
    intro t f hd h16 ht hf
    obtain ⟨f, rfl⟩ : ∃ g, f = g + 1 := ⟨f - 1, by omega⟩
    have : t = 64 := by omega
    subst this
    rfl
  | succ d ih =>
    intro t f hd h16 ht hf
    obtain ⟨f, rfl⟩ : ∃ g, f = g + 1 := ⟨f - 1, by omega⟩
    show Jx rec4 (X8 rec4 f) (Gs b t) (t : Int) = _
    unfold Jx
    have hl := Uv b t
    have hnext : ∀ x, (Gs b (t + 1)) = x → X8 rec4 f x (IntKind.wrap .i64 ((t : Int) + 1)) = some (Gs b 64) := by
      intro x hx
      rw [show ((t : Int) + 1) = ((t + 1 : Nat) : Int) by omega, Xh (by omega), ← hx]
      exact ih (t + 1) f (by omega) (by omega) (by omega) (by omega)
    rw [show decide ((t : Int) < 64) = true by simp; omega, cond_true]
    have e2 : IntKind.wrap .i64 ((t : Int) - 2) = ((t - 2 : Nat) : Int) := by rw [show ((t : Int) - 2) = ((t - 2 : Nat) : Int) by omega, Xh (by omega)]
    have e7 : IntKind.wrap .i64 ((t : Int) - 7) = ((t - 7 : Nat) : Int) := by rw [show ((t : Int) - 7) = ((t - 7 : Nat) : Int) by omega, Xh (by omega)]
    have e15 : IntKind.wrap .i64 ((t : Int) - 15) = ((t - 15 : Nat) : Int) := by rw [show ((t : Int) - 15) = ((t - 15 : Nat) : Int) by omega, Xh (by omega)]
    have e16 : IntKind.wrap .i64 ((t : Int) - 16) = ((t - 16 : Nat) : Int) := by rw [show ((t : Int) - 16) = ((t - 16 : Nat) : Int) by omega, Xh (by omega)]
    rw [e2, e7, e15, e16]
    rw [V1 (Gs b t) (t - 2) 0 (by omega), V1 (Gs b t) (t - 7) 0 (by omega), V1 (Gs b t) (t - 15) 0 (by omega), V1 (Gs b t) (t - 16) 0 (by omega), V1 (Gs b t) t 0 (by omega)]
    simp only [Option.bind_some, Int.toNat_natCast, mix_17, mix_7]
    exact hnext _ (by simp only [Gs]; rw [if_neg (by omega)]; rfl)
def K9 (b : List UInt8) : Nat → List Int
  | 0 => List.replicate 64 0
  | i + 1 => (K9 b i).set (i / 4) (bOr .u32 (Ui .u32 ((K9 b i).getD (i / 4) 0) 8) (IntKind.wrap .u32 ((b.getD i 0).toNat : Int)))
theorem Bp (b : List UInt8) : ∀ t, (K9 b t).length = 64
  | 0 => by simp [K9]
  | t + 1 => by simp [K9, Bp b t]
theorem byte_bv (c : UInt8) : IntKind.wrap .u32 ((c.toNat : Nat) : Int) = (((c.toBitVec.setWidth 32 : BitVec 32)).toNat : Int) := by
  have h1 := c.toNat_lt
  have : (c.toBitVec.setWidth 32 : BitVec 32).toNat = c.toNat := by
    rw [BitVec.toNat_setWidth]
    show c.toNat % 2 ^ 32 = _
    omega
  rw [this]
  unfold IntKind.wrap
  simp only [IntKind.bits, IntKind.signed]
  simp
  omega
theorem I0 (x : BitVec 32) (n : Nat) (h : n < 32) : Ui .u32 (x.toNat : Int) (n : Int) = ((x <<< n).toNat : Int) := by
  have hx := x.isLt
  unfold Ui
  have hmin : min (n : Int).toNat (IntKind.bits .u32) = n := by show min n 32 = n; omega
  rw [hmin]
  have h2 : ((x.toNat : Int) * 2 ^ n) = ((x.toNat * 2 ^ n : Nat) : Int) := by push_cast; rfl
  rw [h2]
  unfold IntKind.wrap
  simp only [IntKind.bits, IntKind.signed]
  rw [BitVec.toNat_shiftLeft, Nat.shiftLeft_eq]
  simp
theorem word_eq (b0 b1 b2 b3 : UInt8) : bOr .u32 (Ui .u32 (bOr .u32 (Ui .u32 (bOr .u32 (Ui .u32 (bOr .u32 (Ui .u32 0 8) (IntKind.wrap .u32 (b0.toNat : Int))) 8) (IntKind.wrap .u32 (b1.toNat : Int))) 8) (IntKind.wrap .u32 (b2.toNat : Int))) 8) (IntKind.wrap .u32 (b3.toNat : Int)) = wordI b0 b1 b2 b3 := by
  unfold wordI
  have h0 : (0 : Int) = ((0 : BitVec 32).toNat : Int) := rfl
  have s8 : ∀ x : BitVec 32, Ui .u32 (x.toNat : Int) 8 = ((x <<< 8).toNat : Int) := fun x => I0 x 8 (by omega)
  have s16 : ∀ x : BitVec 32, Ui .u32 (x.toNat : Int) 16 = ((x <<< 16).toNat : Int) := fun x => I0 x 16 (by omega)
  have s24 : ∀ x : BitVec 32, Ui .u32 (x.toNat : Int) 24 = ((x <<< 24).toNat : Int) := fun x => I0 x 24 (by omega)
  rw [h0]
  simp only [byte_bv, s8, s16, s24, Ko, F1]
  congr 2
  apply BitVec.eq_of_getLsbD_eq
  intro i hi
  simp only [BitVec.getLsbD_or, BitVec.getLsbD_shiftLeft, BitVec.getLsbD_setWidth, BitVec.getLsbD_zero, hi, decide_true, Bool.true_and, Bool.and_false, Bool.false_or]
  by_cases h8 : i < 8
  · simp [h8, show i < 16 by omega, show i < 24 by omega]
  · by_cases h16 : i < 16
    · simp [h8, h16, show i < 24 by omega, show i - 8 < 8 by omega, show i - 8 < 32 by omega]
    · by_cases h24 : i < 24
      · simp [h8, h16, h24, show ¬ i - 8 < 8 by omega, show i - 8 - 8 < 8 by omega, show i - 8 - 8 = i - 16 by omega, show i - 16 < 8 by omega, show i - 8 < 32 by omega, show i - 16 < 32 by omega]
      · simp [h8, h16, h24, show ¬ i - 8 < 8 by omega, show ¬ i - 8 - 8 < 8 by omega, show i - 8 - 8 - 8 = i - 24 by omega, show i - 8 - 8 = i - 16 by omega, show ¬ i - 16 < 8 by omega, show i - 8 < 32 by omega, show i - 16 < 32 by omega, show i - 24 < 32 by omega, show i - 16 - 8 = i - 24 by omega]
theorem four_set (S : List Int) (t : Nat) (h : t < S.length) (f0 f1 f2 f3 : Int → Int) :
    (((S.set t (f0 (S.getD t 0))).set t (f1 ((S.set t (f0 (S.getD t 0))).getD t 0))).set t (f2 (((S.set t (f0 (S.getD t 0))).set t (f1 ((S.set t (f0 (S.getD t 0))).getD t 0))).getD t 0))).set t (f3 ((((S.set t (f0 (S.getD t 0))).set t (f1 ((S.set t (f0 (S.getD t 0))).getD t 0))).set t (f2 (((S.set t (f0 (S.getD t 0))).set t (f1 ((S.set t (f0 (S.getD t 0))).getD t 0))).getD t 0))).getD t 0)) =
      S.set t (f3 (f2 (f1 (f0 (S.getD t 0))))) := by
  simp only [List.set_set, Iy _ _ _ _ h]
theorem Hz (b : List UInt8) : ∀ t, t ≤ 16 → K9 b (4 * t) = Gs b t
  | 0, _ => rfl
  | t + 1, h => by
    have ih := Hz b t (by omega)
    have hl := Bp b (4 * t)
    have hz := Hy b t t (Nat.le_refl _)
    rw [show 4 * (t + 1) = 4 * t + 3 + 1 by omega]
    have d0 : 4 * t / 4 = t := by omega
    have d1 : (4 * t + 1) / 4 = t := by omega
    have d2 : (4 * t + 2) / 4 = t := by omega
    have d3 : (4 * t + 3) / 4 = t := by omega
    simp only [K9, d0, d1, d2, d3]
    rw [ih]
    have hlt : t < (Gs b t).length := by rw [Uv]; omega
    refine (four_set (Gs b t) t hlt (fun x => bOr .u32 (Ui .u32 x 8) (IntKind.wrap .u32 ((b.getD (4 * t) 0).toNat : Int))) (fun x => bOr .u32 (Ui .u32 x 8) (IntKind.wrap .u32 ((b.getD (4 * t + 1) 0).toNat : Int)))
      (fun x => bOr .u32 (Ui .u32 x 8) (IntKind.wrap .u32 ((b.getD (4 * t + 2) 0).toNat : Int))) (fun x => bOr .u32 (Ui .u32 x 8) (IntKind.wrap .u32 ((b.getD (4 * t + 3) 0).toNat : Int)))).trans ?_
    simp only [hz, word_eq, Gs, show t < 16 by omega, if_true]
theorem I1 (b : List UInt8) (hb : b.length = 64) : ∀ (d i f : Nat), d = 64 - i → i ≤ 64 → d < f → Zt b f (K9 b i) (i : Int) = some (Gs b 64) := by
  intro d
  induction d with
  | zero =>
    intro i f hd hi hf
    obtain ⟨f, rfl⟩ : ∃ g, f = g + 1 := ⟨f - 1, by omega⟩
    have : i = 64 := by omega
    subst this
    show X9 (Zt b f) b (K9 b 64) _ = _
    unfold X9
    rw [hb, show decide (((64 : Nat) : Int) < ((64 : Nat) : Int)) = false by decide, cond_false]
    rw [show K9 b 64 = Gs b 16 from Hz b 16 (by omega)]
    exact K8 _ b 48 16 Zd (by omega) (by omega) (by omega) (by unfold Zd; omega)
  | succ d ih =>
    intro i f hd hi hf
    obtain ⟨f, rfl⟩ : ∃ g, f = g + 1 := ⟨f - 1, by omega⟩
    show X9 (Zt b f) b (K9 b i) _ = _
    unfold X9
    have hl := Bp b i
    rw [hb, show decide ((i : Int) < ((64 : Nat) : Int)) = true by simp; omega, cond_true]
    have e4 : IntKind.wrap .i64 (Int.tdiv (i : Int) 4) = ((i / 4 : Nat) : Int) := by
      have := B4 i 4
      rw [show ((4 : Nat) : Int) = 4 from rfl] at this
      rw [this, Xh (by omega)]
    rw [e4, V1 b i 0 (by omega), V1 (K9 b i) (i / 4) 0 (by omega)]
    simp only [Option.bind_some, Int.toNat_natCast]
    rw [show ((i : Int) + 1) = ((i + 1 : Nat) : Int) by omega, Xh (by omega)]
    exact ih (i + 1) f (by omega) (by omega) (by omega)
theorem Co {b c : List UInt8} (h : ∀ i, i < 64 → b.getD i 0 = c.getD i 0) : ∀ t, Gs b t = Gs c t
  | 0 => rfl
  | t + 1 => by
    simp only [Gs, Co h t]
    by_cases h16 : t < 16
    · simp only [h16, if_true]
      rw [h _ (by omega), h _ (by omega), h _ (by omega), h _ (by omega)]
    · simp only [h16, if_false]
theorem Kr (b : List UInt8) (hb : 64 ≤ b.length) : Uj b = some (Gs b 64) := by
  unfold Uj
  have hs := Io b (i := 0) (j := 64) (by omega) hb
  rw [show ((0 : Nat) : Int) = 0 from rfl, show ((64 : Nat) : Int) = 64 from rfl] at hs
  rw [hs, Option.bind_some]
  have h64 : ((b.take 64).drop 0).length = 64 := by simp; omega
  have := I1 ((b.take 64).drop 0) h64 64 0 Zd (by omega) (by omega) (by unfold Zd; omega)
  rw [show K9 ((b.take 64).drop 0) 0 = List.replicate 64 0 from rfl] at this
  rw [show ((0 : Nat) : Int) = 0 from rfl] at this
  have hc := Co (b := (b.take 64).drop 0) (c := b) (fun i hi => by simp [List.getD, List.getElem?_take, hi]) 64
  rw [this, hc]
theorem sched_ok (b : List UInt8) (hb : 64 ≤ b.length) : X4 b = some (Gs b 64) := by
  obtain ⟨z, hz⟩ : ∃ z : Nat, z = 0 := ⟨0, rfl⟩
  have h := ref_sched b hb 64 z Zd (by omega) (by omega) (by unfold Zd; omega)
  have e : Gs b z = List.replicate 64 0 := by subst hz; simp only [Gs]
  have ez : (z : Int) = 0 := by omega
  rw [e, ez] at h
  unfold X4
  rw [h]
end Go.Proofs.YtmgfanhcdfobhaaGreatDoor
namespace Go.Proofs.YtmgfanhcdfobhaaGreatDoor
def rndX (e f g h k w : Int) : Int := IntKind.wrap .u32 (IntKind.wrap .u32 (IntKind.wrap .u32 (IntKind.wrap .u32 (h + grtI e 6 11 25) + Vt .u32 (V8 .u32 e f) (V8 .u32 (Vt .u32 (IntKind.max .u32) e) g)) + k) + w)
def rndY (a b c : Int) : Int := IntKind.wrap .u32 (grtI a 2 13 22 + Vt .u32 (Vt .u32 (V8 .u32 a b) (V8 .u32 a c)) (V8 .u32 b c))
def rnd (s : List Int) (k w : Int) : List Int :=
  match s with
  | [a, b, c, d, e, f, g, h] => [IntKind.wrap .u32 (rndX e f g h k w + rndY a b c), a, b, c, IntKind.wrap .u32 (d + rndX e f g h k w), e, f, g]
  | _ => []
theorem F2 {s : List Int} (h : s.length = 8) : ∃ a b c d e f g i, s = [a, b, c, d, e, f, g, i] := by
  match s, h with
  | [a, b, c, d, e, f, g, i], _ => exact ⟨a, b, c, d, e, f, g, i, rfl⟩
theorem La {s : List Int} (h : s.length = 8) (k w : Int) : (rnd s k w).length = 8 := by
  obtain ⟨a, b, c, d, e, f, g, i, rfl⟩ := F2 h
  rfl
def G7 : List Int := [1116352408, 1899447441, 3049323471, 3921009573, 961987163, 1508970993, 2453635748, 2870763221, 3624381080, 310598401, 607225278, 1426881987, 1925078388, 2162078206, 2614888103, 3248222580, 3835390401, 4022224774, 264347078, 604807628, 770255983, 1249150122, 1555081692, 1996064986, 2554220882, 2821834349, 2952996808, 3210313671, 3336571891, 3584528711, 113926993, 338241895, 666307205, 773529912, 1294757372, 1396182291, 1695183700, 1986661051, 2177026350, 2456956037, 2730485921, 2820302411, 3259730800, 3345764771, 3516065817, 3600352804, 4094571909, 275423344, 430227734, 506948616, 659060556, 883997877, 958139571, 1322822218, 1537002063, 1747873779, 1955562222, 2024104815, 2227730452, 2361852424, 2428436474, 2756734187, 3204031479, 3329325298]
theorem roots_ref : J7 = some G7 := rfl
theorem Lb : Gg = some G7 := rfl
theorem G8 : G7.length = 64 := rfl
theorem ref_round (rec4 : List Int → Int → Option (List Int)) (p1 z w : List Int) {s : List Int} (hs : s.length = 8) {t : Nat} (ht : t < 64) (hz : z.length = 64) (hw : w.length = 64) :
    Ze rec4 p1 z w s (t : Int) = rec4 (rnd s (z.getD t 0) (w.getD t 0)) ((t + 1 : Nat) : Int) := by
  obtain ⟨a, b, c, d, e, f, g, h, rfl⟩ := F2 hs
  unfold Ze
  have i0 : idx [a, b, c, d, e, f, g, h] 0 = some a := rfl
  have i1 : idx [a, b, c, d, e, f, g, h] 1 = some b := rfl
  have i2 : idx [a, b, c, d, e, f, g, h] 2 = some c := rfl
  have i3 : idx [a, b, c, d, e, f, g, h] 3 = some d := rfl
  have i4 : idx [a, b, c, d, e, f, g, h] 4 = some e := rfl
  have i5 : idx [a, b, c, d, e, f, g, h] 5 = some f := rfl
  have i6 : idx [a, b, c, d, e, f, g, h] 6 = some g := rfl
  have i7 : idx [a, b, c, d, e, f, g, h] 7 = some h := rfl
  have iz := V1 z t 0 (by omega)
  have iw := V1 w t 0 (by omega)
  have g6 := Kq e 6 11 25 (by decide) (by decide) (by decide) (by decide)
  have g2 := Kq a 2 13 22 (by decide) (by decide) (by decide) (by decide)
  rw [show decide ((t : Int) < 64) = true by simp; omega, cond_true, show ((t : Int) + 1) = ((t + 1 : Nat) : Int) by omega, Xh (by omega)]
  simp only [i0, i1, i2, i3, i4, i5, i6, i7, iz, iw, g6, g2, Option.bind_some]
  rfl
theorem Lc (rec4 : List Int → Int → Option (List Int)) (p1 w z : List Int) {s : List Int} (hs : s.length = 8) {t : Nat} (ht : t < 64) (hz : z.length = 64) (hw : w.length = 64) :
    V7 rec4 p1 w z s (t : Int) = rec4 (rnd s (z.getD t 0) (w.getD t 0)) ((t + 1 : Nat) : Int) := by
  obtain ⟨a, b, c, d, e, f, g, h, rfl⟩ := F2 hs
  unfold V7
  have i0 : idx [a, b, c, d, e, f, g, h] 0 = some a := rfl
  have i1 : idx [a, b, c, d, e, f, g, h] 1 = some b := rfl
  have i2 : idx [a, b, c, d, e, f, g, h] 2 = some c := rfl
  have i4 : idx [a, b, c, d, e, f, g, h] 4 = some e := rfl
  have i5 : idx [a, b, c, d, e, f, g, h] 5 = some f := rfl
  have i6 : idx [a, b, c, d, e, f, g, h] 6 = some g := rfl
  have i7 : idx [a, b, c, d, e, f, g, h] 7 = some h := rfl
  have s1 : sub [a, b, c, d, e, f, g, h] 1 (([a, b, c, d, e, f, g, h].length : Nat) : Int) = some [b, c, d, e, f, g, h] := rfl
  have s0 : sub [a, b, c, d, e, f, g, h] 0 7 = some [a, b, c, d, e, f, g] := rfl
  have cp : cpy [a, b, c, d, e, f, g, h] (Int.toNat 1) [b, c, d, e, f, g, h].length [a, b, c, d, e, f, g] = [a, a, b, c, d, e, f, g] := rfl
  have j4 : idx [a, a, b, c, d, e, f, g] 4 = some d := rfl
  have j0 : idx [a, a, b, c, d, e, f, g] 0 = some a := rfl
  have st0 : ∀ x, List.set [a, a, b, c, d, e, f, g] (Int.toNat 0) x = [x, a, b, c, d, e, f, g] := fun _ => rfl
  have k4 : ∀ x, idx [x, a, b, c, d, e, f, g] 4 = some d := fun _ => rfl
  have st4 : ∀ x y, List.set [x, a, b, c, d, e, f, g] (Int.toNat 4) y = [x, a, b, c, y, e, f, g] := fun _ _ => rfl
  have iz := V1 z t 0 (by omega)
  have iw := V1 w t 0 (by omega)
  rw [show decide ((t : Int) < 64) = true by simp; omega, cond_true, show ((t : Int) + 1) = ((t + 1 : Nat) : Int) by omega, Xh (by omega)]
  simp only [i0, i1, i2, i4, i5, i6, i7, iz, iw, mix_6, mix_2, s1, s0, Option.bind_some, cp, j4, j0, st0, k4, st4, ch_eq, maj_eq]
  rfl
def rndS (p w : List Int) : Nat → List Int
  | 0 => p
  | t + 1 => rnd (rndS p w t) (G7.getD t 0) (w.getD t 0)
theorem Nn {p : List Int} (h : p.length = 8) (w : List Int) : ∀ t, (rndS p w t).length = 8
  | 0 => h
  | t + 1 => La (Nn h w t) _ _
def addI (p s : List Int) : List Int := (s.zip p).map fun x => IntKind.wrap .u32 (x.1 + x.2)
theorem ref_add (rec4 : List Int → Int → Option (List Int)) {p s : List Int} (hp : p.length = 8) (hs : s.length = 8) (f : Nat) : X5 rec4 s (f + 9) p 0 = some (addI s p) := by
  obtain ⟨a, b, c, d, e, q, g, h, rfl⟩ := F2 hs
  obtain ⟨a', b', c', d', e', q', g', h', rfl⟩ := F2 hp
  rfl
theorem prog_add (rec4 : List Int → Int → Option (List Int)) {p s : List Int} (hp : p.length = 8) (hs : s.length = 8) (f : Nat) : Xu rec4 p (f + 9) s 0 = some (addI p s) := by
  obtain ⟨a, b, c, d, e, q, g, h, rfl⟩ := F2 hs
  obtain ⟨a', b', c', d', e', q', g', h', rfl⟩ := F2 hp
  rfl
theorem add_comm8 {p s : List Int} (hp : p.length = 8) (hs : s.length = 8) : addI s p = addI p s := by
  obtain ⟨a, b, c, d, e, q, g, h, rfl⟩ := F2 hs
  obtain ⟨a', b', c', d', e', q', g', h', rfl⟩ := F2 hp
  simp [addI, Int.add_comm]
theorem I2 {p s : List Int} (hp : p.length = 8) (hs : s.length = 8) : (addI p s).length = 8 := by simp [addI, hp, hs]
theorem fuel9 : Zd = (Zd - 9) + 9 := by unfold Zd; omega
theorem Ld (p w : List Int) (hp : p.length = 8) (hw : w.length = 64) : ∀ (d t f : Nat), d = 64 - t → t ≤ 64 → d < f → Vq p G7 w f (rndS p w t) (t : Int) = some (addI p (rndS p w 64)) := by
  intro d
  induction d with
  | zero =>
    intro t f hd ht hf
    obtain ⟨f, rfl⟩ : ∃ g, f = g + 1 := ⟨f - 1, by omega⟩
    have : t = 64 := by omega
    subst this
    show Ze (Vq p G7 w f) p G7 w (rndS p w 64) ((64 : Nat) : Int) = _
    unfold Ze
    rw [show decide (((64 : Nat) : Int) < 64) = false by decide, cond_false, fuel9, ref_add _ hp (Nn hp w 64)]
    rw [add_comm8 hp (Nn hp w 64)]
  | succ d ih =>
    intro t f hd ht hf
    obtain ⟨f, rfl⟩ : ∃ g, f = g + 1 := ⟨f - 1, by omega⟩
    show Ze (Vq p G7 w f) p G7 w (rndS p w t) (t : Int) = _
    rw [ref_round _ _ _ _ (Nn hp w t) (by omega) G8 hw]
    exact ih (t + 1) f (by omega) (by omega) (by omega)
theorem I3 (p w : List Int) (hp : p.length = 8) (hw : w.length = 64) : ∀ (d t f : Nat), d = 64 - t → t ≤ 64 → d < f → Vg p w G7 f (rndS p w t) (t : Int) = some (addI p (rndS p w 64)) := by
  intro d
  induction d with
  | zero =>
    intro t f hd ht hf
    obtain ⟨f, rfl⟩ : ∃ g, f = g + 1 := ⟨f - 1, by omega⟩
    have : t = 64 := by omega
    subst this
    show V7 (Vg p w G7 f) p w G7 (rndS p w 64) ((64 : Nat) : Int) = _
    unfold V7
    rw [show decide (((64 : Nat) : Int) < 64) = false by decide, cond_false, fuel9, prog_add _ hp (Nn hp w 64)]
  | succ d ih =>
    intro t f hd ht hf
    obtain ⟨f, rfl⟩ : ∃ g, f = g + 1 := ⟨f - 1, by omega⟩
    show V7 (Vg p w G7 f) p w G7 (rndS p w t) (t : Int) = _
    rw [Lc _ _ _ _ (Nn hp w t) (by omega) G8 hw]
    exact ih (t + 1) f (by omega) (by omega) (by omega)
def Ln (h : List Int) (b : List UInt8) : List Int := addI h (rndS h (Gs b 64) 64)
theorem R5 {h : List Int} (hh : h.length = 8) (b : List UInt8) : (Ln h b).length = 8 := I2 hh (Nn hh _ 64)
theorem Fm {b c : List UInt8} (hh : ∀ i, i < 64 → b.getD i 0 = c.getD i 0) (h : List Int) : Ln h b = Ln h c := by
  have := Co hh 64
  unfold Ln
  rw [this]
theorem ref_block {h : List Int} (hh : h.length = 8) {b : List UInt8} (hb : 64 ≤ b.length) : Y8 h b = some (Ln h b) := by
  have hsc := Uv b 64
  unfold Y8 Ln
  rw [roots_ref, sched_ok b hb]
  generalize Gs b 64 = w at hsc ⊢
  have h1 := Ld h w hh hsc 64 0 Zd (by omega) (by omega) (by unfold Zd; omega)
  simp only [Option.bind_some, G8, hsc, Nat.beq_refl, chk]
  exact h1
theorem Em {h : List Int} (hh : h.length = 8) {b : List UInt8} (hb : 64 ≤ b.length) : Xv h (Gs b 64) = some (Ln h b) := by
  have hsc := Uv b 64
  unfold Xv Ln
  rw [Lb]
  generalize Gs b 64 = w at hsc ⊢
  have h1 := I3 h w hh hsc 64 0 Zd (by omega) (by omega) (by unfold Zd; omega)
  simp only [Option.bind_some, G8, hsc, Nat.beq_refl, chk]
  exact h1
end Go.Proofs.YtmgfanhcdfobhaaGreatDoor
namespace Go.Proofs.YtmgfanhcdfobhaaGreatDoor
def h0I : List Int := [1779033703, 3144134277, 1013904242, 2773480762, 1359893119, 2600822924, 528734635, 1541459225]
def fbS (h : List Int) (l : List UInt8) : Nat → List Int
  | 0 => h
  | k + 1 => Ln (fbS h l k) (l.drop (64 * k))
theorem Nu {h : List Int} (hh : h.length = 8) (l : List UInt8) : ∀ k, (fbS h l k).length = 8
  | 0 => hh
  | k + 1 => R5 (Nu hh l k) _
theorem Ca (l : List UInt8) (k i : Nat) : (l.drop k).getD i 0 = l.getD (k + i) 0 := by simp [List.getD]
theorem En {h : List Int} {l l' : List UInt8} : ∀ m, (∀ i, i < 64 * m → l.getD i 0 = l'.getD i 0) → fbS h l m = fbS h l' m
  | 0, _ => rfl
  | m + 1, hc => by
    simp only [fbS]
    rw [En m (fun i hi => hc i (by omega))]
    exact Fm (fun i hi => by rw [Ca, Ca]; exact hc _ (by omega)) _
theorem fbS_add (h : List Int) (l : List UInt8) (k : Nat) : ∀ q, fbS h l (k + q) = fbS (fbS h l k) (l.drop (64 * k)) q
  | 0 => rfl
  | q + 1 => by
    show Ln (fbS h l (k + q)) (l.drop (64 * (k + q))) = Ln (fbS (fbS h l k) (l.drop (64 * k)) q) ((l.drop (64 * k)).drop (64 * q))
    rw [fbS_add h l k q, List.drop_drop, show 64 * k + 64 * q = 64 * (k + q) by omega]
def outB (h : List Int) (i : Nat) : UInt8 := G3 (IntKind.wrap .u8 (Ud .u32 (h.getD (i / 4) 0) ((24 - 8 * (i % 4) : Nat) : Int)))
def F3 (h : List Int) : Nat → List UInt8
  | 0 => List.replicate 32 0
  | i + 1 => (F3 h i).set i (outB h i)
theorem R6 (h : List Int) : ∀ i, (F3 h i).length = 32
  | 0 => by simp [F3]
  | i + 1 => by simp [F3, R6 h i]
theorem div4 (i : Nat) (h : i < 1000) : IntKind.wrap .i64 (Int.tdiv (i : Int) 4) = ((i / 4 : Nat) : Int) := by
  have := B4 i 4
  rw [show ((4 : Nat) : Int) = 4 from rfl] at this
  rw [this, Xh (by omega)]
theorem mod4 (i : Nat) : Int.tmod (i : Int) 4 = ((i % 4 : Nat) : Int) := by
  have := C7 i 4
  rw [show ((4 : Nat) : Int) = 4 from rfl] at this
  exact this
theorem H0 (i : Nat) : IntKind.wrap .i64 (24 - IntKind.wrap .i64 (8 * Int.tmod (i : Int) 4)) = ((24 - 8 * (i % 4) : Nat) : Int) := by
  have h4 : i % 4 < 4 := Nat.mod_lt _ (by omega)
  rw [mod4, show (8 * ((i % 4 : Nat) : Int)) = ((8 * (i % 4) : Nat) : Int) by omega, Xh (by omega), show (24 - ((8 * (i % 4) : Nat) : Int)) = ((24 - 8 * (i % 4) : Nat) : Int) by omega, Xh (by omega)]
theorem Le (i : Nat) : IntKind.wrap .i64 (24 - IntKind.wrap .i64 (Int.tmod (i : Int) 4 * 8)) = ((24 - 8 * (i % 4) : Nat) : Int) := by rw [Int.mul_comm]; exact H0 i
theorem ref_out (r1 r2 r3) {h : List Int} (hh : h.length = 8) : ∀ (d i f : Nat), d = 32 - i → i ≤ 32 → d < f → Z9 r1 r2 r3 h f (F3 h i) (i : Int) = some (F3 h 32) := by
  intro d
  induction d with
  | zero =>
    intro i f hd hi hf
    obtain ⟨f, rfl⟩ : ∃ g, f = g + 1 := ⟨f - 1, by omega⟩
    have : i = 32 := by omega
    subst this
    show Z8 r1 r2 r3 (Z9 r1 r2 r3 h f) h (F3 h 32) ((32 : Nat) : Int) = _
    unfold Z8
    rw [show decide (((32 : Nat) : Int) < 32) = false by decide, cond_false]
  | succ d ih =>
    intro i f hd hi hf
    obtain ⟨f, rfl⟩ : ∃ g, f = g + 1 := ⟨f - 1, by omega⟩
    show Z8 r1 r2 r3 (Z9 r1 r2 r3 h f) h (F3 h i) (i : Int) = _
    unfold Z8
    have hl := R6 h i
    rw [show decide ((i : Int) < 32) = true by simp; omega, cond_true, div4 i (by omega), V1 h (i / 4) 0 (by omega), Option.bind_some, H0, show decide (0 ≤ ((24 - 8 * (i % 4) : Nat) : Int)) = true from decide_eq_true (by omega), V1 (F3 h i) i 0 (by omega), show ((i : Int) + 1) = ((i + 1 : Nat) : Int) by omega, Xh (by omega)]
    simp only [chk, Option.bind_some, Int.toNat_natCast]
    exact ih (i + 1) f (by omega) (by omega) (by omega)
theorem prog_out (r1 r2 r3) {h : List Int} (hh : h.length = 8) : ∀ (d i f : Nat), d = 32 - i → i ≤ 32 → d < f → Yr r1 r2 r3 h f (F3 h i) (i : Int) = some (F3 h 32) := by
  intro d
  induction d with
  | zero =>
    intro i f hd hi hf
    obtain ⟨f, rfl⟩ : ∃ g, f = g + 1 := ⟨f - 1, by omega⟩
    have : i = 32 := by omega
    subst this
    show Yq r1 r2 r3 (Yr r1 r2 r3 h f) h (F3 h 32) ((32 : Nat) : Int) = _
    unfold Yq
    rw [show decide (((32 : Nat) : Int) < 32) = false by decide, cond_false]
  | succ d ih =>
    intro i f hd hi hf
    obtain ⟨f, rfl⟩ : ∃ g, f = g + 1 := ⟨f - 1, by omega⟩
    show Yq r1 r2 r3 (Yr r1 r2 r3 h f) h (F3 h i) (i : Int) = _
    unfold Yq
    have hl := R6 h i
    rw [show decide ((i : Int) < 32) = true by simp; omega, cond_true, div4 i (by omega), V1 h (i / 4) 0 (by omega), Option.bind_some, Le, show decide (0 ≤ ((24 - 8 * (i % 4) : Nat) : Int)) = true from decide_eq_true (by omega), V1 (F3 h i) i 0 (by omega), show ((i : Int) + 1) = ((i + 1 : Nat) : Int) by omega, Xh (by omega)]
    simp only [chk, Option.bind_some, Int.toNat_natCast]
    exact ih (i + 1) f (by omega) (by omega) (by omega)
theorem out0 {F : List UInt8 → Int → Option (List UInt8)} {h : List Int} (hF : F (F3 h 0) ((0 : Nat) : Int) = some (F3 h 32)) : F (List.replicate 32 0) 0 = some (F3 h 32) := hF
def lenB (n i : Nat) : UInt8 := UInt8.ofNat (8 * n / 2 ^ (8 * i))
def Cp (n : Nat) : Nat → List UInt8
  | 0 => []
  | i + 1 => lenB n i :: Cp n i
theorem G9 (n : Nat) : ∀ i, (Cp n i).length = i
  | 0 => rfl
  | i + 1 => by simp [Cp, G9 n i]
theorem F4 (k : IntKind) (a b : Nat) (hb : b ≤ k.bits) : Ud k (a : Int) (b : Int) = ((a / 2 ^ b : Nat) : Int) := by
  unfold Ud
  rw [Int.toNat_natCast, Nat.min_eq_left hb, Int.fdiv_eq_ediv_of_nonneg _ (by exact Int.le_of_lt (Int.pow_pos (by omega)))]
  have : ((2 : Int) ^ b) = ((2 ^ b : Nat) : Int) := by push_cast; rfl
  rw [this]
  rfl
theorem lenB_ref {n i : Nat} (hn : n ≤ 1073741824) (hi : i < 8) : G3 (IntKind.wrap .u8 (Ud .i64 (IntKind.wrap .i64 (8 * ((n : Nat) : Int))) (IntKind.wrap .i64 (8 * (i : Int))))) = lenB n i := by
  rw [show (8 * ((n : Nat) : Int)) = ((8 * n : Nat) : Int) by omega, Xh (by omega), show (8 * (i : Int)) = ((8 * i : Nat) : Int) by omega, Xh (by omega), F4 _ _ _ (by show 8 * i ≤ 64; omega), B3]
  rfl
theorem wrapu {n : Nat} (h : n < 18446744073709551616) : IntKind.wrap .u64 (n : Int) = (n : Int) := by
  unfold IntKind.wrap
  simp only [IntKind.bits, IntKind.signed]
  simp
  omega
theorem lenB_prog {n i : Nat} (hn : n ≤ 1073741824) (hi : i < 8) : G3 (IntKind.wrap .u8 (Ud .u64 (IntKind.wrap .u64 (IntKind.wrap .u64 ((n : Nat) : Int) * 8)) (IntKind.wrap .i64 (8 * (i : Int))))) = lenB n i := by
  rw [wrapu (by omega), show (((n : Nat) : Int) * 8) = ((8 * n : Nat) : Int) by omega, wrapu (by omega), show (8 * (i : Int)) = ((8 * i : Nat) : Int) by omega, Xh (by omega), F4 _ _ _ (by show 8 * i ≤ 64; omega), B3]
  rfl
def sumH (l : List UInt8) (m : Nat) : List UInt8 := F3 (fbS h0I l m) 32
theorem I4 (l : List UInt8) (m : Nat) : (sumH l m).length = 32 := R6 _ _
theorem Lf (r1 r2) {all : List UInt8} {m : Nat} (ha : all.length = 64 * m) (hm : m ≤ 1073741824) : ∀ (d k f : Nat), d = m - k → k ≤ m → d < f → Vn r1 r2 all f (fbS h0I all k) ((64 * k : Nat) : Int) = some (sumH all m) := by
  intro d
  induction d with
  | zero =>
    intro k f hd hk hf
    obtain ⟨f, rfl⟩ : ∃ g, f = g + 1 := ⟨f - 1, by omega⟩
    have : k = m := by omega
    subst this
    show Xa r1 r2 (Vn r1 r2 all f) all (fbS h0I all k) ((64 * k : Nat) : Int) = _
    unfold Xa
    rw [ha, show decide (((64 * k : Nat) : Int) < ((64 * k : Nat) : Int)) = false by simp, cond_false]
    exact out0 (ref_out _ _ _ (Nu rfl all k) 32 0 Zd (by omega) (by omega) (by unfold Zd; omega))
  | succ d ih =>
    intro k f hd hk hf
    obtain ⟨f, rfl⟩ : ∃ g, f = g + 1 := ⟨f - 1, by omega⟩
    show Xa r1 r2 (Vn r1 r2 all f) all (fbS h0I all k) ((64 * k : Nat) : Int) = _
    unfold Xa
    have hlb : ((all.take (64 * k + 64)).drop (64 * k)).length = 64 := by simp; omega
    rw [ha, show decide (((64 * k : Nat) : Int) < ((64 * m : Nat) : Int)) = true by simp; omega, cond_true, show (((64 * k : Nat) : Int) + 64) = ((64 * k + 64 : Nat) : Int) by omega, Xh (by omega), Io all (by omega) (by omega), Option.bind_some, ref_block (Nu rfl all k) (by omega), Option.bind_some, R5 (Nu rfl all k)]
    rw [show Ln (fbS h0I all k) ((all.take (64 * k + 64)).drop (64 * k)) = fbS h0I all (k + 1) from Fm (fun i hi => by
      rw [Ca, Ca]
      simp [List.getD, List.getElem?_take, show 64 * k + i < 64 * k + 64 by omega]) _]
    simp only [Nat.beq_refl, chk, Option.bind_some]
    exact ih (k + 1) f (by omega) (by omega) (by omega)
theorem ref_lens (r1) (b : List UInt8) (hb : b.length ≤ 1073741824) {R : List UInt8} : ∀ (i : Nat) (v : List UInt8) (f : Nat), i ≤ 8 → i < f → v.length + i ≤ 2147483648 → (∀ r2, Vn r1 r2 (v ++ Cp b.length i) Zd h0I 0 = some R) → Qx r1 b f v ((i : Int) - 1) = some R := by
  intro i
  induction i with
  | zero =>
    intro v f _ hf _ hR
    obtain ⟨f, rfl⟩ : ∃ g, f = g + 1 := ⟨f - 1, by omega⟩
    show Xb r1 (Qx r1 b f) b v (((0 : Nat) : Int) - 1) = _
    unfold Xb
    rw [show decide ((((0 : Nat) : Int) - 1) ≥ 0) = false by decide, cond_false]
    have := hR (Qx r1 b f)
    rw [show Cp b.length 0 = [] from rfl, List.append_nil] at this
    exact this
  | succ i ih =>
    intro v f h8 hf hv hR
    obtain ⟨f, rfl⟩ : ∃ g, f = g + 1 := ⟨f - 1, by omega⟩
    show Xb r1 (Qx r1 b f) b v (((i + 1 : Nat) : Int) - 1) = _
    unfold Xb
    rw [show (((i + 1 : Nat) : Int) - 1) = (i : Int) by omega, show decide ((i : Int) ≥ 0) = true by simp, cond_true, lenB_ref hb (by omega), Dh (x := 8 * (i : Int)) (by omega), show decide (0 ≤ 8 * (i : Int)) = true by simp; omega, N6 (by simp; omega), Dh (x := (i : Int) - 1) (by omega)]
    simp only [chk, Option.bind_some]
    exact ih (v ++ [lenB b.length i]) f (by omega) (by omega) (by simp; omega) fun r2 => by
      have := hR r2
      rw [show Cp b.length (i + 1) = [lenB b.length i] ++ Cp b.length i from rfl, ← List.append_assoc] at this
      exact this
theorem ref_zeros (b : List UInt8) {R : List UInt8} : ∀ (z : Nat) (v : List UInt8) (f : Nat), (v.length + z) % 64 = 56 → z < 64 → z < f → v.length + z ≤ 2147483648 → (∀ r1, Qx r1 b Zd (v ++ List.replicate z 0) 7 = some R) → Qo b f v = some R := by
  intro z
  induction z with
  | zero =>
    intro v f hz _ hf _ hR
    obtain ⟨f, rfl⟩ : ∃ g, f = g + 1 := ⟨f - 1, by omega⟩
    show Xc (Qo b f) b v = _
    unfold Xc
    have hm : Int.tmod ((v.length : Nat) : Int) 64 = 56 := by
      have := C7 v.length 64
      rw [show ((64 : Nat) : Int) = 64 from rfl] at this
      rw [this]; omega
    rw [hm, show ((56 : Int) != 56) = false by decide, cond_false]
    have := hR (Qo b f)
    rw [show List.replicate 0 (0 : UInt8) = [] from rfl, List.append_nil] at this
    exact this
  | succ z ih =>
    intro v f hz h64 hf hv hR
    obtain ⟨f, rfl⟩ : ∃ g, f = g + 1 := ⟨f - 1, by omega⟩
    show Xc (Qo b f) b v = _
    unfold Xc
    have hm : Int.tmod ((v.length : Nat) : Int) 64 = ((v.length % 64 : Nat) : Int) := by
      have := C7 v.length 64
      rw [show ((64 : Nat) : Int) = 64 from rfl] at this
      exact this
    rw [hm, show (((v.length % 64 : Nat) : Int) != 56) = true by simp; omega, cond_true, N6 (by simp; omega), Option.bind_some]
    refine ih (v ++ [0]) f (by simp; omega) (by omega) (by omega) (by simp; omega) fun r1 => ?_
    have := hR r1
    rw [show List.replicate (z + 1) (0 : UInt8) = [0] ++ List.replicate z 0 from rfl, ← List.append_assoc] at this
    exact this
def zc (n : Nat) : Nat := if n % 64 < 56 then 55 - n % 64 else 119 - n % 64
def mB (n : Nat) : Nat := if n % 64 < 56 then n / 64 + 1 else n / 64 + 2
def padL (b : List UInt8) : List UInt8 := b ++ [128] ++ List.replicate (zc b.length) 0 ++ Cp b.length 8
theorem zc_ok (n : Nat) : (n + 1 + zc n) % 64 = 56 ∧ zc n < 64 ∧ n + 1 + zc n + 8 = 64 * mB n := by unfold zc mB; split <;> omega
theorem I5 (b : List UInt8) : (padL b).length = 64 * mB b.length := by
  have := zc_ok b.length
  simp [padL, G9]
  omega
def Lo (b : List UInt8) : List UInt8 := sumH (padL b) (mB b.length)
theorem Yd (b : List UInt8) : (Lo b).length = 32 := I4 _ _
theorem I6 (b : List UInt8) (hb : b.length ≤ 1073741824) : Yc b = some (Lo b) := by
  have hz := zc_ok b.length
  unfold Yc
  rw [N6 (by simp; omega), Option.bind_some, List.nil_append, N6 (by simp; omega), Option.bind_some]
  refine ref_zeros b (zc b.length) (b ++ [128]) Zd (by simp; omega) hz.2.1 (by unfold Zd; omega) (by simp; omega) fun r1 => ?_
  refine ref_lens r1 b hb 8 _ Zd (by omega) (by unfold Zd; omega) (by simp; omega) fun r2 => ?_
  exact Lf r1 r2 (I5 b) (by unfold mB; split <;> omega) (mB b.length) 0 Zd (by omega) (by omega) (by unfold Zd mB; split <;> omega)
end Go.Proofs.YtmgfanhcdfobhaaGreatDoor
namespace Go.Proofs.YtmgfanhcdfobhaaGreatDoor
theorem F5 (l : List UInt8) (k : Nat) (h : k ≤ l.length) : sub l (k : Int) ((l.length : Nat) : Int) = some (l.drop k) := by
  rw [Io l h (Nat.le_refl _), List.take_length]
theorem H1 (r1 r2) {h : List Int} (hh : h.length = 8) {en : List UInt8} {m : Nat} (he : en.length = 128) (hm : m ≤ 2) : ∀ (d k f : Nat), d = m - k → k ≤ m → d < f → Zp r1 r2 ((64 * m : Nat) : Int) en f (fbS h en k) ((64 * k : Nat) : Int) = some (F3 (fbS h en m) 32) := by
  intro d
  induction d with
  | zero =>
    intro k f hd hk hf
    obtain ⟨f, rfl⟩ : ∃ g, f = g + 1 := ⟨f - 1, by omega⟩
    have : k = m := by omega
    subst this
    show Ys r1 r2 (Zp r1 r2 ((64 * k : Nat) : Int) en f) ((64 * k : Nat) : Int) en (fbS h en k) ((64 * k : Nat) : Int) = _
    unfold Ys
    rw [show decide (((64 * k : Nat) : Int) < ((64 * k : Nat) : Int)) = false by simp, cond_false]
    exact out0 (prog_out _ _ _ (Nu hh en k) 32 0 Zd (by omega) (by omega) (by unfold Zd; omega))
  | succ d ih =>
    intro k f hd hk hf
    obtain ⟨f, rfl⟩ : ∃ g, f = g + 1 := ⟨f - 1, by omega⟩
    show Ys r1 r2 (Zp r1 r2 ((64 * m : Nat) : Int) en f) ((64 * m : Nat) : Int) en (fbS h en k) ((64 * k : Nat) : Int) = _
    unfold Ys
    have hl := Nu hh en k
    rw [show decide (((64 * k : Nat) : Int) < ((64 * m : Nat) : Int)) = true by simp; omega, cond_true, F5 en (64 * k) (by omega), Option.bind_some, Kr _ (by simp; omega), Option.bind_some, Uv, show Nat.beq 64 64 = true from rfl]
    simp only [chk, Option.bind_some]
    rw [Em hl (by simp; omega), Option.bind_some, R5 hl, show (((64 * k : Nat) : Int) + 64) = ((64 * (k + 1) : Nat) : Int) by omega, Xh (by omega)]
    simp only [Nat.beq_refl, Option.bind_some]
    exact ih (k + 1) f (by omega) (by omega) (by omega)
def I7 (e1 : List UInt8) (n last i : Nat) : List UInt8 := e1.take (last - i) ++ Cp n i ++ e1.drop last
theorem Eo {e1 : List UInt8} (he : e1.length = 128) {n last i : Nat} (hl : last ≤ 128) (hi : i ≤ last) : (I7 e1 n last i).length = 128 := by
  simp [I7, G9]
  omega
theorem endS_next {e1 : List UInt8} (he : e1.length = 128) {n last i : Nat} (hl : last ≤ 128) (hi : i < last) : (I7 e1 n last i).set (last - 1 - i) (lenB n i) = I7 e1 n last (i + 1) := by
  have h1 : (e1.take (last - i)).set (last - 1 - i) (lenB n i) = e1.take (last - (i + 1)) ++ [lenB n i] := by
    rw [show last - i = (last - 1 - i) + 1 by omega, List.take_add_one, show last - (i + 1) = last - 1 - i by omega]
    have hlt : last - 1 - i < e1.length := by omega
    rw [List.getElem?_eq_getElem hlt]
    rw [List.set_append_right _ _ (by simp; omega)]
    simp
    rw [show last - 1 - i - min (last - 1 - i) e1.length = 0 by omega]
    rfl
  unfold I7
  rw [List.append_assoc, List.set_append_left _ _ (by simp; omega), h1]
  simp [Cp]
theorem prog_lens (r1) (b : List UInt8) (hb : b.length ≤ 1073741824) {h : List Int} {e1 : List UInt8} (he : e1.length = 128) {last : Nat} (hl : last ≤ 128) (h8 : 8 ≤ last) {R : List UInt8} (hR : ∀ r2, Zp r1 r2 (last : Int) (I7 e1 b.length last 8) Zd h 0 = some R) :
    ∀ (d i f : Nat), d = 8 - i → i ≤ 8 → d < f → Vk r1 b h (last : Int) f (I7 e1 b.length last i) (i : Int) = some R := by
  intro d
  induction d with
  | zero =>
    intro i f hd hi hf
    obtain ⟨f, rfl⟩ : ∃ g, f = g + 1 := ⟨f - 1, by omega⟩
    have : i = 8 := by omega
    subst this
    show Yt r1 (Vk r1 b h (last : Int) f) b h (last : Int) (I7 e1 b.length last 8) ((8 : Nat) : Int) = _
    unfold Yt
    rw [show decide (((8 : Nat) : Int) < 8) = false by decide, cond_false]
    exact hR _
  | succ d ih =>
    intro i f hd hi hf
    obtain ⟨f, rfl⟩ : ∃ g, f = g + 1 := ⟨f - 1, by omega⟩
    show Yt r1 (Vk r1 b h (last : Int) f) b h (last : Int) (I7 e1 b.length last i) (i : Int) = _
    unfold Yt
    have hle := Eo he (n := b.length) hl (show i ≤ last by omega)
    rw [show decide ((i : Int) < 8) = true by simp; omega, cond_true, lenB_prog hb (by omega), Dh (x := 8 * (i : Int)) (by omega), show decide (0 ≤ 8 * (i : Int)) = true from decide_eq_true (by omega), Dh (x := (last : Int) - 1) (by omega), show ((last : Int) - 1 - (i : Int)) = ((last - 1 - i : Nat) : Int) by omega, Xh (by omega), V1 _ _ 0 (by omega), show ((i : Int) + 1) = ((i + 1 : Nat) : Int) by omega, Xh (by omega)]
    simp only [chk, Option.bind_some, Int.toNat_natCast]
    rw [endS_next he hl (by omega)]
    exact ih (i + 1) f (by omega) (by omega) (by omega)
theorem H2 (b : List UInt8) (hb : b.length ≤ 1073741824) {R : List UInt8} (hR : ∀ rec, Yu rec b (fbS h0I b (b.length / 64)) ((64 * (b.length / 64) : Nat) : Int) = some R) :
    ∀ (d k f : Nat), d = b.length / 64 - k → k ≤ b.length / 64 → d < f → Qt b f (fbS h0I b k) ((64 * k : Nat) : Int) = some R := by
  have hw : IntKind.wrap .i64 (IntKind.wrap .i64 (Int.tdiv ((b.length : Nat) : Int) 64) * 64) = ((64 * (b.length / 64) : Nat) : Int) := by
    have := B4 b.length 64
    rw [show ((64 : Nat) : Int) = 64 from rfl] at this
    rw [this, Xh (by omega), show (((b.length / 64 : Nat) : Int) * 64) = ((64 * (b.length / 64) : Nat) : Int) by omega, Xh (by omega)]
  intro d
  induction d with
  | zero =>
    intro k f hd hk hf
    obtain ⟨f, rfl⟩ : ∃ g, f = g + 1 := ⟨f - 1, by omega⟩
    have : k = b.length / 64 := by omega
    subst this
    exact hR _
  | succ d ih =>
    intro k f hd hk hf
    obtain ⟨f, rfl⟩ : ∃ g, f = g + 1 := ⟨f - 1, by omega⟩
    show Yu (Qt b f) b (fbS h0I b k) ((64 * k : Nat) : Int) = _
    unfold Yu
    have hl := Nu (h := h0I) rfl b k
    rw [hw, show decide (((64 * k : Nat) : Int) < ((64 * (b.length / 64) : Nat) : Int)) = true by simp; omega, cond_true, F5 b (64 * k) (by omega), Option.bind_some, Kr _ (by simp; omega), Option.bind_some, Uv, show Nat.beq 64 64 = true from rfl]
    simp only [chk, Option.bind_some]
    rw [Em hl (by simp; omega), Option.bind_some, R5 hl, show (((64 * k : Nat) : Int) + 64) = ((64 * (k + 1) : Nat) : Int) by omega, Xh (by omega)]
    simp only [Nat.beq_refl, Option.bind_some]
    exact ih (k + 1) f (by omega) (by omega) (by omega)
theorem Ks (b : List UInt8) (hb : b.length ≤ 1073741824) : Nr b = some (Lo b) := by
  unfold Nr
  rw [show Uq = some h0I from rfl, Option.bind_some, show Nat.beq (List.length h0I) 8 = true from rfl]
  simp only [chk, Option.bind_some]
  refine H2 b hb (R := Lo b) (fun rec => ?_) (b.length / 64) 0 Zd (by omega) (by omega) (by unfold Zd; omega)
  have hw : IntKind.wrap .i64 (IntKind.wrap .i64 (Int.tdiv ((b.length : Nat) : Int) 64) * 64) = ((64 * (b.length / 64) : Nat) : Int) := by
    have := B4 b.length 64
    rw [show ((64 : Nat) : Int) = 64 from rfl] at this
    rw [this, Xh (by omega), show (((b.length / 64 : Nat) : Int) * 64) = ((64 * (b.length / 64) : Nat) : Int) by omega, Xh (by omega)]
  unfold Yu
  rw [hw, show decide (((64 * (b.length / 64) : Nat) : Int) < ((64 * (b.length / 64) : Nat) : Int)) = false by simp, cond_false, F5 b (64 * (b.length / 64)) (by omega), Option.bind_some]
  obtain ⟨r, hr⟩ : ∃ r, b.drop (64 * (b.length / 64)) = r := ⟨_, rfl⟩
  have hrl : r.length = b.length % 64 := by rw [← hr]; simp; omega
  have hn64 : b.length % 64 < 64 := Nat.mod_lt _ (by omega)
  rw [hr, Option.bind_some]
  have hcpy : cpy (List.replicate 128 (0 : UInt8)) 0 (List.length (List.replicate 128 (0 : UInt8))) r = r ++ List.replicate (128 - r.length) 0 := by
    unfold cpy
    rw [List.take_zero, List.nil_append, List.length_replicate, List.take_of_length_le (by omega), List.drop_replicate, show 128 - (0 + min 128 r.length) = 128 - r.length by omega]
  rw [hcpy]
  have hmin : min ((r.length : Nat) : Int) ((List.length (List.replicate 128 (0 : UInt8)) : Nat) : Int) = ((b.length % 64 : Nat) : Int) := by rw [List.length_replicate, hrl]; omega
  rw [hmin, Int.toNat_natCast]
  have h128 : (r ++ List.replicate (128 - r.length) (0 : UInt8)).length = 128 := by simp; omega
  rw [V1 _ _ 0 (by rw [h128]; omega), Option.bind_some, Option.bind_some]
  obtain ⟨e1, he1⟩ : ∃ e1, (r ++ List.replicate (128 - r.length) (0 : UInt8)).set (b.length % 64) 128 = e1 := ⟨_, rfl⟩
  rw [he1]
  have he : e1.length = 128 := by rw [← he1, List.length_set, h128]
  have he1' : e1 = r ++ [128] ++ List.replicate (127 - r.length) 0 := by
    rw [← he1, ← hrl, List.set_append_right _ _ (Nat.le_refl _), Nat.sub_self, show 128 - r.length = (127 - r.length) + 1 by omega, List.replicate_succ]
    simp
  have e9 : IntKind.wrap .i64 (IntKind.wrap .i64 (((b.length % 64 : Nat) : Int) + 1) + 8) = ((b.length % 64 + 9 : Nat) : Int) := by
    rw [show (((b.length % 64 : Nat) : Int) + 1) = ((b.length % 64 + 1 : Nat) : Int) by omega, Xh (by omega), show (((b.length % 64 + 1 : Nat) : Int) + 8) = ((b.length % 64 + 9 : Nat) : Int) by omega, Xh (by omega)]
  rw [e9]
  have hz := zc_ok b.length
  have hfin : ∀ m, m ≤ 2 → 1 ≤ m → mB b.length = b.length / 64 + m → Jf rec b (fbS h0I b (b.length / 64)) e1 ((64 * m : Nat) : Int) = some (Lo b) := by
    intro m hm h1 hmB
    have hzc : zc b.length = 64 * m - 9 - r.length := by have := hz.2.2; omega
    have hend : ∀ i, i < 64 * m → (I7 e1 b.length (64 * m) 8).getD i 0 = ((padL b).drop (64 * (b.length / 64))).getD i 0 := by
      intro i hi
      have h1 : (padL b).drop (64 * (b.length / 64)) = r ++ [128] ++ List.replicate (zc b.length) 0 ++ Cp b.length 8 := by
        unfold padL
        rw [List.append_assoc, List.append_assoc, List.drop_append_of_le_length (by omega), hr]
        simp
      have h2 : I7 e1 b.length (64 * m) 8 = (r ++ [128] ++ List.replicate (zc b.length) 0 ++ Cp b.length 8) ++ e1.drop (64 * m) := by
        have h3 : e1.take (64 * m - 8) = r ++ [128] ++ List.replicate (zc b.length) 0 := by
          rw [he1', List.take_append, List.take_of_length_le (by simp; omega), List.take_replicate]
          rw [show min (64 * m - 8 - (r ++ [(128 : UInt8)]).length) (127 - r.length) = zc b.length by simp; omega]
        unfold I7
        rw [h3]
      rw [h1, h2]
      simp only [List.getD]
      rw [List.getElem?_append_left (by simp [G9]; omega)]
    unfold Jf
    have hE0 : e1 = I7 e1 b.length (64 * m) 0 := by
      unfold I7
      simp [Cp]
    have := prog_lens rec b hb (h := fbS h0I b (b.length / 64)) he (last := 64 * m) (by omega) (by omega) (R := Lo b) (fun r2 => by
      have h3 := H1 rec r2 (h := fbS h0I b (b.length / 64)) (Nu rfl b _) (m := m) (Eo he (n := b.length) (last := 64 * m) (i := 8) (by omega) (by omega)) hm m 0 Zd (by omega) (by omega) (by unfold Zd; omega)
      have h4 : fbS (fbS h0I b (b.length / 64)) (I7 e1 b.length (64 * m) 8) m = fbS h0I (padL b) (mB b.length) := by
        have h5 : fbS h0I b (b.length / 64) = fbS h0I (padL b) (b.length / 64) := by
          refine En _ (fun i hi => ?_)
          unfold padL
          simp only [List.getD]
          rw [List.append_assoc, List.append_assoc, List.getElem?_append_left (by omega)]
        rw [hmB, fbS_add, En m hend, h5]
      rw [h4] at h3
      exact h3) 8 0 Zd (by omega) (by omega) (by unfold Zd; omega)
    rw [← hE0] at this
    exact this
  by_cases h56 : b.length % 64 < 56
  · rw [show decide (((b.length % 64 + 9 : Nat) : Int) > 64) = false from decide_eq_false (by omega), cond_false]
    exact hfin 1 (by omega) (by omega) (by unfold mB; rw [if_pos h56])
  · rw [show decide (((b.length % 64 + 9 : Nat) : Int) > 64) = true from decide_eq_true (by omega), cond_true]
    exact hfin 2 (by omega) (by omega) (by unfold mB; rw [if_neg h56])
end Go.Proofs.YtmgfanhcdfobhaaGreatDoor
namespace Go.Proofs.YtmgfanhcdfobhaaGreatDoor
open Go.RowKit
def Rq (p1 : (List UInt8)) : Option ((List UInt8)) :=
  (cond (decide (((List.length p1 : Nat) : Int) > 255)) (some (([] : List UInt8))) ((app ([(G3 (IntKind.wrap .u8 ((List.length p1 : Nat) : Int)))] : List UInt8) p1).bind fun a => (some (a))))
set_option maxRecDepth 100000 in
set_option maxHeartbeats 4000000 in
theorem Ep  (p1 : (List UInt8)) (w0 : World)  (r : ((List UInt8))) (H : Rq p1 = some r) :
  Calls Tryz.prog 69 #[(.string ⟨List.toArray p1⟩)] w0 (fun e w' => ∃ (A2 : Option Addr) (c3 : Nat), e = .returned (.slice A2 (List.length r) c3) ∧ SP [] w0 w' [Ja 5 eU8 A2 c3 r]) := by
 unfold Rq at H
 refine Qv (n := 12) Tryz.func69 K K K ?_
 have h := Q1 [] w0
 refine aQ ?_
 refine aR ?_
 refine iR 1 1 [(2, (.slice none (List.length ([] : List UInt8)) 0))] ?_
 refine iF ?_
 refine aQ ?_
 refine aQ ?_
 refine aR ?_
 refine iR 3 3 [(3, (.string ⟨List.toArray p1⟩)), (4, (.int .i64 ((List.length p1 : Nat) : Int))), (5, (.bool (decide (((List.length p1 : Nat) : Int) > 255))))] ?_
 refine iF ?_
 refine Zs K (o := (.tmp 5)) K (b := (decide (((List.length p1 : Nat) : Int) > 255))) K (fun a => ?_) (fun a => ?_)
 ·have H := ct H a
  refine aQ ?_
  refine aR ?_
  refine iR 1 1 [(2, (.slice none (List.length ([] : List UInt8)) 0))] ?_
  refine iF ?_
  refine At.ret K ?_
  have p : SP [] w0 w0 [Ja 5 eU8 none 0 ([] : List UInt8)] := Rh h 5 eU8
  refine ⟨(.slice none (List.length ([] : List UInt8)) 0), K, ?_⟩
  obtain rfl := Qm H
  exact ⟨none, 0, rfl, SP.sel p [0] rfl rfl⟩
 ·have H := cf H a
  refine At.skip K ?_
  refine aQ ?_
  refine aR ?_
  refine iR 3 3 [(6, (.string ⟨List.toArray p1⟩)), (7, (.int .i64 ((List.length p1 : Nat) : Int))), (8, (.int .u8 (IntKind.wrap .u8 ((List.length p1 : Nat) : Int))))] ?_
  refine iS 4 ?_
  refine V6 (e := eU8) (T := 52) (E := 5) (len := 1) (parts := #[(0, (.tmp 8))]) (cs := #[(.int .u8 (IntKind.wrap .u8 ((List.length p1 : Nat) : Int)))]) ([(G3 (IntKind.wrap .u8 ((List.length p1 : Nat) : Int)))] : List UInt8) (d := (some 9)) (k := 3) K rfl (fun _ => K) h (J1 (Or.inr ⟨rfl, (Du _)⟩) rfl) rfl rfl rfl ?_
  intro g7 w8 q
  refine iR 1 5 [(10, (.string ⟨List.toArray p1⟩))] ?_
  obtain ⟨hl11, H⟩ := Jb H
  obtain ⟨j, hyl12⟩ : ∃ y, ([(G3 (IntKind.wrap .u8 ((List.length p1 : Nat) : Int)))] : List UInt8) ++ p1 = y := ⟨_, rfl⟩
  rw [hyl12] at H
  refine iS 6 ?_
  refine Qj.append (e := eU8) (l := ([(G3 (IntKind.wrap .u8 ((List.length p1 : Nat) : Int)))] : List UInt8)) (m := p1) (A := (some ⟨g7, 0, none⟩)) (c := (List.length ([(G3 (IntKind.wrap .u8 ((List.length p1 : Nat) : Int)))] : List UInt8))) (T := 52) (TX := 9) (E := 5) (b := 1) (s := (.tmp 9)) (x := (.tmp 10)) (i := 0) (vx := (.string ⟨List.toArray p1⟩)) (d := (some 11)) (k := 5) K rfl K K K K rfl q rfl (src_str K p1) hl11 ?_
  rw [hyl12]
  intro f g u t
  refine iR 1 7 [(2, (.slice f (List.length j) g))] ?_
  refine iF ?_
  refine At.ret K ?_
  refine ⟨(.slice f (List.length j) g), K, ?_⟩
  obtain rfl := Qm H
  exact ⟨f, g, rfl, SP.sel t [0] rfl rfl⟩
def Gb (a : (List UInt8)) : Option ((List UInt8)) :=
  ((some (cpy (List.replicate 64 (0 : UInt8)) 0 (List.length (List.replicate 64 (0 : UInt8))) a)).bind fun b => (some (b)))
def Cb (p1 : (List UInt8)) : Option ((List UInt8)) :=
  (cond (decide (((List.length p1 : Nat) : Int) > 64)) ((Nr p1).bind fun a => ((chk (Nat.beq (List.length a) 32)).bind fun _ => (Gb a))) (Gb p1))
set_option maxRecDepth 100000 in
set_option maxHeartbeats 4000000 in
theorem F6 (A2 : Option Addr) (c3 : Nat) (p1 : (List UInt8)) (w0 : World) (a3 : RdT eU8 w0 A2 c3 p1) (r : ((List UInt8))) (H : Cb p1 = some r) :
  Calls Tryz.prog 92 #[(.slice A2 (List.length p1) c3)] w0 (fun e w' => e = .returned (.agg (Qb eU8 r).toArray) ∧ SP [] w0 w' []) := by
 unfold Cb at H
 refine Qv (n := 15) Tryz.func92 K K K ?_
 have a8 := Q1 [] w0
 refine aQ ?_
 refine aR ?_
 refine iS 1 ?_
 refine Qz (e := eU8) (l := (List.replicate 64 (0 : UInt8))) (m := 64) (t := 125) (z := .agg (Qb eU8 (List.replicate 64 (0 : UInt8))).toArray) (d := (some 2)) (k := 0) K rfl K rfl rfl K a8 ?_
 intro g5 w6 a9
 refine iF ?_
 refine aQ ?_
 refine aR ?_
 refine iS 1 ?_
 refine Qz (e := eU8) (l := (List.replicate 64 (0 : UInt8))) (m := 64) (t := 125) (z := .agg (Qb eU8 (List.replicate 64 (0 : UInt8))).toArray) (d := (some 3)) (k := 0) K rfl K rfl rfl K a9 ?_
 intro g9 b0 s
 refine iF ?_
 refine aQ ?_
 refine aQ ?_
 refine aR ?_
 refine iR 3 3 [(5, (.slice A2 (List.length p1) c3)), (6, (.int .i64 ((List.length p1 : Nat) : Int))), (7, (.bool (decide (((List.length p1 : Nat) : Int) > 64))))] ?_
 refine iF ?_
 refine At.join (fun ρ w => ∃ (c : (List UInt8)) (h : Option Addr) (j : Nat), Zg ρ [(0, (.slice h (List.length c) j)), (2, (pt g5 0)), (3, (pt g9 0))] ∧ SP [] w0 w [Vb 125 eU8 g5 64 (List.replicate 64 (0 : UInt8)), Vb 125 eU8 g9 64 (List.replicate 64 (0 : UInt8))] ∧ RdT eU8 w h j c ∧ Gb c = some r) ?_ ?_
 ·refine Zs K (o := (.tmp 7)) K (b := (decide (((List.length p1 : Nat) : Int) > 64))) K (fun a0 => ?_) (fun a0 => ?_)
  ·have H := ct H a0
   refine aQ ?_
   refine aR ?_
   refine iR 1 1 [(8, (.slice A2 (List.length p1) c3))] ?_
   obtain ⟨p, b1, H⟩ := Qg H
   obtain ⟨a1, H⟩ := Vu H
   replace a1 := Nat.eq_of_beq_eq_true a1
   refine iS 2 ?_
   refine cF 100 #[(.tmp 8)] #[52] 9 Tryz.call100 (Rn A2 c3 p1 b0 (RdT.sp a3 s) p b1) ?_
   rintro e b7 ⟨rfl, a4⟩
   refine ⟨_, rfl, ?_⟩
   have b2 := SP.call s a4
   clear a4
   refine iS 3 ?_
   refine Qz (e := eU8) (l := (List.replicate 32 (0 : UInt8))) (m := 32) (t := 89) (z := .agg (Qb eU8 (List.replicate 32 (0 : UInt8))).toArray) (d := (some 4)) (k := 2) K rfl K rfl rfl K b2 ?_
   intro u b8 b3
   refine iS 4 ?_
   refine Q8 (e := eU8) (l := (List.replicate 32 (0 : UInt8))) (l' := p) (m := 32) (t := 89) (x := (.tmp 4)) (y := (.tmp 9)) (g := u) (i := 2) (d := none) (k := 3) K rfl K K a1 b3 rfl K ?_
   intro b9 a2
   refine iF ?_
   refine aR ?_
   refine iS 1 ?_
   refine Yz (e := eU8) (l := p) (m := 32) (g := u) (T := 89) (E := 5) (x := (.tmp 4)) (q := 2) (d := (some 10)) (k := 0) K rfl K K K a2 rfl ?_
   refine iR 1 2 [(0, (.slice (some ⟨u, 0, none⟩) (List.length p) 32))] ?_
   refine iF ?_
   exact ⟨p, (some ⟨u, 0, none⟩), 32, ⟨K, K, K, trivial⟩, SP.sel a2 [0, 1] rfl rfl, (Qu (SP.get a2 (i := 2) rfl)), H⟩
  ·have H := cf H a0
   refine At.skip K ?_
   exact ⟨p1, A2, c3, ⟨K, K, K, trivial⟩, SP.sel s [0, 1] rfl rfl, (RdT.sp a3 s), H⟩
 ·rintro ρ w32 ⟨c, h, j, hk, v, b4, H⟩
  unfold Gb at H
  first | refine At.known [(0, (.slice h (List.length c) j)), (2, (pt g5 0)), (3, (pt g9 0))] hk ?_ | rw [← Q9 (l := [(0, (.slice h (List.length c) j)), (2, (pt g5 0)), (3, (pt g9 0))]) hk]
  have c0 := Q5 (SP.get v (i := 0) rfl)
  have b5 := Q5 (SP.get v (i := 1) rfl)
  refine aQ ?_
  refine aR ?_
  refine iS 1 ?_
  refine Yz (e := eU8) (l := (List.replicate 64 (0 : UInt8))) (m := 64) (g := g9) (T := 125) (E := 5) (x := (.tmp 3)) (q := 1) (d := (some 11)) (k := 0) K rfl K K K v rfl ?_
  refine iR 1 2 [(12, (.slice h (List.length c) j))] ?_
  obtain ⟨f, hyl36, H⟩ := V2 H
  have hnl36 : List.length f = List.length (List.replicate 64 (0 : UInt8)) := by rw [← hyl36]; exact D7 (by omega)
  refine iS 3 ?_
  refine Cm (e := eU8) (l := (List.replicate 64 (0 : UInt8))) (y' := c) (l' := f) (m := 64) (g := g9) (lo := 0) (dl := (List.length (List.replicate 64 (0 : UInt8)))) (T := 52) (T2 := 52) (E := 5) (x := (.tmp 11)) (y := (.tmp 12)) (i := 1) (A := (some ⟨g9, 0, none⟩)) (dc := 64) (A2 := h) (c2 := j) (d := (some 13)) (k := 2) K rfl K K K K rfl v rfl (Fl) (by omega) b4 hyl36 ?_
  intro b6 a5 _
  have a6 : SP [] w0 b6 [Vb 125 eU8 g5 64 (List.replicate 64 (0 : UInt8)), Vb 125 eU8 g9 64 f] := a5
  clear a5
  refine In.known [(11, (.slice (some ⟨g9, 0, none⟩) (List.length f) 64))] ⟨(by rw [hnl36]; kernel_rfl), trivial⟩ ?_
  refine iF ?_
  refine aQ ?_
  refine aR ?_
  refine iS 1 ?_
  refine V9 (e := eU8) (l := f) (m := 64) (t := 125) (x := (.tmp 3)) (g := g9) (i := 1) (d := (some 14)) (k := 0) K rfl K a6 rfl K K ?_
  refine iS 2 ?_
  refine Q8 (e := eU8) (l := (List.replicate 64 (0 : UInt8))) (l' := f) (m := 64) (t := 125) (x := (.tmp 2)) (y := (.tmp 14)) (g := g5) (i := 0) (d := none) (k := 1) K rfl K K (hnl36.trans b5) a6 rfl K ?_
  intro c1 a7
  refine iF ?_
  refine At.ret K ?_
  refine ⟨(.agg (Qb eU8 f).toArray), Bz K (U0 (e := eU8) (l := f) (a := 2) (t := 125) K (SP.get a7 (i := 0) rfl) K K), ?_⟩
  obtain rfl := Qm H
  exact ⟨rfl, SP.sel a7 [] rfl rfl⟩
def Yv (d : (List UInt8) → Int → Option ((List UInt8))) (p3 : UInt8) (p4 : (List UInt8)) (b : (List UInt8)) (a : Int) : Option ((List UInt8)) :=
  (cond (decide (a < 64)) ((idx b a).bind fun e => ((idx b a).bind fun h => ((some (List.set b (Int.toNat a) (G3 (Vt .u8 ((e).toNat : Int) ((p3).toNat : Int))))).bind fun f => (d f (IntKind.wrap .i64 (a + 1)))))) ((app b p4).bind fun g => ((Nr g).bind fun c => ((chk (Nat.beq (List.length c) 32)).bind fun _ => (some (c))))))
def Yw (p3 : UInt8) (p4 : (List UInt8)) : Nat → (List UInt8) → Int → Option ((List UInt8))
  | 0, _, _ => none
  | f + 1, a, b => Yv  (Yw p3 p4 f) p3 p4 a b
def N3 (p1 : (List UInt8)) (p3 : UInt8) (p4 : (List UInt8)) : Option ((List UInt8)) :=
  (Yw p3 p4 Zd p1 0)
set_option maxRecDepth 100000 in
set_option maxHeartbeats 4000000 in
theorem Ra (A5 : Option Addr) (c6 : Nat) (p1 : (List UInt8)) (p3 : UInt8) (p4 : (List UInt8)) (w0 : World) (b3 : List.length p1 = 64) (b4 : RdT eU8 w0 A5 c6 p4) (r : ((List UInt8))) (H : N3 p1 p3 p4 = some r) :
  Calls Tryz.prog 91 #[(.agg (Qb eU8 p1).toArray), (.int .u8 ((p3).toNat : Int)), (.slice A5 (List.length p4) c6)] w0 (fun e w' => e = .returned (.agg (Qb eU8 r).toArray) ∧ SP [] w0 w' []) := by
 unfold N3 at H
 refine Qv (n := 22) Tryz.func91 K K K ?_
 have b5 := Q1 [] w0
 refine aQ ?_
 refine aR ?_
 refine iS 1 ?_
 refine Dz (e := eU8) (l := p1) (m := 64) (t := 125) (x := (.tmp 0)) (d := (some 3)) (k := 0) K rfl K b3 K b5 ?_
 intro g8 w9 b6
 refine iS 2 ?_
 refine Qz (e := eU8) (l := (List.replicate 32 (0 : UInt8))) (m := 32) (t := 89) (z := .agg (Qb eU8 (List.replicate 32 (0 : UInt8))).toArray) (d := (some 6)) (k := 1) K rfl K rfl rfl K b6 ?_
 intro p c7 b7
 refine iF ?_
 refine aQ ?_
 refine aQ ?_
 refine aR ?_
 refine iR 1 1 [(8, (.int .i64 0))] ?_
 refine iF ?_
 refine Z4 K (id := 0) K ?_
 refine Ur K (fun f1 ρ w => ∃ (f : (List UInt8)) (c : Int), Zg ρ [(1, (.int .u8 ((p3).toNat : Int))), (2, (.slice A5 (List.length p4) c6)), (3, (pt g8 0)), (6, (pt p 0)), (8, (.int .i64 c))] ∧ SP [] w0 w [Vb 125 eU8 g8 64 f, Vb 89 eU8 p 32 (List.replicate 32 (0 : UInt8))] ∧ Yw p3 p4 f1 f c = some r) (by rintro ρ w ⟨f, c, hk, hs, H⟩; cases H) ?_ Zd ?_
 ·rintro f1 ρ c8 ⟨f, c, hk, h, H⟩
  refine At.known [(1, (.int .u8 ((p3).toNat : Int))), (2, (.slice A5 (List.length p4) c6)), (3, (pt g8 0)), (6, (pt p 0)), (8, (.int .i64 c))] hk ?_
  replace H := (show Yv (Yw p3 p4 f1) p3 p4 f c = some r from H)
  unfold Yv at H
  have c9 := Q5 (SP.get h (i := 0) rfl)
  have d0 := Q5 (SP.get h (i := 1) rfl)
  refine aQ ?_
  refine aR ?_
  refine iR 1 1 [(9, (.bool (decide (c < 64))))] ?_
  refine iF ?_
  refine aQ ?_
  refine Zs K (o := (.tmp 9)) K (b := (decide (c < 64))) K (fun a1 => ?_) (fun a1 => ?_)
  ·have H := ct H a1
   refine At.skip K ?_
   refine aQ ?_
   refine Z4 K (id := 1) K ?_
   refine aQ ?_
   refine aR ?_
   refine iR 2 2 [(10, (.int .i64 c)), (7, (.int .i64 c))] ?_
   refine iF ?_
   refine aR ?_
   refine iR 1 1 [(11, (.int .i64 c))] ?_
   obtain ⟨u, a3, a4, b8, H⟩ := Qn H
   refine iS 2 ?_
   refine Qh (e := eU8) (l := f) (m := 64) (g := g8) (T := 125) (E := 5) (x := (.tmp 3)) (ix := (.tmp 11)) (ki := .i64) (iz := c) (i := 0) (d := (some 12)) (k := 1) K rfl K K K K h rfl a3 a4 ?_
   refine iS 3 ?_
   refine sC 5 12 g8 (0 + Int.toNat c * eU8.sz) (.int .u8 ((u).toNat : Int)) 13 (Qi (e := eU8) (Qf (Qu (SP.get h (i := 0) rfl)) rfl a3 a4) b8 (j := 0) rfl) ?_
   refine iR 2 5 [(14, (.int .u8 ((p3).toNat : Int))), (15, (.int .u8 (Vt .u8 ((u).toNat : Int) ((p3).toNat : Int))))] ?_
   obtain ⟨d1, a5, a6, d2, H⟩ := Qn H
   refine iS 6 ?_
   refine Qh (e := eU8) (l := f) (m := 64) (g := g8) (T := 125) (E := 5) (x := (.tmp 3)) (ix := (.tmp 11)) (ki := .i64) (iz := c) (i := 0) (d := (some 16)) (k := 5) K rfl K K K K h rfl a5 a6 ?_
   obtain ⟨a7, hyl133, H⟩ := V2 H
   have hnl133 : List.length a7 = List.length f := by rw [← hyl133, List.length_set]
   refine iS 7 ?_
   refine Zh (e := eU8) (t := 5) (x := (.tmp 16)) (y := (.tmp 15)) (l := f) (iz := c) (m := 64) (g := g8) (b := g8) (off := 0) (i := 0) (v := (.int .u8 (Vt .u8 ((u).toNat : Int) ((p3).toNat : Int)))) (x' := (G3 (Vt .u8 ((u).toNat : Int) ((p3).toNat : Int)))) (d := none) (k := 6) K rfl rfl K K h rfl rfl a6 a5 (by show [Value.int .u8 (((G3 (Vt .u8 ((u).toNat : Int) ((p3).toNat : Int)))).toNat : Int)] = _; rw [Gv (u8_xor _ _)]) K ?_
   rw [hyl133]
   intro d3 b9
   refine In.known [] trivial ?_
   refine iF ?_
   refine aR ?_
   refine iR 2 2 [(17, (.int .i64 (IntKind.wrap .i64 (c + 1)))), (8, (.int .i64 (IntKind.wrap .i64 (c + 1))))] ?_
   refine iF ?_
   exact ⟨a7, (IntKind.wrap .i64 (c + 1)), ⟨K, K, K, K, K, trivial⟩, SP.sel b9 [0, 1] rfl rfl, H⟩
  ·have H := cf H a1
   refine At.exit K (id := 0) K ?_
   refine aQ ?_
   refine aR ?_
   refine iS 1 ?_
   refine Yz (e := eU8) (l := f) (m := 64) (g := g8) (T := 125) (E := 5) (x := (.tmp 3)) (q := 0) (d := (some 18)) (k := 0) K rfl K K K h rfl ?_
   refine iR 1 2 [(19, (.slice A5 (List.length p4) c6))] ?_
   obtain ⟨hl137, H⟩ := Jb H
   obtain ⟨a8, hyl138⟩ : ∃ y, f ++ p4 = y := ⟨_, rfl⟩
   rw [hyl138] at H
   refine iS 3 ?_
   refine Hx (e := eU8) (l := f) (y := p4) (l' := a8) (m := 64) (g := g8) (T := 52) (TX := 52) (E := 5) (b := 1) (s := (.tmp 18)) (x := (.tmp 19)) (i := 0) (vx := (.slice A5 (List.length p4) c6)) (d := (some 20)) (k := 2) K rfl K K K K rfl h rfl (Ny (E := 5) K (RdT.sp b4 h)) hl137 hyl138 ?_
   intro c0 c1 a9 b0 c2
   have c3 : SP [] w0 a9 [Vb 125 eU8 g8 64 f, Vb 89 eU8 p 32 (List.replicate 32 (0 : UInt8))] := b0
   clear b0
   obtain ⟨a0, c4, H⟩ := Qg H
   obtain ⟨a2, H⟩ := Vu H
   replace a2 := Nat.eq_of_beq_eq_true a2
   refine iS 4 ?_
   refine cF 100 #[(.tmp 20)] #[52] 21 Tryz.call100 (Rn c0 c1 a8 a9 c2 a0 c4) ?_
   rintro e d4 ⟨rfl, b1⟩
   refine ⟨_, rfl, ?_⟩
   have c5 := SP.call c3 b1
   clear b1
   refine iS 5 ?_
   refine Q8 (e := eU8) (l := (List.replicate 32 (0 : UInt8))) (l' := a0) (m := 32) (t := 89) (x := (.tmp 6)) (y := (.tmp 21)) (g := p) (i := 1) (d := none) (k := 4) K rfl K K a2 c5 rfl K ?_
   intro d5 b2
   refine iF ?_
   refine At.ret K ?_
   refine ⟨(.agg (Qb eU8 a0).toArray), Bz K (U0 (e := eU8) (l := a0) (a := 6) (t := 89) K (SP.get b2 (i := 1) rfl) K K), ?_⟩
   obtain rfl := Qm H
   exact ⟨rfl, SP.sel b2 [] rfl rfl⟩
 ·exact ⟨p1, 0, ⟨K, K, K, K, K, trivial⟩, SP.sel b7 [0, 1] rfl rfl, H⟩
def D0 (p1 : (List UInt8)) (p5 : (List UInt8)) : Option ((List UInt8)) :=
  ((Cb p1).bind fun a => ((chk (Nat.beq (List.length a) 64)).bind fun _ => ((N3 a (54 : UInt8) p5).bind fun b => ((chk (Nat.beq (List.length b) 32)).bind fun _ => ((N3 a (92 : UInt8) b).bind fun c => ((chk (Nat.beq (List.length c) 32)).bind fun _ => (some (c))))))))
set_option maxRecDepth 100000 in
set_option maxHeartbeats 4000000 in
theorem E5 (A2 : Option Addr) (c3 : Nat) (A6 : Option Addr) (c7 : Nat) (p1 : (List UInt8)) (p5 : (List UInt8)) (w0 : World) (a7 : RdT eU8 w0 A2 c3 p1) (a8 : RdT eU8 w0 A6 c7 p5) (r : ((List UInt8))) (H : D0 p1 p5 = some r) :
  Calls Tryz.prog 70 #[(.slice A2 (List.length p1) c3), (.slice A6 (List.length p5) c7)] w0 (fun e w' => e = .returned (.agg (Qb eU8 r).toArray) ∧ SP [] w0 w' []) := by
 unfold D0 at H
 refine Qv (n := 18) Tryz.func70 K K K ?_
 have a9 := Q1 [] w0
 refine aQ ?_
 refine aR ?_
 refine iS 1 ?_
 refine Qz (e := eU8) (l := (List.replicate 32 (0 : UInt8))) (m := 32) (t := 89) (z := .agg (Qb eU8 (List.replicate 32 (0 : UInt8))).toArray) (d := (some 4)) (k := 0) K rfl K rfl rfl K a9 ?_
 intro g9 b0 a1
 refine iF ?_
 refine aQ ?_
 refine aR ?_
 refine iR 1 1 [(8, (.slice A2 (List.length p1) c3))] ?_
 obtain ⟨b, b1, H⟩ := Qg H
 obtain ⟨s, H⟩ := Vu H
 replace s := Nat.eq_of_beq_eq_true s
 refine iS 2 ?_
 refine cF 92 #[(.tmp 8)] #[52] 9 Tryz.call92 (F6 A2 c3 p1 b0 (RdT.sp a7 a1) b b1) ?_
 rintro e c8 ⟨rfl, a2⟩
 refine ⟨_, rfl, ?_⟩
 have b2 := SP.call a1 a2
 clear a2
 refine iS 3 ?_
 refine Qz (e := eU8) (l := (List.replicate 64 (0 : UInt8))) (m := 64) (t := 125) (z := .agg (Qb eU8 (List.replicate 64 (0 : UInt8))).toArray) (d := (some 6)) (k := 2) K rfl K rfl rfl K b2 ?_
 intro p c9 b3
 refine iR 1 4 [(5, (.func (.func 91) #[] #[]))] ?_
 refine iS 5 ?_
 refine Q8 (e := eU8) (l := (List.replicate 64 (0 : UInt8))) (l' := b) (m := 64) (t := 125) (x := (.tmp 6)) (y := (.tmp 9)) (g := p) (i := 1) (d := none) (k := 4) K rfl K K s b3 rfl K ?_
 intro b4 u
 refine iF ?_
 refine aQ ?_
 refine aR ?_
 refine iR 1 1 [(10, (.func (.func 91) #[] #[]))] ?_
 refine iS 2 ?_
 refine V9 (e := eU8) (l := b) (m := 64) (t := 125) (x := (.tmp 6)) (g := p) (i := 1) (d := (some 11)) (k := 1) K rfl K u rfl K K ?_
 refine iR 1 3 [(12, (.slice A6 (List.length p5) c7))] ?_
 obtain ⟨j, b5, H⟩ := Qg H
 obtain ⟨v, H⟩ := Vu H
 replace v := Nat.eq_of_beq_eq_true v
 refine iS 4 ?_
 refine Y0 (f := 91) (fo := (.tmp 10)) (xs := #[(.tmp 11), (.const (.int .u8 (54))), (.tmp 12)]) (tys := #[125, 5, 52]) (first := #[]) (captured := #[]) (d := (some 13)) (k := 3) K rfl K K Tryz.call91 (Ra A6 c7 b (54 : UInt8) p5 b4 s (RdT.sp a8 u) j b5) ?_
 rintro e d0 ⟨rfl, a3⟩
 refine ⟨_, rfl, ?_⟩
 have b6 := SP.call u a3
 clear a3
 refine iS 5 ?_
 refine Qz (e := eU8) (l := (List.replicate 32 (0 : UInt8))) (m := 32) (t := 89) (z := .agg (Qb eU8 (List.replicate 32 (0 : UInt8))).toArray) (d := (some 7)) (k := 4) K rfl K rfl rfl K b6 ?_
 intro o d1 b7
 refine iS 6 ?_
 refine Q8 (e := eU8) (l := (List.replicate 32 (0 : UInt8))) (l' := j) (m := 32) (t := 89) (x := (.tmp 7)) (y := (.tmp 13)) (g := o) (i := 2) (d := none) (k := 5) K rfl K K v b7 rfl K ?_
 intro d2 b8
 refine iF ?_
 refine aQ ?_
 obtain ⟨c, b9, H⟩ := Qg H
 obtain ⟨w, H⟩ := Vu H
 replace w := Nat.eq_of_beq_eq_true w
 refine aG [GEq (.func (.func 91) #[] #[]), GEq (.agg (Qb eU8 b).toArray), GEq (.slice (some ⟨o, 0, none⟩) (List.length j) 32), GEq (.agg (Qb eU8 c).toArray), Ch] [3, 4] [sG [] [] [] w0 [Vb 89 eU8 g9 32 (List.replicate 32 (0 : UInt8)), Vb 125 eU8 p 64 b, Vb 89 eU8 o 32 j], sG [3] [(.agg (Qb eU8 c).toArray)] [] w0 [Vb 89 eU8 g9 32 (List.replicate 32 (0 : UInt8)), Vb 125 eU8 p 64 b, Vb 89 eU8 o 32 j], sG [3, 4] [(.agg (Qb eU8 c).toArray), undef] [] w0 [Vb 89 eU8 g9 32 c, Vb 125 eU8 p 64 b, Vb 89 eU8 o 32 j]] 5 2 ⟨trivial, SP.drew b8⟩ ?_ ?_
 iterate 5 refine And.intro ?_ ?_
 exact trivial
 ·exact oV (hC (hS 5 (.func (.func 91) #[] #[])) (h0)) (.func (.func 91) #[] #[])
 ·refine oL 0 ?_
  ·rintro ρ' w' hs hah ⟨d3, c0⟩
   refine kM (kc (kS hs 6 (pt p 0)) k0) fun hkn => ?_
   refine V9 (e := eU8) (l := b) (m := 64) (t := 125) (x := (.tmp 6)) (g := p) (i := 1) (d := (some 15)) (k := 1) K rfl K c0 rfl K K ?_
   exact eK hkn
 ·refine oL 0 ?_
  ·rintro ρ' w' hs hah ⟨d4, c1⟩
   refine kM (kc (kS hs 7 (pt o 0)) k0) fun hkn => ?_
   refine Yz (e := eU8) (l := j) (m := 32) (g := o) (T := 89) (E := 5) (x := (.tmp 7)) (q := 2) (d := (some 16)) (k := 2) K rfl K K K c1 rfl ?_
   exact eK hkn
 ·refine oH 0 1 ?_
  ·rintro ρ' w' hs hah ⟨d5, a4⟩
   refine kM (kc (kA hah 0 14) (kc (kA hah 1 15) (kc (kA hah 2 16) k0))) fun hkn => ?_
   refine Y0 (f := 91) (fo := (.tmp 14)) (xs := #[(.tmp 15), (.const (.int .u8 (92))), (.tmp 16)]) (tys := #[125, 5, 52]) (first := #[]) (captured := #[]) (d := (some 17)) (k := 3) K rfl K K Tryz.call91 (Ra (some ⟨o, 0, none⟩) 32 b (92 : UInt8) j w' s (Qu (SP.get a4 (i := 2) rfl)) c b9) ?_
   rintro e d6 ⟨rfl, a5⟩
   refine ⟨_, rfl, ?_⟩
   have c2 := SP.call a4 a5
   clear a5
   refine ⟨_, Qa hkn, rfl, ?_⟩
   exact (And.intro (And.intro rfl (trivial)) (c2))
 ·refine oH 1 2 ?_
  ·rintro ρ' w' hs hah ⟨⟨a6, -⟩, c4⟩
   refine kN [(4, (pt g9 0)), (17, (.agg (Qb eU8 c).toArray))] ⟨(hs 4 K).trans K, (Yh (h := 3) K).symm.trans a6, trivial⟩ fun hkn => ?_
   refine Q8 (e := eU8) (l := (List.replicate 32 (0 : UInt8))) (l' := c) (m := 32) (t := 89) (x := (.tmp 4)) (y := (.tmp 17)) (g := g9) (i := 0) (d := none) (k := 4) K rfl K K w c4 rfl K ?_
   intro d7 c5
   refine ⟨_, Qa hkn, trivial, ?_⟩
   exact (And.intro (And.intro a6 (And.intro rfl (trivial))) (c5))
 ·rintro ρ' w' hs hf ⟨⟨d8, d9, -⟩, a0⟩
  refine Vj [(4, (pt g9 0))] ⟨(hs 4 K).trans K, trivial⟩ ?_
  obtain ⟨e0, c6⟩ : ∃ x, w' = x := ⟨_, rfl⟩
  rw [c6] at a0 ⊢
  refine At.ret K ?_
  refine ⟨(.agg (Qb eU8 c).toArray), Bz K (U0 (e := eU8) (l := c) (a := 4) (t := 89) K (SP.get a0 (i := 0) rfl) K K), ?_⟩
  obtain rfl := Qm H
  exact ⟨rfl, SP.sel a0 [] rfl rfl⟩
def Jq (e : (List UInt8) → Int → Option ((List UInt8))) (p1 : (List UInt8)) (p5 : (List (List UInt8))) (b : (List UInt8)) (a : Int) : Option ((List UInt8)) :=
  (cond (decide (a < ((List.length p5 : Nat) : Int))) ((idx p5 a).bind fun c => (cond (decide (((List.length c : Nat) : Int) > 255)) (some (([] : List UInt8))) ((Rq c).bind fun f => ((app b f).bind fun g => (e g (IntKind.wrap .i64 (a + 1))))))) ((D0 p1 b).bind fun d => ((chk (Nat.beq (List.length d) 32)).bind fun _ => ((Gm d).bind fun h => (some (h))))))
def Jr (p1 : (List UInt8)) (p5 : (List (List UInt8))) : Nat → (List UInt8) → Int → Option ((List UInt8))
  | 0, _, _ => none
  | f + 1, a, b => Jq  (Jr p1 p5 f) p1 p5 a b
def R7 (p1 : (List UInt8)) (p5 : (List (List UInt8))) : Option ((List UInt8)) :=
  (Jr p1 p5 Zd ([] : List UInt8) 0)
set_option maxRecDepth 100000 in
set_option maxHeartbeats 4000000 in
theorem C4 (A2 : Option Addr) (c3 : Nat) (A6 : Option Addr) (c7 : Nat) (p1 : (List UInt8)) (p5 : (List (List UInt8))) (w0 : World) (b9 : RdT eU8 w0 A2 c3 p1) (a8 : RdT Qw w0 A6 c7 p5) (r : ((List UInt8))) (H : R7 p1 p5 = some r) :
  Calls Tryz.prog 51 #[(.slice A2 (List.length p1) c3), (.slice A6 (List.length p5) c7)] w0 (fun e w' => e = .returned (.string ⟨List.toArray r⟩) ∧ SP [] w0 w' []) := by
 unfold R7 at H
 refine Qv (n := 28) Tryz.func51 K K K ?_
 have c0 := Q1 [] w0
 refine aQ ?_
 refine aR ?_
 refine iR 1 1 [(4, (.string ⟨List.toArray ([] : List UInt8)⟩))] ?_
 refine iF ?_
 refine aQ ?_
 refine aR ?_
 refine iR 1 1 [(5, (.slice none (List.length ([] : List UInt8)) 0))] ?_
 refine iF ?_
 refine aQ ?_
 refine aQ ?_
 refine aR ?_
 refine iR 3 3 [(9, (.slice A6 (List.length p5) c7)), (10, (.int .i64 ((List.length p5 : Nat) : Int))), (11, (.int .i64 0))] ?_
 refine iF ?_
 refine Z4 K (id := 0) K ?_
 refine Ur K (fun f1 ρ w => ∃ (f : (List UInt8)) (a : Int) (h : Option Addr) (p : Nat), Zg ρ [(0, (.slice A2 (List.length p1) c3)), (5, (.slice h (List.length f) p)), (9, (.slice A6 (List.length p5) c7)), (10, (.int .i64 ((List.length p5 : Nat) : Int))), (11, (.int .i64 a))] ∧ SP [] w0 w [Ja 5 eU8 h p f] ∧ Jr p1 p5 f1 f a = some r) (by rintro ρ w ⟨f, a, h, p, hk, hs, H⟩; cases H) ?_ Zd ?_
 ·rintro f1 ρ a9 ⟨f, a, h, p, hk, v, H⟩
  refine At.known [(0, (.slice A2 (List.length p1) c3)), (5, (.slice h (List.length f) p)), (9, (.slice A6 (List.length p5) c7)), (10, (.int .i64 ((List.length p5 : Nat) : Int))), (11, (.int .i64 a))] hk ?_
  replace H := (show Jq (Jr p1 p5 f1) p1 p5 f a = some r from H)
  unfold Jq at H
  refine aQ ?_
  refine aR ?_
  refine iR 1 1 [(12, (.bool (decide (a < ((List.length p5 : Nat) : Int)))))] ?_
  refine iF ?_
  refine aQ ?_
  refine Zs K (o := (.tmp 12)) K (b := (decide (a < ((List.length p5 : Nat) : Int)))) K (fun a2 => ?_) (fun a2 => ?_)
  ·have H := ct H a2
   refine At.skip K ?_
   refine aQ ?_
   refine Z4 K (id := 1) K ?_
   refine aQ ?_
   refine aR ?_
   obtain ⟨u, b0, b1, c1, H⟩ := Qn H
   refine iS 1 ?_
   refine Vi (e := Qw) (l := p5) (A := A6) (c := c7) (T := 53) (E := 9) (x := (.tmp 9)) (ix := (.tmp 11)) (ki := .i64) (iz := a) (d := (some 13)) (k := 0) K rfl K K K K (RdT.sp a8 v) b0 b1 ?_
   intro c2 c4 c5 d7 hc118
   refine iS 2 ?_
   refine sC 9 13 c2 (c4 + Int.toNat a * Qw.sz) (.string ⟨List.toArray u⟩) 14 (Qi (e := Qw) (Qf (RdT.sp a8 v) c5 b0 b1) c1 (j := 0) rfl) ?_
   refine iR 1 3 [(7, (.string ⟨List.toArray u⟩))] ?_
   refine iF ?_
   refine aQ ?_
   refine aQ ?_
   refine aR ?_
   refine iR 3 3 [(15, (.string ⟨List.toArray u⟩)), (16, (.int .i64 ((List.length u : Nat) : Int))), (17, (.bool (decide (((List.length u : Nat) : Int) > 255))))] ?_
   refine iF ?_
   refine Zs K (o := (.tmp 17)) K (b := (decide (((List.length u : Nat) : Int) > 255))) K (fun a3 => ?_) (fun a3 => ?_)
   ·have H := ct H a3
    refine aQ ?_
    refine aR ?_
    refine iR 1 1 [(4, (.string ⟨List.toArray ([] : List UInt8)⟩))] ?_
    refine iF ?_
    refine At.ret K ?_
    refine ⟨(.string ⟨List.toArray ([] : List UInt8)⟩), K, ?_⟩
    obtain rfl := Qm H
    exact ⟨rfl, SP.sel v [] rfl rfl⟩
   ·have H := cf H a3
    refine At.skip K ?_
    refine aR ?_
    refine iR 2 2 [(18, (.slice h (List.length f) p)), (19, (.string ⟨List.toArray u⟩))] ?_
    obtain ⟨a0, c6, H⟩ := Qg H
    refine iS 3 ?_
    refine cF 69 #[(.tmp 19)] #[9] 20 Tryz.call69 (Ep  u a9  a0 c6) ?_
    rintro e d8 ⟨c8, c9, rfl, b2⟩
    refine ⟨_, rfl, ?_⟩
    have b3 := SP.call v b2
    clear b2
    obtain ⟨hl130, H⟩ := Jb H
    obtain ⟨b4, hyl131⟩ : ∃ y, f ++ a0 = y := ⟨_, rfl⟩
    rw [hyl131] at H
    refine iS 4 ?_
    refine Qj.append (e := eU8) (l := f) (m := a0) (A := h) (c := p) (T := 52) (TX := 52) (E := 5) (b := 1) (s := (.tmp 18)) (x := (.tmp 20)) (i := 0) (vx := (.slice c8 (List.length a0) c9)) (d := (some 21)) (k := 3) K rfl K K K K rfl b3 rfl (Ny (E := 5) K (Vm (SP.get b3 (i := 1) rfl))) hl130 ?_
    rw [hyl131]
    intro b5 b6 d9 d0
    refine iR 1 5 [(5, (.slice b5 (List.length b4) b6))] ?_
    refine iF ?_
    refine aR ?_
    refine iR 2 2 [(22, (.int .i64 (IntKind.wrap .i64 (a + 1)))), (11, (.int .i64 (IntKind.wrap .i64 (a + 1))))] ?_
    refine iF ?_
    exact ⟨b4, (IntKind.wrap .i64 (a + 1)), b5, b6, ⟨K, K, K, K, K, trivial⟩, SP.sel d0 [0] rfl rfl, H⟩
  ·have H := cf H a2
   refine At.exit K (id := 0) K ?_
   refine aQ ?_
   refine aR ?_
   refine iR 2 2 [(23, (.slice A2 (List.length p1) c3)), (24, (.slice h (List.length f) p))] ?_
   obtain ⟨a1, d1, H⟩ := Qg H
   obtain ⟨a4, H⟩ := Vu H
   replace a4 := Nat.eq_of_beq_eq_true a4
   refine iS 3 ?_
   refine cF 70 #[(.tmp 23), (.tmp 24)] #[52, 52] 25 Tryz.call70 (E5 A2 c3 h p p1 f a9 (RdT.sp b9 v) (Vm (SP.get v (i := 0) rfl)) a1 d1) ?_
   rintro e e0 ⟨rfl, b7⟩
   refine ⟨_, rfl, ?_⟩
   have d2 := SP.call v b7
   clear b7
   refine iS 4 ?_
   refine Qz (e := eU8) (l := (List.replicate 32 (0 : UInt8))) (m := 32) (t := 89) (z := .agg (Qb eU8 (List.replicate 32 (0 : UInt8))).toArray) (d := (some 8)) (k := 3) K rfl K rfl rfl K d2 ?_
   intro a5 e1 d3
   refine iS 5 ?_
   refine Q8 (e := eU8) (l := (List.replicate 32 (0 : UInt8))) (l' := a1) (m := 32) (t := 89) (x := (.tmp 8)) (y := (.tmp 25)) (g := a5) (i := 1) (d := none) (k := 4) K rfl K K a4 d3 rfl K ?_
   intro d4 a6
   refine iF ?_
   refine aQ ?_
   refine aR ?_
   refine iS 1 ?_
   refine Yz (e := eU8) (l := a1) (m := 32) (g := a5) (T := 89) (E := 5) (x := (.tmp 8)) (q := 1) (d := (some 26)) (k := 0) K rfl K K K a6 rfl ?_
   obtain ⟨a7, d5, H⟩ := Qg H
   refine iS 2 ?_
   refine cF 71 #[(.tmp 26)] #[52] 27 Tryz.call71 (Cn (some ⟨a5, 0, none⟩) 32 a1 d4 (Qu (SP.get a6 (i := 1) rfl)) a7 d5) ?_
   rintro e e2 ⟨rfl, b8⟩
   refine ⟨_, rfl, ?_⟩
   have d6 := SP.call a6 b8
   clear b8
   refine iR 1 3 [(4, (.string ⟨List.toArray a7⟩))] ?_
   refine iF ?_
   refine At.ret K ?_
   refine ⟨(.string ⟨List.toArray a7⟩), K, ?_⟩
   obtain rfl := Qm H
   exact ⟨rfl, SP.sel d6 [] rfl rfl⟩
 ·exact ⟨([] : List UInt8), 0, none, 0, ⟨K, K, K, K, K, trivial⟩, SP.sel (Rh c0 5 eU8) [0] rfl rfl, H⟩
end Go.Proofs.YtmgfanhcdfobhaaGreatDoor
namespace Go.Proofs.YtmgfanhcdfobhaaGreatDoor
open Go.RowKit
def Jn (p1 : (List UInt8)) : Option ((List UInt8)) :=
  (cond (decide (((List.length p1 : Nat) : Int) > 255)) (some (([] : List UInt8))) ((app ([(G3 (IntKind.wrap .u8 ((List.length p1 : Nat) : Int)))] : List UInt8) p1).bind fun a => (some (a))))
set_option maxRecDepth 100000 in
set_option maxHeartbeats 4000000 in
theorem R8  (p1 : (List UInt8)) (w0 : World)  (r : ((List UInt8))) (H : Jn p1 = some r) :
  Calls Tryz.prog 53 #[(.string ⟨List.toArray p1⟩)] w0 (fun e w' => ∃ (A2 : Option Addr) (c3 : Nat), e = .returned (.slice A2 (List.length r) c3) ∧ SP [] w0 w' [Ja 5 eU8 A2 c3 r]) := by
 unfold Jn at H
 refine Qv (n := 12) Tryz.func53 K K K ?_
 have h := Q1 [] w0
 refine aQ ?_
 refine aR ?_
 refine iR 1 1 [(2, (.slice none (List.length ([] : List UInt8)) 0))] ?_
 refine iF ?_
 refine aQ ?_
 refine aQ ?_
 refine aR ?_
 refine iR 3 3 [(3, (.string ⟨List.toArray p1⟩)), (4, (.int .i64 ((List.length p1 : Nat) : Int))), (5, (.bool (decide (((List.length p1 : Nat) : Int) > 255))))] ?_
 refine iF ?_
 refine Zs K (o := (.tmp 5)) K (b := (decide (((List.length p1 : Nat) : Int) > 255))) K (fun a => ?_) (fun a => ?_)
 ·have H := ct H a
  refine aQ ?_
  refine aR ?_
  refine iR 1 1 [(2, (.slice none (List.length ([] : List UInt8)) 0))] ?_
  refine iF ?_
  refine At.ret K ?_
  have p : SP [] w0 w0 [Ja 5 eU8 none 0 ([] : List UInt8)] := Rh h 5 eU8
  refine ⟨(.slice none (List.length ([] : List UInt8)) 0), K, ?_⟩
  obtain rfl := Qm H
  exact ⟨none, 0, rfl, SP.sel p [0] rfl rfl⟩
 ·have H := cf H a
  refine At.skip K ?_
  refine aQ ?_
  refine aR ?_
  refine iR 3 3 [(6, (.string ⟨List.toArray p1⟩)), (7, (.int .i64 ((List.length p1 : Nat) : Int))), (8, (.int .u8 (IntKind.wrap .u8 ((List.length p1 : Nat) : Int))))] ?_
  refine iS 4 ?_
  refine V6 (e := eU8) (T := 52) (E := 5) (len := 1) (parts := #[(0, (.tmp 8))]) (cs := #[(.int .u8 (IntKind.wrap .u8 ((List.length p1 : Nat) : Int)))]) ([(G3 (IntKind.wrap .u8 ((List.length p1 : Nat) : Int)))] : List UInt8) (d := (some 9)) (k := 3) K rfl (fun _ => K) h (J1 (Or.inr ⟨rfl, (Du _)⟩) rfl) rfl rfl rfl ?_
  intro g7 w8 q
  refine iR 1 5 [(10, (.string ⟨List.toArray p1⟩))] ?_
  obtain ⟨hl11, H⟩ := Jb H
  obtain ⟨j, hyl12⟩ : ∃ y, ([(G3 (IntKind.wrap .u8 ((List.length p1 : Nat) : Int)))] : List UInt8) ++ p1 = y := ⟨_, rfl⟩
  rw [hyl12] at H
  refine iS 6 ?_
  refine Qj.append (e := eU8) (l := ([(G3 (IntKind.wrap .u8 ((List.length p1 : Nat) : Int)))] : List UInt8)) (m := p1) (A := (some ⟨g7, 0, none⟩)) (c := (List.length ([(G3 (IntKind.wrap .u8 ((List.length p1 : Nat) : Int)))] : List UInt8))) (T := 52) (TX := 9) (E := 5) (b := 1) (s := (.tmp 9)) (x := (.tmp 10)) (i := 0) (vx := (.string ⟨List.toArray p1⟩)) (d := (some 11)) (k := 5) K rfl K K K K rfl q rfl (src_str K p1) hl11 ?_
  rw [hyl12]
  intro f g u t
  refine iR 1 7 [(2, (.slice f (List.length j) g))] ?_
  refine iF ?_
  refine At.ret K ?_
  refine ⟨(.slice f (List.length j) g), K, ?_⟩
  obtain rfl := Qm H
  exact ⟨f, g, rfl, SP.sel t [0] rfl rfl⟩
end Go.Proofs.YtmgfanhcdfobhaaGreatDoor
namespace Go.Proofs.YtmgfanhcdfobhaaGreatDoor
open Go.RowKit
def Zl (f : (List UInt8) → Option ((List UInt8))) (c : (List UInt8) → Int → Option ((List UInt8))) (p5 : UInt8) (b : (List UInt8)) (a : Int) : Option ((List UInt8)) :=
  (cond (decide (a < 64)) ((idx b a).bind fun d => ((idx b a).bind fun g => ((some (List.set b (Int.toNat a) (G3 (Vt .u8 ((d).toNat : Int) ((p5).toNat : Int))))).bind fun e => (c e (IntKind.wrap .i64 (a + 1)))))) (some (b)))
def Zb (a : (List UInt8) → Option ((List UInt8))) (p5 : UInt8) : Nat → (List UInt8) → Int → Option ((List UInt8))
  | 0, _, _ => none
  | f + 1, b, c => Zl a (Zb a p5 f) p5 b c
def Zm (b : (List UInt8) → Option ((List UInt8))) (p5 : UInt8) (a : (List UInt8)) : Option ((List UInt8)) :=
  (cond (decide (((List.length a : Nat) : Int) < 64)) ((app a ([(0 : UInt8)] : List UInt8)).bind fun c => (b c)) (Zb b p5 Zd a 0))
def Ve (p5 : UInt8) : Nat → (List UInt8) → Option ((List UInt8))
  | 0, _ => none
  | f + 1, a => Zm  (Ve p5 f) p5 a
def Zn (p5 : UInt8) (a : (List UInt8)) : Option ((List UInt8)) :=
  (Ve p5 Zd a)
def X1 (p1 : (List UInt8)) (p5 : UInt8) : Option ((List UInt8)) :=
  ((app ([] : List UInt8) p1).bind fun a => (cond (decide (((List.length a : Nat) : Int) > 64)) ((Yc a).bind fun b => ((chk (Nat.beq (List.length b) 32)).bind fun _ => ((app ([] : List UInt8) b).bind fun c => (Zn p5 c)))) (Zn p5 a)))
set_option maxRecDepth 100000 in
set_option maxHeartbeats 4000000 in
theorem Nj (A2 : Option Addr) (c3 : Nat) (p1 : (List UInt8)) (p5 : UInt8) (w0 : World) (d5 : RdT eU8 w0 A2 c3 p1) (r : ((List UInt8))) (H : X1 p1 p5 = some r) :
  Calls Tryz.prog 73 #[(.slice A2 (List.length p1) c3), (.int .u8 ((p5).toNat : Int))] w0 (fun e w' => ∃ (A6 : Option Addr) (c7 : Nat), e = .returned (.slice A6 (List.length r) c7) ∧ SP [] w0 w' [Ja 5 eU8 A6 c7 r]) := by
 unfold X1 at H
 refine Qv (n := 39) Tryz.func73 K K K ?_
 have d6 := Q1 [] w0
 refine aQ ?_
 refine aR ?_
 refine iR 1 1 [(4, (.slice none (List.length ([] : List UInt8)) 0))] ?_
 refine iF ?_
 refine aQ ?_
 refine aR ?_
 refine iS 1 ?_
 refine V6 (e := eU8) (T := 52) (E := 5) (len := 0) (parts := #[]) (cs := #[]) ([] : List UInt8) (d := (some 8)) (k := 0) K rfl (fun _ => K) d6 rfl rfl rfl rfl ?_
 intro g8 w9 b9
 refine iR 1 2 [(9, (.slice A2 (List.length p1) c3))] ?_
 obtain ⟨hl12, H⟩ := Jb H
 obtain ⟨a2, hyl13⟩ : ∃ y, ([] : List UInt8) ++ p1 = y := ⟨_, rfl⟩
 rw [hyl13] at H
 refine iS 3 ?_
 refine Qj.append (e := eU8) (l := ([] : List UInt8)) (m := p1) (A := (some ⟨g8, 0, none⟩)) (c := (List.length ([] : List UInt8))) (T := 52) (TX := 52) (E := 5) (b := 1) (s := (.tmp 8)) (x := (.tmp 9)) (i := 0) (vx := (.slice A2 (List.length p1) c3)) (d := (some 10)) (k := 2) K rfl K K K K rfl b9 rfl (Ny (E := 5) K (RdT.sp d5 b9)) hl12 ?_
 rw [hyl13]
 intro a7 a8 d7 b2
 refine iR 1 4 [(5, (.slice a7 (List.length a2) a8))] ?_
 refine iF ?_
 refine aQ ?_
 refine aQ ?_
 refine aR ?_
 refine iR 3 3 [(11, (.slice a7 (List.length a2) a8)), (12, (.int .i64 ((List.length a2 : Nat) : Int))), (13, (.bool (decide (((List.length a2 : Nat) : Int) > 64))))] ?_
 refine iF ?_
 refine At.join (fun ρ w => ∃ (a3 : (List UInt8)) (a4 : Option Addr) (a5 : Nat), Zg ρ [(1, (.int .u8 ((p5).toNat : Int))), (5, (.slice a4 (List.length a3) a5))] ∧ SP [] w0 w [Ja 5 eU8 a4 a5 a3] ∧ Zn p5 a3 = some r) ?_ ?_
 ·refine Zs K (o := (.tmp 13)) K (b := (decide (((List.length a2 : Nat) : Int) > 64))) K (fun b3 => ?_) (fun b3 => ?_)
  ·have H := ct H b3
   refine aQ ?_
   refine aR ?_
   refine iR 1 1 [(14, (.slice a7 (List.length a2) a8))] ?_
   obtain ⟨a6, d8, H⟩ := Qg H
   obtain ⟨b4, H⟩ := Vu H
   replace b4 := Nat.eq_of_beq_eq_true b4
   refine iS 2 ?_
   refine cF 72 #[(.tmp 14)] #[52] 15 Tryz.call72 (Un a7 a8 a2 d7 (Vm (SP.get b2 (i := 0) rfl)) a6 d8) ?_
   rintro e f7 ⟨rfl, c0⟩
   refine ⟨_, rfl, ?_⟩
   have d9 := SP.call b2 c0
   clear c0
   refine iS 3 ?_
   refine Qz (e := eU8) (l := (List.replicate 32 (0 : UInt8))) (m := 32) (t := 89) (z := .agg (Qb eU8 (List.replicate 32 (0 : UInt8))).toArray) (d := (some 6)) (k := 2) K rfl K rfl rfl K d9 ?_
   intro b5 f8 e0
   refine iS 4 ?_
   refine Q8 (e := eU8) (l := (List.replicate 32 (0 : UInt8))) (l' := a6) (m := 32) (t := 89) (x := (.tmp 6)) (y := (.tmp 15)) (g := b5) (i := 1) (d := none) (k := 3) K rfl K K b4 e0 rfl K ?_
   intro f9 e1
   refine iF ?_
   refine aR ?_
   refine iS 1 ?_
   refine V6 (e := eU8) (T := 52) (E := 5) (len := 0) (parts := #[]) (cs := #[]) ([] : List UInt8) (d := (some 16)) (k := 0) K rfl (fun _ => K) e1 rfl rfl rfl rfl ?_
   intro e2 g0 b6
   refine iS 2 ?_
   refine Yz (e := eU8) (l := a6) (m := 32) (g := b5) (T := 89) (E := 5) (x := (.tmp 6)) (q := 1) (d := (some 17)) (k := 1) K rfl K K K b6 rfl ?_
   obtain ⟨hl540, H⟩ := Jb H
   obtain ⟨c1, hyl541⟩ : ∃ y, ([] : List UInt8) ++ a6 = y := ⟨_, rfl⟩
   rw [hyl541] at H
   refine iS 3 ?_
   refine Qj.append (e := eU8) (l := ([] : List UInt8)) (m := a6) (A := (some ⟨e2, 0, none⟩)) (c := (List.length ([] : List UInt8))) (T := 52) (TX := 52) (E := 5) (b := 1) (s := (.tmp 16)) (x := (.tmp 17)) (i := 2) (vx := (.slice (some ⟨b5, 0, none⟩) (List.length a6) 32)) (d := (some 18)) (k := 2) K rfl K K K K rfl b6 rfl (Ny (E := 5) K (Qu (SP.get b6 (i := 1) rfl))) hl540 ?_
   rw [hyl541]
   intro c2 c4 g1 e3
   refine iR 1 4 [(5, (.slice c2 (List.length c1) c4))] ?_
   refine iF ?_
   exact ⟨c1, c2, c4, ⟨K, K, trivial⟩, SP.sel e3 [2] rfl rfl, H⟩
  ·have H := cf H b3
   refine At.skip K ?_
   exact ⟨a2, a7, a8, ⟨K, K, trivial⟩, SP.sel b2 [0] rfl rfl, H⟩
 ·rintro ρ g2 ⟨a3, a4, a5, hk, e4, H⟩
  unfold Zn at H
  first | refine At.known [(1, (.int .u8 ((p5).toNat : Int))), (5, (.slice a4 (List.length a3) a5))] hk ?_ | rw [← Q9 (l := [(1, (.int .u8 ((p5).toNat : Int))), (5, (.slice a4 (List.length a3) a5))]) hk]
  refine aQ ?_
  refine Z4 K (id := 0) K ?_
  refine Ur K (fun f5 ρ w => ∃ (u : (List UInt8)) (a0 : Option Addr) (a1 : Nat), Zg ρ [(1, (.int .u8 ((p5).toNat : Int))), (5, (.slice a0 (List.length u) a1))] ∧ SP [] w0 w [Ja 5 eU8 a0 a1 u] ∧ Ve p5 f5 u = some r) (by rintro ρ w ⟨u, a0, a1, hk, hs, H⟩; cases H) ?_ Zd ?_
  ·rintro f5 ρ g3 ⟨u, a0, a1, hk, c5, H⟩
   refine At.known [(1, (.int .u8 ((p5).toNat : Int))), (5, (.slice a0 (List.length u) a1))] hk ?_
   replace H := (show Zm (Ve p5 f5) p5 u = some r from H)
   unfold Zm at H
   refine aQ ?_
   refine aQ ?_
   refine aR ?_
   refine iR 3 3 [(19, (.slice a0 (List.length u) a1)), (20, (.int .i64 ((List.length u : Nat) : Int))), (21, (.bool (decide (((List.length u : Nat) : Int) < 64))))] ?_
   refine iF ?_
   refine Zs K (o := (.tmp 21)) K (b := (decide (((List.length u : Nat) : Int) < 64))) K (fun b7 => ?_) (fun b7 => ?_)
   ·have H := ct H b7
    refine At.skip K ?_
    refine Z4 K (id := 1) K ?_
    refine aR ?_
    refine iR 1 1 [(22, (.slice a0 (List.length u) a1))] ?_
    refine iS 2 ?_
    refine V6 (e := eU8) (T := 52) (E := 5) (len := 1) (parts := #[(0, (.const (.int .u8 (0))))]) (cs := #[(.int .u8 0)]) ([(0 : UInt8)] : List UInt8) (d := (some 23)) (k := 1) K rfl (fun _ => K) c5 (J1 (Or.inl rfl) rfl) rfl rfl rfl ?_
    intro e5 g4 c6
    obtain ⟨hl411, H⟩ := Jb H
    obtain ⟨c8, hyl412⟩ : ∃ y, u ++ ([(0 : UInt8)] : List UInt8) = y := ⟨_, rfl⟩
    rw [hyl412] at H
    refine iS 3 ?_
    refine Qj.append (e := eU8) (l := u) (m := ([(0 : UInt8)] : List UInt8)) (A := a0) (c := a1) (T := 52) (TX := 52) (E := 5) (b := 1) (s := (.tmp 22)) (x := (.tmp 23)) (i := 0) (vx := (.slice (some ⟨e5, 0, none⟩) (List.length ([(0 : UInt8)] : List UInt8)) (List.length ([(0 : UInt8)] : List UInt8)))) (d := (some 24)) (k := 2) K rfl K K K K rfl c6 rfl (Ny (E := 5) K (Vm (SP.get c6 (i := 1) rfl))) hl411 ?_
    rw [hyl412]
    intro c9 d0 g5 e6
    refine iR 1 4 [(5, (.slice c9 (List.length c8) d0))] ?_
    refine iF ?_
    exact ⟨c8, c9, d0, ⟨K, K, trivial⟩, SP.sel e6 [0] rfl rfl, H⟩
   ·have H := cf H b7
    refine At.exit K (id := 0) K ?_
    refine aQ ?_
    refine aQ ?_
    refine aR ?_
    refine iR 1 1 [(7, (.int .i64 0))] ?_
    refine iF ?_
    refine Z4 K (id := 2) K ?_
    refine Ur K (fun f6 ρ w => ∃ (p : (List UInt8)) (a : Int) (f : Option Addr) (h : Nat), Zg ρ [(1, (.int .u8 ((p5).toNat : Int))), (5, (.slice f (List.length p) h)), (7, (.int .i64 a))] ∧ SP [] w0 w [Ja 5 eU8 f h p] ∧ Zb (Ve p5 f5) p5 f6 p a = some r) (by rintro ρ w ⟨p, a, f, h, hk, hs, H⟩; cases H) ?_ Zd ?_
    ·rintro f6 ρ g6 ⟨p, a, f, h, hk, a9, H⟩
     refine At.known [(1, (.int .u8 ((p5).toNat : Int))), (5, (.slice f (List.length p) h)), (7, (.int .i64 a))] hk ?_
     replace H := (show Zl (Ve p5 f5) (Zb (Ve p5 f5) p5 f6) p5 p a = some r from H)
     unfold Zl at H
     refine aQ ?_
     refine aQ ?_
     refine aR ?_
     refine iR 2 2 [(25, (.int .i64 a)), (26, (.bool (decide (a < 64))))] ?_
     refine iF ?_
     refine Zs K (o := (.tmp 26)) K (b := (decide (a < 64))) K (fun b8 => ?_) (fun b8 => ?_)
     ·have H := ct H b8
      refine At.skip K ?_
      refine aQ ?_
      refine Z4 K (id := 3) K ?_
      refine aR ?_
      refine iR 4 4 [(29, (.slice f (List.length p) h)), (30, (.int .i64 a)), (31, (.slice f (List.length p) h)), (32, (.int .i64 a))] ?_
      obtain ⟨b0, d1, d2, e7, H⟩ := Qn H
      refine iS 5 ?_
      refine Vi (e := eU8) (l := p) (A := f) (c := h) (T := 52) (E := 5) (x := (.tmp 31)) (ix := (.tmp 32)) (ki := .i64) (iz := a) (d := (some 33)) (k := 4) K rfl K K K K (Vm (SP.get a9 (i := 0) rfl)) d1 d2 ?_
      intro e8 e9 f0 g7 hc505
      refine iS 6 ?_
      refine sC 5 33 e8 (e9 + Int.toNat a * eU8.sz) (.int .u8 ((b0).toNat : Int)) 34 (Qi (e := eU8) (Qf (Vm (SP.get a9 (i := 0) rfl)) f0 d1 d2) e7 (j := 0) rfl) ?_
      refine iR 2 8 [(35, (.int .u8 ((p5).toNat : Int))), (36, (.int .u8 (Vt .u8 ((b0).toNat : Int) ((p5).toNat : Int))))] ?_
      obtain ⟨g9, d3, d4, h1, H⟩ := Qn H
      refine iS 9 ?_
      refine Vi (e := eU8) (l := p) (A := f) (c := h) (T := 52) (E := 5) (x := (.tmp 29)) (ix := (.tmp 30)) (ki := .i64) (iz := a) (d := (some 37)) (k := 8) K rfl K K K K (Vm (SP.get a9 (i := 0) rfl)) d3 d4 ?_
      intro f1 f2 f3 h2 hc514
      obtain ⟨b1, hyl517, H⟩ := V2 H
      have hnl517 : List.length b1 = List.length p := by rw [← hyl517, List.length_set]
      refine iS 10 ?_
      refine Rc (e := eU8) (t := 5) (E := 5) (x := (.tmp 37)) (y := (.tmp 36)) (A := f) (c := h) (l := p) (iz := a) (b := f1) (off := f2) (i := 0) (v := (.int .u8 (Vt .u8 ((b0).toNat : Int) ((p5).toNat : Int)))) (x' := (G3 (Vt .u8 ((b0).toNat : Int) ((p5).toNat : Int)))) (d := none) (k := 9) K rfl K K a9 rfl f3 rfl d4 d3 (by show [Value.int .u8 (((G3 (Vt .u8 ((b0).toNat : Int) ((p5).toNat : Int)))).toNat : Int)] = _; rw [Gv (u8_xor _ _)]) K ?_
      rw [hyl517]
      intro h3 f4
      refine In.known [(5, (.slice f (List.length b1) h)), (29, (.slice f (List.length b1) h)), (31, (.slice f (List.length b1) h))] ⟨(by rw [hnl517]; kernel_rfl), (by rw [hnl517]; kernel_rfl), (by rw [hnl517]; kernel_rfl), trivial⟩ ?_
      refine iF ?_
      refine aR ?_
      refine iR 3 3 [(27, (.int .i64 a)), (28, (.int .i64 (IntKind.wrap .i64 (a + 1)))), (7, (.int .i64 (IntKind.wrap .i64 (a + 1))))] ?_
      refine iF ?_
      exact ⟨b1, (IntKind.wrap .i64 (a + 1)), f, h, ⟨K, K, K, trivial⟩, SP.sel f4 [0] rfl rfl, H⟩
     ·have H := cf H b8
      refine At.exit K (id := 2) K ?_
      refine aQ ?_
      refine aR ?_
      refine iR 2 2 [(38, (.slice f (List.length p) h)), (4, (.slice f (List.length p) h))] ?_
      refine iF ?_
      refine At.ret K ?_
      refine ⟨(.slice f (List.length p) h), K, ?_⟩
      obtain rfl := Qm H
      exact ⟨f, h, rfl, SP.sel a9 [0] rfl rfl⟩
    ·exact ⟨u, 0, a0, a1, ⟨K, K, K, trivial⟩, SP.sel c5 [0] rfl rfl, H⟩
  ·exact ⟨a3, a4, a5, ⟨K, K, trivial⟩, SP.sel e4 [0] rfl rfl, H⟩
def Jz (p1 : (List UInt8)) (p5 : (List UInt8)) : Option ((List UInt8)) :=
  ((X1 p1 (54 : UInt8)).bind fun c => ((app c p5).bind fun d => ((Yc d).bind fun a => ((chk (Nat.beq (List.length a) 32)).bind fun _ => ((X1 p1 (92 : UInt8)).bind fun e => ((app e a).bind fun f => ((Yc f).bind fun b => ((chk (Nat.beq (List.length b) 32)).bind fun _ => (some (b))))))))))
set_option maxRecDepth 100000 in
set_option maxHeartbeats 4000000 in
theorem Dr (A2 : Option Addr) (c3 : Nat) (A6 : Option Addr) (c7 : Nat) (p1 : (List UInt8)) (p5 : (List UInt8)) (w0 : World) (b8 : RdT eU8 w0 A2 c3 p1) (d6 : RdT eU8 w0 A6 c7 p5) (r : ((List UInt8))) (H : Jz p1 p5 = some r) :
  Calls Tryz.prog 54 #[(.slice A2 (List.length p1) c3), (.slice A6 (List.length p5) c7)] w0 (fun e w' => e = .returned (.agg (Qb eU8 r).toArray) ∧ SP [] w0 w' []) := by
 unfold Jz at H
 refine Qv (n := 16) Tryz.func54 K K K ?_
 have d7 := Q1 [] w0
 refine aQ ?_
 refine aR ?_
 refine iS 1 ?_
 refine Qz (e := eU8) (l := (List.replicate 32 (0 : UInt8))) (m := 32) (t := 89) (z := .agg (Qb eU8 (List.replicate 32 (0 : UInt8))).toArray) (d := (some 4)) (k := 0) K rfl K rfl rfl K d7 ?_
 intro g9 d8 b9
 refine iF ?_
 refine aQ ?_
 refine aR ?_
 refine iR 1 1 [(6, (.slice A2 (List.length p1) c3))] ?_
 obtain ⟨a8, d9, H⟩ := Qg H
 refine iS 2 ?_
 refine cF 73 #[(.tmp 6), (.const (.int .u8 (54)))] #[52, 5] 7 Tryz.call73 (Nj A2 c3 p1 (54 : UInt8) d8 (RdT.sp b8 b9) a8 d9) ?_
 rintro e g4 ⟨e0, e1, rfl, c0⟩
 refine ⟨_, rfl, ?_⟩
 have c1 := SP.call b9 c0
 clear c0
 refine iR 1 3 [(8, (.slice A6 (List.length p5) c7))] ?_
 obtain ⟨hl21, H⟩ := Jb H
 obtain ⟨a1, hyl22⟩ : ∃ y, a8 ++ p5 = y := ⟨_, rfl⟩
 rw [hyl22] at H
 refine iS 4 ?_
 refine Qj.append (e := eU8) (l := a8) (m := p5) (A := e0) (c := e1) (T := 52) (TX := 52) (E := 5) (b := 1) (s := (.tmp 7)) (x := (.tmp 8)) (i := 1) (vx := (.slice A6 (List.length p5) c7)) (d := (some 9)) (k := 3) K rfl K K K K rfl c1 rfl (Ny (E := 5) K (RdT.sp d6 c1)) hl21 ?_
 rw [hyl22]
 intro a2 a3 e2 c2
 obtain ⟨f, e3, H⟩ := Qg H
 obtain ⟨a9, H⟩ := Vu H
 replace a9 := Nat.eq_of_beq_eq_true a9
 refine iS 5 ?_
 refine cF 72 #[(.tmp 9)] #[52] 10 Tryz.call72 (Un a2 a3 a1 e2 (Vm (SP.get c2 (i := 1) rfl)) f e3) ?_
 rintro e g5 ⟨rfl, c4⟩
 refine ⟨_, rfl, ?_⟩
 have e4 := SP.call c2 c4
 clear c4
 refine iS 6 ?_
 refine Qz (e := eU8) (l := (List.replicate 32 (0 : UInt8))) (m := 32) (t := 89) (z := .agg (Qb eU8 (List.replicate 32 (0 : UInt8))).toArray) (d := (some 5)) (k := 5) K rfl K rfl rfl K e4 ?_
 intro j g6 e5
 refine iS 7 ?_
 refine Q8 (e := eU8) (l := (List.replicate 32 (0 : UInt8))) (l' := f) (m := 32) (t := 89) (x := (.tmp 5)) (y := (.tmp 10)) (g := j) (i := 2) (d := none) (k := 6) K rfl K K a9 e5 rfl K ?_
 intro g7 e6
 refine iF ?_
 refine aQ ?_
 obtain ⟨o, e7, H⟩ := Qg H
 obtain ⟨hl50, H⟩ := Jb H
 obtain ⟨u, hyl51⟩ : ∃ y, o ++ f = y := ⟨_, rfl⟩
 rw [hyl51] at H
 obtain ⟨p, e8, H⟩ := Qg H
 obtain ⟨b0, H⟩ := Vu H
 replace b0 := Nat.eq_of_beq_eq_true b0
 refine aG [GEq (.slice A2 (List.length p1) c3), Ch, GEq (.slice (some ⟨j, 0, none⟩) (List.length f) 32), Ch, GEq (.agg (Qb eU8 p).toArray), Ch] [1, 3, 4, 5] [([], fun vs w => VL vs [] ∧ SP [] w0 w [Vb 89 eU8 g9 32 (List.replicate 32 (0 : UInt8)), Ja 5 eU8 a2 a3 a1, Vb 89 eU8 j 32 f]), ([1], fun vs w => ∃ (v : Option Addr), ∃ (a0 : Nat), VL vs [(.slice v (List.length o) a0)] ∧ SP [] w0 w [Vb 89 eU8 g9 32 (List.replicate 32 (0 : UInt8)), Ja 5 eU8 a2 a3 a1, Vb 89 eU8 j 32 f, Ja 5 eU8 v a0 o]), ([1, 3], fun vs w => ∃ (b1 : Option Addr), ∃ (b2 : Nat), ∃ (a4 : Option Addr), ∃ (a5 : Nat), VL vs [(.slice b1 (List.length o) b2), (.slice a4 (List.length u) a5)] ∧ SP [] w0 w [Vb 89 eU8 g9 32 (List.replicate 32 (0 : UInt8)), Ja 5 eU8 a2 a3 a1, Vb 89 eU8 j 32 f, Ja 5 eU8 a4 a5 u]), ([1, 3, 4], fun vs w => ∃ (b3 : Option Addr), ∃ (b4 : Nat), ∃ (a6 : Option Addr), ∃ (a7 : Nat), VL vs [(.slice b3 (List.length o) b4), (.slice a6 (List.length u) a7), (.agg (Qb eU8 p).toArray)] ∧ SP [] w0 w [Vb 89 eU8 g9 32 (List.replicate 32 (0 : UInt8)), Ja 5 eU8 a2 a3 a1, Vb 89 eU8 j 32 f, Ja 5 eU8 a6 a7 u]), ([1, 3, 4, 5], fun vs w => ∃ (c5 : Option Addr), ∃ (c6 : Nat), ∃ (b5 : Option Addr), ∃ (b6 : Nat), VL vs [(.slice c5 (List.length o) c6), (.slice b5 (List.length u) b6), (.agg (Qb eU8 p).toArray), undef] ∧ SP [] w0 w [Vb 89 eU8 g9 32 p, Ja 5 eU8 a2 a3 a1, Vb 89 eU8 j 32 f, Ja 5 eU8 b5 b6 u])] 6 4 ⟨trivial, SP.drew e6⟩ ?_ ?_
 iterate 6 refine And.intro ?_ ?_
 exact trivial
 ·exact oV (hC (hS 0 (.slice A2 (List.length p1) c3)) (h0)) (.slice A2 (List.length p1) c3)
 ·refine oH 0 1 ?_
  ·rintro ρ' w' hs hah ⟨g8, c8⟩
   refine kM (kc (kA hah 0 11) k0) fun hkn => ?_
   refine cF 73 #[(.tmp 11), (.const (.int .u8 (92)))] #[52, 5] 12 Tryz.call73 (Nj A2 c3 p1 (92 : UInt8) w' (RdT.sp b8 c8) o e7) ?_
   rintro e h1 ⟨e9, f0, rfl, c9⟩
   refine ⟨_, rfl, ?_⟩
   have f1 := SP.call c8 c9
   clear c9
   refine ⟨_, Qa hkn, trivial, ?_⟩
   exact (Exists.intro e9 (Exists.intro f0 (And.intro (And.intro rfl (trivial)) (f1))))
 ·refine Owe.light K [0, 1] K (Qd ?_ (Qd ?_ Q3))
  ·rintro ρ' w' hs hah ⟨h2, f2⟩
   refine kM (kc (kS hs 5 (pt j 0)) k0) fun hkn => ?_
   refine Yz (e := eU8) (l := f) (m := 32) (g := j) (T := 89) (E := 5) (x := (.tmp 5)) (q := 2) (d := (some 13)) (k := 2) K rfl K K K f2 rfl ?_
   exact eK hkn
  ·rintro ρ' w' hs hah ⟨v, a0, ⟨h3, -⟩, f3⟩
   refine kM (kc (kS hs 5 (pt j 0)) k0) fun hkn => ?_
   refine Yz (e := eU8) (l := f) (m := 32) (g := j) (T := 89) (E := 5) (x := (.tmp 5)) (q := 2) (d := (some 13)) (k := 2) K rfl K K K f3 rfl ?_
   exact eK hkn
 ·refine oH 1 2 ?_
  ·rintro ρ' w' hs hah ⟨v, a0, ⟨d0, -⟩, d1⟩
   refine kN [(12, (.slice v (List.length o) a0)), (13, (.slice (some ⟨j, 0, none⟩) (List.length f) 32))] ⟨(Yh (h := 1) K).symm.trans d0, hah 2 13 K, trivial⟩ fun hkn => ?_
   refine Qj.append (e := eU8) (l := o) (m := f) (A := v) (c := a0) (T := 52) (TX := 52) (E := 5) (b := 1) (s := (.tmp 12)) (x := (.tmp 13)) (i := 3) (vx := (.slice (some ⟨j, 0, none⟩) (List.length f) 32)) (d := (some 14)) (k := 3) K rfl K K K K rfl d1 rfl (Ny (E := 5) K (Qu (SP.get d1 (i := 2) rfl))) hl50 ?_
   rw [hyl51]
   intro f4 f5 h4 f6
   refine ⟨_, Qa hkn, trivial, ?_⟩
   exact (Exists.intro v (Exists.intro a0 (Exists.intro f4 (Exists.intro f5 (And.intro (And.intro d0 (And.intro rfl (trivial))) (f6))))))
 ·refine oH 2 3 ?_
  ·rintro ρ' w' hs hah ⟨b1, b2, a4, a5, ⟨f7, d2, -⟩, d3⟩
   refine kN [(14, (.slice a4 (List.length u) a5))] ⟨(Yh (h := 3) K).symm.trans d2, trivial⟩ fun hkn => ?_
   refine cF 72 #[(.tmp 14)] #[52] 15 Tryz.call72 (Un a4 a5 u w' (Vm (SP.get d3 (i := 3) rfl)) p e8) ?_
   rintro e h5 ⟨rfl, d4⟩
   refine ⟨_, rfl, ?_⟩
   have f8 := SP.call d3 d4
   clear d4
   refine ⟨_, Qa hkn, rfl, ?_⟩
   exact (Exists.intro b1 (Exists.intro b2 (Exists.intro a4 (Exists.intro a5 (And.intro (And.intro f7 (And.intro d2 (And.intro rfl (trivial)))) (f8))))))
 ·refine oH 3 4 ?_
  ·rintro ρ' w' hs hah ⟨b3, b4, a6, a7, ⟨f9, g0, d5, -⟩, g1⟩
   refine kN [(4, (pt g9 0)), (15, (.agg (Qb eU8 p).toArray))] ⟨(hs 4 K).trans K, (Yh (h := 4) K).symm.trans d5, trivial⟩ fun hkn => ?_
   refine Q8 (e := eU8) (l := (List.replicate 32 (0 : UInt8))) (l' := p) (m := 32) (t := 89) (x := (.tmp 4)) (y := (.tmp 15)) (g := g9) (i := 0) (d := none) (k := 5) K rfl K K b0 g1 rfl K ?_
   intro h6 g2
   refine ⟨_, Qa hkn, trivial, ?_⟩
   exact (Exists.intro b3 (Exists.intro b4 (Exists.intro a6 (Exists.intro a7 (And.intro (And.intro f9 (And.intro g0 (And.intro d5 (And.intro rfl (trivial))))) (g2))))))
 ·rintro ρ' w' hs hf ⟨c5, c6, b5, b6, ⟨h7, h8, h9, i0, -⟩, b7⟩
  refine Vj [(4, (pt g9 0))] ⟨(hs 4 K).trans K, trivial⟩ ?_
  obtain ⟨i1, g3⟩ : ∃ x, w' = x := ⟨_, rfl⟩
  rw [g3] at b7 ⊢
  refine At.ret K ?_
  refine ⟨(.agg (Qb eU8 p).toArray), Bz K (U0 (e := eU8) (l := p) (a := 4) (t := 89) K (SP.get b7 (i := 0) rfl) K K), ?_⟩
  obtain rfl := Qm H
  exact ⟨rfl, SP.sel b7 [] rfl rfl⟩
def Zx (d : (List UInt8) → Int → Option ((List UInt8))) (p1 : (List UInt8)) (p5 : (List (List UInt8))) (b : (List UInt8)) (a : Int) : Option ((List UInt8)) :=
  (cond (decide (a < ((List.length p5 : Nat) : Int))) ((idx p5 a).bind fun e => (cond (decide (((List.length e : Nat) : Int) > 255)) (some (([] : List UInt8))) ((idx p5 a).bind fun f => ((Jn f).bind fun g => ((app b g).bind fun h => (d h (IntKind.wrap .i64 (a + 1)))))))) ((Jz p1 b).bind fun c => ((chk (Nat.beq (List.length c) 32)).bind fun _ => ((U1 c).bind fun i => (some (i))))))
def Zy (p1 : (List UInt8)) (p5 : (List (List UInt8))) : Nat → (List UInt8) → Int → Option ((List UInt8))
  | 0, _, _ => none
  | f + 1, a, b => Zx  (Zy p1 p5 f) p1 p5 a b
def Y9 (p1 : (List UInt8)) (p5 : (List (List UInt8))) : Option ((List UInt8)) :=
  (Zy p1 p5 Zd ([] : List UInt8) 0)
set_option maxRecDepth 100000 in
set_option maxHeartbeats 4000000 in
theorem Nv (A2 : Option Addr) (c3 : Nat) (A6 : Option Addr) (c7 : Nat) (p1 : (List UInt8)) (p5 : (List (List UInt8))) (w0 : World) (c2 : RdT eU8 w0 A2 c3 p1) (v : RdT Qw w0 A6 c7 p5) (r : ((List UInt8))) (H : Y9 p1 p5 = some r) :
  Calls Tryz.prog 30 #[(.slice A2 (List.length p1) c3), (.slice A6 (List.length p5) c7)] w0 (fun e w' => e = .returned (.string ⟨List.toArray r⟩) ∧ SP [] w0 w' []) := by
 unfold Y9 at H
 refine Qv (n := 32) Tryz.func30 K K K ?_
 have c4 := Q1 [] w0
 refine aQ ?_
 refine aR ?_
 refine iR 1 1 [(4, (.string ⟨List.toArray ([] : List UInt8)⟩))] ?_
 refine iF ?_
 refine aQ ?_
 refine aR ?_
 refine iR 1 1 [(5, (.slice none (List.length ([] : List UInt8)) 0))] ?_
 refine iF ?_
 refine aQ ?_
 refine aQ ?_
 refine aR ?_
 refine iR 1 1 [(6, (.int .i64 0))] ?_
 refine iF ?_
 refine Z4 K (id := 0) K ?_
 refine Ur K (fun f1 ρ w => ∃ (f : (List UInt8)) (a : Int) (h : Option Addr) (p : Nat), Zg ρ [(0, (.slice A2 (List.length p1) c3)), (1, (.slice A6 (List.length p5) c7)), (5, (.slice h (List.length f) p)), (6, (.int .i64 a))] ∧ SP [] w0 w [Ja 5 eU8 h p f] ∧ Zy p1 p5 f1 f a = some r) (by rintro ρ w ⟨f, a, h, p, hk, hs, H⟩; cases H) ?_ Zd ?_
 ·rintro f1 ρ a9 ⟨f, a, h, p, hk, u, H⟩
  refine At.known [(0, (.slice A2 (List.length p1) c3)), (1, (.slice A6 (List.length p5) c7)), (5, (.slice h (List.length f) p)), (6, (.int .i64 a))] hk ?_
  replace H := (show Zx (Zy p1 p5 f1) p1 p5 f a = some r from H)
  unfold Zx at H
  refine aQ ?_
  refine aQ ?_
  refine aR ?_
  refine iR 4 4 [(8, (.int .i64 a)), (9, (.slice A6 (List.length p5) c7)), (10, (.int .i64 ((List.length p5 : Nat) : Int))), (11, (.bool (decide (a < ((List.length p5 : Nat) : Int)))))] ?_
  refine iF ?_
  refine Zs K (o := (.tmp 11)) K (b := (decide (a < ((List.length p5 : Nat) : Int)))) K (fun a3 => ?_) (fun a3 => ?_)
  ·have H := ct H a3
   refine At.skip K ?_
   refine aQ ?_
   refine Z4 K (id := 1) K ?_
   refine aQ ?_
   refine aQ ?_
   refine aR ?_
   refine iR 2 2 [(14, (.slice A6 (List.length p5) c7)), (15, (.int .i64 a))] ?_
   obtain ⟨a0, b0, b1, c5, H⟩ := Qn H
   refine iS 3 ?_
   refine Vi (e := Qw) (l := p5) (A := A6) (c := c7) (T := 53) (E := 9) (x := (.tmp 14)) (ix := (.tmp 15)) (ki := .i64) (iz := a) (d := (some 16)) (k := 2) K rfl K K K K (RdT.sp v u) b0 b1 ?_
   intro c6 c8 c9 e4 hc136
   refine iS 4 ?_
   refine sC 9 16 c6 (c8 + Int.toNat a * Qw.sz) (.string ⟨List.toArray a0⟩) 17 (Qi (e := Qw) (Qf (RdT.sp v u) c9 b0 b1) c5 (j := 0) rfl) ?_
   refine iR 2 6 [(18, (.int .i64 ((List.length a0 : Nat) : Int))), (19, (.bool (decide (((List.length a0 : Nat) : Int) > 255))))] ?_
   refine iF ?_
   refine Zs K (o := (.tmp 19)) K (b := (decide (((List.length a0 : Nat) : Int) > 255))) K (fun a4 => ?_) (fun a4 => ?_)
   ·have H := ct H a4
    refine aQ ?_
    refine aR ?_
    refine iR 1 1 [(4, (.string ⟨List.toArray ([] : List UInt8)⟩))] ?_
    refine iF ?_
    refine At.ret K ?_
    refine ⟨(.string ⟨List.toArray ([] : List UInt8)⟩), K, ?_⟩
    obtain rfl := Qm H
    exact ⟨rfl, SP.sel u [] rfl rfl⟩
   ·have H := cf H a4
    refine At.skip K ?_
    refine aR ?_
    refine iR 3 3 [(20, (.slice h (List.length f) p)), (21, (.slice A6 (List.length p5) c7)), (22, (.int .i64 a))] ?_
    obtain ⟨b2, b3, b4, d0, H⟩ := Qn H
    refine iS 4 ?_
    refine Vi (e := Qw) (l := p5) (A := A6) (c := c7) (T := 53) (E := 9) (x := (.tmp 21)) (ix := (.tmp 22)) (ki := .i64) (iz := a) (d := (some 23)) (k := 3) K rfl K K K K (RdT.sp v u) b3 b4 ?_
    intro d1 d2 d3 e5 hc146
    refine iS 5 ?_
    refine sC 9 23 d1 (d2 + Int.toNat a * Qw.sz) (.string ⟨List.toArray b2⟩) 24 (Qi (e := Qw) (Qf (RdT.sp v u) d3 b3 b4) d0 (j := 0) rfl) ?_
    obtain ⟨a1, d4, H⟩ := Qg H
    refine iS 6 ?_
    refine cF 53 #[(.tmp 24)] #[9] 25 Tryz.call53 (R8  b2 a9  a1 d4) ?_
    rintro e e6 ⟨d5, d6, rfl, b5⟩
    refine ⟨_, rfl, ?_⟩
    have b6 := SP.call u b5
    clear b5
    obtain ⟨hl157, H⟩ := Jb H
    obtain ⟨b7, hyl158⟩ : ∃ y, f ++ a1 = y := ⟨_, rfl⟩
    rw [hyl158] at H
    refine iS 7 ?_
    refine Qj.append (e := eU8) (l := f) (m := a1) (A := h) (c := p) (T := 52) (TX := 52) (E := 5) (b := 1) (s := (.tmp 20)) (x := (.tmp 25)) (i := 0) (vx := (.slice d5 (List.length a1) d6)) (d := (some 26)) (k := 6) K rfl K K K K rfl b6 rfl (Ny (E := 5) K (Vm (SP.get b6 (i := 1) rfl))) hl157 ?_
    rw [hyl158]
    intro b8 b9 e7 d7
    refine iR 1 8 [(5, (.slice b8 (List.length b7) b9))] ?_
    refine iF ?_
    refine aR ?_
    refine iR 3 3 [(12, (.int .i64 a)), (13, (.int .i64 (IntKind.wrap .i64 (a + 1)))), (6, (.int .i64 (IntKind.wrap .i64 (a + 1))))] ?_
    refine iF ?_
    exact ⟨b7, (IntKind.wrap .i64 (a + 1)), b8, b9, ⟨K, K, K, K, trivial⟩, SP.sel d7 [0] rfl rfl, H⟩
  ·have H := cf H a3
   refine At.exit K (id := 0) K ?_
   refine aQ ?_
   refine aR ?_
   refine iR 2 2 [(27, (.slice A2 (List.length p1) c3)), (28, (.slice h (List.length f) p))] ?_
   obtain ⟨a2, d8, H⟩ := Qg H
   obtain ⟨a5, H⟩ := Vu H
   replace a5 := Nat.eq_of_beq_eq_true a5
   refine iS 3 ?_
   refine cF 54 #[(.tmp 27), (.tmp 28)] #[52, 52] 29 Tryz.call54 (Dr A2 c3 h p p1 f a9 (RdT.sp c2 u) (Vm (SP.get u (i := 0) rfl)) a2 d8) ?_
   rintro e e8 ⟨rfl, c0⟩
   refine ⟨_, rfl, ?_⟩
   have d9 := SP.call u c0
   clear c0
   refine iS 4 ?_
   refine Qz (e := eU8) (l := (List.replicate 32 (0 : UInt8))) (m := 32) (t := 89) (z := .agg (Qb eU8 (List.replicate 32 (0 : UInt8))).toArray) (d := (some 7)) (k := 3) K rfl K rfl rfl K d9 ?_
   intro a6 e9 e0
   refine iS 5 ?_
   refine Q8 (e := eU8) (l := (List.replicate 32 (0 : UInt8))) (l' := a2) (m := 32) (t := 89) (x := (.tmp 7)) (y := (.tmp 29)) (g := a6) (i := 1) (d := none) (k := 4) K rfl K K a5 e0 rfl K ?_
   intro e1 a7
   refine iF ?_
   refine aQ ?_
   refine aR ?_
   refine iS 1 ?_
   refine Yz (e := eU8) (l := a2) (m := 32) (g := a6) (T := 89) (E := 5) (x := (.tmp 7)) (q := 1) (d := (some 30)) (k := 0) K rfl K K K a7 rfl ?_
   obtain ⟨a8, e2, H⟩ := Qg H
   refine iS 2 ?_
   refine cF 55 #[(.tmp 30)] #[52] 31 Tryz.call55 (Dq (some ⟨a6, 0, none⟩) 32 a2 e1 (Qu (SP.get a7 (i := 1) rfl)) a8 e2) ?_
   rintro e f0 ⟨rfl, c1⟩
   refine ⟨_, rfl, ?_⟩
   have e3 := SP.call a7 c1
   clear c1
   refine iR 1 3 [(4, (.string ⟨List.toArray a8⟩))] ?_
   refine iF ?_
   refine At.ret K ?_
   refine ⟨(.string ⟨List.toArray a8⟩), K, ?_⟩
   obtain rfl := Qm H
   exact ⟨rfl, SP.sel e3 [] rfl rfl⟩
 ·exact ⟨([] : List UInt8), 0, none, 0, ⟨K, K, K, K, trivial⟩, SP.sel (Rh c4 5 eU8) [0] rfl rfl, H⟩
end Go.Proofs.YtmgfanhcdfobhaaGreatDoor
namespace Go.Proofs.YtmgfanhcdfobhaaGreatDoor
def Cq : List UInt8 := [48, 49, 50, 51, 52, 53, 54, 55, 56, 57, 97, 98, 99, 100, 101, 102]
def hexC (c : UInt8) : List UInt8 := [Cq.getD (c.toNat / 16) 0, Cq.getD (c.toNat % 16) 0]
def H3 (b : List UInt8) : List UInt8 := b.flatMap hexC
theorem R9 : ∀ b : List UInt8, (H3 b).length = 2 * b.length
  | [] => rfl
  | c :: b => by
    have := R9 b
    simp [H3, hexC] at *
    omega
theorem H4 (b : List UInt8) (c : UInt8) : H3 (b ++ [c]) = H3 b ++ hexC c := by simp [H3]
theorem D1 {α : Type} (l : List α) (i : Nat) (d : α) (h : i < l.length) : l.take (i + 1) = l.take i ++ [l.getD i d] := by
  rw [List.take_add_one, List.getElem?_eq_getElem h]
  simp [List.getD, h]
theorem hi_ref (c : UInt8) : IntKind.wrap .u8 (Int.tdiv ((c.toNat : Nat) : Int) 16) = ((c.toNat / 16 : Nat) : Int) := by
  have h := c.toNat_lt
  have := B4 c.toNat 16
  rw [show ((16 : Nat) : Int) = 16 from rfl] at this
  rw [this, wrap8]
  omega
theorem lo_ref (c : UInt8) : Int.tmod ((c.toNat : Nat) : Int) 16 = ((c.toNat % 16 : Nat) : Int) := by
  have := C7 c.toNat 16
  rw [show ((16 : Nat) : Int) = 16 from rfl] at this
  exact this
theorem hi_prog (c : UInt8) : Ud .u8 ((c.toNat : Nat) : Int) 4 = ((c.toNat / 16 : Nat) : Int) := F4 .u8 c.toNat 4 (by decide)
theorem lo_prog (c : UInt8) : V8 .u8 ((c.toNat : Nat) : Int) 15 = ((c.toNat % 16 : Nat) : Int) := by
  have h := c.toNat_lt
  unfold V8
  have : (BitVec.ofInt 8 ((c.toNat : Nat) : Int) &&& BitVec.ofInt 8 15).toNat = c.toNat % 16 := by
    rw [BitVec.toNat_and, BitVec.ofInt_natCast, BitVec.toNat_ofNat, Nat.mod_eq_of_lt (by omega)]
    show c.toNat &&& 15 = _
    exact Nat.and_two_pow_sub_one_eq_mod c.toNat 4
  show IntKind.wrap .u8 ((BitVec.ofInt 8 ((c.toNat : Nat) : Int) &&& BitVec.ofInt 8 15).toNat : Int) = _
  rw [this, wrap8]
  omega
theorem Cc : Cq.length = 16 := rfl
theorem H5 (b : List UInt8) (hb : b.length ≤ 1000000) : ∀ (d i f : Nat), d = b.length - i → i ≤ b.length → d < f → Xj b f (H3 (b.take i)) (i : Int) = some (H3 b) := by
  intro d
  induction d with
  | zero =>
    intro i f hd hi hf
    obtain ⟨f, rfl⟩ : ∃ g, f = g + 1 := ⟨f - 1, by omega⟩
    have : i = b.length := by omega
    subst this
    show Xi (Xj b f) b (H3 (b.take b.length)) ((b.length : Nat) : Int) = _
    unfold Xi
    rw [show decide (((b.length : Nat) : Int) < ((b.length : Nat) : Int)) = false by simp, cond_false, List.take_length]
  | succ d ih =>
    intro i f hd hi hf
    obtain ⟨f, rfl⟩ : ∃ g, f = g + 1 := ⟨f - 1, by omega⟩
    show Xi (Xj b f) b (H3 (b.take i)) (i : Int) = _
    unfold Xi
    have hl : (H3 (b.take i)).length ≤ 2000000 := by rw [R9, List.length_take]; omega
    rw [show decide ((i : Int) < ((b.length : Nat) : Int)) = true by simp; omega, cond_true, V1 b i 0 (by omega)]
    have hlt := (b.getD i 0).toNat_lt
    have e1 : idx ([48, 49, 50, 51, 52, 53, 54, 55, 56, 57, 97, 98, 99, 100, 101, 102] : List UInt8) (((b.getD i 0).toNat / 16 : Nat) : Int) = some (Cq.getD ((b.getD i 0).toNat / 16) 0) := V1 Cq _ 0 (by rw [Cc]; omega)
    have e2 : idx ([48, 49, 50, 51, 52, 53, 54, 55, 56, 57, 97, 98, 99, 100, 101, 102] : List UInt8) (((b.getD i 0).toNat % 16 : Nat) : Int) = some (Cq.getD ((b.getD i 0).toNat % 16) 0) := V1 Cq _ 0 (by rw [Cc]; omega)
    simp only [Option.bind_some, hi_ref, lo_ref, e1, e2]
    rw [N6 (by simp only [List.length_cons, List.length_nil]; omega), Option.bind_some, show ((i : Int) + 1) = ((i + 1 : Nat) : Int) by omega, Xh (by omega)]
    have := ih (i + 1) f (by omega) (by omega) (by omega)
    rw [D1 b i 0 (by omega), H4] at this
    exact this
theorem ref_hex (b : List UInt8) (hb : b.length ≤ 1000000) : U1 b = some (H3 b) := H5 b hb b.length 0 Zd (by omega) (by omega) (by unfold Zd; omega)
def hexS (b : List UInt8) (i : Nat) : List UInt8 := H3 (b.take i) ++ List.replicate (2 * b.length - 2 * i) 0
theorem I8 (b : List UInt8) (i : Nat) (h : i ≤ b.length) : (hexS b i).length = 2 * b.length := by
  simp [hexS, R9]
  omega
theorem hexS_next (b : List UInt8) (i : Nat) (h : i < b.length) : ((hexS b i).set (2 * i) (Cq.getD ((b.getD i 0).toNat / 16) 0)).set (2 * i + 1) (Cq.getD ((b.getD i 0).toNat % 16) 0) = hexS b (i + 1) := by
  have hl : (H3 (b.take i)).length = 2 * i := by rw [R9, List.length_take]; omega
  unfold hexS
  rw [show 2 * b.length - 2 * i = (2 * b.length - 2 * (i + 1)) + 1 + 1 by omega, List.replicate_succ, List.replicate_succ]
  rw [List.set_append_right _ _ (by omega), List.set_append_right _ _ (by omega), hl, Nat.sub_self, show 2 * i + 1 - 2 * i = 1 by omega]
  rw [D1 b i 0 h, H4]
  simp [hexC]
theorem F7 (b : List UInt8) (hb : b.length ≤ 1000000) : ∀ (d i f : Nat), d = b.length - i → i ≤ b.length → d < f → Y7 b f (hexS b i) (i : Int) = some (H3 b) := by
  intro d
  induction d with
  | zero =>
    intro i f hd hi hf
    obtain ⟨f, rfl⟩ : ∃ g, f = g + 1 := ⟨f - 1, by omega⟩
    have : i = b.length := by omega
    subst this
    show Y6 (Y7 b f) b (hexS b b.length) ((b.length : Nat) : Int) = _
    unfold Y6
    rw [show decide (((b.length : Nat) : Int) < ((b.length : Nat) : Int)) = false by simp, cond_false]
    unfold hexS
    rw [List.take_length, Nat.sub_self]
    simp
  | succ d ih =>
    intro i f hd hi hf
    obtain ⟨f, rfl⟩ : ∃ g, f = g + 1 := ⟨f - 1, by omega⟩
    show Y6 (Y7 b f) b (hexS b i) (i : Int) = _
    unfold Y6
    have hl := I8 b i (by omega)
    rw [show decide ((i : Int) < ((b.length : Nat) : Int)) = true by simp; omega, cond_true, V1 b i 0 (by omega)]
    have hlt := (b.getD i 0).toNat_lt
    have e1 : idx ([48, 49, 50, 51, 52, 53, 54, 55, 56, 57, 97, 98, 99, 100, 101, 102] : List UInt8) (((b.getD i 0).toNat / 16 : Nat) : Int) = some (Cq.getD ((b.getD i 0).toNat / 16) 0) := V1 Cq _ 0 (by rw [Cc]; omega)
    have e2 : idx ([48, 49, 50, 51, 52, 53, 54, 55, 56, 57, 97, 98, 99, 100, 101, 102] : List UInt8) (((b.getD i 0).toNat % 16 : Nat) : Int) = some (Cq.getD ((b.getD i 0).toNat % 16) 0) := V1 Cq _ 0 (by rw [Cc]; omega)
    have w2 : IntKind.wrap .i64 (2 * (i : Int)) = ((2 * i : Nat) : Int) := by rw [show (2 * (i : Int)) = ((2 * i : Nat) : Int) by omega, Xh (by omega)]
    have w3 : IntKind.wrap .i64 (((2 * i : Nat) : Int) + 1) = ((2 * i + 1 : Nat) : Int) := by rw [show (((2 * i : Nat) : Int) + 1) = ((2 * i + 1 : Nat) : Int) by omega, Xh (by omega)]
    have w4 : IntKind.wrap .i64 ((i : Int) + 1) = ((i + 1 : Nat) : Int) := by rw [show ((i : Int) + 1) = ((i + 1 : Nat) : Int) by omega, Xh (by omega)]
    simp only [Option.bind_some, hi_prog, lo_prog, e1, e2, w2, w3, w4]
    rw [V1 _ (2 * i) 0 (by omega), Option.bind_some, V1 _ (2 * i + 1) 0 (by simp; omega), Option.bind_some, Int.toNat_natCast, Int.toNat_natCast, hexS_next b i (by omega)]
    exact ih (i + 1) f (by omega) (by omega) (by omega)
theorem prog_hex (b : List UInt8) (hb : b.length ≤ 1000000) : Gm b = some (H3 b) := by
  unfold Gm
  rw [show (2 * ((b.length : Nat) : Int)) = ((2 * b.length : Nat) : Int) by omega, Xh (by omega), show decide (0 ≤ ((2 * b.length : Nat) : Int) ∧ ((2 * b.length : Nat) : Int) ≤ 2147483648) = true from decide_eq_true ⟨by omega, by omega⟩]
  simp only [chk, Option.bind_some, Int.toNat_natCast]
  have := F7 b hb b.length 0 Zd (by omega) (by omega) (by unfold Zd; omega)
  have h0 : hexS b 0 = List.replicate (2 * b.length) 0 := by simp [hexS, H3]
  rw [h0] at this
  exact this
def keyK (key : List UInt8) : List UInt8 := if key.length > 64 then Lo key else key
def keyL (key : List UInt8) : List UInt8 := keyK key ++ List.replicate (64 - (keyK key).length) 0
theorem Er {key : List UInt8} (h : key.length > 64) : keyK key = Lo key := if_pos h
theorem Cr {key : List UInt8} (h : ¬ key.length > 64) : keyK key = key := if_neg h
def xorC (x c : UInt8) : UInt8 := G3 (Vt .u8 ((x.toNat : Nat) : Int) ((c.toNat : Nat) : Int))
def H6 (k : List UInt8) (c : UInt8) : List UInt8 := k.map fun x => xorC x c
def macL (key b : List UInt8) : List UInt8 := Lo (H6 (keyL key) 92 ++ Lo (H6 (keyL key) 54 ++ b))
theorem Da (key : List UInt8) : (keyL key).length = 64 := by
  unfold keyL
  by_cases h : key.length > 64
  · rw [Er h, List.length_append, List.length_replicate, Yd]
  · rw [Cr h, List.length_append, List.length_replicate]; omega
theorem Db (key b : List UInt8) : (macL key b).length = 32 := Yd _
theorem J8 (k : List UInt8) (c : UInt8) : (H6 k c).length = k.length := by simp [H6]
def E6 (k : List UInt8) (c : UInt8) (i : Nat) : List UInt8 := (H6 k c).take i ++ k.drop i
theorem Es (k : List UInt8) (c : UInt8) (i : Nat) : (E6 k c i).length = k.length := by
  simp [E6, J8]
  omega
theorem Kt (k : List UInt8) (c : UInt8) (i : Nat) (h : i < k.length) : (E6 k c i).getD i 0 = k.getD i 0 := by
  unfold E6
  simp only [List.getD]
  rw [List.getElem?_append_right (by simp; omega), List.getElem?_drop]
  congr 2
  simp [J8]
  omega
theorem H7 (k : List UInt8) (c : UInt8) (i : Nat) (h : i < k.length) : (E6 k c i).set i (xorC (k.getD i 0) c) = E6 k c (i + 1) := by
  unfold E6
  have hl : ((H6 k c).take i).length = i := by simp [J8]; omega
  rw [List.set_append_right _ _ (by omega), hl, Nat.sub_self, List.drop_eq_getElem_cons h, List.set_cons_zero, D1 (H6 k c) i 0 (by simp [J8]; omega), List.append_assoc]
  congr 2
  simp [H6, List.getD, h]
theorem prog_of (key : List UInt8) (hk : key.length ≤ 1073741824) : Cb key = some (keyL key) := by
  have hc : ∀ v : List UInt8, v.length ≤ 64 → Gb v = some (v ++ List.replicate (64 - v.length) 0) := by
    intro v hv
    unfold Gb
    rw [Option.bind_some]
    congr 1
    unfold cpy
    rw [List.take_zero, List.nil_append, List.length_replicate, List.take_of_length_le hv, List.drop_replicate, show 64 - (0 + min 64 v.length) = 64 - v.length by omega]
  unfold Cb keyL
  by_cases h : key.length > 64
  · rw [show decide (((key.length : Nat) : Int) > 64) = true from decide_eq_true (by omega), cond_true, Ks key hk, Option.bind_some, Yd]
    simp only [Nat.beq_refl, chk, Option.bind_some]
    rw [hc _ (by rw [Yd]; omega), Er h]
  · rw [show decide (((key.length : Nat) : Int) > 64) = false from decide_eq_false (by omega), cond_false, hc _ (by omega), Cr h]
theorem prog_xor (k : List UInt8) (hk : k.length = 64) (c : UInt8) (b : List UInt8) (hb : b.length ≤ 1000000000) : ∀ (d i f : Nat), d = 64 - i → i ≤ 64 → d < f → Yw c b f (E6 k c i) (i : Int) = some (Lo (H6 k c ++ b)) := by
  intro d
  induction d with
  | zero =>
    intro i f hd hi hf
    obtain ⟨f, rfl⟩ : ∃ g, f = g + 1 := ⟨f - 1, by omega⟩
    have : i = 64 := by omega
    subst this
    show Yv (Yw c b f) c b (E6 k c 64) ((64 : Nat) : Int) = _
    unfold Yv
    have hx : E6 k c 64 = H6 k c := by
      unfold E6
      rw [List.take_of_length_le (by rw [J8]; omega), List.drop_of_length_le (by omega), List.append_nil]
    rw [show decide (((64 : Nat) : Int) < 64) = false by decide, cond_false, hx, N6 (by rw [J8]; omega), Option.bind_some, Ks _ (by rw [List.length_append, J8]; omega), Option.bind_some, Yd]
    rfl
  | succ d ih =>
    intro i f hd hi hf
    obtain ⟨f, rfl⟩ : ∃ g, f = g + 1 := ⟨f - 1, by omega⟩
    show Yv (Yw c b f) c b (E6 k c i) (i : Int) = _
    unfold Yv
    have hl := Es k c i
    rw [show decide ((i : Int) < 64) = true from decide_eq_true (by omega), cond_true, V1 _ i 0 (by omega), Option.bind_some, Option.bind_some, Option.bind_some, Int.toNat_natCast, Kt k c i (by omega)]
    rw [show ((i : Int) + 1) = ((i + 1 : Nat) : Int) by omega, Xh (by omega)]
    have hn := H7 k c i (by omega)
    unfold xorC at hn
    rw [hn]
    exact ih (i + 1) f (by omega) (by omega) (by omega)
theorem Et (k : List UInt8) (hk : k.length = 64) (c : UInt8) (b : List UInt8) (hb : b.length ≤ 1000000000) : N3 k c b = some (Lo (H6 k c ++ b)) := by
  have := prog_xor k hk c b hb 64 0 Zd (by omega) (by omega) (by unfold Zd; omega)
  rw [show E6 k c 0 = k by simp [E6]] at this
  exact this
theorem prog_mac (key b : List UInt8) (hk : key.length ≤ 1073741824) (hb : b.length ≤ 1000000000) : D0 key b = some (macL key b) := by
  unfold D0
  rw [prog_of key hk, Option.bind_some, Da]
  simp only [Nat.beq_refl, chk, Option.bind_some]
  rw [Et _ (Da key) 54 b hb, Option.bind_some, Yd]
  simp only [Nat.beq_refl, Option.bind_some]
  rw [Et _ (Da key) 92 _ (by rw [Yd]; omega), Option.bind_some, Yd]
  rfl
theorem ref_xor (r5) (k : List UInt8) (hk : k.length = 64) (c : UInt8) : ∀ (d i f : Nat), d = 64 - i → i ≤ 64 → d < f → Zb r5 c f (E6 k c i) (i : Int) = some (H6 k c) := by
  intro d
  induction d with
  | zero =>
    intro i f hd hi hf
    obtain ⟨f, rfl⟩ : ∃ g, f = g + 1 := ⟨f - 1, by omega⟩
    have : i = 64 := by omega
    subst this
    show Zl r5 (Zb r5 c f) c (E6 k c 64) ((64 : Nat) : Int) = _
    unfold Zl
    have hx : E6 k c 64 = H6 k c := by
      unfold E6
      rw [List.take_of_length_le (by rw [J8]; omega), List.drop_of_length_le (by omega), List.append_nil]
    rw [show decide (((64 : Nat) : Int) < 64) = false by decide, cond_false, hx]
  | succ d ih =>
    intro i f hd hi hf
    obtain ⟨f, rfl⟩ : ∃ g, f = g + 1 := ⟨f - 1, by omega⟩
    show Zl r5 (Zb r5 c f) c (E6 k c i) (i : Int) = _
    unfold Zl
    have hl := Es k c i
    rw [show decide ((i : Int) < 64) = true from decide_eq_true (by omega), cond_true, V1 _ i 0 (by omega), Option.bind_some, Option.bind_some, Option.bind_some, Int.toNat_natCast, Kt k c i (by omega)]
    rw [show ((i : Int) + 1) = ((i + 1 : Nat) : Int) by omega, Xh (by omega)]
    have hn := H7 k c i (by omega)
    unfold xorC at hn
    rw [hn]
    exact ih (i + 1) f (by omega) (by omega) (by omega)
theorem ref_fill (c : UInt8) {R : List UInt8} : ∀ (z : Nat) (v : List UInt8) (f : Nat), v.length + z = 64 → z < f → (∀ r5, Zb r5 c Zd (v ++ List.replicate z 0) 0 = some R) → Ve c f v = some R := by
  intro z
  induction z with
  | zero =>
    intro v f hv hf hR
    obtain ⟨f, rfl⟩ : ∃ g, f = g + 1 := ⟨f - 1, by omega⟩
    show Zm (Ve c f) c v = _
    unfold Zm
    rw [show decide (((v.length : Nat) : Int) < 64) = false from decide_eq_false (by omega), cond_false]
    have := hR (Ve c f)
    rw [show List.replicate 0 (0 : UInt8) = [] from rfl, List.append_nil] at this
    exact this
  | succ z ih =>
    intro v f hv hf hR
    obtain ⟨f, rfl⟩ : ∃ g, f = g + 1 := ⟨f - 1, by omega⟩
    show Zm (Ve c f) c v = _
    unfold Zm
    rw [show decide (((v.length : Nat) : Int) < 64) = true from decide_eq_true (by omega), cond_true, N6 (by simp; omega), Option.bind_some]
    refine ih (v ++ [0]) f (by simp; omega) (by omega) fun r5 => ?_
    have := hR r5
    rw [show List.replicate (z + 1) (0 : UInt8) = [0] ++ List.replicate z 0 from rfl, ← List.append_assoc] at this
    exact this
theorem Ku (c : UInt8) (v : List UInt8) (hv : v.length ≤ 64) : Zn c v = some (H6 (v ++ List.replicate (64 - v.length) 0) c) := by
  unfold Zn
  refine ref_fill c (64 - v.length) v Zd (by omega) (by unfold Zd; omega) fun r5 => ?_
  have hl : (v ++ List.replicate (64 - v.length) (0 : UInt8)).length = 64 := by simp; omega
  generalize v ++ List.replicate (64 - v.length) (0 : UInt8) = k at hl ⊢
  have := ref_xor r5 k hl c 64 0 Zd (by omega) (by omega) (by unfold Zd; omega)
  rw [show E6 k c 0 = k by simp [E6]] at this
  exact this
end Go.Proofs.YtmgfanhcdfobhaaGreatDoor
namespace Go.Proofs.YtmgfanhcdfobhaaGreatDoor
theorem ref_pad2 (q : List UInt8) (hs : q.length = 32) (c : UInt8) : ((chk (Nat.beq (List.length q) 32)).bind fun _ => ((app ([] : List UInt8) q).bind fun l541 => (Zn c l541))) = some (H6 (q ++ List.replicate (64 - q.length) 0) c) := by
  rw [show Nat.beq q.length 32 = true by rw [hs]; rfl]
  simp only [chk, Option.bind_some]
  rw [N6 (by rw [List.length_nil, hs]; omega), Option.bind_some, List.nil_append]
  exact Ku c q (by omega)
theorem Fn (key : List UInt8) (hk : key.length ≤ 1073741824) (c : UInt8) : X1 key c = some (H6 (keyL key) c) := by
  unfold X1 keyL
  rw [N6 (by rw [List.length_nil]; omega), Option.bind_some, List.nil_append]
  by_cases h : key.length > 64
  · rw [Er h, show decide (((key.length : Nat) : Int) > 64) = true from decide_eq_true (by omega), cond_true, I6 key hk, Option.bind_some]
    exact ref_pad2 _ (Yd key) c
  · rw [Cr h, show decide (((key.length : Nat) : Int) > 64) = false from decide_eq_false (by omega), cond_false]
    exact Ku c key (by omega)
theorem ref_mac (key b : List UInt8) (hk : key.length ≤ 1073741824) (hb : b.length ≤ 1000000000) : Jz key b = some (macL key b) := by
  have hx : ∀ c, (H6 (keyL key) c).length = 64 := fun c => by rw [J8, Da]
  unfold Jz
  rw [Fn key hk 54, Option.bind_some, N6 (by rw [hx]; omega), Option.bind_some, I6 _ (by rw [List.length_append, hx]; omega), Option.bind_some, Yd]
  simp only [Nat.beq_refl, chk, Option.bind_some]
  rw [Fn key hk 92, Option.bind_some, N6 (by rw [hx, Yd]; omega), Option.bind_some, I6 _ (by rw [List.length_append, hx, Yd]; omega), Option.bind_some, Yd]
  rfl
def F8 (s : List UInt8) : List UInt8 := UInt8.ofNat s.length :: s
def Cd (key : List UInt8) (ws : List (List UInt8)) : List UInt8 := if ws.all (fun w => decide (w.length ≤ 255)) then H3 (macL key (ws.flatMap F8)) else []
theorem prog_text (s : List UInt8) (h : s.length ≤ 255) : Rq s = some (F8 s) := by
  unfold Rq
  rw [show decide (((s.length : Nat) : Int) > 255) = false from decide_eq_false (by omega), cond_false, N6 (by simp; omega), B3]
  rfl
theorem ref_text (s : List UInt8) (h : s.length ≤ 255) : Jn s = some (F8 s) := by
  unfold Jn
  rw [show decide (((s.length : Nat) : Int) > 255) = false from decide_eq_false (by omega), cond_false, N6 (by simp; omega), B3]
  rfl
theorem Dc (s : List UInt8) : (F8 s).length = s.length + 1 := by simp [F8]
theorem Be {ws : List (List UInt8)} {i : Nat} (hi : i < ws.length) (h : ¬ (ws.getD i []).length ≤ 255) : ws.all (fun w => decide (w.length ≤ 255)) = false := by
  rw [List.all_eq_false]
  refine ⟨ws.getD i [], ?_, by simpa using h⟩
  simp [List.getD, hi]
theorem Eu (key : List UInt8) (hk : key.length ≤ 1073741824) (ws : List (List UInt8)) (hw : ws.length ≤ 1000) : ∀ (d i f : Nat), d = ws.length - i → i ≤ ws.length → d < f → (∀ w ∈ ws.take i, w.length ≤ 255) → ((ws.take i).flatMap F8).length ≤ 256 * i →
    Jr key ws f ((ws.take i).flatMap F8) (i : Int) = some (Cd key ws) := by
  intro d
  induction d with
  | zero =>
    intro i f hd hi hf hall hlen
    obtain ⟨f, rfl⟩ : ∃ g, f = g + 1 := ⟨f - 1, by omega⟩
    have : i = ws.length := by omega
    subst this
    rw [List.take_length] at hall hlen ⊢
    show Jq (Jr key ws f) key ws (ws.flatMap F8) ((ws.length : Nat) : Int) = _
    unfold Jq Cd
    rw [show decide (((ws.length : Nat) : Int) < ((ws.length : Nat) : Int)) = false by simp, cond_false, prog_mac key _ hk (by omega), Option.bind_some, Db]
    simp only [Nat.beq_refl, chk, Option.bind_some]
    rw [prog_hex _ (by rw [Db]; omega), Option.bind_some, if_pos (by simpa using hall)]
  | succ d ih =>
    intro i f hd hi hf hall hlen
    obtain ⟨f, rfl⟩ : ∃ g, f = g + 1 := ⟨f - 1, by omega⟩
    show Jq (Jr key ws f) key ws ((ws.take i).flatMap F8) (i : Int) = _
    unfold Jq
    rw [show decide ((i : Int) < ((ws.length : Nat) : Int)) = true from decide_eq_true (by omega), cond_true, V1 ws i [] (by omega), Option.bind_some]
    by_cases h : (ws.getD i []).length ≤ 255
    · rw [show decide ((((ws.getD i []).length : Nat) : Int) > 255) = false from decide_eq_false (by omega), cond_false, prog_text _ h, Option.bind_some, N6 (by rw [Dc]; omega), Option.bind_some, show ((i : Int) + 1) = ((i + 1 : Nat) : Int) by omega, Xh (by omega)]
      have ht := D1 ws i [] (by omega)
      have hf : (ws.take (i + 1)).flatMap F8 = (ws.take i).flatMap F8 ++ F8 (ws.getD i []) := by rw [ht]; simp
      have := ih (i + 1) f (by omega) (by omega) (by omega) (by
        intro w hw'
        rw [ht] at hw'
        rcases List.mem_append.1 hw' with h1 | h1
        · exact hall w h1
        · simp only [List.mem_singleton] at h1
          rw [h1]; exact h) (by rw [hf, List.length_append, Dc]; omega)
      rw [hf] at this
      exact this
    · rw [show decide ((((ws.getD i []).length : Nat) : Int) > 255) = true from decide_eq_true (by omega), cond_true]
      unfold Cd
      rw [Be (by omega) h]
      rfl
theorem Lg (key : List UInt8) (hk : key.length ≤ 1073741824) (ws : List (List UInt8)) (hw : ws.length ≤ 1000) : R7 key ws = some (Cd key ws) :=
  Eu key hk ws hw ws.length 0 Zd (by omega) (by omega) (by unfold Zd; omega) (by simp) (by simp)
theorem E7 (key : List UInt8) (hk : key.length ≤ 1073741824) (ws : List (List UInt8)) (hw : ws.length ≤ 1000) : ∀ (d i f : Nat), d = ws.length - i → i ≤ ws.length → d < f → (∀ w ∈ ws.take i, w.length ≤ 255) → ((ws.take i).flatMap F8).length ≤ 256 * i →
    Zy key ws f ((ws.take i).flatMap F8) (i : Int) = some (Cd key ws) := by
  intro d
  induction d with
  | zero =>
    intro i f hd hi hf hall hlen
    obtain ⟨f, rfl⟩ : ∃ g, f = g + 1 := ⟨f - 1, by omega⟩
    have : i = ws.length := by omega
    subst this
    rw [List.take_length] at hall hlen ⊢
    show Zx (Zy key ws f) key ws (ws.flatMap F8) ((ws.length : Nat) : Int) = _
    unfold Zx Cd
    rw [show decide (((ws.length : Nat) : Int) < ((ws.length : Nat) : Int)) = false by simp, cond_false, ref_mac key _ hk (by omega), Option.bind_some, Db]
    simp only [Nat.beq_refl, chk, Option.bind_some]
    rw [ref_hex _ (by rw [Db]; omega), Option.bind_some, if_pos (by simpa using hall)]
  | succ d ih =>
    intro i f hd hi hf hall hlen
    obtain ⟨f, rfl⟩ : ∃ g, f = g + 1 := ⟨f - 1, by omega⟩
    show Zx (Zy key ws f) key ws ((ws.take i).flatMap F8) (i : Int) = _
    unfold Zx
    rw [show decide ((i : Int) < ((ws.length : Nat) : Int)) = true from decide_eq_true (by omega), cond_true, V1 ws i [] (by omega), Option.bind_some, Option.bind_some]
    by_cases h : (ws.getD i []).length ≤ 255
    · rw [show decide ((((ws.getD i []).length : Nat) : Int) > 255) = false from decide_eq_false (by omega), cond_false, ref_text _ h, Option.bind_some, N6 (by rw [Dc]; omega), Option.bind_some, show ((i : Int) + 1) = ((i + 1 : Nat) : Int) by omega, Xh (by omega)]
      have ht := D1 ws i [] (by omega)
      have hf : (ws.take (i + 1)).flatMap F8 = (ws.take i).flatMap F8 ++ F8 (ws.getD i []) := by rw [ht]; simp
      have := ih (i + 1) f (by omega) (by omega) (by omega) (by
        intro w hw'
        rw [ht] at hw'
        rcases List.mem_append.1 hw' with h1 | h1
        · exact hall w h1
        · simp only [List.mem_singleton] at h1
          rw [h1]; exact h) (by rw [hf, List.length_append, Dc]; omega)
      rw [hf] at this
      exact this
    · rw [show decide ((((ws.getD i []).length : Nat) : Int) > 255) = true from decide_eq_true (by omega), cond_true]
      unfold Cd
      rw [Be (by omega) h]
      rfl
theorem ref_proof (key : List UInt8) (hk : key.length ≤ 1073741824) (ws : List (List UInt8)) (hw : ws.length ≤ 1000) : Y9 key ws = some (Cd key ws) :=
  E7 key hk ws hw ws.length 0 Zd (by omega) (by omega) (by unfold Zd; omega) (by simp) (by simp)
end Go.Proofs.YtmgfanhcdfobhaaGreatDoor
