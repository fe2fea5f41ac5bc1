/- LIFTED BY PROGRAM (tools/lift.py): what functions compute, and that they do. -/
import Derived.Test.YtjllaeceghmjgaaDoorArr
namespace Go.Proofs.YtjllaeceghmjgaaDoor
set_option linter.unusedSimpArgs false
set_option linter.unusedVariables false
open Go.RowKit

/-! L_subwayref02_roots -/
def L_subwayref02_roots  : Option ((List Int)) :=
  (some (([1116352408, 1899447441, 3049323471, 3921009573, 961987163, 1508970993, 2453635748, 2870763221, 3624381080, 310598401, 607225278, 1426881987, 1925078388, 2162078206, 2614888103, 3248222580, 3835390401, 4022224774, 264347078, 604807628, 770255983, 1249150122, 1555081692, 1996064986, 2554220882, 2821834349, 2952996808, 3210313671, 3336571891, 3584528711, 113926993, 338241895, 666307205, 773529912, 1294757372, 1396182291, 1695183700, 1986661051, 2177026350, 2456956037, 2730485921, 2820302411, 3259730800, 3345764771, 3516065817, 3600352804, 4094571909, 275423344, 430227734, 506948616, 659060556, 883997877, 958139571, 1322822218, 1537002063, 1747873779, 1955562222, 2024104815, 2227730452, 2361852424, 2428436474, 2756734187, 3204031479, 3329325298] : List Int)))
set_option maxRecDepth 100000 in
set_option maxHeartbeats 4000000 in
theorem L_subwayref02_roots_walk   (w0 : World)  (r : ((List Int))) (H : L_subwayref02_roots  = some r) :
  Calls Tryd.prog 49 #[] w0 (fun e w' => e = .returned (.agg (cellsOf (eInt .u32) r).toArray) ∧ SP [] w0 w' []) := by
 unfold L_subwayref02_roots at H
 refine calls_go (n := 2) Tryd.func49 K K K ?_
 have hs0 := SP.start [] w0
 refine At.sq K ?_
 refine At.region K K ?_
 refine In.step (k' := 1) rfl K ?_
 refine Step.allocA (e := (eInt .u32)) (l := (List.replicate 64 0)) (m := 64) (t := 91) (z := .agg (cellsOf (eInt .u32) (List.replicate 64 0)).toArray) (d := (some 0)) (k := 0) K rfl K rfl rfl K hs0 ?_
 intro g1 w2 (hs4 : SP [] w0 w2 [arrE 91 (eInt .u32) g1 64 (List.replicate 64 0)])
 refine In.fin K ?_
 refine At.sq K ?_
 refine At.region K K ?_
 refine In.run' 1 (k' := 1) rfl [(1, (.agg (cellsOf (eInt .u32) ([1116352408, 1899447441, 3049323471, 3921009573, 961987163, 1508970993, 2453635748, 2870763221, 3624381080, 310598401, 607225278, 1426881987, 1925078388, 2162078206, 2614888103, 3248222580, 3835390401, 4022224774, 264347078, 604807628, 770255983, 1249150122, 1555081692, 1996064986, 2554220882, 2821834349, 2952996808, 3210313671, 3336571891, 3584528711, 113926993, 338241895, 666307205, 773529912, 1294757372, 1396182291, 1695183700, 1986661051, 2177026350, 2456956037, 2730485921, 2820302411, 3259730800, 3345764771, 3516065817, 3600352804, 4094571909, 275423344, 430227734, 506948616, 659060556, 883997877, 958139571, 1322822218, 1537002063, 1747873779, 1955562222, 2024104815, 2227730452, 2361852424, 2428436474, 2756734187, 3204031479, 3329325298] : List Int)).toArray))] K ?_
 refine In.step (k' := 2) rfl K ?_
 refine Step.storeA (e := (eInt .u32)) (l := (List.replicate 64 0)) (l' := ([1116352408, 1899447441, 3049323471, 3921009573, 961987163, 1508970993, 2453635748, 2870763221, 3624381080, 310598401, 607225278, 1426881987, 1925078388, 2162078206, 2614888103, 3248222580, 3835390401, 4022224774, 264347078, 604807628, 770255983, 1249150122, 1555081692, 1996064986, 2554220882, 2821834349, 2952996808, 3210313671, 3336571891, 3584528711, 113926993, 338241895, 666307205, 773529912, 1294757372, 1396182291, 1695183700, 1986661051, 2177026350, 2456956037, 2730485921, 2820302411, 3259730800, 3345764771, 3516065817, 3600352804, 4094571909, 275423344, 430227734, 506948616, 659060556, 883997877, 958139571, 1322822218, 1537002063, 1747873779, 1955562222, 2024104815, 2227730452, 2361852424, 2428436474, 2756734187, 3204031479, 3329325298] : List Int)) (m := 64) (t := 91) (x := (.tmp 0)) (y := (.tmp 1)) (g := g1) (i := 0) (d := none) (k := 1) K rfl K K rfl hs4 rfl K ?_
 intro w5 (hs7 : SP [] w0 w5 [arrE 91 (eInt .u32) g1 64 ([1116352408, 1899447441, 3049323471, 3921009573, 961987163, 1508970993, 2453635748, 2870763221, 3624381080, 310598401, 607225278, 1426881987, 1925078388, 2162078206, 2614888103, 3248222580, 3835390401, 4022224774, 264347078, 604807628, 770255983, 1249150122, 1555081692, 1996064986, 2554220882, 2821834349, 2952996808, 3210313671, 3336571891, 3584528711, 113926993, 338241895, 666307205, 773529912, 1294757372, 1396182291, 1695183700, 1986661051, 2177026350, 2456956037, 2730485921, 2820302411, 3259730800, 3345764771, 3516065817, 3600352804, 4094571909, 275423344, 430227734, 506948616, 659060556, 883997877, 958139571, 1322822218, 1537002063, 1747873779, 1955562222, 2024104815, 2227730452, 2361852424, 2428436474, 2756734187, 3204031479, 3329325298] : List Int)])
 refine In.fin K ?_
 refine At.ret K ?_
 refine ⟨(.agg (cellsOf (eInt .u32) ([1116352408, 1899447441, 3049323471, 3921009573, 961987163, 1508970993, 2453635748, 2870763221, 3624381080, 310598401, 607225278, 1426881987, 1925078388, 2162078206, 2614888103, 3248222580, 3835390401, 4022224774, 264347078, 604807628, 770255983, 1249150122, 1555081692, 1996064986, 2554220882, 2821834349, 2952996808, 3210313671, 3336571891, 3584528711, 113926993, 338241895, 666307205, 773529912, 1294757372, 1396182291, 1695183700, 1986661051, 2177026350, 2456956037, 2730485921, 2820302411, 3259730800, 3345764771, 3516065817, 3600352804, 4094571909, 275423344, 430227734, 506948616, 659060556, 883997877, 958139571, 1322822218, 1537002063, 1747873779, 1955562222, 2024104815, 2227730452, 2361852424, 2428436474, 2756734187, 3204031479, 3329325298] : List Int)).toArray), res_1 K (rv_cellA (e := (eInt .u32)) (l := ([1116352408, 1899447441, 3049323471, 3921009573, 961987163, 1508970993, 2453635748, 2870763221, 3624381080, 310598401, 607225278, 1426881987, 1925078388, 2162078206, 2614888103, 3248222580, 3835390401, 4022224774, 264347078, 604807628, 770255983, 1249150122, 1555081692, 1996064986, 2554220882, 2821834349, 2952996808, 3210313671, 3336571891, 3584528711, 113926993, 338241895, 666307205, 773529912, 1294757372, 1396182291, 1695183700, 1986661051, 2177026350, 2456956037, 2730485921, 2820302411, 3259730800, 3345764771, 3516065817, 3600352804, 4094571909, 275423344, 430227734, 506948616, 659060556, 883997877, 958139571, 1322822218, 1537002063, 1747873779, 1955562222, 2024104815, 2227730452, 2361852424, 2428436474, 2756734187, 3204031479, 3329325298] : List Int)) (a := 0) (t := 91) K (SP.get hs7 (i := 0) rfl) K K), ?_⟩
 obtain rfl := some_elim H
 exact ⟨rfl, SP.sel hs7 [] rfl rfl⟩
/-! L_subwayref02_turn -/
def L_subwayref02_turn (p1 : Int) (p2 : Int) : Option (Int) :=
  ((chk (decide (0 ≤ p2))).bind fun _ => ((chk (decide (0 ≤ (IntKind.wrap .i64 (32 - p2))))).bind fun _ => (some ((bOr .u32 (bShr .u32 p1 p2) (bShl .u32 p1 (IntKind.wrap .i64 (32 - p2))))))))
set_option maxRecDepth 100000 in
set_option maxHeartbeats 4000000 in
theorem L_subwayref02_turn_walk  (p1 : Int) (p2 : Int) (w0 : World)  (r : (Int)) (H : L_subwayref02_turn p1 p2 = some r) :
  Calls Tryd.prog 61 #[(.int .u32 p1), (.int .i64 p2)] w0 (fun e w' => e = .returned (.int .u32 r) ∧ SP [] w0 w' []) := by
 unfold L_subwayref02_turn at H
 refine calls_go (n := 13) Tryd.func61 K K K ?_
 have hs0 := SP.start [] w0
 refine At.sq K ?_
 refine At.region K K ?_
 refine In.run' 1 (k' := 1) rfl [(4, (.int .u32 0))] K ?_
 refine In.fin K ?_
 refine At.sq K ?_
 obtain ⟨hl3, H⟩ := chk_elim H
 obtain ⟨hl4, H⟩ := chk_elim H
 refine At.stages K K K K K [GEq (.int .u32 p1), GEq (.int .i64 p2), GEq (.int .u32 (bShr .u32 p1 p2)), GEq (.int .u32 p1), GEq (.int .i64 p2), GEq (.int .i64 (IntKind.wrap .i64 (32 - p2))), GEq (.int .u32 (bShl .u32 p1 (IntKind.wrap .i64 (32 - p2)))), GEq (.int .u32 (bOr .u32 (bShr .u32 p1 p2) (bShl .u32 p1 (IntKind.wrap .i64 (32 - p2))))), GEq (.int .u32 (bOr .u32 (bShr .u32 p1 p2) (bShl .u32 p1 (IntKind.wrap .i64 (32 - p2)))))] [] [([], fun vs w => VL vs [] ∧ SP [] w0 w [])] (N := 9) K ⟨K, Nat.zero_lt_succ _⟩ (show VL [] [] ∧ SP [] w0 w0.drew [] from ⟨trivial, SP.drew hs0⟩) ⟨⟨⟨⟨⟨⟨⟨⟨⟨trivial, ?_⟩, ?_⟩, ?_⟩, ?_⟩, ?_⟩, ?_⟩, ?_⟩, ?_⟩, ?_⟩ (last := 0) K ?_
 ·exact Owe.run K [(0, (.int .u32 p1))] ⟨gS K K, trivial⟩ (.int .u32 p1) (fun _ _ => K) rfl
 ·exact Owe.run K [(1, (.int .i64 p2))] ⟨gS K K, trivial⟩ (.int .i64 p2) (fun _ _ => K) rfl
 ·refine Owe.light K [0] K (all_cons ?_ all_nil)
  ·rintro ρ' w' hs hah ⟨hvl6, hs5⟩
   have hkn : Known ρ' [(5, (.int .u32 p1)), (6, (.int .i64 p2))] := ⟨hah 0 5 K, hah 1 6 K, trivial⟩
   refine Step.known _ hkn ?_
   refine Step.shift (op := .shr) (T := 81) (T' := 3) (x := (.tmp 5)) (y := (.tmp 6)) (kx := .u32) (ky := .i64) (a := p1) (b := p2) (v := (.int .u32 (bShr .u32 p1 p2))) (d := (some 7)) (k := 2) K rfl K K (of_decide_eq_true hl3) rfl ?_
   exact ⟨rfl, _, updO_known hkn, rfl⟩
 ·exact Owe.run K [(0, (.int .u32 p1))] ⟨gS K K, trivial⟩ (.int .u32 p1) (fun _ _ => K) rfl
 ·exact Owe.run K [(1, (.int .i64 p2))] ⟨gS K K, trivial⟩ (.int .i64 p2) (fun _ _ => K) rfl
 ·exact Owe.run K [(9, (.int .i64 p2))] ⟨gA 4 K K, trivial⟩ (.int .i64 (IntKind.wrap .i64 (32 - p2))) (fun _ _ => K) rfl
 ·refine Owe.light K [0] K (all_cons ?_ all_nil)
  ·rintro ρ' w' hs hah ⟨hvl8, hs7⟩
   have hkn : Known ρ' [(8, (.int .u32 p1)), (10, (.int .i64 (IntKind.wrap .i64 (32 - p2))))] := ⟨hah 3 8 K, hah 5 10 K, trivial⟩
   refine Step.known _ hkn ?_
   refine Step.shift (op := .shl) (T := 81) (T' := 3) (x := (.tmp 8)) (y := (.tmp 10)) (kx := .u32) (ky := .i64) (a := p1) (b := (IntKind.wrap .i64 (32 - p2))) (v := (.int .u32 (bShl .u32 p1 (IntKind.wrap .i64 (32 - p2))))) (d := (some 11)) (k := 6) K rfl K K (of_decide_eq_true hl4) rfl ?_
   exact ⟨rfl, _, updO_known hkn, rfl⟩
 ·exact Owe.run K [(7, (.int .u32 (bShr .u32 p1 p2))), (11, (.int .u32 (bShl .u32 p1 (IntKind.wrap .i64 (32 - p2)))))] ⟨gA 2 K K, gA 6 K K, trivial⟩ (.int .u32 (bOr .u32 (bShr .u32 p1 p2) (bShl .u32 p1 (IntKind.wrap .i64 (32 - p2))))) (fun _ _ => K) rfl
 ·exact Owe.run K [(12, (.int .u32 (bOr .u32 (bShr .u32 p1 p2) (bShl .u32 p1 (IntKind.wrap .i64 (32 - p2))))))] ⟨gA 7 K K, trivial⟩ (.int .u32 (bOr .u32 (bShr .u32 p1 p2) (bShl .u32 p1 (IntKind.wrap .i64 (32 - p2))))) (fun _ _ => K) rfl
 ·rintro ρ' w' hs hf ⟨hvl10, hs9⟩
  refine postKnown [(4, (.int .u32 (bOr .u32 (bShr .u32 p1 p2) (bShl .u32 p1 (IntKind.wrap .i64 (32 - p2))))))] ⟨hf 8 4 K, trivial⟩ ?_
  obtain ⟨w11, hww11⟩ : ∃ x, w' = x := ⟨_, rfl⟩
  rw [hww11] at hs9 ⊢
  refine At.ret K ?_
  refine ⟨(.int .u32 (bOr .u32 (bShr .u32 p1 p2) (bShl .u32 p1 (IntKind.wrap .i64 (32 - p2))))), K, ?_⟩
  obtain rfl := some_elim H
  exact ⟨rfl, SP.sel hs9 [] rfl rfl⟩
/-! L_subwayref02_small -/
def L_subwayref02_small (p1 : Int) (p2 : Int) (p3 : Int) (p4 : Int) : Option (Int) :=
  ((L_subwayref02_turn p1 p2).bind fun z5 => ((L_subwayref02_turn p1 p3).bind fun z11 => ((chk (decide (0 ≤ p4))).bind fun _ => (some ((bXor .u32 (bXor .u32 z5 z11) (bShr .u32 p1 p4)))))))
set_option maxRecDepth 100000 in
set_option maxHeartbeats 4000000 in
theorem L_subwayref02_small_walk  (p1 : Int) (p2 : Int) (p3 : Int) (p4 : Int) (w0 : World)  (r : (Int)) (H : L_subwayref02_small p1 p2 p3 p4 = some r) :
  Calls Tryd.prog 60 #[(.int .u32 p1), (.int .i64 p2), (.int .i64 p3), (.int .i64 p4)] w0 (fun e w' => e = .returned (.int .u32 r) ∧ SP [] w0 w' []) := by
 unfold L_subwayref02_small at H
 refine calls_go (n := 20) Tryd.func60 K K K ?_
 have hs0 := SP.start [] w0
 refine At.sq K ?_
 refine At.region K K ?_
 refine In.run' 1 (k' := 1) rfl [(8, (.int .u32 0))] K ?_
 refine In.fin K ?_
 refine At.sq K ?_
 obtain ⟨z5, hz6, H⟩ := bind_elim H
 obtain ⟨z11, hz12, H⟩ := bind_elim H
 obtain ⟨hl17, H⟩ := chk_elim H
 refine At.stages K K K K K [GEq (.int .u32 p1), GEq (.int .i64 p2), GEq (.int .u32 z5), GEq (.int .u32 p1), GEq (.int .i64 p3), GEq (.int .u32 z11), GEq (.int .u32 (bXor .u32 z5 z11)), GEq (.int .u32 p1), GEq (.int .i64 p4), GEq (.int .u32 (bShr .u32 p1 p4)), GEq (.int .u32 (bXor .u32 (bXor .u32 z5 z11) (bShr .u32 p1 p4))), GEq (.int .u32 (bXor .u32 (bXor .u32 z5 z11) (bShr .u32 p1 p4)))] [2, 5] [([], fun vs w => VL vs [] ∧ SP [] w0 w []), ([2], fun vs w => VL vs [(.int .u32 z5)] ∧ SP [] w0 w []), ([2, 5], fun vs w => VL vs [(.int .u32 z5), (.int .u32 z11)] ∧ SP [] w0 w [])] (N := 12) K ⟨K, Nat.zero_lt_succ _⟩ (show VL [] [] ∧ SP [] w0 w0.drew [] from ⟨trivial, SP.drew hs0⟩) ⟨⟨⟨⟨⟨⟨⟨⟨⟨⟨⟨⟨trivial, ?_⟩, ?_⟩, ?_⟩, ?_⟩, ?_⟩, ?_⟩, ?_⟩, ?_⟩, ?_⟩, ?_⟩, ?_⟩, ?_⟩ (last := 2) K ?_
 ·exact Owe.run K [(0, (.int .u32 p1))] ⟨gS K K, trivial⟩ (.int .u32 p1) (fun _ _ => K) rfl
 ·exact Owe.run K [(1, (.int .i64 p2))] ⟨gS K K, trivial⟩ (.int .i64 p2) (fun _ _ => K) rfl
 ·refine Owe.heavy K [(0, 1)] K (all_cons ⟨K, K, ?_⟩ all_nil)
  ·rintro ρ' w' hs hah ⟨hvl31, hs30⟩
   have hkn : Known ρ' [(9, (.int .u32 p1)), (10, (.int .i64 p2))] := ⟨hah 0 9 K, hah 1 10 K, trivial⟩
   refine Step.known _ hkn ?_
   refine Step.callF (f := 61) (fo := (.func 61)) (xs := #[(.tmp 9), (.tmp 10)]) (tys := #[81, 3]) (first := #[]) (captured := #[]) (d := (some 11)) (k := 2) K rfl K K Tryd.call61 (L_subwayref02_turn_walk  p1 p2 w'  z5 hz6) ?_
   rintro e w32 ⟨rfl, hs33⟩
   refine ⟨_, rfl, ?_⟩
   have hs35 : SP [] w0 w32 [] := SP.call hs30 hs33
   clear hs33
   refine ⟨_, updO_known hkn, rfl, ?_⟩
   exact (And.intro (And.intro rfl (trivial)) (hs35))
 ·exact Owe.run K [(0, (.int .u32 p1))] ⟨gS K K, trivial⟩ (.int .u32 p1) (fun _ _ => K) rfl
 ·exact Owe.run K [(2, (.int .i64 p3))] ⟨gS K K, trivial⟩ (.int .i64 p3) (fun _ _ => K) rfl
 ·refine Owe.heavy K [(1, 2)] K (all_cons ⟨K, K, ?_⟩ all_nil)
  ·rintro ρ' w' hs hah ⟨⟨q37, -⟩, hs36⟩
   have hkn : Known ρ' [(12, (.int .u32 p1)), (13, (.int .i64 p3))] := ⟨hah 3 12 K, hah 4 13 K, trivial⟩
   refine Step.known _ hkn ?_
   refine Step.callF (f := 61) (fo := (.func 61)) (xs := #[(.tmp 12), (.tmp 13)]) (tys := #[81, 3]) (first := #[]) (captured := #[]) (d := (some 14)) (k := 5) K rfl K K Tryd.call61 (L_subwayref02_turn_walk  p1 p3 w'  z11 hz12) ?_
   rintro e w39 ⟨rfl, hs40⟩
   refine ⟨_, rfl, ?_⟩
   have hs42 : SP [] w0 w39 [] := SP.call hs36 hs40
   clear hs40
   refine ⟨_, updO_known hkn, rfl, ?_⟩
   exact (And.intro (And.intro q37 (And.intro rfl (trivial))) (hs42))
 ·exact Owe.run K [(11, (.int .u32 z5)), (14, (.int .u32 z11))] ⟨gA 2 K K, gA 5 K K, trivial⟩ (.int .u32 (bXor .u32 z5 z11)) (fun _ _ => K) rfl
 ·exact Owe.run K [(0, (.int .u32 p1))] ⟨gS K K, trivial⟩ (.int .u32 p1) (fun _ _ => K) rfl
 ·exact Owe.run K [(3, (.int .i64 p4))] ⟨gS K K, trivial⟩ (.int .i64 p4) (fun _ _ => K) rfl
 ·refine Owe.light K [0, 1, 2] K (all_cons ?_ (all_cons ?_ (all_cons ?_ all_nil)))
  ·rintro ρ' w' hs hah ⟨hvl44, hs43⟩
   have hkn : Known ρ' [(16, (.int .u32 p1)), (17, (.int .i64 p4))] := ⟨hah 7 16 K, hah 8 17 K, trivial⟩
   refine Step.known _ hkn ?_
   refine Step.shift (op := .shr) (T := 81) (T' := 3) (x := (.tmp 16)) (y := (.tmp 17)) (kx := .u32) (ky := .i64) (a := p1) (b := p4) (v := (.int .u32 (bShr .u32 p1 p4))) (d := (some 18)) (k := 9) K rfl K K (of_decide_eq_true hl17) rfl ?_
   exact ⟨rfl, _, updO_known hkn, rfl⟩
  ·rintro ρ' w' hs hah ⟨⟨q46, -⟩, hs45⟩
   have hkn : Known ρ' [(16, (.int .u32 p1)), (17, (.int .i64 p4))] := ⟨hah 7 16 K, hah 8 17 K, trivial⟩
   refine Step.known _ hkn ?_
   refine Step.shift (op := .shr) (T := 81) (T' := 3) (x := (.tmp 16)) (y := (.tmp 17)) (kx := .u32) (ky := .i64) (a := p1) (b := p4) (v := (.int .u32 (bShr .u32 p1 p4))) (d := (some 18)) (k := 9) K rfl K K (of_decide_eq_true hl17) rfl ?_
   exact ⟨rfl, _, updO_known hkn, rfl⟩
  ·rintro ρ' w' hs hah ⟨⟨q49, q50, -⟩, hs48⟩
   have hkn : Known ρ' [(16, (.int .u32 p1)), (17, (.int .i64 p4))] := ⟨hah 7 16 K, hah 8 17 K, trivial⟩
   refine Step.known _ hkn ?_
   refine Step.shift (op := .shr) (T := 81) (T' := 3) (x := (.tmp 16)) (y := (.tmp 17)) (kx := .u32) (ky := .i64) (a := p1) (b := p4) (v := (.int .u32 (bShr .u32 p1 p4))) (d := (some 18)) (k := 9) K rfl K K (of_decide_eq_true hl17) rfl ?_
   exact ⟨rfl, _, updO_known hkn, rfl⟩
 ·exact Owe.run K [(15, (.int .u32 (bXor .u32 z5 z11))), (18, (.int .u32 (bShr .u32 p1 p4)))] ⟨gA 6 K K, gA 9 K K, trivial⟩ (.int .u32 (bXor .u32 (bXor .u32 z5 z11) (bShr .u32 p1 p4))) (fun _ _ => K) rfl
 ·exact Owe.run K [(19, (.int .u32 (bXor .u32 (bXor .u32 z5 z11) (bShr .u32 p1 p4))))] ⟨gA 10 K K, trivial⟩ (.int .u32 (bXor .u32 (bXor .u32 z5 z11) (bShr .u32 p1 p4))) (fun _ _ => K) rfl
 ·rintro ρ' w' hs hf ⟨⟨q53, q54, -⟩, hs52⟩
  refine postKnown [(8, (.int .u32 (bXor .u32 (bXor .u32 z5 z11) (bShr .u32 p1 p4))))] ⟨hf 11 8 K, trivial⟩ ?_
  obtain ⟨w56, hww56⟩ : ∃ x, w' = x := ⟨_, rfl⟩
  rw [hww56] at hs52 ⊢
  refine At.ret K ?_
  refine ⟨(.int .u32 (bXor .u32 (bXor .u32 z5 z11) (bShr .u32 p1 p4))), K, ?_⟩
  obtain rfl := some_elim H
  exact ⟨rfl, SP.sel hs52 [] rfl rfl⟩
/-! L_subwayref02_great -/
def L_subwayref02_great (p1 : Int) (p2 : Int) (p3 : Int) (p4 : Int) : Option (Int) :=
  ((L_subwayref02_turn p1 p2).bind fun z5 => ((L_subwayref02_turn p1 p3).bind fun z11 => ((L_subwayref02_turn p1 p4).bind fun z17 => (some ((bXor .u32 (bXor .u32 z5 z11) z17))))))
set_option maxRecDepth 100000 in
set_option maxHeartbeats 4000000 in
theorem L_subwayref02_great_walk  (p1 : Int) (p2 : Int) (p3 : Int) (p4 : Int) (w0 : World)  (r : (Int)) (H : L_subwayref02_great p1 p2 p3 p4 = some r) :
  Calls Tryd.prog 51 #[(.int .u32 p1), (.int .i64 p2), (.int .i64 p3), (.int .i64 p4)] w0 (fun e w' => e = .returned (.int .u32 r) ∧ SP [] w0 w' []) := by
 unfold L_subwayref02_great at H
 refine calls_go (n := 20) Tryd.func51 K K K ?_
 have hs0 := SP.start [] w0
 refine At.sq K ?_
 refine At.region K K ?_
 refine In.run' 1 (k' := 1) rfl [(8, (.int .u32 0))] K ?_
 refine In.fin K ?_
 refine At.sq K ?_
 refine At.region K K ?_
 refine In.run' 2 (k' := 2) rfl [(9, (.int .u32 p1)), (10, (.int .i64 p2))] K ?_
 obtain ⟨z5, hz6, H⟩ := bind_elim H
 refine In.step (k' := 3) rfl K ?_
 refine Step.callF (f := 61) (fo := (.func 61)) (xs := #[(.tmp 9), (.tmp 10)]) (tys := #[81, 3]) (first := #[]) (captured := #[]) (d := (some 11)) (k := 2) K rfl K K Tryd.call61 (L_subwayref02_turn_walk  p1 p2 w0  z5 hz6) ?_
 rintro e w7 ⟨rfl, hs8⟩
 refine ⟨_, rfl, ?_⟩
 have hs10 : SP [] w0 w7 [] := SP.call hs0 hs8
 clear hs8
 refine In.run' 2 (k' := 5) rfl [(12, (.int .u32 p1)), (13, (.int .i64 p3))] K ?_
 obtain ⟨z11, hz12, H⟩ := bind_elim H
 refine In.step (k' := 6) rfl K ?_
 refine Step.callF (f := 61) (fo := (.func 61)) (xs := #[(.tmp 12), (.tmp 13)]) (tys := #[81, 3]) (first := #[]) (captured := #[]) (d := (some 14)) (k := 5) K rfl K K Tryd.call61 (L_subwayref02_turn_walk  p1 p3 w7  z11 hz12) ?_
 rintro e w13 ⟨rfl, hs14⟩
 refine ⟨_, rfl, ?_⟩
 have hs16 : SP [] w0 w13 [] := SP.call hs10 hs14
 clear hs14
 refine In.run' 3 (k' := 9) rfl [(15, (.int .u32 (bXor .u32 z5 z11))), (16, (.int .u32 p1)), (17, (.int .i64 p4))] K ?_
 obtain ⟨z17, hz18, H⟩ := bind_elim H
 refine In.step (k' := 10) rfl K ?_
 refine Step.callF (f := 61) (fo := (.func 61)) (xs := #[(.tmp 16), (.tmp 17)]) (tys := #[81, 3]) (first := #[]) (captured := #[]) (d := (some 18)) (k := 9) K rfl K K Tryd.call61 (L_subwayref02_turn_walk  p1 p4 w13  z17 hz18) ?_
 rintro e w19 ⟨rfl, hs20⟩
 refine ⟨_, rfl, ?_⟩
 have hs22 : SP [] w0 w19 [] := SP.call hs16 hs20
 clear hs20
 refine In.run' 2 (k' := 12) rfl [(19, (.int .u32 (bXor .u32 (bXor .u32 z5 z11) z17))), (8, (.int .u32 (bXor .u32 (bXor .u32 z5 z11) z17)))] K ?_
 refine In.fin K ?_
 refine At.ret K ?_
 refine ⟨(.int .u32 (bXor .u32 (bXor .u32 z5 z11) z17)), K, ?_⟩
 obtain rfl := some_elim H
 exact ⟨rfl, SP.sel hs22 [] rfl rfl⟩
/-! L_subwayref02_schedule -/
def L_subwayref02_schedule_k5 (rec4 : (List Int) → Int → Option ((List Int))) (v1157 : Int) (v2009 : (List Int)) : Option ((List Int)) :=
  (rec4 v2009 (IntKind.wrap .i64 (v1157 + 1)))
def L_subwayref02_schedule_b3 (rec4 : (List Int) → Int → Option ((List Int))) (p1 : (List UInt8)) (v1156 : (List Int)) (v1157 : Int) : Option ((List Int)) :=
  (cond (decide (v1157 < 64)) (cond (decide (v1157 < 16)) ((idx p1 (IntKind.wrap .i64 (4 * v1157))).bind fun x2015 => ((idx p1 (IntKind.wrap .i64 ((IntKind.wrap .i64 (4 * v1157)) + 1))).bind fun x2024 => ((idx p1 (IntKind.wrap .i64 ((IntKind.wrap .i64 (4 * v1157)) + 2))).bind fun x2033 => ((idx p1 (IntKind.wrap .i64 ((IntKind.wrap .i64 (4 * v1157)) + 3))).bind fun x2042 => ((idx v1156 v1157).bind fun x2051 => ((some (List.set v1156 (Int.toNat v1157) (bOr .u32 (bOr .u32 (bOr .u32 (bShl .u32 (IntKind.wrap .u32 ((x2015).toNat : Int)) 24) (bShl .u32 (IntKind.wrap .u32 ((x2024).toNat : Int)) 16)) (bShl .u32 (IntKind.wrap .u32 ((x2033).toNat : Int)) 8)) (IntKind.wrap .u32 ((x2042).toNat : Int))))).bind fun l2055 => (L_subwayref02_schedule_k5 rec4 v1157 l2055))))))) ((idx v1156 (IntKind.wrap .i64 (v1157 - 2))).bind fun x2124 => ((L_subwayref02_small x2124 17 19 10).bind fun z2128 => ((idx v1156 (IntKind.wrap .i64 (v1157 - 7))).bind fun x2134 => ((idx v1156 (IntKind.wrap .i64 (v1157 - 15))).bind fun x2138 => ((L_subwayref02_small x2138 7 18 3).bind fun z2142 => ((idx v1156 (IntKind.wrap .i64 (v1157 - 16))).bind fun x2148 => ((idx v1156 v1157).bind fun x2152 => ((some (List.set v1156 (Int.toNat v1157) (IntKind.wrap .u32 ((IntKind.wrap .u32 ((IntKind.wrap .u32 (z2128 + x2134)) + z2142)) + x2148)))).bind fun l2156 => (L_subwayref02_schedule_k5 rec4 v1157 l2156)))))))))) (some (v1156)))
def L_subwayref02_schedule_l3 (p1 : (List UInt8)) : Nat → (List Int) → Int → Option ((List Int))
  | 0, _, _ => none
  | f + 1, v1156, v1157 => L_subwayref02_schedule_b3  (L_subwayref02_schedule_l3 p1 f) p1 v1156 v1157
def L_subwayref02_schedule (p1 : (List UInt8)) : Option ((List Int)) :=
  (L_subwayref02_schedule_l3 p1 fuel (List.replicate 64 0) 0)
set_option maxRecDepth 100000 in
set_option maxHeartbeats 4000000 in
theorem L_subwayref02_schedule_walk (A2 : Option Addr) (c3 : Nat) (p1 : (List UInt8)) (w0 : World) (hr4 : RdT eU8 w0 A2 c3 p1) (r : ((List Int))) (H : L_subwayref02_schedule p1 = some r) :
  Calls Tryd.prog 50 #[(.slice A2 (List.length p1) c3)] w0 (fun e w' => e = .returned (.agg (cellsOf (eInt .u32) r).toArray) ∧ SP [] w0 w' []) := by
 unfold L_subwayref02_schedule at H
 refine calls_go (n := 70) Tryd.func50 K K K ?_
 have hs0 := SP.start [] w0
 refine At.sq K ?_
 refine At.region K K ?_
 refine In.step (k' := 1) rfl K ?_
 refine Step.allocA (e := (eInt .u32)) (l := (List.replicate 64 0)) (m := 64) (t := 91) (z := .agg (cellsOf (eInt .u32) (List.replicate 64 0)).toArray) (d := (some 2)) (k := 0) K rfl K rfl rfl K hs0 ?_
 intro g5 w6 (hs8 : SP [] w0 w6 [arrE 91 (eInt .u32) g5 64 (List.replicate 64 0)])
 refine In.fin K ?_
 refine At.sq K ?_
 refine At.region K K ?_
 refine In.step (k' := 1) rfl K ?_
 refine Step.allocA (e := (eInt .u32)) (l := (List.replicate 64 0)) (m := 64) (t := 91) (z := .agg (cellsOf (eInt .u32) (List.replicate 64 0)).toArray) (d := (some 3)) (k := 0) K rfl K rfl rfl K hs8 ?_
 intro g9 w10 (hs12 : SP [] w0 w10 [arrE 91 (eInt .u32) g5 64 (List.replicate 64 0), arrE 91 (eInt .u32) g9 64 (List.replicate 64 0)])
 refine In.fin K ?_
 refine At.sq K ?_
 refine At.sq K ?_
 refine At.region K K ?_
 refine In.run' 1 (k' := 1) rfl [(4, (.int .i64 0))] K ?_
 refine In.fin K ?_
 refine At.bk K (id := 0) K ?_
 refine At.lp K (fun f4 ρ w => ∃ (v1156 : (List Int)) (v1157 : Int), Known ρ [(0, (.slice A2 (List.length p1) c3)), (2, (pt g5 0)), (3, (pt g9 0)), (4, (.int .i64 v1157))] ∧ SP [] w0 w [arrE 91 (eInt .u32) g5 64 (List.replicate 64 0), arrE 91 (eInt .u32) g9 64 v1156] ∧ L_subwayref02_schedule_l3 p1 f4 v1156 v1157 = some r) (by rintro ρ w ⟨v1156, v1157, hk, hs, H⟩; cases H) ?_ fuel ?_
 ·rintro f4 ρ w1154 ⟨v1156, v1157, hk, hs1155, H⟩
  refine At.known [(0, (.slice A2 (List.length p1) c3)), (2, (pt g5 0)), (3, (pt g9 0)), (4, (.int .i64 v1157))] hk ?_
  replace H := (show L_subwayref02_schedule_b3 (L_subwayref02_schedule_l3 p1 f4) p1 v1156 v1157 = some r from H)
  unfold L_subwayref02_schedule_b3 at H
  have ha1727 := arrE_len (SP.get hs1155 (i := 0) rfl)
  have ha1728 := arrE_len (SP.get hs1155 (i := 1) rfl)
  refine At.sq K ?_
  refine At.sq K ?_
  refine At.region K K ?_
  refine In.run' 2 (k' := 2) rfl [(5, (.int .i64 v1157)), (6, (.bool (decide (v1157 < 64))))] K ?_
  refine In.fin K ?_
  refine At.cd K (o := (.tmp 6)) K (b := (decide (v1157 < 64))) K (fun hb1729 => ?_) (fun hb1729 => ?_)
  ·have H := ct H hb1729
   refine At.skip K ?_
   refine At.sq K ?_
   refine At.bk K (id := 1) K ?_
   refine At.sq K ?_
   refine At.region K K ?_
   refine In.run' 2 (k' := 2) rfl [(9, (.int .i64 v1157)), (10, (.bool (decide (v1157 < 16))))] K ?_
   refine In.fin K ?_
   refine At.join (fun ρ w => ∃ (v2009 : (List Int)), Known ρ [(0, (.slice A2 (List.length p1) c3)), (2, (pt g5 0)), (3, (pt g9 0)), (4, (.int .i64 v1157))] ∧ SP [] w0 w [arrE 91 (eInt .u32) g5 64 (List.replicate 64 0), arrE 91 (eInt .u32) g9 64 v2009] ∧ L_subwayref02_schedule_k5 (L_subwayref02_schedule_l3 p1 f4) v1157 v2009 = some r) ?_ ?_
   ·refine At.cd K (o := (.tmp 10)) K (b := (decide (v1157 < 16))) K (fun hb2014 => ?_) (fun hb2014 => ?_)
    ·have H := ct H hb2014
     obtain ⟨x2015, hp2016, hq2017, hx2018, H⟩ := idx_elim H
     obtain ⟨x2024, hp2025, hq2026, hx2027, H⟩ := idx_elim H
     obtain ⟨x2033, hp2034, hq2035, hx2036, H⟩ := idx_elim H
     obtain ⟨x2042, hp2043, hq2044, hx2045, H⟩ := idx_elim H
     obtain ⟨x2051, hp2052, hq2053, hx2054, H⟩ := idx_elim H
     replace H := some_bind_elim H
     obtain ⟨l2055, hyl2055⟩ : ∃ y, (List.set v1156 (Int.toNat v1157) (bOr .u32 (bOr .u32 (bOr .u32 (bShl .u32 (IntKind.wrap .u32 ((x2015).toNat : Int)) 24) (bShl .u32 (IntKind.wrap .u32 ((x2024).toNat : Int)) 16)) (bShl .u32 (IntKind.wrap .u32 ((x2033).toNat : Int)) 8)) (IntKind.wrap .u32 ((x2042).toNat : Int)))) = y := ⟨_, rfl⟩
     rw [hyl2055] at H
     have hnl2055 : List.length l2055 = List.length v1156 := by rw [← hyl2055, List.length_set]
     refine At.stages K K K K K [GEq (.int .i64 v1157), GEq (.slice A2 (List.length p1) c3), GEq (.int .i64 v1157), GEq (.int .i64 (IntKind.wrap .i64 (4 * v1157))), GElem0 A2 eU8.sz (IntKind.wrap .i64 (4 * v1157)), GEq (.int .u8 ((x2015).toNat : Int)), GEq (.int .u32 (IntKind.wrap .u32 ((x2015).toNat : Int))), GEq (.int .u32 (bShl .u32 (IntKind.wrap .u32 ((x2015).toNat : Int)) 24)), GEq (.slice A2 (List.length p1) c3), GEq (.int .i64 v1157), GEq (.int .i64 (IntKind.wrap .i64 (4 * v1157))), GEq (.int .i64 (IntKind.wrap .i64 ((IntKind.wrap .i64 (4 * v1157)) + 1))), GElem0 A2 eU8.sz (IntKind.wrap .i64 ((IntKind.wrap .i64 (4 * v1157)) + 1)), GEq (.int .u8 ((x2024).toNat : Int)), GEq (.int .u32 (IntKind.wrap .u32 ((x2024).toNat : Int))), GEq (.int .u32 (bShl .u32 (IntKind.wrap .u32 ((x2024).toNat : Int)) 16)), GEq (.int .u32 (bOr .u32 (bShl .u32 (IntKind.wrap .u32 ((x2015).toNat : Int)) 24) (bShl .u32 (IntKind.wrap .u32 ((x2024).toNat : Int)) 16))), GEq (.slice A2 (List.length p1) c3), GEq (.int .i64 v1157), GEq (.int .i64 (IntKind.wrap .i64 (4 * v1157))), GEq (.int .i64 (IntKind.wrap .i64 ((IntKind.wrap .i64 (4 * v1157)) + 2))), GElem0 A2 eU8.sz (IntKind.wrap .i64 ((IntKind.wrap .i64 (4 * v1157)) + 2)), GEq (.int .u8 ((x2033).toNat : Int)), GEq (.int .u32 (IntKind.wrap .u32 ((x2033).toNat : Int))), GEq (.int .u32 (bShl .u32 (IntKind.wrap .u32 ((x2033).toNat : Int)) 8)), GEq (.int .u32 (bOr .u32 (bOr .u32 (bShl .u32 (IntKind.wrap .u32 ((x2015).toNat : Int)) 24) (bShl .u32 (IntKind.wrap .u32 ((x2024).toNat : Int)) 16)) (bShl .u32 (IntKind.wrap .u32 ((x2033).toNat : Int)) 8))), GEq (.slice A2 (List.length p1) c3), GEq (.int .i64 v1157), GEq (.int .i64 (IntKind.wrap .i64 (4 * v1157))), GEq (.int .i64 (IntKind.wrap .i64 ((IntKind.wrap .i64 (4 * v1157)) + 3))), GElem0 A2 eU8.sz (IntKind.wrap .i64 ((IntKind.wrap .i64 (4 * v1157)) + 3)), GEq (.int .u8 ((x2042).toNat : Int)), GEq (.int .u32 (IntKind.wrap .u32 ((x2042).toNat : Int))), GEq (.int .u32 (bOr .u32 (bOr .u32 (bOr .u32 (bShl .u32 (IntKind.wrap .u32 ((x2015).toNat : Int)) 24) (bShl .u32 (IntKind.wrap .u32 ((x2024).toNat : Int)) 16)) (bShl .u32 (IntKind.wrap .u32 ((x2033).toNat : Int)) 8)) (IntKind.wrap .u32 ((x2042).toNat : Int)))), GElem0 (some ⟨g9, 0, none⟩) (eInt .u32).sz v1157, GAny] [35] [([], fun vs w => VL vs [] ∧ SP [] w0 w [arrE 91 (eInt .u32) g5 64 (List.replicate 64 0), arrE 91 (eInt .u32) g9 64 v1156]), ([35], fun vs w => VL vs [undef] ∧ SP [] w0 w [arrE 91 (eInt .u32) g5 64 (List.replicate 64 0), arrE 91 (eInt .u32) g9 64 l2055])] (N := 36) K ⟨K, Nat.zero_lt_succ _⟩ (show VL [] [] ∧ SP [] w0 w1154.drew [arrE 91 (eInt .u32) g5 64 (List.replicate 64 0), arrE 91 (eInt .u32) g9 64 v1156] from ⟨trivial, SP.drew hs1155⟩) ⟨⟨⟨⟨⟨⟨⟨⟨⟨⟨⟨⟨⟨⟨⟨⟨⟨⟨⟨⟨⟨⟨⟨⟨⟨⟨⟨⟨⟨⟨⟨⟨⟨⟨⟨⟨trivial, ?_⟩, ?_⟩, ?_⟩, ?_⟩, ?_⟩, ?_⟩, ?_⟩, ?_⟩, ?_⟩, ?_⟩, ?_⟩, ?_⟩, ?_⟩, ?_⟩, ?_⟩, ?_⟩, ?_⟩, ?_⟩, ?_⟩, ?_⟩, ?_⟩, ?_⟩, ?_⟩, ?_⟩, ?_⟩, ?_⟩, ?_⟩, ?_⟩, ?_⟩, ?_⟩, ?_⟩, ?_⟩, ?_⟩, ?_⟩, ?_⟩, ?_⟩ (last := 1) K ?_
     ·exact Owe.run K [(4, (.int .i64 v1157))] ⟨gS K K, trivial⟩ (.int .i64 v1157) (fun _ _ => K) rfl
     ·exact Owe.run K [(0, (.slice A2 (List.length p1) c3))] ⟨gS K K, trivial⟩ (.slice A2 (List.length p1) c3) (fun _ _ => K) rfl
     ·exact Owe.run K [(4, (.int .i64 v1157))] ⟨gS K K, trivial⟩ (.int .i64 v1157) (fun _ _ => K) rfl
     ·exact Owe.run K [(13, (.int .i64 v1157))] ⟨gA 2 K K, trivial⟩ (.int .i64 (IntKind.wrap .i64 (4 * v1157))) (fun _ _ => K) rfl
     ·refine Owe.light K [0] K (all_cons ?_ all_nil)
      ·rintro ρ' w' hs hah ⟨hvl2063, hs2062⟩
       have hkn : Known ρ' [(12, (.slice A2 (List.length p1) c3)), (14, (.int .i64 (IntKind.wrap .i64 (4 * v1157))))] := ⟨hah 1 12 K, hah 3 14 K, trivial⟩
       refine Step.known _ hkn ?_
       refine Step.elem (e := eU8) (l := p1) (A := A2) (c := c3) (T := 50) (E := 5) (x := (.tmp 12)) (ix := (.tmp 14)) (ki := .i64) (iz := (IntKind.wrap .i64 (4 * v1157))) (d := (some 15)) (k := 4) K rfl K K K K (RdT.sp hr4 hs2062) hp2016 hq2017 ?_
       intro b2064 o2065 hA2067 hb2068 hc2066
       exact ⟨rfl, _, updO_known hkn, ⟨b2064, o2065, hA2067, rfl⟩⟩
     ·refine Owe.light K [0] K (all_cons ?_ all_nil)
      ·rintro ρ' w' hs hah ⟨hvl2070, hs2069⟩
       obtain ⟨b2071, o2072, hA2073, e15⟩ := hah 4 15 K
       have hkn : Known ρ' [(15, (.pointer (some ⟨b2071, (o2072 + Int.toNat (IntKind.wrap .i64 (4 * v1157)) * eU8.sz), none⟩)))] := ⟨e15, trivial⟩
       refine Step.known _ hkn ?_
       refine Step.cell (t := 5) (x := (.tmp 15)) (b := b2071) (off := (o2072 + Int.toNat (IntKind.wrap .i64 (4 * v1157)) * eU8.sz)) (v := (.int .u8 ((x2015).toNat : Int))) (d := (some 16)) (k := 5) K rfl K K (elem_cell (e := eU8) (rdt_cells (RdT.sp hr4 hs2069) hA2073 hp2016 hq2017) hx2018 (j := 0) rfl) ?_
       exact ⟨rfl, _, updO_known hkn, rfl⟩
     ·exact Owe.run K [(16, (.int .u8 ((x2015).toNat : Int)))] ⟨gA 5 K K, trivial⟩ (.int .u32 (IntKind.wrap .u32 ((x2015).toNat : Int))) (fun _ _ => K) rfl
     ·exact Owe.run K [(17, (.int .u32 (IntKind.wrap .u32 ((x2015).toNat : Int))))] ⟨gA 6 K K, trivial⟩ (.int .u32 (bShl .u32 (IntKind.wrap .u32 ((x2015).toNat : Int)) 24)) (fun _ _ => K) rfl
     ·exact Owe.run K [(0, (.slice A2 (List.length p1) c3))] ⟨gS K K, trivial⟩ (.slice A2 (List.length p1) c3) (fun _ _ => K) rfl
     ·exact Owe.run K [(4, (.int .i64 v1157))] ⟨gS K K, trivial⟩ (.int .i64 v1157) (fun _ _ => K) rfl
     ·exact Owe.run K [(20, (.int .i64 v1157))] ⟨gA 9 K K, trivial⟩ (.int .i64 (IntKind.wrap .i64 (4 * v1157))) (fun _ _ => K) rfl
     ·exact Owe.run K [(21, (.int .i64 (IntKind.wrap .i64 (4 * v1157))))] ⟨gA 10 K K, trivial⟩ (.int .i64 (IntKind.wrap .i64 ((IntKind.wrap .i64 (4 * v1157)) + 1))) (fun _ _ => K) rfl
     ·refine Owe.light K [0] K (all_cons ?_ all_nil)
      ·rintro ρ' w' hs hah ⟨hvl2075, hs2074⟩
       have hkn : Known ρ' [(19, (.slice A2 (List.length p1) c3)), (22, (.int .i64 (IntKind.wrap .i64 ((IntKind.wrap .i64 (4 * v1157)) + 1))))] := ⟨hah 8 19 K, hah 11 22 K, trivial⟩
       refine Step.known _ hkn ?_
       refine Step.elem (e := eU8) (l := p1) (A := A2) (c := c3) (T := 50) (E := 5) (x := (.tmp 19)) (ix := (.tmp 22)) (ki := .i64) (iz := (IntKind.wrap .i64 ((IntKind.wrap .i64 (4 * v1157)) + 1))) (d := (some 23)) (k := 12) K rfl K K K K (RdT.sp hr4 hs2074) hp2025 hq2026 ?_
       intro b2076 o2077 hA2079 hb2080 hc2078
       exact ⟨rfl, _, updO_known hkn, ⟨b2076, o2077, hA2079, rfl⟩⟩
     ·refine Owe.light K [0] K (all_cons ?_ all_nil)
      ·rintro ρ' w' hs hah ⟨hvl2082, hs2081⟩
       obtain ⟨b2083, o2084, hA2085, e23⟩ := hah 12 23 K
       have hkn : Known ρ' [(23, (.pointer (some ⟨b2083, (o2084 + Int.toNat (IntKind.wrap .i64 ((IntKind.wrap .i64 (4 * v1157)) + 1)) * eU8.sz), none⟩)))] := ⟨e23, trivial⟩
       refine Step.known _ hkn ?_
       refine Step.cell (t := 5) (x := (.tmp 23)) (b := b2083) (off := (o2084 + Int.toNat (IntKind.wrap .i64 ((IntKind.wrap .i64 (4 * v1157)) + 1)) * eU8.sz)) (v := (.int .u8 ((x2024).toNat : Int))) (d := (some 24)) (k := 13) K rfl K K (elem_cell (e := eU8) (rdt_cells (RdT.sp hr4 hs2081) hA2085 hp2025 hq2026) hx2027 (j := 0) rfl) ?_
       exact ⟨rfl, _, updO_known hkn, rfl⟩
     ·exact Owe.run K [(24, (.int .u8 ((x2024).toNat : Int)))] ⟨gA 13 K K, trivial⟩ (.int .u32 (IntKind.wrap .u32 ((x2024).toNat : Int))) (fun _ _ => K) rfl
     ·exact Owe.run K [(25, (.int .u32 (IntKind.wrap .u32 ((x2024).toNat : Int))))] ⟨gA 14 K K, trivial⟩ (.int .u32 (bShl .u32 (IntKind.wrap .u32 ((x2024).toNat : Int)) 16)) (fun _ _ => K) rfl
     ·exact Owe.run K [(18, (.int .u32 (bShl .u32 (IntKind.wrap .u32 ((x2015).toNat : Int)) 24))), (26, (.int .u32 (bShl .u32 (IntKind.wrap .u32 ((x2024).toNat : Int)) 16)))] ⟨gA 7 K K, gA 15 K K, trivial⟩ (.int .u32 (bOr .u32 (bShl .u32 (IntKind.wrap .u32 ((x2015).toNat : Int)) 24) (bShl .u32 (IntKind.wrap .u32 ((x2024).toNat : Int)) 16))) (fun _ _ => K) rfl
     ·exact Owe.run K [(0, (.slice A2 (List.length p1) c3))] ⟨gS K K, trivial⟩ (.slice A2 (List.length p1) c3) (fun _ _ => K) rfl
     ·exact Owe.run K [(4, (.int .i64 v1157))] ⟨gS K K, trivial⟩ (.int .i64 v1157) (fun _ _ => K) rfl
     ·exact Owe.run K [(29, (.int .i64 v1157))] ⟨gA 18 K K, trivial⟩ (.int .i64 (IntKind.wrap .i64 (4 * v1157))) (fun _ _ => K) rfl
     ·exact Owe.run K [(30, (.int .i64 (IntKind.wrap .i64 (4 * v1157))))] ⟨gA 19 K K, trivial⟩ (.int .i64 (IntKind.wrap .i64 ((IntKind.wrap .i64 (4 * v1157)) + 2))) (fun _ _ => K) rfl
     ·refine Owe.light K [0] K (all_cons ?_ all_nil)
      ·rintro ρ' w' hs hah ⟨hvl2087, hs2086⟩
       have hkn : Known ρ' [(28, (.slice A2 (List.length p1) c3)), (31, (.int .i64 (IntKind.wrap .i64 ((IntKind.wrap .i64 (4 * v1157)) + 2))))] := ⟨hah 17 28 K, hah 20 31 K, trivial⟩
       refine Step.known _ hkn ?_
       refine Step.elem (e := eU8) (l := p1) (A := A2) (c := c3) (T := 50) (E := 5) (x := (.tmp 28)) (ix := (.tmp 31)) (ki := .i64) (iz := (IntKind.wrap .i64 ((IntKind.wrap .i64 (4 * v1157)) + 2))) (d := (some 32)) (k := 21) K rfl K K K K (RdT.sp hr4 hs2086) hp2034 hq2035 ?_
       intro b2088 o2089 hA2091 hb2092 hc2090
       exact ⟨rfl, _, updO_known hkn, ⟨b2088, o2089, hA2091, rfl⟩⟩
     ·refine Owe.light K [0] K (all_cons ?_ all_nil)
      ·rintro ρ' w' hs hah ⟨hvl2094, hs2093⟩
       obtain ⟨b2095, o2096, hA2097, e32⟩ := hah 21 32 K
       have hkn : Known ρ' [(32, (.pointer (some ⟨b2095, (o2096 + Int.toNat (IntKind.wrap .i64 ((IntKind.wrap .i64 (4 * v1157)) + 2)) * eU8.sz), none⟩)))] := ⟨e32, trivial⟩
       refine Step.known _ hkn ?_
       refine Step.cell (t := 5) (x := (.tmp 32)) (b := b2095) (off := (o2096 + Int.toNat (IntKind.wrap .i64 ((IntKind.wrap .i64 (4 * v1157)) + 2)) * eU8.sz)) (v := (.int .u8 ((x2033).toNat : Int))) (d := (some 33)) (k := 22) K rfl K K (elem_cell (e := eU8) (rdt_cells (RdT.sp hr4 hs2093) hA2097 hp2034 hq2035) hx2036 (j := 0) rfl) ?_
       exact ⟨rfl, _, updO_known hkn, rfl⟩
     ·exact Owe.run K [(33, (.int .u8 ((x2033).toNat : Int)))] ⟨gA 22 K K, trivial⟩ (.int .u32 (IntKind.wrap .u32 ((x2033).toNat : Int))) (fun _ _ => K) rfl
     ·exact Owe.run K [(34, (.int .u32 (IntKind.wrap .u32 ((x2033).toNat : Int))))] ⟨gA 23 K K, trivial⟩ (.int .u32 (bShl .u32 (IntKind.wrap .u32 ((x2033).toNat : Int)) 8)) (fun _ _ => K) rfl
     ·exact Owe.run K [(27, (.int .u32 (bOr .u32 (bShl .u32 (IntKind.wrap .u32 ((x2015).toNat : Int)) 24) (bShl .u32 (IntKind.wrap .u32 ((x2024).toNat : Int)) 16)))), (35, (.int .u32 (bShl .u32 (IntKind.wrap .u32 ((x2033).toNat : Int)) 8)))] ⟨gA 16 K K, gA 24 K K, trivial⟩ (.int .u32 (bOr .u32 (bOr .u32 (bShl .u32 (IntKind.wrap .u32 ((x2015).toNat : Int)) 24) (bShl .u32 (IntKind.wrap .u32 ((x2024).toNat : Int)) 16)) (bShl .u32 (IntKind.wrap .u32 ((x2033).toNat : Int)) 8))) (fun _ _ => K) rfl
     ·exact Owe.run K [(0, (.slice A2 (List.length p1) c3))] ⟨gS K K, trivial⟩ (.slice A2 (List.length p1) c3) (fun _ _ => K) rfl
     ·exact Owe.run K [(4, (.int .i64 v1157))] ⟨gS K K, trivial⟩ (.int .i64 v1157) (fun _ _ => K) rfl
     ·exact Owe.run K [(38, (.int .i64 v1157))] ⟨gA 27 K K, trivial⟩ (.int .i64 (IntKind.wrap .i64 (4 * v1157))) (fun _ _ => K) rfl
     ·exact Owe.run K [(39, (.int .i64 (IntKind.wrap .i64 (4 * v1157))))] ⟨gA 28 K K, trivial⟩ (.int .i64 (IntKind.wrap .i64 ((IntKind.wrap .i64 (4 * v1157)) + 3))) (fun _ _ => K) rfl
     ·refine Owe.light K [0] K (all_cons ?_ all_nil)
      ·rintro ρ' w' hs hah ⟨hvl2099, hs2098⟩
       have hkn : Known ρ' [(37, (.slice A2 (List.length p1) c3)), (40, (.int .i64 (IntKind.wrap .i64 ((IntKind.wrap .i64 (4 * v1157)) + 3))))] := ⟨hah 26 37 K, hah 29 40 K, trivial⟩
       refine Step.known _ hkn ?_
       refine Step.elem (e := eU8) (l := p1) (A := A2) (c := c3) (T := 50) (E := 5) (x := (.tmp 37)) (ix := (.tmp 40)) (ki := .i64) (iz := (IntKind.wrap .i64 ((IntKind.wrap .i64 (4 * v1157)) + 3))) (d := (some 41)) (k := 30) K rfl K K K K (RdT.sp hr4 hs2098) hp2043 hq2044 ?_
       intro b2100 o2101 hA2103 hb2104 hc2102
       exact ⟨rfl, _, updO_known hkn, ⟨b2100, o2101, hA2103, rfl⟩⟩
     ·refine Owe.light K [0] K (all_cons ?_ all_nil)
      ·rintro ρ' w' hs hah ⟨hvl2106, hs2105⟩
       obtain ⟨b2107, o2108, hA2109, e41⟩ := hah 30 41 K
       have hkn : Known ρ' [(41, (.pointer (some ⟨b2107, (o2108 + Int.toNat (IntKind.wrap .i64 ((IntKind.wrap .i64 (4 * v1157)) + 3)) * eU8.sz), none⟩)))] := ⟨e41, trivial⟩
       refine Step.known _ hkn ?_
       refine Step.cell (t := 5) (x := (.tmp 41)) (b := b2107) (off := (o2108 + Int.toNat (IntKind.wrap .i64 ((IntKind.wrap .i64 (4 * v1157)) + 3)) * eU8.sz)) (v := (.int .u8 ((x2042).toNat : Int))) (d := (some 42)) (k := 31) K rfl K K (elem_cell (e := eU8) (rdt_cells (RdT.sp hr4 hs2105) hA2109 hp2043 hq2044) hx2045 (j := 0) rfl) ?_
       exact ⟨rfl, _, updO_known hkn, rfl⟩
     ·exact Owe.run K [(42, (.int .u8 ((x2042).toNat : Int)))] ⟨gA 31 K K, trivial⟩ (.int .u32 (IntKind.wrap .u32 ((x2042).toNat : Int))) (fun _ _ => K) rfl
     ·exact Owe.run K [(36, (.int .u32 (bOr .u32 (bOr .u32 (bShl .u32 (IntKind.wrap .u32 ((x2015).toNat : Int)) 24) (bShl .u32 (IntKind.wrap .u32 ((x2024).toNat : Int)) 16)) (bShl .u32 (IntKind.wrap .u32 ((x2033).toNat : Int)) 8)))), (43, (.int .u32 (IntKind.wrap .u32 ((x2042).toNat : Int))))] ⟨gA 25 K K, gA 32 K K, trivial⟩ (.int .u32 (bOr .u32 (bOr .u32 (bOr .u32 (bShl .u32 (IntKind.wrap .u32 ((x2015).toNat : Int)) 24) (bShl .u32 (IntKind.wrap .u32 ((x2024).toNat : Int)) 16)) (bShl .u32 (IntKind.wrap .u32 ((x2033).toNat : Int)) 8)) (IntKind.wrap .u32 ((x2042).toNat : Int)))) (fun _ _ => K) rfl
     ·refine Owe.light K [0] K (all_cons ?_ all_nil)
      ·rintro ρ' w' hs hah ⟨hvl2111, hs2110⟩
       have hkn : Known ρ' [(3, (pt g9 0)), (11, (.int .i64 v1157))] := ⟨(hs 3 K).trans K, hah 0 11 K, trivial⟩
       refine Step.known _ hkn ?_
       refine Step.elemA (e := (eInt .u32)) (l := v1156) (m := 64) (g := g9) (T := 91) (E := 81) (x := (.tmp 3)) (ix := (.tmp 11)) (ki := .i64) (iz := v1157) (i := 1) (d := (some 45)) (k := 34) K rfl K K K K hs2110 rfl hp2052 hq2053 ?_
       exact ⟨rfl, _, updO_known hkn, ⟨g9, 0, rfl, rfl⟩⟩
     ·refine Owe.heavy K [(0, 1)] K (all_cons ⟨K, K, ?_⟩ all_nil)
      ·rintro ρ' w' hs hah ⟨hvl2113, hs2112⟩
       obtain ⟨b2114, o2115, hA2116, e45⟩ := hah 34 45 K
       have hkn : Known ρ' [(45, (.pointer (some ⟨b2114, (o2115 + Int.toNat v1157 * (eInt .u32).sz), none⟩))), (44, (.int .u32 (bOr .u32 (bOr .u32 (bOr .u32 (bShl .u32 (IntKind.wrap .u32 ((x2015).toNat : Int)) 24) (bShl .u32 (IntKind.wrap .u32 ((x2024).toNat : Int)) 16)) (bShl .u32 (IntKind.wrap .u32 ((x2033).toNat : Int)) 8)) (IntKind.wrap .u32 ((x2042).toNat : Int)))))] := ⟨e45, hah 33 44 K, trivial⟩
       refine Step.known _ hkn ?_
       refine Step.storeElemA (e := (eInt .u32)) (t := 81) (x := (.tmp 45)) (y := (.tmp 44)) (l := v1156) (iz := v1157) (m := 64) (g := g9) (b := b2114) (off := o2115) (i := 1) (v := (.int .u32 (bOr .u32 (bOr .u32 (bOr .u32 (bShl .u32 (IntKind.wrap .u32 ((x2015).toNat : Int)) 24) (bShl .u32 (IntKind.wrap .u32 ((x2024).toNat : Int)) 16)) (bShl .u32 (IntKind.wrap .u32 ((x2033).toNat : Int)) 8)) (IntKind.wrap .u32 ((x2042).toNat : Int))))) (x' := (bOr .u32 (bOr .u32 (bOr .u32 (bShl .u32 (IntKind.wrap .u32 ((x2015).toNat : Int)) 24) (bShl .u32 (IntKind.wrap .u32 ((x2024).toNat : Int)) 16)) (bShl .u32 (IntKind.wrap .u32 ((x2033).toNat : Int)) 8)) (IntKind.wrap .u32 ((x2042).toNat : Int)))) (d := none) (k := 35) K rfl hA2116 K K hs2112 rfl rfl hq2053 hp2052 rfl K ?_
       rw [hyl2055]
       intro w2117 (hs2119 : SP [] w0 w2117 [arrE 91 (eInt .u32) g5 64 (List.replicate 64 0), arrE 91 (eInt .u32) g9 64 l2055])
       refine ⟨_, updO_known hkn, trivial, ?_⟩
       exact (And.intro (And.intro rfl (trivial)) (hs2119))
     ·rintro ρ' w' hs hf ⟨⟨q2121, -⟩, hs2120⟩
      refine postKnown [(0, (.slice A2 (List.length p1) c3)), (2, (pt g5 0)), (3, (pt g9 0)), (4, (.int .i64 v1157))] ⟨(hs 0 K).trans K, (hs 2 K).trans K, (hs 3 K).trans K, (hs 4 K).trans K, trivial⟩ ?_
      obtain ⟨w2123, hww2123⟩ : ∃ x, w' = x := ⟨_, rfl⟩
      rw [hww2123] at hs2120 ⊢
      exact ⟨l2055, ⟨K, K, K, K, trivial⟩, SP.sel hs2120 [0, 1] rfl rfl, H⟩
    ·have H := cf H hb2014
     obtain ⟨x2124, hp2125, hq2126, hx2127, H⟩ := idx_elim H
     obtain ⟨z2128, hz2129, H⟩ := bind_elim H
     obtain ⟨x2134, hp2135, hq2136, hx2137, H⟩ := idx_elim H
     obtain ⟨x2138, hp2139, hq2140, hx2141, H⟩ := idx_elim H
     obtain ⟨z2142, hz2143, H⟩ := bind_elim H
     obtain ⟨x2148, hp2149, hq2150, hx2151, H⟩ := idx_elim H
     obtain ⟨x2152, hp2153, hq2154, hx2155, H⟩ := idx_elim H
     replace H := some_bind_elim H
     obtain ⟨l2156, hyl2156⟩ : ∃ y, (List.set v1156 (Int.toNat v1157) (IntKind.wrap .u32 ((IntKind.wrap .u32 ((IntKind.wrap .u32 (z2128 + x2134)) + z2142)) + x2148))) = y := ⟨_, rfl⟩
     rw [hyl2156] at H
     have hnl2156 : List.length l2156 = List.length v1156 := by rw [← hyl2156, List.length_set]
     refine At.stages K K K K K [GEq (.int .i64 v1157), GEq (.int .i64 v1157), GEq (.int .i64 (IntKind.wrap .i64 (v1157 - 2))), GElem0 (some ⟨g9, 0, none⟩) (eInt .u32).sz (IntKind.wrap .i64 (v1157 - 2)), GEq (.int .u32 x2124), GEq (.int .u32 z2128), GEq (.int .i64 v1157), GEq (.int .i64 (IntKind.wrap .i64 (v1157 - 7))), GElem0 (some ⟨g9, 0, none⟩) (eInt .u32).sz (IntKind.wrap .i64 (v1157 - 7)), GEq (.int .u32 x2134), GEq (.int .u32 (IntKind.wrap .u32 (z2128 + x2134))), GEq (.int .i64 v1157), GEq (.int .i64 (IntKind.wrap .i64 (v1157 - 15))), GElem0 (some ⟨g9, 0, none⟩) (eInt .u32).sz (IntKind.wrap .i64 (v1157 - 15)), GEq (.int .u32 x2138), GEq (.int .u32 z2142), GEq (.int .u32 (IntKind.wrap .u32 ((IntKind.wrap .u32 (z2128 + x2134)) + z2142))), GEq (.int .i64 v1157), GEq (.int .i64 (IntKind.wrap .i64 (v1157 - 16))), GElem0 (some ⟨g9, 0, none⟩) (eInt .u32).sz (IntKind.wrap .i64 (v1157 - 16)), GEq (.int .u32 x2148), GEq (.int .u32 (IntKind.wrap .u32 ((IntKind.wrap .u32 ((IntKind.wrap .u32 (z2128 + x2134)) + z2142)) + x2148))), GElem0 (some ⟨g9, 0, none⟩) (eInt .u32).sz v1157, GAny] [5, 15, 23] [([], fun vs w => VL vs [] ∧ SP [] w0 w [arrE 91 (eInt .u32) g5 64 (List.replicate 64 0), arrE 91 (eInt .u32) g9 64 v1156]), ([5], fun vs w => VL vs [(.int .u32 z2128)] ∧ SP [] w0 w [arrE 91 (eInt .u32) g5 64 (List.replicate 64 0), arrE 91 (eInt .u32) g9 64 v1156]), ([5, 15], fun vs w => VL vs [(.int .u32 z2128), (.int .u32 z2142)] ∧ SP [] w0 w [arrE 91 (eInt .u32) g5 64 (List.replicate 64 0), arrE 91 (eInt .u32) g9 64 v1156]), ([5, 15, 23], fun vs w => VL vs [(.int .u32 z2128), (.int .u32 z2142), undef] ∧ SP [] w0 w [arrE 91 (eInt .u32) g5 64 (List.replicate 64 0), arrE 91 (eInt .u32) g9 64 l2156])] (N := 24) K ⟨K, Nat.zero_lt_succ _⟩ (show VL [] [] ∧ SP [] w0 w1154.drew [arrE 91 (eInt .u32) g5 64 (List.replicate 64 0), arrE 91 (eInt .u32) g9 64 v1156] from ⟨trivial, SP.drew hs1155⟩) ⟨⟨⟨⟨⟨⟨⟨⟨⟨⟨⟨⟨⟨⟨⟨⟨⟨⟨⟨⟨⟨⟨⟨⟨trivial, ?_⟩, ?_⟩, ?_⟩, ?_⟩, ?_⟩, ?_⟩, ?_⟩, ?_⟩, ?_⟩, ?_⟩, ?_⟩, ?_⟩, ?_⟩, ?_⟩, ?_⟩, ?_⟩, ?_⟩, ?_⟩, ?_⟩, ?_⟩, ?_⟩, ?_⟩, ?_⟩, ?_⟩ (last := 3) K ?_
     ·exact Owe.run K [(4, (.int .i64 v1157))] ⟨gS K K, trivial⟩ (.int .i64 v1157) (fun _ _ => K) rfl
     ·exact Owe.run K [(4, (.int .i64 v1157))] ⟨gS K K, trivial⟩ (.int .i64 v1157) (fun _ _ => K) rfl
     ·exact Owe.run K [(47, (.int .i64 v1157))] ⟨gA 1 K K, trivial⟩ (.int .i64 (IntKind.wrap .i64 (v1157 - 2))) (fun _ _ => K) rfl
     ·refine Owe.light K [0] K (all_cons ?_ all_nil)
      ·rintro ρ' w' hs hah ⟨hvl2184, hs2183⟩
       have hkn : Known ρ' [(3, (pt g9 0)), (48, (.int .i64 (IntKind.wrap .i64 (v1157 - 2))))] := ⟨(hs 3 K).trans K, hah 2 48 K, trivial⟩
       refine Step.known _ hkn ?_
       refine Step.elemA (e := (eInt .u32)) (l := v1156) (m := 64) (g := g9) (T := 91) (E := 81) (x := (.tmp 3)) (ix := (.tmp 48)) (ki := .i64) (iz := (IntKind.wrap .i64 (v1157 - 2))) (i := 1) (d := (some 49)) (k := 3) K rfl K K K K hs2183 rfl hp2125 hq2126 ?_
       exact ⟨rfl, _, updO_known hkn, ⟨g9, 0, rfl, rfl⟩⟩
     ·refine Owe.light K [0] K (all_cons ?_ all_nil)
      ·rintro ρ' w' hs hah ⟨hvl2186, hs2185⟩
       obtain ⟨b2187, o2188, hA2189, e49⟩ := hah 3 49 K
       have hkn : Known ρ' [(49, (.pointer (some ⟨b2187, (o2188 + Int.toNat (IntKind.wrap .i64 (v1157 - 2)) * (eInt .u32).sz), none⟩)))] := ⟨e49, trivial⟩
       refine Step.known _ hkn ?_
       refine Step.cell (t := 81) (x := (.tmp 49)) (b := b2187) (off := (o2188 + Int.toNat (IntKind.wrap .i64 (v1157 - 2)) * (eInt .u32).sz)) (v := (.int .u32 x2124)) (d := (some 50)) (k := 4) K rfl K K (elem_cell (e := (eInt .u32)) (rdt_cells (arrE_rd (SP.get hs2185 (i := 1) rfl)) hA2189 hp2125 hq2126) hx2127 (j := 0) rfl) ?_
       exact ⟨rfl, _, updO_known hkn, rfl⟩
     ·refine Owe.heavy K [(0, 1)] K (all_cons ⟨K, K, ?_⟩ all_nil)
      ·rintro ρ' w' hs hah ⟨hvl2191, hs2190⟩
       have hkn : Known ρ' [(50, (.int .u32 x2124))] := ⟨hah 4 50 K, trivial⟩
       refine Step.known _ hkn ?_
       refine Step.callF (f := 60) (fo := (.func 60)) (xs := #[(.tmp 50), (.const (.int .i64 (17))), (.const (.int .i64 (19))), (.const (.int .i64 (10)))]) (tys := #[81, 3, 3, 3]) (first := #[]) (captured := #[]) (d := (some 51)) (k := 5) K rfl K K Tryd.call60 (L_subwayref02_small_walk  x2124 17 19 10 w'  z2128 hz2129) ?_
       rintro e w2192 ⟨rfl, hs2193⟩
       refine ⟨_, rfl, ?_⟩
       have hs2195 : SP [] w0 w2192 [arrE 91 (eInt .u32) g5 64 (List.replicate 64 0), arrE 91 (eInt .u32) g9 64 v1156] := SP.call hs2190 hs2193
       clear hs2193
       refine ⟨_, updO_known hkn, rfl, ?_⟩
       exact (And.intro (And.intro rfl (trivial)) (hs2195))
     ·exact Owe.run K [(4, (.int .i64 v1157))] ⟨gS K K, trivial⟩ (.int .i64 v1157) (fun _ _ => K) rfl
     ·exact Owe.run K [(52, (.int .i64 v1157))] ⟨gA 6 K K, trivial⟩ (.int .i64 (IntKind.wrap .i64 (v1157 - 7))) (fun _ _ => K) rfl
     ·refine Owe.light K [0, 1, 2] K (all_cons ?_ (all_cons ?_ (all_cons ?_ all_nil)))
      ·rintro ρ' w' hs hah ⟨hvl2197, hs2196⟩
       have hkn : Known ρ' [(3, (pt g9 0)), (53, (.int .i64 (IntKind.wrap .i64 (v1157 - 7))))] := ⟨(hs 3 K).trans K, hah 7 53 K, trivial⟩
       refine Step.known _ hkn ?_
       refine Step.elemA (e := (eInt .u32)) (l := v1156) (m := 64) (g := g9) (T := 91) (E := 81) (x := (.tmp 3)) (ix := (.tmp 53)) (ki := .i64) (iz := (IntKind.wrap .i64 (v1157 - 7))) (i := 1) (d := (some 54)) (k := 8) K rfl K K K K hs2196 rfl hp2135 hq2136 ?_
       exact ⟨rfl, _, updO_known hkn, ⟨g9, 0, rfl, rfl⟩⟩
      ·rintro ρ' w' hs hah ⟨⟨q2199, -⟩, hs2198⟩
       have hkn : Known ρ' [(3, (pt g9 0)), (53, (.int .i64 (IntKind.wrap .i64 (v1157 - 7))))] := ⟨(hs 3 K).trans K, hah 7 53 K, trivial⟩
       refine Step.known _ hkn ?_
       refine Step.elemA (e := (eInt .u32)) (l := v1156) (m := 64) (g := g9) (T := 91) (E := 81) (x := (.tmp 3)) (ix := (.tmp 53)) (ki := .i64) (iz := (IntKind.wrap .i64 (v1157 - 7))) (i := 1) (d := (some 54)) (k := 8) K rfl K K K K hs2198 rfl hp2135 hq2136 ?_
       exact ⟨rfl, _, updO_known hkn, ⟨g9, 0, rfl, rfl⟩⟩
      ·rintro ρ' w' hs hah ⟨⟨q2202, q2203, -⟩, hs2201⟩
       have hkn : Known ρ' [(3, (pt g9 0)), (53, (.int .i64 (IntKind.wrap .i64 (v1157 - 7))))] := ⟨(hs 3 K).trans K, hah 7 53 K, trivial⟩
       refine Step.known _ hkn ?_
       refine Step.elemA (e := (eInt .u32)) (l := v1156) (m := 64) (g := g9) (T := 91) (E := 81) (x := (.tmp 3)) (ix := (.tmp 53)) (ki := .i64) (iz := (IntKind.wrap .i64 (v1157 - 7))) (i := 1) (d := (some 54)) (k := 8) K rfl K K K K hs2201 rfl hp2135 hq2136 ?_
       exact ⟨rfl, _, updO_known hkn, ⟨g9, 0, rfl, rfl⟩⟩
     ·refine Owe.light K [0, 1, 2] K (all_cons ?_ (all_cons ?_ (all_cons ?_ all_nil)))
      ·rintro ρ' w' hs hah ⟨hvl2206, hs2205⟩
       obtain ⟨b2207, o2208, hA2209, e54⟩ := hah 8 54 K
       have hkn : Known ρ' [(54, (.pointer (some ⟨b2207, (o2208 + Int.toNat (IntKind.wrap .i64 (v1157 - 7)) * (eInt .u32).sz), none⟩)))] := ⟨e54, trivial⟩
       refine Step.known _ hkn ?_
       refine Step.cell (t := 81) (x := (.tmp 54)) (b := b2207) (off := (o2208 + Int.toNat (IntKind.wrap .i64 (v1157 - 7)) * (eInt .u32).sz)) (v := (.int .u32 x2134)) (d := (some 55)) (k := 9) K rfl K K (elem_cell (e := (eInt .u32)) (rdt_cells (arrE_rd (SP.get hs2205 (i := 1) rfl)) hA2209 hp2135 hq2136) hx2137 (j := 0) rfl) ?_
       exact ⟨rfl, _, updO_known hkn, rfl⟩
      ·rintro ρ' w' hs hah ⟨⟨q2211, -⟩, hs2210⟩
       obtain ⟨b2213, o2214, hA2215, e54⟩ := hah 8 54 K
       have hkn : Known ρ' [(54, (.pointer (some ⟨b2213, (o2214 + Int.toNat (IntKind.wrap .i64 (v1157 - 7)) * (eInt .u32).sz), none⟩)))] := ⟨e54, trivial⟩
       refine Step.known _ hkn ?_
       refine Step.cell (t := 81) (x := (.tmp 54)) (b := b2213) (off := (o2214 + Int.toNat (IntKind.wrap .i64 (v1157 - 7)) * (eInt .u32).sz)) (v := (.int .u32 x2134)) (d := (some 55)) (k := 9) K rfl K K (elem_cell (e := (eInt .u32)) (rdt_cells (arrE_rd (SP.get hs2210 (i := 1) rfl)) hA2215 hp2135 hq2136) hx2137 (j := 0) rfl) ?_
       exact ⟨rfl, _, updO_known hkn, rfl⟩
      ·rintro ρ' w' hs hah ⟨⟨q2217, q2218, -⟩, hs2216⟩
       obtain ⟨b2220, o2221, hA2222, e54⟩ := hah 8 54 K
       have hkn : Known ρ' [(54, (.pointer (some ⟨b2220, (o2221 + Int.toNat (IntKind.wrap .i64 (v1157 - 7)) * (eInt .u32).sz), none⟩)))] := ⟨e54, trivial⟩
       refine Step.known _ hkn ?_
       refine Step.cell (t := 81) (x := (.tmp 54)) (b := b2220) (off := (o2221 + Int.toNat (IntKind.wrap .i64 (v1157 - 7)) * (eInt .u32).sz)) (v := (.int .u32 x2134)) (d := (some 55)) (k := 9) K rfl K K (elem_cell (e := (eInt .u32)) (rdt_cells (arrE_rd (SP.get hs2216 (i := 1) rfl)) hA2222 hp2135 hq2136) hx2137 (j := 0) rfl) ?_
       exact ⟨rfl, _, updO_known hkn, rfl⟩
     ·exact Owe.run K [(51, (.int .u32 z2128)), (55, (.int .u32 x2134))] ⟨gA 5 K K, gA 9 K K, trivial⟩ (.int .u32 (IntKind.wrap .u32 (z2128 + x2134))) (fun _ _ => K) rfl
     ·exact Owe.run K [(4, (.int .i64 v1157))] ⟨gS K K, trivial⟩ (.int .i64 v1157) (fun _ _ => K) rfl
     ·exact Owe.run K [(57, (.int .i64 v1157))] ⟨gA 11 K K, trivial⟩ (.int .i64 (IntKind.wrap .i64 (v1157 - 15))) (fun _ _ => K) rfl
     ·refine Owe.light K [0, 1] K (all_cons ?_ (all_cons ?_ all_nil))
      ·rintro ρ' w' hs hah ⟨hvl2224, hs2223⟩
       have hkn : Known ρ' [(3, (pt g9 0)), (58, (.int .i64 (IntKind.wrap .i64 (v1157 - 15))))] := ⟨(hs 3 K).trans K, hah 12 58 K, trivial⟩
       refine Step.known _ hkn ?_
       refine Step.elemA (e := (eInt .u32)) (l := v1156) (m := 64) (g := g9) (T := 91) (E := 81) (x := (.tmp 3)) (ix := (.tmp 58)) (ki := .i64) (iz := (IntKind.wrap .i64 (v1157 - 15))) (i := 1) (d := (some 59)) (k := 13) K rfl K K K K hs2223 rfl hp2139 hq2140 ?_
       exact ⟨rfl, _, updO_known hkn, ⟨g9, 0, rfl, rfl⟩⟩
      ·rintro ρ' w' hs hah ⟨⟨q2226, -⟩, hs2225⟩
       have hkn : Known ρ' [(3, (pt g9 0)), (58, (.int .i64 (IntKind.wrap .i64 (v1157 - 15))))] := ⟨(hs 3 K).trans K, hah 12 58 K, trivial⟩
       refine Step.known _ hkn ?_
       refine Step.elemA (e := (eInt .u32)) (l := v1156) (m := 64) (g := g9) (T := 91) (E := 81) (x := (.tmp 3)) (ix := (.tmp 58)) (ki := .i64) (iz := (IntKind.wrap .i64 (v1157 - 15))) (i := 1) (d := (some 59)) (k := 13) K rfl K K K K hs2225 rfl hp2139 hq2140 ?_
       exact ⟨rfl, _, updO_known hkn, ⟨g9, 0, rfl, rfl⟩⟩
     ·refine Owe.light K [0, 1] K (all_cons ?_ (all_cons ?_ all_nil))
      ·rintro ρ' w' hs hah ⟨hvl2229, hs2228⟩
       obtain ⟨b2230, o2231, hA2232, e59⟩ := hah 13 59 K
       have hkn : Known ρ' [(59, (.pointer (some ⟨b2230, (o2231 + Int.toNat (IntKind.wrap .i64 (v1157 - 15)) * (eInt .u32).sz), none⟩)))] := ⟨e59, trivial⟩
       refine Step.known _ hkn ?_
       refine Step.cell (t := 81) (x := (.tmp 59)) (b := b2230) (off := (o2231 + Int.toNat (IntKind.wrap .i64 (v1157 - 15)) * (eInt .u32).sz)) (v := (.int .u32 x2138)) (d := (some 60)) (k := 14) K rfl K K (elem_cell (e := (eInt .u32)) (rdt_cells (arrE_rd (SP.get hs2228 (i := 1) rfl)) hA2232 hp2139 hq2140) hx2141 (j := 0) rfl) ?_
       exact ⟨rfl, _, updO_known hkn, rfl⟩
      ·rintro ρ' w' hs hah ⟨⟨q2234, -⟩, hs2233⟩
       obtain ⟨b2236, o2237, hA2238, e59⟩ := hah 13 59 K
       have hkn : Known ρ' [(59, (.pointer (some ⟨b2236, (o2237 + Int.toNat (IntKind.wrap .i64 (v1157 - 15)) * (eInt .u32).sz), none⟩)))] := ⟨e59, trivial⟩
       refine Step.known _ hkn ?_
       refine Step.cell (t := 81) (x := (.tmp 59)) (b := b2236) (off := (o2237 + Int.toNat (IntKind.wrap .i64 (v1157 - 15)) * (eInt .u32).sz)) (v := (.int .u32 x2138)) (d := (some 60)) (k := 14) K rfl K K (elem_cell (e := (eInt .u32)) (rdt_cells (arrE_rd (SP.get hs2233 (i := 1) rfl)) hA2238 hp2139 hq2140) hx2141 (j := 0) rfl) ?_
       exact ⟨rfl, _, updO_known hkn, rfl⟩
     ·refine Owe.heavy K [(1, 2)] K (all_cons ⟨K, K, ?_⟩ all_nil)
      ·rintro ρ' w' hs hah ⟨⟨q2240, -⟩, hs2239⟩
       have hkn : Known ρ' [(60, (.int .u32 x2138))] := ⟨hah 14 60 K, trivial⟩
       refine Step.known _ hkn ?_
       refine Step.callF (f := 60) (fo := (.func 60)) (xs := #[(.tmp 60), (.const (.int .i64 (7))), (.const (.int .i64 (18))), (.const (.int .i64 (3)))]) (tys := #[81, 3, 3, 3]) (first := #[]) (captured := #[]) (d := (some 61)) (k := 15) K rfl K K Tryd.call60 (L_subwayref02_small_walk  x2138 7 18 3 w'  z2142 hz2143) ?_
       rintro e w2242 ⟨rfl, hs2243⟩
       refine ⟨_, rfl, ?_⟩
       have hs2245 : SP [] w0 w2242 [arrE 91 (eInt .u32) g5 64 (List.replicate 64 0), arrE 91 (eInt .u32) g9 64 v1156] := SP.call hs2239 hs2243
       clear hs2243
       refine ⟨_, updO_known hkn, rfl, ?_⟩
       exact (And.intro (And.intro q2240 (And.intro rfl (trivial))) (hs2245))
     ·exact Owe.run K [(56, (.int .u32 (IntKind.wrap .u32 (z2128 + x2134)))), (61, (.int .u32 z2142))] ⟨gA 10 K K, gA 15 K K, trivial⟩ (.int .u32 (IntKind.wrap .u32 ((IntKind.wrap .u32 (z2128 + x2134)) + z2142))) (fun _ _ => K) rfl
     ·exact Owe.run K [(4, (.int .i64 v1157))] ⟨gS K K, trivial⟩ (.int .i64 v1157) (fun _ _ => K) rfl
     ·exact Owe.run K [(63, (.int .i64 v1157))] ⟨gA 17 K K, trivial⟩ (.int .i64 (IntKind.wrap .i64 (v1157 - 16))) (fun _ _ => K) rfl
     ·refine Owe.light K [0, 1, 2] K (all_cons ?_ (all_cons ?_ (all_cons ?_ all_nil)))
      ·rintro ρ' w' hs hah ⟨hvl2247, hs2246⟩
       have hkn : Known ρ' [(3, (pt g9 0)), (64, (.int .i64 (IntKind.wrap .i64 (v1157 - 16))))] := ⟨(hs 3 K).trans K, hah 18 64 K, trivial⟩
       refine Step.known _ hkn ?_
       refine Step.elemA (e := (eInt .u32)) (l := v1156) (m := 64) (g := g9) (T := 91) (E := 81) (x := (.tmp 3)) (ix := (.tmp 64)) (ki := .i64) (iz := (IntKind.wrap .i64 (v1157 - 16))) (i := 1) (d := (some 65)) (k := 19) K rfl K K K K hs2246 rfl hp2149 hq2150 ?_
       exact ⟨rfl, _, updO_known hkn, ⟨g9, 0, rfl, rfl⟩⟩
      ·rintro ρ' w' hs hah ⟨⟨q2249, -⟩, hs2248⟩
       have hkn : Known ρ' [(3, (pt g9 0)), (64, (.int .i64 (IntKind.wrap .i64 (v1157 - 16))))] := ⟨(hs 3 K).trans K, hah 18 64 K, trivial⟩
       refine Step.known _ hkn ?_
       refine Step.elemA (e := (eInt .u32)) (l := v1156) (m := 64) (g := g9) (T := 91) (E := 81) (x := (.tmp 3)) (ix := (.tmp 64)) (ki := .i64) (iz := (IntKind.wrap .i64 (v1157 - 16))) (i := 1) (d := (some 65)) (k := 19) K rfl K K K K hs2248 rfl hp2149 hq2150 ?_
       exact ⟨rfl, _, updO_known hkn, ⟨g9, 0, rfl, rfl⟩⟩
      ·rintro ρ' w' hs hah ⟨⟨q2252, q2253, -⟩, hs2251⟩
       have hkn : Known ρ' [(3, (pt g9 0)), (64, (.int .i64 (IntKind.wrap .i64 (v1157 - 16))))] := ⟨(hs 3 K).trans K, hah 18 64 K, trivial⟩
       refine Step.known _ hkn ?_
       refine Step.elemA (e := (eInt .u32)) (l := v1156) (m := 64) (g := g9) (T := 91) (E := 81) (x := (.tmp 3)) (ix := (.tmp 64)) (ki := .i64) (iz := (IntKind.wrap .i64 (v1157 - 16))) (i := 1) (d := (some 65)) (k := 19) K rfl K K K K hs2251 rfl hp2149 hq2150 ?_
       exact ⟨rfl, _, updO_known hkn, ⟨g9, 0, rfl, rfl⟩⟩
     ·refine Owe.light K [0, 1, 2] K (all_cons ?_ (all_cons ?_ (all_cons ?_ all_nil)))
      ·rintro ρ' w' hs hah ⟨hvl2256, hs2255⟩
       obtain ⟨b2257, o2258, hA2259, e65⟩ := hah 19 65 K
       have hkn : Known ρ' [(65, (.pointer (some ⟨b2257, (o2258 + Int.toNat (IntKind.wrap .i64 (v1157 - 16)) * (eInt .u32).sz), none⟩)))] := ⟨e65, trivial⟩
       refine Step.known _ hkn ?_
       refine Step.cell (t := 81) (x := (.tmp 65)) (b := b2257) (off := (o2258 + Int.toNat (IntKind.wrap .i64 (v1157 - 16)) * (eInt .u32).sz)) (v := (.int .u32 x2148)) (d := (some 66)) (k := 20) K rfl K K (elem_cell (e := (eInt .u32)) (rdt_cells (arrE_rd (SP.get hs2255 (i := 1) rfl)) hA2259 hp2149 hq2150) hx2151 (j := 0) rfl) ?_
       exact ⟨rfl, _, updO_known hkn, rfl⟩
      ·rintro ρ' w' hs hah ⟨⟨q2261, -⟩, hs2260⟩
       obtain ⟨b2263, o2264, hA2265, e65⟩ := hah 19 65 K
       have hkn : Known ρ' [(65, (.pointer (some ⟨b2263, (o2264 + Int.toNat (IntKind.wrap .i64 (v1157 - 16)) * (eInt .u32).sz), none⟩)))] := ⟨e65, trivial⟩
       refine Step.known _ hkn ?_
       refine Step.cell (t := 81) (x := (.tmp 65)) (b := b2263) (off := (o2264 + Int.toNat (IntKind.wrap .i64 (v1157 - 16)) * (eInt .u32).sz)) (v := (.int .u32 x2148)) (d := (some 66)) (k := 20) K rfl K K (elem_cell (e := (eInt .u32)) (rdt_cells (arrE_rd (SP.get hs2260 (i := 1) rfl)) hA2265 hp2149 hq2150) hx2151 (j := 0) rfl) ?_
       exact ⟨rfl, _, updO_known hkn, rfl⟩
      ·rintro ρ' w' hs hah ⟨⟨q2267, q2268, -⟩, hs2266⟩
       obtain ⟨b2270, o2271, hA2272, e65⟩ := hah 19 65 K
       have hkn : Known ρ' [(65, (.pointer (some ⟨b2270, (o2271 + Int.toNat (IntKind.wrap .i64 (v1157 - 16)) * (eInt .u32).sz), none⟩)))] := ⟨e65, trivial⟩
       refine Step.known _ hkn ?_
       refine Step.cell (t := 81) (x := (.tmp 65)) (b := b2270) (off := (o2271 + Int.toNat (IntKind.wrap .i64 (v1157 - 16)) * (eInt .u32).sz)) (v := (.int .u32 x2148)) (d := (some 66)) (k := 20) K rfl K K (elem_cell (e := (eInt .u32)) (rdt_cells (arrE_rd (SP.get hs2266 (i := 1) rfl)) hA2272 hp2149 hq2150) hx2151 (j := 0) rfl) ?_
       exact ⟨rfl, _, updO_known hkn, rfl⟩
     ·exact Owe.run K [(62, (.int .u32 (IntKind.wrap .u32 ((IntKind.wrap .u32 (z2128 + x2134)) + z2142)))), (66, (.int .u32 x2148))] ⟨gA 16 K K, gA 20 K K, trivial⟩ (.int .u32 (IntKind.wrap .u32 ((IntKind.wrap .u32 ((IntKind.wrap .u32 (z2128 + x2134)) + z2142)) + x2148))) (fun _ _ => K) rfl
     ·refine Owe.light K [2] K (all_cons ?_ all_nil)
      ·rintro ρ' w' hs hah ⟨⟨q2274, q2275, -⟩, hs2273⟩
       have hkn : Known ρ' [(3, (pt g9 0)), (46, (.int .i64 v1157))] := ⟨(hs 3 K).trans K, hah 0 46 K, trivial⟩
       refine Step.known _ hkn ?_
       refine Step.elemA (e := (eInt .u32)) (l := v1156) (m := 64) (g := g9) (T := 91) (E := 81) (x := (.tmp 3)) (ix := (.tmp 46)) (ki := .i64) (iz := v1157) (i := 1) (d := (some 68)) (k := 22) K rfl K K K K hs2273 rfl hp2153 hq2154 ?_
       exact ⟨rfl, _, updO_known hkn, ⟨g9, 0, rfl, rfl⟩⟩
     ·refine Owe.heavy K [(2, 3)] K (all_cons ⟨K, K, ?_⟩ all_nil)
      ·rintro ρ' w' hs hah ⟨⟨q2278, q2279, -⟩, hs2277⟩
       obtain ⟨b2281, o2282, hA2283, e68⟩ := hah 22 68 K
       have hkn : Known ρ' [(68, (.pointer (some ⟨b2281, (o2282 + Int.toNat v1157 * (eInt .u32).sz), none⟩))), (67, (.int .u32 (IntKind.wrap .u32 ((IntKind.wrap .u32 ((IntKind.wrap .u32 (z2128 + x2134)) + z2142)) + x2148))))] := ⟨e68, hah 21 67 K, trivial⟩
       refine Step.known _ hkn ?_
       refine Step.storeElemA (e := (eInt .u32)) (t := 81) (x := (.tmp 68)) (y := (.tmp 67)) (l := v1156) (iz := v1157) (m := 64) (g := g9) (b := b2281) (off := o2282) (i := 1) (v := (.int .u32 (IntKind.wrap .u32 ((IntKind.wrap .u32 ((IntKind.wrap .u32 (z2128 + x2134)) + z2142)) + x2148)))) (x' := (IntKind.wrap .u32 ((IntKind.wrap .u32 ((IntKind.wrap .u32 (z2128 + x2134)) + z2142)) + x2148))) (d := none) (k := 23) K rfl hA2283 K K hs2277 rfl rfl hq2154 hp2153 rfl K ?_
       rw [hyl2156]
       intro w2284 (hs2286 : SP [] w0 w2284 [arrE 91 (eInt .u32) g5 64 (List.replicate 64 0), arrE 91 (eInt .u32) g9 64 l2156])
       refine ⟨_, updO_known hkn, trivial, ?_⟩
       exact (And.intro (And.intro q2278 (And.intro q2279 (And.intro rfl (trivial)))) (hs2286))
     ·rintro ρ' w' hs hf ⟨⟨q2288, q2289, q2290, -⟩, hs2287⟩
      refine postKnown [(0, (.slice A2 (List.length p1) c3)), (2, (pt g5 0)), (3, (pt g9 0)), (4, (.int .i64 v1157))] ⟨(hs 0 K).trans K, (hs 2 K).trans K, (hs 3 K).trans K, (hs 4 K).trans K, trivial⟩ ?_
      obtain ⟨w2292, hww2292⟩ : ∃ x, w' = x := ⟨_, rfl⟩
      rw [hww2292] at hs2287 ⊢
      exact ⟨l2156, ⟨K, K, K, K, trivial⟩, SP.sel hs2287 [0, 1] rfl rfl, H⟩
   ·rintro ρ w2010 ⟨v2009, hk, hs2011, H⟩
    unfold L_subwayref02_schedule_k5 at H
    first | refine At.known [(0, (.slice A2 (List.length p1) c3)), (2, (pt g5 0)), (3, (pt g9 0)), (4, (.int .i64 v1157))] hk ?_ | rw [← known_updL (l := [(0, (.slice A2 (List.length p1) c3)), (2, (pt g5 0)), (3, (pt g9 0)), (4, (.int .i64 v1157))]) hk]
    have ha2012 := arrE_len (SP.get hs2011 (i := 0) rfl)
    have ha2013 := arrE_len (SP.get hs2011 (i := 1) rfl)
    refine At.region K K ?_
    refine In.run' 3 (k' := 3) rfl [(7, (.int .i64 v1157)), (8, (.int .i64 (IntKind.wrap .i64 (v1157 + 1)))), (4, (.int .i64 (IntKind.wrap .i64 (v1157 + 1))))] K ?_
    refine In.fin K ?_
    exact ⟨v2009, (IntKind.wrap .i64 (v1157 + 1)), ⟨K, K, K, K, trivial⟩, SP.sel hs2011 [0, 1] rfl rfl, H⟩
  ·have H := cf H hb1729
   refine At.exit K (id := 0) K ?_
   refine At.sq K ?_
   refine At.region K K ?_
   refine In.step (k' := 1) rfl K ?_
   refine Step.loadA (e := (eInt .u32)) (l := v1156) (m := 64) (t := 91) (x := (.tmp 3)) (g := g9) (i := 1) (d := (some 69)) (k := 0) K rfl K hs1155 rfl K K ?_
   refine In.step (k' := 2) rfl K ?_
   refine Step.storeA (e := (eInt .u32)) (l := (List.replicate 64 0)) (l' := v1156) (m := 64) (t := 91) (x := (.tmp 2)) (y := (.tmp 69)) (g := g5) (i := 0) (d := none) (k := 1) K rfl K K ha1728 hs1155 rfl K ?_
   intro w2293 (hs2295 : SP [] w0 w2293 [arrE 91 (eInt .u32) g5 64 v1156, arrE 91 (eInt .u32) g9 64 v1156])
   refine In.fin K ?_
   refine At.ret K ?_
   refine ⟨(.agg (cellsOf (eInt .u32) v1156).toArray), res_1 K (rv_cellA (e := (eInt .u32)) (l := v1156) (a := 2) (t := 91) K (SP.get hs2295 (i := 0) rfl) K K), ?_⟩
   obtain rfl := some_elim H
   exact ⟨rfl, SP.sel hs2295 [] rfl rfl⟩
 ·exact ⟨(List.replicate 64 0), 0, ⟨K, K, K, K, trivial⟩, SP.sel hs12 [0, 1] rfl rfl, H⟩
/-! L_subwayref02_block -/
def L_subwayref02_block_b5 (rec4 : (List Int) → Int → Option ((List Int))) (rec5 : (List Int) → Int → Option ((List Int))) (v1219 : (List Int)) (v2275 : (List Int)) (v2276 : Int) : Option ((List Int)) :=
  (cond (decide (v2276 < 8)) ((idx v2275 v2276).bind fun x2335 => ((idx v1219 v2276).bind fun x2339 => ((idx v2275 v2276).bind fun x2343 => ((some (List.set v2275 (Int.toNat v2276) (IntKind.wrap .u32 (x2335 + x2339)))).bind fun l2347 => (rec5 l2347 (IntKind.wrap .i64 (v2276 + 1))))))) (some (v2275)))
def L_subwayref02_block_l5 (rec4 : (List Int) → Int → Option ((List Int))) (v1219 : (List Int)) : Nat → (List Int) → Int → Option ((List Int))
  | 0, _, _ => none
  | f + 1, v2275, v2276 => L_subwayref02_block_b5 rec4 (L_subwayref02_block_l5 rec4 v1219 f) v1219 v2275 v2276
def L_subwayref02_block_b3 (rec4 : (List Int) → Int → Option ((List Int))) (p1 : (List Int)) (z15 : ((List Int))) (z29 : ((List Int))) (v1219 : (List Int)) (v1220 : Int) : Option ((List Int)) :=
  (cond (decide (v1220 < 64)) ((idx v1219 7).bind fun x1809 => ((idx v1219 4).bind fun x1813 => ((L_subwayref02_great x1813 6 11 25).bind fun z1817 => ((idx v1219 4).bind fun x1823 => ((idx v1219 5).bind fun x1827 => ((idx v1219 4).bind fun x1831 => ((idx v1219 6).bind fun x1835 => ((idx z15 v1220).bind fun x1839 => ((idx z29 v1220).bind fun x1843 => ((idx v1219 0).bind fun x1980 => ((L_subwayref02_great x1980 2 13 22).bind fun z1984 => ((idx v1219 0).bind fun x1990 => ((idx v1219 1).bind fun x1994 => ((idx v1219 0).bind fun x1998 => ((idx v1219 2).bind fun x2002 => ((idx v1219 1).bind fun x2006 => ((idx v1219 2).bind fun x2010 => ((idx v1219 0).bind fun x2131 => ((idx v1219 1).bind fun x2135 => ((idx v1219 2).bind fun x2139 => ((idx v1219 3).bind fun x2143 => ((idx v1219 4).bind fun x2147 => ((idx v1219 5).bind fun x2151 => ((idx v1219 6).bind fun x2155 => (rec4 ([(IntKind.wrap .u32 ((IntKind.wrap .u32 ((IntKind.wrap .u32 ((IntKind.wrap .u32 ((IntKind.wrap .u32 (x1809 + z1817)) + (bXor .u32 (bAnd .u32 x1823 x1827) (bAnd .u32 (bXor .u32 (IntKind.max .u32) x1831) x1835)))) + x1839)) + x1843)) + (IntKind.wrap .u32 (z1984 + (bXor .u32 (bXor .u32 (bAnd .u32 x1990 x1994) (bAnd .u32 x1998 x2002)) (bAnd .u32 x2006 x2010)))))), x2131, x2135, x2139, (IntKind.wrap .u32 (x2143 + (IntKind.wrap .u32 ((IntKind.wrap .u32 ((IntKind.wrap .u32 ((IntKind.wrap .u32 (x1809 + z1817)) + (bXor .u32 (bAnd .u32 x1823 x1827) (bAnd .u32 (bXor .u32 (IntKind.max .u32) x1831) x1835)))) + x1839)) + x1843)))), x2147, x2151, x2155] : List Int) (IntKind.wrap .i64 (v1220 + 1))))))))))))))))))))))))))) (L_subwayref02_block_l5 rec4 v1219 fuel p1 0))
def L_subwayref02_block_l3 (p1 : (List Int)) (z15 : ((List Int))) (z29 : ((List Int))) : Nat → (List Int) → Int → Option ((List Int))
  | 0, _, _ => none
  | f + 1, v1219, v1220 => L_subwayref02_block_b3  (L_subwayref02_block_l3 p1 z15 z29 f) p1 z15 z29 v1219 v1220
def L_subwayref02_block (p1 : (List Int)) (p3 : (List UInt8)) : Option ((List Int)) :=
  ((L_subwayref02_roots ).bind fun z15 => ((chk (Nat.beq (List.length z15) 64)).bind fun _ => ((L_subwayref02_schedule p3).bind fun z29 => ((chk (Nat.beq (List.length z29) 64)).bind fun _ => (L_subwayref02_block_l3 p1 z15 z29 fuel p1 0)))))
set_option maxRecDepth 100000 in
set_option maxHeartbeats 4000000 in
theorem L_subwayref02_block_walk (A4 : Option Addr) (c5 : Nat) (p1 : (List Int)) (p3 : (List UInt8)) (w0 : World) (ha2 : List.length p1 = 8) (hr6 : RdT eU8 w0 A4 c5 p3) (r : ((List Int))) (H : L_subwayref02_block p1 p3 = some r) :
  Calls Tryd.prog 43 #[(.agg (cellsOf (eInt .u32) p1).toArray), (.slice A4 (List.length p3) c5)] w0 (fun e w' => e = .returned (.agg (cellsOf (eInt .u32) r).toArray) ∧ SP [] w0 w' []) := by
 unfold L_subwayref02_block at H
 refine calls_go (n := 102) Tryd.func43 K K K ?_
 have hs0 := SP.start [] w0
 refine At.sq K ?_
 refine At.region K K ?_
 refine In.step (k' := 1) rfl K ?_
 refine Step.boxA (e := (eInt .u32)) (l := p1) (m := 8) (t := 82) (x := (.tmp 0)) (d := (some 2)) (k := 0) K rfl K ha2 K hs0 ?_
 intro g7 w8 (hs10 : SP [] w0 w8 [arrE 82 (eInt .u32) g7 8 p1])
 refine In.step (k' := 2) rfl K ?_
 refine Step.allocA (e := (eInt .u32)) (l := (List.replicate 8 0)) (m := 8) (t := 82) (z := .agg (cellsOf (eInt .u32) (List.replicate 8 0)).toArray) (d := (some 4)) (k := 1) K rfl K rfl rfl K hs10 ?_
 intro g11 w12 (hs14 : SP [] w0 w12 [arrE 82 (eInt .u32) g7 8 p1, arrE 82 (eInt .u32) g11 8 (List.replicate 8 0)])
 refine In.fin K ?_
 refine At.sq K ?_
 refine At.region K K ?_
 obtain ⟨z15, hz16, H⟩ := bind_elim H
 obtain ⟨ha17, H⟩ := chk_elim H
 replace ha17 := Nat.eq_of_beq_eq_true ha17
 refine In.step (k' := 1) rfl K ?_
 refine Step.callF (f := 49) (fo := (.func 49)) (xs := #[]) (tys := #[]) (first := #[]) (captured := #[]) (d := (some 12)) (k := 0) K rfl K K Tryd.call49 (L_subwayref02_roots_walk   w12  z15 hz16) ?_
 rintro e w18 ⟨rfl, hs19⟩
 refine ⟨_, rfl, ?_⟩
 have hs21 : SP [] w0 w18 [arrE 82 (eInt .u32) g7 8 p1, arrE 82 (eInt .u32) g11 8 (List.replicate 8 0)] := SP.call hs14 hs19
 clear hs19
 refine In.step (k' := 2) rfl K ?_
 refine Step.allocA (e := (eInt .u32)) (l := (List.replicate 64 0)) (m := 64) (t := 91) (z := .agg (cellsOf (eInt .u32) (List.replicate 64 0)).toArray) (d := (some 5)) (k := 1) K rfl K rfl rfl K hs21 ?_
 intro g22 w23 (hs25 : SP [] w0 w23 [arrE 82 (eInt .u32) g7 8 p1, arrE 82 (eInt .u32) g11 8 (List.replicate 8 0), arrE 91 (eInt .u32) g22 64 (List.replicate 64 0)])
 refine In.step (k' := 3) rfl K ?_
 refine Step.storeA (e := (eInt .u32)) (l := (List.replicate 64 0)) (l' := z15) (m := 64) (t := 91) (x := (.tmp 5)) (y := (.tmp 12)) (g := g22) (i := 2) (d := none) (k := 2) K rfl K K ha17 hs25 rfl K ?_
 intro w26 (hs28 : SP [] w0 w26 [arrE 82 (eInt .u32) g7 8 p1, arrE 82 (eInt .u32) g11 8 (List.replicate 8 0), arrE 91 (eInt .u32) g22 64 z15])
 refine In.fin K ?_
 refine At.sq K ?_
 refine At.region K K ?_
 refine In.run' 1 (k' := 1) rfl [(13, (.slice A4 (List.length p3) c5))] K ?_
 obtain ⟨z29, hz30, H⟩ := bind_elim H
 obtain ⟨ha31, H⟩ := chk_elim H
 replace ha31 := Nat.eq_of_beq_eq_true ha31
 refine In.step (k' := 2) rfl K ?_
 refine Step.callF (f := 50) (fo := (.func 50)) (xs := #[(.tmp 13)]) (tys := #[50]) (first := #[]) (captured := #[]) (d := (some 14)) (k := 1) K rfl K K Tryd.call50 (L_subwayref02_schedule_walk A4 c5 p3 w26 (RdT.sp hr6 hs28) z29 hz30) ?_
 rintro e w32 ⟨rfl, hs33⟩
 refine ⟨_, rfl, ?_⟩
 have hs35 : SP [] w0 w32 [arrE 82 (eInt .u32) g7 8 p1, arrE 82 (eInt .u32) g11 8 (List.replicate 8 0), arrE 91 (eInt .u32) g22 64 z15] := SP.call hs28 hs33
 clear hs33
 refine In.step (k' := 3) rfl K ?_
 refine Step.allocA (e := (eInt .u32)) (l := (List.replicate 64 0)) (m := 64) (t := 91) (z := .agg (cellsOf (eInt .u32) (List.replicate 64 0)).toArray) (d := (some 6)) (k := 2) K rfl K rfl rfl K hs35 ?_
 intro g36 w37 (hs39 : SP [] w0 w37 [arrE 82 (eInt .u32) g7 8 p1, arrE 82 (eInt .u32) g11 8 (List.replicate 8 0), arrE 91 (eInt .u32) g22 64 z15, arrE 91 (eInt .u32) g36 64 (List.replicate 64 0)])
 refine In.step (k' := 4) rfl K ?_
 refine Step.storeA (e := (eInt .u32)) (l := (List.replicate 64 0)) (l' := z29) (m := 64) (t := 91) (x := (.tmp 6)) (y := (.tmp 14)) (g := g36) (i := 3) (d := none) (k := 3) K rfl K K ha31 hs39 rfl K ?_
 intro w40 (hs42 : SP [] w0 w40 [arrE 82 (eInt .u32) g7 8 p1, arrE 82 (eInt .u32) g11 8 (List.replicate 8 0), arrE 91 (eInt .u32) g22 64 z15, arrE 91 (eInt .u32) g36 64 z29])
 refine In.fin K ?_
 refine At.sq K ?_
 refine At.region K K ?_
 refine In.step (k' := 1) rfl K ?_
 refine Step.loadA (e := (eInt .u32)) (l := p1) (m := 8) (t := 82) (x := (.tmp 2)) (g := g7) (i := 0) (d := (some 15)) (k := 0) K rfl K hs42 rfl K K ?_
 refine In.step (k' := 2) rfl K ?_
 refine Step.allocA (e := (eInt .u32)) (l := (List.replicate 8 0)) (m := 8) (t := 82) (z := .agg (cellsOf (eInt .u32) (List.replicate 8 0)).toArray) (d := (some 7)) (k := 1) K rfl K rfl rfl K hs42 ?_
 intro g43 w44 (hs46 : SP [] w0 w44 [arrE 82 (eInt .u32) g7 8 p1, arrE 82 (eInt .u32) g11 8 (List.replicate 8 0), arrE 91 (eInt .u32) g22 64 z15, arrE 91 (eInt .u32) g36 64 z29, arrE 82 (eInt .u32) g43 8 (List.replicate 8 0)])
 refine In.step (k' := 3) rfl K ?_
 refine Step.storeA (e := (eInt .u32)) (l := (List.replicate 8 0)) (l' := p1) (m := 8) (t := 82) (x := (.tmp 7)) (y := (.tmp 15)) (g := g43) (i := 4) (d := none) (k := 2) K rfl K K ha2 hs46 rfl K ?_
 intro w47 (hs49 : SP [] w0 w47 [arrE 82 (eInt .u32) g7 8 p1, arrE 82 (eInt .u32) g11 8 (List.replicate 8 0), arrE 91 (eInt .u32) g22 64 z15, arrE 91 (eInt .u32) g36 64 z29, arrE 82 (eInt .u32) g43 8 p1])
 refine In.fin K ?_
 refine At.sq K ?_
 refine At.sq K ?_
 refine At.region K K ?_
 refine In.run' 1 (k' := 1) rfl [(8, (.int .i64 0))] K ?_
 refine In.fin K ?_
 refine At.bk K (id := 0) K ?_
 refine At.lp K (fun f4 ρ w => ∃ (v1219 : (List Int)) (v1220 : Int), Known ρ [(2, (pt g7 0)), (4, (pt g11 0)), (5, (pt g22 0)), (6, (pt g36 0)), (7, (pt g43 0)), (8, (.int .i64 v1220))] ∧ SP [] w0 w [arrE 82 (eInt .u32) g7 8 p1, arrE 82 (eInt .u32) g11 8 (List.replicate 8 0), arrE 91 (eInt .u32) g22 64 z15, arrE 91 (eInt .u32) g36 64 z29, arrE 82 (eInt .u32) g43 8 v1219] ∧ L_subwayref02_block_l3 p1 z15 z29 f4 v1219 v1220 = some r) (by rintro ρ w ⟨v1219, v1220, hk, hs, H⟩; cases H) ?_ fuel ?_
 ·rintro f4 ρ w1217 ⟨v1219, v1220, hk, hs1218, H⟩
  refine At.known [(2, (pt g7 0)), (4, (pt g11 0)), (5, (pt g22 0)), (6, (pt g36 0)), (7, (pt g43 0)), (8, (.int .i64 v1220))] hk ?_
  replace H := (show L_subwayref02_block_b3 (L_subwayref02_block_l3 p1 z15 z29 f4) p1 z15 z29 v1219 v1220 = some r from H)
  unfold L_subwayref02_block_b3 at H
  have ha1803 := arrE_len (SP.get hs1218 (i := 0) rfl)
  have ha1804 := arrE_len (SP.get hs1218 (i := 1) rfl)
  have ha1805 := arrE_len (SP.get hs1218 (i := 2) rfl)
  have ha1806 := arrE_len (SP.get hs1218 (i := 3) rfl)
  have ha1807 := arrE_len (SP.get hs1218 (i := 4) rfl)
  refine At.sq K ?_
  refine At.sq K ?_
  refine At.region K K ?_
  refine In.run' 2 (k' := 2) rfl [(16, (.int .i64 v1220)), (17, (.bool (decide (v1220 < 64))))] K ?_
  refine In.fin K ?_
  refine At.cd K (o := (.tmp 17)) K (b := (decide (v1220 < 64))) K (fun hb1808 => ?_) (fun hb1808 => ?_)
  ·have H := ct H hb1808
   refine At.skip K ?_
   refine At.sq K ?_
   refine At.bk K (id := 1) K ?_
   refine At.sq K ?_
   obtain ⟨x1809, hp1810, hq1811, hx1812, H⟩ := idx_elim H
   obtain ⟨x1813, hp1814, hq1815, hx1816, H⟩ := idx_elim H
   obtain ⟨z1817, hz1818, H⟩ := bind_elim H
   obtain ⟨x1823, hp1824, hq1825, hx1826, H⟩ := idx_elim H
   obtain ⟨x1827, hp1828, hq1829, hx1830, H⟩ := idx_elim H
   obtain ⟨x1831, hp1832, hq1833, hx1834, H⟩ := idx_elim H
   obtain ⟨x1835, hp1836, hq1837, hx1838, H⟩ := idx_elim H
   obtain ⟨x1839, hp1840, hq1841, hx1842, H⟩ := idx_elim H
   obtain ⟨x1843, hp1844, hq1845, hx1846, H⟩ := idx_elim H
   refine At.stages K K K K K [GElem0 (some ⟨g43, 0, none⟩) (eInt .u32).sz 7, GEq (.int .u32 x1809), GElem0 (some ⟨g43, 0, none⟩) (eInt .u32).sz 4, GEq (.int .u32 x1813), GEq (.int .u32 z1817), GEq (.int .u32 (IntKind.wrap .u32 (x1809 + z1817))), GElem0 (some ⟨g43, 0, none⟩) (eInt .u32).sz 4, GEq (.int .u32 x1823), GElem0 (some ⟨g43, 0, none⟩) (eInt .u32).sz 5, GEq (.int .u32 x1827), GEq (.int .u32 (bAnd .u32 x1823 x1827)), GElem0 (some ⟨g43, 0, none⟩) (eInt .u32).sz 4, GEq (.int .u32 x1831), GEq (.int .u32 (bXor .u32 (IntKind.max .u32) x1831)), GElem0 (some ⟨g43, 0, none⟩) (eInt .u32).sz 6, GEq (.int .u32 x1835), GEq (.int .u32 (bAnd .u32 (bXor .u32 (IntKind.max .u32) x1831) x1835)), GEq (.int .u32 (bXor .u32 (bAnd .u32 x1823 x1827) (bAnd .u32 (bXor .u32 (IntKind.max .u32) x1831) x1835))), GEq (.int .u32 (IntKind.wrap .u32 ((IntKind.wrap .u32 (x1809 + z1817)) + (bXor .u32 (bAnd .u32 x1823 x1827) (bAnd .u32 (bXor .u32 (IntKind.max .u32) x1831) x1835))))), GEq (.int .i64 v1220), GElem0 (some ⟨g22, 0, none⟩) (eInt .u32).sz v1220, GEq (.int .u32 x1839), GEq (.int .u32 (IntKind.wrap .u32 ((IntKind.wrap .u32 ((IntKind.wrap .u32 (x1809 + z1817)) + (bXor .u32 (bAnd .u32 x1823 x1827) (bAnd .u32 (bXor .u32 (IntKind.max .u32) x1831) x1835)))) + x1839))), GEq (.int .i64 v1220), GElem0 (some ⟨g36, 0, none⟩) (eInt .u32).sz v1220, GEq (.int .u32 x1843), GEq (.int .u32 (IntKind.wrap .u32 ((IntKind.wrap .u32 ((IntKind.wrap .u32 ((IntKind.wrap .u32 (x1809 + z1817)) + (bXor .u32 (bAnd .u32 x1823 x1827) (bAnd .u32 (bXor .u32 (IntKind.max .u32) x1831) x1835)))) + x1839)) + x1843))), GEq (.int .u32 (IntKind.wrap .u32 ((IntKind.wrap .u32 ((IntKind.wrap .u32 ((IntKind.wrap .u32 (x1809 + z1817)) + (bXor .u32 (bAnd .u32 x1823 x1827) (bAnd .u32 (bXor .u32 (IntKind.max .u32) x1831) x1835)))) + x1839)) + x1843)))] [4] [([], fun vs w => VL vs [] ∧ SP [] w0 w [arrE 82 (eInt .u32) g7 8 p1, arrE 82 (eInt .u32) g11 8 (List.replicate 8 0), arrE 91 (eInt .u32) g22 64 z15, arrE 91 (eInt .u32) g36 64 z29, arrE 82 (eInt .u32) g43 8 v1219]), ([4], fun vs w => VL vs [(.int .u32 z1817)] ∧ SP [] w0 w [arrE 82 (eInt .u32) g7 8 p1, arrE 82 (eInt .u32) g11 8 (List.replicate 8 0), arrE 91 (eInt .u32) g22 64 z15, arrE 91 (eInt .u32) g36 64 z29, arrE 82 (eInt .u32) g43 8 v1219])] (N := 28) K ⟨K, Nat.zero_lt_succ _⟩ (show VL [] [] ∧ SP [] w0 w1217.drew [arrE 82 (eInt .u32) g7 8 p1, arrE 82 (eInt .u32) g11 8 (List.replicate 8 0), arrE 91 (eInt .u32) g22 64 z15, arrE 91 (eInt .u32) g36 64 z29, arrE 82 (eInt .u32) g43 8 v1219] from ⟨trivial, SP.drew hs1218⟩) ⟨⟨⟨⟨⟨⟨⟨⟨⟨⟨⟨⟨⟨⟨⟨⟨⟨⟨⟨⟨⟨⟨⟨⟨⟨⟨⟨⟨trivial, ?_⟩, ?_⟩, ?_⟩, ?_⟩, ?_⟩, ?_⟩, ?_⟩, ?_⟩, ?_⟩, ?_⟩, ?_⟩, ?_⟩, ?_⟩, ?_⟩, ?_⟩, ?_⟩, ?_⟩, ?_⟩, ?_⟩, ?_⟩, ?_⟩, ?_⟩, ?_⟩, ?_⟩, ?_⟩, ?_⟩, ?_⟩, ?_⟩ (last := 1) K ?_
   ·refine Owe.light K [0, 1] K (all_cons ?_ (all_cons ?_ all_nil))
    ·rintro ρ' w' hs hah ⟨hvl1852, hs1851⟩
     have hkn : Known ρ' [(7, (pt g43 0))] := ⟨(hs 7 K).trans K, trivial⟩
     refine Step.known _ hkn ?_
     refine Step.elemA (e := (eInt .u32)) (l := v1219) (m := 8) (g := g43) (T := 82) (E := 81) (x := (.tmp 7)) (ix := (.const (.int .i64 (7)))) (ki := .i64) (iz := 7) (i := 4) (d := (some 20)) (k := 0) K rfl K K K K hs1851 rfl hp1810 hq1811 ?_
     exact ⟨rfl, _, updO_known hkn, ⟨g43, 0, rfl, rfl⟩⟩
    ·rintro ρ' w' hs hah ⟨⟨q1854, -⟩, hs1853⟩
     have hkn : Known ρ' [(7, (pt g43 0))] := ⟨(hs 7 K).trans K, trivial⟩
     refine Step.known _ hkn ?_
     refine Step.elemA (e := (eInt .u32)) (l := v1219) (m := 8) (g := g43) (T := 82) (E := 81) (x := (.tmp 7)) (ix := (.const (.int .i64 (7)))) (ki := .i64) (iz := 7) (i := 4) (d := (some 20)) (k := 0) K rfl K K K K hs1853 rfl hp1810 hq1811 ?_
     exact ⟨rfl, _, updO_known hkn, ⟨g43, 0, rfl, rfl⟩⟩
   ·refine Owe.light K [0, 1] K (all_cons ?_ (all_cons ?_ all_nil))
    ·rintro ρ' w' hs hah ⟨hvl1857, hs1856⟩
     obtain ⟨b1858, o1859, hA1860, e20⟩ := hah 0 20 K
     have hkn : Known ρ' [(20, (.pointer (some ⟨b1858, (o1859 + Int.toNat 7 * (eInt .u32).sz), none⟩)))] := ⟨e20, trivial⟩
     refine Step.known _ hkn ?_
     refine Step.cell (t := 81) (x := (.tmp 20)) (b := b1858) (off := (o1859 + Int.toNat 7 * (eInt .u32).sz)) (v := (.int .u32 x1809)) (d := (some 21)) (k := 1) K rfl K K (elem_cell (e := (eInt .u32)) (rdt_cells (arrE_rd (SP.get hs1856 (i := 4) rfl)) hA1860 hp1810 hq1811) hx1812 (j := 0) rfl) ?_
     exact ⟨rfl, _, updO_known hkn, rfl⟩
    ·rintro ρ' w' hs hah ⟨⟨q1862, -⟩, hs1861⟩
     obtain ⟨b1864, o1865, hA1866, e20⟩ := hah 0 20 K
     have hkn : Known ρ' [(20, (.pointer (some ⟨b1864, (o1865 + Int.toNat 7 * (eInt .u32).sz), none⟩)))] := ⟨e20, trivial⟩
     refine Step.known _ hkn ?_
     refine Step.cell (t := 81) (x := (.tmp 20)) (b := b1864) (off := (o1865 + Int.toNat 7 * (eInt .u32).sz)) (v := (.int .u32 x1809)) (d := (some 21)) (k := 1) K rfl K K (elem_cell (e := (eInt .u32)) (rdt_cells (arrE_rd (SP.get hs1861 (i := 4) rfl)) hA1866 hp1810 hq1811) hx1812 (j := 0) rfl) ?_
     exact ⟨rfl, _, updO_known hkn, rfl⟩
   ·refine Owe.light K [0] K (all_cons ?_ all_nil)
    ·rintro ρ' w' hs hah ⟨hvl1868, hs1867⟩
     have hkn : Known ρ' [(7, (pt g43 0))] := ⟨(hs 7 K).trans K, trivial⟩
     refine Step.known _ hkn ?_
     refine Step.elemA (e := (eInt .u32)) (l := v1219) (m := 8) (g := g43) (T := 82) (E := 81) (x := (.tmp 7)) (ix := (.const (.int .i64 (4)))) (ki := .i64) (iz := 4) (i := 4) (d := (some 22)) (k := 2) K rfl K K K K hs1867 rfl hp1814 hq1815 ?_
     exact ⟨rfl, _, updO_known hkn, ⟨g43, 0, rfl, rfl⟩⟩
   ·refine Owe.light K [0] K (all_cons ?_ all_nil)
    ·rintro ρ' w' hs hah ⟨hvl1870, hs1869⟩
     obtain ⟨b1871, o1872, hA1873, e22⟩ := hah 2 22 K
     have hkn : Known ρ' [(22, (.pointer (some ⟨b1871, (o1872 + Int.toNat 4 * (eInt .u32).sz), none⟩)))] := ⟨e22, trivial⟩
     refine Step.known _ hkn ?_
     refine Step.cell (t := 81) (x := (.tmp 22)) (b := b1871) (off := (o1872 + Int.toNat 4 * (eInt .u32).sz)) (v := (.int .u32 x1813)) (d := (some 23)) (k := 3) K rfl K K (elem_cell (e := (eInt .u32)) (rdt_cells (arrE_rd (SP.get hs1869 (i := 4) rfl)) hA1873 hp1814 hq1815) hx1816 (j := 0) rfl) ?_
     exact ⟨rfl, _, updO_known hkn, rfl⟩
   ·refine Owe.heavy K [(0, 1)] K (all_cons ⟨K, K, ?_⟩ all_nil)
    ·rintro ρ' w' hs hah ⟨hvl1875, hs1874⟩
     have hkn : Known ρ' [(23, (.int .u32 x1813))] := ⟨hah 3 23 K, trivial⟩
     refine Step.known _ hkn ?_
     refine Step.callF (f := 51) (fo := (.func 51)) (xs := #[(.tmp 23), (.const (.int .i64 (6))), (.const (.int .i64 (11))), (.const (.int .i64 (25)))]) (tys := #[81, 3, 3, 3]) (first := #[]) (captured := #[]) (d := (some 24)) (k := 4) K rfl K K Tryd.call51 (L_subwayref02_great_walk  x1813 6 11 25 w'  z1817 hz1818) ?_
     rintro e w1876 ⟨rfl, hs1877⟩
     refine ⟨_, rfl, ?_⟩
     have hs1879 : SP [] w0 w1876 [arrE 82 (eInt .u32) g7 8 p1, arrE 82 (eInt .u32) g11 8 (List.replicate 8 0), arrE 91 (eInt .u32) g22 64 z15, arrE 91 (eInt .u32) g36 64 z29, arrE 82 (eInt .u32) g43 8 v1219] := SP.call hs1874 hs1877
     clear hs1877
     refine ⟨_, updO_known hkn, rfl, ?_⟩
     exact (And.intro (And.intro rfl (trivial)) (hs1879))
   ·exact Owe.run K [(21, (.int .u32 x1809)), (24, (.int .u32 z1817))] ⟨gA 1 K K, gA 4 K K, trivial⟩ (.int .u32 (IntKind.wrap .u32 (x1809 + z1817))) (fun _ _ => K) rfl
   ·refine Owe.light K [0, 1] K (all_cons ?_ (all_cons ?_ all_nil))
    ·rintro ρ' w' hs hah ⟨hvl1881, hs1880⟩
     have hkn : Known ρ' [(7, (pt g43 0))] := ⟨(hs 7 K).trans K, trivial⟩
     refine Step.known _ hkn ?_
     refine Step.elemA (e := (eInt .u32)) (l := v1219) (m := 8) (g := g43) (T := 82) (E := 81) (x := (.tmp 7)) (ix := (.const (.int .i64 (4)))) (ki := .i64) (iz := 4) (i := 4) (d := (some 26)) (k := 6) K rfl K K K K hs1880 rfl hp1824 hq1825 ?_
     exact ⟨rfl, _, updO_known hkn, ⟨g43, 0, rfl, rfl⟩⟩
    ·rintro ρ' w' hs hah ⟨⟨q1883, -⟩, hs1882⟩
     have hkn : Known ρ' [(7, (pt g43 0))] := ⟨(hs 7 K).trans K, trivial⟩
     refine Step.known _ hkn ?_
     refine Step.elemA (e := (eInt .u32)) (l := v1219) (m := 8) (g := g43) (T := 82) (E := 81) (x := (.tmp 7)) (ix := (.const (.int .i64 (4)))) (ki := .i64) (iz := 4) (i := 4) (d := (some 26)) (k := 6) K rfl K K K K hs1882 rfl hp1824 hq1825 ?_
     exact ⟨rfl, _, updO_known hkn, ⟨g43, 0, rfl, rfl⟩⟩
   ·refine Owe.light K [0, 1] K (all_cons ?_ (all_cons ?_ all_nil))
    ·rintro ρ' w' hs hah ⟨hvl1886, hs1885⟩
     obtain ⟨b1887, o1888, hA1889, e26⟩ := hah 6 26 K
     have hkn : Known ρ' [(26, (.pointer (some ⟨b1887, (o1888 + Int.toNat 4 * (eInt .u32).sz), none⟩)))] := ⟨e26, trivial⟩
     refine Step.known _ hkn ?_
     refine Step.cell (t := 81) (x := (.tmp 26)) (b := b1887) (off := (o1888 + Int.toNat 4 * (eInt .u32).sz)) (v := (.int .u32 x1823)) (d := (some 27)) (k := 7) K rfl K K (elem_cell (e := (eInt .u32)) (rdt_cells (arrE_rd (SP.get hs1885 (i := 4) rfl)) hA1889 hp1824 hq1825) hx1826 (j := 0) rfl) ?_
     exact ⟨rfl, _, updO_known hkn, rfl⟩
    ·rintro ρ' w' hs hah ⟨⟨q1891, -⟩, hs1890⟩
     obtain ⟨b1893, o1894, hA1895, e26⟩ := hah 6 26 K
     have hkn : Known ρ' [(26, (.pointer (some ⟨b1893, (o1894 + Int.toNat 4 * (eInt .u32).sz), none⟩)))] := ⟨e26, trivial⟩
     refine Step.known _ hkn ?_
     refine Step.cell (t := 81) (x := (.tmp 26)) (b := b1893) (off := (o1894 + Int.toNat 4 * (eInt .u32).sz)) (v := (.int .u32 x1823)) (d := (some 27)) (k := 7) K rfl K K (elem_cell (e := (eInt .u32)) (rdt_cells (arrE_rd (SP.get hs1890 (i := 4) rfl)) hA1895 hp1824 hq1825) hx1826 (j := 0) rfl) ?_
     exact ⟨rfl, _, updO_known hkn, rfl⟩
   ·refine Owe.light K [0, 1] K (all_cons ?_ (all_cons ?_ all_nil))
    ·rintro ρ' w' hs hah ⟨hvl1897, hs1896⟩
     have hkn : Known ρ' [(7, (pt g43 0))] := ⟨(hs 7 K).trans K, trivial⟩
     refine Step.known _ hkn ?_
     refine Step.elemA (e := (eInt .u32)) (l := v1219) (m := 8) (g := g43) (T := 82) (E := 81) (x := (.tmp 7)) (ix := (.const (.int .i64 (5)))) (ki := .i64) (iz := 5) (i := 4) (d := (some 28)) (k := 8) K rfl K K K K hs1896 rfl hp1828 hq1829 ?_
     exact ⟨rfl, _, updO_known hkn, ⟨g43, 0, rfl, rfl⟩⟩
    ·rintro ρ' w' hs hah ⟨⟨q1899, -⟩, hs1898⟩
     have hkn : Known ρ' [(7, (pt g43 0))] := ⟨(hs 7 K).trans K, trivial⟩
     refine Step.known _ hkn ?_
     refine Step.elemA (e := (eInt .u32)) (l := v1219) (m := 8) (g := g43) (T := 82) (E := 81) (x := (.tmp 7)) (ix := (.const (.int .i64 (5)))) (ki := .i64) (iz := 5) (i := 4) (d := (some 28)) (k := 8) K rfl K K K K hs1898 rfl hp1828 hq1829 ?_
     exact ⟨rfl, _, updO_known hkn, ⟨g43, 0, rfl, rfl⟩⟩
   ·refine Owe.light K [0, 1] K (all_cons ?_ (all_cons ?_ all_nil))
    ·rintro ρ' w' hs hah ⟨hvl1902, hs1901⟩
     obtain ⟨b1903, o1904, hA1905, e28⟩ := hah 8 28 K
     have hkn : Known ρ' [(28, (.pointer (some ⟨b1903, (o1904 + Int.toNat 5 * (eInt .u32).sz), none⟩)))] := ⟨e28, trivial⟩
     refine Step.known _ hkn ?_
     refine Step.cell (t := 81) (x := (.tmp 28)) (b := b1903) (off := (o1904 + Int.toNat 5 * (eInt .u32).sz)) (v := (.int .u32 x1827)) (d := (some 29)) (k := 9) K rfl K K (elem_cell (e := (eInt .u32)) (rdt_cells (arrE_rd (SP.get hs1901 (i := 4) rfl)) hA1905 hp1828 hq1829) hx1830 (j := 0) rfl) ?_
     exact ⟨rfl, _, updO_known hkn, rfl⟩
    ·rintro ρ' w' hs hah ⟨⟨q1907, -⟩, hs1906⟩
     obtain ⟨b1909, o1910, hA1911, e28⟩ := hah 8 28 K
     have hkn : Known ρ' [(28, (.pointer (some ⟨b1909, (o1910 + Int.toNat 5 * (eInt .u32).sz), none⟩)))] := ⟨e28, trivial⟩
     refine Step.known _ hkn ?_
     refine Step.cell (t := 81) (x := (.tmp 28)) (b := b1909) (off := (o1910 + Int.toNat 5 * (eInt .u32).sz)) (v := (.int .u32 x1827)) (d := (some 29)) (k := 9) K rfl K K (elem_cell (e := (eInt .u32)) (rdt_cells (arrE_rd (SP.get hs1906 (i := 4) rfl)) hA1911 hp1828 hq1829) hx1830 (j := 0) rfl) ?_
     exact ⟨rfl, _, updO_known hkn, rfl⟩
   ·exact Owe.run K [(27, (.int .u32 x1823)), (29, (.int .u32 x1827))] ⟨gA 7 K K, gA 9 K K, trivial⟩ (.int .u32 (bAnd .u32 x1823 x1827)) (fun _ _ => K) rfl
   ·refine Owe.light K [0, 1] K (all_cons ?_ (all_cons ?_ all_nil))
    ·rintro ρ' w' hs hah ⟨hvl1913, hs1912⟩
     have hkn : Known ρ' [(7, (pt g43 0))] := ⟨(hs 7 K).trans K, trivial⟩
     refine Step.known _ hkn ?_
     refine Step.elemA (e := (eInt .u32)) (l := v1219) (m := 8) (g := g43) (T := 82) (E := 81) (x := (.tmp 7)) (ix := (.const (.int .i64 (4)))) (ki := .i64) (iz := 4) (i := 4) (d := (some 31)) (k := 11) K rfl K K K K hs1912 rfl hp1832 hq1833 ?_
     exact ⟨rfl, _, updO_known hkn, ⟨g43, 0, rfl, rfl⟩⟩
    ·rintro ρ' w' hs hah ⟨⟨q1915, -⟩, hs1914⟩
     have hkn : Known ρ' [(7, (pt g43 0))] := ⟨(hs 7 K).trans K, trivial⟩
     refine Step.known _ hkn ?_
     refine Step.elemA (e := (eInt .u32)) (l := v1219) (m := 8) (g := g43) (T := 82) (E := 81) (x := (.tmp 7)) (ix := (.const (.int .i64 (4)))) (ki := .i64) (iz := 4) (i := 4) (d := (some 31)) (k := 11) K rfl K K K K hs1914 rfl hp1832 hq1833 ?_
     exact ⟨rfl, _, updO_known hkn, ⟨g43, 0, rfl, rfl⟩⟩
   ·refine Owe.light K [0, 1] K (all_cons ?_ (all_cons ?_ all_nil))
    ·rintro ρ' w' hs hah ⟨hvl1918, hs1917⟩
     obtain ⟨b1919, o1920, hA1921, e31⟩ := hah 11 31 K
     have hkn : Known ρ' [(31, (.pointer (some ⟨b1919, (o1920 + Int.toNat 4 * (eInt .u32).sz), none⟩)))] := ⟨e31, trivial⟩
     refine Step.known _ hkn ?_
     refine Step.cell (t := 81) (x := (.tmp 31)) (b := b1919) (off := (o1920 + Int.toNat 4 * (eInt .u32).sz)) (v := (.int .u32 x1831)) (d := (some 32)) (k := 12) K rfl K K (elem_cell (e := (eInt .u32)) (rdt_cells (arrE_rd (SP.get hs1917 (i := 4) rfl)) hA1921 hp1832 hq1833) hx1834 (j := 0) rfl) ?_
     exact ⟨rfl, _, updO_known hkn, rfl⟩
    ·rintro ρ' w' hs hah ⟨⟨q1923, -⟩, hs1922⟩
     obtain ⟨b1925, o1926, hA1927, e31⟩ := hah 11 31 K
     have hkn : Known ρ' [(31, (.pointer (some ⟨b1925, (o1926 + Int.toNat 4 * (eInt .u32).sz), none⟩)))] := ⟨e31, trivial⟩
     refine Step.known _ hkn ?_
     refine Step.cell (t := 81) (x := (.tmp 31)) (b := b1925) (off := (o1926 + Int.toNat 4 * (eInt .u32).sz)) (v := (.int .u32 x1831)) (d := (some 32)) (k := 12) K rfl K K (elem_cell (e := (eInt .u32)) (rdt_cells (arrE_rd (SP.get hs1922 (i := 4) rfl)) hA1927 hp1832 hq1833) hx1834 (j := 0) rfl) ?_
     exact ⟨rfl, _, updO_known hkn, rfl⟩
   ·exact Owe.run K [(32, (.int .u32 x1831))] ⟨gA 12 K K, trivial⟩ (.int .u32 (bXor .u32 (IntKind.max .u32) x1831)) (fun _ _ => K) rfl
   ·refine Owe.light K [0, 1] K (all_cons ?_ (all_cons ?_ all_nil))
    ·rintro ρ' w' hs hah ⟨hvl1929, hs1928⟩
     have hkn : Known ρ' [(7, (pt g43 0))] := ⟨(hs 7 K).trans K, trivial⟩
     refine Step.known _ hkn ?_
     refine Step.elemA (e := (eInt .u32)) (l := v1219) (m := 8) (g := g43) (T := 82) (E := 81) (x := (.tmp 7)) (ix := (.const (.int .i64 (6)))) (ki := .i64) (iz := 6) (i := 4) (d := (some 34)) (k := 14) K rfl K K K K hs1928 rfl hp1836 hq1837 ?_
     exact ⟨rfl, _, updO_known hkn, ⟨g43, 0, rfl, rfl⟩⟩
    ·rintro ρ' w' hs hah ⟨⟨q1931, -⟩, hs1930⟩
     have hkn : Known ρ' [(7, (pt g43 0))] := ⟨(hs 7 K).trans K, trivial⟩
     refine Step.known _ hkn ?_
     refine Step.elemA (e := (eInt .u32)) (l := v1219) (m := 8) (g := g43) (T := 82) (E := 81) (x := (.tmp 7)) (ix := (.const (.int .i64 (6)))) (ki := .i64) (iz := 6) (i := 4) (d := (some 34)) (k := 14) K rfl K K K K hs1930 rfl hp1836 hq1837 ?_
     exact ⟨rfl, _, updO_known hkn, ⟨g43, 0, rfl, rfl⟩⟩
   ·refine Owe.light K [0, 1] K (all_cons ?_ (all_cons ?_ all_nil))
    ·rintro ρ' w' hs hah ⟨hvl1934, hs1933⟩
     obtain ⟨b1935, o1936, hA1937, e34⟩ := hah 14 34 K
     have hkn : Known ρ' [(34, (.pointer (some ⟨b1935, (o1936 + Int.toNat 6 * (eInt .u32).sz), none⟩)))] := ⟨e34, trivial⟩
     refine Step.known _ hkn ?_
     refine Step.cell (t := 81) (x := (.tmp 34)) (b := b1935) (off := (o1936 + Int.toNat 6 * (eInt .u32).sz)) (v := (.int .u32 x1835)) (d := (some 35)) (k := 15) K rfl K K (elem_cell (e := (eInt .u32)) (rdt_cells (arrE_rd (SP.get hs1933 (i := 4) rfl)) hA1937 hp1836 hq1837) hx1838 (j := 0) rfl) ?_
     exact ⟨rfl, _, updO_known hkn, rfl⟩
    ·rintro ρ' w' hs hah ⟨⟨q1939, -⟩, hs1938⟩
     obtain ⟨b1941, o1942, hA1943, e34⟩ := hah 14 34 K
     have hkn : Known ρ' [(34, (.pointer (some ⟨b1941, (o1942 + Int.toNat 6 * (eInt .u32).sz), none⟩)))] := ⟨e34, trivial⟩
     refine Step.known _ hkn ?_
     refine Step.cell (t := 81) (x := (.tmp 34)) (b := b1941) (off := (o1942 + Int.toNat 6 * (eInt .u32).sz)) (v := (.int .u32 x1835)) (d := (some 35)) (k := 15) K rfl K K (elem_cell (e := (eInt .u32)) (rdt_cells (arrE_rd (SP.get hs1938 (i := 4) rfl)) hA1943 hp1836 hq1837) hx1838 (j := 0) rfl) ?_
     exact ⟨rfl, _, updO_known hkn, rfl⟩
   ·exact Owe.run K [(33, (.int .u32 (bXor .u32 (IntKind.max .u32) x1831))), (35, (.int .u32 x1835))] ⟨gA 13 K K, gA 15 K K, trivial⟩ (.int .u32 (bAnd .u32 (bXor .u32 (IntKind.max .u32) x1831) x1835)) (fun _ _ => K) rfl
   ·exact Owe.run K [(30, (.int .u32 (bAnd .u32 x1823 x1827))), (36, (.int .u32 (bAnd .u32 (bXor .u32 (IntKind.max .u32) x1831) x1835)))] ⟨gA 10 K K, gA 16 K K, trivial⟩ (.int .u32 (bXor .u32 (bAnd .u32 x1823 x1827) (bAnd .u32 (bXor .u32 (IntKind.max .u32) x1831) x1835))) (fun _ _ => K) rfl
   ·exact Owe.run K [(25, (.int .u32 (IntKind.wrap .u32 (x1809 + z1817)))), (37, (.int .u32 (bXor .u32 (bAnd .u32 x1823 x1827) (bAnd .u32 (bXor .u32 (IntKind.max .u32) x1831) x1835))))] ⟨gA 5 K K, gA 17 K K, trivial⟩ (.int .u32 (IntKind.wrap .u32 ((IntKind.wrap .u32 (x1809 + z1817)) + (bXor .u32 (bAnd .u32 x1823 x1827) (bAnd .u32 (bXor .u32 (IntKind.max .u32) x1831) x1835))))) (fun _ _ => K) rfl
   ·exact Owe.run K [(8, (.int .i64 v1220))] ⟨gS K K, trivial⟩ (.int .i64 v1220) (fun _ _ => K) rfl
   ·refine Owe.light K [0, 1] K (all_cons ?_ (all_cons ?_ all_nil))
    ·rintro ρ' w' hs hah ⟨hvl1945, hs1944⟩
     have hkn : Known ρ' [(5, (pt g22 0)), (39, (.int .i64 v1220))] := ⟨(hs 5 K).trans K, hah 19 39 K, trivial⟩
     refine Step.known _ hkn ?_
     refine Step.elemA (e := (eInt .u32)) (l := z15) (m := 64) (g := g22) (T := 91) (E := 81) (x := (.tmp 5)) (ix := (.tmp 39)) (ki := .i64) (iz := v1220) (i := 2) (d := (some 40)) (k := 20) K rfl K K K K hs1944 rfl hp1840 hq1841 ?_
     exact ⟨rfl, _, updO_known hkn, ⟨g22, 0, rfl, rfl⟩⟩
    ·rintro ρ' w' hs hah ⟨⟨q1947, -⟩, hs1946⟩
     have hkn : Known ρ' [(5, (pt g22 0)), (39, (.int .i64 v1220))] := ⟨(hs 5 K).trans K, hah 19 39 K, trivial⟩
     refine Step.known _ hkn ?_
     refine Step.elemA (e := (eInt .u32)) (l := z15) (m := 64) (g := g22) (T := 91) (E := 81) (x := (.tmp 5)) (ix := (.tmp 39)) (ki := .i64) (iz := v1220) (i := 2) (d := (some 40)) (k := 20) K rfl K K K K hs1946 rfl hp1840 hq1841 ?_
     exact ⟨rfl, _, updO_known hkn, ⟨g22, 0, rfl, rfl⟩⟩
   ·refine Owe.light K [0, 1] K (all_cons ?_ (all_cons ?_ all_nil))
    ·rintro ρ' w' hs hah ⟨hvl1950, hs1949⟩
     obtain ⟨b1951, o1952, hA1953, e40⟩ := hah 20 40 K
     have hkn : Known ρ' [(40, (.pointer (some ⟨b1951, (o1952 + Int.toNat v1220 * (eInt .u32).sz), none⟩)))] := ⟨e40, trivial⟩
     refine Step.known _ hkn ?_
     refine Step.cell (t := 81) (x := (.tmp 40)) (b := b1951) (off := (o1952 + Int.toNat v1220 * (eInt .u32).sz)) (v := (.int .u32 x1839)) (d := (some 41)) (k := 21) K rfl K K (elem_cell (e := (eInt .u32)) (rdt_cells (arrE_rd (SP.get hs1949 (i := 2) rfl)) hA1953 hp1840 hq1841) hx1842 (j := 0) rfl) ?_
     exact ⟨rfl, _, updO_known hkn, rfl⟩
    ·rintro ρ' w' hs hah ⟨⟨q1955, -⟩, hs1954⟩
     obtain ⟨b1957, o1958, hA1959, e40⟩ := hah 20 40 K
     have hkn : Known ρ' [(40, (.pointer (some ⟨b1957, (o1958 + Int.toNat v1220 * (eInt .u32).sz), none⟩)))] := ⟨e40, trivial⟩
     refine Step.known _ hkn ?_
     refine Step.cell (t := 81) (x := (.tmp 40)) (b := b1957) (off := (o1958 + Int.toNat v1220 * (eInt .u32).sz)) (v := (.int .u32 x1839)) (d := (some 41)) (k := 21) K rfl K K (elem_cell (e := (eInt .u32)) (rdt_cells (arrE_rd (SP.get hs1954 (i := 2) rfl)) hA1959 hp1840 hq1841) hx1842 (j := 0) rfl) ?_
     exact ⟨rfl, _, updO_known hkn, rfl⟩
   ·exact Owe.run K [(38, (.int .u32 (IntKind.wrap .u32 ((IntKind.wrap .u32 (x1809 + z1817)) + (bXor .u32 (bAnd .u32 x1823 x1827) (bAnd .u32 (bXor .u32 (IntKind.max .u32) x1831) x1835)))))), (41, (.int .u32 x1839))] ⟨gA 18 K K, gA 21 K K, trivial⟩ (.int .u32 (IntKind.wrap .u32 ((IntKind.wrap .u32 ((IntKind.wrap .u32 (x1809 + z1817)) + (bXor .u32 (bAnd .u32 x1823 x1827) (bAnd .u32 (bXor .u32 (IntKind.max .u32) x1831) x1835)))) + x1839))) (fun _ _ => K) rfl
   ·exact Owe.run K [(8, (.int .i64 v1220))] ⟨gS K K, trivial⟩ (.int .i64 v1220) (fun _ _ => K) rfl
   ·refine Owe.light K [0, 1] K (all_cons ?_ (all_cons ?_ all_nil))
    ·rintro ρ' w' hs hah ⟨hvl1961, hs1960⟩
     have hkn : Known ρ' [(6, (pt g36 0)), (43, (.int .i64 v1220))] := ⟨(hs 6 K).trans K, hah 23 43 K, trivial⟩
     refine Step.known _ hkn ?_
     refine Step.elemA (e := (eInt .u32)) (l := z29) (m := 64) (g := g36) (T := 91) (E := 81) (x := (.tmp 6)) (ix := (.tmp 43)) (ki := .i64) (iz := v1220) (i := 3) (d := (some 44)) (k := 24) K rfl K K K K hs1960 rfl hp1844 hq1845 ?_
     exact ⟨rfl, _, updO_known hkn, ⟨g36, 0, rfl, rfl⟩⟩
    ·rintro ρ' w' hs hah ⟨⟨q1963, -⟩, hs1962⟩
     have hkn : Known ρ' [(6, (pt g36 0)), (43, (.int .i64 v1220))] := ⟨(hs 6 K).trans K, hah 23 43 K, trivial⟩
     refine Step.known _ hkn ?_
     refine Step.elemA (e := (eInt .u32)) (l := z29) (m := 64) (g := g36) (T := 91) (E := 81) (x := (.tmp 6)) (ix := (.tmp 43)) (ki := .i64) (iz := v1220) (i := 3) (d := (some 44)) (k := 24) K rfl K K K K hs1962 rfl hp1844 hq1845 ?_
     exact ⟨rfl, _, updO_known hkn, ⟨g36, 0, rfl, rfl⟩⟩
   ·refine Owe.light K [0, 1] K (all_cons ?_ (all_cons ?_ all_nil))
    ·rintro ρ' w' hs hah ⟨hvl1966, hs1965⟩
     obtain ⟨b1967, o1968, hA1969, e44⟩ := hah 24 44 K
     have hkn : Known ρ' [(44, (.pointer (some ⟨b1967, (o1968 + Int.toNat v1220 * (eInt .u32).sz), none⟩)))] := ⟨e44, trivial⟩
     refine Step.known _ hkn ?_
     refine Step.cell (t := 81) (x := (.tmp 44)) (b := b1967) (off := (o1968 + Int.toNat v1220 * (eInt .u32).sz)) (v := (.int .u32 x1843)) (d := (some 45)) (k := 25) K rfl K K (elem_cell (e := (eInt .u32)) (rdt_cells (arrE_rd (SP.get hs1965 (i := 3) rfl)) hA1969 hp1844 hq1845) hx1846 (j := 0) rfl) ?_
     exact ⟨rfl, _, updO_known hkn, rfl⟩
    ·rintro ρ' w' hs hah ⟨⟨q1971, -⟩, hs1970⟩
     obtain ⟨b1973, o1974, hA1975, e44⟩ := hah 24 44 K
     have hkn : Known ρ' [(44, (.pointer (some ⟨b1973, (o1974 + Int.toNat v1220 * (eInt .u32).sz), none⟩)))] := ⟨e44, trivial⟩
     refine Step.known _ hkn ?_
     refine Step.cell (t := 81) (x := (.tmp 44)) (b := b1973) (off := (o1974 + Int.toNat v1220 * (eInt .u32).sz)) (v := (.int .u32 x1843)) (d := (some 45)) (k := 25) K rfl K K (elem_cell (e := (eInt .u32)) (rdt_cells (arrE_rd (SP.get hs1970 (i := 3) rfl)) hA1975 hp1844 hq1845) hx1846 (j := 0) rfl) ?_
     exact ⟨rfl, _, updO_known hkn, rfl⟩
   ·exact Owe.run K [(42, (.int .u32 (IntKind.wrap .u32 ((IntKind.wrap .u32 ((IntKind.wrap .u32 (x1809 + z1817)) + (bXor .u32 (bAnd .u32 x1823 x1827) (bAnd .u32 (bXor .u32 (IntKind.max .u32) x1831) x1835)))) + x1839)))), (45, (.int .u32 x1843))] ⟨gA 22 K K, gA 25 K K, trivial⟩ (.int .u32 (IntKind.wrap .u32 ((IntKind.wrap .u32 ((IntKind.wrap .u32 ((IntKind.wrap .u32 (x1809 + z1817)) + (bXor .u32 (bAnd .u32 x1823 x1827) (bAnd .u32 (bXor .u32 (IntKind.max .u32) x1831) x1835)))) + x1839)) + x1843))) (fun _ _ => K) rfl
   ·exact Owe.run K [(46, (.int .u32 (IntKind.wrap .u32 ((IntKind.wrap .u32 ((IntKind.wrap .u32 ((IntKind.wrap .u32 (x1809 + z1817)) + (bXor .u32 (bAnd .u32 x1823 x1827) (bAnd .u32 (bXor .u32 (IntKind.max .u32) x1831) x1835)))) + x1839)) + x1843))))] ⟨gA 26 K K, trivial⟩ (.int .u32 (IntKind.wrap .u32 ((IntKind.wrap .u32 ((IntKind.wrap .u32 ((IntKind.wrap .u32 (x1809 + z1817)) + (bXor .u32 (bAnd .u32 x1823 x1827) (bAnd .u32 (bXor .u32 (IntKind.max .u32) x1831) x1835)))) + x1839)) + x1843))) (fun _ _ => K) rfl
   ·rintro ρ' w' hs hf ⟨⟨q1977, -⟩, hs1976⟩
    refine postKnown [(2, (pt g7 0)), (4, (pt g11 0)), (5, (pt g22 0)), (6, (pt g36 0)), (7, (pt g43 0)), (8, (.int .i64 v1220)), (9, (.int .u32 (IntKind.wrap .u32 ((IntKind.wrap .u32 ((IntKind.wrap .u32 ((IntKind.wrap .u32 (x1809 + z1817)) + (bXor .u32 (bAnd .u32 x1823 x1827) (bAnd .u32 (bXor .u32 (IntKind.max .u32) x1831) x1835)))) + x1839)) + x1843))))] ⟨(hs 2 K).trans K, (hs 4 K).trans K, (hs 5 K).trans K, (hs 6 K).trans K, (hs 7 K).trans K, (hs 8 K).trans K, hf 27 9 K, trivial⟩ ?_
    obtain ⟨w1979, hww1979⟩ : ∃ x, w' = x := ⟨_, rfl⟩
    rw [hww1979] at hs1976 ⊢
    refine At.sq K ?_
    obtain ⟨x1980, hp1981, hq1982, hx1983, H⟩ := idx_elim H
    obtain ⟨z1984, hz1985, H⟩ := bind_elim H
    obtain ⟨x1990, hp1991, hq1992, hx1993, H⟩ := idx_elim H
    obtain ⟨x1994, hp1995, hq1996, hx1997, H⟩ := idx_elim H
    obtain ⟨x1998, hp1999, hq2000, hx2001, H⟩ := idx_elim H
    obtain ⟨x2002, hp2003, hq2004, hx2005, H⟩ := idx_elim H
    obtain ⟨x2006, hp2007, hq2008, hx2009, H⟩ := idx_elim H
    obtain ⟨x2010, hp2011, hq2012, hx2013, H⟩ := idx_elim H
    refine At.stages K K K K K [GElem0 (some ⟨g43, 0, none⟩) (eInt .u32).sz 0, GEq (.int .u32 x1980), GEq (.int .u32 z1984), GElem0 (some ⟨g43, 0, none⟩) (eInt .u32).sz 0, GEq (.int .u32 x1990), GElem0 (some ⟨g43, 0, none⟩) (eInt .u32).sz 1, GEq (.int .u32 x1994), GEq (.int .u32 (bAnd .u32 x1990 x1994)), GElem0 (some ⟨g43, 0, none⟩) (eInt .u32).sz 0, GEq (.int .u32 x1998), GElem0 (some ⟨g43, 0, none⟩) (eInt .u32).sz 2, GEq (.int .u32 x2002), GEq (.int .u32 (bAnd .u32 x1998 x2002)), GEq (.int .u32 (bXor .u32 (bAnd .u32 x1990 x1994) (bAnd .u32 x1998 x2002))), GElem0 (some ⟨g43, 0, none⟩) (eInt .u32).sz 1, GEq (.int .u32 x2006), GElem0 (some ⟨g43, 0, none⟩) (eInt .u32).sz 2, GEq (.int .u32 x2010), GEq (.int .u32 (bAnd .u32 x2006 x2010)), GEq (.int .u32 (bXor .u32 (bXor .u32 (bAnd .u32 x1990 x1994) (bAnd .u32 x1998 x2002)) (bAnd .u32 x2006 x2010))), GEq (.int .u32 (IntKind.wrap .u32 (z1984 + (bXor .u32 (bXor .u32 (bAnd .u32 x1990 x1994) (bAnd .u32 x1998 x2002)) (bAnd .u32 x2006 x2010))))), GEq (.int .u32 (IntKind.wrap .u32 (z1984 + (bXor .u32 (bXor .u32 (bAnd .u32 x1990 x1994) (bAnd .u32 x1998 x2002)) (bAnd .u32 x2006 x2010)))))] [2] [([], fun vs w => VL vs [] ∧ SP [] w0 w [arrE 82 (eInt .u32) g7 8 p1, arrE 82 (eInt .u32) g11 8 (List.replicate 8 0), arrE 91 (eInt .u32) g22 64 z15, arrE 91 (eInt .u32) g36 64 z29, arrE 82 (eInt .u32) g43 8 v1219]), ([2], fun vs w => VL vs [(.int .u32 z1984)] ∧ SP [] w0 w [arrE 82 (eInt .u32) g7 8 p1, arrE 82 (eInt .u32) g11 8 (List.replicate 8 0), arrE 91 (eInt .u32) g22 64 z15, arrE 91 (eInt .u32) g36 64 z29, arrE 82 (eInt .u32) g43 8 v1219])] (N := 22) K ⟨K, Nat.zero_lt_succ _⟩ (show VL [] [] ∧ SP [] w0 w1979.drew [arrE 82 (eInt .u32) g7 8 p1, arrE 82 (eInt .u32) g11 8 (List.replicate 8 0), arrE 91 (eInt .u32) g22 64 z15, arrE 91 (eInt .u32) g36 64 z29, arrE 82 (eInt .u32) g43 8 v1219] from ⟨trivial, SP.drew hs1976⟩) ⟨⟨⟨⟨⟨⟨⟨⟨⟨⟨⟨⟨⟨⟨⟨⟨⟨⟨⟨⟨⟨⟨trivial, ?_⟩, ?_⟩, ?_⟩, ?_⟩, ?_⟩, ?_⟩, ?_⟩, ?_⟩, ?_⟩, ?_⟩, ?_⟩, ?_⟩, ?_⟩, ?_⟩, ?_⟩, ?_⟩, ?_⟩, ?_⟩, ?_⟩, ?_⟩, ?_⟩, ?_⟩ (last := 1) K ?_
    ·refine Owe.light K [0] K (all_cons ?_ all_nil)
     ·rintro ρ' w' hs hah ⟨hvl2019, hs2018⟩
      have hkn : Known ρ' [(7, (pt g43 0))] := ⟨(hs 7 K).trans K, trivial⟩
      refine Step.known _ hkn ?_
      refine Step.elemA (e := (eInt .u32)) (l := v1219) (m := 8) (g := g43) (T := 82) (E := 81) (x := (.tmp 7)) (ix := (.const (.int .i64 (0)))) (ki := .i64) (iz := 0) (i := 4) (d := (some 47)) (k := 0) K rfl K K K K hs2018 rfl hp1981 hq1982 ?_
      exact ⟨rfl, _, updO_known hkn, ⟨g43, 0, rfl, rfl⟩⟩
    ·refine Owe.light K [0] K (all_cons ?_ all_nil)
     ·rintro ρ' w' hs hah ⟨hvl2021, hs2020⟩
      obtain ⟨b2022, o2023, hA2024, e47⟩ := hah 0 47 K
      have hkn : Known ρ' [(47, (.pointer (some ⟨b2022, (o2023 + Int.toNat 0 * (eInt .u32).sz), none⟩)))] := ⟨e47, trivial⟩
      refine Step.known _ hkn ?_
      refine Step.cell (t := 81) (x := (.tmp 47)) (b := b2022) (off := (o2023 + Int.toNat 0 * (eInt .u32).sz)) (v := (.int .u32 x1980)) (d := (some 48)) (k := 1) K rfl K K (elem_cell (e := (eInt .u32)) (rdt_cells (arrE_rd (SP.get hs2020 (i := 4) rfl)) hA2024 hp1981 hq1982) hx1983 (j := 0) rfl) ?_
      exact ⟨rfl, _, updO_known hkn, rfl⟩
    ·refine Owe.heavy K [(0, 1)] K (all_cons ⟨K, K, ?_⟩ all_nil)
     ·rintro ρ' w' hs hah ⟨hvl2026, hs2025⟩
      have hkn : Known ρ' [(48, (.int .u32 x1980))] := ⟨hah 1 48 K, trivial⟩
      refine Step.known _ hkn ?_
      refine Step.callF (f := 51) (fo := (.func 51)) (xs := #[(.tmp 48), (.const (.int .i64 (2))), (.const (.int .i64 (13))), (.const (.int .i64 (22)))]) (tys := #[81, 3, 3, 3]) (first := #[]) (captured := #[]) (d := (some 49)) (k := 2) K rfl K K Tryd.call51 (L_subwayref02_great_walk  x1980 2 13 22 w'  z1984 hz1985) ?_
      rintro e w2027 ⟨rfl, hs2028⟩
      refine ⟨_, rfl, ?_⟩
      have hs2030 : SP [] w0 w2027 [arrE 82 (eInt .u32) g7 8 p1, arrE 82 (eInt .u32) g11 8 (List.replicate 8 0), arrE 91 (eInt .u32) g22 64 z15, arrE 91 (eInt .u32) g36 64 z29, arrE 82 (eInt .u32) g43 8 v1219] := SP.call hs2025 hs2028
      clear hs2028
      refine ⟨_, updO_known hkn, rfl, ?_⟩
      exact (And.intro (And.intro rfl (trivial)) (hs2030))
    ·refine Owe.light K [0, 1] K (all_cons ?_ (all_cons ?_ all_nil))
     ·rintro ρ' w' hs hah ⟨hvl2032, hs2031⟩
      have hkn : Known ρ' [(7, (pt g43 0))] := ⟨(hs 7 K).trans K, trivial⟩
      refine Step.known _ hkn ?_
      refine Step.elemA (e := (eInt .u32)) (l := v1219) (m := 8) (g := g43) (T := 82) (E := 81) (x := (.tmp 7)) (ix := (.const (.int .i64 (0)))) (ki := .i64) (iz := 0) (i := 4) (d := (some 50)) (k := 3) K rfl K K K K hs2031 rfl hp1991 hq1992 ?_
      exact ⟨rfl, _, updO_known hkn, ⟨g43, 0, rfl, rfl⟩⟩
     ·rintro ρ' w' hs hah ⟨⟨q2034, -⟩, hs2033⟩
      have hkn : Known ρ' [(7, (pt g43 0))] := ⟨(hs 7 K).trans K, trivial⟩
      refine Step.known _ hkn ?_
      refine Step.elemA (e := (eInt .u32)) (l := v1219) (m := 8) (g := g43) (T := 82) (E := 81) (x := (.tmp 7)) (ix := (.const (.int .i64 (0)))) (ki := .i64) (iz := 0) (i := 4) (d := (some 50)) (k := 3) K rfl K K K K hs2033 rfl hp1991 hq1992 ?_
      exact ⟨rfl, _, updO_known hkn, ⟨g43, 0, rfl, rfl⟩⟩
    ·refine Owe.light K [0, 1] K (all_cons ?_ (all_cons ?_ all_nil))
     ·rintro ρ' w' hs hah ⟨hvl2037, hs2036⟩
      obtain ⟨b2038, o2039, hA2040, e50⟩ := hah 3 50 K
      have hkn : Known ρ' [(50, (.pointer (some ⟨b2038, (o2039 + Int.toNat 0 * (eInt .u32).sz), none⟩)))] := ⟨e50, trivial⟩
      refine Step.known _ hkn ?_
      refine Step.cell (t := 81) (x := (.tmp 50)) (b := b2038) (off := (o2039 + Int.toNat 0 * (eInt .u32).sz)) (v := (.int .u32 x1990)) (d := (some 51)) (k := 4) K rfl K K (elem_cell (e := (eInt .u32)) (rdt_cells (arrE_rd (SP.get hs2036 (i := 4) rfl)) hA2040 hp1991 hq1992) hx1993 (j := 0) rfl) ?_
      exact ⟨rfl, _, updO_known hkn, rfl⟩
     ·rintro ρ' w' hs hah ⟨⟨q2042, -⟩, hs2041⟩
      obtain ⟨b2044, o2045, hA2046, e50⟩ := hah 3 50 K
      have hkn : Known ρ' [(50, (.pointer (some ⟨b2044, (o2045 + Int.toNat 0 * (eInt .u32).sz), none⟩)))] := ⟨e50, trivial⟩
      refine Step.known _ hkn ?_
      refine Step.cell (t := 81) (x := (.tmp 50)) (b := b2044) (off := (o2045 + Int.toNat 0 * (eInt .u32).sz)) (v := (.int .u32 x1990)) (d := (some 51)) (k := 4) K rfl K K (elem_cell (e := (eInt .u32)) (rdt_cells (arrE_rd (SP.get hs2041 (i := 4) rfl)) hA2046 hp1991 hq1992) hx1993 (j := 0) rfl) ?_
      exact ⟨rfl, _, updO_known hkn, rfl⟩
    ·refine Owe.light K [0, 1] K (all_cons ?_ (all_cons ?_ all_nil))
     ·rintro ρ' w' hs hah ⟨hvl2048, hs2047⟩
      have hkn : Known ρ' [(7, (pt g43 0))] := ⟨(hs 7 K).trans K, trivial⟩
      refine Step.known _ hkn ?_
      refine Step.elemA (e := (eInt .u32)) (l := v1219) (m := 8) (g := g43) (T := 82) (E := 81) (x := (.tmp 7)) (ix := (.const (.int .i64 (1)))) (ki := .i64) (iz := 1) (i := 4) (d := (some 52)) (k := 5) K rfl K K K K hs2047 rfl hp1995 hq1996 ?_
      exact ⟨rfl, _, updO_known hkn, ⟨g43, 0, rfl, rfl⟩⟩
     ·rintro ρ' w' hs hah ⟨⟨q2050, -⟩, hs2049⟩
      have hkn : Known ρ' [(7, (pt g43 0))] := ⟨(hs 7 K).trans K, trivial⟩
      refine Step.known _ hkn ?_
      refine Step.elemA (e := (eInt .u32)) (l := v1219) (m := 8) (g := g43) (T := 82) (E := 81) (x := (.tmp 7)) (ix := (.const (.int .i64 (1)))) (ki := .i64) (iz := 1) (i := 4) (d := (some 52)) (k := 5) K rfl K K K K hs2049 rfl hp1995 hq1996 ?_
      exact ⟨rfl, _, updO_known hkn, ⟨g43, 0, rfl, rfl⟩⟩
    ·refine Owe.light K [0, 1] K (all_cons ?_ (all_cons ?_ all_nil))
     ·rintro ρ' w' hs hah ⟨hvl2053, hs2052⟩
      obtain ⟨b2054, o2055, hA2056, e52⟩ := hah 5 52 K
      have hkn : Known ρ' [(52, (.pointer (some ⟨b2054, (o2055 + Int.toNat 1 * (eInt .u32).sz), none⟩)))] := ⟨e52, trivial⟩
      refine Step.known _ hkn ?_
      refine Step.cell (t := 81) (x := (.tmp 52)) (b := b2054) (off := (o2055 + Int.toNat 1 * (eInt .u32).sz)) (v := (.int .u32 x1994)) (d := (some 53)) (k := 6) K rfl K K (elem_cell (e := (eInt .u32)) (rdt_cells (arrE_rd (SP.get hs2052 (i := 4) rfl)) hA2056 hp1995 hq1996) hx1997 (j := 0) rfl) ?_
      exact ⟨rfl, _, updO_known hkn, rfl⟩
     ·rintro ρ' w' hs hah ⟨⟨q2058, -⟩, hs2057⟩
      obtain ⟨b2060, o2061, hA2062, e52⟩ := hah 5 52 K
      have hkn : Known ρ' [(52, (.pointer (some ⟨b2060, (o2061 + Int.toNat 1 * (eInt .u32).sz), none⟩)))] := ⟨e52, trivial⟩
      refine Step.known _ hkn ?_
      refine Step.cell (t := 81) (x := (.tmp 52)) (b := b2060) (off := (o2061 + Int.toNat 1 * (eInt .u32).sz)) (v := (.int .u32 x1994)) (d := (some 53)) (k := 6) K rfl K K (elem_cell (e := (eInt .u32)) (rdt_cells (arrE_rd (SP.get hs2057 (i := 4) rfl)) hA2062 hp1995 hq1996) hx1997 (j := 0) rfl) ?_
      exact ⟨rfl, _, updO_known hkn, rfl⟩
    ·exact Owe.run K [(51, (.int .u32 x1990)), (53, (.int .u32 x1994))] ⟨gA 4 K K, gA 6 K K, trivial⟩ (.int .u32 (bAnd .u32 x1990 x1994)) (fun _ _ => K) rfl
    ·refine Owe.light K [0, 1] K (all_cons ?_ (all_cons ?_ all_nil))
     ·rintro ρ' w' hs hah ⟨hvl2064, hs2063⟩
      have hkn : Known ρ' [(7, (pt g43 0))] := ⟨(hs 7 K).trans K, trivial⟩
      refine Step.known _ hkn ?_
      refine Step.elemA (e := (eInt .u32)) (l := v1219) (m := 8) (g := g43) (T := 82) (E := 81) (x := (.tmp 7)) (ix := (.const (.int .i64 (0)))) (ki := .i64) (iz := 0) (i := 4) (d := (some 55)) (k := 8) K rfl K K K K hs2063 rfl hp1999 hq2000 ?_
      exact ⟨rfl, _, updO_known hkn, ⟨g43, 0, rfl, rfl⟩⟩
     ·rintro ρ' w' hs hah ⟨⟨q2066, -⟩, hs2065⟩
      have hkn : Known ρ' [(7, (pt g43 0))] := ⟨(hs 7 K).trans K, trivial⟩
      refine Step.known _ hkn ?_
      refine Step.elemA (e := (eInt .u32)) (l := v1219) (m := 8) (g := g43) (T := 82) (E := 81) (x := (.tmp 7)) (ix := (.const (.int .i64 (0)))) (ki := .i64) (iz := 0) (i := 4) (d := (some 55)) (k := 8) K rfl K K K K hs2065 rfl hp1999 hq2000 ?_
      exact ⟨rfl, _, updO_known hkn, ⟨g43, 0, rfl, rfl⟩⟩
    ·refine Owe.light K [0, 1] K (all_cons ?_ (all_cons ?_ all_nil))
     ·rintro ρ' w' hs hah ⟨hvl2069, hs2068⟩
      obtain ⟨b2070, o2071, hA2072, e55⟩ := hah 8 55 K
      have hkn : Known ρ' [(55, (.pointer (some ⟨b2070, (o2071 + Int.toNat 0 * (eInt .u32).sz), none⟩)))] := ⟨e55, trivial⟩
      refine Step.known _ hkn ?_
      refine Step.cell (t := 81) (x := (.tmp 55)) (b := b2070) (off := (o2071 + Int.toNat 0 * (eInt .u32).sz)) (v := (.int .u32 x1998)) (d := (some 56)) (k := 9) K rfl K K (elem_cell (e := (eInt .u32)) (rdt_cells (arrE_rd (SP.get hs2068 (i := 4) rfl)) hA2072 hp1999 hq2000) hx2001 (j := 0) rfl) ?_
      exact ⟨rfl, _, updO_known hkn, rfl⟩
     ·rintro ρ' w' hs hah ⟨⟨q2074, -⟩, hs2073⟩
      obtain ⟨b2076, o2077, hA2078, e55⟩ := hah 8 55 K
      have hkn : Known ρ' [(55, (.pointer (some ⟨b2076, (o2077 + Int.toNat 0 * (eInt .u32).sz), none⟩)))] := ⟨e55, trivial⟩
      refine Step.known _ hkn ?_
      refine Step.cell (t := 81) (x := (.tmp 55)) (b := b2076) (off := (o2077 + Int.toNat 0 * (eInt .u32).sz)) (v := (.int .u32 x1998)) (d := (some 56)) (k := 9) K rfl K K (elem_cell (e := (eInt .u32)) (rdt_cells (arrE_rd (SP.get hs2073 (i := 4) rfl)) hA2078 hp1999 hq2000) hx2001 (j := 0) rfl) ?_
      exact ⟨rfl, _, updO_known hkn, rfl⟩
    ·refine Owe.light K [0, 1] K (all_cons ?_ (all_cons ?_ all_nil))
     ·rintro ρ' w' hs hah ⟨hvl2080, hs2079⟩
      have hkn : Known ρ' [(7, (pt g43 0))] := ⟨(hs 7 K).trans K, trivial⟩
      refine Step.known _ hkn ?_
      refine Step.elemA (e := (eInt .u32)) (l := v1219) (m := 8) (g := g43) (T := 82) (E := 81) (x := (.tmp 7)) (ix := (.const (.int .i64 (2)))) (ki := .i64) (iz := 2) (i := 4) (d := (some 57)) (k := 10) K rfl K K K K hs2079 rfl hp2003 hq2004 ?_
      exact ⟨rfl, _, updO_known hkn, ⟨g43, 0, rfl, rfl⟩⟩
     ·rintro ρ' w' hs hah ⟨⟨q2082, -⟩, hs2081⟩
      have hkn : Known ρ' [(7, (pt g43 0))] := ⟨(hs 7 K).trans K, trivial⟩
      refine Step.known _ hkn ?_
      refine Step.elemA (e := (eInt .u32)) (l := v1219) (m := 8) (g := g43) (T := 82) (E := 81) (x := (.tmp 7)) (ix := (.const (.int .i64 (2)))) (ki := .i64) (iz := 2) (i := 4) (d := (some 57)) (k := 10) K rfl K K K K hs2081 rfl hp2003 hq2004 ?_
      exact ⟨rfl, _, updO_known hkn, ⟨g43, 0, rfl, rfl⟩⟩
    ·refine Owe.light K [0, 1] K (all_cons ?_ (all_cons ?_ all_nil))
     ·rintro ρ' w' hs hah ⟨hvl2085, hs2084⟩
      obtain ⟨b2086, o2087, hA2088, e57⟩ := hah 10 57 K
      have hkn : Known ρ' [(57, (.pointer (some ⟨b2086, (o2087 + Int.toNat 2 * (eInt .u32).sz), none⟩)))] := ⟨e57, trivial⟩
      refine Step.known _ hkn ?_
      refine Step.cell (t := 81) (x := (.tmp 57)) (b := b2086) (off := (o2087 + Int.toNat 2 * (eInt .u32).sz)) (v := (.int .u32 x2002)) (d := (some 58)) (k := 11) K rfl K K (elem_cell (e := (eInt .u32)) (rdt_cells (arrE_rd (SP.get hs2084 (i := 4) rfl)) hA2088 hp2003 hq2004) hx2005 (j := 0) rfl) ?_
      exact ⟨rfl, _, updO_known hkn, rfl⟩
     ·rintro ρ' w' hs hah ⟨⟨q2090, -⟩, hs2089⟩
      obtain ⟨b2092, o2093, hA2094, e57⟩ := hah 10 57 K
      have hkn : Known ρ' [(57, (.pointer (some ⟨b2092, (o2093 + Int.toNat 2 * (eInt .u32).sz), none⟩)))] := ⟨e57, trivial⟩
      refine Step.known _ hkn ?_
      refine Step.cell (t := 81) (x := (.tmp 57)) (b := b2092) (off := (o2093 + Int.toNat 2 * (eInt .u32).sz)) (v := (.int .u32 x2002)) (d := (some 58)) (k := 11) K rfl K K (elem_cell (e := (eInt .u32)) (rdt_cells (arrE_rd (SP.get hs2089 (i := 4) rfl)) hA2094 hp2003 hq2004) hx2005 (j := 0) rfl) ?_
      exact ⟨rfl, _, updO_known hkn, rfl⟩
    ·exact Owe.run K [(56, (.int .u32 x1998)), (58, (.int .u32 x2002))] ⟨gA 9 K K, gA 11 K K, trivial⟩ (.int .u32 (bAnd .u32 x1998 x2002)) (fun _ _ => K) rfl
    ·exact Owe.run K [(54, (.int .u32 (bAnd .u32 x1990 x1994))), (59, (.int .u32 (bAnd .u32 x1998 x2002)))] ⟨gA 7 K K, gA 12 K K, trivial⟩ (.int .u32 (bXor .u32 (bAnd .u32 x1990 x1994) (bAnd .u32 x1998 x2002))) (fun _ _ => K) rfl
    ·refine Owe.light K [0, 1] K (all_cons ?_ (all_cons ?_ all_nil))
     ·rintro ρ' w' hs hah ⟨hvl2096, hs2095⟩
      have hkn : Known ρ' [(7, (pt g43 0))] := ⟨(hs 7 K).trans K, trivial⟩
      refine Step.known _ hkn ?_
      refine Step.elemA (e := (eInt .u32)) (l := v1219) (m := 8) (g := g43) (T := 82) (E := 81) (x := (.tmp 7)) (ix := (.const (.int .i64 (1)))) (ki := .i64) (iz := 1) (i := 4) (d := (some 61)) (k := 14) K rfl K K K K hs2095 rfl hp2007 hq2008 ?_
      exact ⟨rfl, _, updO_known hkn, ⟨g43, 0, rfl, rfl⟩⟩
     ·rintro ρ' w' hs hah ⟨⟨q2098, -⟩, hs2097⟩
      have hkn : Known ρ' [(7, (pt g43 0))] := ⟨(hs 7 K).trans K, trivial⟩
      refine Step.known _ hkn ?_
      refine Step.elemA (e := (eInt .u32)) (l := v1219) (m := 8) (g := g43) (T := 82) (E := 81) (x := (.tmp 7)) (ix := (.const (.int .i64 (1)))) (ki := .i64) (iz := 1) (i := 4) (d := (some 61)) (k := 14) K rfl K K K K hs2097 rfl hp2007 hq2008 ?_
      exact ⟨rfl, _, updO_known hkn, ⟨g43, 0, rfl, rfl⟩⟩
    ·refine Owe.light K [0, 1] K (all_cons ?_ (all_cons ?_ all_nil))
     ·rintro ρ' w' hs hah ⟨hvl2101, hs2100⟩
      obtain ⟨b2102, o2103, hA2104, e61⟩ := hah 14 61 K
      have hkn : Known ρ' [(61, (.pointer (some ⟨b2102, (o2103 + Int.toNat 1 * (eInt .u32).sz), none⟩)))] := ⟨e61, trivial⟩
      refine Step.known _ hkn ?_
      refine Step.cell (t := 81) (x := (.tmp 61)) (b := b2102) (off := (o2103 + Int.toNat 1 * (eInt .u32).sz)) (v := (.int .u32 x2006)) (d := (some 62)) (k := 15) K rfl K K (elem_cell (e := (eInt .u32)) (rdt_cells (arrE_rd (SP.get hs2100 (i := 4) rfl)) hA2104 hp2007 hq2008) hx2009 (j := 0) rfl) ?_
      exact ⟨rfl, _, updO_known hkn, rfl⟩
     ·rintro ρ' w' hs hah ⟨⟨q2106, -⟩, hs2105⟩
      obtain ⟨b2108, o2109, hA2110, e61⟩ := hah 14 61 K
      have hkn : Known ρ' [(61, (.pointer (some ⟨b2108, (o2109 + Int.toNat 1 * (eInt .u32).sz), none⟩)))] := ⟨e61, trivial⟩
      refine Step.known _ hkn ?_
      refine Step.cell (t := 81) (x := (.tmp 61)) (b := b2108) (off := (o2109 + Int.toNat 1 * (eInt .u32).sz)) (v := (.int .u32 x2006)) (d := (some 62)) (k := 15) K rfl K K (elem_cell (e := (eInt .u32)) (rdt_cells (arrE_rd (SP.get hs2105 (i := 4) rfl)) hA2110 hp2007 hq2008) hx2009 (j := 0) rfl) ?_
      exact ⟨rfl, _, updO_known hkn, rfl⟩
    ·refine Owe.light K [0, 1] K (all_cons ?_ (all_cons ?_ all_nil))
     ·rintro ρ' w' hs hah ⟨hvl2112, hs2111⟩
      have hkn : Known ρ' [(7, (pt g43 0))] := ⟨(hs 7 K).trans K, trivial⟩
      refine Step.known _ hkn ?_
      refine Step.elemA (e := (eInt .u32)) (l := v1219) (m := 8) (g := g43) (T := 82) (E := 81) (x := (.tmp 7)) (ix := (.const (.int .i64 (2)))) (ki := .i64) (iz := 2) (i := 4) (d := (some 63)) (k := 16) K rfl K K K K hs2111 rfl hp2011 hq2012 ?_
      exact ⟨rfl, _, updO_known hkn, ⟨g43, 0, rfl, rfl⟩⟩
     ·rintro ρ' w' hs hah ⟨⟨q2114, -⟩, hs2113⟩
      have hkn : Known ρ' [(7, (pt g43 0))] := ⟨(hs 7 K).trans K, trivial⟩
      refine Step.known _ hkn ?_
      refine Step.elemA (e := (eInt .u32)) (l := v1219) (m := 8) (g := g43) (T := 82) (E := 81) (x := (.tmp 7)) (ix := (.const (.int .i64 (2)))) (ki := .i64) (iz := 2) (i := 4) (d := (some 63)) (k := 16) K rfl K K K K hs2113 rfl hp2011 hq2012 ?_
      exact ⟨rfl, _, updO_known hkn, ⟨g43, 0, rfl, rfl⟩⟩
    ·refine Owe.light K [0, 1] K (all_cons ?_ (all_cons ?_ all_nil))
     ·rintro ρ' w' hs hah ⟨hvl2117, hs2116⟩
      obtain ⟨b2118, o2119, hA2120, e63⟩ := hah 16 63 K
      have hkn : Known ρ' [(63, (.pointer (some ⟨b2118, (o2119 + Int.toNat 2 * (eInt .u32).sz), none⟩)))] := ⟨e63, trivial⟩
      refine Step.known _ hkn ?_
      refine Step.cell (t := 81) (x := (.tmp 63)) (b := b2118) (off := (o2119 + Int.toNat 2 * (eInt .u32).sz)) (v := (.int .u32 x2010)) (d := (some 64)) (k := 17) K rfl K K (elem_cell (e := (eInt .u32)) (rdt_cells (arrE_rd (SP.get hs2116 (i := 4) rfl)) hA2120 hp2011 hq2012) hx2013 (j := 0) rfl) ?_
      exact ⟨rfl, _, updO_known hkn, rfl⟩
     ·rintro ρ' w' hs hah ⟨⟨q2122, -⟩, hs2121⟩
      obtain ⟨b2124, o2125, hA2126, e63⟩ := hah 16 63 K
      have hkn : Known ρ' [(63, (.pointer (some ⟨b2124, (o2125 + Int.toNat 2 * (eInt .u32).sz), none⟩)))] := ⟨e63, trivial⟩
      refine Step.known _ hkn ?_
      refine Step.cell (t := 81) (x := (.tmp 63)) (b := b2124) (off := (o2125 + Int.toNat 2 * (eInt .u32).sz)) (v := (.int .u32 x2010)) (d := (some 64)) (k := 17) K rfl K K (elem_cell (e := (eInt .u32)) (rdt_cells (arrE_rd (SP.get hs2121 (i := 4) rfl)) hA2126 hp2011 hq2012) hx2013 (j := 0) rfl) ?_
      exact ⟨rfl, _, updO_known hkn, rfl⟩
    ·exact Owe.run K [(62, (.int .u32 x2006)), (64, (.int .u32 x2010))] ⟨gA 15 K K, gA 17 K K, trivial⟩ (.int .u32 (bAnd .u32 x2006 x2010)) (fun _ _ => K) rfl
    ·exact Owe.run K [(60, (.int .u32 (bXor .u32 (bAnd .u32 x1990 x1994) (bAnd .u32 x1998 x2002)))), (65, (.int .u32 (bAnd .u32 x2006 x2010)))] ⟨gA 13 K K, gA 18 K K, trivial⟩ (.int .u32 (bXor .u32 (bXor .u32 (bAnd .u32 x1990 x1994) (bAnd .u32 x1998 x2002)) (bAnd .u32 x2006 x2010))) (fun _ _ => K) rfl
    ·exact Owe.run K [(49, (.int .u32 z1984)), (66, (.int .u32 (bXor .u32 (bXor .u32 (bAnd .u32 x1990 x1994) (bAnd .u32 x1998 x2002)) (bAnd .u32 x2006 x2010))))] ⟨gA 2 K K, gA 19 K K, trivial⟩ (.int .u32 (IntKind.wrap .u32 (z1984 + (bXor .u32 (bXor .u32 (bAnd .u32 x1990 x1994) (bAnd .u32 x1998 x2002)) (bAnd .u32 x2006 x2010))))) (fun _ _ => K) rfl
    ·exact Owe.run K [(67, (.int .u32 (IntKind.wrap .u32 (z1984 + (bXor .u32 (bXor .u32 (bAnd .u32 x1990 x1994) (bAnd .u32 x1998 x2002)) (bAnd .u32 x2006 x2010))))))] ⟨gA 20 K K, trivial⟩ (.int .u32 (IntKind.wrap .u32 (z1984 + (bXor .u32 (bXor .u32 (bAnd .u32 x1990 x1994) (bAnd .u32 x1998 x2002)) (bAnd .u32 x2006 x2010))))) (fun _ _ => K) rfl
    ·rintro ρ' w' hs hf ⟨⟨q2128, -⟩, hs2127⟩
     refine postKnown [(2, (pt g7 0)), (4, (pt g11 0)), (5, (pt g22 0)), (6, (pt g36 0)), (7, (pt g43 0)), (8, (.int .i64 v1220)), (9, (.int .u32 (IntKind.wrap .u32 ((IntKind.wrap .u32 ((IntKind.wrap .u32 ((IntKind.wrap .u32 (x1809 + z1817)) + (bXor .u32 (bAnd .u32 x1823 x1827) (bAnd .u32 (bXor .u32 (IntKind.max .u32) x1831) x1835)))) + x1839)) + x1843)))), (10, (.int .u32 (IntKind.wrap .u32 (z1984 + (bXor .u32 (bXor .u32 (bAnd .u32 x1990 x1994) (bAnd .u32 x1998 x2002)) (bAnd .u32 x2006 x2010))))))] ⟨(hs 2 K).trans K, (hs 4 K).trans K, (hs 5 K).trans K, (hs 6 K).trans K, (hs 7 K).trans K, (hs 8 K).trans K, (hs 9 K).trans K, hf 21 10 K, trivial⟩ ?_
     obtain ⟨w2130, hww2130⟩ : ∃ x, w' = x := ⟨_, rfl⟩
     rw [hww2130] at hs2127 ⊢
     refine At.region K K ?_
     refine In.run' 3 (k' := 3) rfl [(68, (.int .u32 (IntKind.wrap .u32 ((IntKind.wrap .u32 ((IntKind.wrap .u32 ((IntKind.wrap .u32 (x1809 + z1817)) + (bXor .u32 (bAnd .u32 x1823 x1827) (bAnd .u32 (bXor .u32 (IntKind.max .u32) x1831) x1835)))) + x1839)) + x1843)))), (69, (.int .u32 (IntKind.wrap .u32 (z1984 + (bXor .u32 (bXor .u32 (bAnd .u32 x1990 x1994) (bAnd .u32 x1998 x2002)) (bAnd .u32 x2006 x2010)))))), (70, (.int .u32 (IntKind.wrap .u32 ((IntKind.wrap .u32 ((IntKind.wrap .u32 ((IntKind.wrap .u32 ((IntKind.wrap .u32 (x1809 + z1817)) + (bXor .u32 (bAnd .u32 x1823 x1827) (bAnd .u32 (bXor .u32 (IntKind.max .u32) x1831) x1835)))) + x1839)) + x1843)) + (IntKind.wrap .u32 (z1984 + (bXor .u32 (bXor .u32 (bAnd .u32 x1990 x1994) (bAnd .u32 x1998 x2002)) (bAnd .u32 x2006 x2010))))))))] K ?_
     obtain ⟨x2131, hp2132, hq2133, hx2134, H⟩ := idx_elim H
     refine In.step (k' := 4) rfl K ?_
     refine Step.elemA (e := (eInt .u32)) (l := v1219) (m := 8) (g := g43) (T := 82) (E := 81) (x := (.tmp 7)) (ix := (.const (.int .i64 (0)))) (ki := .i64) (iz := 0) (i := 4) (d := (some 71)) (k := 3) K rfl K K K K hs2127 rfl hp2132 hq2133 ?_
     refine In.step (k' := 5) rfl K ?_
     refine Step.cell (t := 81) (x := (.tmp 71)) (b := g43) (off := (0 + Int.toNat 0 * (eInt .u32).sz)) (v := (.int .u32 x2131)) (d := (some 72)) (k := 4) K rfl K K (elem_cell (e := (eInt .u32)) (rdt_cells (arrE_rd (SP.get hs2127 (i := 4) rfl)) rfl hp2132 hq2133) hx2134 (j := 0) rfl) ?_
     obtain ⟨x2135, hp2136, hq2137, hx2138, H⟩ := idx_elim H
     refine In.step (k' := 6) rfl K ?_
     refine Step.elemA (e := (eInt .u32)) (l := v1219) (m := 8) (g := g43) (T := 82) (E := 81) (x := (.tmp 7)) (ix := (.const (.int .i64 (1)))) (ki := .i64) (iz := 1) (i := 4) (d := (some 73)) (k := 5) K rfl K K K K hs2127 rfl hp2136 hq2137 ?_
     refine In.step (k' := 7) rfl K ?_
     refine Step.cell (t := 81) (x := (.tmp 73)) (b := g43) (off := (0 + Int.toNat 1 * (eInt .u32).sz)) (v := (.int .u32 x2135)) (d := (some 74)) (k := 6) K rfl K K (elem_cell (e := (eInt .u32)) (rdt_cells (arrE_rd (SP.get hs2127 (i := 4) rfl)) rfl hp2136 hq2137) hx2138 (j := 0) rfl) ?_
     obtain ⟨x2139, hp2140, hq2141, hx2142, H⟩ := idx_elim H
     refine In.step (k' := 8) rfl K ?_
     refine Step.elemA (e := (eInt .u32)) (l := v1219) (m := 8) (g := g43) (T := 82) (E := 81) (x := (.tmp 7)) (ix := (.const (.int .i64 (2)))) (ki := .i64) (iz := 2) (i := 4) (d := (some 75)) (k := 7) K rfl K K K K hs2127 rfl hp2140 hq2141 ?_
     refine In.step (k' := 9) rfl K ?_
     refine Step.cell (t := 81) (x := (.tmp 75)) (b := g43) (off := (0 + Int.toNat 2 * (eInt .u32).sz)) (v := (.int .u32 x2139)) (d := (some 76)) (k := 8) K rfl K K (elem_cell (e := (eInt .u32)) (rdt_cells (arrE_rd (SP.get hs2127 (i := 4) rfl)) rfl hp2140 hq2141) hx2142 (j := 0) rfl) ?_
     obtain ⟨x2143, hp2144, hq2145, hx2146, H⟩ := idx_elim H
     refine In.step (k' := 10) rfl K ?_
     refine Step.elemA (e := (eInt .u32)) (l := v1219) (m := 8) (g := g43) (T := 82) (E := 81) (x := (.tmp 7)) (ix := (.const (.int .i64 (3)))) (ki := .i64) (iz := 3) (i := 4) (d := (some 77)) (k := 9) K rfl K K K K hs2127 rfl hp2144 hq2145 ?_
     refine In.step (k' := 11) rfl K ?_
     refine Step.cell (t := 81) (x := (.tmp 77)) (b := g43) (off := (0 + Int.toNat 3 * (eInt .u32).sz)) (v := (.int .u32 x2143)) (d := (some 78)) (k := 10) K rfl K K (elem_cell (e := (eInt .u32)) (rdt_cells (arrE_rd (SP.get hs2127 (i := 4) rfl)) rfl hp2144 hq2145) hx2146 (j := 0) rfl) ?_
     refine In.run' 2 (k' := 13) rfl [(79, (.int .u32 (IntKind.wrap .u32 ((IntKind.wrap .u32 ((IntKind.wrap .u32 ((IntKind.wrap .u32 (x1809 + z1817)) + (bXor .u32 (bAnd .u32 x1823 x1827) (bAnd .u32 (bXor .u32 (IntKind.max .u32) x1831) x1835)))) + x1839)) + x1843)))), (80, (.int .u32 (IntKind.wrap .u32 (x2143 + (IntKind.wrap .u32 ((IntKind.wrap .u32 ((IntKind.wrap .u32 ((IntKind.wrap .u32 (x1809 + z1817)) + (bXor .u32 (bAnd .u32 x1823 x1827) (bAnd .u32 (bXor .u32 (IntKind.max .u32) x1831) x1835)))) + x1839)) + x1843))))))] K ?_
     obtain ⟨x2147, hp2148, hq2149, hx2150, H⟩ := idx_elim H
     refine In.step (k' := 14) rfl K ?_
     refine Step.elemA (e := (eInt .u32)) (l := v1219) (m := 8) (g := g43) (T := 82) (E := 81) (x := (.tmp 7)) (ix := (.const (.int .i64 (4)))) (ki := .i64) (iz := 4) (i := 4) (d := (some 81)) (k := 13) K rfl K K K K hs2127 rfl hp2148 hq2149 ?_
     refine In.step (k' := 15) rfl K ?_
     refine Step.cell (t := 81) (x := (.tmp 81)) (b := g43) (off := (0 + Int.toNat 4 * (eInt .u32).sz)) (v := (.int .u32 x2147)) (d := (some 82)) (k := 14) K rfl K K (elem_cell (e := (eInt .u32)) (rdt_cells (arrE_rd (SP.get hs2127 (i := 4) rfl)) rfl hp2148 hq2149) hx2150 (j := 0) rfl) ?_
     obtain ⟨x2151, hp2152, hq2153, hx2154, H⟩ := idx_elim H
     refine In.step (k' := 16) rfl K ?_
     refine Step.elemA (e := (eInt .u32)) (l := v1219) (m := 8) (g := g43) (T := 82) (E := 81) (x := (.tmp 7)) (ix := (.const (.int .i64 (5)))) (ki := .i64) (iz := 5) (i := 4) (d := (some 83)) (k := 15) K rfl K K K K hs2127 rfl hp2152 hq2153 ?_
     refine In.step (k' := 17) rfl K ?_
     refine Step.cell (t := 81) (x := (.tmp 83)) (b := g43) (off := (0 + Int.toNat 5 * (eInt .u32).sz)) (v := (.int .u32 x2151)) (d := (some 84)) (k := 16) K rfl K K (elem_cell (e := (eInt .u32)) (rdt_cells (arrE_rd (SP.get hs2127 (i := 4) rfl)) rfl hp2152 hq2153) hx2154 (j := 0) rfl) ?_
     obtain ⟨x2155, hp2156, hq2157, hx2158, H⟩ := idx_elim H
     refine In.step (k' := 18) rfl K ?_
     refine Step.elemA (e := (eInt .u32)) (l := v1219) (m := 8) (g := g43) (T := 82) (E := 81) (x := (.tmp 7)) (ix := (.const (.int .i64 (6)))) (ki := .i64) (iz := 6) (i := 4) (d := (some 85)) (k := 17) K rfl K K K K hs2127 rfl hp2156 hq2157 ?_
     refine In.step (k' := 19) rfl K ?_
     refine Step.cell (t := 81) (x := (.tmp 85)) (b := g43) (off := (0 + Int.toNat 6 * (eInt .u32).sz)) (v := (.int .u32 x2155)) (d := (some 86)) (k := 18) K rfl K K (elem_cell (e := (eInt .u32)) (rdt_cells (arrE_rd (SP.get hs2127 (i := 4) rfl)) rfl hp2156 hq2157) hx2158 (j := 0) rfl) ?_
     refine In.run' 1 (k' := 20) rfl [(87, (.agg (cellsOf (eInt .u32) ([(IntKind.wrap .u32 ((IntKind.wrap .u32 ((IntKind.wrap .u32 ((IntKind.wrap .u32 ((IntKind.wrap .u32 (x1809 + z1817)) + (bXor .u32 (bAnd .u32 x1823 x1827) (bAnd .u32 (bXor .u32 (IntKind.max .u32) x1831) x1835)))) + x1839)) + x1843)) + (IntKind.wrap .u32 (z1984 + (bXor .u32 (bXor .u32 (bAnd .u32 x1990 x1994) (bAnd .u32 x1998 x2002)) (bAnd .u32 x2006 x2010)))))), x2131, x2135, x2139, (IntKind.wrap .u32 (x2143 + (IntKind.wrap .u32 ((IntKind.wrap .u32 ((IntKind.wrap .u32 ((IntKind.wrap .u32 (x1809 + z1817)) + (bXor .u32 (bAnd .u32 x1823 x1827) (bAnd .u32 (bXor .u32 (IntKind.max .u32) x1831) x1835)))) + x1839)) + x1843)))), x2147, x2151, x2155] : List Int)).toArray))] K ?_
     refine In.step (k' := 21) rfl K ?_
     refine Step.storeA (e := (eInt .u32)) (l := v1219) (l' := ([(IntKind.wrap .u32 ((IntKind.wrap .u32 ((IntKind.wrap .u32 ((IntKind.wrap .u32 ((IntKind.wrap .u32 (x1809 + z1817)) + (bXor .u32 (bAnd .u32 x1823 x1827) (bAnd .u32 (bXor .u32 (IntKind.max .u32) x1831) x1835)))) + x1839)) + x1843)) + (IntKind.wrap .u32 (z1984 + (bXor .u32 (bXor .u32 (bAnd .u32 x1990 x1994) (bAnd .u32 x1998 x2002)) (bAnd .u32 x2006 x2010)))))), x2131, x2135, x2139, (IntKind.wrap .u32 (x2143 + (IntKind.wrap .u32 ((IntKind.wrap .u32 ((IntKind.wrap .u32 ((IntKind.wrap .u32 (x1809 + z1817)) + (bXor .u32 (bAnd .u32 x1823 x1827) (bAnd .u32 (bXor .u32 (IntKind.max .u32) x1831) x1835)))) + x1839)) + x1843)))), x2147, x2151, x2155] : List Int)) (m := 8) (t := 82) (x := (.tmp 7)) (y := (.tmp 87)) (g := g43) (i := 4) (d := none) (k := 20) K rfl K K rfl hs2127 rfl K ?_
     intro w2159 (hs2161 : SP [] w0 w2159 [arrE 82 (eInt .u32) g7 8 p1, arrE 82 (eInt .u32) g11 8 (List.replicate 8 0), arrE 91 (eInt .u32) g22 64 z15, arrE 91 (eInt .u32) g36 64 z29, arrE 82 (eInt .u32) g43 8 ([(IntKind.wrap .u32 ((IntKind.wrap .u32 ((IntKind.wrap .u32 ((IntKind.wrap .u32 ((IntKind.wrap .u32 (x1809 + z1817)) + (bXor .u32 (bAnd .u32 x1823 x1827) (bAnd .u32 (bXor .u32 (IntKind.max .u32) x1831) x1835)))) + x1839)) + x1843)) + (IntKind.wrap .u32 (z1984 + (bXor .u32 (bXor .u32 (bAnd .u32 x1990 x1994) (bAnd .u32 x1998 x2002)) (bAnd .u32 x2006 x2010)))))), x2131, x2135, x2139, (IntKind.wrap .u32 (x2143 + (IntKind.wrap .u32 ((IntKind.wrap .u32 ((IntKind.wrap .u32 ((IntKind.wrap .u32 (x1809 + z1817)) + (bXor .u32 (bAnd .u32 x1823 x1827) (bAnd .u32 (bXor .u32 (IntKind.max .u32) x1831) x1835)))) + x1839)) + x1843)))), x2147, x2151, x2155] : List Int)])
     refine In.fin K ?_
     refine At.region K K ?_
     refine In.run' 3 (k' := 3) rfl [(18, (.int .i64 v1220)), (19, (.int .i64 (IntKind.wrap .i64 (v1220 + 1)))), (8, (.int .i64 (IntKind.wrap .i64 (v1220 + 1))))] K ?_
     refine In.fin K ?_
     exact ⟨([(IntKind.wrap .u32 ((IntKind.wrap .u32 ((IntKind.wrap .u32 ((IntKind.wrap .u32 ((IntKind.wrap .u32 (x1809 + z1817)) + (bXor .u32 (bAnd .u32 x1823 x1827) (bAnd .u32 (bXor .u32 (IntKind.max .u32) x1831) x1835)))) + x1839)) + x1843)) + (IntKind.wrap .u32 (z1984 + (bXor .u32 (bXor .u32 (bAnd .u32 x1990 x1994) (bAnd .u32 x1998 x2002)) (bAnd .u32 x2006 x2010)))))), x2131, x2135, x2139, (IntKind.wrap .u32 (x2143 + (IntKind.wrap .u32 ((IntKind.wrap .u32 ((IntKind.wrap .u32 ((IntKind.wrap .u32 (x1809 + z1817)) + (bXor .u32 (bAnd .u32 x1823 x1827) (bAnd .u32 (bXor .u32 (IntKind.max .u32) x1831) x1835)))) + x1839)) + x1843)))), x2147, x2151, x2155] : List Int), (IntKind.wrap .i64 (v1220 + 1)), ⟨K, K, K, K, K, K, trivial⟩, SP.sel hs2161 [0, 1, 2, 3, 4] rfl rfl, H⟩
  ·have H := cf H hb1808
   refine At.exit K (id := 0) K ?_
   refine At.sq K ?_
   refine At.sq K ?_
   refine At.region K K ?_
   refine In.run' 1 (k' := 1) rfl [(11, (.int .i64 0))] K ?_
   refine In.fin K ?_
   refine At.bk K (id := 2) K ?_
   refine At.lp K (fun f5 ρ w => ∃ (v2275 : (List Int)) (v2276 : Int), Known ρ [(2, (pt g7 0)), (4, (pt g11 0)), (7, (pt g43 0)), (11, (.int .i64 v2276))] ∧ SP [] w0 w [arrE 82 (eInt .u32) g7 8 v2275, arrE 82 (eInt .u32) g11 8 (List.replicate 8 0), arrE 82 (eInt .u32) g43 8 v1219] ∧ L_subwayref02_block_l5 (L_subwayref02_block_l3 p1 z15 z29 f4) v1219 f5 v2275 v2276 = some r) (by rintro ρ w ⟨v2275, v2276, hk, hs, H⟩; cases H) ?_ fuel ?_
   ·rintro f5 ρ w2273 ⟨v2275, v2276, hk, hs2274, H⟩
    refine At.known [(2, (pt g7 0)), (4, (pt g11 0)), (7, (pt g43 0)), (11, (.int .i64 v2276))] hk ?_
    replace H := (show L_subwayref02_block_b5 (L_subwayref02_block_l3 p1 z15 z29 f4) (L_subwayref02_block_l5 (L_subwayref02_block_l3 p1 z15 z29 f4) v1219 f5) v1219 v2275 v2276 = some r from H)
    unfold L_subwayref02_block_b5 at H
    have ha2331 := arrE_len (SP.get hs2274 (i := 0) rfl)
    have ha2332 := arrE_len (SP.get hs2274 (i := 1) rfl)
    have ha2333 := arrE_len (SP.get hs2274 (i := 2) rfl)
    refine At.sq K ?_
    refine At.sq K ?_
    refine At.region K K ?_
    refine In.run' 2 (k' := 2) rfl [(88, (.int .i64 v2276)), (89, (.bool (decide (v2276 < 8))))] K ?_
    refine In.fin K ?_
    refine At.cd K (o := (.tmp 89)) K (b := (decide (v2276 < 8))) K (fun hb2334 => ?_) (fun hb2334 => ?_)
    ·have H := ct H hb2334
     refine At.skip K ?_
     refine At.sq K ?_
     refine At.bk K (id := 3) K ?_
     obtain ⟨x2335, hp2336, hq2337, hx2338, H⟩ := idx_elim H
     obtain ⟨x2339, hp2340, hq2341, hx2342, H⟩ := idx_elim H
     obtain ⟨x2343, hp2344, hq2345, hx2346, H⟩ := idx_elim H
     replace H := some_bind_elim H
     obtain ⟨l2347, hyl2347⟩ : ∃ y, (List.set v2275 (Int.toNat v2276) (IntKind.wrap .u32 (x2335 + x2339))) = y := ⟨_, rfl⟩
     rw [hyl2347] at H
     have hnl2347 : List.length l2347 = List.length v2275 := by rw [← hyl2347, List.length_set]
     refine At.stages K K K K K [GEq (.int .i64 v2276), GEq (.int .i64 v2276), GElem0 (some ⟨g7, 0, none⟩) (eInt .u32).sz v2276, GEq (.int .u32 x2335), GEq (.int .i64 v2276), GElem0 (some ⟨g43, 0, none⟩) (eInt .u32).sz v2276, GEq (.int .u32 x2339), GEq (.int .u32 (IntKind.wrap .u32 (x2335 + x2339))), GElem0 (some ⟨g7, 0, none⟩) (eInt .u32).sz v2276, GAny] [9] [([], fun vs w => VL vs [] ∧ SP [] w0 w [arrE 82 (eInt .u32) g7 8 v2275, arrE 82 (eInt .u32) g11 8 (List.replicate 8 0), arrE 82 (eInt .u32) g43 8 v1219]), ([9], fun vs w => VL vs [undef] ∧ SP [] w0 w [arrE 82 (eInt .u32) g7 8 l2347, arrE 82 (eInt .u32) g11 8 (List.replicate 8 0), arrE 82 (eInt .u32) g43 8 v1219])] (N := 10) K ⟨K, Nat.zero_lt_succ _⟩ (show VL [] [] ∧ SP [] w0 w2273.drew [arrE 82 (eInt .u32) g7 8 v2275, arrE 82 (eInt .u32) g11 8 (List.replicate 8 0), arrE 82 (eInt .u32) g43 8 v1219] from ⟨trivial, SP.drew hs2274⟩) ⟨⟨⟨⟨⟨⟨⟨⟨⟨⟨trivial, ?_⟩, ?_⟩, ?_⟩, ?_⟩, ?_⟩, ?_⟩, ?_⟩, ?_⟩, ?_⟩, ?_⟩ (last := 1) K ?_
     ·exact Owe.run K [(11, (.int .i64 v2276))] ⟨gS K K, trivial⟩ (.int .i64 v2276) (fun _ _ => K) rfl
     ·exact Owe.run K [(11, (.int .i64 v2276))] ⟨gS K K, trivial⟩ (.int .i64 v2276) (fun _ _ => K) rfl
     ·refine Owe.light K [0] K (all_cons ?_ all_nil)
      ·rintro ρ' w' hs hah ⟨hvl2355, hs2354⟩
       have hkn : Known ρ' [(2, (pt g7 0)), (93, (.int .i64 v2276))] := ⟨(hs 2 K).trans K, hah 1 93 K, trivial⟩
       refine Step.known _ hkn ?_
       refine Step.elemA (e := (eInt .u32)) (l := v2275) (m := 8) (g := g7) (T := 82) (E := 81) (x := (.tmp 2)) (ix := (.tmp 93)) (ki := .i64) (iz := v2276) (i := 0) (d := (some 94)) (k := 2) K rfl K K K K hs2354 rfl hp2336 hq2337 ?_
       exact ⟨rfl, _, updO_known hkn, ⟨g7, 0, rfl, rfl⟩⟩
     ·refine Owe.light K [0] K (all_cons ?_ all_nil)
      ·rintro ρ' w' hs hah ⟨hvl2357, hs2356⟩
       obtain ⟨b2358, o2359, hA2360, e94⟩ := hah 2 94 K
       have hkn : Known ρ' [(94, (.pointer (some ⟨b2358, (o2359 + Int.toNat v2276 * (eInt .u32).sz), none⟩)))] := ⟨e94, trivial⟩
       refine Step.known _ hkn ?_
       refine Step.cell (t := 81) (x := (.tmp 94)) (b := b2358) (off := (o2359 + Int.toNat v2276 * (eInt .u32).sz)) (v := (.int .u32 x2335)) (d := (some 95)) (k := 3) K rfl K K (elem_cell (e := (eInt .u32)) (rdt_cells (arrE_rd (SP.get hs2356 (i := 0) rfl)) hA2360 hp2336 hq2337) hx2338 (j := 0) rfl) ?_
       exact ⟨rfl, _, updO_known hkn, rfl⟩
     ·exact Owe.run K [(11, (.int .i64 v2276))] ⟨gS K K, trivial⟩ (.int .i64 v2276) (fun _ _ => K) rfl
     ·refine Owe.light K [0] K (all_cons ?_ all_nil)
      ·rintro ρ' w' hs hah ⟨hvl2362, hs2361⟩
       have hkn : Known ρ' [(7, (pt g43 0)), (96, (.int .i64 v2276))] := ⟨(hs 7 K).trans K, hah 4 96 K, trivial⟩
       refine Step.known _ hkn ?_
       refine Step.elemA (e := (eInt .u32)) (l := v1219) (m := 8) (g := g43) (T := 82) (E := 81) (x := (.tmp 7)) (ix := (.tmp 96)) (ki := .i64) (iz := v2276) (i := 2) (d := (some 97)) (k := 5) K rfl K K K K hs2361 rfl hp2340 hq2341 ?_
       exact ⟨rfl, _, updO_known hkn, ⟨g43, 0, rfl, rfl⟩⟩
     ·refine Owe.light K [0] K (all_cons ?_ all_nil)
      ·rintro ρ' w' hs hah ⟨hvl2364, hs2363⟩
       obtain ⟨b2365, o2366, hA2367, e97⟩ := hah 5 97 K
       have hkn : Known ρ' [(97, (.pointer (some ⟨b2365, (o2366 + Int.toNat v2276 * (eInt .u32).sz), none⟩)))] := ⟨e97, trivial⟩
       refine Step.known _ hkn ?_
       refine Step.cell (t := 81) (x := (.tmp 97)) (b := b2365) (off := (o2366 + Int.toNat v2276 * (eInt .u32).sz)) (v := (.int .u32 x2339)) (d := (some 98)) (k := 6) K rfl K K (elem_cell (e := (eInt .u32)) (rdt_cells (arrE_rd (SP.get hs2363 (i := 2) rfl)) hA2367 hp2340 hq2341) hx2342 (j := 0) rfl) ?_
       exact ⟨rfl, _, updO_known hkn, rfl⟩
     ·exact Owe.run K [(95, (.int .u32 x2335)), (98, (.int .u32 x2339))] ⟨gA 3 K K, gA 6 K K, trivial⟩ (.int .u32 (IntKind.wrap .u32 (x2335 + x2339))) (fun _ _ => K) rfl
     ·refine Owe.light K [0] K (all_cons ?_ all_nil)
      ·rintro ρ' w' hs hah ⟨hvl2369, hs2368⟩
       have hkn : Known ρ' [(2, (pt g7 0)), (92, (.int .i64 v2276))] := ⟨(hs 2 K).trans K, hah 0 92 K, trivial⟩
       refine Step.known _ hkn ?_
       refine Step.elemA (e := (eInt .u32)) (l := v2275) (m := 8) (g := g7) (T := 82) (E := 81) (x := (.tmp 2)) (ix := (.tmp 92)) (ki := .i64) (iz := v2276) (i := 0) (d := (some 100)) (k := 8) K rfl K K K K hs2368 rfl hp2344 hq2345 ?_
       exact ⟨rfl, _, updO_known hkn, ⟨g7, 0, rfl, rfl⟩⟩
     ·refine Owe.heavy K [(0, 1)] K (all_cons ⟨K, K, ?_⟩ all_nil)
      ·rintro ρ' w' hs hah ⟨hvl2371, hs2370⟩
       obtain ⟨b2372, o2373, hA2374, e100⟩ := hah 8 100 K
       have hkn : Known ρ' [(100, (.pointer (some ⟨b2372, (o2373 + Int.toNat v2276 * (eInt .u32).sz), none⟩))), (99, (.int .u32 (IntKind.wrap .u32 (x2335 + x2339))))] := ⟨e100, hah 7 99 K, trivial⟩
       refine Step.known _ hkn ?_
       refine Step.storeElemA (e := (eInt .u32)) (t := 81) (x := (.tmp 100)) (y := (.tmp 99)) (l := v2275) (iz := v2276) (m := 8) (g := g7) (b := b2372) (off := o2373) (i := 0) (v := (.int .u32 (IntKind.wrap .u32 (x2335 + x2339)))) (x' := (IntKind.wrap .u32 (x2335 + x2339))) (d := none) (k := 9) K rfl hA2374 K K hs2370 rfl rfl hq2345 hp2344 rfl K ?_
       rw [hyl2347]
       intro w2375 (hs2377 : SP [] w0 w2375 [arrE 82 (eInt .u32) g7 8 l2347, arrE 82 (eInt .u32) g11 8 (List.replicate 8 0), arrE 82 (eInt .u32) g43 8 v1219])
       refine ⟨_, updO_known hkn, trivial, ?_⟩
       exact (And.intro (And.intro rfl (trivial)) (hs2377))
     ·rintro ρ' w' hs hf ⟨⟨q2379, -⟩, hs2378⟩
      refine postKnown [(2, (pt g7 0)), (4, (pt g11 0)), (7, (pt g43 0)), (11, (.int .i64 v2276))] ⟨(hs 2 K).trans K, (hs 4 K).trans K, (hs 7 K).trans K, (hs 11 K).trans K, trivial⟩ ?_
      obtain ⟨w2381, hww2381⟩ : ∃ x, w' = x := ⟨_, rfl⟩
      rw [hww2381] at hs2378 ⊢
      refine At.region K K ?_
      refine In.run' 3 (k' := 3) rfl [(90, (.int .i64 v2276)), (91, (.int .i64 (IntKind.wrap .i64 (v2276 + 1)))), (11, (.int .i64 (IntKind.wrap .i64 (v2276 + 1))))] K ?_
      refine In.fin K ?_
      exact ⟨l2347, (IntKind.wrap .i64 (v2276 + 1)), ⟨K, K, K, K, trivial⟩, SP.sel hs2378 [0, 1, 2] rfl rfl, H⟩
    ·have H := cf H hb2334
     refine At.exit K (id := 2) K ?_
     refine At.sq K ?_
     refine At.region K K ?_
     refine In.step (k' := 1) rfl K ?_
     refine Step.loadA (e := (eInt .u32)) (l := v2275) (m := 8) (t := 82) (x := (.tmp 2)) (g := g7) (i := 0) (d := (some 101)) (k := 0) K rfl K hs2274 rfl K K ?_
     refine In.step (k' := 2) rfl K ?_
     refine Step.storeA (e := (eInt .u32)) (l := (List.replicate 8 0)) (l' := v2275) (m := 8) (t := 82) (x := (.tmp 4)) (y := (.tmp 101)) (g := g11) (i := 1) (d := none) (k := 1) K rfl K K ha2331 hs2274 rfl K ?_
     intro w2382 (hs2384 : SP [] w0 w2382 [arrE 82 (eInt .u32) g7 8 v2275, arrE 82 (eInt .u32) g11 8 v2275, arrE 82 (eInt .u32) g43 8 v1219])
     refine In.fin K ?_
     refine At.ret K ?_
     refine ⟨(.agg (cellsOf (eInt .u32) v2275).toArray), res_1 K (rv_cellA (e := (eInt .u32)) (l := v2275) (a := 4) (t := 82) K (SP.get hs2384 (i := 1) rfl) K K), ?_⟩
     obtain rfl := some_elim H
     exact ⟨rfl, SP.sel hs2384 [] rfl rfl⟩
   ·exact ⟨p1, 0, ⟨K, K, K, K, trivial⟩, SP.sel hs1218 [0, 1, 4] rfl rfl, H⟩
 ·exact ⟨p1, 0, ⟨K, K, K, K, K, K, trivial⟩, SP.sel hs49 [0, 1, 2, 3, 4] rfl rfl, H⟩
/-! L_subwayref02_Sum -/
def L_subwayref02_Sum_b85 (rec64 : (List UInt8) → Option ((List UInt8))) (rec80 : (List UInt8) → Int → Option ((List UInt8))) (rec84 : (List Int) → Int → Option ((List UInt8))) (rec85 : (List UInt8) → Int → Option ((List UInt8))) (v9276 : (List Int)) (v9516 : (List UInt8)) (v9517 : Int) : Option ((List UInt8)) :=
  (cond (decide (v9517 < 32)) ((idx v9276 (IntKind.wrap .i64 (Int.tdiv v9517 4))).bind fun x9542 => ((chk (decide (0 ≤ (IntKind.wrap .i64 (24 - (IntKind.wrap .i64 (8 * (Int.tmod v9517 4)))))))).bind fun _ => ((idx v9516 v9517).bind fun x9547 => ((some (List.set v9516 (Int.toNat v9517) (toU8 (IntKind.wrap .u8 (bShr .u32 x9542 (IntKind.wrap .i64 (24 - (IntKind.wrap .i64 (8 * (Int.tmod v9517 4)))))))))).bind fun l9551 => (rec85 l9551 (IntKind.wrap .i64 (v9517 + 1))))))) (some (v9516)))
def L_subwayref02_Sum_l85 (rec64 : (List UInt8) → Option ((List UInt8))) (rec80 : (List UInt8) → Int → Option ((List UInt8))) (rec84 : (List Int) → Int → Option ((List UInt8))) (v9276 : (List Int)) : Nat → (List UInt8) → Int → Option ((List UInt8))
  | 0, _, _ => none
  | f + 1, v9516, v9517 => L_subwayref02_Sum_b85 rec64 rec80 rec84 (L_subwayref02_Sum_l85 rec64 rec80 rec84 v9276 f) v9276 v9516 v9517
def L_subwayref02_Sum_b83 (rec64 : (List UInt8) → Option ((List UInt8))) (rec80 : (List UInt8) → Int → Option ((List UInt8))) (rec84 : (List Int) → Int → Option ((List UInt8))) (v8380 : (List UInt8)) (v9276 : (List Int)) (v9277 : Int) : Option ((List UInt8)) :=
  (cond (decide (v9277 < ((List.length v8380 : Nat) : Int))) ((sub v8380 v9277 (IntKind.wrap .i64 (v9277 + 64))).bind fun l9424 => ((L_subwayref02_block v9276 l9424).bind fun z9425 => ((chk (Nat.beq (List.length z9425) 8)).bind fun _ => (rec84 z9425 (IntKind.wrap .i64 (v9277 + 64)))))) (L_subwayref02_Sum_l85 rec64 rec80 rec84 v9276 fuel (List.replicate 32 (0 : UInt8)) 0))
def L_subwayref02_Sum_l83 (rec64 : (List UInt8) → Option ((List UInt8))) (rec80 : (List UInt8) → Int → Option ((List UInt8))) (v8380 : (List UInt8)) : Nat → (List Int) → Int → Option ((List UInt8))
  | 0, _, _ => none
  | f + 1, v9276, v9277 => L_subwayref02_Sum_b83 rec64 rec80 (L_subwayref02_Sum_l83 rec64 rec80 v8380 f) v8380 v9276 v9277
def L_subwayref02_Sum_b75 (rec64 : (List UInt8) → Option ((List UInt8))) (rec80 : (List UInt8) → Int → Option ((List UInt8))) (p1 : (List UInt8)) (v8380 : (List UInt8)) (v8381 : Int) : Option ((List UInt8)) :=
  (cond (decide (v8381 ≥ 0)) ((chk (decide (0 ≤ (IntKind.wrap .i64 (8 * v8381))))).bind fun _ => ((app v8380 ([(toU8 (IntKind.wrap .u8 (bShr .i64 (IntKind.wrap .i64 (8 * ((List.length p1 : Nat) : Int))) (IntKind.wrap .i64 (8 * v8381)))))] : List UInt8)).bind fun l8978 => (rec80 l8978 (IntKind.wrap .i64 (v8381 - 1))))) (L_subwayref02_Sum_l83 rec64 rec80 v8380 fuel ([1779033703, 3144134277, 1013904242, 2773480762, 1359893119, 2600822924, 528734635, 1541459225] : List Int) 0))
def L_subwayref02_Sum_l75 (rec64 : (List UInt8) → Option ((List UInt8))) (p1 : (List UInt8)) : Nat → (List UInt8) → Int → Option ((List UInt8))
  | 0, _, _ => none
  | f + 1, v8380, v8381 => L_subwayref02_Sum_b75 rec64 (L_subwayref02_Sum_l75 rec64 p1 f) p1 v8380 v8381
def L_subwayref02_Sum_b43 (rec64 : (List UInt8) → Option ((List UInt8))) (p1 : (List UInt8)) (v4799 : (List UInt8)) : Option ((List UInt8)) :=
  (cond ((Int.tmod ((List.length v4799 : Nat) : Int) 64) != 56) ((app v4799 ([(0 : UInt8)] : List UInt8)).bind fun l7186 => (rec64 l7186)) (L_subwayref02_Sum_l75 rec64 p1 fuel v4799 7))
def L_subwayref02_Sum_l43 (p1 : (List UInt8)) : Nat → (List UInt8) → Option ((List UInt8))
  | 0, _ => none
  | f + 1, v4799 => L_subwayref02_Sum_b43  (L_subwayref02_Sum_l43 p1 f) p1 v4799
def L_subwayref02_Sum (p1 : (List UInt8)) : Option ((List UInt8)) :=
  ((app ([] : List UInt8) p1).bind fun l14 => ((app l14 ([(128 : UInt8)] : List UInt8)).bind fun l25 => (L_subwayref02_Sum_l43 p1 fuel l25)))
set_option maxRecDepth 100000 in
set_option maxHeartbeats 4000000 in
theorem L_subwayref02_Sum_walk (A2 : Option Addr) (c3 : Nat) (p1 : (List UInt8)) (w0 : World) (hr4 : RdT eU8 w0 A2 c3 p1) (r : ((List UInt8))) (H : L_subwayref02_Sum p1 = some r) :
  Calls Tryd.prog 38 #[(.slice A2 (List.length p1) c3)] w0 (fun e w' => e = .returned (.agg (cellsOf eU8 r).toArray) ∧ SP [] w0 w' []) := by
 unfold L_subwayref02_Sum at H
 refine calls_go (n := 68) Tryd.func38 K K K ?_
 have hs0 := SP.start [] w0
 refine At.sq K ?_
 refine At.region K K ?_
 refine In.step (k' := 1) rfl K ?_
 refine Step.allocA (e := eU8) (l := (List.replicate 32 (0 : UInt8))) (m := 32) (t := 69) (z := .agg (cellsOf eU8 (List.replicate 32 (0 : UInt8))).toArray) (d := (some 2)) (k := 0) K rfl K rfl rfl K hs0 ?_
 intro g5 w6 (hs8 : SP [] w0 w6 [arrE 69 eU8 g5 32 (List.replicate 32 (0 : UInt8))])
 refine In.fin K ?_
 refine At.sq K ?_
 refine At.region K K ?_
 refine In.step (k' := 1) rfl K ?_
 refine Step.newSlice (e := eU8) (T := 50) (E := 5) (len := 0) (parts := #[]) (cs := #[]) ([] : List UInt8) (d := (some 10)) (k := 0) K rfl (fun _ => K) hs8 rfl rfl rfl rfl ?_
 intro g9 w10 (hs12 : SP [] w0 w10 [arrE 69 eU8 g5 32 (List.replicate 32 (0 : UInt8)), rowT 5 eU8 (some ⟨g9, 0, none⟩) (List.length ([] : List UInt8)) ([] : List UInt8)])
 refine In.run' 1 (k' := 2) rfl [(11, (.slice A2 (List.length p1) c3))] K ?_
 obtain ⟨hl13, H⟩ := app_elim H
 obtain ⟨l14, hyl14⟩ : ∃ y, ([] : List UInt8) ++ p1 = y := ⟨_, rfl⟩
 rw [hyl14] at H
 refine In.step (k' := 3) rfl K ?_
 refine Step.append (e := eU8) (l := ([] : List UInt8)) (m := p1) (A := (some ⟨g9, 0, none⟩)) (c := (List.length ([] : List UInt8))) (T := 50) (TX := 50) (E := 5) (b := 1) (s := (.tmp 10)) (x := (.tmp 11)) (i := 1) (vx := (.slice A2 (List.length p1) c3)) (d := (some 12)) (k := 2) K rfl K K K K rfl hs12 rfl (src_rdt (E := 5) K (RdT.sp hr4 hs12)) hl13 ?_
 rw [hyl14]
 intro A15 c16 w17 (hs19 : SP [] w0 w17 [arrE 69 eU8 g5 32 (List.replicate 32 (0 : UInt8)), rowT 5 eU8 A15 c16 l14])
 refine In.step (k' := 4) rfl K ?_
 refine Step.newSlice (e := eU8) (T := 50) (E := 5) (len := 1) (parts := #[(0, (.const (.int .u8 (128))))]) (cs := #[(.int .u8 128)]) ([(128 : UInt8)] : List UInt8) (d := (some 13)) (k := 3) K rfl (fun _ => K) hs19 (cells_cons8 (Or.inl rfl) rfl) rfl rfl rfl ?_
 intro g20 w21 (hs23 : SP [] w0 w21 [arrE 69 eU8 g5 32 (List.replicate 32 (0 : UInt8)), rowT 5 eU8 A15 c16 l14, rowT 5 eU8 (some ⟨g20, 0, none⟩) (List.length ([(128 : UInt8)] : List UInt8)) ([(128 : UInt8)] : List UInt8)])
 obtain ⟨hl24, H⟩ := app_elim H
 obtain ⟨l25, hyl25⟩ : ∃ y, l14 ++ ([(128 : UInt8)] : List UInt8) = y := ⟨_, rfl⟩
 rw [hyl25] at H
 refine In.step (k' := 5) rfl K ?_
 refine Step.append (e := eU8) (l := l14) (m := ([(128 : UInt8)] : List UInt8)) (A := A15) (c := c16) (T := 50) (TX := 50) (E := 5) (b := 1) (s := (.tmp 12)) (x := (.tmp 13)) (i := 1) (vx := (.slice (some ⟨g20, 0, none⟩) (List.length ([(128 : UInt8)] : List UInt8)) (List.length ([(128 : UInt8)] : List UInt8)))) (d := (some 14)) (k := 4) K rfl K K K K rfl hs23 rfl (src_rdt (E := 5) K (rowT_rd (SP.get hs23 (i := 2) rfl))) hl24 ?_
 rw [hyl25]
 intro A26 c27 w28 (hs30 : SP [] w0 w28 [arrE 69 eU8 g5 32 (List.replicate 32 (0 : UInt8)), rowT 5 eU8 A26 c27 l25, rowT 5 eU8 (some ⟨g20, 0, none⟩) (List.length ([(128 : UInt8)] : List UInt8)) ([(128 : UInt8)] : List UInt8)])
 refine In.run' 1 (k' := 6) rfl [(3, (.slice A26 (List.length l25) c27))] K ?_
 refine In.fin K ?_
 refine At.sq K ?_
 refine At.bk K (id := 0) K ?_
 refine At.lp K (fun f64 ρ w => ∃ (v4799 : (List UInt8)) (A4797 : Option Addr) (c4798 : Nat), Known ρ [(0, (.slice A2 (List.length p1) c3)), (2, (pt g5 0)), (3, (.slice A4797 (List.length v4799) c4798))] ∧ SP [] w0 w [arrE 69 eU8 g5 32 (List.replicate 32 (0 : UInt8)), rowT 5 eU8 A4797 c4798 v4799] ∧ L_subwayref02_Sum_l43 p1 f64 v4799 = some r) (by rintro ρ w ⟨v4799, A4797, c4798, hk, hs, H⟩; cases H) ?_ fuel ?_
 ·rintro f64 ρ w4795 ⟨v4799, A4797, c4798, hk, hs4796, H⟩
  refine At.known [(0, (.slice A2 (List.length p1) c3)), (2, (pt g5 0)), (3, (.slice A4797 (List.length v4799) c4798))] hk ?_
  replace H := (show L_subwayref02_Sum_b43 (L_subwayref02_Sum_l43 p1 f64) p1 v4799 = some r from H)
  unfold L_subwayref02_Sum_b43 at H
  have ha7179 := arrE_len (SP.get hs4796 (i := 0) rfl)
  refine At.sq K ?_
  refine At.sq K ?_
  refine At.region K K ?_
  refine In.run' 4 (k' := 4) rfl [(15, (.slice A4797 (List.length v4799) c4798)), (16, (.int .i64 ((List.length v4799 : Nat) : Int))), (17, (.int .i64 (Int.tmod ((List.length v4799 : Nat) : Int) 64))), (18, (.bool ((Int.tmod ((List.length v4799 : Nat) : Int) 64) != 56)))] K ?_
  refine In.fin K ?_
  refine At.cd K (o := (.tmp 18)) K (b := ((Int.tmod ((List.length v4799 : Nat) : Int) 64) != 56)) K (fun hb7180 => ?_) (fun hb7180 => ?_)
  ·have H := ct H hb7180
   refine At.skip K ?_
   refine At.bk K (id := 1) K ?_
   refine At.region K K ?_
   refine In.run' 1 (k' := 1) rfl [(19, (.slice A4797 (List.length v4799) c4798))] K ?_
   refine In.step (k' := 2) rfl K ?_
   refine Step.newSlice (e := eU8) (T := 50) (E := 5) (len := 1) (parts := #[(0, (.const (.int .u8 (0))))]) (cs := #[(.int .u8 0)]) ([(0 : UInt8)] : List UInt8) (d := (some 20)) (k := 1) K rfl (fun _ => K) hs4796 (cells_cons8 (Or.inl rfl) rfl) rfl rfl rfl ?_
   intro g7181 w7182 (hs7184 : SP [] w0 w7182 [arrE 69 eU8 g5 32 (List.replicate 32 (0 : UInt8)), rowT 5 eU8 A4797 c4798 v4799, rowT 5 eU8 (some ⟨g7181, 0, none⟩) (List.length ([(0 : UInt8)] : List UInt8)) ([(0 : UInt8)] : List UInt8)])
   obtain ⟨hl7185, H⟩ := app_elim H
   obtain ⟨l7186, hyl7186⟩ : ∃ y, v4799 ++ ([(0 : UInt8)] : List UInt8) = y := ⟨_, rfl⟩
   rw [hyl7186] at H
   refine In.step (k' := 3) rfl K ?_
   refine Step.append (e := eU8) (l := v4799) (m := ([(0 : UInt8)] : List UInt8)) (A := A4797) (c := c4798) (T := 50) (TX := 50) (E := 5) (b := 1) (s := (.tmp 19)) (x := (.tmp 20)) (i := 1) (vx := (.slice (some ⟨g7181, 0, none⟩) (List.length ([(0 : UInt8)] : List UInt8)) (List.length ([(0 : UInt8)] : List UInt8)))) (d := (some 21)) (k := 2) K rfl K K K K rfl hs7184 rfl (src_rdt (E := 5) K (rowT_rd (SP.get hs7184 (i := 2) rfl))) hl7185 ?_
   rw [hyl7186]
   intro A7187 c7188 w7189 (hs7191 : SP [] w0 w7189 [arrE 69 eU8 g5 32 (List.replicate 32 (0 : UInt8)), rowT 5 eU8 A7187 c7188 l7186, rowT 5 eU8 (some ⟨g7181, 0, none⟩) (List.length ([(0 : UInt8)] : List UInt8)) ([(0 : UInt8)] : List UInt8)])
   refine In.run' 1 (k' := 4) rfl [(3, (.slice A7187 (List.length l7186) c7188))] K ?_
   refine In.fin K ?_
   exact ⟨l7186, A7187, c7188, ⟨K, K, K, trivial⟩, SP.sel hs7191 [0, 1] rfl rfl, H⟩
  ·have H := cf H hb7180
   refine At.exit K (id := 0) K ?_
   refine At.sq K ?_
   refine At.region K K ?_
   refine In.run' 4 (k' := 4) rfl [(22, (.slice A2 (List.length p1) c3)), (23, (.int .i64 ((List.length p1 : Nat) : Int))), (24, (.int .i64 (IntKind.wrap .i64 (8 * ((List.length p1 : Nat) : Int))))), (4, (.int .i64 (IntKind.wrap .i64 (8 * ((List.length p1 : Nat) : Int)))))] K ?_
   refine In.fin K ?_
   refine At.sq K ?_
   refine At.sq K ?_
   refine At.region K K ?_
   refine In.run' 1 (k' := 1) rfl [(5, (.int .i64 7))] K ?_
   refine In.fin K ?_
   refine At.bk K (id := 2) K ?_
   refine At.lp K (fun f80 ρ w => ∃ (v8380 : (List UInt8)) (v8381 : Int) (A8378 : Option Addr) (c8379 : Nat), Known ρ [(2, (pt g5 0)), (3, (.slice A8378 (List.length v8380) c8379)), (4, (.int .i64 (IntKind.wrap .i64 (8 * ((List.length p1 : Nat) : Int))))), (5, (.int .i64 v8381))] ∧ SP [] w0 w [arrE 69 eU8 g5 32 (List.replicate 32 (0 : UInt8)), rowT 5 eU8 A8378 c8379 v8380] ∧ L_subwayref02_Sum_l75 (L_subwayref02_Sum_l43 p1 f64) p1 f80 v8380 v8381 = some r) (by rintro ρ w ⟨v8380, v8381, A8378, c8379, hk, hs, H⟩; cases H) ?_ fuel ?_
   ·rintro f80 ρ w8376 ⟨v8380, v8381, A8378, c8379, hk, hs8377, H⟩
    refine At.known [(2, (pt g5 0)), (3, (.slice A8378 (List.length v8380) c8379)), (4, (.int .i64 (IntKind.wrap .i64 (8 * ((List.length p1 : Nat) : Int))))), (5, (.int .i64 v8381))] hk ?_
    replace H := (show L_subwayref02_Sum_b75 (L_subwayref02_Sum_l43 p1 f64) (L_subwayref02_Sum_l75 (L_subwayref02_Sum_l43 p1 f64) p1 f80) p1 v8380 v8381 = some r from H)
    unfold L_subwayref02_Sum_b75 at H
    have ha8970 := arrE_len (SP.get hs8377 (i := 0) rfl)
    refine At.sq K ?_
    refine At.sq K ?_
    refine At.region K K ?_
    refine In.run' 2 (k' := 2) rfl [(25, (.int .i64 v8381)), (26, (.bool (decide (v8381 ≥ 0))))] K ?_
    refine In.fin K ?_
    refine At.cd K (o := (.tmp 26)) K (b := (decide (v8381 ≥ 0))) K (fun hb8971 => ?_) (fun hb8971 => ?_)
    ·have H := ct H hb8971
     refine At.skip K ?_
     refine At.sq K ?_
     refine At.bk K (id := 3) K ?_
     refine At.region K K ?_
     refine In.run' 4 (k' := 4) rfl [(29, (.slice A8378 (List.length v8380) c8379)), (30, (.int .i64 (IntKind.wrap .i64 (8 * ((List.length p1 : Nat) : Int))))), (31, (.int .i64 v8381)), (32, (.int .i64 (IntKind.wrap .i64 (8 * v8381))))] K ?_
     obtain ⟨hl8972, H⟩ := chk_elim H
     refine In.step (k' := 5) rfl K ?_
     refine Step.shift (op := .shr) (T := 3) (T' := 3) (x := (.tmp 30)) (y := (.tmp 32)) (kx := .i64) (ky := .i64) (a := (IntKind.wrap .i64 (8 * ((List.length p1 : Nat) : Int)))) (b := (IntKind.wrap .i64 (8 * v8381))) (v := (.int .i64 (bShr .i64 (IntKind.wrap .i64 (8 * ((List.length p1 : Nat) : Int))) (IntKind.wrap .i64 (8 * v8381))))) (d := (some 33)) (k := 4) K rfl K K (of_decide_eq_true hl8972) rfl ?_
     refine In.run' 1 (k' := 6) rfl [(34, (.int .u8 (IntKind.wrap .u8 (bShr .i64 (IntKind.wrap .i64 (8 * ((List.length p1 : Nat) : Int))) (IntKind.wrap .i64 (8 * v8381))))))] K ?_
     refine In.step (k' := 7) rfl K ?_
     refine Step.newSlice (e := eU8) (T := 50) (E := 5) (len := 1) (parts := #[(0, (.tmp 34))]) (cs := #[(.int .u8 (IntKind.wrap .u8 (bShr .i64 (IntKind.wrap .i64 (8 * ((List.length p1 : Nat) : Int))) (IntKind.wrap .i64 (8 * v8381)))))]) ([(toU8 (IntKind.wrap .u8 (bShr .i64 (IntKind.wrap .i64 (8 * ((List.length p1 : Nat) : Int))) (IntKind.wrap .i64 (8 * v8381)))))] : List UInt8) (d := (some 35)) (k := 6) K rfl (fun _ => K) hs8377 (cells_cons8 (Or.inr ⟨rfl, (u8_wrap _)⟩) rfl) rfl rfl rfl ?_
     intro g8973 w8974 (hs8976 : SP [] w0 w8974 [arrE 69 eU8 g5 32 (List.replicate 32 (0 : UInt8)), rowT 5 eU8 A8378 c8379 v8380, rowT 5 eU8 (some ⟨g8973, 0, none⟩) (List.length ([(toU8 (IntKind.wrap .u8 (bShr .i64 (IntKind.wrap .i64 (8 * ((List.length p1 : Nat) : Int))) (IntKind.wrap .i64 (8 * v8381)))))] : List UInt8)) ([(toU8 (IntKind.wrap .u8 (bShr .i64 (IntKind.wrap .i64 (8 * ((List.length p1 : Nat) : Int))) (IntKind.wrap .i64 (8 * v8381)))))] : List UInt8)])
     obtain ⟨hl8977, H⟩ := app_elim H
     obtain ⟨l8978, hyl8978⟩ : ∃ y, v8380 ++ ([(toU8 (IntKind.wrap .u8 (bShr .i64 (IntKind.wrap .i64 (8 * ((List.length p1 : Nat) : Int))) (IntKind.wrap .i64 (8 * v8381)))))] : List UInt8) = y := ⟨_, rfl⟩
     rw [hyl8978] at H
     refine In.step (k' := 8) rfl K ?_
     refine Step.append (e := eU8) (l := v8380) (m := ([(toU8 (IntKind.wrap .u8 (bShr .i64 (IntKind.wrap .i64 (8 * ((List.length p1 : Nat) : Int))) (IntKind.wrap .i64 (8 * v8381)))))] : List UInt8)) (A := A8378) (c := c8379) (T := 50) (TX := 50) (E := 5) (b := 1) (s := (.tmp 29)) (x := (.tmp 35)) (i := 1) (vx := (.slice (some ⟨g8973, 0, none⟩) (List.length ([(toU8 (IntKind.wrap .u8 (bShr .i64 (IntKind.wrap .i64 (8 * ((List.length p1 : Nat) : Int))) (IntKind.wrap .i64 (8 * v8381)))))] : List UInt8)) (List.length ([(toU8 (IntKind.wrap .u8 (bShr .i64 (IntKind.wrap .i64 (8 * ((List.length p1 : Nat) : Int))) (IntKind.wrap .i64 (8 * v8381)))))] : List UInt8)))) (d := (some 36)) (k := 7) K rfl K K K K rfl hs8976 rfl (src_rdt (E := 5) K (rowT_rd (SP.get hs8976 (i := 2) rfl))) hl8977 ?_
     rw [hyl8978]
     intro A8979 c8980 w8981 (hs8983 : SP [] w0 w8981 [arrE 69 eU8 g5 32 (List.replicate 32 (0 : UInt8)), rowT 5 eU8 A8979 c8980 l8978, rowT 5 eU8 (some ⟨g8973, 0, none⟩) (List.length ([(toU8 (IntKind.wrap .u8 (bShr .i64 (IntKind.wrap .i64 (8 * ((List.length p1 : Nat) : Int))) (IntKind.wrap .i64 (8 * v8381)))))] : List UInt8)) ([(toU8 (IntKind.wrap .u8 (bShr .i64 (IntKind.wrap .i64 (8 * ((List.length p1 : Nat) : Int))) (IntKind.wrap .i64 (8 * v8381)))))] : List UInt8)])
     refine In.run' 1 (k' := 9) rfl [(3, (.slice A8979 (List.length l8978) c8980))] K ?_
     refine In.fin K ?_
     refine At.region K K ?_
     refine In.run' 3 (k' := 3) rfl [(27, (.int .i64 v8381)), (28, (.int .i64 (IntKind.wrap .i64 (v8381 - 1)))), (5, (.int .i64 (IntKind.wrap .i64 (v8381 - 1))))] K ?_
     refine In.fin K ?_
     exact ⟨l8978, (IntKind.wrap .i64 (v8381 - 1)), A8979, c8980, ⟨K, K, K, K, trivial⟩, SP.sel hs8983 [0, 1] rfl rfl, H⟩
    ·have H := cf H hb8971
     refine At.exit K (id := 2) K ?_
     refine At.sq K ?_
     refine At.region K K ?_
     refine In.run' 1 (k' := 1) rfl [(37, (.agg (cellsOf (eInt .u32) ([1779033703, 3144134277, 1013904242, 2773480762, 1359893119, 2600822924, 528734635, 1541459225] : List Int)).toArray))] K ?_
     refine In.step (k' := 2) rfl K ?_
     refine Step.allocA (e := (eInt .u32)) (l := (List.replicate 8 0)) (m := 8) (t := 82) (z := .agg (cellsOf (eInt .u32) (List.replicate 8 0)).toArray) (d := (some 6)) (k := 1) K rfl K rfl rfl K hs8377 ?_
     intro g8984 w8985 (hs8987 : SP [] w0 w8985 [arrE 69 eU8 g5 32 (List.replicate 32 (0 : UInt8)), rowT 5 eU8 A8378 c8379 v8380, arrE 82 (eInt .u32) g8984 8 (List.replicate 8 0)])
     refine In.step (k' := 3) rfl K ?_
     refine Step.storeA (e := (eInt .u32)) (l := (List.replicate 8 0)) (l' := ([1779033703, 3144134277, 1013904242, 2773480762, 1359893119, 2600822924, 528734635, 1541459225] : List Int)) (m := 8) (t := 82) (x := (.tmp 6)) (y := (.tmp 37)) (g := g8984) (i := 2) (d := none) (k := 2) K rfl K K rfl hs8987 rfl K ?_
     intro w8988 (hs8990 : SP [] w0 w8988 [arrE 69 eU8 g5 32 (List.replicate 32 (0 : UInt8)), rowT 5 eU8 A8378 c8379 v8380, arrE 82 (eInt .u32) g8984 8 ([1779033703, 3144134277, 1013904242, 2773480762, 1359893119, 2600822924, 528734635, 1541459225] : List Int)])
     refine In.fin K ?_
     refine At.sq K ?_
     refine At.sq K ?_
     refine At.region K K ?_
     refine In.run' 1 (k' := 1) rfl [(7, (.int .i64 0))] K ?_
     refine In.fin K ?_
     refine At.bk K (id := 4) K ?_
     refine At.lp K (fun f84 ρ w => ∃ (v9276 : (List Int)) (v9277 : Int), Known ρ [(2, (pt g5 0)), (3, (.slice A8378 (List.length v8380) c8379)), (6, (pt g8984 0)), (7, (.int .i64 v9277))] ∧ SP [] w0 w [arrE 69 eU8 g5 32 (List.replicate 32 (0 : UInt8)), arrE 82 (eInt .u32) g8984 8 v9276, rowT 5 eU8 A8378 c8379 v8380] ∧ L_subwayref02_Sum_l83 (L_subwayref02_Sum_l43 p1 f64) (L_subwayref02_Sum_l75 (L_subwayref02_Sum_l43 p1 f64) p1 f80) v8380 f84 v9276 v9277 = some r) (by rintro ρ w ⟨v9276, v9277, hk, hs, H⟩; cases H) ?_ fuel ?_
     ·rintro f84 ρ w9274 ⟨v9276, v9277, hk, hs9275, H⟩
      refine At.known [(2, (pt g5 0)), (3, (.slice A8378 (List.length v8380) c8379)), (6, (pt g8984 0)), (7, (.int .i64 v9277))] hk ?_
      replace H := (show L_subwayref02_Sum_b83 (L_subwayref02_Sum_l43 p1 f64) (L_subwayref02_Sum_l75 (L_subwayref02_Sum_l43 p1 f64) p1 f80) (L_subwayref02_Sum_l83 (L_subwayref02_Sum_l43 p1 f64) (L_subwayref02_Sum_l75 (L_subwayref02_Sum_l43 p1 f64) p1 f80) v8380 f84) v8380 v9276 v9277 = some r from H)
      unfold L_subwayref02_Sum_b83 at H
      have ha9418 := arrE_len (SP.get hs9275 (i := 0) rfl)
      have ha9419 := arrE_len (SP.get hs9275 (i := 1) rfl)
      refine At.sq K ?_
      refine At.sq K ?_
      refine At.region K K ?_
      refine In.run' 4 (k' := 4) rfl [(38, (.int .i64 v9277)), (39, (.slice A8378 (List.length v8380) c8379)), (40, (.int .i64 ((List.length v8380 : Nat) : Int))), (41, (.bool (decide (v9277 < ((List.length v8380 : Nat) : Int)))))] K ?_
      refine In.fin K ?_
      refine At.cd K (o := (.tmp 41)) K (b := (decide (v9277 < ((List.length v8380 : Nat) : Int)))) K (fun hb9420 => ?_) (fun hb9420 => ?_)
      ·have H := ct H hb9420
       refine At.skip K ?_
       refine At.sq K ?_
       refine At.bk K (id := 5) K ?_
       obtain ⟨hz9421, hz9422, hz9423, H⟩ := sub_elim H
       obtain ⟨l9424, hyl9424⟩ : ∃ y, (List.drop (Int.toNat v9277) (List.take (Int.toNat (IntKind.wrap .i64 (v9277 + 64))) v8380)) = y := ⟨_, rfl⟩
       rw [hyl9424] at H
       obtain ⟨z9425, hz9426, H⟩ := bind_elim H
       obtain ⟨ha9427, H⟩ := chk_elim H
       replace ha9427 := Nat.eq_of_beq_eq_true ha9427
       refine At.stages K K K K K [GEq (.agg (cellsOf (eInt .u32) v9276).toArray), GEq (.slice A8378 (List.length v8380) c8379), GEq (.int .i64 v9277), GEq (.int .i64 v9277), GEq (.int .i64 (IntKind.wrap .i64 (v9277 + 64))), GEq (.slice (cutA eU8.sz c8379 (Int.toNat v9277) A8378) (List.length l9424) (c8379 - Int.toNat v9277)), GEq (.agg (cellsOf (eInt .u32) z9425).toArray), GAny] [6, 7] [([], fun vs w => VL vs [] ∧ SP [] w0 w [arrE 69 eU8 g5 32 (List.replicate 32 (0 : UInt8)), arrE 82 (eInt .u32) g8984 8 v9276, rowT 5 eU8 A8378 c8379 v8380]), ([6], fun vs w => VL vs [(.agg (cellsOf (eInt .u32) z9425).toArray)] ∧ SP [] w0 w [arrE 69 eU8 g5 32 (List.replicate 32 (0 : UInt8)), arrE 82 (eInt .u32) g8984 8 v9276, rowT 5 eU8 A8378 c8379 v8380]), ([6, 7], fun vs w => VL vs [(.agg (cellsOf (eInt .u32) z9425).toArray), undef] ∧ SP [] w0 w [arrE 69 eU8 g5 32 (List.replicate 32 (0 : UInt8)), arrE 82 (eInt .u32) g8984 8 z9425, rowT 5 eU8 A8378 c8379 v8380])] (N := 8) K ⟨K, Nat.zero_lt_succ _⟩ (show VL [] [] ∧ SP [] w0 w9274.drew [arrE 69 eU8 g5 32 (List.replicate 32 (0 : UInt8)), arrE 82 (eInt .u32) g8984 8 v9276, rowT 5 eU8 A8378 c8379 v8380] from ⟨trivial, SP.drew hs9275⟩) ⟨⟨⟨⟨⟨⟨⟨⟨trivial, ?_⟩, ?_⟩, ?_⟩, ?_⟩, ?_⟩, ?_⟩, ?_⟩, ?_⟩ (last := 2) K ?_
       ·refine Owe.light K [0] K (all_cons ?_ all_nil)
        ·rintro ρ' w' hs hah ⟨hvl9447, hs9446⟩
         have hkn : Known ρ' [(6, (pt g8984 0))] := ⟨(hs 6 K).trans K, trivial⟩
         refine Step.known _ hkn ?_
         refine Step.loadA (e := (eInt .u32)) (l := v9276) (m := 8) (t := 82) (x := (.tmp 6)) (g := g8984) (i := 1) (d := (some 44)) (k := 0) K rfl K hs9446 rfl K K ?_
         exact ⟨rfl, _, updO_known hkn, rfl⟩
       ·exact Owe.run K [(3, (.slice A8378 (List.length v8380) c8379))] ⟨gS K K, trivial⟩ (.slice A8378 (List.length v8380) c8379) (fun _ _ => K) rfl
       ·exact Owe.run K [(7, (.int .i64 v9277))] ⟨gS K K, trivial⟩ (.int .i64 v9277) (fun _ _ => K) rfl
       ·exact Owe.run K [(7, (.int .i64 v9277))] ⟨gS K K, trivial⟩ (.int .i64 v9277) (fun _ _ => K) rfl
       ·exact Owe.run K [(47, (.int .i64 v9277))] ⟨gA 3 K K, trivial⟩ (.int .i64 (IntKind.wrap .i64 (v9277 + 64))) (fun _ _ => K) rfl
       ·refine Owe.light K [0] K (all_cons ?_ all_nil)
        ·rintro ρ' w' hs hah ⟨hvl9449, hs9448⟩
         have hkn : Known ρ' [(45, (.slice A8378 (List.length v8380) c8379)), (46, (.int .i64 v9277)), (48, (.int .i64 (IntKind.wrap .i64 (v9277 + 64))))] := ⟨hah 1 45 K, hah 2 46 K, hah 4 48 K, trivial⟩
         refine Step.known _ hkn ?_
         refine Step.slice2 (e := eU8) (l := v8380) (m := l9424) (A := A8378) (c := c8379) (T := 50) (E := 5) (x := (.tmp 45)) (lo := (some (.tmp 46))) (hi := (some (.tmp 48))) (i := v9277) (j := (IntKind.wrap .i64 (v9277 + 64))) (d := (some 49)) (k := 5) K rfl K K K ⟨.i64, K⟩ ⟨.i64, K⟩ (RdX.le (rowT_rd (SP.get hs9448 (i := 2) rfl))) hz9421 hz9422 hz9423 hyl9424 ?_
         exact ⟨rfl, _, updO_known hkn, rfl⟩
       ·refine Owe.heavy K [(0, 1)] K (all_cons ⟨K, K, ?_⟩ all_nil)
        ·rintro ρ' w' hs hah ⟨hvl9451, hs9450⟩
         have hkn : Known ρ' [(44, (.agg (cellsOf (eInt .u32) v9276).toArray)), (49, (.slice (cutA eU8.sz c8379 (Int.toNat v9277) A8378) (List.length l9424) (c8379 - Int.toNat v9277)))] := ⟨hah 0 44 K, hah 5 49 K, trivial⟩
         refine Step.known _ hkn ?_
         refine Step.callF (f := 43) (fo := (.func 43)) (xs := #[(.tmp 44), (.tmp 49)]) (tys := #[82, 50]) (first := #[]) (captured := #[]) (d := (some 50)) (k := 6) K rfl K K Tryd.call43 (L_subwayref02_block_walk (cutA eU8.sz c8379 (Int.toNat v9277) A8378) (c8379 - Int.toNat v9277) v9276 l9424 w' ha9419 ((cut_rd hz9421 hz9422 hz9423 hyl9424) w' (rowT_rd (SP.get hs9450 (i := 2) rfl))) z9425 hz9426) ?_
         rintro e w9452 ⟨rfl, hs9453⟩
         refine ⟨_, rfl, ?_⟩
         have hs9455 : SP [] w0 w9452 [arrE 69 eU8 g5 32 (List.replicate 32 (0 : UInt8)), arrE 82 (eInt .u32) g8984 8 v9276, rowT 5 eU8 A8378 c8379 v8380] := SP.call hs9450 hs9453
         clear hs9453
         refine ⟨_, updO_known hkn, rfl, ?_⟩
         exact (And.intro (And.intro rfl (trivial)) (hs9455))
       ·refine Owe.heavy K [(1, 2)] K (all_cons ⟨K, K, ?_⟩ all_nil)
        ·rintro ρ' w' hs hah ⟨⟨q9457, -⟩, hs9456⟩
         have hkn : Known ρ' [(6, (pt g8984 0)), (50, (.agg (cellsOf (eInt .u32) z9425).toArray))] := ⟨(hs 6 K).trans K, (valF_eq (h := 6) K).symm.trans q9457, trivial⟩
         refine Step.known _ hkn ?_
         refine Step.storeA (e := (eInt .u32)) (l := v9276) (l' := z9425) (m := 8) (t := 82) (x := (.tmp 6)) (y := (.tmp 50)) (g := g8984) (i := 1) (d := none) (k := 7) K rfl K K ha9427 hs9456 rfl K ?_
         intro w9459 (hs9461 : SP [] w0 w9459 [arrE 69 eU8 g5 32 (List.replicate 32 (0 : UInt8)), arrE 82 (eInt .u32) g8984 8 z9425, rowT 5 eU8 A8378 c8379 v8380])
         refine ⟨_, updO_known hkn, trivial, ?_⟩
         exact (And.intro (And.intro q9457 (And.intro rfl (trivial))) (hs9461))
       ·rintro ρ' w' hs hf ⟨⟨q9463, q9464, -⟩, hs9462⟩
        refine postKnown [(2, (pt g5 0)), (3, (.slice A8378 (List.length v8380) c8379)), (6, (pt g8984 0)), (7, (.int .i64 v9277))] ⟨(hs 2 K).trans K, (hs 3 K).trans K, (hs 6 K).trans K, (hs 7 K).trans K, trivial⟩ ?_
        obtain ⟨w9466, hww9466⟩ : ∃ x, w' = x := ⟨_, rfl⟩
        rw [hww9466] at hs9462 ⊢
        refine At.region K K ?_
        refine In.run' 3 (k' := 3) rfl [(42, (.int .i64 v9277)), (43, (.int .i64 (IntKind.wrap .i64 (v9277 + 64)))), (7, (.int .i64 (IntKind.wrap .i64 (v9277 + 64))))] K ?_
        refine In.fin K ?_
        exact ⟨z9425, (IntKind.wrap .i64 (v9277 + 64)), ⟨K, K, K, K, trivial⟩, SP.sel hs9462 [0, 1, 2] rfl rfl, H⟩
      ·have H := cf H hb9420
       refine At.exit K (id := 4) K ?_
       refine At.sq K ?_
       refine At.region K K ?_
       refine In.step (k' := 1) rfl K ?_
       refine Step.allocA (e := eU8) (l := (List.replicate 32 (0 : UInt8))) (m := 32) (t := 69) (z := .agg (cellsOf eU8 (List.replicate 32 (0 : UInt8))).toArray) (d := (some 8)) (k := 0) K rfl K rfl rfl K hs9275 ?_
       intro g9467 w9468 (hs9470 : SP [] w0 w9468 [arrE 69 eU8 g5 32 (List.replicate 32 (0 : UInt8)), arrE 82 (eInt .u32) g8984 8 v9276, rowT 5 eU8 A8378 c8379 v8380, arrE 69 eU8 g9467 32 (List.replicate 32 (0 : UInt8))])
       refine In.fin K ?_
       refine At.sq K ?_
       refine At.sq K ?_
       refine At.region K K ?_
       refine In.run' 1 (k' := 1) rfl [(9, (.int .i64 0))] K ?_
       refine In.fin K ?_
       refine At.bk K (id := 6) K ?_
       refine At.lp K (fun f85 ρ w => ∃ (v9516 : (List UInt8)) (v9517 : Int), Known ρ [(2, (pt g5 0)), (6, (pt g8984 0)), (8, (pt g9467 0)), (9, (.int .i64 v9517))] ∧ SP [] w0 w [arrE 69 eU8 g5 32 (List.replicate 32 (0 : UInt8)), arrE 82 (eInt .u32) g8984 8 v9276, arrE 69 eU8 g9467 32 v9516] ∧ L_subwayref02_Sum_l85 (L_subwayref02_Sum_l43 p1 f64) (L_subwayref02_Sum_l75 (L_subwayref02_Sum_l43 p1 f64) p1 f80) (L_subwayref02_Sum_l83 (L_subwayref02_Sum_l43 p1 f64) (L_subwayref02_Sum_l75 (L_subwayref02_Sum_l43 p1 f64) p1 f80) v8380 f84) v9276 f85 v9516 v9517 = some r) (by rintro ρ w ⟨v9516, v9517, hk, hs, H⟩; cases H) ?_ fuel ?_
       ·rintro f85 ρ w9514 ⟨v9516, v9517, hk, hs9515, H⟩
        refine At.known [(2, (pt g5 0)), (6, (pt g8984 0)), (8, (pt g9467 0)), (9, (.int .i64 v9517))] hk ?_
        replace H := (show L_subwayref02_Sum_b85 (L_subwayref02_Sum_l43 p1 f64) (L_subwayref02_Sum_l75 (L_subwayref02_Sum_l43 p1 f64) p1 f80) (L_subwayref02_Sum_l83 (L_subwayref02_Sum_l43 p1 f64) (L_subwayref02_Sum_l75 (L_subwayref02_Sum_l43 p1 f64) p1 f80) v8380 f84) (L_subwayref02_Sum_l85 (L_subwayref02_Sum_l43 p1 f64) (L_subwayref02_Sum_l75 (L_subwayref02_Sum_l43 p1 f64) p1 f80) (L_subwayref02_Sum_l83 (L_subwayref02_Sum_l43 p1 f64) (L_subwayref02_Sum_l75 (L_subwayref02_Sum_l43 p1 f64) p1 f80) v8380 f84) v9276 f85) v9276 v9516 v9517 = some r from H)
        unfold L_subwayref02_Sum_b85 at H
        have ha9538 := arrE_len (SP.get hs9515 (i := 0) rfl)
        have ha9539 := arrE_len (SP.get hs9515 (i := 1) rfl)
        have ha9540 := arrE_len (SP.get hs9515 (i := 2) rfl)
        refine At.sq K ?_
        refine At.sq K ?_
        refine At.region K K ?_
        refine In.run' 2 (k' := 2) rfl [(51, (.int .i64 v9517)), (52, (.bool (decide (v9517 < 32))))] K ?_
        refine In.fin K ?_
        refine At.cd K (o := (.tmp 52)) K (b := (decide (v9517 < 32))) K (fun hb9541 => ?_) (fun hb9541 => ?_)
        ·have H := ct H hb9541
         refine At.skip K ?_
         refine At.sq K ?_
         refine At.bk K (id := 7) K ?_
         refine At.region K K ?_
         refine In.run' 3 (k' := 3) rfl [(55, (.int .i64 v9517)), (56, (.int .i64 v9517)), (57, (.int .i64 (IntKind.wrap .i64 (Int.tdiv v9517 4))))] K ?_
         obtain ⟨x9542, hp9543, hq9544, hx9545, H⟩ := idx_elim H
         refine In.step (k' := 4) rfl K ?_
         refine Step.elemA (e := (eInt .u32)) (l := v9276) (m := 8) (g := g8984) (T := 82) (E := 81) (x := (.tmp 6)) (ix := (.tmp 57)) (ki := .i64) (iz := (IntKind.wrap .i64 (Int.tdiv v9517 4))) (i := 1) (d := (some 58)) (k := 3) K rfl K K K K hs9515 rfl hp9543 hq9544 ?_
         refine In.step (k' := 5) rfl K ?_
         refine Step.cell (t := 81) (x := (.tmp 58)) (b := g8984) (off := (0 + Int.toNat (IntKind.wrap .i64 (Int.tdiv v9517 4)) * (eInt .u32).sz)) (v := (.int .u32 x9542)) (d := (some 59)) (k := 4) K rfl K K (elem_cell (e := (eInt .u32)) (rdt_cells (arrE_rd (SP.get hs9515 (i := 1) rfl)) rfl hp9543 hq9544) hx9545 (j := 0) rfl) ?_
         refine In.run' 4 (k' := 9) rfl [(60, (.int .i64 v9517)), (61, (.int .i64 (Int.tmod v9517 4))), (62, (.int .i64 (IntKind.wrap .i64 (8 * (Int.tmod v9517 4))))), (63, (.int .i64 (IntKind.wrap .i64 (24 - (IntKind.wrap .i64 (8 * (Int.tmod v9517 4)))))))] K ?_
         obtain ⟨hl9546, H⟩ := chk_elim H
         refine In.step (k' := 10) rfl K ?_
         refine Step.shift (op := .shr) (T := 81) (T' := 3) (x := (.tmp 59)) (y := (.tmp 63)) (kx := .u32) (ky := .i64) (a := x9542) (b := (IntKind.wrap .i64 (24 - (IntKind.wrap .i64 (8 * (Int.tmod v9517 4)))))) (v := (.int .u32 (bShr .u32 x9542 (IntKind.wrap .i64 (24 - (IntKind.wrap .i64 (8 * (Int.tmod v9517 4)))))))) (d := (some 64)) (k := 9) K rfl K K (of_decide_eq_true hl9546) rfl ?_
         refine In.run' 1 (k' := 11) rfl [(65, (.int .u8 (IntKind.wrap .u8 (bShr .u32 x9542 (IntKind.wrap .i64 (24 - (IntKind.wrap .i64 (8 * (Int.tmod v9517 4)))))))))] K ?_
         obtain ⟨x9547, hp9548, hq9549, hx9550, H⟩ := idx_elim H
         refine In.step (k' := 12) rfl K ?_
         refine Step.elemA (e := eU8) (l := v9516) (m := 32) (g := g9467) (T := 69) (E := 5) (x := (.tmp 8)) (ix := (.tmp 55)) (ki := .i64) (iz := v9517) (i := 2) (d := (some 66)) (k := 11) K rfl K K K K hs9515 rfl hp9548 hq9549 ?_
         replace H := some_bind_elim H
         obtain ⟨l9551, hyl9551⟩ : ∃ y, (List.set v9516 (Int.toNat v9517) (toU8 (IntKind.wrap .u8 (bShr .u32 x9542 (IntKind.wrap .i64 (24 - (IntKind.wrap .i64 (8 * (Int.tmod v9517 4))))))))) = y := ⟨_, rfl⟩
         rw [hyl9551] at H
         have hnl9551 : List.length l9551 = List.length v9516 := by rw [← hyl9551, List.length_set]
         refine In.step (k' := 13) rfl K ?_
         refine Step.storeElemA (e := eU8) (t := 5) (x := (.tmp 66)) (y := (.tmp 65)) (l := v9516) (iz := v9517) (m := 32) (g := g9467) (b := g9467) (off := 0) (i := 2) (v := (.int .u8 (IntKind.wrap .u8 (bShr .u32 x9542 (IntKind.wrap .i64 (24 - (IntKind.wrap .i64 (8 * (Int.tmod v9517 4))))))))) (x' := (toU8 (IntKind.wrap .u8 (bShr .u32 x9542 (IntKind.wrap .i64 (24 - (IntKind.wrap .i64 (8 * (Int.tmod v9517 4))))))))) (d := none) (k := 12) K rfl rfl K K hs9515 rfl rfl hq9549 hp9548 (by show [Value.int .u8 (((toU8 (IntKind.wrap .u8 (bShr .u32 x9542 (IntKind.wrap .i64 (24 - (IntKind.wrap .i64 (8 * (Int.tmod v9517 4))))))))).toNat : Int)] = _; rw [u8_back (u8_wrap _)]) K ?_
         rw [hyl9551]
         intro w9552 (hs9554 : SP [] w0 w9552 [arrE 69 eU8 g5 32 (List.replicate 32 (0 : UInt8)), arrE 82 (eInt .u32) g8984 8 v9276, arrE 69 eU8 g9467 32 l9551])
         refine In.known [] trivial ?_
         refine In.fin K ?_
         refine At.region K K ?_
         refine In.run' 3 (k' := 3) rfl [(53, (.int .i64 v9517)), (54, (.int .i64 (IntKind.wrap .i64 (v9517 + 1)))), (9, (.int .i64 (IntKind.wrap .i64 (v9517 + 1))))] K ?_
         refine In.fin K ?_
         exact ⟨l9551, (IntKind.wrap .i64 (v9517 + 1)), ⟨K, K, K, K, trivial⟩, SP.sel hs9554 [0, 1, 2] rfl rfl, H⟩
        ·have H := cf H hb9541
         refine At.exit K (id := 6) K ?_
         refine At.sq K ?_
         refine At.region K K ?_
         refine In.step (k' := 1) rfl K ?_
         refine Step.loadA (e := eU8) (l := v9516) (m := 32) (t := 69) (x := (.tmp 8)) (g := g9467) (i := 2) (d := (some 67)) (k := 0) K rfl K hs9515 rfl K K ?_
         refine In.step (k' := 2) rfl K ?_
         refine Step.storeA (e := eU8) (l := (List.replicate 32 (0 : UInt8))) (l' := v9516) (m := 32) (t := 69) (x := (.tmp 2)) (y := (.tmp 67)) (g := g5) (i := 0) (d := none) (k := 1) K rfl K K ha9540 hs9515 rfl K ?_
         intro w9555 (hs9557 : SP [] w0 w9555 [arrE 69 eU8 g5 32 v9516, arrE 82 (eInt .u32) g8984 8 v9276, arrE 69 eU8 g9467 32 v9516])
         refine In.fin K ?_
         refine At.ret K ?_
         refine ⟨(.agg (cellsOf eU8 v9516).toArray), res_1 K (rv_cellA (e := eU8) (l := v9516) (a := 2) (t := 69) K (SP.get hs9557 (i := 0) rfl) K K), ?_⟩
         obtain rfl := some_elim H
         exact ⟨rfl, SP.sel hs9557 [] rfl rfl⟩
       ·exact ⟨(List.replicate 32 (0 : UInt8)), 0, ⟨K, K, K, K, trivial⟩, SP.sel hs9470 [0, 1, 3] rfl rfl, H⟩
     ·exact ⟨([1779033703, 3144134277, 1013904242, 2773480762, 1359893119, 2600822924, 528734635, 1541459225] : List Int), 0, ⟨K, K, K, K, trivial⟩, SP.sel hs8990 [0, 2, 1] rfl rfl, H⟩
   ·exact ⟨v4799, 7, A4797, c4798, ⟨K, K, K, K, trivial⟩, SP.sel hs4796 [0, 1] rfl rfl, H⟩
 ·exact ⟨l25, A26, c27, ⟨K, K, K, trivial⟩, SP.sel hs30 [0, 1] rfl rfl, H⟩
/-! L_subwayref02_Hex -/
def L_subwayref02_Hex_b1 (rec1 : (List UInt8) → Int → Option ((List UInt8))) (p1 : (List UInt8)) (v125 : (List UInt8)) (v126 : Int) : Option ((List UInt8)) :=
  (cond (decide (v126 < ((List.length p1 : Nat) : Int))) ((idx p1 v126).bind fun x240 => ((idx ([48, 49, 50, 51, 52, 53, 54, 55, 56, 57, 97, 98, 99, 100, 101, 102] : List UInt8) (IntKind.wrap .u8 (Int.tdiv ((x240).toNat : Int) 16))).bind fun x249 => ((idx p1 v126).bind fun x253 => ((idx ([48, 49, 50, 51, 52, 53, 54, 55, 56, 57, 97, 98, 99, 100, 101, 102] : List UInt8) (Int.tmod ((x253).toNat : Int) 16)).bind fun x262 => ((app v125 ([x249, x262] : List UInt8)).bind fun l271 => (rec1 l271 (IntKind.wrap .i64 (v126 + 1)))))))) (some (v125)))
def L_subwayref02_Hex_l1 (p1 : (List UInt8)) : Nat → (List UInt8) → Int → Option ((List UInt8))
  | 0, _, _ => none
  | f + 1, v125, v126 => L_subwayref02_Hex_b1  (L_subwayref02_Hex_l1 p1 f) p1 v125 v126
def L_subwayref02_Hex (p1 : (List UInt8)) : Option ((List UInt8)) :=
  (L_subwayref02_Hex_l1 p1 fuel ([] : List UInt8) 0)
set_option maxRecDepth 100000 in
set_option maxHeartbeats 4000000 in
theorem L_subwayref02_Hex_walk (A2 : Option Addr) (c3 : Nat) (p1 : (List UInt8)) (w0 : World) (hr4 : RdT eU8 w0 A2 c3 p1) (r : ((List UInt8))) (H : L_subwayref02_Hex p1 = some r) :
  Calls Tryd.prog 32 #[(.slice A2 (List.length p1) c3)] w0 (fun e w' => e = .returned (.string ⟨List.toArray r⟩) ∧ SP [] w0 w' []) := by
 unfold L_subwayref02_Hex at H
 refine calls_go (n := 31) Tryd.func32 K K K ?_
 have hs0 := SP.start [] w0
 refine At.sq K ?_
 refine At.region K K ?_
 refine In.run' 1 (k' := 1) rfl [(2, (.string ⟨List.toArray ([] : List UInt8)⟩))] K ?_
 refine In.fin K ?_
 refine At.sq K ?_
 refine At.region K K ?_
 refine In.run' 1 (k' := 1) rfl [(3, (.string ⟨List.toArray ([48, 49, 50, 51, 52, 53, 54, 55, 56, 57, 97, 98, 99, 100, 101, 102] : List UInt8)⟩))] K ?_
 refine In.fin K ?_
 refine At.sq K ?_
 refine At.region K K ?_
 refine In.run' 1 (k' := 1) rfl [(4, (.slice none (List.length ([] : List UInt8)) 0))] K ?_
 refine In.fin K ?_
 refine At.sq K ?_
 refine At.sq K ?_
 refine At.region K K ?_
 refine In.run' 1 (k' := 1) rfl [(5, (.int .i64 0))] K ?_
 refine In.fin K ?_
 refine At.bk K (id := 0) K ?_
 refine At.lp K (fun f1 ρ w => ∃ (v125 : (List UInt8)) (v126 : Int) (A123 : Option Addr) (c124 : Nat), Known ρ [(0, (.slice A2 (List.length p1) c3)), (3, (.string ⟨List.toArray ([48, 49, 50, 51, 52, 53, 54, 55, 56, 57, 97, 98, 99, 100, 101, 102] : List UInt8)⟩)), (4, (.slice A123 (List.length v125) c124)), (5, (.int .i64 v126))] ∧ SP [] w0 w [rowT 5 eU8 A123 c124 v125] ∧ L_subwayref02_Hex_l1 p1 f1 v125 v126 = some r) (by rintro ρ w ⟨v125, v126, A123, c124, hk, hs, H⟩; cases H) ?_ fuel ?_
 ·rintro f1 ρ w121 ⟨v125, v126, A123, c124, hk, hs122, H⟩
  refine At.known [(0, (.slice A2 (List.length p1) c3)), (3, (.string ⟨List.toArray ([48, 49, 50, 51, 52, 53, 54, 55, 56, 57, 97, 98, 99, 100, 101, 102] : List UInt8)⟩)), (4, (.slice A123 (List.length v125) c124)), (5, (.int .i64 v126))] hk ?_
  replace H := (show L_subwayref02_Hex_b1 (L_subwayref02_Hex_l1 p1 f1) p1 v125 v126 = some r from H)
  unfold L_subwayref02_Hex_b1 at H
  refine At.sq K ?_
  refine At.sq K ?_
  refine At.region K K ?_
  refine In.run' 4 (k' := 4) rfl [(6, (.int .i64 v126)), (7, (.slice A2 (List.length p1) c3)), (8, (.int .i64 ((List.length p1 : Nat) : Int))), (9, (.bool (decide (v126 < ((List.length p1 : Nat) : Int)))))] K ?_
  refine In.fin K ?_
  refine At.cd K (o := (.tmp 9)) K (b := (decide (v126 < ((List.length p1 : Nat) : Int)))) K (fun hb239 => ?_) (fun hb239 => ?_)
  ·have H := ct H hb239
   refine At.skip K ?_
   refine At.sq K ?_
   refine At.bk K (id := 1) K ?_
   obtain ⟨x240, hp241, hq242, hx243, H⟩ := idx_elim H
   obtain ⟨x249, hp250, hq251, hx252, H⟩ := idx_elim H
   obtain ⟨x253, hp254, hq255, hx256, H⟩ := idx_elim H
   obtain ⟨x262, hp263, hq264, hx265, H⟩ := idx_elim H
   obtain ⟨hl270, H⟩ := app_elim H
   obtain ⟨l271, hyl271⟩ : ∃ y, v125 ++ ([x249, x262] : List UInt8) = y := ⟨_, rfl⟩
   rw [hyl271] at H
   refine At.stages K K K K K [GEq (.slice A123 (List.length v125) c124), GEq (.string ⟨List.toArray ([48, 49, 50, 51, 52, 53, 54, 55, 56, 57, 97, 98, 99, 100, 101, 102] : List UInt8)⟩), GEq (.slice A2 (List.length p1) c3), GEq (.int .i64 v126), GElem0 A2 eU8.sz v126, GEq (.int .u8 ((x240).toNat : Int)), GEq (.int .u8 (IntKind.wrap .u8 (Int.tdiv ((x240).toNat : Int) 16))), GEq (.int .u8 ((x249).toNat : Int)), GEq (.string ⟨List.toArray ([48, 49, 50, 51, 52, 53, 54, 55, 56, 57, 97, 98, 99, 100, 101, 102] : List UInt8)⟩), GEq (.slice A2 (List.length p1) c3), GEq (.int .i64 v126), GElem0 A2 eU8.sz v126, GEq (.int .u8 ((x253).toNat : Int)), GEq (.int .u8 (Int.tmod ((x253).toNat : Int) 16)), GEq (.int .u8 ((x262).toNat : Int)), GAny, GAny, GAny] [15, 16, 17] [([], fun vs w => VL vs [] ∧ SP [] w0 w [rowT 5 eU8 A123 c124 v125]), ([15], fun vs w => ∃ (g277 : Nat), VL vs [(.slice (some ⟨g277, 0, none⟩) (List.length ([x249, x262] : List UInt8)) (List.length ([x249, x262] : List UInt8)))] ∧ SP [] w0 w [rowT 5 eU8 A123 c124 v125, rowT 5 eU8 (some ⟨g277, 0, none⟩) (List.length ([x249, x262] : List UInt8)) ([x249, x262] : List UInt8)]), ([15, 16], fun vs w => ∃ (g281 : Nat), ∃ (A285 : Option Addr), ∃ (c286 : Nat), VL vs [(.slice (some ⟨g281, 0, none⟩) (List.length ([x249, x262] : List UInt8)) (List.length ([x249, x262] : List UInt8))), (.slice A285 (List.length l271) c286)] ∧ SP [] w0 w [rowT 5 eU8 A285 c286 l271, rowT 5 eU8 (some ⟨g281, 0, none⟩) (List.length ([x249, x262] : List UInt8)) ([x249, x262] : List UInt8)]), ([15, 16, 17], fun vs w => ∃ (g290 : Nat), ∃ (A294 : Option Addr), ∃ (c295 : Nat), VL vs [(.slice (some ⟨g290, 0, none⟩) (List.length ([x249, x262] : List UInt8)) (List.length ([x249, x262] : List UInt8))), (.slice A294 (List.length l271) c295), (.slice A294 (List.length l271) c295)] ∧ SP [] w0 w [rowT 5 eU8 A294 c295 l271, rowT 5 eU8 (some ⟨g290, 0, none⟩) (List.length ([x249, x262] : List UInt8)) ([x249, x262] : List UInt8)])] (N := 18) K ⟨K, Nat.zero_lt_succ _⟩ (show VL [] [] ∧ SP [] w0 w121.drew [rowT 5 eU8 A123 c124 v125] from ⟨trivial, SP.drew hs122⟩) ⟨⟨⟨⟨⟨⟨⟨⟨⟨⟨⟨⟨⟨⟨⟨⟨⟨⟨trivial, ?_⟩, ?_⟩, ?_⟩, ?_⟩, ?_⟩, ?_⟩, ?_⟩, ?_⟩, ?_⟩, ?_⟩, ?_⟩, ?_⟩, ?_⟩, ?_⟩, ?_⟩, ?_⟩, ?_⟩, ?_⟩ (last := 3) K ?_
   ·exact Owe.run K [(4, (.slice A123 (List.length v125) c124))] ⟨gS K K, trivial⟩ (.slice A123 (List.length v125) c124) (fun _ _ => K) rfl
   ·exact Owe.run K [(3, (.string ⟨List.toArray ([48, 49, 50, 51, 52, 53, 54, 55, 56, 57, 97, 98, 99, 100, 101, 102] : List UInt8)⟩))] ⟨gS K K, trivial⟩ (.string ⟨List.toArray ([48, 49, 50, 51, 52, 53, 54, 55, 56, 57, 97, 98, 99, 100, 101, 102] : List UInt8)⟩) (fun _ _ => K) rfl
   ·exact Owe.run K [(0, (.slice A2 (List.length p1) c3))] ⟨gS K K, trivial⟩ (.slice A2 (List.length p1) c3) (fun _ _ => K) rfl
   ·exact Owe.run K [(5, (.int .i64 v126))] ⟨gS K K, trivial⟩ (.int .i64 v126) (fun _ _ => K) rfl
   ·refine Owe.light K [0] K (all_cons ?_ all_nil)
    ·rintro ρ' w' hs hah ⟨hvl300, hs299⟩
     have hkn : Known ρ' [(14, (.slice A2 (List.length p1) c3)), (15, (.int .i64 v126))] := ⟨hah 2 14 K, hah 3 15 K, trivial⟩
     refine Step.known _ hkn ?_
     refine Step.elem (e := eU8) (l := p1) (A := A2) (c := c3) (T := 50) (E := 5) (x := (.tmp 14)) (ix := (.tmp 15)) (ki := .i64) (iz := v126) (d := (some 16)) (k := 4) K rfl K K K K (RdT.sp hr4 hs299) hp241 hq242 ?_
     intro b301 o302 hA304 hb305 hc303
     exact ⟨rfl, _, updO_known hkn, ⟨b301, o302, hA304, rfl⟩⟩
   ·refine Owe.light K [0] K (all_cons ?_ all_nil)
    ·rintro ρ' w' hs hah ⟨hvl307, hs306⟩
     obtain ⟨b308, o309, hA310, e16⟩ := hah 4 16 K
     have hkn : Known ρ' [(16, (.pointer (some ⟨b308, (o309 + Int.toNat v126 * eU8.sz), none⟩)))] := ⟨e16, trivial⟩
     refine Step.known _ hkn ?_
     refine Step.cell (t := 5) (x := (.tmp 16)) (b := b308) (off := (o309 + Int.toNat v126 * eU8.sz)) (v := (.int .u8 ((x240).toNat : Int))) (d := (some 17)) (k := 5) K rfl K K (elem_cell (e := eU8) (rdt_cells (RdT.sp hr4 hs306) hA310 hp241 hq242) hx243 (j := 0) rfl) ?_
     exact ⟨rfl, _, updO_known hkn, rfl⟩
   ·exact Owe.run K [(17, (.int .u8 ((x240).toNat : Int)))] ⟨gA 5 K K, trivial⟩ (.int .u8 (IntKind.wrap .u8 (Int.tdiv ((x240).toNat : Int) 16))) (fun _ _ => K) rfl
   ·refine Owe.light K [0] K (all_cons ?_ all_nil)
    ·rintro ρ' w' hs hah ⟨hvl312, hs311⟩
     have hkn : Known ρ' [(13, (.string ⟨List.toArray ([48, 49, 50, 51, 52, 53, 54, 55, 56, 57, 97, 98, 99, 100, 101, 102] : List UInt8)⟩)), (18, (.int .u8 (IntKind.wrap .u8 (Int.tdiv ((x240).toNat : Int) 16))))] := ⟨hah 1 13 K, hah 6 18 K, trivial⟩
     refine Step.known _ hkn ?_
     refine Step.strIdx (a := ([48, 49, 50, 51, 52, 53, 54, 55, 56, 57, 97, 98, 99, 100, 101, 102] : List UInt8)) (u := x249) (T := 9) (x := (.tmp 13)) (ix := (.tmp 18)) (ki := .u8) (iz := (IntKind.wrap .u8 (Int.tdiv ((x240).toNat : Int) 16))) (d := (some 19)) (k := 7) K rfl K K K hp250 hx252 ?_
     exact ⟨rfl, _, updO_known hkn, rfl⟩
   ·exact Owe.run K [(3, (.string ⟨List.toArray ([48, 49, 50, 51, 52, 53, 54, 55, 56, 57, 97, 98, 99, 100, 101, 102] : List UInt8)⟩))] ⟨gS K K, trivial⟩ (.string ⟨List.toArray ([48, 49, 50, 51, 52, 53, 54, 55, 56, 57, 97, 98, 99, 100, 101, 102] : List UInt8)⟩) (fun _ _ => K) rfl
   ·exact Owe.run K [(0, (.slice A2 (List.length p1) c3))] ⟨gS K K, trivial⟩ (.slice A2 (List.length p1) c3) (fun _ _ => K) rfl
   ·exact Owe.run K [(5, (.int .i64 v126))] ⟨gS K K, trivial⟩ (.int .i64 v126) (fun _ _ => K) rfl
   ·refine Owe.light K [0] K (all_cons ?_ all_nil)
    ·rintro ρ' w' hs hah ⟨hvl314, hs313⟩
     have hkn : Known ρ' [(21, (.slice A2 (List.length p1) c3)), (22, (.int .i64 v126))] := ⟨hah 9 21 K, hah 10 22 K, trivial⟩
     refine Step.known _ hkn ?_
     refine Step.elem (e := eU8) (l := p1) (A := A2) (c := c3) (T := 50) (E := 5) (x := (.tmp 21)) (ix := (.tmp 22)) (ki := .i64) (iz := v126) (d := (some 23)) (k := 11) K rfl K K K K (RdT.sp hr4 hs313) hp254 hq255 ?_
     intro b315 o316 hA318 hb319 hc317
     exact ⟨rfl, _, updO_known hkn, ⟨b315, o316, hA318, rfl⟩⟩
   ·refine Owe.light K [0] K (all_cons ?_ all_nil)
    ·rintro ρ' w' hs hah ⟨hvl321, hs320⟩
     obtain ⟨b322, o323, hA324, e23⟩ := hah 11 23 K
     have hkn : Known ρ' [(23, (.pointer (some ⟨b322, (o323 + Int.toNat v126 * eU8.sz), none⟩)))] := ⟨e23, trivial⟩
     refine Step.known _ hkn ?_
     refine Step.cell (t := 5) (x := (.tmp 23)) (b := b322) (off := (o323 + Int.toNat v126 * eU8.sz)) (v := (.int .u8 ((x253).toNat : Int))) (d := (some 24)) (k := 12) K rfl K K (elem_cell (e := eU8) (rdt_cells (RdT.sp hr4 hs320) hA324 hp254 hq255) hx256 (j := 0) rfl) ?_
     exact ⟨rfl, _, updO_known hkn, rfl⟩
   ·exact Owe.run K [(24, (.int .u8 ((x253).toNat : Int)))] ⟨gA 12 K K, trivial⟩ (.int .u8 (Int.tmod ((x253).toNat : Int) 16)) (fun _ _ => K) rfl
   ·refine Owe.light K [0] K (all_cons ?_ all_nil)
    ·rintro ρ' w' hs hah ⟨hvl326, hs325⟩
     have hkn : Known ρ' [(20, (.string ⟨List.toArray ([48, 49, 50, 51, 52, 53, 54, 55, 56, 57, 97, 98, 99, 100, 101, 102] : List UInt8)⟩)), (25, (.int .u8 (Int.tmod ((x253).toNat : Int) 16)))] := ⟨hah 8 20 K, hah 13 25 K, trivial⟩
     refine Step.known _ hkn ?_
     refine Step.strIdx (a := ([48, 49, 50, 51, 52, 53, 54, 55, 56, 57, 97, 98, 99, 100, 101, 102] : List UInt8)) (u := x262) (T := 9) (x := (.tmp 20)) (ix := (.tmp 25)) (ki := .u8) (iz := (Int.tmod ((x253).toNat : Int) 16)) (d := (some 26)) (k := 14) K rfl K K K hp263 hx265 ?_
     exact ⟨rfl, _, updO_known hkn, rfl⟩
   ·refine Owe.heavy K [(0, 1)] K (all_cons ⟨K, K, ?_⟩ all_nil)
    ·rintro ρ' w' hs hah ⟨hvl328, hs327⟩
     have hkn : Known ρ' [(19, (.int .u8 ((x249).toNat : Int))), (26, (.int .u8 ((x262).toNat : Int)))] := ⟨hah 7 19 K, hah 14 26 K, trivial⟩
     refine Step.known _ hkn ?_
     refine Step.newSlice (e := eU8) (T := 50) (E := 5) (len := 2) (parts := #[(0, (.tmp 19)), (1, (.tmp 26))]) (cs := #[(.int .u8 ((x249).toNat : Int)), (.int .u8 ((x262).toNat : Int))]) ([x249, x262] : List UInt8) (d := (some 27)) (k := 15) K rfl (fun _ => K) hs327 (cells_cons8 (Or.inl rfl) (cells_cons8 (Or.inl rfl) rfl)) rfl rfl rfl ?_
     intro g329 w330 (hs332 : SP [] w0 w330 [rowT 5 eU8 A123 c124 v125, rowT 5 eU8 (some ⟨g329, 0, none⟩) (List.length ([x249, x262] : List UInt8)) ([x249, x262] : List UInt8)])
     refine ⟨_, updO_known hkn, trivial, ?_⟩
     exact (Exists.intro g329 (And.intro (And.intro rfl (trivial)) (hs332)))
   ·refine Owe.heavy K [(1, 2)] K (all_cons ⟨K, K, ?_⟩ all_nil)
    ·rintro ρ' w' hs hah ⟨g277, ⟨q334, -⟩, hs333⟩
     have hkn : Known ρ' [(12, (.slice A123 (List.length v125) c124)), (27, (.slice (some ⟨g277, 0, none⟩) (List.length ([x249, x262] : List UInt8)) (List.length ([x249, x262] : List UInt8))))] := ⟨hah 0 12 K, (valF_eq (h := 15) K).symm.trans q334, trivial⟩
     refine Step.known _ hkn ?_
     refine Step.append (e := eU8) (l := v125) (m := ([x249, x262] : List UInt8)) (A := A123) (c := c124) (T := 50) (TX := 50) (E := 5) (b := 1) (s := (.tmp 12)) (x := (.tmp 27)) (i := 0) (vx := (.slice (some ⟨g277, 0, none⟩) (List.length ([x249, x262] : List UInt8)) (List.length ([x249, x262] : List UInt8)))) (d := (some 28)) (k := 16) K rfl K K K K rfl hs333 rfl (src_rdt (E := 5) K (rowT_rd (SP.get hs333 (i := 1) rfl))) hl270 ?_
     rw [hyl271]
     intro A336 c337 w338 (hs340 : SP [] w0 w338 [rowT 5 eU8 A336 c337 l271, rowT 5 eU8 (some ⟨g277, 0, none⟩) (List.length ([x249, x262] : List UInt8)) ([x249, x262] : List UInt8)])
     refine ⟨_, updO_known hkn, trivial, ?_⟩
     exact (Exists.intro g277 (Exists.intro A336 (Exists.intro c337 (And.intro (And.intro q334 (And.intro rfl (trivial))) (hs340)))))
   ·refine Owe.heavy K [(2, 3)] K (all_cons ⟨K, K, ?_⟩ all_nil)
    ·rintro ρ' w' hs hah ⟨g281, A285, c286, ⟨q342, q343, -⟩, hs341⟩
     have hkn : Known ρ' [(28, (.slice A285 (List.length l271) c286))] := ⟨(valF_eq (h := 16) K).symm.trans q343, trivial⟩
     refine Step.known _ hkn ?_
     refine Step.run (k := 17) (v := (.slice A285 (List.length l271) c286)) K ?_
     refine ⟨_, updO_known hkn, trivial, ?_⟩
     exact (Exists.intro g281 (Exists.intro A285 (Exists.intro c286 (And.intro (And.intro q342 (And.intro q343 (And.intro rfl (trivial)))) (hs341)))))
   ·rintro ρ' w' hs hf ⟨g290, A294, c295, ⟨q346, q347, q348, -⟩, hs345⟩
    refine postKnown [(0, (.slice A2 (List.length p1) c3)), (3, (.string ⟨List.toArray ([48, 49, 50, 51, 52, 53, 54, 55, 56, 57, 97, 98, 99, 100, 101, 102] : List UInt8)⟩)), (4, (.slice A294 (List.length l271) c295)), (5, (.int .i64 v126))] ⟨(hs 0 K).trans K, (hs 3 K).trans K, (valF_eq (h := 17) K).symm.trans q348, (hs 5 K).trans K, trivial⟩ ?_
    obtain ⟨w350, hww350⟩ : ∃ x, w' = x := ⟨_, rfl⟩
    rw [hww350] at hs345 ⊢
    refine At.region K K ?_
    refine In.run' 3 (k' := 3) rfl [(10, (.int .i64 v126)), (11, (.int .i64 (IntKind.wrap .i64 (v126 + 1)))), (5, (.int .i64 (IntKind.wrap .i64 (v126 + 1))))] K ?_
    refine In.fin K ?_
    exact ⟨l271, (IntKind.wrap .i64 (v126 + 1)), A294, c295, ⟨K, K, K, K, trivial⟩, SP.sel hs345 [0] rfl rfl, H⟩
  ·have H := cf H hb239
   refine At.exit K (id := 0) K ?_
   refine At.sq K ?_
   refine At.region K K ?_
   refine In.run' 1 (k' := 1) rfl [(29, (.slice A123 (List.length v125) c124))] K ?_
   refine In.step (k' := 2) rfl K ?_
   refine Step.toStr (T := 50) (S' := 9) (E := 5) (x := (.tmp 29)) (A := A123) (c := c124) (l := v125) (d := (some 30)) (k := 1) K rfl K K K K (rowT_rd (SP.get hs122 (i := 0) rfl)) ?_
   refine In.run' 1 (k' := 3) rfl [(2, (.string ⟨List.toArray v125⟩))] K ?_
   refine In.fin K ?_
   refine At.ret K ?_
   refine ⟨(.string ⟨List.toArray v125⟩), K, ?_⟩
   obtain rfl := some_elim H
   exact ⟨rfl, SP.sel hs122 [] rfl rfl⟩
 ·exact ⟨([] : List UInt8), 0, none, 0, ⟨K, K, K, K, trivial⟩, SP.sel (SP.nilrow hs0 5 eU8) [0] rfl rfl, H⟩
end Go.Proofs.YtjllaeceghmjgaaDoor
