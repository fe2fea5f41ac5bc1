/- LIFTED BY PROGRAM (tools/lift.py): what functions compute, and that they do. -/
import Derived.Test.YtfffjaijflbeaaaDoorDeep
import Derived.Test.YtfffjaijflbeaaaDoorLSA
namespace Go.Proofs.YtfffjaijflbeaaaDoor
set_option linter.unusedSimpArgs false
set_option linter.unusedVariables false
open Go.RowKit

/-! L_config_within -/
def L_config_within_k1 (v5 : Bool) : Option (Bool) :=
  (some (v5))
def L_config_within (p1 : Int) (p2 : Int) (p3 : Int) : Option (Bool) :=
  (cond (decide (p1 ≥ p2)) (L_config_within_k1 (decide (p1 ≤ p3))) (L_config_within_k1 false))
set_option maxRecDepth 100000 in
set_option maxHeartbeats 4000000 in
theorem L_config_within_walk  (p1 : Int) (p2 : Int) (p3 : Int) (w0 : World)  (r : (Bool)) (H : L_config_within p1 p2 p3 = some r) :
  Calls Tryd.prog 32 #[(.int .i64 p1), (.int .i64 p2), (.int .i64 p3)] w0 (fun e w' => e = .returned (.bool r) ∧ SP [] w0 w' []) := by
 unfold L_config_within at H
 refine calls_go (n := 15) Tryd.func32 K K K ?_
 have hs0 := SP.start [] w0
 refine At.sq K ?_
 refine At.region K K ?_
 refine In.run' 1 (k' := 1) rfl [(6, (.bool false))] K ?_
 refine In.fin K ?_
 refine At.sq K ?_
 refine At.join (fun ρ w => ∃ (v5 : Bool), Known ρ [(6, (.bool v5))] ∧ SP [] w0 w [] ∧ L_config_within_k1 v5 = some r) ?_ ?_
 ·refine At.region K K ?_
  refine In.run' 4 (k' := 4) rfl [(7, (.int .i64 p1)), (8, (.int .i64 p2)), (9, (.bool (decide (p1 ≥ p2)))), (10, (.bool (decide (p1 ≥ p2))))] K ?_
  refine In.guard (t := 10) (b := (decide (p1 ≥ p2))) K (fun hb8 => ?_) (fun hb8 => ?_)
  ·have H := ct H hb8
   refine In.run' 5 (k' := 9) rfl [(11, (.int .i64 p1)), (12, (.int .i64 p3)), (13, (.bool (decide (p1 ≤ p3)))), (14, (.bool (decide (p1 ≤ p3)))), (6, (.bool (decide (p1 ≤ p3))))] K ?_
   refine In.fin K ?_
   exact ⟨(decide (p1 ≤ p3)), ⟨K, trivial⟩, SP.sel hs0 [] rfl rfl, H⟩
  ·have H := cf H hb8
   refine In.run' 5 (k' := 9) rfl [(11, undef), (12, undef), (13, undef), (14, (.bool false)), (6, (.bool false))] K ?_
   refine In.fin K ?_
   exact ⟨false, ⟨K, trivial⟩, SP.sel hs0 [] rfl rfl, H⟩
 ·rintro ρ w6 ⟨v5, hk, hs7, H⟩
  unfold L_config_within_k1 at H
  first | refine At.known [(6, (.bool v5))] hk ?_ | rw [← known_updL (l := [(6, (.bool v5))]) hk]
  refine At.ret K ?_
  refine ⟨(.bool v5), K, ?_⟩
  obtain rfl := some_elim H
  exact ⟨rfl, SP.sel hs7 [] rfl rfl⟩
/-! L_slices_IndexFunc_api_Net_api_Net -/
def L_slices_IndexFunc_api_Net_api_Net_b1 (rec1 : Int → Option (Int)) (p1 : (List (Int × Int))) (p5 : (Int → Int → Option (Bool))) (v30 : Int) : Option (Int) :=
  (cond (decide (v30 < ((List.length p1 : Nat) : Int))) ((idx p1 v30).bind fun x49 => ((p5 x49.1 x49.2).bind fun z58 => (cond z58 (some (v30)) (rec1 (IntKind.wrap .i64 (v30 + 1)))))) (some ((-1))))
def L_slices_IndexFunc_api_Net_api_Net_l1 (p1 : (List (Int × Int))) (p5 : (Int → Int → Option (Bool))) : Nat → Int → Option (Int)
  | 0, _ => none
  | f + 1, v30 => L_slices_IndexFunc_api_Net_api_Net_b1  (L_slices_IndexFunc_api_Net_api_Net_l1 p1 p5 f) p1 p5 v30
def L_slices_IndexFunc_api_Net_api_Net (p1 : (List (Int × Int))) (p5 : (Int → Int → Option (Bool))) : Option (Int) :=
  (L_slices_IndexFunc_api_Net_api_Net_l1 p1 p5 fuel 0)
set_option maxRecDepth 100000 in
set_option maxHeartbeats 4000000 in
theorem L_slices_IndexFunc_api_Net_api_Net_walk (A2 : Option Addr) (c3 : Nat) (ff6 : FuncId) (caps7 : Array Value) (p1 : (List (Int × Int))) (p5 : (Int → Int → Option (Bool))) (w0 : World) (hr4 : RdT (ePair (eInt .u32) (eInt .i64)) w0 A2 c3 p1) (hcf8 : ∀ (args : Array Value) (w : World), (callFunc ff6 args).run Tryd.prog w = .ok (.enter ff6 args) w) (hf9 : ∀ (y0 : Int) (y1 : Int) (z : (Bool)) (w : World), Below w0.heap.size w0 w → p5 y0 y1 = some z → Calls Tryd.prog ff6 (([(.agg #[(.int .u32 y0), (.int .i64 y1)])] : List Value) ++ (caps7).toList).toArray w (fun e w' => e = .returned (.bool z) ∧ SP [] w w' [])) (r : (Int)) (H : L_slices_IndexFunc_api_Net_api_Net p1 p5 = some r) :
  Calls Tryd.prog 40 #[(.slice A2 (List.length p1) c3), (.func (.func ff6) #[] caps7)] w0 (fun e w' => e = .returned (.int .i64 r) ∧ SP [] w0 w' []) := by
 unfold L_slices_IndexFunc_api_Net_api_Net at H
 refine calls_go (n := 19) Tryd.func40 K K K ?_
 have hs0 := SP.start [] w0
 refine At.sq K ?_
 refine At.region K K ?_
 refine In.run' 1 (k' := 1) rfl [(4, (.int .i64 0))] K ?_
 refine In.fin K ?_
 refine At.sq K ?_
 refine At.sq K ?_
 refine At.region K K ?_
 refine In.run' 3 (k' := 3) rfl [(6, (.slice A2 (List.length p1) c3)), (7, (.int .i64 ((List.length p1 : Nat) : Int))), (8, (.int .i64 0))] K ?_
 refine In.fin K ?_
 refine At.bk K (id := 0) K ?_
 refine At.lp K (fun f1 ρ w => ∃ (v30 : Int), Known ρ [(0, (.slice A2 (List.length p1) c3)), (1, (.func (.func ff6) #[] caps7)), (7, (.int .i64 ((List.length p1 : Nat) : Int))), (8, (.int .i64 v30))] ∧ SP [] w0 w [] ∧ L_slices_IndexFunc_api_Net_api_Net_l1 p1 p5 f1 v30 = some r) (by rintro ρ w ⟨v30, hk, hs, H⟩; cases H) ?_ fuel ?_
 ·rintro f1 ρ w28 ⟨v30, hk, hs29, H⟩
  refine At.known [(0, (.slice A2 (List.length p1) c3)), (1, (.func (.func ff6) #[] caps7)), (7, (.int .i64 ((List.length p1 : Nat) : Int))), (8, (.int .i64 v30))] hk ?_
  replace H := (show L_slices_IndexFunc_api_Net_api_Net_b1 (L_slices_IndexFunc_api_Net_api_Net_l1 p1 p5 f1) p1 p5 v30 = some r from H)
  unfold L_slices_IndexFunc_api_Net_api_Net_b1 at H
  refine At.sq K ?_
  refine At.region K K ?_
  refine In.run' 1 (k' := 1) rfl [(9, (.bool (decide (v30 < ((List.length p1 : Nat) : Int)))))] K ?_
  refine In.fin K ?_
  refine At.sq K ?_
  refine At.cd K (o := (.tmp 9)) K (b := (decide (v30 < ((List.length p1 : Nat) : Int)))) K (fun hb48 => ?_) (fun hb48 => ?_)
  ·have H := ct H hb48
   refine At.skip K ?_
   refine At.sq K ?_
   refine At.bk K (id := 1) K ?_
   refine At.sq K ?_
   refine At.region K K ?_
   refine In.run' 2 (k' := 2) rfl [(10, (.int .i64 v30)), (5, (.int .i64 v30))] K ?_
   refine In.fin K ?_
   refine At.sq K ?_
   refine At.region K K ?_
   refine In.run' 3 (k' := 3) rfl [(11, (.func (.func ff6) #[] caps7)), (12, (.slice A2 (List.length p1) c3)), (13, (.int .i64 v30))] K ?_
   obtain ⟨x49, hp50, hq51, hx52, H⟩ := idx_elim H
   refine In.step (k' := 4) rfl K ?_
   refine Step.elem (e := (ePair (eInt .u32) (eInt .i64))) (l := p1) (A := A2) (c := c3) (T := 42) (E := 51) (x := (.tmp 12)) (ix := (.tmp 13)) (ki := .i64) (iz := v30) (d := (some 14)) (k := 3) K rfl K K K K (RdT.sp hr4 hs29) hp50 hq51 ?_
   intro b53 o54 hA56 hb57 hc55
   refine In.step (k' := 5) rfl K ?_
   refine Step.cells (t := 51) (x := (.tmp 14)) (b := b53) (off := (o54 + Int.toNat v30 * (ePair (eInt .u32) (eInt .i64)).sz)) (xs := [(.int .u32 x49.1), (.int .i64 x49.2)]) (d := (some 15)) (k := 4) K rfl K K K (elem_cells0 (e := (ePair (eInt .u32) (eInt .i64))) (rdt_cells (RdT.sp hr4 hs29) hA56 hp50 hq51) hx52 rfl) ?_
   obtain ⟨z58, hz59, H⟩ := bind_elim H
   refine In.step (k' := 6) rfl K ?_
   refine Step.callF (f := ff6) (fo := (.tmp 11)) (xs := #[(.tmp 15)]) (tys := #[51]) (first := #[]) (captured := caps7) (args := (([(.agg #[(.int .u32 x49.1), (.int .i64 x49.2)])] : List Value) ++ (caps7).toList)) (d := (some 16)) (k := 5) K rfl K K hcf8 (hf9 x49.1 x49.2 z58 w28  (SP.keeps hs29)  hz59) ?_
   rintro e w60 ⟨rfl, hs61⟩
   refine ⟨_, rfl, ?_⟩
   have hs63 : SP [] w0 w60 [] := SP.call hs29 hs61
   clear hs61
   refine In.fin K ?_
   refine At.cd K (o := (.tmp 16)) K (b := z58) K (fun hb64 => ?_) (fun hb64 => ?_)
   ·have H := ct H hb64
    refine At.sq K ?_
    refine At.region K K ?_
    refine In.run' 2 (k' := 2) rfl [(17, (.int .i64 v30)), (4, (.int .i64 v30))] K ?_
    refine In.fin K ?_
    refine At.ret K ?_
    refine ⟨(.int .i64 v30), K, ?_⟩
    obtain rfl := some_elim H
    exact ⟨rfl, SP.sel hs63 [] rfl rfl⟩
   ·have H := cf H hb64
    refine At.skip K ?_
    refine At.region K K ?_
    refine In.run' 2 (k' := 2) rfl [(18, (.int .i64 (IntKind.wrap .i64 (v30 + 1)))), (8, (.int .i64 (IntKind.wrap .i64 (v30 + 1))))] K ?_
    refine In.fin K ?_
    exact ⟨(IntKind.wrap .i64 (v30 + 1)), ⟨K, K, K, K, trivial⟩, SP.sel hs63 [] rfl rfl, H⟩
  ·have H := cf H hb48
   refine At.exit K (id := 0) K ?_
   refine At.sq K ?_
   refine At.region K K ?_
   refine In.run' 1 (k' := 1) rfl [(4, (.int .i64 (-1)))] K ?_
   refine In.fin K ?_
   refine At.ret K ?_
   refine ⟨(.int .i64 (-1)), K, ?_⟩
   obtain rfl := some_elim H
   exact ⟨rfl, SP.sel hs29 [] rfl rfl⟩
 ·exact ⟨0, ⟨K, K, K, K, trivial⟩, SP.sel hs0 [] rfl rfl, H⟩
/-! L_slices_ContainsFunc_api_Net_api_Net -/
def L_slices_ContainsFunc_api_Net_api_Net (p1 : (List (Int × Int))) (p5 : (Int → Int → Option (Bool))) : Option (Bool) :=
  ((L_slices_IndexFunc_api_Net_api_Net p1 p5).bind fun z10 => (some ((decide (z10 ≥ 0)))))
set_option maxRecDepth 100000 in
set_option maxHeartbeats 4000000 in
theorem L_slices_ContainsFunc_api_Net_api_Net_walk (A2 : Option Addr) (c3 : Nat) (ff6 : FuncId) (caps7 : Array Value) (p1 : (List (Int × Int))) (p5 : (Int → Int → Option (Bool))) (w0 : World) (hr4 : RdT (ePair (eInt .u32) (eInt .i64)) w0 A2 c3 p1) (hcf8 : ∀ (args : Array Value) (w : World), (callFunc ff6 args).run Tryd.prog w = .ok (.enter ff6 args) w) (hf9 : ∀ (y0 : Int) (y1 : Int) (z : (Bool)) (w : World), Below w0.heap.size w0 w → p5 y0 y1 = some z → Calls Tryd.prog ff6 (([(.agg #[(.int .u32 y0), (.int .i64 y1)])] : List Value) ++ (caps7).toList).toArray w (fun e w' => e = .returned (.bool z) ∧ SP [] w w' [])) (r : (Bool)) (H : L_slices_ContainsFunc_api_Net_api_Net p1 p5 = some r) :
  Calls Tryd.prog 26 #[(.slice A2 (List.length p1) c3), (.func (.func ff6) #[] caps7)] w0 (fun e w' => e = .returned (.bool r) ∧ SP [] w0 w' []) := by
 unfold L_slices_ContainsFunc_api_Net_api_Net at H
 refine calls_go (n := 9) Tryd.func26 K K K ?_
 have hs0 := SP.start [] w0
 refine At.sq K ?_
 refine At.region K K ?_
 refine In.run' 1 (k' := 1) rfl [(4, (.bool false))] K ?_
 refine In.fin K ?_
 refine At.sq K ?_
 refine At.region K K ?_
 refine In.run' 2 (k' := 2) rfl [(5, (.slice A2 (List.length p1) c3)), (6, (.func (.func ff6) #[] caps7))] K ?_
 obtain ⟨z10, hz11, H⟩ := bind_elim H
 refine In.step (k' := 3) rfl K ?_
 refine Step.callF (f := 40) (fo := (.func 40)) (xs := #[(.tmp 5), (.tmp 6)]) (tys := #[42, 71]) (first := #[]) (captured := #[]) (d := (some 7)) (k := 2) K rfl K K Tryd.call40 (L_slices_IndexFunc_api_Net_api_Net_walk A2 c3 ff6 caps7 p1 p5 w0 (RdT.sp hr4 hs0) hcf8 (fun y0 y1 z w  hw  hz => hf9 y0 y1 z w  (keeps_then hs0 hw)  hz) z10 hz11) ?_
 rintro e w12 ⟨rfl, hs13⟩
 refine ⟨_, rfl, ?_⟩
 have hs15 : SP [] w0 w12 [] := SP.call hs0 hs13
 clear hs13
 refine In.run' 2 (k' := 5) rfl [(8, (.bool (decide (z10 ≥ 0)))), (4, (.bool (decide (z10 ≥ 0))))] K ?_
 refine In.fin K ?_
 refine At.ret K ?_
 refine ⟨(.bool (decide (z10 ≥ 0))), K, ?_⟩
 obtain rfl := some_elim H
 exact ⟨rfl, SP.sel hs15 [] rfl rfl⟩
/-! L_slices_IndexFunc_api_Token_api_Token -/
def L_slices_IndexFunc_api_Token_api_Token_b1 (rec1 : Int → Option (Int)) (p1 : (List ((List UInt8) × (List UInt8) × Int))) (p5 : ((List UInt8) → (List UInt8) → Int → Option (Bool))) (v30 : Int) : Option (Int) :=
  (cond (decide (v30 < ((List.length p1 : Nat) : Int))) ((idx p1 v30).bind fun x49 => ((p5 x49.1 x49.2.1 x49.2.2).bind fun z58 => (cond z58 (some (v30)) (rec1 (IntKind.wrap .i64 (v30 + 1)))))) (some ((-1))))
def L_slices_IndexFunc_api_Token_api_Token_l1 (p1 : (List ((List UInt8) × (List UInt8) × Int))) (p5 : ((List UInt8) → (List UInt8) → Int → Option (Bool))) : Nat → Int → Option (Int)
  | 0, _ => none
  | f + 1, v30 => L_slices_IndexFunc_api_Token_api_Token_b1  (L_slices_IndexFunc_api_Token_api_Token_l1 p1 p5 f) p1 p5 v30
def L_slices_IndexFunc_api_Token_api_Token (p1 : (List ((List UInt8) × (List UInt8) × Int))) (p5 : ((List UInt8) → (List UInt8) → Int → Option (Bool))) : Option (Int) :=
  (L_slices_IndexFunc_api_Token_api_Token_l1 p1 p5 fuel 0)
set_option maxRecDepth 100000 in
set_option maxHeartbeats 4000000 in
theorem L_slices_IndexFunc_api_Token_api_Token_walk (A2 : Option Addr) (c3 : Nat) (ff6 : FuncId) (caps7 : Array Value) (p1 : (List ((List UInt8) × (List UInt8) × Int))) (p5 : ((List UInt8) → (List UInt8) → Int → Option (Bool))) (w0 : World) (hr4 : RdT (ePair eStr (ePair eStr (eInt .i64))) w0 A2 c3 p1) (hcf8 : ∀ (args : Array Value) (w : World), (callFunc ff6 args).run Tryd.prog w = .ok (.enter ff6 args) w) (hf9 : ∀ (y0 : (List UInt8)) (y1 : (List UInt8)) (y2 : Int) (z : (Bool)) (w : World), Below w0.heap.size w0 w → p5 y0 y1 y2 = some z → Calls Tryd.prog ff6 (([(.agg #[(.string ⟨List.toArray y0⟩), (.string ⟨List.toArray y1⟩), (.int .i64 y2)])] : List Value) ++ (caps7).toList).toArray w (fun e w' => e = .returned (.bool z) ∧ SP [] w w' [])) (r : (Int)) (H : L_slices_IndexFunc_api_Token_api_Token p1 p5 = some r) :
  Calls Tryd.prog 57 #[(.slice A2 (List.length p1) c3), (.func (.func ff6) #[] caps7)] w0 (fun e w' => e = .returned (.int .i64 r) ∧ SP [] w0 w' []) := by
 unfold L_slices_IndexFunc_api_Token_api_Token at H
 refine calls_go (n := 19) Tryd.func57 K K K ?_
 have hs0 := SP.start [] w0
 refine At.sq K ?_
 refine At.region K K ?_
 refine In.run' 1 (k' := 1) rfl [(4, (.int .i64 0))] K ?_
 refine In.fin K ?_
 refine At.sq K ?_
 refine At.sq K ?_
 refine At.region K K ?_
 refine In.run' 3 (k' := 3) rfl [(6, (.slice A2 (List.length p1) c3)), (7, (.int .i64 ((List.length p1 : Nat) : Int))), (8, (.int .i64 0))] K ?_
 refine In.fin K ?_
 refine At.bk K (id := 0) K ?_
 refine At.lp K (fun f1 ρ w => ∃ (v30 : Int), Known ρ [(0, (.slice A2 (List.length p1) c3)), (1, (.func (.func ff6) #[] caps7)), (7, (.int .i64 ((List.length p1 : Nat) : Int))), (8, (.int .i64 v30))] ∧ SP [] w0 w [] ∧ L_slices_IndexFunc_api_Token_api_Token_l1 p1 p5 f1 v30 = some r) (by rintro ρ w ⟨v30, hk, hs, H⟩; cases H) ?_ fuel ?_
 ·rintro f1 ρ w28 ⟨v30, hk, hs29, H⟩
  refine At.known [(0, (.slice A2 (List.length p1) c3)), (1, (.func (.func ff6) #[] caps7)), (7, (.int .i64 ((List.length p1 : Nat) : Int))), (8, (.int .i64 v30))] hk ?_
  replace H := (show L_slices_IndexFunc_api_Token_api_Token_b1 (L_slices_IndexFunc_api_Token_api_Token_l1 p1 p5 f1) p1 p5 v30 = some r from H)
  unfold L_slices_IndexFunc_api_Token_api_Token_b1 at H
  refine At.sq K ?_
  refine At.region K K ?_
  refine In.run' 1 (k' := 1) rfl [(9, (.bool (decide (v30 < ((List.length p1 : Nat) : Int)))))] K ?_
  refine In.fin K ?_
  refine At.sq K ?_
  refine At.cd K (o := (.tmp 9)) K (b := (decide (v30 < ((List.length p1 : Nat) : Int)))) K (fun hb48 => ?_) (fun hb48 => ?_)
  ·have H := ct H hb48
   refine At.skip K ?_
   refine At.sq K ?_
   refine At.bk K (id := 1) K ?_
   refine At.sq K ?_
   refine At.region K K ?_
   refine In.run' 2 (k' := 2) rfl [(10, (.int .i64 v30)), (5, (.int .i64 v30))] K ?_
   refine In.fin K ?_
   refine At.sq K ?_
   refine At.region K K ?_
   refine In.run' 3 (k' := 3) rfl [(11, (.func (.func ff6) #[] caps7)), (12, (.slice A2 (List.length p1) c3)), (13, (.int .i64 v30))] K ?_
   obtain ⟨x49, hp50, hq51, hx52, H⟩ := idx_elim H
   refine In.step (k' := 4) rfl K ?_
   refine Step.elem (e := (ePair eStr (ePair eStr (eInt .i64)))) (l := p1) (A := A2) (c := c3) (T := 43) (E := 56) (x := (.tmp 12)) (ix := (.tmp 13)) (ki := .i64) (iz := v30) (d := (some 14)) (k := 3) K rfl K K K K (RdT.sp hr4 hs29) hp50 hq51 ?_
   intro b53 o54 hA56 hb57 hc55
   refine In.step (k' := 5) rfl K ?_
   refine Step.cells (t := 56) (x := (.tmp 14)) (b := b53) (off := (o54 + Int.toNat v30 * (ePair eStr (ePair eStr (eInt .i64))).sz)) (xs := [(.string ⟨List.toArray x49.1⟩), (.string ⟨List.toArray x49.2.1⟩), (.int .i64 x49.2.2)]) (d := (some 15)) (k := 4) K rfl K K K (elem_cells0 (e := (ePair eStr (ePair eStr (eInt .i64)))) (rdt_cells (RdT.sp hr4 hs29) hA56 hp50 hq51) hx52 rfl) ?_
   obtain ⟨z58, hz59, H⟩ := bind_elim H
   refine In.step (k' := 6) rfl K ?_
   refine Step.callF (f := ff6) (fo := (.tmp 11)) (xs := #[(.tmp 15)]) (tys := #[56]) (first := #[]) (captured := caps7) (args := (([(.agg #[(.string ⟨List.toArray x49.1⟩), (.string ⟨List.toArray x49.2.1⟩), (.int .i64 x49.2.2)])] : List Value) ++ (caps7).toList)) (d := (some 16)) (k := 5) K rfl K K hcf8 (hf9 x49.1 x49.2.1 x49.2.2 z58 w28  (SP.keeps hs29)  hz59) ?_
   rintro e w60 ⟨rfl, hs61⟩
   refine ⟨_, rfl, ?_⟩
   have hs63 : SP [] w0 w60 [] := SP.call hs29 hs61
   clear hs61
   refine In.fin K ?_
   refine At.cd K (o := (.tmp 16)) K (b := z58) K (fun hb64 => ?_) (fun hb64 => ?_)
   ·have H := ct H hb64
    refine At.sq K ?_
    refine At.region K K ?_
    refine In.run' 2 (k' := 2) rfl [(17, (.int .i64 v30)), (4, (.int .i64 v30))] K ?_
    refine In.fin K ?_
    refine At.ret K ?_
    refine ⟨(.int .i64 v30), K, ?_⟩
    obtain rfl := some_elim H
    exact ⟨rfl, SP.sel hs63 [] rfl rfl⟩
   ·have H := cf H hb64
    refine At.skip K ?_
    refine At.region K K ?_
    refine In.run' 2 (k' := 2) rfl [(18, (.int .i64 (IntKind.wrap .i64 (v30 + 1)))), (8, (.int .i64 (IntKind.wrap .i64 (v30 + 1))))] K ?_
    refine In.fin K ?_
    exact ⟨(IntKind.wrap .i64 (v30 + 1)), ⟨K, K, K, K, trivial⟩, SP.sel hs63 [] rfl rfl, H⟩
  ·have H := cf H hb48
   refine At.exit K (id := 0) K ?_
   refine At.sq K ?_
   refine At.region K K ?_
   refine In.run' 1 (k' := 1) rfl [(4, (.int .i64 (-1)))] K ?_
   refine In.fin K ?_
   refine At.ret K ?_
   refine ⟨(.int .i64 (-1)), K, ?_⟩
   obtain rfl := some_elim H
   exact ⟨rfl, SP.sel hs29 [] rfl rfl⟩
 ·exact ⟨0, ⟨K, K, K, K, trivial⟩, SP.sel hs0 [] rfl rfl, H⟩
/-! L_slices_ContainsFunc_api_Token_api_Token -/
def L_slices_ContainsFunc_api_Token_api_Token (p1 : (List ((List UInt8) × (List UInt8) × Int))) (p5 : ((List UInt8) → (List UInt8) → Int → Option (Bool))) : Option (Bool) :=
  ((L_slices_IndexFunc_api_Token_api_Token p1 p5).bind fun z10 => (some ((decide (z10 ≥ 0)))))
set_option maxRecDepth 100000 in
set_option maxHeartbeats 4000000 in
theorem L_slices_ContainsFunc_api_Token_api_Token_walk (A2 : Option Addr) (c3 : Nat) (ff6 : FuncId) (caps7 : Array Value) (p1 : (List ((List UInt8) × (List UInt8) × Int))) (p5 : ((List UInt8) → (List UInt8) → Int → Option (Bool))) (w0 : World) (hr4 : RdT (ePair eStr (ePair eStr (eInt .i64))) w0 A2 c3 p1) (hcf8 : ∀ (args : Array Value) (w : World), (callFunc ff6 args).run Tryd.prog w = .ok (.enter ff6 args) w) (hf9 : ∀ (y0 : (List UInt8)) (y1 : (List UInt8)) (y2 : Int) (z : (Bool)) (w : World), Below w0.heap.size w0 w → p5 y0 y1 y2 = some z → Calls Tryd.prog ff6 (([(.agg #[(.string ⟨List.toArray y0⟩), (.string ⟨List.toArray y1⟩), (.int .i64 y2)])] : List Value) ++ (caps7).toList).toArray w (fun e w' => e = .returned (.bool z) ∧ SP [] w w' [])) (r : (Bool)) (H : L_slices_ContainsFunc_api_Token_api_Token p1 p5 = some r) :
  Calls Tryd.prog 48 #[(.slice A2 (List.length p1) c3), (.func (.func ff6) #[] caps7)] w0 (fun e w' => e = .returned (.bool r) ∧ SP [] w0 w' []) := by
 unfold L_slices_ContainsFunc_api_Token_api_Token at H
 refine calls_go (n := 9) Tryd.func48 K K K ?_
 have hs0 := SP.start [] w0
 refine At.sq K ?_
 refine At.region K K ?_
 refine In.run' 1 (k' := 1) rfl [(4, (.bool false))] K ?_
 refine In.fin K ?_
 refine At.sq K ?_
 refine At.region K K ?_
 refine In.run' 2 (k' := 2) rfl [(5, (.slice A2 (List.length p1) c3)), (6, (.func (.func ff6) #[] caps7))] K ?_
 obtain ⟨z10, hz11, H⟩ := bind_elim H
 refine In.step (k' := 3) rfl K ?_
 refine Step.callF (f := 57) (fo := (.func 57)) (xs := #[(.tmp 5), (.tmp 6)]) (tys := #[43, 87]) (first := #[]) (captured := #[]) (d := (some 7)) (k := 2) K rfl K K Tryd.call57 (L_slices_IndexFunc_api_Token_api_Token_walk A2 c3 ff6 caps7 p1 p5 w0 (RdT.sp hr4 hs0) hcf8 (fun y0 y1 y2 z w  hw  hz => hf9 y0 y1 y2 z w  (keeps_then hs0 hw)  hz) z10 hz11) ?_
 rintro e w12 ⟨rfl, hs13⟩
 refine ⟨_, rfl, ?_⟩
 have hs15 : SP [] w0 w12 [] := SP.call hs0 hs13
 clear hs13
 refine In.run' 2 (k' := 5) rfl [(8, (.bool (decide (z10 ≥ 0)))), (4, (.bool (decide (z10 ≥ 0))))] K ?_
 refine In.fin K ?_
 refine At.ret K ?_
 refine ⟨(.bool (decide (z10 ≥ 0))), K, ?_⟩
 obtain rfl := some_elim H
 exact ⟨rfl, SP.sel hs15 [] rfl rfl⟩
/-! L_slices_IndexFunc_api_Tenant_api_Tenant -/
def L_slices_IndexFunc_api_Tenant_api_Tenant_b1 (rec1 : Int → Option (Int)) (p1 : (List TenantL)) (p6 : ((List UInt8) → Int → Int → (List (Int × Int)) → (List ((List UInt8) × (List UInt8) × Int)) → Option (Bool))) (v32 : Int) : Option (Int) :=
  (cond (decide (v32 < ((List.length p1 : Nat) : Int))) ((idx p1 v32).bind fun x52 => ((p6 x52.1 x52.2.1 x52.2.2.1 x52.2.2.2.1 x52.2.2.2.2).bind fun z62 => (cond z62 (some (v32)) (rec1 (IntKind.wrap .i64 (v32 + 1)))))) (some ((-1))))
def L_slices_IndexFunc_api_Tenant_api_Tenant_l1 (p1 : (List TenantL)) (p6 : ((List UInt8) → Int → Int → (List (Int × Int)) → (List ((List UInt8) × (List UInt8) × Int)) → Option (Bool))) : Nat → Int → Option (Int)
  | 0, _ => none
  | f + 1, v32 => L_slices_IndexFunc_api_Tenant_api_Tenant_b1  (L_slices_IndexFunc_api_Tenant_api_Tenant_l1 p1 p6 f) p1 p6 v32
def L_slices_IndexFunc_api_Tenant_api_Tenant (p1 : (List TenantL)) (p6 : ((List UInt8) → Int → Int → (List (Int × Int)) → (List ((List UInt8) × (List UInt8) × Int)) → Option (Bool))) : Option (Int) :=
  (L_slices_IndexFunc_api_Tenant_api_Tenant_l1 p1 p6 fuel 0)
set_option maxRecDepth 100000 in
set_option maxHeartbeats 4000000 in
theorem L_slices_IndexFunc_api_Tenant_api_Tenant_walk (A2 : Option Addr) (c3 : Nat) (ff7 : FuncId) (caps8 : Array Value) (d5 : (List TenantD)) (p6 : ((List UInt8) → Int → Int → (List (Int × Int)) → (List ((List UInt8) × (List UInt8) × Int)) → Option (Bool))) (w0 : World) (hr4 : (dDS eTen dTen).ok w0 (A2, c3, d5)) (hcf9 : ∀ (args : Array Value) (w : World), (callFunc ff7 args).run Tryd.prog w = .ok (.enter ff7 args) w) (hf10 : ∀ (y0 : (List UInt8)) (y1 : Int) (y2 : Int) (y3 : (List (Int × Int))) (y4 : (List ((List UInt8) × (List UInt8) × Int))) (z : (Bool)) (w : World) (Ay3 : Option Addr) (cy3 : Nat) (Ay4 : Option Addr) (cy4 : Nat), Below w0.heap.size w0 w → RdT (ePair (eInt .u32) (eInt .i64)) w Ay3 cy3 y3 → RdT (ePair eStr (ePair eStr (eInt .i64))) w Ay4 cy4 y4 → p6 y0 y1 y2 y3 y4 = some z → Calls Tryd.prog ff7 (([(.agg #[(.string ⟨List.toArray y0⟩), (.int .i64 y1), (.int .i64 y2), (.slice Ay3 (List.length y3) cy3), (.slice Ay4 (List.length y4) cy4)])] : List Value) ++ (caps8).toList).toArray w (fun e w' => e = .returned (.bool z) ∧ SP [] w w' [])) (r : (Int)) (H : L_slices_IndexFunc_api_Tenant_api_Tenant (List.map stT d5) p6 = some r) :
  Calls Tryd.prog 45 #[(.slice A2 (List.length (List.map stT d5)) c3), (.func (.func ff7) #[] caps8)] w0 (fun e w' => e = .returned (.int .i64 r) ∧ SP [] w0 w' []) := by
 unfold L_slices_IndexFunc_api_Tenant_api_Tenant at H
 refine calls_go (n := 19) Tryd.func45 K K K ?_
 have hs0 := SP.start [] w0
 refine At.sq K ?_
 refine At.region K K ?_
 refine In.run' 1 (k' := 1) rfl [(4, (.int .i64 0))] K ?_
 refine In.fin K ?_
 refine At.sq K ?_
 refine At.sq K ?_
 refine At.region K K ?_
 refine In.run' 3 (k' := 3) rfl [(6, (.slice A2 (List.length (List.map stT d5)) c3)), (7, (.int .i64 ((List.length (List.map stT d5) : Nat) : Int))), (8, (.int .i64 0))] K ?_
 refine In.fin K ?_
 refine At.bk K (id := 0) K ?_
 refine At.lp K (fun f1 ρ w => ∃ (v32 : Int), Known ρ [(0, (.slice A2 (List.length (List.map stT d5)) c3)), (1, (.func (.func ff7) #[] caps8)), (7, (.int .i64 ((List.length (List.map stT d5) : Nat) : Int))), (8, (.int .i64 v32))] ∧ SP [] w0 w [] ∧ L_slices_IndexFunc_api_Tenant_api_Tenant_l1 (List.map stT d5) p6 f1 v32 = some r) (by rintro ρ w ⟨v32, hk, hs, H⟩; cases H) ?_ fuel ?_
 ·rintro f1 ρ w30 ⟨v32, hk, hs31, H⟩
  refine At.known [(0, (.slice A2 (List.length (List.map stT d5)) c3)), (1, (.func (.func ff7) #[] caps8)), (7, (.int .i64 ((List.length (List.map stT d5) : Nat) : Int))), (8, (.int .i64 v32))] hk ?_
  replace H := (show L_slices_IndexFunc_api_Tenant_api_Tenant_b1 (L_slices_IndexFunc_api_Tenant_api_Tenant_l1 (List.map stT d5) p6 f1) (List.map stT d5) p6 v32 = some r from H)
  unfold L_slices_IndexFunc_api_Tenant_api_Tenant_b1 at H
  refine At.sq K ?_
  refine At.region K K ?_
  refine In.run' 1 (k' := 1) rfl [(9, (.bool (decide (v32 < ((List.length (List.map stT d5) : Nat) : Int)))))] K ?_
  refine In.fin K ?_
  refine At.sq K ?_
  refine At.cd K (o := (.tmp 9)) K (b := (decide (v32 < ((List.length (List.map stT d5) : Nat) : Int)))) K (fun hb51 => ?_) (fun hb51 => ?_)
  ·have H := ct H hb51
   refine At.skip K ?_
   refine At.sq K ?_
   refine At.bk K (id := 1) K ?_
   refine At.sq K ?_
   refine At.region K K ?_
   refine In.run' 2 (k' := 2) rfl [(10, (.int .i64 v32)), (5, (.int .i64 v32))] K ?_
   refine In.fin K ?_
   refine At.sq K ?_
   refine At.region K K ?_
   refine In.run' 3 (k' := 3) rfl [(11, (.func (.func ff7) #[] caps8)), (12, (.slice A2 (List.length (List.map stT d5)) c3)), (13, (.int .i64 v32))] K ?_
   obtain ⟨y56, hp53, hq54, hx55, H⟩ := idxm_elim H
   refine In.step (k' := 4) rfl K ?_
   refine Step.elemM stT (e := eTen) (l := d5) (A := A2) (c := c3) (T := 22) (E := 45) (x := (.tmp 12)) (ix := (.tmp 13)) (ki := .i64) (iz := v32) (d := (some 14)) (k := 3) K rfl K K K K (RdT.sp (ds_rd hr4) hs31) hp53 hq54 ?_
   intro b57 o58 hA60 hb61 hc59
   refine In.step (k' := 5) rfl K ?_
   refine Step.cells (t := 45) (x := (.tmp 14)) (b := b57) (off := (o58 + Int.toNat v32 * eTen.sz)) (xs := [(.string ⟨List.toArray (stT y56).1⟩), (.int .i64 (stT y56).2.1), (.int .i64 (stT y56).2.2.1), (.slice y56.2.2.2.1.1 (List.length (stT y56).2.2.2.1) y56.2.2.2.1.2.1), (.slice y56.2.2.2.2.1 (List.length (stT y56).2.2.2.2) y56.2.2.2.2.2.1)]) (d := (some 15)) (k := 4) K rfl K K K (elem_cells0 (e := eTen) (rdt_cells (RdT.sp (ds_rd hr4) hs31) hA60 hp53 hq54) hx55 rfl) ?_
   obtain ⟨z62, hz63, H⟩ := bind_elim H
   refine In.step (k' := 6) rfl K ?_
   refine Step.callF (f := ff7) (fo := (.tmp 11)) (xs := #[(.tmp 15)]) (tys := #[45]) (first := #[]) (captured := caps8) (args := (([(.agg #[(.string ⟨List.toArray (stT y56).1⟩), (.int .i64 (stT y56).2.1), (.int .i64 (stT y56).2.2.1), (.slice y56.2.2.2.1.1 (List.length (stT y56).2.2.2.1) y56.2.2.2.1.2.1), (.slice y56.2.2.2.2.1 (List.length (stT y56).2.2.2.2) y56.2.2.2.2.2.1)])] : List Value) ++ (caps8).toList)) (d := (some 16)) (k := 5) K rfl K K hcf9 (hf10 (stT y56).1 (stT y56).2.1 (stT y56).2.2.1 (stT y56).2.2.2.1 (stT y56).2.2.2.2 z62 w30 y56.2.2.2.1.1 y56.2.2.2.1.2.1 y56.2.2.2.2.1 y56.2.2.2.2.2.1 (SP.keeps hs31) (RdT.sp (ds_rd (dp1 (dp2 (dp2 (dp2 (ds_el hr4 hx55)))))) hs31) (RdT.sp (ds_rd (dp2 (dp2 (dp2 (dp2 (ds_el hr4 hx55)))))) hs31) hz63) ?_
   rintro e w64 ⟨rfl, hs65⟩
   refine ⟨_, rfl, ?_⟩
   have hs67 : SP [] w0 w64 [] := SP.call hs31 hs65
   clear hs65
   refine In.fin K ?_
   refine At.cd K (o := (.tmp 16)) K (b := z62) K (fun hb68 => ?_) (fun hb68 => ?_)
   ·have H := ct H hb68
    refine At.sq K ?_
    refine At.region K K ?_
    refine In.run' 2 (k' := 2) rfl [(17, (.int .i64 v32)), (4, (.int .i64 v32))] K ?_
    refine In.fin K ?_
    refine At.ret K ?_
    refine ⟨(.int .i64 v32), K, ?_⟩
    obtain rfl := some_elim H
    exact ⟨rfl, SP.sel hs67 [] rfl rfl⟩
   ·have H := cf H hb68
    refine At.skip K ?_
    refine At.region K K ?_
    refine In.run' 2 (k' := 2) rfl [(18, (.int .i64 (IntKind.wrap .i64 (v32 + 1)))), (8, (.int .i64 (IntKind.wrap .i64 (v32 + 1))))] K ?_
    refine In.fin K ?_
    exact ⟨(IntKind.wrap .i64 (v32 + 1)), ⟨K, K, K, K, trivial⟩, SP.sel hs67 [] rfl rfl, H⟩
  ·have H := cf H hb51
   refine At.exit K (id := 0) K ?_
   refine At.sq K ?_
   refine At.region K K ?_
   refine In.run' 1 (k' := 1) rfl [(4, (.int .i64 (-1)))] K ?_
   refine In.fin K ?_
   refine At.ret K ?_
   refine ⟨(.int .i64 (-1)), K, ?_⟩
   obtain rfl := some_elim H
   exact ⟨rfl, SP.sel hs31 [] rfl rfl⟩
 ·exact ⟨0, ⟨K, K, K, K, trivial⟩, SP.sel hs0 [] rfl rfl, H⟩
/-! L_slices_ContainsFunc_api_Tenant_api_Tenant -/
def L_slices_ContainsFunc_api_Tenant_api_Tenant (p1 : (List TenantL)) (p6 : ((List UInt8) → Int → Int → (List (Int × Int)) → (List ((List UInt8) × (List UInt8) × Int)) → Option (Bool))) : Option (Bool) :=
  ((L_slices_IndexFunc_api_Tenant_api_Tenant p1 p6).bind fun z11 => (some ((decide (z11 ≥ 0)))))
set_option maxRecDepth 100000 in
set_option maxHeartbeats 4000000 in
theorem L_slices_ContainsFunc_api_Tenant_api_Tenant_walk (A2 : Option Addr) (c3 : Nat) (ff7 : FuncId) (caps8 : Array Value) (d5 : (List TenantD)) (p6 : ((List UInt8) → Int → Int → (List (Int × Int)) → (List ((List UInt8) × (List UInt8) × Int)) → Option (Bool))) (w0 : World) (hr4 : (dDS eTen dTen).ok w0 (A2, c3, d5)) (hcf9 : ∀ (args : Array Value) (w : World), (callFunc ff7 args).run Tryd.prog w = .ok (.enter ff7 args) w) (hf10 : ∀ (y0 : (List UInt8)) (y1 : Int) (y2 : Int) (y3 : (List (Int × Int))) (y4 : (List ((List UInt8) × (List UInt8) × Int))) (z : (Bool)) (w : World) (Ay3 : Option Addr) (cy3 : Nat) (Ay4 : Option Addr) (cy4 : Nat), Below w0.heap.size w0 w → RdT (ePair (eInt .u32) (eInt .i64)) w Ay3 cy3 y3 → RdT (ePair eStr (ePair eStr (eInt .i64))) w Ay4 cy4 y4 → p6 y0 y1 y2 y3 y4 = some z → Calls Tryd.prog ff7 (([(.agg #[(.string ⟨List.toArray y0⟩), (.int .i64 y1), (.int .i64 y2), (.slice Ay3 (List.length y3) cy3), (.slice Ay4 (List.length y4) cy4)])] : List Value) ++ (caps8).toList).toArray w (fun e w' => e = .returned (.bool z) ∧ SP [] w w' [])) (r : (Bool)) (H : L_slices_ContainsFunc_api_Tenant_api_Tenant (List.map stT d5) p6 = some r) :
  Calls Tryd.prog 33 #[(.slice A2 (List.length (List.map stT d5)) c3), (.func (.func ff7) #[] caps8)] w0 (fun e w' => e = .returned (.bool r) ∧ SP [] w0 w' []) := by
 unfold L_slices_ContainsFunc_api_Tenant_api_Tenant at H
 refine calls_go (n := 9) Tryd.func33 K K K ?_
 have hs0 := SP.start [] w0
 refine At.sq K ?_
 refine At.region K K ?_
 refine In.run' 1 (k' := 1) rfl [(4, (.bool false))] K ?_
 refine In.fin K ?_
 refine At.sq K ?_
 refine At.region K K ?_
 refine In.run' 2 (k' := 2) rfl [(5, (.slice A2 (List.length (List.map stT d5)) c3)), (6, (.func (.func ff7) #[] caps8))] K ?_
 obtain ⟨z11, hz12, H⟩ := bind_elim H
 refine In.step (k' := 3) rfl K ?_
 refine Step.callF (f := 45) (fo := (.func 45)) (xs := #[(.tmp 5), (.tmp 6)]) (tys := #[22, 77]) (first := #[]) (captured := #[]) (d := (some 7)) (k := 2) K rfl K K Tryd.call45 (L_slices_IndexFunc_api_Tenant_api_Tenant_walk A2 c3 ff7 caps8 d5 p6 w0 (Dp.sp hr4 hs0) hcf9 (fun y0 y1 y2 y3 y4 z w Ay3 cy3 Ay4 cy4 hw hy3 hy4 hz => hf10 y0 y1 y2 y3 y4 z w Ay3 cy3 Ay4 cy4 (keeps_then hs0 hw) hy3 hy4 hz) z11 hz12) ?_
 rintro e w13 ⟨rfl, hs14⟩
 refine ⟨_, rfl, ?_⟩
 have hs16 : SP [] w0 w13 [] := SP.call hs0 hs14
 clear hs14
 refine In.run' 2 (k' := 5) rfl [(8, (.bool (decide (z11 ≥ 0)))), (4, (.bool (decide (z11 ≥ 0))))] K ?_
 refine In.fin K ?_
 refine At.ret K ?_
 refine ⟨(.bool (decide (z11 ≥ 0))), K, ?_⟩
 obtain rfl := some_elim H
 exact ⟨rfl, SP.sel hs16 [] rfl rfl⟩
/-! L_config_tenant_1 -/
def L_config_tenant_1 (pAddr1 : Int) (pBits2 : Int) : Option (Bool) :=
  ((L_syntax_Slash pAddr1 pBits2).bind fun z7 => (some ((z7 == ([] : List UInt8)))))
set_option maxRecDepth 100000 in
set_option maxHeartbeats 4000000 in
theorem L_config_tenant_1_walk  (pAddr1 : Int) (pBits2 : Int) (w0 : World) (hL : LaidW w0)  (r : (Bool)) (H : L_config_tenant_1 pAddr1 pBits2 = some r) :
  Calls Tryd.prog 46 #[(.agg #[(.int .u32 pAddr1), (.int .i64 pBits2)])] w0 (fun e w' => e = .returned (.bool r) ∧ SP [] w0 w' []) := by
 unfold L_config_tenant_1 at H
 refine calls_go (n := 6) Tryd.func46 K K K ?_
 have hs0 := SP.start [] w0
 refine At.sq K ?_
 refine At.region K K ?_
 refine In.step (k' := 1) rfl K ?_
 refine Step.box (t := 51) (x := (.tmp 0)) (v := (.agg #[(.int .u32 pAddr1), (.int .i64 pBits2)])) (d := (some 1)) (k := 0) K rfl K hs0 ?_
 intro g3 w4 (hs6 : SP [] w0 w4 [boxE g3 51 #[(.int .u32 pAddr1), (.int .i64 pBits2)]])
 refine In.run' 1 (k' := 2) rfl [(2, (.bool false))] K ?_
 refine In.fin K ?_
 refine At.sq K ?_
 refine At.region K K ?_
 refine In.step (k' := 1) rfl K ?_
 refine Step.load (t := 51) (x := (.tmp 1)) (g := g3) (off := 0) (i := 0) (v := (.agg #[(.int .u32 pAddr1), (.int .i64 pBits2)])) (d := (some 3)) (k := 0) K rfl K hs6 rfl K ?_
 obtain ⟨z7, hz8, H⟩ := bind_elim H
 refine In.step (k' := 2) rfl K ?_
 refine Step.callF (f := 47) (fo := (.func 47)) (xs := #[(.tmp 3)]) (tys := #[51]) (first := #[]) (captured := #[]) (d := (some 4)) (k := 1) K rfl K K Tryd.call47 (L_syntax_Slash_walk  pAddr1 pBits2 w4 (laid_below hL (SP.keeps hs6)) z7 hz8) ?_
 rintro e w9 ⟨rfl, hs10⟩
 refine ⟨_, rfl, ?_⟩
 have hs12 : SP [] w0 w9 [boxE g3 51 #[(.int .u32 pAddr1), (.int .i64 pBits2)]] := SP.call hs6 hs10
 clear hs10
 refine In.step (k' := 3) rfl K ?_
 refine Step.strOp (op := .eql) (T := 9) (T' := 9) (x := (.tmp 4)) (y := (.const (.string ⟨List.toArray ([] : List UInt8)⟩))) (a := z7) (b := ([] : List UInt8)) (r := (.bool (z7 == ([] : List UInt8)))) (d := (some 5)) (k := 2) K rfl K K rfl ?_
 refine In.run' 1 (k' := 4) rfl [(2, (.bool (z7 == ([] : List UInt8))))] K ?_
 refine In.fin K ?_
 refine At.ret K ?_
 refine ⟨(.bool (z7 == ([] : List UInt8))), K, ?_⟩
 obtain rfl := some_elim H
 exact ⟨rfl, SP.sel hs12 [] rfl rfl⟩
/-! L_config_token -/
def L_config_token_k1 (v28 : Bool) : Option (Bool) :=
  (some (v28))
def L_config_token (pName1 : (List UInt8)) (pSecret2 : (List UInt8)) (pUntil3 : Int) : Option (Bool) :=
  ((L_syntax_Name pName1).bind fun z31 => (cond z31 ((L_config_within ((List.length pSecret2 : Nat) : Int) 1 32).bind fun z38 => (cond z38 ((L_config_within pUntil3 0 1099511627776).bind fun z45 => (L_config_token_k1 z45)) (L_config_token_k1 false))) (L_config_token_k1 false)))
set_option maxRecDepth 100000 in
set_option maxHeartbeats 4000000 in
theorem L_config_token_walk  (pName1 : (List UInt8)) (pSecret2 : (List UInt8)) (pUntil3 : Int) (w0 : World)  (r : (Bool)) (H : L_config_token pName1 pSecret2 pUntil3 = some r) :
  Calls Tryd.prog 50 #[(.agg #[(.string ⟨List.toArray pName1⟩), (.string ⟨List.toArray pSecret2⟩), (.int .i64 pUntil3)])] w0 (fun e w' => e = .returned (.bool r) ∧ SP [] w0 w' []) := by
 unfold L_config_token at H
 refine calls_go (n := 17) Tryd.func50 K K K ?_
 have hs0 := SP.start [] w0
 refine At.sq K ?_
 refine At.region K K ?_
 refine In.step (k' := 1) rfl K ?_
 refine Step.box (t := 56) (x := (.tmp 0)) (v := (.agg #[(.string ⟨List.toArray pName1⟩), (.string ⟨List.toArray pSecret2⟩), (.int .i64 pUntil3)])) (d := (some 1)) (k := 0) K rfl K hs0 ?_
 intro g4 w5 (hs7 : SP [] w0 w5 [boxE g4 56 #[(.string ⟨List.toArray pName1⟩), (.string ⟨List.toArray pSecret2⟩), (.int .i64 pUntil3)]])
 refine In.run' 1 (k' := 2) rfl [(2, (.bool false))] K ?_
 refine In.fin K ?_
 refine At.sq K ?_
 refine At.join (fun ρ w => ∃ (v28 : Bool), Known ρ [(2, (.bool v28))] ∧ SP [] w0 w [] ∧ L_config_token_k1 v28 = some r) ?_ ?_
 ·refine At.region K K ?_
  refine In.run' 1 (k' := 1) rfl [(3, (pt g4 0))] K ?_
  refine In.step (k' := 2) rfl K ?_
  refine Step.load (t := 9) (x := (.tmp 3)) (g := g4) (off := 0) (i := 0) (v := (.string ⟨List.toArray pName1⟩)) (d := (some 4)) (k := 1) K rfl K hs7 rfl K ?_
  obtain ⟨z31, hz32, H⟩ := bind_elim H
  refine In.step (k' := 3) rfl K ?_
  refine Step.callF (f := 51) (fo := (.func 51)) (xs := #[(.tmp 4)]) (tys := #[9]) (first := #[]) (captured := #[]) (d := (some 5)) (k := 2) K rfl K K Tryd.call51 (L_syntax_Name_walk  pName1 w5  z31 hz32) ?_
  rintro e w33 ⟨rfl, hs34⟩
  refine ⟨_, rfl, ?_⟩
  have hs36 : SP [] w0 w33 [boxE g4 56 #[(.string ⟨List.toArray pName1⟩), (.string ⟨List.toArray pSecret2⟩), (.int .i64 pUntil3)]] := SP.call hs7 hs34
  clear hs34
  refine In.run' 1 (k' := 4) rfl [(6, (.bool z31))] K ?_
  refine In.guard (t := 6) (b := z31) K (fun hb37 => ?_) (fun hb37 => ?_)
  ·have H := ct H hb37
   refine In.run' 1 (k' := 5) rfl [(7, (pt g4 1))] K ?_
   refine In.step (k' := 6) rfl K ?_
   refine Step.load (t := 9) (x := (.tmp 7)) (g := g4) (off := 1) (i := 0) (v := (.string ⟨List.toArray pSecret2⟩)) (d := (some 8)) (k := 5) K rfl K hs36 rfl K ?_
   refine In.run' 1 (k' := 7) rfl [(9, (.int .i64 ((List.length pSecret2 : Nat) : Int)))] K ?_
   obtain ⟨z38, hz39, H⟩ := bind_elim H
   refine In.step (k' := 8) rfl K ?_
   refine Step.callF (f := 32) (fo := (.func 32)) (xs := #[(.tmp 9), (.const (.int .i64 (1))), (.const (.int .i64 (32)))]) (tys := #[2, 2, 2]) (first := #[]) (captured := #[]) (d := (some 10)) (k := 7) K rfl K K Tryd.call32 (L_config_within_walk  ((List.length pSecret2 : Nat) : Int) 1 32 w33  z38 hz39) ?_
   rintro e w40 ⟨rfl, hs41⟩
   refine ⟨_, rfl, ?_⟩
   have hs43 : SP [] w0 w40 [boxE g4 56 #[(.string ⟨List.toArray pName1⟩), (.string ⟨List.toArray pSecret2⟩), (.int .i64 pUntil3)]] := SP.call hs36 hs41
   clear hs41
   refine In.run' 2 (k' := 10) rfl [(11, (.bool z38)), (12, (.bool z38))] K ?_
   refine In.guard (t := 12) (b := z38) K (fun hb44 => ?_) (fun hb44 => ?_)
   ·have H := ct H hb44
    refine In.run' 1 (k' := 11) rfl [(13, (pt g4 2))] K ?_
    refine In.step (k' := 12) rfl K ?_
    refine Step.load (t := 2) (x := (.tmp 13)) (g := g4) (off := 2) (i := 0) (v := (.int .i64 pUntil3)) (d := (some 14)) (k := 11) K rfl K hs43 rfl K ?_
    obtain ⟨z45, hz46, H⟩ := bind_elim H
    refine In.step (k' := 13) rfl K ?_
    refine Step.callF (f := 32) (fo := (.func 32)) (xs := #[(.tmp 14), (.const (.int .i64 (0))), (.const (.int .i64 (1099511627776)))]) (tys := #[2, 2, 2]) (first := #[]) (captured := #[]) (d := (some 15)) (k := 12) K rfl K K Tryd.call32 (L_config_within_walk  pUntil3 0 1099511627776 w40  z45 hz46) ?_
    rintro e w47 ⟨rfl, hs48⟩
    refine ⟨_, rfl, ?_⟩
    have hs50 : SP [] w0 w47 [boxE g4 56 #[(.string ⟨List.toArray pName1⟩), (.string ⟨List.toArray pSecret2⟩), (.int .i64 pUntil3)]] := SP.call hs43 hs48
    clear hs48
    refine In.run' 2 (k' := 15) rfl [(16, (.bool z45)), (2, (.bool z45))] K ?_
    refine In.fin K ?_
    exact ⟨z45, ⟨K, trivial⟩, SP.sel hs50 [] rfl rfl, H⟩
   ·have H := cf H hb44
    refine In.run' 5 (k' := 15) rfl [(13, undef), (14, undef), (15, undef), (16, (.bool false)), (2, (.bool false))] K ?_
    refine In.fin K ?_
    exact ⟨false, ⟨K, trivial⟩, SP.sel hs43 [] rfl rfl, H⟩
  ·have H := cf H hb37
   refine In.run' 11 (k' := 15) rfl [(7, undef), (8, undef), (9, undef), (10, undef), (11, (.bool false)), (12, (.bool false)), (13, undef), (14, undef), (15, undef), (16, (.bool false)), (2, (.bool false))] K ?_
   refine In.fin K ?_
   exact ⟨false, ⟨K, trivial⟩, SP.sel hs36 [] rfl rfl, H⟩
 ·rintro ρ w29 ⟨v28, hk, hs30, H⟩
  unfold L_config_token_k1 at H
  first | refine At.known [(2, (.bool v28))] hk ?_ | rw [← known_updL (l := [(2, (.bool v28))]) hk]
  refine At.ret K ?_
  refine ⟨(.bool v28), K, ?_⟩
  obtain rfl := some_elim H
  exact ⟨rfl, SP.sel hs30 [] rfl rfl⟩
/-! L_config_tenant_2 -/
def L_config_tenant_2 (pName1 : (List UInt8)) (pSecret2 : (List UInt8)) (pUntil3 : Int) : Option (Bool) :=
  ((L_config_token pName1 pSecret2 pUntil3).bind fun z8 => (some ((!z8))))
set_option maxRecDepth 100000 in
set_option maxHeartbeats 4000000 in
theorem L_config_tenant_2_walk  (pName1 : (List UInt8)) (pSecret2 : (List UInt8)) (pUntil3 : Int) (w0 : World)  (r : (Bool)) (H : L_config_tenant_2 pName1 pSecret2 pUntil3 = some r) :
  Calls Tryd.prog 49 #[(.agg #[(.string ⟨List.toArray pName1⟩), (.string ⟨List.toArray pSecret2⟩), (.int .i64 pUntil3)])] w0 (fun e w' => e = .returned (.bool r) ∧ SP [] w0 w' []) := by
 unfold L_config_tenant_2 at H
 refine calls_go (n := 6) Tryd.func49 K K K ?_
 have hs0 := SP.start [] w0
 refine At.sq K ?_
 refine At.region K K ?_
 refine In.step (k' := 1) rfl K ?_
 refine Step.box (t := 56) (x := (.tmp 0)) (v := (.agg #[(.string ⟨List.toArray pName1⟩), (.string ⟨List.toArray pSecret2⟩), (.int .i64 pUntil3)])) (d := (some 1)) (k := 0) K rfl K hs0 ?_
 intro g4 w5 (hs7 : SP [] w0 w5 [boxE g4 56 #[(.string ⟨List.toArray pName1⟩), (.string ⟨List.toArray pSecret2⟩), (.int .i64 pUntil3)]])
 refine In.run' 1 (k' := 2) rfl [(2, (.bool false))] K ?_
 refine In.fin K ?_
 refine At.sq K ?_
 refine At.region K K ?_
 refine In.step (k' := 1) rfl K ?_
 refine Step.load (t := 56) (x := (.tmp 1)) (g := g4) (off := 0) (i := 0) (v := (.agg #[(.string ⟨List.toArray pName1⟩), (.string ⟨List.toArray pSecret2⟩), (.int .i64 pUntil3)])) (d := (some 3)) (k := 0) K rfl K hs7 rfl K ?_
 obtain ⟨z8, hz9, H⟩ := bind_elim H
 refine In.step (k' := 2) rfl K ?_
 refine Step.callF (f := 50) (fo := (.func 50)) (xs := #[(.tmp 3)]) (tys := #[56]) (first := #[]) (captured := #[]) (d := (some 4)) (k := 1) K rfl K K Tryd.call50 (L_config_token_walk  pName1 pSecret2 pUntil3 w5  z8 hz9) ?_
 rintro e w10 ⟨rfl, hs11⟩
 refine ⟨_, rfl, ?_⟩
 have hs13 : SP [] w0 w10 [boxE g4 56 #[(.string ⟨List.toArray pName1⟩), (.string ⟨List.toArray pSecret2⟩), (.int .i64 pUntil3)]] := SP.call hs7 hs11
 clear hs11
 refine In.run' 2 (k' := 4) rfl [(5, (.bool (!z8))), (2, (.bool (!z8)))] K ?_
 refine In.fin K ?_
 refine At.ret K ?_
 refine ⟨(.bool (!z8)), K, ?_⟩
 obtain rfl := some_elim H
 exact ⟨rfl, SP.sel hs13 [] rfl rfl⟩
/-! L_config_rising_api_Token -/
def L_config_rising_api_Token_b1 (rec1 : Int → Option (Bool)) (p1 : (List ((List UInt8) × (List UInt8) × Int))) (p5 : ((List UInt8) → (List UInt8) → Int → Option ((List UInt8)))) (v117 : Int) : Option (Bool) :=
  (cond (decide (v117 < ((List.length p1 : Nat) : Int))) ((idx p1 (IntKind.wrap .i64 (v117 - 1))).bind fun x223 => ((p5 x223.1 x223.2.1 x223.2.2).bind fun z232 => ((idx p1 v117).bind fun x238 => ((p5 x238.1 x238.2.1 x238.2.2).bind fun z247 => (cond (!(Op.bytesLess z232 z247)) (some (false)) (rec1 (IntKind.wrap .i64 (v117 + 1)))))))) (some (true)))
def L_config_rising_api_Token_l1 (p1 : (List ((List UInt8) × (List UInt8) × Int))) (p5 : ((List UInt8) → (List UInt8) → Int → Option ((List UInt8)))) : Nat → Int → Option (Bool)
  | 0, _ => none
  | f + 1, v117 => L_config_rising_api_Token_b1  (L_config_rising_api_Token_l1 p1 p5 f) p1 p5 v117
def L_config_rising_api_Token (p1 : (List ((List UInt8) × (List UInt8) × Int))) (p5 : ((List UInt8) → (List UInt8) → Int → Option ((List UInt8)))) : Option (Bool) :=
  (L_config_rising_api_Token_l1 p1 p5 fuel 1)
set_option maxRecDepth 100000 in
set_option maxHeartbeats 4000000 in
theorem L_config_rising_api_Token_walk (A2 : Option Addr) (c3 : Nat) (ff6 : FuncId) (caps7 : Array Value) (p1 : (List ((List UInt8) × (List UInt8) × Int))) (p5 : ((List UInt8) → (List UInt8) → Int → Option ((List UInt8)))) (w0 : World) (hr4 : RdT (ePair eStr (ePair eStr (eInt .i64))) w0 A2 c3 p1) (hcf8 : ∀ (args : Array Value) (w : World), (callFunc ff6 args).run Tryd.prog w = .ok (.enter ff6 args) w) (hf9 : ∀ (y0 : (List UInt8)) (y1 : (List UInt8)) (y2 : Int) (z : ((List UInt8))) (w : World), Below w0.heap.size w0 w → p5 y0 y1 y2 = some z → Calls Tryd.prog ff6 (([(.agg #[(.string ⟨List.toArray y0⟩), (.string ⟨List.toArray y1⟩), (.int .i64 y2)])] : List Value) ++ (caps7).toList).toArray w (fun e w' => e = .returned (.string ⟨List.toArray z⟩) ∧ SP [] w w' [])) (r : (Bool)) (H : L_config_rising_api_Token p1 p5 = some r) :
  Calls Tryd.prog 52 #[(.slice A2 (List.length p1) c3), (.func (.func ff6) #[] caps7)] w0 (fun e w' => e = .returned (.bool r) ∧ SP [] w0 w' []) := by
 unfold L_config_rising_api_Token at H
 refine calls_go (n := 26) Tryd.func52 K K K ?_
 have hs0 := SP.start [] w0
 refine At.sq K ?_
 refine At.region K K ?_
 refine In.run' 1 (k' := 1) rfl [(4, (.bool false))] K ?_
 refine In.fin K ?_
 refine At.sq K ?_
 refine At.sq K ?_
 refine At.region K K ?_
 refine In.run' 1 (k' := 1) rfl [(5, (.int .i64 1))] K ?_
 refine In.fin K ?_
 refine At.bk K (id := 0) K ?_
 refine At.lp K (fun f1 ρ w => ∃ (v117 : Int), Known ρ [(0, (.slice A2 (List.length p1) c3)), (1, (.func (.func ff6) #[] caps7)), (5, (.int .i64 v117))] ∧ SP [] w0 w [] ∧ L_config_rising_api_Token_l1 p1 p5 f1 v117 = some r) (by rintro ρ w ⟨v117, hk, hs, H⟩; cases H) ?_ fuel ?_
 ·rintro f1 ρ w115 ⟨v117, hk, hs116, H⟩
  refine At.known [(0, (.slice A2 (List.length p1) c3)), (1, (.func (.func ff6) #[] caps7)), (5, (.int .i64 v117))] hk ?_
  replace H := (show L_config_rising_api_Token_b1 (L_config_rising_api_Token_l1 p1 p5 f1) p1 p5 v117 = some r from H)
  unfold L_config_rising_api_Token_b1 at H
  refine At.sq K ?_
  refine At.sq K ?_
  refine At.region K K ?_
  refine In.run' 4 (k' := 4) rfl [(6, (.int .i64 v117)), (7, (.slice A2 (List.length p1) c3)), (8, (.int .i64 ((List.length p1 : Nat) : Int))), (9, (.bool (decide (v117 < ((List.length p1 : Nat) : Int)))))] K ?_
  refine In.fin K ?_
  refine At.cd K (o := (.tmp 9)) K (b := (decide (v117 < ((List.length p1 : Nat) : Int)))) K (fun hb222 => ?_) (fun hb222 => ?_)
  ·have H := ct H hb222
   refine At.skip K ?_
   refine At.sq K ?_
   refine At.bk K (id := 1) K ?_
   refine At.sq K ?_
   obtain ⟨x223, hp224, hq225, hx226, H⟩ := idx_elim H
   obtain ⟨z232, hz233, H⟩ := bind_elim H
   obtain ⟨x238, hp239, hq240, hx241, H⟩ := idx_elim H
   obtain ⟨z247, hz248, H⟩ := bind_elim H
   refine At.stages K K K K K [GEq (.func (.func ff6) #[] caps7), GEq (.slice A2 (List.length p1) c3), GEq (.int .i64 v117), GEq (.int .i64 (IntKind.wrap .i64 (v117 - 1))), GElem0 A2 (ePair eStr (ePair eStr (eInt .i64))).sz (IntKind.wrap .i64 (v117 - 1)), GEq (.agg #[(.string ⟨List.toArray x223.1⟩), (.string ⟨List.toArray x223.2.1⟩), (.int .i64 x223.2.2)]), GEq (.string ⟨List.toArray z232⟩), GEq (.func (.func ff6) #[] caps7), GEq (.slice A2 (List.length p1) c3), GEq (.int .i64 v117), GElem0 A2 (ePair eStr (ePair eStr (eInt .i64))).sz v117, GEq (.agg #[(.string ⟨List.toArray x238.1⟩), (.string ⟨List.toArray x238.2.1⟩), (.int .i64 x238.2.2)]), GEq (.string ⟨List.toArray z247⟩), GEq (.bool (!(Op.bytesLess z232 z247)))] [6, 12] [([], fun vs w => VL vs [] ∧ SP [] w0 w []), ([6], fun vs w => VL vs [(.string ⟨List.toArray z232⟩)] ∧ SP [] w0 w []), ([6, 12], fun vs w => VL vs [(.string ⟨List.toArray z232⟩), (.string ⟨List.toArray z247⟩)] ∧ SP [] w0 w [])] (N := 14) K ⟨K, Nat.zero_lt_succ _⟩ (show VL [] [] ∧ SP [] w0 w115.drew [] from ⟨trivial, SP.drew hs116⟩) ⟨⟨⟨⟨⟨⟨⟨⟨⟨⟨⟨⟨⟨⟨trivial, ?_⟩, ?_⟩, ?_⟩, ?_⟩, ?_⟩, ?_⟩, ?_⟩, ?_⟩, ?_⟩, ?_⟩, ?_⟩, ?_⟩, ?_⟩, ?_⟩ (last := 2) K ?_
   ·exact Owe.run K [(1, (.func (.func ff6) #[] caps7))] ⟨gS K K, trivial⟩ (.func (.func ff6) #[] caps7) (fun _ _ => K) rfl
   ·exact Owe.run K [(0, (.slice A2 (List.length p1) c3))] ⟨gS K K, trivial⟩ (.slice A2 (List.length p1) c3) (fun _ _ => K) rfl
   ·exact Owe.run K [(5, (.int .i64 v117))] ⟨gS K K, trivial⟩ (.int .i64 v117) (fun _ _ => K) rfl
   ·exact Owe.run K [(14, (.int .i64 v117))] ⟨gA 2 K K, trivial⟩ (.int .i64 (IntKind.wrap .i64 (v117 - 1))) (fun _ _ => K) rfl
   ·refine Owe.light K [0] K (all_cons ?_ all_nil)
    ·rintro ρ' w' hs hah ⟨hvl266, hs265⟩
     have hkn : Known ρ' [(13, (.slice A2 (List.length p1) c3)), (15, (.int .i64 (IntKind.wrap .i64 (v117 - 1))))] := ⟨hah 1 13 K, hah 3 15 K, trivial⟩
     refine Step.known _ hkn ?_
     refine Step.elem (e := (ePair eStr (ePair eStr (eInt .i64)))) (l := p1) (A := A2) (c := c3) (T := 43) (E := 56) (x := (.tmp 13)) (ix := (.tmp 15)) (ki := .i64) (iz := (IntKind.wrap .i64 (v117 - 1))) (d := (some 16)) (k := 4) K rfl K K K K (RdT.sp hr4 hs265) hp224 hq225 ?_
     intro b267 o268 hA270 hb271 hc269
     exact ⟨rfl, _, updO_known hkn, ⟨b267, o268, hA270, rfl⟩⟩
   ·refine Owe.light K [0] K (all_cons ?_ all_nil)
    ·rintro ρ' w' hs hah ⟨hvl273, hs272⟩
     obtain ⟨b274, o275, hA276, e16⟩ := hah 4 16 K
     have hkn : Known ρ' [(16, (.pointer (some ⟨b274, (o275 + Int.toNat (IntKind.wrap .i64 (v117 - 1)) * (ePair eStr (ePair eStr (eInt .i64))).sz), none⟩)))] := ⟨e16, trivial⟩
     refine Step.known _ hkn ?_
     refine Step.cells (t := 56) (x := (.tmp 16)) (b := b274) (off := (o275 + Int.toNat (IntKind.wrap .i64 (v117 - 1)) * (ePair eStr (ePair eStr (eInt .i64))).sz)) (xs := [(.string ⟨List.toArray x223.1⟩), (.string ⟨List.toArray x223.2.1⟩), (.int .i64 x223.2.2)]) (d := (some 17)) (k := 5) K rfl K K K (elem_cells0 (e := (ePair eStr (ePair eStr (eInt .i64)))) (rdt_cells (RdT.sp hr4 hs272) hA276 hp224 hq225) hx226 rfl) ?_
     exact ⟨rfl, _, updO_known hkn, rfl⟩
   ·refine Owe.heavy K [(0, 1)] K (all_cons ⟨K, K, ?_⟩ all_nil)
    ·rintro ρ' w' hs hah ⟨hvl278, hs277⟩
     have hkn : Known ρ' [(12, (.func (.func ff6) #[] caps7)), (17, (.agg #[(.string ⟨List.toArray x223.1⟩), (.string ⟨List.toArray x223.2.1⟩), (.int .i64 x223.2.2)]))] := ⟨hah 0 12 K, hah 5 17 K, trivial⟩
     refine Step.known _ hkn ?_
     refine Step.callF (f := ff6) (fo := (.tmp 12)) (xs := #[(.tmp 17)]) (tys := #[56]) (first := #[]) (captured := caps7) (args := (([(.agg #[(.string ⟨List.toArray x223.1⟩), (.string ⟨List.toArray x223.2.1⟩), (.int .i64 x223.2.2)])] : List Value) ++ (caps7).toList)) (d := (some 18)) (k := 6) K rfl K K hcf8 (hf9 x223.1 x223.2.1 x223.2.2 z232 w'  (SP.keeps hs277)  hz233) ?_
     rintro e w279 ⟨rfl, hs280⟩
     refine ⟨_, rfl, ?_⟩
     have hs282 : SP [] w0 w279 [] := SP.call hs277 hs280
     clear hs280
     refine ⟨_, updO_known hkn, rfl, ?_⟩
     exact (And.intro (And.intro rfl (trivial)) (hs282))
   ·exact Owe.run K [(1, (.func (.func ff6) #[] caps7))] ⟨gS K K, trivial⟩ (.func (.func ff6) #[] caps7) (fun _ _ => K) rfl
   ·exact Owe.run K [(0, (.slice A2 (List.length p1) c3))] ⟨gS K K, trivial⟩ (.slice A2 (List.length p1) c3) (fun _ _ => K) rfl
   ·exact Owe.run K [(5, (.int .i64 v117))] ⟨gS K K, trivial⟩ (.int .i64 v117) (fun _ _ => K) rfl
   ·refine Owe.light K [0, 1] K (all_cons ?_ (all_cons ?_ all_nil))
    ·rintro ρ' w' hs hah ⟨hvl284, hs283⟩
     have hkn : Known ρ' [(20, (.slice A2 (List.length p1) c3)), (21, (.int .i64 v117))] := ⟨hah 8 20 K, hah 9 21 K, trivial⟩
     refine Step.known _ hkn ?_
     refine Step.elem (e := (ePair eStr (ePair eStr (eInt .i64)))) (l := p1) (A := A2) (c := c3) (T := 43) (E := 56) (x := (.tmp 20)) (ix := (.tmp 21)) (ki := .i64) (iz := v117) (d := (some 22)) (k := 10) K rfl K K K K (RdT.sp hr4 hs283) hp239 hq240 ?_
     intro b285 o286 hA288 hb289 hc287
     exact ⟨rfl, _, updO_known hkn, ⟨b285, o286, hA288, rfl⟩⟩
    ·rintro ρ' w' hs hah ⟨⟨q291, -⟩, hs290⟩
     have hkn : Known ρ' [(20, (.slice A2 (List.length p1) c3)), (21, (.int .i64 v117))] := ⟨hah 8 20 K, hah 9 21 K, trivial⟩
     refine Step.known _ hkn ?_
     refine Step.elem (e := (ePair eStr (ePair eStr (eInt .i64)))) (l := p1) (A := A2) (c := c3) (T := 43) (E := 56) (x := (.tmp 20)) (ix := (.tmp 21)) (ki := .i64) (iz := v117) (d := (some 22)) (k := 10) K rfl K K K K (RdT.sp hr4 hs290) hp239 hq240 ?_
     intro b293 o294 hA296 hb297 hc295
     exact ⟨rfl, _, updO_known hkn, ⟨b293, o294, hA296, rfl⟩⟩
   ·refine Owe.light K [0, 1] K (all_cons ?_ (all_cons ?_ all_nil))
    ·rintro ρ' w' hs hah ⟨hvl299, hs298⟩
     obtain ⟨b300, o301, hA302, e22⟩ := hah 10 22 K
     have hkn : Known ρ' [(22, (.pointer (some ⟨b300, (o301 + Int.toNat v117 * (ePair eStr (ePair eStr (eInt .i64))).sz), none⟩)))] := ⟨e22, trivial⟩
     refine Step.known _ hkn ?_
     refine Step.cells (t := 56) (x := (.tmp 22)) (b := b300) (off := (o301 + Int.toNat v117 * (ePair eStr (ePair eStr (eInt .i64))).sz)) (xs := [(.string ⟨List.toArray x238.1⟩), (.string ⟨List.toArray x238.2.1⟩), (.int .i64 x238.2.2)]) (d := (some 23)) (k := 11) K rfl K K K (elem_cells0 (e := (ePair eStr (ePair eStr (eInt .i64)))) (rdt_cells (RdT.sp hr4 hs298) hA302 hp239 hq240) hx241 rfl) ?_
     exact ⟨rfl, _, updO_known hkn, rfl⟩
    ·rintro ρ' w' hs hah ⟨⟨q304, -⟩, hs303⟩
     obtain ⟨b306, o307, hA308, e22⟩ := hah 10 22 K
     have hkn : Known ρ' [(22, (.pointer (some ⟨b306, (o307 + Int.toNat v117 * (ePair eStr (ePair eStr (eInt .i64))).sz), none⟩)))] := ⟨e22, trivial⟩
     refine Step.known _ hkn ?_
     refine Step.cells (t := 56) (x := (.tmp 22)) (b := b306) (off := (o307 + Int.toNat v117 * (ePair eStr (ePair eStr (eInt .i64))).sz)) (xs := [(.string ⟨List.toArray x238.1⟩), (.string ⟨List.toArray x238.2.1⟩), (.int .i64 x238.2.2)]) (d := (some 23)) (k := 11) K rfl K K K (elem_cells0 (e := (ePair eStr (ePair eStr (eInt .i64)))) (rdt_cells (RdT.sp hr4 hs303) hA308 hp239 hq240) hx241 rfl) ?_
     exact ⟨rfl, _, updO_known hkn, rfl⟩
   ·refine Owe.heavy K [(1, 2)] K (all_cons ⟨K, K, ?_⟩ all_nil)
    ·rintro ρ' w' hs hah ⟨⟨q310, -⟩, hs309⟩
     have hkn : Known ρ' [(19, (.func (.func ff6) #[] caps7)), (23, (.agg #[(.string ⟨List.toArray x238.1⟩), (.string ⟨List.toArray x238.2.1⟩), (.int .i64 x238.2.2)]))] := ⟨hah 7 19 K, hah 11 23 K, trivial⟩
     refine Step.known _ hkn ?_
     refine Step.callF (f := ff6) (fo := (.tmp 19)) (xs := #[(.tmp 23)]) (tys := #[56]) (first := #[]) (captured := caps7) (args := (([(.agg #[(.string ⟨List.toArray x238.1⟩), (.string ⟨List.toArray x238.2.1⟩), (.int .i64 x238.2.2)])] : List Value) ++ (caps7).toList)) (d := (some 24)) (k := 12) K rfl K K hcf8 (hf9 x238.1 x238.2.1 x238.2.2 z247 w'  (SP.keeps hs309)  hz248) ?_
     rintro e w312 ⟨rfl, hs313⟩
     refine ⟨_, rfl, ?_⟩
     have hs315 : SP [] w0 w312 [] := SP.call hs309 hs313
     clear hs313
     refine ⟨_, updO_known hkn, rfl, ?_⟩
     exact (And.intro (And.intro q310 (And.intro rfl (trivial))) (hs315))
   ·refine Owe.light K [2] K (all_cons ?_ all_nil)
    ·rintro ρ' w' hs hah ⟨⟨q317, q318, -⟩, hs316⟩
     have hkn : Known ρ' [(18, (.string ⟨List.toArray z232⟩)), (24, (.string ⟨List.toArray z247⟩))] := ⟨(valF_eq (h := 6) K).symm.trans q317, (valF_eq (h := 12) K).symm.trans q318, trivial⟩
     refine Step.known _ hkn ?_
     refine Step.strOp (op := .geq) (T := 9) (T' := 9) (x := (.tmp 18)) (y := (.tmp 24)) (a := z232) (b := z247) (r := (.bool (!(Op.bytesLess z232 z247)))) (d := (some 25)) (k := 13) K rfl K K rfl ?_
     exact ⟨rfl, _, updO_known hkn, rfl⟩
   ·rintro ρ' w' hs hf ⟨⟨q321, q322, -⟩, hs320⟩
    refine postKnown [(0, (.slice A2 (List.length p1) c3)), (1, (.func (.func ff6) #[] caps7)), (5, (.int .i64 v117)), (25, (.bool (!(Op.bytesLess z232 z247))))] ⟨(hs 0 K).trans K, (hs 1 K).trans K, (hs 5 K).trans K, hf 13 25 K, trivial⟩ ?_
    obtain ⟨w324, hww324⟩ : ∃ x, w' = x := ⟨_, rfl⟩
    rw [hww324] at hs320 ⊢
    refine At.cd K (o := (.tmp 25)) K (b := (!(Op.bytesLess z232 z247))) K (fun hb325 => ?_) (fun hb325 => ?_)
    ·have H := ct H hb325
     refine At.sq K ?_
     refine At.region K K ?_
     refine In.run' 1 (k' := 1) rfl [(4, (.bool false))] K ?_
     refine In.fin K ?_
     refine At.ret K ?_
     refine ⟨(.bool false), K, ?_⟩
     obtain rfl := some_elim H
     exact ⟨rfl, SP.sel hs320 [] rfl rfl⟩
    ·have H := cf H hb325
     refine At.skip K ?_
     refine At.region K K ?_
     refine In.run' 3 (k' := 3) rfl [(10, (.int .i64 v117)), (11, (.int .i64 (IntKind.wrap .i64 (v117 + 1)))), (5, (.int .i64 (IntKind.wrap .i64 (v117 + 1))))] K ?_
     refine In.fin K ?_
     exact ⟨(IntKind.wrap .i64 (v117 + 1)), ⟨K, K, K, trivial⟩, SP.sel hs320 [] rfl rfl, H⟩
  ·have H := cf H hb222
   refine At.exit K (id := 0) K ?_
   refine At.sq K ?_
   refine At.region K K ?_
   refine In.run' 1 (k' := 1) rfl [(4, (.bool true))] K ?_
   refine In.fin K ?_
   refine At.ret K ?_
   refine ⟨(.bool true), K, ?_⟩
   obtain rfl := some_elim H
   exact ⟨rfl, SP.sel hs116 [] rfl rfl⟩
 ·exact ⟨1, ⟨K, K, K, trivial⟩, SP.sel hs0 [] rfl rfl, H⟩
/-! L_config_tenant_3 -/
def L_config_tenant_3 (pName1 : (List UInt8)) (pSecret2 : (List UInt8)) (pUntil3 : Int) : Option ((List UInt8)) :=
  (some (pName1))
set_option maxRecDepth 100000 in
set_option maxHeartbeats 4000000 in
theorem L_config_tenant_3_walk  (pName1 : (List UInt8)) (pSecret2 : (List UInt8)) (pUntil3 : Int) (w0 : World)  (r : ((List UInt8))) (H : L_config_tenant_3 pName1 pSecret2 pUntil3 = some r) :
  Calls Tryd.prog 53 #[(.agg #[(.string ⟨List.toArray pName1⟩), (.string ⟨List.toArray pSecret2⟩), (.int .i64 pUntil3)])] w0 (fun e w' => e = .returned (.string ⟨List.toArray r⟩) ∧ SP [] w0 w' []) := by
 unfold L_config_tenant_3 at H
 refine calls_go (n := 5) Tryd.func53 K K K ?_
 have hs0 := SP.start [] w0
 refine At.sq K ?_
 refine At.region K K ?_
 refine In.step (k' := 1) rfl K ?_
 refine Step.box (t := 56) (x := (.tmp 0)) (v := (.agg #[(.string ⟨List.toArray pName1⟩), (.string ⟨List.toArray pSecret2⟩), (.int .i64 pUntil3)])) (d := (some 1)) (k := 0) K rfl K hs0 ?_
 intro g4 w5 (hs7 : SP [] w0 w5 [boxE g4 56 #[(.string ⟨List.toArray pName1⟩), (.string ⟨List.toArray pSecret2⟩), (.int .i64 pUntil3)]])
 refine In.run' 1 (k' := 2) rfl [(2, (.string ⟨List.toArray ([] : List UInt8)⟩))] K ?_
 refine In.fin K ?_
 refine At.sq K ?_
 refine At.region K K ?_
 refine In.run' 1 (k' := 1) rfl [(3, (pt g4 0))] K ?_
 refine In.step (k' := 2) rfl K ?_
 refine Step.load (t := 9) (x := (.tmp 3)) (g := g4) (off := 0) (i := 0) (v := (.string ⟨List.toArray pName1⟩)) (d := (some 4)) (k := 1) K rfl K hs7 rfl K ?_
 refine In.run' 1 (k' := 3) rfl [(2, (.string ⟨List.toArray pName1⟩))] K ?_
 refine In.fin K ?_
 refine At.ret K ?_
 refine ⟨(.string ⟨List.toArray pName1⟩), K, ?_⟩
 obtain rfl := some_elim H
 exact ⟨rfl, SP.sel hs7 [] rfl rfl⟩
/-! L_config_tenant -/
def L_config_tenant_k6 (v78 : Bool) : Option (Bool) :=
  (some (v78))
def L_config_tenant_k5 (pNames2 : Int) (pVisitors3 : Int) (pTokens8 : (List ((List UInt8) × (List UInt8) × Int))) (v54 : Bool) : Option (Bool) :=
  (cond v54 (some (false)) ((L_config_within pNames2 0 8).bind fun z81 => (cond z81 ((L_config_within pVisitors3 0 8).bind fun z88 => (cond z88 ((L_config_rising_api_Token pTokens8 (fun y0 y1 y2 => L_config_tenant_3 y0 y1 y2)).bind fun z95 => (L_config_tenant_k6 z95)) (L_config_tenant_k6 false))) (L_config_tenant_k6 false))))
def L_config_tenant_k8 (pNames2 : Int) (pVisitors3 : Int) (pTokens8 : (List ((List UInt8) × (List UInt8) × Int))) (v114 : Bool) : Option (Bool) :=
  (L_config_tenant_k5 pNames2 pVisitors3 pTokens8 v114)
def L_config_tenant_k9 (pNames2 : Int) (pVisitors3 : Int) (pTokens8 : (List ((List UInt8) × (List UInt8) × Int))) (v119 : Bool) : Option (Bool) :=
  (L_config_tenant_k8 pNames2 pVisitors3 pTokens8 v119)
def L_config_tenant_k1 (pName1 : (List UInt8)) (pNames2 : Int) (pVisitors3 : Int) (pNets4 : (List (Int × Int))) (pTokens8 : (List ((List UInt8) × (List UInt8) × Int))) (v29 : Bool) : Option (Bool) :=
  (cond v29 (L_config_tenant_k5 pNames2 pVisitors3 pTokens8 v29) ((L_syntax_Name pName1).bind fun z102 => (cond (!z102) (L_config_tenant_k8 pNames2 pVisitors3 pTokens8 (!z102)) (cond (decide (((List.length pNets4 : Nat) : Int) > 4)) (L_config_tenant_k9 pNames2 pVisitors3 pTokens8 (decide (((List.length pNets4 : Nat) : Int) > 4))) (L_config_tenant_k9 pNames2 pVisitors3 pTokens8 (decide (((List.length pTokens8 : Nat) : Int) > 4)))))))
def L_config_tenant (pName1 : (List UInt8)) (pNames2 : Int) (pVisitors3 : Int) (pNets4 : (List (Int × Int))) (pTokens8 : (List ((List UInt8) × (List UInt8) × Int))) : Option (Bool) :=
  ((L_slices_ContainsFunc_api_Net_api_Net pNets4 (fun y0 y1 => L_config_tenant_1 y0 y1)).bind fun z16 => (cond z16 (L_config_tenant_k1 pName1 pNames2 pVisitors3 pNets4 pTokens8 true) ((L_slices_ContainsFunc_api_Token_api_Token pTokens8 (fun y0 y1 y2 => L_config_tenant_2 y0 y1 y2)).bind fun z124 => (L_config_tenant_k1 pName1 pNames2 pVisitors3 pNets4 pTokens8 z124))))
set_option maxRecDepth 100000 in
set_option maxHeartbeats 4000000 in
theorem L_config_tenant_walk (A5 : Option Addr) (c6 : Nat) (A9 : Option Addr) (c10 : Nat) (pName1 : (List UInt8)) (pNames2 : Int) (pVisitors3 : Int) (pNets4 : (List (Int × Int))) (pTokens8 : (List ((List UInt8) × (List UInt8) × Int))) (w0 : World) (hL : LaidW w0) (hr7 : RdT (ePair (eInt .u32) (eInt .i64)) w0 A5 c6 pNets4) (hr11 : RdT (ePair eStr (ePair eStr (eInt .i64))) w0 A9 c10 pTokens8) (r : (Bool)) (H : L_config_tenant pName1 pNames2 pVisitors3 pNets4 pTokens8 = some r) :
  Calls Tryd.prog 35 #[(.agg #[(.string ⟨List.toArray pName1⟩), (.int .i64 pNames2), (.int .i64 pVisitors3), (.slice A5 (List.length pNets4) c6), (.slice A9 (List.length pTokens8) c10)])] w0 (fun e w' => e = .returned (.bool r) ∧ SP [] w0 w' []) := by
 unfold L_config_tenant at H
 refine calls_go (n := 40) Tryd.func35 K K K ?_
 have hs0 := SP.start [] w0
 refine At.sq K ?_
 refine At.region K K ?_
 refine In.step (k' := 1) rfl K ?_
 refine Step.box (t := 45) (x := (.tmp 0)) (v := (.agg #[(.string ⟨List.toArray pName1⟩), (.int .i64 pNames2), (.int .i64 pVisitors3), (.slice A5 (List.length pNets4) c6), (.slice A9 (List.length pTokens8) c10)])) (d := (some 1)) (k := 0) K rfl K hs0 ?_
 intro g12 w13 (hs15 : SP [] w0 w13 [boxE g12 45 #[(.string ⟨List.toArray pName1⟩), (.int .i64 pNames2), (.int .i64 pVisitors3), (.slice A5 (List.length pNets4) c6), (.slice A9 (List.length pTokens8) c10)]])
 refine In.run' 1 (k' := 2) rfl [(2, (.bool false))] K ?_
 refine In.fin K ?_
 refine At.sq K ?_
 refine At.region K K ?_
 refine In.run' 1 (k' := 1) rfl [(4, (pt g12 3))] K ?_
 refine In.step (k' := 2) rfl K ?_
 refine Step.load (t := 42) (x := (.tmp 4)) (g := g12) (off := 3) (i := 0) (v := (.slice A5 (List.length pNets4) c6)) (d := (some 5)) (k := 1) K rfl K hs15 rfl K ?_
 obtain ⟨z16, hz17, H⟩ := bind_elim H
 refine In.step (k' := 3) rfl K ?_
 refine Step.callF (f := 26) (fo := (.func 26)) (xs := #[(.tmp 5), (.func 46)]) (tys := #[42, 71]) (first := #[]) (captured := #[]) (d := (some 6)) (k := 2) K rfl K K Tryd.call26 (L_slices_ContainsFunc_api_Net_api_Net_walk A5 c6 46 #[] pNets4 (fun y0 y1 => L_config_tenant_1 y0 y1) w13 (RdT.sp hr7 hs15) Tryd.call46 (fun y0 y1 z w  hw  hz => L_config_tenant_1_walk  y0 y1 w (laid_below (laid_below hL (SP.keeps hs15)) hw) z hz) z16 hz17) ?_
 rintro e w18 ⟨rfl, hs19⟩
 refine ⟨_, rfl, ?_⟩
 have hs21 : SP [] w0 w18 [boxE g12 45 #[(.string ⟨List.toArray pName1⟩), (.int .i64 pNames2), (.int .i64 pVisitors3), (.slice A5 (List.length pNets4) c6), (.slice A9 (List.length pTokens8) c10)]] := SP.call hs15 hs19
 clear hs19
 refine In.run' 1 (k' := 4) rfl [(3, (.bool z16))] K ?_
 refine In.fin K ?_
 refine At.sq K ?_
 refine At.join (fun ρ w => ∃ (v29 : Bool), Known ρ [(1, (pt g12 0)), (3, (.bool v29))] ∧ SP [] w0 w [boxE g12 45 #[(.string ⟨List.toArray pName1⟩), (.int .i64 pNames2), (.int .i64 pVisitors3), (.slice A5 (List.length pNets4) c6), (.slice A9 (List.length pTokens8) c10)]] ∧ L_config_tenant_k1 pName1 pNames2 pVisitors3 pNets4 pTokens8 v29 = some r) ?_ ?_
 ·refine At.region K K ?_
  refine In.run' 2 (k' := 2) rfl [(7, (.bool z16)), (8, (.bool z16))] K ?_
  refine In.guard (t := 8) (b := z16) K (fun hb123 => ?_) (fun hb123 => ?_)
  ·have H := ct H hb123
   refine In.run' 5 (k' := 7) rfl [(9, undef), (10, undef), (11, undef), (12, (.bool true)), (3, (.bool true))] K ?_
   refine In.fin K ?_
   exact ⟨true, ⟨K, K, trivial⟩, SP.sel hs21 [0] rfl rfl, H⟩
  ·have H := cf H hb123
   refine In.run' 1 (k' := 3) rfl [(9, (pt g12 4))] K ?_
   refine In.step (k' := 4) rfl K ?_
   refine Step.load (t := 43) (x := (.tmp 9)) (g := g12) (off := 4) (i := 0) (v := (.slice A9 (List.length pTokens8) c10)) (d := (some 10)) (k := 3) K rfl K hs21 rfl K ?_
   obtain ⟨z124, hz125, H⟩ := bind_elim H
   refine In.step (k' := 5) rfl K ?_
   refine Step.callF (f := 48) (fo := (.func 48)) (xs := #[(.tmp 10), (.func 49)]) (tys := #[43, 87]) (first := #[]) (captured := #[]) (d := (some 11)) (k := 4) K rfl K K Tryd.call48 (L_slices_ContainsFunc_api_Token_api_Token_walk A9 c10 49 #[] pTokens8 (fun y0 y1 y2 => L_config_tenant_2 y0 y1 y2) w18 (RdT.sp hr11 hs21) Tryd.call49 (fun y0 y1 y2 z w  hw  hz => L_config_tenant_2_walk  y0 y1 y2 w  z hz) z124 hz125) ?_
   rintro e w126 ⟨rfl, hs127⟩
   refine ⟨_, rfl, ?_⟩
   have hs129 : SP [] w0 w126 [boxE g12 45 #[(.string ⟨List.toArray pName1⟩), (.int .i64 pNames2), (.int .i64 pVisitors3), (.slice A5 (List.length pNets4) c6), (.slice A9 (List.length pTokens8) c10)]] := SP.call hs21 hs127
   clear hs127
   refine In.run' 2 (k' := 7) rfl [(12, (.bool z124)), (3, (.bool z124))] K ?_
   refine In.fin K ?_
   exact ⟨z124, ⟨K, K, trivial⟩, SP.sel hs129 [0] rfl rfl, H⟩
 ·rintro ρ w30 ⟨v29, hk, hs31, H⟩
  unfold L_config_tenant_k1 at H
  first | refine At.known [(1, (pt g12 0)), (3, (.bool v29))] hk ?_ | rw [← known_updL (l := [(1, (pt g12 0)), (3, (.bool v29))]) hk]
  refine At.sq K ?_
  refine At.bk K (id := 0) K ?_
  refine At.sq K ?_
  refine At.sq K ?_
  refine At.region K K ?_
  refine In.run' 2 (k' := 2) rfl [(14, (.bool v29)), (13, (.bool v29))] K ?_
  refine In.fin K ?_
  refine At.join (fun ρ w => ∃ (v54 : Bool), Known ρ [(1, (pt g12 0)), (13, (.bool v54))] ∧ SP [] w0 w [boxE g12 45 #[(.string ⟨List.toArray pName1⟩), (.int .i64 pNames2), (.int .i64 pVisitors3), (.slice A5 (List.length pNets4) c6), (.slice A9 (List.length pTokens8) c10)]] ∧ L_config_tenant_k5 pNames2 pVisitors3 pTokens8 v54 = some r) ?_ ?_
  ·refine At.cd K (o := (.tmp 13)) K (b := v29) K (fun hb101 => ?_) (fun hb101 => ?_)
   ·have H := ct H hb101
    refine At.skip K ?_
    exact ⟨v29, ⟨K, K, trivial⟩, SP.sel hs31 [0] rfl rfl, H⟩
   ·have H := cf H hb101
    refine At.sq K ?_
    refine At.region K K ?_
    refine In.run' 1 (k' := 1) rfl [(15, (pt g12 0))] K ?_
    refine In.step (k' := 2) rfl K ?_
    refine Step.load (t := 9) (x := (.tmp 15)) (g := g12) (off := 0) (i := 0) (v := (.string ⟨List.toArray pName1⟩)) (d := (some 16)) (k := 1) K rfl K hs31 rfl K ?_
    obtain ⟨z102, hz103, H⟩ := bind_elim H
    refine In.step (k' := 3) rfl K ?_
    refine Step.callF (f := 51) (fo := (.func 51)) (xs := #[(.tmp 16)]) (tys := #[9]) (first := #[]) (captured := #[]) (d := (some 17)) (k := 2) K rfl K K Tryd.call51 (L_syntax_Name_walk  pName1 w30  z102 hz103) ?_
    rintro e w104 ⟨rfl, hs105⟩
    refine ⟨_, rfl, ?_⟩
    have hs107 : SP [] w0 w104 [boxE g12 45 #[(.string ⟨List.toArray pName1⟩), (.int .i64 pNames2), (.int .i64 pVisitors3), (.slice A5 (List.length pNets4) c6), (.slice A9 (List.length pTokens8) c10)]] := SP.call hs31 hs105
    clear hs105
    refine In.run' 2 (k' := 5) rfl [(18, (.bool (!z102))), (13, (.bool (!z102)))] K ?_
    refine In.fin K ?_
    refine At.join (fun ρ w => ∃ (v114 : Bool), Known ρ [(1, (pt g12 0)), (13, (.bool v114))] ∧ SP [] w0 w [boxE g12 45 #[(.string ⟨List.toArray pName1⟩), (.int .i64 pNames2), (.int .i64 pVisitors3), (.slice A5 (List.length pNets4) c6), (.slice A9 (List.length pTokens8) c10)]] ∧ L_config_tenant_k8 pNames2 pVisitors3 pTokens8 v114 = some r) ?_ ?_
    ·refine At.cd K (o := (.tmp 13)) K (b := (!z102)) K (fun hb117 => ?_) (fun hb117 => ?_)
     ·have H := ct H hb117
      refine At.skip K ?_
      exact ⟨(!z102), ⟨K, K, trivial⟩, SP.sel hs107 [0] rfl rfl, H⟩
     ·have H := cf H hb117
      refine At.sq K ?_
      refine At.region K K ?_
      refine In.run' 1 (k' := 1) rfl [(19, (pt g12 3))] K ?_
      refine In.step (k' := 2) rfl K ?_
      refine Step.load (t := 42) (x := (.tmp 19)) (g := g12) (off := 3) (i := 0) (v := (.slice A5 (List.length pNets4) c6)) (d := (some 20)) (k := 1) K rfl K hs107 rfl K ?_
      refine In.run' 3 (k' := 5) rfl [(21, (.int .i64 ((List.length pNets4 : Nat) : Int))), (22, (.bool (decide (((List.length pNets4 : Nat) : Int) > 4)))), (13, (.bool (decide (((List.length pNets4 : Nat) : Int) > 4))))] K ?_
      refine In.fin K ?_
      refine At.join (fun ρ w => ∃ (v119 : Bool), Known ρ [(1, (pt g12 0)), (13, (.bool v119))] ∧ SP [] w0 w [boxE g12 45 #[(.string ⟨List.toArray pName1⟩), (.int .i64 pNames2), (.int .i64 pVisitors3), (.slice A5 (List.length pNets4) c6), (.slice A9 (List.length pTokens8) c10)]] ∧ L_config_tenant_k9 pNames2 pVisitors3 pTokens8 v119 = some r) ?_ ?_
      ·refine At.cd K (o := (.tmp 13)) K (b := (decide (((List.length pNets4 : Nat) : Int) > 4))) K (fun hb122 => ?_) (fun hb122 => ?_)
       ·have H := ct H hb122
        refine At.skip K ?_
        exact ⟨(decide (((List.length pNets4 : Nat) : Int) > 4)), ⟨K, K, trivial⟩, SP.sel hs107 [0] rfl rfl, H⟩
       ·have H := cf H hb122
        refine At.region K K ?_
        refine In.run' 1 (k' := 1) rfl [(23, (pt g12 4))] K ?_
        refine In.step (k' := 2) rfl K ?_
        refine Step.load (t := 43) (x := (.tmp 23)) (g := g12) (off := 4) (i := 0) (v := (.slice A9 (List.length pTokens8) c10)) (d := (some 24)) (k := 1) K rfl K hs107 rfl K ?_
        refine In.run' 3 (k' := 5) rfl [(25, (.int .i64 ((List.length pTokens8 : Nat) : Int))), (26, (.bool (decide (((List.length pTokens8 : Nat) : Int) > 4)))), (13, (.bool (decide (((List.length pTokens8 : Nat) : Int) > 4))))] K ?_
        refine In.fin K ?_
        exact ⟨(decide (((List.length pTokens8 : Nat) : Int) > 4)), ⟨K, K, trivial⟩, SP.sel hs107 [0] rfl rfl, H⟩
      ·rintro ρ w120 ⟨v119, hk, hs121, H⟩
       unfold L_config_tenant_k9 at H
       first | refine At.known [(1, (pt g12 0)), (13, (.bool v119))] hk ?_ | rw [← known_updL (l := [(1, (pt g12 0)), (13, (.bool v119))]) hk]
       exact ⟨v119, ⟨K, K, trivial⟩, SP.sel hs121 [0] rfl rfl, H⟩
    ·rintro ρ w115 ⟨v114, hk, hs116, H⟩
     unfold L_config_tenant_k8 at H
     first | refine At.known [(1, (pt g12 0)), (13, (.bool v114))] hk ?_ | rw [← known_updL (l := [(1, (pt g12 0)), (13, (.bool v114))]) hk]
     exact ⟨v114, ⟨K, K, trivial⟩, SP.sel hs116 [0] rfl rfl, H⟩
  ·rintro ρ w55 ⟨v54, hk, hs56, H⟩
   unfold L_config_tenant_k5 at H
   first | refine At.known [(1, (pt g12 0)), (13, (.bool v54))] hk ?_ | rw [← known_updL (l := [(1, (pt g12 0)), (13, (.bool v54))]) hk]
   refine At.cd K (o := (.tmp 13)) K (b := v54) K (fun hb57 => ?_) (fun hb57 => ?_)
   ·have H := ct H hb57
    refine At.sq K ?_
    refine At.region K K ?_
    refine In.run' 1 (k' := 1) rfl [(2, (.bool false))] K ?_
    refine In.fin K ?_
    refine At.ret K ?_
    refine ⟨(.bool false), K, ?_⟩
    obtain rfl := some_elim H
    exact ⟨rfl, SP.sel hs56 [] rfl rfl⟩
   ·have H := cf H hb57
    refine At.skip K ?_
    refine At.sq K ?_
    refine At.join (fun ρ w => ∃ (v78 : Bool), Known ρ [(2, (.bool v78))] ∧ SP [] w0 w [] ∧ L_config_tenant_k6 v78 = some r) ?_ ?_
    ·refine At.region K K ?_
     refine In.run' 1 (k' := 1) rfl [(27, (pt g12 1))] K ?_
     refine In.step (k' := 2) rfl K ?_
     refine Step.load (t := 3) (x := (.tmp 27)) (g := g12) (off := 1) (i := 0) (v := (.int .i64 pNames2)) (d := (some 28)) (k := 1) K rfl K hs56 rfl K ?_
     obtain ⟨z81, hz82, H⟩ := bind_elim H
     refine In.step (k' := 3) rfl K ?_
     refine Step.callF (f := 32) (fo := (.func 32)) (xs := #[(.tmp 28), (.const (.int .i64 (0))), (.const (.int .i64 (8)))]) (tys := #[2, 2, 2]) (first := #[]) (captured := #[]) (d := (some 29)) (k := 2) K rfl K K Tryd.call32 (L_config_within_walk  pNames2 0 8 w55  z81 hz82) ?_
     rintro e w83 ⟨rfl, hs84⟩
     refine ⟨_, rfl, ?_⟩
     have hs86 : SP [] w0 w83 [boxE g12 45 #[(.string ⟨List.toArray pName1⟩), (.int .i64 pNames2), (.int .i64 pVisitors3), (.slice A5 (List.length pNets4) c6), (.slice A9 (List.length pTokens8) c10)]] := SP.call hs56 hs84
     clear hs84
     refine In.run' 1 (k' := 4) rfl [(30, (.bool z81))] K ?_
     refine In.guard (t := 30) (b := z81) K (fun hb87 => ?_) (fun hb87 => ?_)
     ·have H := ct H hb87
      refine In.run' 1 (k' := 5) rfl [(31, (pt g12 2))] K ?_
      refine In.step (k' := 6) rfl K ?_
      refine Step.load (t := 3) (x := (.tmp 31)) (g := g12) (off := 2) (i := 0) (v := (.int .i64 pVisitors3)) (d := (some 32)) (k := 5) K rfl K hs86 rfl K ?_
      obtain ⟨z88, hz89, H⟩ := bind_elim H
      refine In.step (k' := 7) rfl K ?_
      refine Step.callF (f := 32) (fo := (.func 32)) (xs := #[(.tmp 32), (.const (.int .i64 (0))), (.const (.int .i64 (8)))]) (tys := #[2, 2, 2]) (first := #[]) (captured := #[]) (d := (some 33)) (k := 6) K rfl K K Tryd.call32 (L_config_within_walk  pVisitors3 0 8 w83  z88 hz89) ?_
      rintro e w90 ⟨rfl, hs91⟩
      refine ⟨_, rfl, ?_⟩
      have hs93 : SP [] w0 w90 [boxE g12 45 #[(.string ⟨List.toArray pName1⟩), (.int .i64 pNames2), (.int .i64 pVisitors3), (.slice A5 (List.length pNets4) c6), (.slice A9 (List.length pTokens8) c10)]] := SP.call hs86 hs91
      clear hs91
      refine In.run' 2 (k' := 9) rfl [(34, (.bool z88)), (35, (.bool z88))] K ?_
      refine In.guard (t := 35) (b := z88) K (fun hb94 => ?_) (fun hb94 => ?_)
      ·have H := ct H hb94
       refine In.run' 1 (k' := 10) rfl [(36, (pt g12 4))] K ?_
       refine In.step (k' := 11) rfl K ?_
       refine Step.load (t := 43) (x := (.tmp 36)) (g := g12) (off := 4) (i := 0) (v := (.slice A9 (List.length pTokens8) c10)) (d := (some 37)) (k := 10) K rfl K hs93 rfl K ?_
       obtain ⟨z95, hz96, H⟩ := bind_elim H
       refine In.step (k' := 12) rfl K ?_
       refine Step.callF (f := 52) (fo := (.func 52)) (xs := #[(.tmp 37), (.func 53)]) (tys := #[43, 90]) (first := #[]) (captured := #[]) (d := (some 38)) (k := 11) K rfl K K Tryd.call52 (L_config_rising_api_Token_walk A9 c10 53 #[] pTokens8 (fun y0 y1 y2 => L_config_tenant_3 y0 y1 y2) w90 (RdT.sp hr11 hs93) Tryd.call53 (fun y0 y1 y2 z w  hw  hz => L_config_tenant_3_walk  y0 y1 y2 w  z hz) z95 hz96) ?_
       rintro e w97 ⟨rfl, hs98⟩
       refine ⟨_, rfl, ?_⟩
       have hs100 : SP [] w0 w97 [boxE g12 45 #[(.string ⟨List.toArray pName1⟩), (.int .i64 pNames2), (.int .i64 pVisitors3), (.slice A5 (List.length pNets4) c6), (.slice A9 (List.length pTokens8) c10)]] := SP.call hs93 hs98
       clear hs98
       refine In.run' 2 (k' := 14) rfl [(39, (.bool z95)), (2, (.bool z95))] K ?_
       refine In.fin K ?_
       exact ⟨z95, ⟨K, trivial⟩, SP.sel hs100 [] rfl rfl, H⟩
      ·have H := cf H hb94
       refine In.run' 5 (k' := 14) rfl [(36, undef), (37, undef), (38, undef), (39, (.bool false)), (2, (.bool false))] K ?_
       refine In.fin K ?_
       exact ⟨false, ⟨K, trivial⟩, SP.sel hs93 [] rfl rfl, H⟩
     ·have H := cf H hb87
      refine In.run' 10 (k' := 14) rfl [(31, undef), (32, undef), (33, undef), (34, (.bool false)), (35, (.bool false)), (36, undef), (37, undef), (38, undef), (39, (.bool false)), (2, (.bool false))] K ?_
      refine In.fin K ?_
      exact ⟨false, ⟨K, trivial⟩, SP.sel hs86 [] rfl rfl, H⟩
    ·rintro ρ w79 ⟨v78, hk, hs80, H⟩
     unfold L_config_tenant_k6 at H
     first | refine At.known [(2, (.bool v78))] hk ?_ | rw [← known_updL (l := [(2, (.bool v78))]) hk]
     refine At.ret K ?_
     refine ⟨(.bool v78), K, ?_⟩
     obtain rfl := some_elim H
     exact ⟨rfl, SP.sel hs80 [] rfl rfl⟩
/-! L_config_Right_1 -/
def L_config_Right_1 (pName1 : (List UInt8)) (pNames2 : Int) (pVisitors3 : Int) (pNets4 : (List (Int × Int))) (pTokens8 : (List ((List UInt8) × (List UInt8) × Int))) : Option (Bool) :=
  ((L_config_tenant pName1 pNames2 pVisitors3 pNets4 pTokens8).bind fun z16 => (some ((!z16))))
set_option maxRecDepth 100000 in
set_option maxHeartbeats 4000000 in
theorem L_config_Right_1_walk (A5 : Option Addr) (c6 : Nat) (A9 : Option Addr) (c10 : Nat) (pName1 : (List UInt8)) (pNames2 : Int) (pVisitors3 : Int) (pNets4 : (List (Int × Int))) (pTokens8 : (List ((List UInt8) × (List UInt8) × Int))) (w0 : World) (hL : LaidW w0) (hr7 : RdT (ePair (eInt .u32) (eInt .i64)) w0 A5 c6 pNets4) (hr11 : RdT (ePair eStr (ePair eStr (eInt .i64))) w0 A9 c10 pTokens8) (r : (Bool)) (H : L_config_Right_1 pName1 pNames2 pVisitors3 pNets4 pTokens8 = some r) :
  Calls Tryd.prog 34 #[(.agg #[(.string ⟨List.toArray pName1⟩), (.int .i64 pNames2), (.int .i64 pVisitors3), (.slice A5 (List.length pNets4) c6), (.slice A9 (List.length pTokens8) c10)])] w0 (fun e w' => e = .returned (.bool r) ∧ SP [] w0 w' []) := by
 unfold L_config_Right_1 at H
 refine calls_go (n := 6) Tryd.func34 K K K ?_
 have hs0 := SP.start [] w0
 refine At.sq K ?_
 refine At.region K K ?_
 refine In.step (k' := 1) rfl K ?_
 refine Step.box (t := 45) (x := (.tmp 0)) (v := (.agg #[(.string ⟨List.toArray pName1⟩), (.int .i64 pNames2), (.int .i64 pVisitors3), (.slice A5 (List.length pNets4) c6), (.slice A9 (List.length pTokens8) c10)])) (d := (some 1)) (k := 0) K rfl K hs0 ?_
 intro g12 w13 (hs15 : SP [] w0 w13 [boxE g12 45 #[(.string ⟨List.toArray pName1⟩), (.int .i64 pNames2), (.int .i64 pVisitors3), (.slice A5 (List.length pNets4) c6), (.slice A9 (List.length pTokens8) c10)]])
 refine In.run' 1 (k' := 2) rfl [(2, (.bool false))] K ?_
 refine In.fin K ?_
 refine At.sq K ?_
 refine At.region K K ?_
 refine In.step (k' := 1) rfl K ?_
 refine Step.load (t := 45) (x := (.tmp 1)) (g := g12) (off := 0) (i := 0) (v := (.agg #[(.string ⟨List.toArray pName1⟩), (.int .i64 pNames2), (.int .i64 pVisitors3), (.slice A5 (List.length pNets4) c6), (.slice A9 (List.length pTokens8) c10)])) (d := (some 3)) (k := 0) K rfl K hs15 rfl K ?_
 obtain ⟨z16, hz17, H⟩ := bind_elim H
 refine In.step (k' := 2) rfl K ?_
 refine Step.callF (f := 35) (fo := (.func 35)) (xs := #[(.tmp 3)]) (tys := #[45]) (first := #[]) (captured := #[]) (d := (some 4)) (k := 1) K rfl K K Tryd.call35 (L_config_tenant_walk A5 c6 A9 c10 pName1 pNames2 pVisitors3 pNets4 pTokens8 w13 (laid_below hL (SP.keeps hs15)) (RdT.sp hr7 hs15) (RdT.sp hr11 hs15) z16 hz17) ?_
 rintro e w18 ⟨rfl, hs19⟩
 refine ⟨_, rfl, ?_⟩
 have hs21 : SP [] w0 w18 [boxE g12 45 #[(.string ⟨List.toArray pName1⟩), (.int .i64 pNames2), (.int .i64 pVisitors3), (.slice A5 (List.length pNets4) c6), (.slice A9 (List.length pTokens8) c10)]] := SP.call hs15 hs19
 clear hs19
 refine In.run' 2 (k' := 4) rfl [(5, (.bool (!z16))), (2, (.bool (!z16)))] K ?_
 refine In.fin K ?_
 refine At.ret K ?_
 refine ⟨(.bool (!z16)), K, ?_⟩
 obtain rfl := some_elim H
 exact ⟨rfl, SP.sel hs21 [] rfl rfl⟩
/-! L_config_rising_api_Tenant -/
def L_config_rising_api_Tenant_b1 (rec1 : Int → Option (Bool)) (p1 : (List TenantL)) (p6 : ((List UInt8) → Int → Int → (List (Int × Int)) → (List ((List UInt8) × (List UInt8) × Int)) → Option ((List UInt8)))) (v120 : Int) : Option (Bool) :=
  (cond (decide (v120 < ((List.length p1 : Nat) : Int))) ((idx p1 (IntKind.wrap .i64 (v120 - 1))).bind fun x228 => ((p6 x228.1 x228.2.1 x228.2.2.1 x228.2.2.2.1 x228.2.2.2.2).bind fun z238 => ((idx p1 v120).bind fun x244 => ((p6 x244.1 x244.2.1 x244.2.2.1 x244.2.2.2.1 x244.2.2.2.2).bind fun z254 => (cond (!(Op.bytesLess z238 z254)) (some (false)) (rec1 (IntKind.wrap .i64 (v120 + 1)))))))) (some (true)))
def L_config_rising_api_Tenant_l1 (p1 : (List TenantL)) (p6 : ((List UInt8) → Int → Int → (List (Int × Int)) → (List ((List UInt8) × (List UInt8) × Int)) → Option ((List UInt8)))) : Nat → Int → Option (Bool)
  | 0, _ => none
  | f + 1, v120 => L_config_rising_api_Tenant_b1  (L_config_rising_api_Tenant_l1 p1 p6 f) p1 p6 v120
def L_config_rising_api_Tenant (p1 : (List TenantL)) (p6 : ((List UInt8) → Int → Int → (List (Int × Int)) → (List ((List UInt8) × (List UInt8) × Int)) → Option ((List UInt8)))) : Option (Bool) :=
  (L_config_rising_api_Tenant_l1 p1 p6 fuel 1)
set_option maxRecDepth 100000 in
set_option maxHeartbeats 4000000 in
theorem L_config_rising_api_Tenant_walk (A2 : Option Addr) (c3 : Nat) (ff7 : FuncId) (caps8 : Array Value) (d5 : (List TenantD)) (p6 : ((List UInt8) → Int → Int → (List (Int × Int)) → (List ((List UInt8) × (List UInt8) × Int)) → Option ((List UInt8)))) (w0 : World) (hr4 : (dDS eTen dTen).ok w0 (A2, c3, d5)) (hcf9 : ∀ (args : Array Value) (w : World), (callFunc ff7 args).run Tryd.prog w = .ok (.enter ff7 args) w) (hf10 : ∀ (y0 : (List UInt8)) (y1 : Int) (y2 : Int) (y3 : (List (Int × Int))) (y4 : (List ((List UInt8) × (List UInt8) × Int))) (z : ((List UInt8))) (w : World) (Ay3 : Option Addr) (cy3 : Nat) (Ay4 : Option Addr) (cy4 : Nat), Below w0.heap.size w0 w → RdT (ePair (eInt .u32) (eInt .i64)) w Ay3 cy3 y3 → RdT (ePair eStr (ePair eStr (eInt .i64))) w Ay4 cy4 y4 → p6 y0 y1 y2 y3 y4 = some z → Calls Tryd.prog ff7 (([(.agg #[(.string ⟨List.toArray y0⟩), (.int .i64 y1), (.int .i64 y2), (.slice Ay3 (List.length y3) cy3), (.slice Ay4 (List.length y4) cy4)])] : List Value) ++ (caps8).toList).toArray w (fun e w' => e = .returned (.string ⟨List.toArray z⟩) ∧ SP [] w w' [])) (r : (Bool)) (H : L_config_rising_api_Tenant (List.map stT d5) p6 = some r) :
  Calls Tryd.prog 36 #[(.slice A2 (List.length (List.map stT d5)) c3), (.func (.func ff7) #[] caps8)] w0 (fun e w' => e = .returned (.bool r) ∧ SP [] w0 w' []) := by
 unfold L_config_rising_api_Tenant at H
 refine calls_go (n := 26) Tryd.func36 K K K ?_
 have hs0 := SP.start [] w0
 refine At.sq K ?_
 refine At.region K K ?_
 refine In.run' 1 (k' := 1) rfl [(4, (.bool false))] K ?_
 refine In.fin K ?_
 refine At.sq K ?_
 refine At.sq K ?_
 refine At.region K K ?_
 refine In.run' 1 (k' := 1) rfl [(5, (.int .i64 1))] K ?_
 refine In.fin K ?_
 refine At.bk K (id := 0) K ?_
 refine At.lp K (fun f1 ρ w => ∃ (v120 : Int), Known ρ [(0, (.slice A2 (List.length (List.map stT d5)) c3)), (1, (.func (.func ff7) #[] caps8)), (5, (.int .i64 v120))] ∧ SP [] w0 w [] ∧ L_config_rising_api_Tenant_l1 (List.map stT d5) p6 f1 v120 = some r) (by rintro ρ w ⟨v120, hk, hs, H⟩; cases H) ?_ fuel ?_
 ·rintro f1 ρ w118 ⟨v120, hk, hs119, H⟩
  refine At.known [(0, (.slice A2 (List.length (List.map stT d5)) c3)), (1, (.func (.func ff7) #[] caps8)), (5, (.int .i64 v120))] hk ?_
  replace H := (show L_config_rising_api_Tenant_b1 (L_config_rising_api_Tenant_l1 (List.map stT d5) p6 f1) (List.map stT d5) p6 v120 = some r from H)
  unfold L_config_rising_api_Tenant_b1 at H
  refine At.sq K ?_
  refine At.sq K ?_
  refine At.region K K ?_
  refine In.run' 4 (k' := 4) rfl [(6, (.int .i64 v120)), (7, (.slice A2 (List.length (List.map stT d5)) c3)), (8, (.int .i64 ((List.length (List.map stT d5) : Nat) : Int))), (9, (.bool (decide (v120 < ((List.length (List.map stT d5) : Nat) : Int)))))] K ?_
  refine In.fin K ?_
  refine At.cd K (o := (.tmp 9)) K (b := (decide (v120 < ((List.length (List.map stT d5) : Nat) : Int)))) K (fun hb227 => ?_) (fun hb227 => ?_)
  ·have H := ct H hb227
   refine At.skip K ?_
   refine At.sq K ?_
   refine At.bk K (id := 1) K ?_
   refine At.sq K ?_
   obtain ⟨y232, hp229, hq230, hx231, H⟩ := idxm_elim H
   obtain ⟨z238, hz239, H⟩ := bind_elim H
   obtain ⟨y248, hp245, hq246, hx247, H⟩ := idxm_elim H
   obtain ⟨z254, hz255, H⟩ := bind_elim H
   refine At.stages K K K K K [GEq (.func (.func ff7) #[] caps8), GEq (.slice A2 (List.length (List.map stT d5)) c3), GEq (.int .i64 v120), GEq (.int .i64 (IntKind.wrap .i64 (v120 - 1))), GElem0 A2 eTen.sz (IntKind.wrap .i64 (v120 - 1)), GEq (.agg #[(.string ⟨List.toArray (stT y232).1⟩), (.int .i64 (stT y232).2.1), (.int .i64 (stT y232).2.2.1), (.slice y232.2.2.2.1.1 (List.length (stT y232).2.2.2.1) y232.2.2.2.1.2.1), (.slice y232.2.2.2.2.1 (List.length (stT y232).2.2.2.2) y232.2.2.2.2.2.1)]), GEq (.string ⟨List.toArray z238⟩), GEq (.func (.func ff7) #[] caps8), GEq (.slice A2 (List.length (List.map stT d5)) c3), GEq (.int .i64 v120), GElem0 A2 eTen.sz v120, GEq (.agg #[(.string ⟨List.toArray (stT y248).1⟩), (.int .i64 (stT y248).2.1), (.int .i64 (stT y248).2.2.1), (.slice y248.2.2.2.1.1 (List.length (stT y248).2.2.2.1) y248.2.2.2.1.2.1), (.slice y248.2.2.2.2.1 (List.length (stT y248).2.2.2.2) y248.2.2.2.2.2.1)]), GEq (.string ⟨List.toArray z254⟩), GEq (.bool (!(Op.bytesLess z238 z254)))] [6, 12] [([], fun vs w => VL vs [] ∧ SP [] w0 w []), ([6], fun vs w => VL vs [(.string ⟨List.toArray z238⟩)] ∧ SP [] w0 w []), ([6, 12], fun vs w => VL vs [(.string ⟨List.toArray z238⟩), (.string ⟨List.toArray z254⟩)] ∧ SP [] w0 w [])] (N := 14) K ⟨K, Nat.zero_lt_succ _⟩ (show VL [] [] ∧ SP [] w0 w118.drew [] from ⟨trivial, SP.drew hs119⟩) ⟨⟨⟨⟨⟨⟨⟨⟨⟨⟨⟨⟨⟨⟨trivial, ?_⟩, ?_⟩, ?_⟩, ?_⟩, ?_⟩, ?_⟩, ?_⟩, ?_⟩, ?_⟩, ?_⟩, ?_⟩, ?_⟩, ?_⟩, ?_⟩ (last := 2) K ?_
   ·exact Owe.run K [(1, (.func (.func ff7) #[] caps8))] ⟨gS K K, trivial⟩ (.func (.func ff7) #[] caps8) (fun _ _ => K) rfl
   ·exact Owe.run K [(0, (.slice A2 (List.length (List.map stT d5)) c3))] ⟨gS K K, trivial⟩ (.slice A2 (List.length (List.map stT d5)) c3) (fun _ _ => K) rfl
   ·exact Owe.run K [(5, (.int .i64 v120))] ⟨gS K K, trivial⟩ (.int .i64 v120) (fun _ _ => K) rfl
   ·exact Owe.run K [(14, (.int .i64 v120))] ⟨gA 2 K K, trivial⟩ (.int .i64 (IntKind.wrap .i64 (v120 - 1))) (fun _ _ => K) rfl
   ·refine Owe.light K [0] K (all_cons ?_ all_nil)
    ·rintro ρ' w' hs hah ⟨hvl273, hs272⟩
     have hkn : Known ρ' [(13, (.slice A2 (List.length (List.map stT d5)) c3)), (15, (.int .i64 (IntKind.wrap .i64 (v120 - 1))))] := ⟨hah 1 13 K, hah 3 15 K, trivial⟩
     refine Step.known _ hkn ?_
     refine Step.elemM stT (e := eTen) (l := d5) (A := A2) (c := c3) (T := 22) (E := 45) (x := (.tmp 13)) (ix := (.tmp 15)) (ki := .i64) (iz := (IntKind.wrap .i64 (v120 - 1))) (d := (some 16)) (k := 4) K rfl K K K K (RdT.sp (ds_rd hr4) hs272) hp229 hq230 ?_
     intro b274 o275 hA277 hb278 hc276
     exact ⟨rfl, _, updO_known hkn, ⟨b274, o275, hA277, rfl⟩⟩
   ·refine Owe.light K [0] K (all_cons ?_ all_nil)
    ·rintro ρ' w' hs hah ⟨hvl280, hs279⟩
     obtain ⟨b281, o282, hA283, e16⟩ := hah 4 16 K
     have hkn : Known ρ' [(16, (.pointer (some ⟨b281, (o282 + Int.toNat (IntKind.wrap .i64 (v120 - 1)) * eTen.sz), none⟩)))] := ⟨e16, trivial⟩
     refine Step.known _ hkn ?_
     refine Step.cells (t := 45) (x := (.tmp 16)) (b := b281) (off := (o282 + Int.toNat (IntKind.wrap .i64 (v120 - 1)) * eTen.sz)) (xs := [(.string ⟨List.toArray (stT y232).1⟩), (.int .i64 (stT y232).2.1), (.int .i64 (stT y232).2.2.1), (.slice y232.2.2.2.1.1 (List.length (stT y232).2.2.2.1) y232.2.2.2.1.2.1), (.slice y232.2.2.2.2.1 (List.length (stT y232).2.2.2.2) y232.2.2.2.2.2.1)]) (d := (some 17)) (k := 5) K rfl K K K (elem_cells0 (e := eTen) (rdt_cells (RdT.sp (ds_rd hr4) hs279) hA283 hp229 hq230) hx231 rfl) ?_
     exact ⟨rfl, _, updO_known hkn, rfl⟩
   ·refine Owe.heavy K [(0, 1)] K (all_cons ⟨K, K, ?_⟩ all_nil)
    ·rintro ρ' w' hs hah ⟨hvl285, hs284⟩
     have hkn : Known ρ' [(12, (.func (.func ff7) #[] caps8)), (17, (.agg #[(.string ⟨List.toArray (stT y232).1⟩), (.int .i64 (stT y232).2.1), (.int .i64 (stT y232).2.2.1), (.slice y232.2.2.2.1.1 (List.length (stT y232).2.2.2.1) y232.2.2.2.1.2.1), (.slice y232.2.2.2.2.1 (List.length (stT y232).2.2.2.2) y232.2.2.2.2.2.1)]))] := ⟨hah 0 12 K, hah 5 17 K, trivial⟩
     refine Step.known _ hkn ?_
     refine Step.callF (f := ff7) (fo := (.tmp 12)) (xs := #[(.tmp 17)]) (tys := #[45]) (first := #[]) (captured := caps8) (args := (([(.agg #[(.string ⟨List.toArray (stT y232).1⟩), (.int .i64 (stT y232).2.1), (.int .i64 (stT y232).2.2.1), (.slice y232.2.2.2.1.1 (List.length (stT y232).2.2.2.1) y232.2.2.2.1.2.1), (.slice y232.2.2.2.2.1 (List.length (stT y232).2.2.2.2) y232.2.2.2.2.2.1)])] : List Value) ++ (caps8).toList)) (d := (some 18)) (k := 6) K rfl K K hcf9 (hf10 (stT y232).1 (stT y232).2.1 (stT y232).2.2.1 (stT y232).2.2.2.1 (stT y232).2.2.2.2 z238 w' y232.2.2.2.1.1 y232.2.2.2.1.2.1 y232.2.2.2.2.1 y232.2.2.2.2.2.1 (SP.keeps hs284) (RdT.sp (ds_rd (dp1 (dp2 (dp2 (dp2 (ds_el hr4 hx231)))))) hs284) (RdT.sp (ds_rd (dp2 (dp2 (dp2 (dp2 (ds_el hr4 hx231)))))) hs284) hz239) ?_
     rintro e w286 ⟨rfl, hs287⟩
     refine ⟨_, rfl, ?_⟩
     have hs289 : SP [] w0 w286 [] := SP.call hs284 hs287
     clear hs287
     refine ⟨_, updO_known hkn, rfl, ?_⟩
     exact (And.intro (And.intro rfl (trivial)) (hs289))
   ·exact Owe.run K [(1, (.func (.func ff7) #[] caps8))] ⟨gS K K, trivial⟩ (.func (.func ff7) #[] caps8) (fun _ _ => K) rfl
   ·exact Owe.run K [(0, (.slice A2 (List.length (List.map stT d5)) c3))] ⟨gS K K, trivial⟩ (.slice A2 (List.length (List.map stT d5)) c3) (fun _ _ => K) rfl
   ·exact Owe.run K [(5, (.int .i64 v120))] ⟨gS K K, trivial⟩ (.int .i64 v120) (fun _ _ => K) rfl
   ·refine Owe.light K [0, 1] K (all_cons ?_ (all_cons ?_ all_nil))
    ·rintro ρ' w' hs hah ⟨hvl291, hs290⟩
     have hkn : Known ρ' [(20, (.slice A2 (List.length (List.map stT d5)) c3)), (21, (.int .i64 v120))] := ⟨hah 8 20 K, hah 9 21 K, trivial⟩
     refine Step.known _ hkn ?_
     refine Step.elemM stT (e := eTen) (l := d5) (A := A2) (c := c3) (T := 22) (E := 45) (x := (.tmp 20)) (ix := (.tmp 21)) (ki := .i64) (iz := v120) (d := (some 22)) (k := 10) K rfl K K K K (RdT.sp (ds_rd hr4) hs290) hp245 hq246 ?_
     intro b292 o293 hA295 hb296 hc294
     exact ⟨rfl, _, updO_known hkn, ⟨b292, o293, hA295, rfl⟩⟩
    ·rintro ρ' w' hs hah ⟨⟨q298, -⟩, hs297⟩
     have hkn : Known ρ' [(20, (.slice A2 (List.length (List.map stT d5)) c3)), (21, (.int .i64 v120))] := ⟨hah 8 20 K, hah 9 21 K, trivial⟩
     refine Step.known _ hkn ?_
     refine Step.elemM stT (e := eTen) (l := d5) (A := A2) (c := c3) (T := 22) (E := 45) (x := (.tmp 20)) (ix := (.tmp 21)) (ki := .i64) (iz := v120) (d := (some 22)) (k := 10) K rfl K K K K (RdT.sp (ds_rd hr4) hs297) hp245 hq246 ?_
     intro b300 o301 hA303 hb304 hc302
     exact ⟨rfl, _, updO_known hkn, ⟨b300, o301, hA303, rfl⟩⟩
   ·refine Owe.light K [0, 1] K (all_cons ?_ (all_cons ?_ all_nil))
    ·rintro ρ' w' hs hah ⟨hvl306, hs305⟩
     obtain ⟨b307, o308, hA309, e22⟩ := hah 10 22 K
     have hkn : Known ρ' [(22, (.pointer (some ⟨b307, (o308 + Int.toNat v120 * eTen.sz), none⟩)))] := ⟨e22, trivial⟩
     refine Step.known _ hkn ?_
     refine Step.cells (t := 45) (x := (.tmp 22)) (b := b307) (off := (o308 + Int.toNat v120 * eTen.sz)) (xs := [(.string ⟨List.toArray (stT y248).1⟩), (.int .i64 (stT y248).2.1), (.int .i64 (stT y248).2.2.1), (.slice y248.2.2.2.1.1 (List.length (stT y248).2.2.2.1) y248.2.2.2.1.2.1), (.slice y248.2.2.2.2.1 (List.length (stT y248).2.2.2.2) y248.2.2.2.2.2.1)]) (d := (some 23)) (k := 11) K rfl K K K (elem_cells0 (e := eTen) (rdt_cells (RdT.sp (ds_rd hr4) hs305) hA309 hp245 hq246) hx247 rfl) ?_
     exact ⟨rfl, _, updO_known hkn, rfl⟩
    ·rintro ρ' w' hs hah ⟨⟨q311, -⟩, hs310⟩
     obtain ⟨b313, o314, hA315, e22⟩ := hah 10 22 K
     have hkn : Known ρ' [(22, (.pointer (some ⟨b313, (o314 + Int.toNat v120 * eTen.sz), none⟩)))] := ⟨e22, trivial⟩
     refine Step.known _ hkn ?_
     refine Step.cells (t := 45) (x := (.tmp 22)) (b := b313) (off := (o314 + Int.toNat v120 * eTen.sz)) (xs := [(.string ⟨List.toArray (stT y248).1⟩), (.int .i64 (stT y248).2.1), (.int .i64 (stT y248).2.2.1), (.slice y248.2.2.2.1.1 (List.length (stT y248).2.2.2.1) y248.2.2.2.1.2.1), (.slice y248.2.2.2.2.1 (List.length (stT y248).2.2.2.2) y248.2.2.2.2.2.1)]) (d := (some 23)) (k := 11) K rfl K K K (elem_cells0 (e := eTen) (rdt_cells (RdT.sp (ds_rd hr4) hs310) hA315 hp245 hq246) hx247 rfl) ?_
     exact ⟨rfl, _, updO_known hkn, rfl⟩
   ·refine Owe.heavy K [(1, 2)] K (all_cons ⟨K, K, ?_⟩ all_nil)
    ·rintro ρ' w' hs hah ⟨⟨q317, -⟩, hs316⟩
     have hkn : Known ρ' [(19, (.func (.func ff7) #[] caps8)), (23, (.agg #[(.string ⟨List.toArray (stT y248).1⟩), (.int .i64 (stT y248).2.1), (.int .i64 (stT y248).2.2.1), (.slice y248.2.2.2.1.1 (List.length (stT y248).2.2.2.1) y248.2.2.2.1.2.1), (.slice y248.2.2.2.2.1 (List.length (stT y248).2.2.2.2) y248.2.2.2.2.2.1)]))] := ⟨hah 7 19 K, hah 11 23 K, trivial⟩
     refine Step.known _ hkn ?_
     refine Step.callF (f := ff7) (fo := (.tmp 19)) (xs := #[(.tmp 23)]) (tys := #[45]) (first := #[]) (captured := caps8) (args := (([(.agg #[(.string ⟨List.toArray (stT y248).1⟩), (.int .i64 (stT y248).2.1), (.int .i64 (stT y248).2.2.1), (.slice y248.2.2.2.1.1 (List.length (stT y248).2.2.2.1) y248.2.2.2.1.2.1), (.slice y248.2.2.2.2.1 (List.length (stT y248).2.2.2.2) y248.2.2.2.2.2.1)])] : List Value) ++ (caps8).toList)) (d := (some 24)) (k := 12) K rfl K K hcf9 (hf10 (stT y248).1 (stT y248).2.1 (stT y248).2.2.1 (stT y248).2.2.2.1 (stT y248).2.2.2.2 z254 w' y248.2.2.2.1.1 y248.2.2.2.1.2.1 y248.2.2.2.2.1 y248.2.2.2.2.2.1 (SP.keeps hs316) (RdT.sp (ds_rd (dp1 (dp2 (dp2 (dp2 (ds_el hr4 hx247)))))) hs316) (RdT.sp (ds_rd (dp2 (dp2 (dp2 (dp2 (ds_el hr4 hx247)))))) hs316) hz255) ?_
     rintro e w319 ⟨rfl, hs320⟩
     refine ⟨_, rfl, ?_⟩
     have hs322 : SP [] w0 w319 [] := SP.call hs316 hs320
     clear hs320
     refine ⟨_, updO_known hkn, rfl, ?_⟩
     exact (And.intro (And.intro q317 (And.intro rfl (trivial))) (hs322))
   ·refine Owe.light K [2] K (all_cons ?_ all_nil)
    ·rintro ρ' w' hs hah ⟨⟨q324, q325, -⟩, hs323⟩
     have hkn : Known ρ' [(18, (.string ⟨List.toArray z238⟩)), (24, (.string ⟨List.toArray z254⟩))] := ⟨(valF_eq (h := 6) K).symm.trans q324, (valF_eq (h := 12) K).symm.trans q325, trivial⟩
     refine Step.known _ hkn ?_
     refine Step.strOp (op := .geq) (T := 9) (T' := 9) (x := (.tmp 18)) (y := (.tmp 24)) (a := z238) (b := z254) (r := (.bool (!(Op.bytesLess z238 z254)))) (d := (some 25)) (k := 13) K rfl K K rfl ?_
     exact ⟨rfl, _, updO_known hkn, rfl⟩
   ·rintro ρ' w' hs hf ⟨⟨q328, q329, -⟩, hs327⟩
    refine postKnown [(0, (.slice A2 (List.length (List.map stT d5)) c3)), (1, (.func (.func ff7) #[] caps8)), (5, (.int .i64 v120)), (25, (.bool (!(Op.bytesLess z238 z254))))] ⟨(hs 0 K).trans K, (hs 1 K).trans K, (hs 5 K).trans K, hf 13 25 K, trivial⟩ ?_
    obtain ⟨w331, hww331⟩ : ∃ x, w' = x := ⟨_, rfl⟩
    rw [hww331] at hs327 ⊢
    refine At.cd K (o := (.tmp 25)) K (b := (!(Op.bytesLess z238 z254))) K (fun hb332 => ?_) (fun hb332 => ?_)
    ·have H := ct H hb332
     refine At.sq K ?_
     refine At.region K K ?_
     refine In.run' 1 (k' := 1) rfl [(4, (.bool false))] K ?_
     refine In.fin K ?_
     refine At.ret K ?_
     refine ⟨(.bool false), K, ?_⟩
     obtain rfl := some_elim H
     exact ⟨rfl, SP.sel hs327 [] rfl rfl⟩
    ·have H := cf H hb332
     refine At.skip K ?_
     refine At.region K K ?_
     refine In.run' 3 (k' := 3) rfl [(10, (.int .i64 v120)), (11, (.int .i64 (IntKind.wrap .i64 (v120 + 1)))), (5, (.int .i64 (IntKind.wrap .i64 (v120 + 1))))] K ?_
     refine In.fin K ?_
     exact ⟨(IntKind.wrap .i64 (v120 + 1)), ⟨K, K, K, trivial⟩, SP.sel hs327 [] rfl rfl, H⟩
  ·have H := cf H hb227
   refine At.exit K (id := 0) K ?_
   refine At.sq K ?_
   refine At.region K K ?_
   refine In.run' 1 (k' := 1) rfl [(4, (.bool true))] K ?_
   refine In.fin K ?_
   refine At.ret K ?_
   refine ⟨(.bool true), K, ?_⟩
   obtain rfl := some_elim H
   exact ⟨rfl, SP.sel hs119 [] rfl rfl⟩
 ·exact ⟨1, ⟨K, K, K, trivial⟩, SP.sel hs0 [] rfl rfl, H⟩
/-! L_config_Right_2 -/
def L_config_Right_2 (pName1 : (List UInt8)) (pNames2 : Int) (pVisitors3 : Int) (pNets4 : (List (Int × Int))) (pTokens8 : (List ((List UInt8) × (List UInt8) × Int))) : Option ((List UInt8)) :=
  (some (pName1))
set_option maxRecDepth 100000 in
set_option maxHeartbeats 4000000 in
theorem L_config_Right_2_walk (A5 : Option Addr) (c6 : Nat) (A9 : Option Addr) (c10 : Nat) (pName1 : (List UInt8)) (pNames2 : Int) (pVisitors3 : Int) (pNets4 : (List (Int × Int))) (pTokens8 : (List ((List UInt8) × (List UInt8) × Int))) (w0 : World) (hr7 : RdT (ePair (eInt .u32) (eInt .i64)) w0 A5 c6 pNets4) (hr11 : RdT (ePair eStr (ePair eStr (eInt .i64))) w0 A9 c10 pTokens8) (r : ((List UInt8))) (H : L_config_Right_2 pName1 pNames2 pVisitors3 pNets4 pTokens8 = some r) :
  Calls Tryd.prog 37 #[(.agg #[(.string ⟨List.toArray pName1⟩), (.int .i64 pNames2), (.int .i64 pVisitors3), (.slice A5 (List.length pNets4) c6), (.slice A9 (List.length pTokens8) c10)])] w0 (fun e w' => e = .returned (.string ⟨List.toArray r⟩) ∧ SP [] w0 w' []) := by
 unfold L_config_Right_2 at H
 refine calls_go (n := 5) Tryd.func37 K K K ?_
 have hs0 := SP.start [] w0
 refine At.sq K ?_
 refine At.region K K ?_
 refine In.step (k' := 1) rfl K ?_
 refine Step.box (t := 45) (x := (.tmp 0)) (v := (.agg #[(.string ⟨List.toArray pName1⟩), (.int .i64 pNames2), (.int .i64 pVisitors3), (.slice A5 (List.length pNets4) c6), (.slice A9 (List.length pTokens8) c10)])) (d := (some 1)) (k := 0) K rfl K hs0 ?_
 intro g12 w13 (hs15 : SP [] w0 w13 [boxE g12 45 #[(.string ⟨List.toArray pName1⟩), (.int .i64 pNames2), (.int .i64 pVisitors3), (.slice A5 (List.length pNets4) c6), (.slice A9 (List.length pTokens8) c10)]])
 refine In.run' 1 (k' := 2) rfl [(2, (.string ⟨List.toArray ([] : List UInt8)⟩))] K ?_
 refine In.fin K ?_
 refine At.sq K ?_
 refine At.region K K ?_
 refine In.run' 1 (k' := 1) rfl [(3, (pt g12 0))] K ?_
 refine In.step (k' := 2) rfl K ?_
 refine Step.load (t := 9) (x := (.tmp 3)) (g := g12) (off := 0) (i := 0) (v := (.string ⟨List.toArray pName1⟩)) (d := (some 4)) (k := 1) K rfl K hs15 rfl K ?_
 refine In.run' 1 (k' := 3) rfl [(2, (.string ⟨List.toArray pName1⟩))] K ?_
 refine In.fin K ?_
 refine At.ret K ?_
 refine ⟨(.string ⟨List.toArray pName1⟩), K, ?_⟩
 obtain rfl := some_elim H
 exact ⟨rfl, SP.sel hs15 [] rfl rfl⟩
/-! L_config_Right -/
def L_config_Right_k4 (rec3 : Int → Option (Bool)) (v149 : Bool) : Option (Bool) :=
  (some (v149))
def L_config_Right_b2 (rec3 : Int → Option (Bool)) (pWait1 : Int) (pGrace2 : Int) (pIdle3 : Int) (pLease4 : Int) (pTenants5 : (List TenantL)) (v69 : Int) : Option (Bool) :=
  (cond (decide (v69 < ((List.length ([pWait1, pGrace2, pIdle3, pLease4] : List Int) : Nat) : Int))) ((idx ([pWait1, pGrace2, pIdle3, pLease4] : List Int) v69).bind fun x119 => ((L_config_within x119 1 1073741824).bind fun z128 => (cond (!z128) (some (false)) (rec3 (IntKind.wrap .i64 (v69 + 1)))))) (cond (decide (((List.length pTenants5 : Nat) : Int) ≤ 8)) ((L_slices_ContainsFunc_api_Tenant_api_Tenant pTenants5 (fun y0 y1 y2 y3 y4 => L_config_Right_1 y0 y1 y2 y3 y4)).bind fun z153 => (cond (!z153) ((L_config_rising_api_Tenant pTenants5 (fun y0 y1 y2 y3 y4 => L_config_Right_2 y0 y1 y2 y3 y4)).bind fun z160 => (L_config_Right_k4 rec3 z160)) (L_config_Right_k4 rec3 false))) (L_config_Right_k4 rec3 false)))
def L_config_Right_l2 (pWait1 : Int) (pGrace2 : Int) (pIdle3 : Int) (pLease4 : Int) (pTenants5 : (List TenantL)) : Nat → Int → Option (Bool)
  | 0, _ => none
  | f + 1, v69 => L_config_Right_b2  (L_config_Right_l2 pWait1 pGrace2 pIdle3 pLease4 pTenants5 f) pWait1 pGrace2 pIdle3 pLease4 pTenants5 v69
def L_config_Right (pWait1 : Int) (pGrace2 : Int) (pIdle3 : Int) (pLease4 : Int) (pTenants5 : (List TenantL)) : Option (Bool) :=
  (L_config_Right_l2 pWait1 pGrace2 pIdle3 pLease4 pTenants5 fuel 0)
set_option maxRecDepth 100000 in
set_option maxHeartbeats 4000000 in
theorem L_config_Right_walk (A6 : Option Addr) (c7 : Nat) (pWait1 : Int) (pGrace2 : Int) (pIdle3 : Int) (pLease4 : Int) (d9 : (List TenantD)) (w0 : World) (hL : LaidW w0) (hr8 : (dDS eTen dTen).ok w0 (A6, c7, d9)) (r : (Bool)) (H : L_config_Right pWait1 pGrace2 pIdle3 pLease4 (List.map stT d9) = some r) :
  Calls Tryd.prog 23 #[(.agg #[(.int .i64 pWait1), (.int .i64 pGrace2), (.int .i64 pIdle3), (.int .i64 pLease4), (.slice A6 (List.length (List.map stT d9)) c7)])] w0 (fun e w' => e = .returned (.bool r) ∧ SP [] w0 w' []) := by
 unfold L_config_Right at H
 refine calls_go (n := 38) Tryd.func23 K K K ?_
 have hs0 := SP.start [] w0
 refine At.sq K ?_
 refine At.region K K ?_
 refine In.step (k' := 1) rfl K ?_
 refine Step.box (t := 24) (x := (.tmp 0)) (v := (.agg #[(.int .i64 pWait1), (.int .i64 pGrace2), (.int .i64 pIdle3), (.int .i64 pLease4), (.slice A6 (List.length (List.map stT d9)) c7)])) (d := (some 1)) (k := 0) K rfl K hs0 ?_
 intro g10 w11 (hs13 : SP [] w0 w11 [boxE g10 24 #[(.int .i64 pWait1), (.int .i64 pGrace2), (.int .i64 pIdle3), (.int .i64 pLease4), (.slice A6 (List.length (List.map stT d9)) c7)]])
 refine In.run' 1 (k' := 2) rfl [(2, (.bool false))] K ?_
 refine In.fin K ?_
 refine At.sq K ?_
 refine At.sq K ?_
 refine At.region K K ?_
 refine In.run' 1 (k' := 1) rfl [(5, (pt g10 0))] K ?_
 refine In.step (k' := 2) rfl K ?_
 refine Step.load (t := 2) (x := (.tmp 5)) (g := g10) (off := 0) (i := 0) (v := (.int .i64 pWait1)) (d := (some 6)) (k := 1) K rfl K hs13 rfl K ?_
 refine In.run' 1 (k' := 3) rfl [(7, (pt g10 1))] K ?_
 refine In.step (k' := 4) rfl K ?_
 refine Step.load (t := 2) (x := (.tmp 7)) (g := g10) (off := 1) (i := 0) (v := (.int .i64 pGrace2)) (d := (some 8)) (k := 3) K rfl K hs13 rfl K ?_
 refine In.run' 1 (k' := 5) rfl [(9, (pt g10 2))] K ?_
 refine In.step (k' := 6) rfl K ?_
 refine Step.load (t := 2) (x := (.tmp 9)) (g := g10) (off := 2) (i := 0) (v := (.int .i64 pIdle3)) (d := (some 10)) (k := 5) K rfl K hs13 rfl K ?_
 refine In.run' 1 (k' := 7) rfl [(11, (pt g10 3))] K ?_
 refine In.step (k' := 8) rfl K ?_
 refine Step.load (t := 2) (x := (.tmp 11)) (g := g10) (off := 3) (i := 0) (v := (.int .i64 pLease4)) (d := (some 12)) (k := 7) K rfl K hs13 rfl K ?_
 refine In.step (k' := 9) rfl K ?_
 refine Step.newSlice (e := (eInt .i64)) (T := 74) (E := 2) (len := 4) (parts := #[(0, (.tmp 6)), (1, (.tmp 8)), (2, (.tmp 10)), (3, (.tmp 12))]) (cs := #[(.int .i64 pWait1), (.int .i64 pGrace2), (.int .i64 pIdle3), (.int .i64 pLease4)]) ([pWait1, pGrace2, pIdle3, pLease4] : List Int) (d := (some 13)) (k := 8) K rfl (fun _ => K) hs13 rfl rfl rfl rfl ?_
 intro g14 w15 (hs17 : SP [] w0 w15 [boxE g10 24 #[(.int .i64 pWait1), (.int .i64 pGrace2), (.int .i64 pIdle3), (.int .i64 pLease4), (.slice A6 (List.length (List.map stT d9)) c7)], rowT 2 (eInt .i64) (some ⟨g14, 0, none⟩) (List.length ([pWait1, pGrace2, pIdle3, pLease4] : List Int)) ([pWait1, pGrace2, pIdle3, pLease4] : List Int)])
 refine In.run' 2 (k' := 11) rfl [(14, (.int .i64 ((List.length ([pWait1, pGrace2, pIdle3, pLease4] : List Int) : Nat) : Int))), (15, (.int .i64 0))] K ?_
 refine In.fin K ?_
 refine At.bk K (id := 0) K ?_
 refine At.lp K (fun f3 ρ w => ∃ (v69 : Int), Known ρ [(1, (pt g10 0)), (13, (.slice (some ⟨g14, 0, none⟩) (List.length ([pWait1, pGrace2, pIdle3, pLease4] : List Int)) (List.length ([pWait1, pGrace2, pIdle3, pLease4] : List Int)))), (14, (.int .i64 ((List.length ([pWait1, pGrace2, pIdle3, pLease4] : List Int) : Nat) : Int))), (15, (.int .i64 v69))] ∧ SP [] w0 w [boxE g10 24 #[(.int .i64 pWait1), (.int .i64 pGrace2), (.int .i64 pIdle3), (.int .i64 pLease4), (.slice A6 (List.length (List.map stT d9)) c7)], rowT 2 (eInt .i64) (some ⟨g14, 0, none⟩) (List.length ([pWait1, pGrace2, pIdle3, pLease4] : List Int)) ([pWait1, pGrace2, pIdle3, pLease4] : List Int)] ∧ L_config_Right_l2 pWait1 pGrace2 pIdle3 pLease4 (List.map stT d9) f3 v69 = some r) (by rintro ρ w ⟨v69, hk, hs, H⟩; cases H) ?_ fuel ?_
 ·rintro f3 ρ w67 ⟨v69, hk, hs68, H⟩
  refine At.known [(1, (pt g10 0)), (13, (.slice (some ⟨g14, 0, none⟩) (List.length ([pWait1, pGrace2, pIdle3, pLease4] : List Int)) (List.length ([pWait1, pGrace2, pIdle3, pLease4] : List Int)))), (14, (.int .i64 ((List.length ([pWait1, pGrace2, pIdle3, pLease4] : List Int) : Nat) : Int))), (15, (.int .i64 v69))] hk ?_
  replace H := (show L_config_Right_b2 (L_config_Right_l2 pWait1 pGrace2 pIdle3 pLease4 (List.map stT d9) f3) pWait1 pGrace2 pIdle3 pLease4 (List.map stT d9) v69 = some r from H)
  unfold L_config_Right_b2 at H
  refine At.sq K ?_
  refine At.region K K ?_
  refine In.run' 1 (k' := 1) rfl [(16, (.bool (decide (v69 < ((List.length ([pWait1, pGrace2, pIdle3, pLease4] : List Int) : Nat) : Int)))))] K ?_
  refine In.fin K ?_
  refine At.sq K ?_
  refine At.cd K (o := (.tmp 16)) K (b := (decide (v69 < ((List.length ([pWait1, pGrace2, pIdle3, pLease4] : List Int) : Nat) : Int)))) K (fun hb118 => ?_) (fun hb118 => ?_)
  ·have H := ct H hb118
   refine At.skip K ?_
   refine At.sq K ?_
   refine At.bk K (id := 1) K ?_
   refine At.sq K ?_
   refine At.region K K ?_
   obtain ⟨x119, hp120, hq121, hx122, H⟩ := idx_elim H
   refine In.step (k' := 1) rfl K ?_
   refine Step.elem (e := (eInt .i64)) (l := ([pWait1, pGrace2, pIdle3, pLease4] : List Int)) (A := (some ⟨g14, 0, none⟩)) (c := (List.length ([pWait1, pGrace2, pIdle3, pLease4] : List Int))) (T := 74) (E := 2) (x := (.tmp 13)) (ix := (.tmp 15)) (ki := .i64) (iz := v69) (d := (some 17)) (k := 0) K rfl K K K K (rowT_rd (SP.get hs68 (i := 1) rfl)) hp120 hq121 ?_
   intro b123 o124 hA126 hb127 hc125
   refine In.step (k' := 2) rfl K ?_
   refine Step.cell (t := 2) (x := (.tmp 17)) (b := b123) (off := (o124 + Int.toNat v69 * (eInt .i64).sz)) (v := (.int .i64 x119)) (d := (some 18)) (k := 1) K rfl K K (elem_cell (e := (eInt .i64)) (rdt_cells (rowT_rd (SP.get hs68 (i := 1) rfl)) hA126 hp120 hq121) hx122 (j := 0) rfl) ?_
   refine In.run' 1 (k' := 3) rfl [(4, (.int .i64 x119))] K ?_
   refine In.fin K ?_
   refine At.sq K ?_
   refine At.region K K ?_
   refine In.run' 1 (k' := 1) rfl [(19, (.int .i64 x119))] K ?_
   obtain ⟨z128, hz129, H⟩ := bind_elim H
   refine In.step (k' := 2) rfl K ?_
   refine Step.callF (f := 32) (fo := (.func 32)) (xs := #[(.tmp 19), (.const (.int .i64 (1))), (.const (.int .i64 (1073741824)))]) (tys := #[2, 2, 2]) (first := #[]) (captured := #[]) (d := (some 20)) (k := 1) K rfl K K Tryd.call32 (L_config_within_walk  x119 1 1073741824 w67  z128 hz129) ?_
   rintro e w130 ⟨rfl, hs131⟩
   refine ⟨_, rfl, ?_⟩
   have hs133 : SP [] w0 w130 [boxE g10 24 #[(.int .i64 pWait1), (.int .i64 pGrace2), (.int .i64 pIdle3), (.int .i64 pLease4), (.slice A6 (List.length (List.map stT d9)) c7)], rowT 2 (eInt .i64) (some ⟨g14, 0, none⟩) (List.length ([pWait1, pGrace2, pIdle3, pLease4] : List Int)) ([pWait1, pGrace2, pIdle3, pLease4] : List Int)] := SP.call hs68 hs131
   clear hs131
   refine In.run' 1 (k' := 3) rfl [(21, (.bool (!z128)))] K ?_
   refine In.fin K ?_
   refine At.cd K (o := (.tmp 21)) K (b := (!z128)) K (fun hb134 => ?_) (fun hb134 => ?_)
   ·have H := ct H hb134
    refine At.sq K ?_
    refine At.region K K ?_
    refine In.run' 1 (k' := 1) rfl [(2, (.bool false))] K ?_
    refine In.fin K ?_
    refine At.ret K ?_
    refine ⟨(.bool false), K, ?_⟩
    obtain rfl := some_elim H
    exact ⟨rfl, SP.sel hs133 [] rfl rfl⟩
   ·have H := cf H hb134
    refine At.skip K ?_
    refine At.region K K ?_
    refine In.run' 2 (k' := 2) rfl [(22, (.int .i64 (IntKind.wrap .i64 (v69 + 1)))), (15, (.int .i64 (IntKind.wrap .i64 (v69 + 1))))] K ?_
    refine In.fin K ?_
    exact ⟨(IntKind.wrap .i64 (v69 + 1)), ⟨K, K, K, K, trivial⟩, SP.sel hs133 [0, 1] rfl rfl, H⟩
  ·have H := cf H hb118
   refine At.exit K (id := 0) K ?_
   refine At.sq K ?_
   refine At.join (fun ρ w => ∃ (v149 : Bool), Known ρ [(2, (.bool v149))] ∧ SP [] w0 w [] ∧ L_config_Right_k4 (L_config_Right_l2 pWait1 pGrace2 pIdle3 pLease4 (List.map stT d9) f3) v149 = some r) ?_ ?_
   ·refine At.region K K ?_
    refine In.run' 1 (k' := 1) rfl [(23, (pt g10 4))] K ?_
    refine In.step (k' := 2) rfl K ?_
    refine Step.load (t := 22) (x := (.tmp 23)) (g := g10) (off := 4) (i := 0) (v := (.slice A6 (List.length (List.map stT d9)) c7)) (d := (some 24)) (k := 1) K rfl K hs68 rfl K ?_
    refine In.run' 3 (k' := 5) rfl [(25, (.int .i64 ((List.length (List.map stT d9) : Nat) : Int))), (26, (.bool (decide (((List.length (List.map stT d9) : Nat) : Int) ≤ 8)))), (27, (.bool (decide (((List.length (List.map stT d9) : Nat) : Int) ≤ 8))))] K ?_
    refine In.guard (t := 27) (b := (decide (((List.length (List.map stT d9) : Nat) : Int) ≤ 8))) K (fun hb152 => ?_) (fun hb152 => ?_)
    ·have H := ct H hb152
     refine In.run' 1 (k' := 6) rfl [(28, (pt g10 4))] K ?_
     refine In.step (k' := 7) rfl K ?_
     refine Step.load (t := 22) (x := (.tmp 28)) (g := g10) (off := 4) (i := 0) (v := (.slice A6 (List.length (List.map stT d9)) c7)) (d := (some 29)) (k := 6) K rfl K hs68 rfl K ?_
     obtain ⟨z153, hz154, H⟩ := bind_elim H
     refine In.step (k' := 8) rfl K ?_
     refine Step.callF (f := 33) (fo := (.func 33)) (xs := #[(.tmp 29), (.func 34)]) (tys := #[22, 77]) (first := #[]) (captured := #[]) (d := (some 30)) (k := 7) K rfl K K Tryd.call33 (L_slices_ContainsFunc_api_Tenant_api_Tenant_walk A6 c7 34 #[] d9 (fun y0 y1 y2 y3 y4 => L_config_Right_1 y0 y1 y2 y3 y4) w67 (Dp.sp hr8 hs68) Tryd.call34 (fun y0 y1 y2 y3 y4 z w Ay3 cy3 Ay4 cy4 hw hy3 hy4 hz => L_config_Right_1_walk Ay3 cy3 Ay4 cy4 y0 y1 y2 y3 y4 w (laid_below (laid_below hL (SP.keeps hs68)) hw) hy3 hy4 z hz) z153 hz154) ?_
     rintro e w155 ⟨rfl, hs156⟩
     refine ⟨_, rfl, ?_⟩
     have hs158 : SP [] w0 w155 [boxE g10 24 #[(.int .i64 pWait1), (.int .i64 pGrace2), (.int .i64 pIdle3), (.int .i64 pLease4), (.slice A6 (List.length (List.map stT d9)) c7)], rowT 2 (eInt .i64) (some ⟨g14, 0, none⟩) (List.length ([pWait1, pGrace2, pIdle3, pLease4] : List Int)) ([pWait1, pGrace2, pIdle3, pLease4] : List Int)] := SP.call hs68 hs156
     clear hs156
     refine In.run' 3 (k' := 11) rfl [(31, (.bool (!z153))), (32, (.bool (!z153))), (33, (.bool (!z153)))] K ?_
     refine In.guard (t := 33) (b := (!z153)) K (fun hb159 => ?_) (fun hb159 => ?_)
     ·have H := ct H hb159
      refine In.run' 1 (k' := 12) rfl [(34, (pt g10 4))] K ?_
      refine In.step (k' := 13) rfl K ?_
      refine Step.load (t := 22) (x := (.tmp 34)) (g := g10) (off := 4) (i := 0) (v := (.slice A6 (List.length (List.map stT d9)) c7)) (d := (some 35)) (k := 12) K rfl K hs158 rfl K ?_
      obtain ⟨z160, hz161, H⟩ := bind_elim H
      refine In.step (k' := 14) rfl K ?_
      refine Step.callF (f := 36) (fo := (.func 36)) (xs := #[(.tmp 35), (.func 37)]) (tys := #[22, 79]) (first := #[]) (captured := #[]) (d := (some 36)) (k := 13) K rfl K K Tryd.call36 (L_config_rising_api_Tenant_walk A6 c7 37 #[] d9 (fun y0 y1 y2 y3 y4 => L_config_Right_2 y0 y1 y2 y3 y4) w155 (Dp.sp hr8 hs158) Tryd.call37 (fun y0 y1 y2 y3 y4 z w Ay3 cy3 Ay4 cy4 hw hy3 hy4 hz => L_config_Right_2_walk Ay3 cy3 Ay4 cy4 y0 y1 y2 y3 y4 w hy3 hy4 z hz) z160 hz161) ?_
      rintro e w162 ⟨rfl, hs163⟩
      refine ⟨_, rfl, ?_⟩
      have hs165 : SP [] w0 w162 [boxE g10 24 #[(.int .i64 pWait1), (.int .i64 pGrace2), (.int .i64 pIdle3), (.int .i64 pLease4), (.slice A6 (List.length (List.map stT d9)) c7)], rowT 2 (eInt .i64) (some ⟨g14, 0, none⟩) (List.length ([pWait1, pGrace2, pIdle3, pLease4] : List Int)) ([pWait1, pGrace2, pIdle3, pLease4] : List Int)] := SP.call hs158 hs163
      clear hs163
      refine In.run' 2 (k' := 16) rfl [(37, (.bool z160)), (2, (.bool z160))] K ?_
      refine In.fin K ?_
      exact ⟨z160, ⟨K, trivial⟩, SP.sel hs165 [] rfl rfl, H⟩
     ·have H := cf H hb159
      refine In.run' 5 (k' := 16) rfl [(34, undef), (35, undef), (36, undef), (37, (.bool false)), (2, (.bool false))] K ?_
      refine In.fin K ?_
      exact ⟨false, ⟨K, trivial⟩, SP.sel hs158 [] rfl rfl, H⟩
    ·have H := cf H hb152
     refine In.run' 11 (k' := 16) rfl [(28, undef), (29, undef), (30, undef), (31, undef), (32, (.bool false)), (33, (.bool false)), (34, undef), (35, undef), (36, undef), (37, (.bool false)), (2, (.bool false))] K ?_
     refine In.fin K ?_
     exact ⟨false, ⟨K, trivial⟩, SP.sel hs68 [] rfl rfl, H⟩
   ·rintro ρ w150 ⟨v149, hk, hs151, H⟩
    unfold L_config_Right_k4 at H
    first | refine At.known [(2, (.bool v149))] hk ?_ | rw [← known_updL (l := [(2, (.bool v149))]) hk]
    refine At.ret K ?_
    refine ⟨(.bool v149), K, ?_⟩
    obtain rfl := some_elim H
    exact ⟨rfl, SP.sel hs151 [] rfl rfl⟩
 ·exact ⟨0, ⟨K, K, K, K, trivial⟩, SP.sel hs17 [0, 1] rfl rfl, H⟩
end Go.Proofs.YtfffjaijflbeaaaDoor
