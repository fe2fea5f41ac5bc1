/- LIFTED BY PROGRAM (tools/lift.py): what functions compute, and that they do. -/
import Derived.Test.YtfffjaijflbeaaaDoorNumHand
namespace Go.Proofs.YtfffjaijflbeaaaDoor
set_option linter.unusedSimpArgs false
set_option linter.unusedVariables false
open Go.RowKit

/-! L_num_Decimal -/
def L_num_Decimal_k1 (p1 : Int) (v3 : Bool) : Option ((List UInt8)) :=
  (cond v3 (some (([] : List UInt8))) ((L_strconv_FormatInt p1 10).bind fun z7 => (some (z7))))
def L_num_Decimal (p1 : Int) : Option ((List UInt8)) :=
  (cond (decide (p1 < 0)) (L_num_Decimal_k1 p1 true) (L_num_Decimal_k1 p1 (decide (p1 > 1099511627776))))
set_option maxRecDepth 100000 in
set_option maxHeartbeats 4000000 in
theorem L_num_Decimal_walk  (p1 : Int) (w0 : World) (hL : LaidW w0)  (r : ((List UInt8))) (H : L_num_Decimal p1 = some r) :
  Calls Tryd.prog 56 #[(.int .i64 p1)] w0 (fun e w' => e = .returned (.string ⟨List.toArray r⟩) ∧ SP [] w0 w' []) := by
 unfold L_num_Decimal at H
 refine calls_go (n := 11) Tryd.func56 K K K ?_
 have hs0 := SP.start [] w0
 refine At.sq K ?_
 refine At.region K K ?_
 refine In.run' 1 (k' := 1) rfl [(2, (.string ⟨List.toArray ([] : List UInt8)⟩))] K ?_
 refine In.fin K ?_
 refine At.sq K ?_
 refine At.sq K ?_
 refine At.join (fun ρ w => ∃ (v3 : Bool), Known ρ [(0, (.int .i64 p1)), (8, (.bool v3))] ∧ SP [] w0 w [] ∧ L_num_Decimal_k1 p1 v3 = some r) ?_ ?_
 ·refine At.region K K ?_
  refine In.run' 3 (k' := 3) rfl [(3, (.int .i64 p1)), (4, (.bool (decide (p1 < 0)))), (5, (.bool (decide (p1 < 0))))] K ?_
  refine In.guard (t := 5) (b := (decide (p1 < 0))) K (fun hb13 => ?_) (fun hb13 => ?_)
  ·have H := ct H hb13
   refine In.run' 3 (k' := 6) rfl [(6, undef), (7, undef), (8, (.bool true))] K ?_
   refine In.fin K ?_
   exact ⟨true, ⟨K, K, trivial⟩, SP.sel hs0 [] rfl rfl, H⟩
  ·have H := cf H hb13
   refine In.run' 3 (k' := 6) rfl [(6, (.int .i64 p1)), (7, (.bool (decide (p1 > 1099511627776)))), (8, (.bool (decide (p1 > 1099511627776))))] K ?_
   refine In.fin K ?_
   exact ⟨(decide (p1 > 1099511627776)), ⟨K, K, trivial⟩, SP.sel hs0 [] rfl rfl, H⟩
 ·rintro ρ w4 ⟨v3, hk, hs5, H⟩
  unfold L_num_Decimal_k1 at H
  first | refine At.known [(0, (.int .i64 p1)), (8, (.bool v3))] hk ?_ | rw [← known_updL (l := [(0, (.int .i64 p1)), (8, (.bool v3))]) hk]
  refine At.cd K (o := (.tmp 8)) K (b := v3) K (fun hb6 => ?_) (fun hb6 => ?_)
  ·have H := ct H hb6
   refine At.sq K ?_
   refine At.region K K ?_
   refine In.run' 1 (k' := 1) rfl [(2, (.string ⟨List.toArray ([] : List UInt8)⟩))] K ?_
   refine In.fin K ?_
   refine At.ret K ?_
   refine ⟨(.string ⟨List.toArray ([] : List UInt8)⟩), K, ?_⟩
   obtain rfl := some_elim H
   exact ⟨rfl, SP.sel hs5 [] rfl rfl⟩
  ·have H := cf H hb6
   refine At.skip K ?_
   refine At.sq K ?_
   refine At.region K K ?_
   refine In.run' 1 (k' := 1) rfl [(9, (.int .i64 p1))] K ?_
   obtain ⟨z7, hz8, H⟩ := bind_elim H
   refine In.step (k' := 2) rfl K ?_
   refine Step.callF (f := 60) (fo := (.func 60)) (xs := #[(.tmp 9), (.const (.int .i64 (10)))]) (tys := #[2, 3]) (first := #[]) (captured := #[]) (d := (some 10)) (k := 1) K rfl K K Tryd.call60 (L_strconv_FormatInt_walk  p1 10 w4 (laid_below hL (SP.keeps hs5)) z7 hz8) ?_
   rintro e w9 ⟨rfl, hs10⟩
   refine ⟨_, rfl, ?_⟩
   have hs12 : SP [] w0 w9 [] := SP.call hs5 hs10
   clear hs10
   refine In.run' 1 (k' := 3) rfl [(2, (.string ⟨List.toArray z7⟩))] K ?_
   refine In.fin K ?_
   refine At.ret K ?_
   refine ⟨(.string ⟨List.toArray z7⟩), K, ?_⟩
   obtain rfl := some_elim H
   exact ⟨rfl, SP.sel hs12 [] rfl rfl⟩
end Go.Proofs.YtfffjaijflbeaaaDoor
