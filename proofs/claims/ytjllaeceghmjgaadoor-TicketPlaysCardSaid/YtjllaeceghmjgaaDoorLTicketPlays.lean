/- LIFTED BY PROGRAM (tools/lift.py): what functions compute, and that they do. -/
import Derived.Test.YtjllaeceghmjgaaDoorLTB
namespace Go.Proofs.YtjllaeceghmjgaaDoor
set_option linter.unusedSimpArgs false
set_option linter.unusedVariables false
open Go.RowKit

/-! L_subwaylaw15_TicketPlays -/
def L_subwaylaw15_TicketPlays_k48 (rec41 : (List UInt8) → Int → (List (Int × (List UInt8) × (List UInt8) × Int × (List UInt8))) → (List UInt8) → Int → (List ((List UInt8) × Int × (List UInt8) × (List UInt8) × Int)) → (List (List UInt8)) → Int → Option (Bool)) (v2256 : Int) (v3872 : (List UInt8)) (v3873 : Int) (v3876 : (List (Int × (List UInt8) × (List UInt8) × Int × (List UInt8)))) (v3877 : (List UInt8)) (v3878 : Int) (v3881 : (List ((List UInt8) × Int × (List UInt8) × (List UInt8) × Int))) (v3884 : (List (List UInt8))) : Option (Bool) :=
  ((L_ticket_Book_Many v3872 v3873 v3876).bind fun z3887 => (cond (z3887 != ((List.length v3881 : Nat) : Int)) (some (false)) (rec41 v3872 v3873 v3876 v3877 v3878 v3881 v3884 (IntKind.wrap .i64 (v2256 + 1)))))
def L_subwaylaw15_TicketPlays_k49 (rec41 : (List UInt8) → Int → (List (Int × (List UInt8) × (List UInt8) × Int × (List UInt8))) → (List UInt8) → Int → (List ((List UInt8) × Int × (List UInt8) × (List UInt8) × Int)) → (List (List UInt8)) → Int → Option (Bool)) (v2255 : (List (List UInt8))) (v2256 : Int) (z3932 : (Int × (List UInt8) × (List UInt8) × Int × Int × (List UInt8) × Int × (List (Int × (List UInt8) × (List UInt8) × Int × (List UInt8))))) (z4107 : (Int × (List UInt8) × (List UInt8) × Int × Int × (List UInt8) × Int × (List ((List UInt8) × Int × (List UInt8) × (List UInt8) × Int)))) (v4265 : Bool) : Option (Bool) :=
  (cond v4265 (some (false)) (L_subwaylaw15_TicketPlays_k48 rec41 v2256 z3932.2.2.2.2.2.1 z3932.2.2.2.2.2.2.1 z3932.2.2.2.2.2.2.2 z4107.2.2.2.2.2.1 z4107.2.2.2.2.2.2.1 z4107.2.2.2.2.2.2.2 v2255))
def L_subwaylaw15_TicketPlays_k52 (rec41 : (List UInt8) → Int → (List (Int × (List UInt8) × (List UInt8) × Int × (List UInt8))) → (List UInt8) → Int → (List ((List UInt8) × Int × (List UInt8) × (List UInt8) × Int)) → (List (List UInt8)) → Int → Option (Bool)) (v2256 : Int) (v4345 : (List UInt8)) (v4346 : Int) (v4349 : (List (Int × (List UInt8) × (List UInt8) × Int × (List UInt8)))) (v4350 : (List UInt8)) (v4351 : Int) (v4354 : (List ((List UInt8) × Int × (List UInt8) × (List UInt8) × Int))) (v4357 : (List (List UInt8))) : Option (Bool) :=
  (L_subwaylaw15_TicketPlays_k48 rec41 v2256 v4345 v4346 v4349 v4350 v4351 v4354 v4357)
def L_subwaylaw15_TicketPlays_k54 (rec41 : (List UInt8) → Int → (List (Int × (List UInt8) × (List UInt8) × Int × (List UInt8))) → (List UInt8) → Int → (List ((List UInt8) × Int × (List UInt8) × (List UInt8) × Int)) → (List (List UInt8)) → Int → Option (Bool)) (v2256 : Int) (z4380 : ((List UInt8) × Int × (List UInt8) × Int × (List (Int × (List UInt8) × (List UInt8) × Int × (List UInt8))))) (z4390 : ((List UInt8) × Int × (List UInt8) × Int × (List ((List UInt8) × Int × (List UInt8) × (List UInt8) × Int)))) (v4417 : (List (List UInt8))) : Option (Bool) :=
  (L_subwaylaw15_TicketPlays_k52 rec41 v2256 z4380.2.2.1 z4380.2.2.2.1 z4380.2.2.2.2 z4390.2.2.1 z4390.2.2.2.1 z4390.2.2.2.2 v4417)
def L_subwaylaw15_TicketPlays_k53 (rec41 : (List UInt8) → Int → (List (Int × (List UInt8) × (List UInt8) × Int × (List UInt8))) → (List UInt8) → Int → (List ((List UInt8) × Int × (List UInt8) × (List UInt8) × Int)) → (List (List UInt8)) → Int → Option (Bool)) (v2255 : (List (List UInt8))) (v2256 : Int) (z4380 : ((List UInt8) × Int × (List UInt8) × Int × (List (Int × (List UInt8) × (List UInt8) × Int × (List UInt8))))) (z4390 : ((List UInt8) × Int × (List UInt8) × Int × (List ((List UInt8) × Int × (List UInt8) × (List UInt8) × Int)))) (v4399 : Bool) : Option (Bool) :=
  (cond v4399 (some (false)) (cond (z4380.2.1 == 0) ((app v2255 ([z4380.1] : List (List UInt8))).bind fun l4426 => (L_subwaylaw15_TicketPlays_k54 rec41 v2256 z4380 z4390 l4426)) (L_subwaylaw15_TicketPlays_k54 rec41 v2256 z4380 z4390 v2255)))
def L_subwaylaw15_TicketPlays_b28 (rec41 : (List UInt8) → Int → (List (Int × (List UInt8) × (List UInt8) × Int × (List UInt8))) → (List UInt8) → Int → (List ((List UInt8) × Int × (List UInt8) × (List UInt8) × Int)) → (List (List UInt8)) → Int → Option (Bool)) (p2 : (List (Int × Int × (List UInt8) × (List UInt8) × Int × (List UInt8) × Int × (List UInt8) × (List UInt8)))) (z6 : (Bool)) (v2243 : (List UInt8)) (v2244 : Int) (v2247 : (List (Int × (List UInt8) × (List UInt8) × Int × (List UInt8)))) (v2248 : (List UInt8)) (v2249 : Int) (v2252 : (List ((List UInt8) × Int × (List UInt8) × (List UInt8) × Int))) (v2255 : (List (List UInt8))) (v2256 : Int) : Option (Bool) :=
  (cond (decide (v2256 < ((List.length p2 : Nat) : Int))) ((idx p2 v2256).bind fun x3346 => (cond (x3346.1 == 2) ((L_subwaylaw15_shown x3346.1 x3346.2.1 x3346.2.2.1 x3346.2.2.2.1 x3346.2.2.2.2.1 x3346.2.2.2.2.2.1 x3346.2.2.2.2.2.2.1 x3346.2.2.2.2.2.2.2.1 x3346.2.2.2.2.2.2.2.2 v2255).bind fun z3926 => ((L_ticket_Book_Redeem v2243 v2244 v2247 z3926 x3346.2.2.2.2.2.2.2.2).bind fun z3932 => ((L_subwaylaw15_shown x3346.1 x3346.2.1 x3346.2.2.1 x3346.2.2.2.1 x3346.2.2.2.2.1 x3346.2.2.2.2.2.1 x3346.2.2.2.2.2.2.1 x3346.2.2.2.2.2.2.2.1 x3346.2.2.2.2.2.2.2.2 v2255).bind fun z4101 => ((L_subwayref15_Book_Redeem v2248 v2249 v2252 z4101 x3346.2.2.2.2.2.2.2.2).bind fun z4107 => (cond (!((z3932.1 == z4107.1) && ((z3932.2.1 == z4107.2.1) && ((z3932.2.2.1 == z4107.2.2.1) && (z3932.2.2.2.1 == z4107.2.2.2.1))))) (L_subwaylaw15_TicketPlays_k49 rec41 v2255 v2256 z3932 z4107 true) (L_subwaylaw15_TicketPlays_k49 rec41 v2255 v2256 z3932 z4107 (z3932.2.2.2.2.1 != z4107.2.2.2.2.1))))))) (cond (x3346.1 == 3) ((L_ticket_Book_Void v2243 v2244 v2247 x3346.2.1).bind fun z4361 => ((L_subwayref15_Book_Void v2248 v2249 v2252 x3346.2.1).bind fun z4371 => (cond (!(z4361.1 == z4371.1)) (some (false)) (L_subwaylaw15_TicketPlays_k52 rec41 v2256 z4361.2.1 z4361.2.2.1 z4361.2.2.2 z4371.2.1 z4371.2.2.1 z4371.2.2.2 v2255)))) ((L_ticket_Book_Issue v2243 v2244 v2247 x3346.2.1 x3346.2.2.1 x3346.2.2.2.1 x3346.2.2.2.2.1 x3346.2.2.2.2.2.1).bind fun z4380 => ((L_subwayref15_Book_Issue v2248 v2249 v2252 x3346.2.1 x3346.2.2.1 x3346.2.2.2.1 x3346.2.2.2.2.1 x3346.2.2.2.2.2.1).bind fun z4390 => (cond (!(z4380.1 == z4390.1)) (L_subwaylaw15_TicketPlays_k53 rec41 v2255 v2256 z4380 z4390 true) (L_subwaylaw15_TicketPlays_k53 rec41 v2255 v2256 z4380 z4390 (z4380.2.1 != z4390.2.1)))))))) (some (z6)))
def L_subwaylaw15_TicketPlays_l28 (p2 : (List (Int × Int × (List UInt8) × (List UInt8) × Int × (List UInt8) × Int × (List UInt8) × (List UInt8)))) (z6 : (Bool)) : Nat → (List UInt8) → Int → (List (Int × (List UInt8) × (List UInt8) × Int × (List UInt8))) → (List UInt8) → Int → (List ((List UInt8) × Int × (List UInt8) × (List UInt8) × Int)) → (List (List UInt8)) → Int → Option (Bool)
  | 0, _, _, _, _, _, _, _, _ => none
  | f + 1, v2243, v2244, v2247, v2248, v2249, v2252, v2255, v2256 => L_subwaylaw15_TicketPlays_b28  (L_subwaylaw15_TicketPlays_l28 p2 z6 f) p2 z6 v2243 v2244 v2247 v2248 v2249 v2252 v2255 v2256
def L_subwaylaw15_TicketPlays_k1 (p2 : (List (Int × Int × (List UInt8) × (List UInt8) × Int × (List UInt8) × Int × (List UInt8) × (List UInt8)))) (z6 : (Bool)) (z12 : ((List UInt8) × Int × (List (Int × (List UInt8) × (List UInt8) × Int × (List UInt8))))) (z23 : ((List UInt8) × Int × (List ((List UInt8) × Int × (List UInt8) × (List UInt8) × Int)))) (v39 : Bool) : Option (Bool) :=
  (cond v39 (some (z6)) (L_subwaylaw15_TicketPlays_l28 p2 z6 fuel z12.1 z12.2.1 z12.2.2 z23.1 z23.2.1 z23.2.2 ([] : List (List UInt8)) 0))
def L_subwaylaw15_TicketPlays (p1 : (List UInt8)) (p2 : (List (Int × Int × (List UInt8) × (List UInt8) × Int × (List UInt8) × Int × (List UInt8) × (List UInt8)))) : Option (Bool) :=
  ((L_subwaylaw15_head ).bind fun z6 => ((L_ticket_New p1).bind fun z12 => ((L_subwayref15_New p1).bind fun z23 => ((L_subwaylaw15_great p2).bind fun z4433 => (cond z4433 (L_subwaylaw15_TicketPlays_k1 p2 z6 z12 z23 true) (L_subwaylaw15_TicketPlays_k1 p2 z6 z12 z23 (decide (((List.length p1 : Nat) : Int) > 3000))))))))
set_option maxRecDepth 100000 in
set_option maxHeartbeats 4000000 in
theorem L_subwaylaw15_TicketPlays_walk (A3 : Option Addr) (c4 : Nat) (p1 : (List UInt8)) (p2 : (List (Int × Int × (List UInt8) × (List UInt8) × Int × (List UInt8) × Int × (List UInt8) × (List UInt8)))) (w0 : World) (hL : LaidW w0) (hr5 : RdT (ePair (eInt .i64) (ePair (eInt .i64) (ePair eStr (ePair eStr (ePair (eInt .i64) (ePair eStr (ePair (eInt .i64) (ePair eStr eStr)))))))) w0 A3 c4 p2) (r : (Bool)) (H : L_subwaylaw15_TicketPlays p1 p2 = some r) :
  Calls Tryd.prog 3 #[(.string ⟨List.toArray p1⟩), (.slice A3 (List.length p2) c4)] w0 (fun e w' => e = .returned (.bool r) ∧ SP [] w0 w' []) := by
 unfold L_subwaylaw15_TicketPlays at H
 refine calls_go (n := 140) Tryd.func3 K K K ?_
 have hs0 := SP.start [] w0
 refine At.sq K ?_
 refine At.region K K ?_
 refine In.run' 1 (k' := 1) rfl [(4, (.bool false))] K ?_
 refine In.fin K ?_
 refine At.sq K ?_
 refine At.region K K ?_
 obtain ⟨z6, hz7, H⟩ := bind_elim H
 refine In.step (k' := 1) rfl K ?_
 refine Step.callF (f := 9) (fo := (.func 9)) (xs := #[]) (tys := #[]) (first := #[]) (captured := #[]) (d := (some 21)) (k := 0) K rfl K K Tryd.call9 (L_subwaylaw15_head_walk   w0 (laid_below hL (SP.keeps hs0)) z6 hz7) ?_
 rintro e w8 ⟨rfl, hs9⟩
 refine ⟨_, rfl, ?_⟩
 have hs11 : SP [] w0 w8 [] := SP.call hs0 hs9
 clear hs9
 refine In.run' 1 (k' := 2) rfl [(5, (.bool z6))] K ?_
 refine In.fin K ?_
 refine At.sq K ?_
 refine At.region K K ?_
 refine In.run' 1 (k' := 1) rfl [(22, (.string ⟨List.toArray p1⟩))] K ?_
 obtain ⟨z12, hz13, H⟩ := bind_elim H
 refine In.step (k' := 2) rfl K ?_
 refine Step.callF (f := 10) (fo := (.func 10)) (xs := #[(.tmp 22)]) (tys := #[9]) (first := #[]) (captured := #[]) (d := (some 23)) (k := 1) K rfl K K Tryd.call10 (L_ticket_New_walk  p1 w8  z12 hz13) ?_
 rintro e w14 ⟨g16, A17, c18, A19, c20, rfl, hs15⟩
 refine ⟨_, rfl, ?_⟩
 have hs22 : SP [] w0 w14 [boxE g16 56 #[(.slice A17 (List.length z12.1) c18), (.int .i64 z12.2.1), (.slice A19 (List.length z12.2.2) c20)], rdE eU8 A17 c18 z12.1, rowT 59 (ePair (eInt .i64) (ePair eStr (ePair eStr (ePair (eInt .i64) eStr)))) A19 c20 z12.2.2] := SP.call hs11 hs15
 clear hs15
 refine In.run' 1 (k' := 3) rfl [(6, (pt g16 0))] K ?_
 refine In.fin K ?_
 refine At.sq K ?_
 refine At.region K K ?_
 refine In.run' 1 (k' := 1) rfl [(24, (.string ⟨List.toArray p1⟩))] K ?_
 obtain ⟨z23, hz24, H⟩ := bind_elim H
 refine In.step (k' := 2) rfl K ?_
 refine Step.callF (f := 11) (fo := (.func 11)) (xs := #[(.tmp 24)]) (tys := #[9]) (first := #[]) (captured := #[]) (d := (some 25)) (k := 1) K rfl K K Tryd.call11 (L_subwayref15_New_walk  p1 w14  z23 hz24) ?_
 rintro e w25 ⟨g27, A28, c29, rfl, hs26⟩
 refine ⟨_, rfl, ?_⟩
 have hs31 : SP [] w0 w25 [boxE g16 56 #[(.slice A17 (List.length z12.1) c18), (.int .i64 z12.2.1), (.slice A19 (List.length z12.2.2) c20)], rdE eU8 A17 c18 z12.1, rowT 59 (ePair (eInt .i64) (ePair eStr (ePair eStr (ePair (eInt .i64) eStr)))) A19 c20 z12.2.2, boxE g27 44 #[(.string ⟨List.toArray z23.1⟩), (.int .i64 z23.2.1), (.slice A28 (List.length z23.2.2) c29)], rowT 63 (ePair eStr (ePair (eInt .i64) (ePair eStr (ePair eStr (eInt .i64))))) A28 c29 z23.2.2] := SP.call hs22 hs26
 clear hs26
 refine In.run' 1 (k' := 3) rfl [(7, (pt g27 0))] K ?_
 refine In.fin K ?_
 refine At.sq K ?_
 refine At.sq K ?_
 refine At.join (fun ρ w => ∃ (v39 : Bool), Known ρ [(1, (.slice A3 (List.length p2) c4)), (5, (.bool z6)), (6, (pt g16 0)), (7, (pt g27 0)), (36, (.bool v39))] ∧ SP [] w0 w [rdE eU8 A17 c18 z12.1, rowT 59 (ePair (eInt .i64) (ePair eStr (ePair eStr (ePair (eInt .i64) eStr)))) A19 c20 z12.2.2, boxE g16 56 #[(.slice A17 (List.length z12.1) c18), (.int .i64 z12.2.1), (.slice A19 (List.length z12.2.2) c20)], rowT 63 (ePair eStr (ePair (eInt .i64) (ePair eStr (ePair eStr (eInt .i64))))) A28 c29 z23.2.2, boxE g27 44 #[(.string ⟨List.toArray z23.1⟩), (.int .i64 z23.2.1), (.slice A28 (List.length z23.2.2) c29)]] ∧ L_subwaylaw15_TicketPlays_k1 p2 z6 z12 z23 v39 = some r) ?_ ?_
 ·refine At.region K K ?_
  refine In.run' 4 (k' := 4) rfl [(26, (pt g16 0)), (27, (.bool false)), (28, (.bool false)), (29, (.slice A3 (List.length p2) c4))] K ?_
  obtain ⟨z4433, hz4434, H⟩ := bind_elim H
  refine In.step (k' := 5) rfl K ?_
  refine Step.callF (f := 12) (fo := (.func 12)) (xs := #[(.tmp 29)]) (tys := #[22]) (first := #[]) (captured := #[]) (d := (some 30)) (k := 4) K rfl K K Tryd.call12 (L_subwaylaw15_great_walk A3 c4 p2 w25 (RdT.sp hr5 hs31) z4433 hz4434) ?_
  rintro e w4435 ⟨rfl, hs4436⟩
  refine ⟨_, rfl, ?_⟩
  have hs4438 : SP [] w0 w4435 [boxE g16 56 #[(.slice A17 (List.length z12.1) c18), (.int .i64 z12.2.1), (.slice A19 (List.length z12.2.2) c20)], rdE eU8 A17 c18 z12.1, rowT 59 (ePair (eInt .i64) (ePair eStr (ePair eStr (ePair (eInt .i64) eStr)))) A19 c20 z12.2.2, boxE g27 44 #[(.string ⟨List.toArray z23.1⟩), (.int .i64 z23.2.1), (.slice A28 (List.length z23.2.2) c29)], rowT 63 (ePair eStr (ePair (eInt .i64) (ePair eStr (ePair eStr (eInt .i64))))) A28 c29 z23.2.2] := SP.call hs31 hs4436
  clear hs4436
  refine In.run' 2 (k' := 7) rfl [(31, (.bool z4433)), (32, (.bool z4433))] K ?_
  refine In.guard (t := 32) (b := z4433) K (fun hb4439 => ?_) (fun hb4439 => ?_)
  ·have H := ct H hb4439
   refine In.run' 4 (k' := 11) rfl [(33, undef), (34, undef), (35, undef), (36, (.bool true))] K ?_
   refine In.fin K ?_
   exact ⟨true, ⟨K, K, K, K, K, trivial⟩, SP.sel hs4438 [1, 2, 0, 4, 3] rfl rfl, H⟩
  ·have H := cf H hb4439
   refine In.run' 4 (k' := 11) rfl [(33, (.string ⟨List.toArray p1⟩)), (34, (.int .i64 ((List.length p1 : Nat) : Int))), (35, (.bool (decide (((List.length p1 : Nat) : Int) > 3000)))), (36, (.bool (decide (((List.length p1 : Nat) : Int) > 3000))))] K ?_
   refine In.fin K ?_
   exact ⟨(decide (((List.length p1 : Nat) : Int) > 3000)), ⟨K, K, K, K, K, trivial⟩, SP.sel hs4438 [1, 2, 0, 4, 3] rfl rfl, H⟩
 ·rintro ρ w40 ⟨v39, hk, hs41, H⟩
  unfold L_subwaylaw15_TicketPlays_k1 at H
  first | refine At.known [(1, (.slice A3 (List.length p2) c4)), (5, (.bool z6)), (6, (pt g16 0)), (7, (pt g27 0)), (36, (.bool v39))] hk ?_ | rw [← known_updL (l := [(1, (.slice A3 (List.length p2) c4)), (5, (.bool z6)), (6, (pt g16 0)), (7, (pt g27 0)), (36, (.bool v39))]) hk]
  refine At.cd K (o := (.tmp 36)) K (b := v39) K (fun hb42 => ?_) (fun hb42 => ?_)
  ·have H := ct H hb42
   refine At.sq K ?_
   refine At.region K K ?_
   refine In.run' 6 (k' := 6) rfl [(37, (pt g16 0)), (38, (.bool true)), (39, (.bool true)), (40, (.bool z6)), (41, (.bool z6)), (4, (.bool z6))] K ?_
   refine In.fin K ?_
   refine At.ret K ?_
   refine ⟨(.bool z6), K, ?_⟩
   obtain rfl := some_elim H
   exact ⟨rfl, SP.sel hs41 [] rfl rfl⟩
  ·have H := cf H hb42
   refine At.skip K ?_
   refine At.sq K ?_
   refine At.region K K ?_
   refine In.run' 1 (k' := 1) rfl [(8, (.slice none (List.length ([] : List (List UInt8))) 0))] K ?_
   refine In.fin K ?_
   refine At.sq K ?_
   refine At.sq K ?_
   refine At.region K K ?_
   refine In.run' 1 (k' := 1) rfl [(9, (.int .i64 0))] K ?_
   refine In.fin K ?_
   refine At.bk K (id := 0) K ?_
   refine At.lp K (fun f41 ρ w => ∃ (v2243 : (List UInt8)) (v2244 : Int) (v2247 : (List (Int × (List UInt8) × (List UInt8) × Int × (List UInt8)))) (v2248 : (List UInt8)) (v2249 : Int) (v2252 : (List ((List UInt8) × Int × (List UInt8) × (List UInt8) × Int))) (v2255 : (List (List UInt8))) (v2256 : Int) (A2241 : Option Addr) (c2242 : Nat) (A2245 : Option Addr) (c2246 : Nat) (A2250 : Option Addr) (c2251 : Nat) (A2253 : Option Addr) (c2254 : Nat), Known ρ [(1, (.slice A3 (List.length p2) c4)), (5, (.bool z6)), (6, (pt g16 0)), (7, (pt g27 0)), (8, (.slice A2253 (List.length v2255) c2254)), (9, (.int .i64 v2256))] ∧ SP [] w0 w [rdE eU8 A2241 c2242 v2243, rowT 59 (ePair (eInt .i64) (ePair eStr (ePair eStr (ePair (eInt .i64) eStr)))) A2245 c2246 v2247, boxE g16 56 #[(.slice A2241 (List.length v2243) c2242), (.int .i64 v2244), (.slice A2245 (List.length v2247) c2246)], rowT 63 (ePair eStr (ePair (eInt .i64) (ePair eStr (ePair eStr (eInt .i64))))) A2250 c2251 v2252, boxE g27 44 #[(.string ⟨List.toArray v2248⟩), (.int .i64 v2249), (.slice A2250 (List.length v2252) c2251)], rowT 9 eStr A2253 c2254 v2255] ∧ L_subwaylaw15_TicketPlays_l28 p2 z6 f41 v2243 v2244 v2247 v2248 v2249 v2252 v2255 v2256 = some r) (by rintro ρ w ⟨v2243, v2244, v2247, v2248, v2249, v2252, v2255, v2256, A2241, c2242, A2245, c2246, A2250, c2251, A2253, c2254, hk, hs, H⟩; cases H) ?_ fuel ?_
   ·rintro f41 ρ w2239 ⟨v2243, v2244, v2247, v2248, v2249, v2252, v2255, v2256, A2241, c2242, A2245, c2246, A2250, c2251, A2253, c2254, hk, hs2240, H⟩
    refine At.known [(1, (.slice A3 (List.length p2) c4)), (5, (.bool z6)), (6, (pt g16 0)), (7, (pt g27 0)), (8, (.slice A2253 (List.length v2255) c2254)), (9, (.int .i64 v2256))] hk ?_
    replace H := (show L_subwaylaw15_TicketPlays_b28 (L_subwaylaw15_TicketPlays_l28 p2 z6 f41) p2 z6 v2243 v2244 v2247 v2248 v2249 v2252 v2255 v2256 = some r from H)
    unfold L_subwaylaw15_TicketPlays_b28 at H
    refine At.sq K ?_
    refine At.sq K ?_
    refine At.region K K ?_
    refine In.run' 4 (k' := 4) rfl [(42, (.int .i64 v2256)), (43, (.slice A3 (List.length p2) c4)), (44, (.int .i64 ((List.length p2 : Nat) : Int))), (45, (.bool (decide (v2256 < ((List.length p2 : Nat) : Int)))))] K ?_
    refine In.fin K ?_
    refine At.cd K (o := (.tmp 45)) K (b := (decide (v2256 < ((List.length p2 : Nat) : Int)))) K (fun hb3345 => ?_) (fun hb3345 => ?_)
    ·have H := ct H hb3345
     refine At.skip K ?_
     refine At.sq K ?_
     refine At.bk K (id := 1) K ?_
     refine At.sq K ?_
     refine At.region K K ?_
     refine In.run' 2 (k' := 2) rfl [(48, (.slice A3 (List.length p2) c4)), (49, (.int .i64 v2256))] K ?_
     obtain ⟨x3346, hp3347, hq3348, hx3349, H⟩ := idx_elim H
     refine In.step (k' := 3) rfl K ?_
     refine Step.elem (e := (ePair (eInt .i64) (ePair (eInt .i64) (ePair eStr (ePair eStr (ePair (eInt .i64) (ePair eStr (ePair (eInt .i64) (ePair eStr eStr))))))))) (l := p2) (A := A3) (c := c4) (T := 22) (E := 33) (x := (.tmp 48)) (ix := (.tmp 49)) (ki := .i64) (iz := v2256) (d := (some 50)) (k := 2) K rfl K K K K (RdT.sp hr5 hs2240) hp3347 hq3348 ?_
     intro b3350 o3351 hA3353 hb3354 hc3352
     refine In.step (k' := 4) rfl K ?_
     refine Step.cells (t := 33) (x := (.tmp 50)) (b := b3350) (off := (o3351 + Int.toNat v2256 * (ePair (eInt .i64) (ePair (eInt .i64) (ePair eStr (ePair eStr (ePair (eInt .i64) (ePair eStr (ePair (eInt .i64) (ePair eStr eStr)))))))).sz)) (xs := [(.int .i64 x3346.1), (.int .i64 x3346.2.1), (.string ⟨List.toArray x3346.2.2.1⟩), (.string ⟨List.toArray x3346.2.2.2.1⟩), (.int .i64 x3346.2.2.2.2.1), (.string ⟨List.toArray x3346.2.2.2.2.2.1⟩), (.int .i64 x3346.2.2.2.2.2.2.1), (.string ⟨List.toArray x3346.2.2.2.2.2.2.2.1⟩), (.string ⟨List.toArray x3346.2.2.2.2.2.2.2.2⟩)]) (d := (some 51)) (k := 3) K rfl K K K (elem_cells0 (e := (ePair (eInt .i64) (ePair (eInt .i64) (ePair eStr (ePair eStr (ePair (eInt .i64) (ePair eStr (ePair (eInt .i64) (ePair eStr eStr))))))))) (rdt_cells (RdT.sp hr5 hs2240) hA3353 hp3347 hq3348) hx3349 rfl) ?_
     refine In.step (k' := 5) rfl K ?_
     refine Step.alloc (t := 33) (z := (.agg #[(.int .i64 0), (.int .i64 0), (.string ⟨List.toArray ([] : List UInt8)⟩), (.string ⟨List.toArray ([] : List UInt8)⟩), (.int .i64 0), (.string ⟨List.toArray ([] : List UInt8)⟩), (.int .i64 0), (.string ⟨List.toArray ([] : List UInt8)⟩), (.string ⟨List.toArray ([] : List UInt8)⟩)])) (d := (some 10)) (k := 4) K rfl K hs2240 ?_
     intro g3355 w3356 (hs3358 : SP [] w0 w3356 [rdE eU8 A2241 c2242 v2243, rowT 59 (ePair (eInt .i64) (ePair eStr (ePair eStr (ePair (eInt .i64) eStr)))) A2245 c2246 v2247, boxE g16 56 #[(.slice A2241 (List.length v2243) c2242), (.int .i64 v2244), (.slice A2245 (List.length v2247) c2246)], rowT 63 (ePair eStr (ePair (eInt .i64) (ePair eStr (ePair eStr (eInt .i64))))) A2250 c2251 v2252, boxE g27 44 #[(.string ⟨List.toArray v2248⟩), (.int .i64 v2249), (.slice A2250 (List.length v2252) c2251)], rowT 9 eStr A2253 c2254 v2255, boxE g3355 33 #[(.int .i64 0), (.int .i64 0), (.string ⟨List.toArray ([] : List UInt8)⟩), (.string ⟨List.toArray ([] : List UInt8)⟩), (.int .i64 0), (.string ⟨List.toArray ([] : List UInt8)⟩), (.int .i64 0), (.string ⟨List.toArray ([] : List UInt8)⟩), (.string ⟨List.toArray ([] : List UInt8)⟩)]])
     refine In.step (k' := 6) rfl K ?_
     refine Step.store (t := 33) (x := (.tmp 10)) (y := (.tmp 51)) (g := g3355) (off := 0) (i := 6) (v := (.agg #[(.int .i64 x3346.1), (.int .i64 x3346.2.1), (.string ⟨List.toArray x3346.2.2.1⟩), (.string ⟨List.toArray x3346.2.2.2.1⟩), (.int .i64 x3346.2.2.2.2.1), (.string ⟨List.toArray x3346.2.2.2.2.2.1⟩), (.int .i64 x3346.2.2.2.2.2.2.1), (.string ⟨List.toArray x3346.2.2.2.2.2.2.2.1⟩), (.string ⟨List.toArray x3346.2.2.2.2.2.2.2.2⟩)])) (cs' := #[(.int .i64 x3346.1), (.int .i64 x3346.2.1), (.string ⟨List.toArray x3346.2.2.1⟩), (.string ⟨List.toArray x3346.2.2.2.1⟩), (.int .i64 x3346.2.2.2.2.1), (.string ⟨List.toArray x3346.2.2.2.2.2.1⟩), (.int .i64 x3346.2.2.2.2.2.2.1), (.string ⟨List.toArray x3346.2.2.2.2.2.2.2.1⟩), (.string ⟨List.toArray x3346.2.2.2.2.2.2.2.2⟩)]) (d := none) (k := 5) K rfl K K hs3358 rfl K ?_
     intro w3359 (hs3361 : SP [] w0 w3359 [rdE eU8 A2241 c2242 v2243, rowT 59 (ePair (eInt .i64) (ePair eStr (ePair eStr (ePair (eInt .i64) eStr)))) A2245 c2246 v2247, boxE g16 56 #[(.slice A2241 (List.length v2243) c2242), (.int .i64 v2244), (.slice A2245 (List.length v2247) c2246)], rowT 63 (ePair eStr (ePair (eInt .i64) (ePair eStr (ePair eStr (eInt .i64))))) A2250 c2251 v2252, boxE g27 44 #[(.string ⟨List.toArray v2248⟩), (.int .i64 v2249), (.slice A2250 (List.length v2252) c2251)], rowT 9 eStr A2253 c2254 v2255, boxE g3355 33 #[(.int .i64 x3346.1), (.int .i64 x3346.2.1), (.string ⟨List.toArray x3346.2.2.1⟩), (.string ⟨List.toArray x3346.2.2.2.1⟩), (.int .i64 x3346.2.2.2.2.1), (.string ⟨List.toArray x3346.2.2.2.2.2.1⟩), (.int .i64 x3346.2.2.2.2.2.2.1), (.string ⟨List.toArray x3346.2.2.2.2.2.2.2.1⟩), (.string ⟨List.toArray x3346.2.2.2.2.2.2.2.2⟩)]])
     refine In.fin K ?_
     refine At.sq K ?_
     refine At.sq K ?_
     refine At.region K K ?_
     refine In.run' 1 (k' := 1) rfl [(52, (pt g3355 0))] K ?_
     refine In.step (k' := 2) rfl K ?_
     refine Step.load (t := 3) (x := (.tmp 52)) (g := g3355) (off := 0) (i := 6) (v := (.int .i64 x3346.1)) (d := (some 53)) (k := 1) K rfl K hs3361 rfl K ?_
     refine In.fin K ?_
     refine At.bk K (id := 2) K ?_
     refine At.sq K ?_
     refine At.region K K ?_
     refine In.run' 2 (k' := 2) rfl [(87, (.bool (x3346.1 == 2))), (86, (.bool (x3346.1 == 2)))] K ?_
     refine In.fin K ?_
     refine At.join (fun ρ w => ∃ (v3872 : (List UInt8)) (v3873 : Int) (v3876 : (List (Int × (List UInt8) × (List UInt8) × Int × (List UInt8)))) (v3877 : (List UInt8)) (v3878 : Int) (v3881 : (List ((List UInt8) × Int × (List UInt8) × (List UInt8) × Int))) (v3884 : (List (List UInt8))) (A3870 : Option Addr) (c3871 : Nat) (A3874 : Option Addr) (c3875 : Nat) (A3879 : Option Addr) (c3880 : Nat) (A3882 : Option Addr) (c3883 : Nat), Known ρ [(1, (.slice A3 (List.length p2) c4)), (5, (.bool z6)), (6, (pt g16 0)), (7, (pt g27 0)), (8, (.slice A3882 (List.length v3884) c3883)), (9, (.int .i64 v2256))] ∧ SP [] w0 w [rdE eU8 A3870 c3871 v3872, rowT 59 (ePair (eInt .i64) (ePair eStr (ePair eStr (ePair (eInt .i64) eStr)))) A3874 c3875 v3876, boxE g16 56 #[(.slice A3870 (List.length v3872) c3871), (.int .i64 v3873), (.slice A3874 (List.length v3876) c3875)], rowT 63 (ePair eStr (ePair (eInt .i64) (ePair eStr (ePair eStr (eInt .i64))))) A3879 c3880 v3881, boxE g27 44 #[(.string ⟨List.toArray v3877⟩), (.int .i64 v3878), (.slice A3879 (List.length v3881) c3880)], rowT 9 eStr A3882 c3883 v3884] ∧ L_subwaylaw15_TicketPlays_k48 (L_subwaylaw15_TicketPlays_l28 p2 z6 f41) v2256 v3872 v3873 v3876 v3877 v3878 v3881 v3884 = some r) ?_ ?_
     ·refine At.cd K (o := (.tmp 86)) K (b := (x3346.1 == 2)) K (fun hb3925 => ?_) (fun hb3925 => ?_)
      ·have H := ct H hb3925
       refine At.sq K ?_
       obtain ⟨z3926, hz3927, H⟩ := bind_elim H
       obtain ⟨z3932, hz3933, H⟩ := bind_elim H
       refine At.stages K K K K K [GEq (pt g16 0), GEq (.agg #[(.int .i64 x3346.1), (.int .i64 x3346.2.1), (.string ⟨List.toArray x3346.2.2.1⟩), (.string ⟨List.toArray x3346.2.2.2.1⟩), (.int .i64 x3346.2.2.2.2.1), (.string ⟨List.toArray x3346.2.2.2.2.2.1⟩), (.int .i64 x3346.2.2.2.2.2.2.1), (.string ⟨List.toArray x3346.2.2.2.2.2.2.2.1⟩), (.string ⟨List.toArray x3346.2.2.2.2.2.2.2.2⟩)]), GEq (.slice A2253 (List.length v2255) c2254), GEq (.string ⟨List.toArray z3926⟩), GEq (pt g3355 8), GEq (.string ⟨List.toArray x3346.2.2.2.2.2.2.2.2⟩), GEq (.tuple #[(.agg #[(.int .i64 z3932.1), (.string ⟨List.toArray z3932.2.1⟩), (.string ⟨List.toArray z3932.2.2.1⟩), (.int .i64 z3932.2.2.2.1)]), (.int .i64 z3932.2.2.2.2.1)]), GEq (.tuple #[(.agg #[(.int .i64 z3932.1), (.string ⟨List.toArray z3932.2.1⟩), (.string ⟨List.toArray z3932.2.2.1⟩), (.int .i64 z3932.2.2.2.1)]), (.int .i64 z3932.2.2.2.2.1)]), GEq (.agg #[(.int .i64 z3932.1), (.string ⟨List.toArray z3932.2.1⟩), (.string ⟨List.toArray z3932.2.2.1⟩), (.int .i64 z3932.2.2.2.1)]), GEq (.int .i64 z3932.2.2.2.2.1), GAny, GAny, GEq (.int .i64 z3932.2.2.2.2.1)] [3, 6, 10, 11] [([], fun vs w => VL vs [] ∧ SP [] w0 w [rdE eU8 A2241 c2242 v2243, rowT 59 (ePair (eInt .i64) (ePair eStr (ePair eStr (ePair (eInt .i64) eStr)))) A2245 c2246 v2247, boxE g16 56 #[(.slice A2241 (List.length v2243) c2242), (.int .i64 v2244), (.slice A2245 (List.length v2247) c2246)], rowT 63 (ePair eStr (ePair (eInt .i64) (ePair eStr (ePair eStr (eInt .i64))))) A2250 c2251 v2252, boxE g27 44 #[(.string ⟨List.toArray v2248⟩), (.int .i64 v2249), (.slice A2250 (List.length v2252) c2251)], rowT 9 eStr A2253 c2254 v2255, boxE g3355 33 #[(.int .i64 x3346.1), (.int .i64 x3346.2.1), (.string ⟨List.toArray x3346.2.2.1⟩), (.string ⟨List.toArray x3346.2.2.2.1⟩), (.int .i64 x3346.2.2.2.2.1), (.string ⟨List.toArray x3346.2.2.2.2.2.1⟩), (.int .i64 x3346.2.2.2.2.2.2.1), (.string ⟨List.toArray x3346.2.2.2.2.2.2.2.1⟩), (.string ⟨List.toArray x3346.2.2.2.2.2.2.2.2⟩)]]), ([3], fun vs w => VL vs [(.string ⟨List.toArray z3926⟩)] ∧ SP [] w0 w [rdE eU8 A2241 c2242 v2243, rowT 59 (ePair (eInt .i64) (ePair eStr (ePair eStr (ePair (eInt .i64) eStr)))) A2245 c2246 v2247, boxE g16 56 #[(.slice A2241 (List.length v2243) c2242), (.int .i64 v2244), (.slice A2245 (List.length v2247) c2246)], rowT 63 (ePair eStr (ePair (eInt .i64) (ePair eStr (ePair eStr (eInt .i64))))) A2250 c2251 v2252, boxE g27 44 #[(.string ⟨List.toArray v2248⟩), (.int .i64 v2249), (.slice A2250 (List.length v2252) c2251)], rowT 9 eStr A2253 c2254 v2255, boxE g3355 33 #[(.int .i64 x3346.1), (.int .i64 x3346.2.1), (.string ⟨List.toArray x3346.2.2.1⟩), (.string ⟨List.toArray x3346.2.2.2.1⟩), (.int .i64 x3346.2.2.2.2.1), (.string ⟨List.toArray x3346.2.2.2.2.2.1⟩), (.int .i64 x3346.2.2.2.2.2.2.1), (.string ⟨List.toArray x3346.2.2.2.2.2.2.2.1⟩), (.string ⟨List.toArray x3346.2.2.2.2.2.2.2.2⟩)]]), ([10], fun vs w => ∃ (g3953 : Nat), VL vs [(pt g3953 0)] ∧ SP [] w0 w [rdE eU8 A2241 c2242 v2243, rowT 59 (ePair (eInt .i64) (ePair eStr (ePair eStr (ePair (eInt .i64) eStr)))) A2245 c2246 v2247, boxE g16 56 #[(.slice A2241 (List.length v2243) c2242), (.int .i64 v2244), (.slice A2245 (List.length v2247) c2246)], rowT 63 (ePair eStr (ePair (eInt .i64) (ePair eStr (ePair eStr (eInt .i64))))) A2250 c2251 v2252, boxE g27 44 #[(.string ⟨List.toArray v2248⟩), (.int .i64 v2249), (.slice A2250 (List.length v2252) c2251)], rowT 9 eStr A2253 c2254 v2255, boxE g3355 33 #[(.int .i64 x3346.1), (.int .i64 x3346.2.1), (.string ⟨List.toArray x3346.2.2.1⟩), (.string ⟨List.toArray x3346.2.2.2.1⟩), (.int .i64 x3346.2.2.2.2.1), (.string ⟨List.toArray x3346.2.2.2.2.2.1⟩), (.int .i64 x3346.2.2.2.2.2.2.1), (.string ⟨List.toArray x3346.2.2.2.2.2.2.2.1⟩), (.string ⟨List.toArray x3346.2.2.2.2.2.2.2.2⟩)], boxE g3953 31 #[(.int .i64 0), (.string ⟨List.toArray ([] : List UInt8)⟩), (.string ⟨List.toArray ([] : List UInt8)⟩), (.int .i64 0)]]), ([3, 6], fun vs w => ∃ (A3963 : Option Addr), ∃ (c3964 : Nat), ∃ (A3965 : Option Addr), ∃ (c3966 : Nat), VL vs [(.string ⟨List.toArray z3926⟩), (.tuple #[(.agg #[(.int .i64 z3932.1), (.string ⟨List.toArray z3932.2.1⟩), (.string ⟨List.toArray z3932.2.2.1⟩), (.int .i64 z3932.2.2.2.1)]), (.int .i64 z3932.2.2.2.2.1)])] ∧ SP [] w0 w [rowT 63 (ePair eStr (ePair (eInt .i64) (ePair eStr (ePair eStr (eInt .i64))))) A2250 c2251 v2252, boxE g27 44 #[(.string ⟨List.toArray v2248⟩), (.int .i64 v2249), (.slice A2250 (List.length v2252) c2251)], rowT 9 eStr A2253 c2254 v2255, boxE g3355 33 #[(.int .i64 x3346.1), (.int .i64 x3346.2.1), (.string ⟨List.toArray x3346.2.2.1⟩), (.string ⟨List.toArray x3346.2.2.2.1⟩), (.int .i64 x3346.2.2.2.2.1), (.string ⟨List.toArray x3346.2.2.2.2.2.1⟩), (.int .i64 x3346.2.2.2.2.2.2.1), (.string ⟨List.toArray x3346.2.2.2.2.2.2.2.1⟩), (.string ⟨List.toArray x3346.2.2.2.2.2.2.2.2⟩)], boxE g16 56 #[(.slice A3963 (List.length z3932.2.2.2.2.2.1) c3964), (.int .i64 z3932.2.2.2.2.2.2.1), (.slice A3965 (List.length z3932.2.2.2.2.2.2.2) c3966)], rdE eU8 A3963 c3964 z3932.2.2.2.2.2.1, rowT 59 (ePair (eInt .i64) (ePair eStr (ePair eStr (ePair (eInt .i64) eStr)))) A3965 c3966 z3932.2.2.2.2.2.2.2]), ([3, 10], fun vs w => ∃ (g3973 : Nat), VL vs [(.string ⟨List.toArray z3926⟩), (pt g3973 0)] ∧ SP [] w0 w [rdE eU8 A2241 c2242 v2243, rowT 59 (ePair (eInt .i64) (ePair eStr (ePair eStr (ePair (eInt .i64) eStr)))) A2245 c2246 v2247, boxE g16 56 #[(.slice A2241 (List.length v2243) c2242), (.int .i64 v2244), (.slice A2245 (List.length v2247) c2246)], rowT 63 (ePair eStr (ePair (eInt .i64) (ePair eStr (ePair eStr (eInt .i64))))) A2250 c2251 v2252, boxE g27 44 #[(.string ⟨List.toArray v2248⟩), (.int .i64 v2249), (.slice A2250 (List.length v2252) c2251)], rowT 9 eStr A2253 c2254 v2255, boxE g3355 33 #[(.int .i64 x3346.1), (.int .i64 x3346.2.1), (.string ⟨List.toArray x3346.2.2.1⟩), (.string ⟨List.toArray x3346.2.2.2.1⟩), (.int .i64 x3346.2.2.2.2.1), (.string ⟨List.toArray x3346.2.2.2.2.2.1⟩), (.int .i64 x3346.2.2.2.2.2.2.1), (.string ⟨List.toArray x3346.2.2.2.2.2.2.2.1⟩), (.string ⟨List.toArray x3346.2.2.2.2.2.2.2.2⟩)], boxE g3973 31 #[(.int .i64 0), (.string ⟨List.toArray ([] : List UInt8)⟩), (.string ⟨List.toArray ([] : List UInt8)⟩), (.int .i64 0)]]), ([3, 6, 10], fun vs w => ∃ (g3989 : Nat), ∃ (A3983 : Option Addr), ∃ (c3984 : Nat), ∃ (A3985 : Option Addr), ∃ (c3986 : Nat), VL vs [(.string ⟨List.toArray z3926⟩), (.tuple #[(.agg #[(.int .i64 z3932.1), (.string ⟨List.toArray z3932.2.1⟩), (.string ⟨List.toArray z3932.2.2.1⟩), (.int .i64 z3932.2.2.2.1)]), (.int .i64 z3932.2.2.2.2.1)]), (pt g3989 0)] ∧ SP [] w0 w [rowT 63 (ePair eStr (ePair (eInt .i64) (ePair eStr (ePair eStr (eInt .i64))))) A2250 c2251 v2252, boxE g27 44 #[(.string ⟨List.toArray v2248⟩), (.int .i64 v2249), (.slice A2250 (List.length v2252) c2251)], rowT 9 eStr A2253 c2254 v2255, boxE g3355 33 #[(.int .i64 x3346.1), (.int .i64 x3346.2.1), (.string ⟨List.toArray x3346.2.2.1⟩), (.string ⟨List.toArray x3346.2.2.2.1⟩), (.int .i64 x3346.2.2.2.2.1), (.string ⟨List.toArray x3346.2.2.2.2.2.1⟩), (.int .i64 x3346.2.2.2.2.2.2.1), (.string ⟨List.toArray x3346.2.2.2.2.2.2.2.1⟩), (.string ⟨List.toArray x3346.2.2.2.2.2.2.2.2⟩)], boxE g16 56 #[(.slice A3983 (List.length z3932.2.2.2.2.2.1) c3984), (.int .i64 z3932.2.2.2.2.2.2.1), (.slice A3985 (List.length z3932.2.2.2.2.2.2.2) c3986)], rdE eU8 A3983 c3984 z3932.2.2.2.2.2.1, rowT 59 (ePair (eInt .i64) (ePair eStr (ePair eStr (ePair (eInt .i64) eStr)))) A3985 c3986 z3932.2.2.2.2.2.2.2, boxE g3989 31 #[(.int .i64 0), (.string ⟨List.toArray ([] : List UInt8)⟩), (.string ⟨List.toArray ([] : List UInt8)⟩), (.int .i64 0)]]), ([3, 6, 10, 11], fun vs w => ∃ (g4005 : Nat), ∃ (A3999 : Option Addr), ∃ (c4000 : Nat), ∃ (A4001 : Option Addr), ∃ (c4002 : Nat), VL vs [(.string ⟨List.toArray z3926⟩), (.tuple #[(.agg #[(.int .i64 z3932.1), (.string ⟨List.toArray z3932.2.1⟩), (.string ⟨List.toArray z3932.2.2.1⟩), (.int .i64 z3932.2.2.2.1)]), (.int .i64 z3932.2.2.2.2.1)]), (pt g4005 0), undef] ∧ SP [] w0 w [rowT 63 (ePair eStr (ePair (eInt .i64) (ePair eStr (ePair eStr (eInt .i64))))) A2250 c2251 v2252, boxE g27 44 #[(.string ⟨List.toArray v2248⟩), (.int .i64 v2249), (.slice A2250 (List.length v2252) c2251)], rowT 9 eStr A2253 c2254 v2255, boxE g3355 33 #[(.int .i64 x3346.1), (.int .i64 x3346.2.1), (.string ⟨List.toArray x3346.2.2.1⟩), (.string ⟨List.toArray x3346.2.2.2.1⟩), (.int .i64 x3346.2.2.2.2.1), (.string ⟨List.toArray x3346.2.2.2.2.2.1⟩), (.int .i64 x3346.2.2.2.2.2.2.1), (.string ⟨List.toArray x3346.2.2.2.2.2.2.2.1⟩), (.string ⟨List.toArray x3346.2.2.2.2.2.2.2.2⟩)], boxE g16 56 #[(.slice A3999 (List.length z3932.2.2.2.2.2.1) c4000), (.int .i64 z3932.2.2.2.2.2.2.1), (.slice A4001 (List.length z3932.2.2.2.2.2.2.2) c4002)], rdE eU8 A3999 c4000 z3932.2.2.2.2.2.1, rowT 59 (ePair (eInt .i64) (ePair eStr (ePair eStr (ePair (eInt .i64) eStr)))) A4001 c4002 z3932.2.2.2.2.2.2.2, boxE g4005 31 #[(.int .i64 z3932.1), (.string ⟨List.toArray z3932.2.1⟩), (.string ⟨List.toArray z3932.2.2.1⟩), (.int .i64 z3932.2.2.2.1)]])] (N := 13) K ⟨K, Nat.zero_lt_succ _⟩ (show VL [] [] ∧ SP [] w0 w3359.drew [rdE eU8 A2241 c2242 v2243, rowT 59 (ePair (eInt .i64) (ePair eStr (ePair eStr (ePair (eInt .i64) eStr)))) A2245 c2246 v2247, boxE g16 56 #[(.slice A2241 (List.length v2243) c2242), (.int .i64 v2244), (.slice A2245 (List.length v2247) c2246)], rowT 63 (ePair eStr (ePair (eInt .i64) (ePair eStr (ePair eStr (eInt .i64))))) A2250 c2251 v2252, boxE g27 44 #[(.string ⟨List.toArray v2248⟩), (.int .i64 v2249), (.slice A2250 (List.length v2252) c2251)], rowT 9 eStr A2253 c2254 v2255, boxE g3355 33 #[(.int .i64 x3346.1), (.int .i64 x3346.2.1), (.string ⟨List.toArray x3346.2.2.1⟩), (.string ⟨List.toArray x3346.2.2.2.1⟩), (.int .i64 x3346.2.2.2.2.1), (.string ⟨List.toArray x3346.2.2.2.2.2.1⟩), (.int .i64 x3346.2.2.2.2.2.2.1), (.string ⟨List.toArray x3346.2.2.2.2.2.2.2.1⟩), (.string ⟨List.toArray x3346.2.2.2.2.2.2.2.2⟩)]] from ⟨trivial, SP.drew hs3361⟩) ⟨⟨⟨⟨⟨⟨⟨⟨⟨⟨⟨⟨⟨trivial, ?_⟩, ?_⟩, ?_⟩, ?_⟩, ?_⟩, ?_⟩, ?_⟩, ?_⟩, ?_⟩, ?_⟩, ?_⟩, ?_⟩, ?_⟩ (last := 6) K ?_
       ·exact Owe.run K [(6, (pt g16 0))] ⟨gS K K, trivial⟩ (pt g16 0) (fun _ _ => K) rfl
       ·refine Owe.light K [0, 2] K (all_cons ?_ (all_cons ?_ all_nil))
        ·rintro ρ' w' hs hah ⟨hvl4013, hs4012⟩
         have hkn : Known ρ' [(10, (pt g3355 0))] := ⟨(hs 10 K).trans K, trivial⟩
         refine Step.known _ hkn ?_
         refine Step.load (t := 33) (x := (.tmp 10)) (g := g3355) (off := 0) (i := 6) (v := (.agg #[(.int .i64 x3346.1), (.int .i64 x3346.2.1), (.string ⟨List.toArray x3346.2.2.1⟩), (.string ⟨List.toArray x3346.2.2.2.1⟩), (.int .i64 x3346.2.2.2.2.1), (.string ⟨List.toArray x3346.2.2.2.2.2.1⟩), (.int .i64 x3346.2.2.2.2.2.2.1), (.string ⟨List.toArray x3346.2.2.2.2.2.2.2.1⟩), (.string ⟨List.toArray x3346.2.2.2.2.2.2.2.2⟩)])) (d := (some 90)) (k := 1) K rfl K hs4012 rfl K ?_
         exact ⟨rfl, _, updO_known hkn, rfl⟩
        ·rintro ρ' w' hs hah ⟨g3953, ⟨q4015, -⟩, hs4014⟩
         have hkn : Known ρ' [(10, (pt g3355 0))] := ⟨(hs 10 K).trans K, trivial⟩
         refine Step.known _ hkn ?_
         refine Step.load (t := 33) (x := (.tmp 10)) (g := g3355) (off := 0) (i := 6) (v := (.agg #[(.int .i64 x3346.1), (.int .i64 x3346.2.1), (.string ⟨List.toArray x3346.2.2.1⟩), (.string ⟨List.toArray x3346.2.2.2.1⟩), (.int .i64 x3346.2.2.2.2.1), (.string ⟨List.toArray x3346.2.2.2.2.2.1⟩), (.int .i64 x3346.2.2.2.2.2.2.1), (.string ⟨List.toArray x3346.2.2.2.2.2.2.2.1⟩), (.string ⟨List.toArray x3346.2.2.2.2.2.2.2.2⟩)])) (d := (some 90)) (k := 1) K rfl K hs4014 rfl K ?_
         exact ⟨rfl, _, updO_known hkn, rfl⟩
       ·exact Owe.run K [(8, (.slice A2253 (List.length v2255) c2254))] ⟨gS K K, trivial⟩ (.slice A2253 (List.length v2255) c2254) (fun _ _ => K) rfl
       ·refine Owe.heavy K [(0, 1), (2, 4)] K (all_cons ⟨K, K, ?_⟩ (all_cons ⟨K, K, ?_⟩ all_nil))
        ·rintro ρ' w' hs hah ⟨hvl4018, hs4017⟩
         have hkn : Known ρ' [(90, (.agg #[(.int .i64 x3346.1), (.int .i64 x3346.2.1), (.string ⟨List.toArray x3346.2.2.1⟩), (.string ⟨List.toArray x3346.2.2.2.1⟩), (.int .i64 x3346.2.2.2.2.1), (.string ⟨List.toArray x3346.2.2.2.2.2.1⟩), (.int .i64 x3346.2.2.2.2.2.2.1), (.string ⟨List.toArray x3346.2.2.2.2.2.2.2.1⟩), (.string ⟨List.toArray x3346.2.2.2.2.2.2.2.2⟩)])), (91, (.slice A2253 (List.length v2255) c2254))] := ⟨hah 1 90 K, hah 2 91 K, trivial⟩
         refine Step.known _ hkn ?_
         refine Step.callF (f := 14) (fo := (.func 14)) (xs := #[(.tmp 90), (.tmp 91)]) (tys := #[33, 29]) (first := #[]) (captured := #[]) (d := (some 92)) (k := 3) K rfl K K Tryd.call14 (L_subwaylaw15_shown_walk A2253 c2254 x3346.1 x3346.2.1 x3346.2.2.1 x3346.2.2.2.1 x3346.2.2.2.2.1 x3346.2.2.2.2.2.1 x3346.2.2.2.2.2.2.1 x3346.2.2.2.2.2.2.2.1 x3346.2.2.2.2.2.2.2.2 v2255 w' (rowT_rd (SP.get hs4017 (i := 5) rfl)) z3926 hz3927) ?_
         rintro e w4019 ⟨rfl, hs4020⟩
         refine ⟨_, rfl, ?_⟩
         have hs4022 : SP [] w0 w4019 [rdE eU8 A2241 c2242 v2243, rowT 59 (ePair (eInt .i64) (ePair eStr (ePair eStr (ePair (eInt .i64) eStr)))) A2245 c2246 v2247, boxE g16 56 #[(.slice A2241 (List.length v2243) c2242), (.int .i64 v2244), (.slice A2245 (List.length v2247) c2246)], rowT 63 (ePair eStr (ePair (eInt .i64) (ePair eStr (ePair eStr (eInt .i64))))) A2250 c2251 v2252, boxE g27 44 #[(.string ⟨List.toArray v2248⟩), (.int .i64 v2249), (.slice A2250 (List.length v2252) c2251)], rowT 9 eStr A2253 c2254 v2255, boxE g3355 33 #[(.int .i64 x3346.1), (.int .i64 x3346.2.1), (.string ⟨List.toArray x3346.2.2.1⟩), (.string ⟨List.toArray x3346.2.2.2.1⟩), (.int .i64 x3346.2.2.2.2.1), (.string ⟨List.toArray x3346.2.2.2.2.2.1⟩), (.int .i64 x3346.2.2.2.2.2.2.1), (.string ⟨List.toArray x3346.2.2.2.2.2.2.2.1⟩), (.string ⟨List.toArray x3346.2.2.2.2.2.2.2.2⟩)]] := SP.call hs4017 hs4020
         clear hs4020
         refine ⟨_, updO_known hkn, rfl, ?_⟩
         exact (And.intro (And.intro rfl (trivial)) (hs4022))
        ·rintro ρ' w' hs hah ⟨g3953, ⟨q4024, -⟩, hs4023⟩
         have hkn : Known ρ' [(90, (.agg #[(.int .i64 x3346.1), (.int .i64 x3346.2.1), (.string ⟨List.toArray x3346.2.2.1⟩), (.string ⟨List.toArray x3346.2.2.2.1⟩), (.int .i64 x3346.2.2.2.2.1), (.string ⟨List.toArray x3346.2.2.2.2.2.1⟩), (.int .i64 x3346.2.2.2.2.2.2.1), (.string ⟨List.toArray x3346.2.2.2.2.2.2.2.1⟩), (.string ⟨List.toArray x3346.2.2.2.2.2.2.2.2⟩)])), (91, (.slice A2253 (List.length v2255) c2254))] := ⟨hah 1 90 K, hah 2 91 K, trivial⟩
         refine Step.known _ hkn ?_
         refine Step.callF (f := 14) (fo := (.func 14)) (xs := #[(.tmp 90), (.tmp 91)]) (tys := #[33, 29]) (first := #[]) (captured := #[]) (d := (some 92)) (k := 3) K rfl K K Tryd.call14 (L_subwaylaw15_shown_walk A2253 c2254 x3346.1 x3346.2.1 x3346.2.2.1 x3346.2.2.2.1 x3346.2.2.2.2.1 x3346.2.2.2.2.2.1 x3346.2.2.2.2.2.2.1 x3346.2.2.2.2.2.2.2.1 x3346.2.2.2.2.2.2.2.2 v2255 w' (rowT_rd (SP.get hs4023 (i := 5) rfl)) z3926 hz3927) ?_
         rintro e w4026 ⟨rfl, hs4027⟩
         refine ⟨_, rfl, ?_⟩
         have hs4029 : SP [] w0 w4026 [rdE eU8 A2241 c2242 v2243, rowT 59 (ePair (eInt .i64) (ePair eStr (ePair eStr (ePair (eInt .i64) eStr)))) A2245 c2246 v2247, boxE g16 56 #[(.slice A2241 (List.length v2243) c2242), (.int .i64 v2244), (.slice A2245 (List.length v2247) c2246)], rowT 63 (ePair eStr (ePair (eInt .i64) (ePair eStr (ePair eStr (eInt .i64))))) A2250 c2251 v2252, boxE g27 44 #[(.string ⟨List.toArray v2248⟩), (.int .i64 v2249), (.slice A2250 (List.length v2252) c2251)], rowT 9 eStr A2253 c2254 v2255, boxE g3355 33 #[(.int .i64 x3346.1), (.int .i64 x3346.2.1), (.string ⟨List.toArray x3346.2.2.1⟩), (.string ⟨List.toArray x3346.2.2.2.1⟩), (.int .i64 x3346.2.2.2.2.1), (.string ⟨List.toArray x3346.2.2.2.2.2.1⟩), (.int .i64 x3346.2.2.2.2.2.2.1), (.string ⟨List.toArray x3346.2.2.2.2.2.2.2.1⟩), (.string ⟨List.toArray x3346.2.2.2.2.2.2.2.2⟩)], boxE g3953 31 #[(.int .i64 0), (.string ⟨List.toArray ([] : List UInt8)⟩), (.string ⟨List.toArray ([] : List UInt8)⟩), (.int .i64 0)]] := SP.call hs4023 hs4027
         clear hs4027
         refine ⟨_, updO_known hkn, rfl, ?_⟩
         exact (Exists.intro g3953 (And.intro (And.intro rfl (And.intro q4024 (trivial))) (hs4029)))
       ·exact Owe.run K [(10, (pt g3355 0))] ⟨gS K K, trivial⟩ (pt g3355 8) (fun _ _ => K) rfl
       ·refine Owe.light K [0, 1, 2, 4] K (all_cons ?_ (all_cons ?_ (all_cons ?_ (all_cons ?_ all_nil))))
        ·rintro ρ' w' hs hah ⟨hvl4031, hs4030⟩
         have hkn : Known ρ' [(93, (pt g3355 8))] := ⟨hah 4 93 K, trivial⟩
         refine Step.known _ hkn ?_
         refine Step.load (t := 9) (x := (.tmp 93)) (g := g3355) (off := 8) (i := 6) (v := (.string ⟨List.toArray x3346.2.2.2.2.2.2.2.2⟩)) (d := (some 94)) (k := 5) K rfl K hs4030 rfl K ?_
         exact ⟨rfl, _, updO_known hkn, rfl⟩
        ·rintro ρ' w' hs hah ⟨⟨q4033, -⟩, hs4032⟩
         have hkn : Known ρ' [(93, (pt g3355 8))] := ⟨hah 4 93 K, trivial⟩
         refine Step.known _ hkn ?_
         refine Step.load (t := 9) (x := (.tmp 93)) (g := g3355) (off := 8) (i := 6) (v := (.string ⟨List.toArray x3346.2.2.2.2.2.2.2.2⟩)) (d := (some 94)) (k := 5) K rfl K hs4032 rfl K ?_
         exact ⟨rfl, _, updO_known hkn, rfl⟩
        ·rintro ρ' w' hs hah ⟨g3953, ⟨q4036, -⟩, hs4035⟩
         have hkn : Known ρ' [(93, (pt g3355 8))] := ⟨hah 4 93 K, trivial⟩
         refine Step.known _ hkn ?_
         refine Step.load (t := 9) (x := (.tmp 93)) (g := g3355) (off := 8) (i := 6) (v := (.string ⟨List.toArray x3346.2.2.2.2.2.2.2.2⟩)) (d := (some 94)) (k := 5) K rfl K hs4035 rfl K ?_
         exact ⟨rfl, _, updO_known hkn, rfl⟩
        ·rintro ρ' w' hs hah ⟨g3973, ⟨q4039, q4040, -⟩, hs4038⟩
         have hkn : Known ρ' [(93, (pt g3355 8))] := ⟨hah 4 93 K, trivial⟩
         refine Step.known _ hkn ?_
         refine Step.load (t := 9) (x := (.tmp 93)) (g := g3355) (off := 8) (i := 6) (v := (.string ⟨List.toArray x3346.2.2.2.2.2.2.2.2⟩)) (d := (some 94)) (k := 5) K rfl K hs4038 rfl K ?_
         exact ⟨rfl, _, updO_known hkn, rfl⟩
       ·refine Owe.heavy K [(1, 3), (4, 5)] K (all_cons ⟨K, K, ?_⟩ (all_cons ⟨K, K, ?_⟩ all_nil))
        ·rintro ρ' w' hs hah ⟨⟨q4043, -⟩, hs4042⟩
         have hkn : Known ρ' [(89, (pt g16 0)), (92, (.string ⟨List.toArray z3926⟩)), (94, (.string ⟨List.toArray x3346.2.2.2.2.2.2.2.2⟩))] := ⟨hah 0 89 K, (valF_eq (h := 3) K).symm.trans q4043, hah 5 94 K, trivial⟩
         refine Step.known _ hkn ?_
         refine Step.callF (f := 13) (fo := (.func 13)) (xs := #[(.tmp 89), (.tmp 92), (.tmp 94)]) (tys := #[24, 9, 9]) (first := #[]) (captured := #[]) (d := (some 95)) (k := 6) K rfl K K Tryd.call13 (L_ticket_Book_Redeem_walk g16 A2241 c2242 A2245 c2246 v2243 v2244 v2247 z3926 x3346.2.2.2.2.2.2.2.2 w' (SP.sub hs4042 [2, 0, 1] rfl rfl) z3932 hz3933) ?_
         rintro e w4045 ⟨A4047, c4048, A4049, c4050, rfl, hs4046⟩
         refine ⟨_, rfl, ?_⟩
         have hs4052 : SP [] w0 w4045 [rowT 63 (ePair eStr (ePair (eInt .i64) (ePair eStr (ePair eStr (eInt .i64))))) A2250 c2251 v2252, boxE g27 44 #[(.string ⟨List.toArray v2248⟩), (.int .i64 v2249), (.slice A2250 (List.length v2252) c2251)], rowT 9 eStr A2253 c2254 v2255, boxE g3355 33 #[(.int .i64 x3346.1), (.int .i64 x3346.2.1), (.string ⟨List.toArray x3346.2.2.1⟩), (.string ⟨List.toArray x3346.2.2.2.1⟩), (.int .i64 x3346.2.2.2.2.1), (.string ⟨List.toArray x3346.2.2.2.2.2.1⟩), (.int .i64 x3346.2.2.2.2.2.2.1), (.string ⟨List.toArray x3346.2.2.2.2.2.2.2.1⟩), (.string ⟨List.toArray x3346.2.2.2.2.2.2.2.2⟩)], boxE g16 56 #[(.slice A4047 (List.length z3932.2.2.2.2.2.1) c4048), (.int .i64 z3932.2.2.2.2.2.2.1), (.slice A4049 (List.length z3932.2.2.2.2.2.2.2) c4050)], rdE eU8 A4047 c4048 z3932.2.2.2.2.2.1, rowT 59 (ePair (eInt .i64) (ePair eStr (ePair eStr (ePair (eInt .i64) eStr)))) A4049 c4050 z3932.2.2.2.2.2.2.2] := SP.callS hs4042 [2, 0, 1] [3, 4, 5, 6] rfl rfl hs4046 rfl
         clear hs4046
         refine ⟨_, updO_known hkn, rfl, ?_⟩
         exact (Exists.intro A4047 (Exists.intro c4048 (Exists.intro A4049 (Exists.intro c4050 (And.intro (And.intro q4043 (And.intro rfl (trivial))) (hs4052))))))
        ·rintro ρ' w' hs hah ⟨g3973, ⟨q4054, q4055, -⟩, hs4053⟩
         have hkn : Known ρ' [(89, (pt g16 0)), (92, (.string ⟨List.toArray z3926⟩)), (94, (.string ⟨List.toArray x3346.2.2.2.2.2.2.2.2⟩))] := ⟨hah 0 89 K, (valF_eq (h := 3) K).symm.trans q4054, hah 5 94 K, trivial⟩
         refine Step.known _ hkn ?_
         refine Step.callF (f := 13) (fo := (.func 13)) (xs := #[(.tmp 89), (.tmp 92), (.tmp 94)]) (tys := #[24, 9, 9]) (first := #[]) (captured := #[]) (d := (some 95)) (k := 6) K rfl K K Tryd.call13 (L_ticket_Book_Redeem_walk g16 A2241 c2242 A2245 c2246 v2243 v2244 v2247 z3926 x3346.2.2.2.2.2.2.2.2 w' (SP.sub hs4053 [2, 0, 1] rfl rfl) z3932 hz3933) ?_
         rintro e w4057 ⟨A4059, c4060, A4061, c4062, rfl, hs4058⟩
         refine ⟨_, rfl, ?_⟩
         have hs4064 : SP [] w0 w4057 [rowT 63 (ePair eStr (ePair (eInt .i64) (ePair eStr (ePair eStr (eInt .i64))))) A2250 c2251 v2252, boxE g27 44 #[(.string ⟨List.toArray v2248⟩), (.int .i64 v2249), (.slice A2250 (List.length v2252) c2251)], rowT 9 eStr A2253 c2254 v2255, boxE g3355 33 #[(.int .i64 x3346.1), (.int .i64 x3346.2.1), (.string ⟨List.toArray x3346.2.2.1⟩), (.string ⟨List.toArray x3346.2.2.2.1⟩), (.int .i64 x3346.2.2.2.2.1), (.string ⟨List.toArray x3346.2.2.2.2.2.1⟩), (.int .i64 x3346.2.2.2.2.2.2.1), (.string ⟨List.toArray x3346.2.2.2.2.2.2.2.1⟩), (.string ⟨List.toArray x3346.2.2.2.2.2.2.2.2⟩)], boxE g3973 31 #[(.int .i64 0), (.string ⟨List.toArray ([] : List UInt8)⟩), (.string ⟨List.toArray ([] : List UInt8)⟩), (.int .i64 0)], boxE g16 56 #[(.slice A4059 (List.length z3932.2.2.2.2.2.1) c4060), (.int .i64 z3932.2.2.2.2.2.2.1), (.slice A4061 (List.length z3932.2.2.2.2.2.2.2) c4062)], rdE eU8 A4059 c4060 z3932.2.2.2.2.2.1, rowT 59 (ePair (eInt .i64) (ePair eStr (ePair eStr (ePair (eInt .i64) eStr)))) A4061 c4062 z3932.2.2.2.2.2.2.2] := SP.callS hs4053 [2, 0, 1] [3, 4, 5, 6, 7] rfl rfl hs4058 rfl
         clear hs4058
         refine ⟨_, updO_known hkn, rfl, ?_⟩
         exact (Exists.intro g3973 (Exists.intro A4059 (Exists.intro c4060 (Exists.intro A4061 (Exists.intro c4062 (And.intro (And.intro q4054 (And.intro rfl (And.intro q4055 (trivial)))) (SP.sel hs4064 [0, 1, 2, 3, 5, 6, 7, 4] rfl rfl)))))))
       ·exact Owe.run K [(95, (.tuple #[(.agg #[(.int .i64 z3932.1), (.string ⟨List.toArray z3932.2.1⟩), (.string ⟨List.toArray z3932.2.2.1⟩), (.int .i64 z3932.2.2.2.1)]), (.int .i64 z3932.2.2.2.2.1)]))] ⟨gA 6 K K, trivial⟩ (.tuple #[(.agg #[(.int .i64 z3932.1), (.string ⟨List.toArray z3932.2.1⟩), (.string ⟨List.toArray z3932.2.2.1⟩), (.int .i64 z3932.2.2.2.1)]), (.int .i64 z3932.2.2.2.2.1)]) (fun _ _ => K) rfl
       ·exact Owe.run K [(88, (.tuple #[(.agg #[(.int .i64 z3932.1), (.string ⟨List.toArray z3932.2.1⟩), (.string ⟨List.toArray z3932.2.2.1⟩), (.int .i64 z3932.2.2.2.1)]), (.int .i64 z3932.2.2.2.2.1)]))] ⟨gA 7 K K, trivial⟩ (.agg #[(.int .i64 z3932.1), (.string ⟨List.toArray z3932.2.1⟩), (.string ⟨List.toArray z3932.2.2.1⟩), (.int .i64 z3932.2.2.2.1)]) (fun _ _ => K) rfl
       ·exact Owe.run K [(88, (.tuple #[(.agg #[(.int .i64 z3932.1), (.string ⟨List.toArray z3932.2.1⟩), (.string ⟨List.toArray z3932.2.2.1⟩), (.int .i64 z3932.2.2.2.1)]), (.int .i64 z3932.2.2.2.2.1)]))] ⟨gA 7 K K, trivial⟩ (.int .i64 z3932.2.2.2.2.1) (fun _ _ => K) rfl
       ·refine Owe.heavy K [(0, 2), (1, 4), (3, 5)] K (all_cons ⟨K, K, ?_⟩ (all_cons ⟨K, K, ?_⟩ (all_cons ⟨K, K, ?_⟩ all_nil)))
        ·rintro ρ' w' hs hah ⟨hvl4066, hs4065⟩
         have hkn : Known ρ' [] := trivial
         refine Step.known _ hkn ?_
         refine Step.alloc (t := 31) (z := (.agg #[(.int .i64 0), (.string ⟨List.toArray ([] : List UInt8)⟩), (.string ⟨List.toArray ([] : List UInt8)⟩), (.int .i64 0)])) (d := (some 11)) (k := 10) K rfl K hs4065 ?_
         intro g4067 w4068 (hs4070 : SP [] w0 w4068 [rdE eU8 A2241 c2242 v2243, rowT 59 (ePair (eInt .i64) (ePair eStr (ePair eStr (ePair (eInt .i64) eStr)))) A2245 c2246 v2247, boxE g16 56 #[(.slice A2241 (List.length v2243) c2242), (.int .i64 v2244), (.slice A2245 (List.length v2247) c2246)], rowT 63 (ePair eStr (ePair (eInt .i64) (ePair eStr (ePair eStr (eInt .i64))))) A2250 c2251 v2252, boxE g27 44 #[(.string ⟨List.toArray v2248⟩), (.int .i64 v2249), (.slice A2250 (List.length v2252) c2251)], rowT 9 eStr A2253 c2254 v2255, boxE g3355 33 #[(.int .i64 x3346.1), (.int .i64 x3346.2.1), (.string ⟨List.toArray x3346.2.2.1⟩), (.string ⟨List.toArray x3346.2.2.2.1⟩), (.int .i64 x3346.2.2.2.2.1), (.string ⟨List.toArray x3346.2.2.2.2.2.1⟩), (.int .i64 x3346.2.2.2.2.2.2.1), (.string ⟨List.toArray x3346.2.2.2.2.2.2.2.1⟩), (.string ⟨List.toArray x3346.2.2.2.2.2.2.2.2⟩)], boxE g4067 31 #[(.int .i64 0), (.string ⟨List.toArray ([] : List UInt8)⟩), (.string ⟨List.toArray ([] : List UInt8)⟩), (.int .i64 0)]])
         refine ⟨_, updO_known hkn, trivial, ?_⟩
         exact (Exists.intro g4067 (And.intro (And.intro rfl (trivial)) (hs4070)))
        ·rintro ρ' w' hs hah ⟨⟨q4072, -⟩, hs4071⟩
         have hkn : Known ρ' [] := trivial
         refine Step.known _ hkn ?_
         refine Step.alloc (t := 31) (z := (.agg #[(.int .i64 0), (.string ⟨List.toArray ([] : List UInt8)⟩), (.string ⟨List.toArray ([] : List UInt8)⟩), (.int .i64 0)])) (d := (some 11)) (k := 10) K rfl K hs4071 ?_
         intro g4074 w4075 (hs4077 : SP [] w0 w4075 [rdE eU8 A2241 c2242 v2243, rowT 59 (ePair (eInt .i64) (ePair eStr (ePair eStr (ePair (eInt .i64) eStr)))) A2245 c2246 v2247, boxE g16 56 #[(.slice A2241 (List.length v2243) c2242), (.int .i64 v2244), (.slice A2245 (List.length v2247) c2246)], rowT 63 (ePair eStr (ePair (eInt .i64) (ePair eStr (ePair eStr (eInt .i64))))) A2250 c2251 v2252, boxE g27 44 #[(.string ⟨List.toArray v2248⟩), (.int .i64 v2249), (.slice A2250 (List.length v2252) c2251)], rowT 9 eStr A2253 c2254 v2255, boxE g3355 33 #[(.int .i64 x3346.1), (.int .i64 x3346.2.1), (.string ⟨List.toArray x3346.2.2.1⟩), (.string ⟨List.toArray x3346.2.2.2.1⟩), (.int .i64 x3346.2.2.2.2.1), (.string ⟨List.toArray x3346.2.2.2.2.2.1⟩), (.int .i64 x3346.2.2.2.2.2.2.1), (.string ⟨List.toArray x3346.2.2.2.2.2.2.2.1⟩), (.string ⟨List.toArray x3346.2.2.2.2.2.2.2.2⟩)], boxE g4074 31 #[(.int .i64 0), (.string ⟨List.toArray ([] : List UInt8)⟩), (.string ⟨List.toArray ([] : List UInt8)⟩), (.int .i64 0)]])
         refine ⟨_, updO_known hkn, trivial, ?_⟩
         exact (Exists.intro g4074 (And.intro (And.intro q4072 (And.intro rfl (trivial))) (hs4077)))
        ·rintro ρ' w' hs hah ⟨A3963, c3964, A3965, c3966, ⟨q4079, q4080, -⟩, hs4078⟩
         have hkn : Known ρ' [] := trivial
         refine Step.known _ hkn ?_
         refine Step.alloc (t := 31) (z := (.agg #[(.int .i64 0), (.string ⟨List.toArray ([] : List UInt8)⟩), (.string ⟨List.toArray ([] : List UInt8)⟩), (.int .i64 0)])) (d := (some 11)) (k := 10) K rfl K hs4078 ?_
         intro g4082 w4083 (hs4085 : SP [] w0 w4083 [rowT 63 (ePair eStr (ePair (eInt .i64) (ePair eStr (ePair eStr (eInt .i64))))) A2250 c2251 v2252, boxE g27 44 #[(.string ⟨List.toArray v2248⟩), (.int .i64 v2249), (.slice A2250 (List.length v2252) c2251)], rowT 9 eStr A2253 c2254 v2255, boxE g3355 33 #[(.int .i64 x3346.1), (.int .i64 x3346.2.1), (.string ⟨List.toArray x3346.2.2.1⟩), (.string ⟨List.toArray x3346.2.2.2.1⟩), (.int .i64 x3346.2.2.2.2.1), (.string ⟨List.toArray x3346.2.2.2.2.2.1⟩), (.int .i64 x3346.2.2.2.2.2.2.1), (.string ⟨List.toArray x3346.2.2.2.2.2.2.2.1⟩), (.string ⟨List.toArray x3346.2.2.2.2.2.2.2.2⟩)], boxE g16 56 #[(.slice A3963 (List.length z3932.2.2.2.2.2.1) c3964), (.int .i64 z3932.2.2.2.2.2.2.1), (.slice A3965 (List.length z3932.2.2.2.2.2.2.2) c3966)], rdE eU8 A3963 c3964 z3932.2.2.2.2.2.1, rowT 59 (ePair (eInt .i64) (ePair eStr (ePair eStr (ePair (eInt .i64) eStr)))) A3965 c3966 z3932.2.2.2.2.2.2.2, boxE g4082 31 #[(.int .i64 0), (.string ⟨List.toArray ([] : List UInt8)⟩), (.string ⟨List.toArray ([] : List UInt8)⟩), (.int .i64 0)]])
         refine ⟨_, updO_known hkn, trivial, ?_⟩
         exact (Exists.intro g4082 (Exists.intro A3963 (Exists.intro c3964 (Exists.intro A3965 (Exists.intro c3966 (And.intro (And.intro q4079 (And.intro q4080 (And.intro rfl (trivial)))) (hs4085)))))))
       ·refine Owe.heavy K [(5, 6)] K (all_cons ⟨K, K, ?_⟩ all_nil)
        ·rintro ρ' w' hs hah ⟨g3989, A3983, c3984, A3985, c3986, ⟨q4087, q4088, q4089, -⟩, hs4086⟩
         have hkn : Known ρ' [(11, (pt g3989 0)), (96, (.agg #[(.int .i64 z3932.1), (.string ⟨List.toArray z3932.2.1⟩), (.string ⟨List.toArray z3932.2.2.1⟩), (.int .i64 z3932.2.2.2.1)]))] := ⟨(valF_eq (h := 10) K).symm.trans q4089, hah 8 96 K, trivial⟩
         refine Step.known _ hkn ?_
         refine Step.store (t := 31) (x := (.tmp 11)) (y := (.tmp 96)) (g := g3989) (off := 0) (i := 7) (v := (.agg #[(.int .i64 z3932.1), (.string ⟨List.toArray z3932.2.1⟩), (.string ⟨List.toArray z3932.2.2.1⟩), (.int .i64 z3932.2.2.2.1)])) (cs' := #[(.int .i64 z3932.1), (.string ⟨List.toArray z3932.2.1⟩), (.string ⟨List.toArray z3932.2.2.1⟩), (.int .i64 z3932.2.2.2.1)]) (d := none) (k := 11) K rfl K K hs4086 rfl K ?_
         intro w4091 (hs4093 : SP [] w0 w4091 [rowT 63 (ePair eStr (ePair (eInt .i64) (ePair eStr (ePair eStr (eInt .i64))))) A2250 c2251 v2252, boxE g27 44 #[(.string ⟨List.toArray v2248⟩), (.int .i64 v2249), (.slice A2250 (List.length v2252) c2251)], rowT 9 eStr A2253 c2254 v2255, boxE g3355 33 #[(.int .i64 x3346.1), (.int .i64 x3346.2.1), (.string ⟨List.toArray x3346.2.2.1⟩), (.string ⟨List.toArray x3346.2.2.2.1⟩), (.int .i64 x3346.2.2.2.2.1), (.string ⟨List.toArray x3346.2.2.2.2.2.1⟩), (.int .i64 x3346.2.2.2.2.2.2.1), (.string ⟨List.toArray x3346.2.2.2.2.2.2.2.1⟩), (.string ⟨List.toArray x3346.2.2.2.2.2.2.2.2⟩)], boxE g16 56 #[(.slice A3983 (List.length z3932.2.2.2.2.2.1) c3984), (.int .i64 z3932.2.2.2.2.2.2.1), (.slice A3985 (List.length z3932.2.2.2.2.2.2.2) c3986)], rdE eU8 A3983 c3984 z3932.2.2.2.2.2.1, rowT 59 (ePair (eInt .i64) (ePair eStr (ePair eStr (ePair (eInt .i64) eStr)))) A3985 c3986 z3932.2.2.2.2.2.2.2, boxE g3989 31 #[(.int .i64 z3932.1), (.string ⟨List.toArray z3932.2.1⟩), (.string ⟨List.toArray z3932.2.2.1⟩), (.int .i64 z3932.2.2.2.1)]])
         refine ⟨_, updO_known hkn, trivial, ?_⟩
         exact (Exists.intro g3989 (Exists.intro A3983 (Exists.intro c3984 (Exists.intro A3985 (Exists.intro c3986 (And.intro (And.intro q4087 (And.intro q4088 (And.intro q4089 (And.intro rfl (trivial))))) (hs4093)))))))
       ·exact Owe.run K [(97, (.int .i64 z3932.2.2.2.2.1))] ⟨gA 9 K K, trivial⟩ (.int .i64 z3932.2.2.2.2.1) (fun _ _ => K) rfl
       ·rintro ρ' w' hs hf ⟨g4005, A3999, c4000, A4001, c4002, ⟨q4095, q4096, q4097, q4098, -⟩, hs4094⟩
        refine postKnown [(1, (.slice A3 (List.length p2) c4)), (5, (.bool z6)), (6, (pt g16 0)), (7, (pt g27 0)), (8, (.slice A2253 (List.length v2255) c2254)), (9, (.int .i64 v2256)), (10, (pt g3355 0)), (11, (pt g4005 0)), (12, (.int .i64 z3932.2.2.2.2.1))] ⟨(hs 1 K).trans K, (hs 5 K).trans K, (hs 6 K).trans K, (hs 7 K).trans K, (hs 8 K).trans K, (hs 9 K).trans K, (hs 10 K).trans K, (valF_eq (h := 10) K).symm.trans q4097, hf 12 12 K, trivial⟩ ?_
        obtain ⟨w4100, hww4100⟩ : ∃ x, w' = x := ⟨_, rfl⟩
        rw [hww4100] at hs4094 ⊢
        refine At.sq K ?_
        obtain ⟨z4101, hz4102, H⟩ := bind_elim H
        obtain ⟨z4107, hz4108, H⟩ := bind_elim H
        refine At.stages K K K K K [GEq (pt g27 0), GEq (.agg #[(.int .i64 x3346.1), (.int .i64 x3346.2.1), (.string ⟨List.toArray x3346.2.2.1⟩), (.string ⟨List.toArray x3346.2.2.2.1⟩), (.int .i64 x3346.2.2.2.2.1), (.string ⟨List.toArray x3346.2.2.2.2.2.1⟩), (.int .i64 x3346.2.2.2.2.2.2.1), (.string ⟨List.toArray x3346.2.2.2.2.2.2.2.1⟩), (.string ⟨List.toArray x3346.2.2.2.2.2.2.2.2⟩)]), GEq (.slice A2253 (List.length v2255) c2254), GEq (.string ⟨List.toArray z4101⟩), GEq (pt g3355 8), GEq (.string ⟨List.toArray x3346.2.2.2.2.2.2.2.2⟩), GEq (.tuple #[(.agg #[(.int .i64 z4107.1), (.string ⟨List.toArray z4107.2.1⟩), (.string ⟨List.toArray z4107.2.2.1⟩), (.int .i64 z4107.2.2.2.1)]), (.int .i64 z4107.2.2.2.2.1)]), GEq (.tuple #[(.agg #[(.int .i64 z4107.1), (.string ⟨List.toArray z4107.2.1⟩), (.string ⟨List.toArray z4107.2.2.1⟩), (.int .i64 z4107.2.2.2.1)]), (.int .i64 z4107.2.2.2.2.1)]), GEq (.agg #[(.int .i64 z4107.1), (.string ⟨List.toArray z4107.2.1⟩), (.string ⟨List.toArray z4107.2.2.1⟩), (.int .i64 z4107.2.2.2.1)]), GEq (.int .i64 z4107.2.2.2.2.1), GAny, GAny, GEq (.int .i64 z4107.2.2.2.2.1)] [3, 6, 10, 11] [([], fun vs w => VL vs [] ∧ SP [] w0 w [rowT 63 (ePair eStr (ePair (eInt .i64) (ePair eStr (ePair eStr (eInt .i64))))) A2250 c2251 v2252, boxE g27 44 #[(.string ⟨List.toArray v2248⟩), (.int .i64 v2249), (.slice A2250 (List.length v2252) c2251)], rowT 9 eStr A2253 c2254 v2255, boxE g3355 33 #[(.int .i64 x3346.1), (.int .i64 x3346.2.1), (.string ⟨List.toArray x3346.2.2.1⟩), (.string ⟨List.toArray x3346.2.2.2.1⟩), (.int .i64 x3346.2.2.2.2.1), (.string ⟨List.toArray x3346.2.2.2.2.2.1⟩), (.int .i64 x3346.2.2.2.2.2.2.1), (.string ⟨List.toArray x3346.2.2.2.2.2.2.2.1⟩), (.string ⟨List.toArray x3346.2.2.2.2.2.2.2.2⟩)], boxE g16 56 #[(.slice A3999 (List.length z3932.2.2.2.2.2.1) c4000), (.int .i64 z3932.2.2.2.2.2.2.1), (.slice A4001 (List.length z3932.2.2.2.2.2.2.2) c4002)], rdE eU8 A3999 c4000 z3932.2.2.2.2.2.1, rowT 59 (ePair (eInt .i64) (ePair eStr (ePair eStr (ePair (eInt .i64) eStr)))) A4001 c4002 z3932.2.2.2.2.2.2.2, boxE g4005 31 #[(.int .i64 z3932.1), (.string ⟨List.toArray z3932.2.1⟩), (.string ⟨List.toArray z3932.2.2.1⟩), (.int .i64 z3932.2.2.2.1)]]), ([3], fun vs w => VL vs [(.string ⟨List.toArray z4101⟩)] ∧ SP [] w0 w [rowT 63 (ePair eStr (ePair (eInt .i64) (ePair eStr (ePair eStr (eInt .i64))))) A2250 c2251 v2252, boxE g27 44 #[(.string ⟨List.toArray v2248⟩), (.int .i64 v2249), (.slice A2250 (List.length v2252) c2251)], rowT 9 eStr A2253 c2254 v2255, boxE g3355 33 #[(.int .i64 x3346.1), (.int .i64 x3346.2.1), (.string ⟨List.toArray x3346.2.2.1⟩), (.string ⟨List.toArray x3346.2.2.2.1⟩), (.int .i64 x3346.2.2.2.2.1), (.string ⟨List.toArray x3346.2.2.2.2.2.1⟩), (.int .i64 x3346.2.2.2.2.2.2.1), (.string ⟨List.toArray x3346.2.2.2.2.2.2.2.1⟩), (.string ⟨List.toArray x3346.2.2.2.2.2.2.2.2⟩)], boxE g16 56 #[(.slice A3999 (List.length z3932.2.2.2.2.2.1) c4000), (.int .i64 z3932.2.2.2.2.2.2.1), (.slice A4001 (List.length z3932.2.2.2.2.2.2.2) c4002)], rdE eU8 A3999 c4000 z3932.2.2.2.2.2.1, rowT 59 (ePair (eInt .i64) (ePair eStr (ePair eStr (ePair (eInt .i64) eStr)))) A4001 c4002 z3932.2.2.2.2.2.2.2, boxE g4005 31 #[(.int .i64 z3932.1), (.string ⟨List.toArray z3932.2.1⟩), (.string ⟨List.toArray z3932.2.2.1⟩), (.int .i64 z3932.2.2.2.1)]]), ([10], fun vs w => ∃ (g4126 : Nat), VL vs [(pt g4126 0)] ∧ SP [] w0 w [rowT 63 (ePair eStr (ePair (eInt .i64) (ePair eStr (ePair eStr (eInt .i64))))) A2250 c2251 v2252, boxE g27 44 #[(.string ⟨List.toArray v2248⟩), (.int .i64 v2249), (.slice A2250 (List.length v2252) c2251)], rowT 9 eStr A2253 c2254 v2255, boxE g3355 33 #[(.int .i64 x3346.1), (.int .i64 x3346.2.1), (.string ⟨List.toArray x3346.2.2.1⟩), (.string ⟨List.toArray x3346.2.2.2.1⟩), (.int .i64 x3346.2.2.2.2.1), (.string ⟨List.toArray x3346.2.2.2.2.2.1⟩), (.int .i64 x3346.2.2.2.2.2.2.1), (.string ⟨List.toArray x3346.2.2.2.2.2.2.2.1⟩), (.string ⟨List.toArray x3346.2.2.2.2.2.2.2.2⟩)], boxE g16 56 #[(.slice A3999 (List.length z3932.2.2.2.2.2.1) c4000), (.int .i64 z3932.2.2.2.2.2.2.1), (.slice A4001 (List.length z3932.2.2.2.2.2.2.2) c4002)], rdE eU8 A3999 c4000 z3932.2.2.2.2.2.1, rowT 59 (ePair (eInt .i64) (ePair eStr (ePair eStr (ePair (eInt .i64) eStr)))) A4001 c4002 z3932.2.2.2.2.2.2.2, boxE g4005 31 #[(.int .i64 z3932.1), (.string ⟨List.toArray z3932.2.1⟩), (.string ⟨List.toArray z3932.2.2.1⟩), (.int .i64 z3932.2.2.2.1)], boxE g4126 31 #[(.int .i64 0), (.string ⟨List.toArray ([] : List UInt8)⟩), (.string ⟨List.toArray ([] : List UInt8)⟩), (.int .i64 0)]]), ([3, 6], fun vs w => ∃ (A4136 : Option Addr), ∃ (c4137 : Nat), VL vs [(.string ⟨List.toArray z4101⟩), (.tuple #[(.agg #[(.int .i64 z4107.1), (.string ⟨List.toArray z4107.2.1⟩), (.string ⟨List.toArray z4107.2.2.1⟩), (.int .i64 z4107.2.2.2.1)]), (.int .i64 z4107.2.2.2.2.1)])] ∧ SP [] w0 w [rowT 9 eStr A2253 c2254 v2255, boxE g3355 33 #[(.int .i64 x3346.1), (.int .i64 x3346.2.1), (.string ⟨List.toArray x3346.2.2.1⟩), (.string ⟨List.toArray x3346.2.2.2.1⟩), (.int .i64 x3346.2.2.2.2.1), (.string ⟨List.toArray x3346.2.2.2.2.2.1⟩), (.int .i64 x3346.2.2.2.2.2.2.1), (.string ⟨List.toArray x3346.2.2.2.2.2.2.2.1⟩), (.string ⟨List.toArray x3346.2.2.2.2.2.2.2.2⟩)], boxE g16 56 #[(.slice A3999 (List.length z3932.2.2.2.2.2.1) c4000), (.int .i64 z3932.2.2.2.2.2.2.1), (.slice A4001 (List.length z3932.2.2.2.2.2.2.2) c4002)], rdE eU8 A3999 c4000 z3932.2.2.2.2.2.1, rowT 59 (ePair (eInt .i64) (ePair eStr (ePair eStr (ePair (eInt .i64) eStr)))) A4001 c4002 z3932.2.2.2.2.2.2.2, boxE g4005 31 #[(.int .i64 z3932.1), (.string ⟨List.toArray z3932.2.1⟩), (.string ⟨List.toArray z3932.2.2.1⟩), (.int .i64 z3932.2.2.2.1)], boxE g27 44 #[(.string ⟨List.toArray z4107.2.2.2.2.2.1⟩), (.int .i64 z4107.2.2.2.2.2.2.1), (.slice A4136 (List.length z4107.2.2.2.2.2.2.2) c4137)], rowT 63 (ePair eStr (ePair (eInt .i64) (ePair eStr (ePair eStr (eInt .i64))))) A4136 c4137 z4107.2.2.2.2.2.2.2]), ([3, 10], fun vs w => ∃ (g4144 : Nat), VL vs [(.string ⟨List.toArray z4101⟩), (pt g4144 0)] ∧ SP [] w0 w [rowT 63 (ePair eStr (ePair (eInt .i64) (ePair eStr (ePair eStr (eInt .i64))))) A2250 c2251 v2252, boxE g27 44 #[(.string ⟨List.toArray v2248⟩), (.int .i64 v2249), (.slice A2250 (List.length v2252) c2251)], rowT 9 eStr A2253 c2254 v2255, boxE g3355 33 #[(.int .i64 x3346.1), (.int .i64 x3346.2.1), (.string ⟨List.toArray x3346.2.2.1⟩), (.string ⟨List.toArray x3346.2.2.2.1⟩), (.int .i64 x3346.2.2.2.2.1), (.string ⟨List.toArray x3346.2.2.2.2.2.1⟩), (.int .i64 x3346.2.2.2.2.2.2.1), (.string ⟨List.toArray x3346.2.2.2.2.2.2.2.1⟩), (.string ⟨List.toArray x3346.2.2.2.2.2.2.2.2⟩)], boxE g16 56 #[(.slice A3999 (List.length z3932.2.2.2.2.2.1) c4000), (.int .i64 z3932.2.2.2.2.2.2.1), (.slice A4001 (List.length z3932.2.2.2.2.2.2.2) c4002)], rdE eU8 A3999 c4000 z3932.2.2.2.2.2.1, rowT 59 (ePair (eInt .i64) (ePair eStr (ePair eStr (ePair (eInt .i64) eStr)))) A4001 c4002 z3932.2.2.2.2.2.2.2, boxE g4005 31 #[(.int .i64 z3932.1), (.string ⟨List.toArray z3932.2.1⟩), (.string ⟨List.toArray z3932.2.2.1⟩), (.int .i64 z3932.2.2.2.1)], boxE g4144 31 #[(.int .i64 0), (.string ⟨List.toArray ([] : List UInt8)⟩), (.string ⟨List.toArray ([] : List UInt8)⟩), (.int .i64 0)]]), ([3, 6, 10], fun vs w => ∃ (g4158 : Nat), ∃ (A4154 : Option Addr), ∃ (c4155 : Nat), VL vs [(.string ⟨List.toArray z4101⟩), (.tuple #[(.agg #[(.int .i64 z4107.1), (.string ⟨List.toArray z4107.2.1⟩), (.string ⟨List.toArray z4107.2.2.1⟩), (.int .i64 z4107.2.2.2.1)]), (.int .i64 z4107.2.2.2.2.1)]), (pt g4158 0)] ∧ SP [] w0 w [rowT 9 eStr A2253 c2254 v2255, boxE g3355 33 #[(.int .i64 x3346.1), (.int .i64 x3346.2.1), (.string ⟨List.toArray x3346.2.2.1⟩), (.string ⟨List.toArray x3346.2.2.2.1⟩), (.int .i64 x3346.2.2.2.2.1), (.string ⟨List.toArray x3346.2.2.2.2.2.1⟩), (.int .i64 x3346.2.2.2.2.2.2.1), (.string ⟨List.toArray x3346.2.2.2.2.2.2.2.1⟩), (.string ⟨List.toArray x3346.2.2.2.2.2.2.2.2⟩)], boxE g16 56 #[(.slice A3999 (List.length z3932.2.2.2.2.2.1) c4000), (.int .i64 z3932.2.2.2.2.2.2.1), (.slice A4001 (List.length z3932.2.2.2.2.2.2.2) c4002)], rdE eU8 A3999 c4000 z3932.2.2.2.2.2.1, rowT 59 (ePair (eInt .i64) (ePair eStr (ePair eStr (ePair (eInt .i64) eStr)))) A4001 c4002 z3932.2.2.2.2.2.2.2, boxE g4005 31 #[(.int .i64 z3932.1), (.string ⟨List.toArray z3932.2.1⟩), (.string ⟨List.toArray z3932.2.2.1⟩), (.int .i64 z3932.2.2.2.1)], boxE g27 44 #[(.string ⟨List.toArray z4107.2.2.2.2.2.1⟩), (.int .i64 z4107.2.2.2.2.2.2.1), (.slice A4154 (List.length z4107.2.2.2.2.2.2.2) c4155)], rowT 63 (ePair eStr (ePair (eInt .i64) (ePair eStr (ePair eStr (eInt .i64))))) A4154 c4155 z4107.2.2.2.2.2.2.2, boxE g4158 31 #[(.int .i64 0), (.string ⟨List.toArray ([] : List UInt8)⟩), (.string ⟨List.toArray ([] : List UInt8)⟩), (.int .i64 0)]]), ([3, 6, 10, 11], fun vs w => ∃ (g4172 : Nat), ∃ (A4168 : Option Addr), ∃ (c4169 : Nat), VL vs [(.string ⟨List.toArray z4101⟩), (.tuple #[(.agg #[(.int .i64 z4107.1), (.string ⟨List.toArray z4107.2.1⟩), (.string ⟨List.toArray z4107.2.2.1⟩), (.int .i64 z4107.2.2.2.1)]), (.int .i64 z4107.2.2.2.2.1)]), (pt g4172 0), undef] ∧ SP [] w0 w [rowT 9 eStr A2253 c2254 v2255, boxE g3355 33 #[(.int .i64 x3346.1), (.int .i64 x3346.2.1), (.string ⟨List.toArray x3346.2.2.1⟩), (.string ⟨List.toArray x3346.2.2.2.1⟩), (.int .i64 x3346.2.2.2.2.1), (.string ⟨List.toArray x3346.2.2.2.2.2.1⟩), (.int .i64 x3346.2.2.2.2.2.2.1), (.string ⟨List.toArray x3346.2.2.2.2.2.2.2.1⟩), (.string ⟨List.toArray x3346.2.2.2.2.2.2.2.2⟩)], boxE g16 56 #[(.slice A3999 (List.length z3932.2.2.2.2.2.1) c4000), (.int .i64 z3932.2.2.2.2.2.2.1), (.slice A4001 (List.length z3932.2.2.2.2.2.2.2) c4002)], rdE eU8 A3999 c4000 z3932.2.2.2.2.2.1, rowT 59 (ePair (eInt .i64) (ePair eStr (ePair eStr (ePair (eInt .i64) eStr)))) A4001 c4002 z3932.2.2.2.2.2.2.2, boxE g4005 31 #[(.int .i64 z3932.1), (.string ⟨List.toArray z3932.2.1⟩), (.string ⟨List.toArray z3932.2.2.1⟩), (.int .i64 z3932.2.2.2.1)], boxE g27 44 #[(.string ⟨List.toArray z4107.2.2.2.2.2.1⟩), (.int .i64 z4107.2.2.2.2.2.2.1), (.slice A4168 (List.length z4107.2.2.2.2.2.2.2) c4169)], rowT 63 (ePair eStr (ePair (eInt .i64) (ePair eStr (ePair eStr (eInt .i64))))) A4168 c4169 z4107.2.2.2.2.2.2.2, boxE g4172 31 #[(.int .i64 z4107.1), (.string ⟨List.toArray z4107.2.1⟩), (.string ⟨List.toArray z4107.2.2.1⟩), (.int .i64 z4107.2.2.2.1)]])] (N := 13) K ⟨K, Nat.zero_lt_succ _⟩ (show VL [] [] ∧ SP [] w0 w4100.drew [rowT 63 (ePair eStr (ePair (eInt .i64) (ePair eStr (ePair eStr (eInt .i64))))) A2250 c2251 v2252, boxE g27 44 #[(.string ⟨List.toArray v2248⟩), (.int .i64 v2249), (.slice A2250 (List.length v2252) c2251)], rowT 9 eStr A2253 c2254 v2255, boxE g3355 33 #[(.int .i64 x3346.1), (.int .i64 x3346.2.1), (.string ⟨List.toArray x3346.2.2.1⟩), (.string ⟨List.toArray x3346.2.2.2.1⟩), (.int .i64 x3346.2.2.2.2.1), (.string ⟨List.toArray x3346.2.2.2.2.2.1⟩), (.int .i64 x3346.2.2.2.2.2.2.1), (.string ⟨List.toArray x3346.2.2.2.2.2.2.2.1⟩), (.string ⟨List.toArray x3346.2.2.2.2.2.2.2.2⟩)], boxE g16 56 #[(.slice A3999 (List.length z3932.2.2.2.2.2.1) c4000), (.int .i64 z3932.2.2.2.2.2.2.1), (.slice A4001 (List.length z3932.2.2.2.2.2.2.2) c4002)], rdE eU8 A3999 c4000 z3932.2.2.2.2.2.1, rowT 59 (ePair (eInt .i64) (ePair eStr (ePair eStr (ePair (eInt .i64) eStr)))) A4001 c4002 z3932.2.2.2.2.2.2.2, boxE g4005 31 #[(.int .i64 z3932.1), (.string ⟨List.toArray z3932.2.1⟩), (.string ⟨List.toArray z3932.2.2.1⟩), (.int .i64 z3932.2.2.2.1)]] from ⟨trivial, SP.drew hs4094⟩) ⟨⟨⟨⟨⟨⟨⟨⟨⟨⟨⟨⟨⟨trivial, ?_⟩, ?_⟩, ?_⟩, ?_⟩, ?_⟩, ?_⟩, ?_⟩, ?_⟩, ?_⟩, ?_⟩, ?_⟩, ?_⟩, ?_⟩ (last := 6) K ?_
        ·exact Owe.run K [(7, (pt g27 0))] ⟨gS K K, trivial⟩ (pt g27 0) (fun _ _ => K) rfl
        ·refine Owe.light K [0, 2] K (all_cons ?_ (all_cons ?_ all_nil))
         ·rintro ρ' w' hs hah ⟨hvl4180, hs4179⟩
          have hkn : Known ρ' [(10, (pt g3355 0))] := ⟨(hs 10 K).trans K, trivial⟩
          refine Step.known _ hkn ?_
          refine Step.load (t := 33) (x := (.tmp 10)) (g := g3355) (off := 0) (i := 3) (v := (.agg #[(.int .i64 x3346.1), (.int .i64 x3346.2.1), (.string ⟨List.toArray x3346.2.2.1⟩), (.string ⟨List.toArray x3346.2.2.2.1⟩), (.int .i64 x3346.2.2.2.2.1), (.string ⟨List.toArray x3346.2.2.2.2.2.1⟩), (.int .i64 x3346.2.2.2.2.2.2.1), (.string ⟨List.toArray x3346.2.2.2.2.2.2.2.1⟩), (.string ⟨List.toArray x3346.2.2.2.2.2.2.2.2⟩)])) (d := (some 100)) (k := 1) K rfl K hs4179 rfl K ?_
          exact ⟨rfl, _, updO_known hkn, rfl⟩
         ·rintro ρ' w' hs hah ⟨g4126, ⟨q4182, -⟩, hs4181⟩
          have hkn : Known ρ' [(10, (pt g3355 0))] := ⟨(hs 10 K).trans K, trivial⟩
          refine Step.known _ hkn ?_
          refine Step.load (t := 33) (x := (.tmp 10)) (g := g3355) (off := 0) (i := 3) (v := (.agg #[(.int .i64 x3346.1), (.int .i64 x3346.2.1), (.string ⟨List.toArray x3346.2.2.1⟩), (.string ⟨List.toArray x3346.2.2.2.1⟩), (.int .i64 x3346.2.2.2.2.1), (.string ⟨List.toArray x3346.2.2.2.2.2.1⟩), (.int .i64 x3346.2.2.2.2.2.2.1), (.string ⟨List.toArray x3346.2.2.2.2.2.2.2.1⟩), (.string ⟨List.toArray x3346.2.2.2.2.2.2.2.2⟩)])) (d := (some 100)) (k := 1) K rfl K hs4181 rfl K ?_
          exact ⟨rfl, _, updO_known hkn, rfl⟩
        ·exact Owe.run K [(8, (.slice A2253 (List.length v2255) c2254))] ⟨gS K K, trivial⟩ (.slice A2253 (List.length v2255) c2254) (fun _ _ => K) rfl
        ·refine Owe.heavy K [(0, 1), (2, 4)] K (all_cons ⟨K, K, ?_⟩ (all_cons ⟨K, K, ?_⟩ all_nil))
         ·rintro ρ' w' hs hah ⟨hvl4185, hs4184⟩
          have hkn : Known ρ' [(100, (.agg #[(.int .i64 x3346.1), (.int .i64 x3346.2.1), (.string ⟨List.toArray x3346.2.2.1⟩), (.string ⟨List.toArray x3346.2.2.2.1⟩), (.int .i64 x3346.2.2.2.2.1), (.string ⟨List.toArray x3346.2.2.2.2.2.1⟩), (.int .i64 x3346.2.2.2.2.2.2.1), (.string ⟨List.toArray x3346.2.2.2.2.2.2.2.1⟩), (.string ⟨List.toArray x3346.2.2.2.2.2.2.2.2⟩)])), (101, (.slice A2253 (List.length v2255) c2254))] := ⟨hah 1 100 K, hah 2 101 K, trivial⟩
          refine Step.known _ hkn ?_
          refine Step.callF (f := 14) (fo := (.func 14)) (xs := #[(.tmp 100), (.tmp 101)]) (tys := #[33, 29]) (first := #[]) (captured := #[]) (d := (some 102)) (k := 3) K rfl K K Tryd.call14 (L_subwaylaw15_shown_walk A2253 c2254 x3346.1 x3346.2.1 x3346.2.2.1 x3346.2.2.2.1 x3346.2.2.2.2.1 x3346.2.2.2.2.2.1 x3346.2.2.2.2.2.2.1 x3346.2.2.2.2.2.2.2.1 x3346.2.2.2.2.2.2.2.2 v2255 w' (rowT_rd (SP.get hs4184 (i := 2) rfl)) z4101 hz4102) ?_
          rintro e w4186 ⟨rfl, hs4187⟩
          refine ⟨_, rfl, ?_⟩
          have hs4189 : SP [] w0 w4186 [rowT 63 (ePair eStr (ePair (eInt .i64) (ePair eStr (ePair eStr (eInt .i64))))) A2250 c2251 v2252, boxE g27 44 #[(.string ⟨List.toArray v2248⟩), (.int .i64 v2249), (.slice A2250 (List.length v2252) c2251)], rowT 9 eStr A2253 c2254 v2255, boxE g3355 33 #[(.int .i64 x3346.1), (.int .i64 x3346.2.1), (.string ⟨List.toArray x3346.2.2.1⟩), (.string ⟨List.toArray x3346.2.2.2.1⟩), (.int .i64 x3346.2.2.2.2.1), (.string ⟨List.toArray x3346.2.2.2.2.2.1⟩), (.int .i64 x3346.2.2.2.2.2.2.1), (.string ⟨List.toArray x3346.2.2.2.2.2.2.2.1⟩), (.string ⟨List.toArray x3346.2.2.2.2.2.2.2.2⟩)], boxE g16 56 #[(.slice A3999 (List.length z3932.2.2.2.2.2.1) c4000), (.int .i64 z3932.2.2.2.2.2.2.1), (.slice A4001 (List.length z3932.2.2.2.2.2.2.2) c4002)], rdE eU8 A3999 c4000 z3932.2.2.2.2.2.1, rowT 59 (ePair (eInt .i64) (ePair eStr (ePair eStr (ePair (eInt .i64) eStr)))) A4001 c4002 z3932.2.2.2.2.2.2.2, boxE g4005 31 #[(.int .i64 z3932.1), (.string ⟨List.toArray z3932.2.1⟩), (.string ⟨List.toArray z3932.2.2.1⟩), (.int .i64 z3932.2.2.2.1)]] := SP.call hs4184 hs4187
          clear hs4187
          refine ⟨_, updO_known hkn, rfl, ?_⟩
          exact (And.intro (And.intro rfl (trivial)) (hs4189))
         ·rintro ρ' w' hs hah ⟨g4126, ⟨q4191, -⟩, hs4190⟩
          have hkn : Known ρ' [(100, (.agg #[(.int .i64 x3346.1), (.int .i64 x3346.2.1), (.string ⟨List.toArray x3346.2.2.1⟩), (.string ⟨List.toArray x3346.2.2.2.1⟩), (.int .i64 x3346.2.2.2.2.1), (.string ⟨List.toArray x3346.2.2.2.2.2.1⟩), (.int .i64 x3346.2.2.2.2.2.2.1), (.string ⟨List.toArray x3346.2.2.2.2.2.2.2.1⟩), (.string ⟨List.toArray x3346.2.2.2.2.2.2.2.2⟩)])), (101, (.slice A2253 (List.length v2255) c2254))] := ⟨hah 1 100 K, hah 2 101 K, trivial⟩
          refine Step.known _ hkn ?_
          refine Step.callF (f := 14) (fo := (.func 14)) (xs := #[(.tmp 100), (.tmp 101)]) (tys := #[33, 29]) (first := #[]) (captured := #[]) (d := (some 102)) (k := 3) K rfl K K Tryd.call14 (L_subwaylaw15_shown_walk A2253 c2254 x3346.1 x3346.2.1 x3346.2.2.1 x3346.2.2.2.1 x3346.2.2.2.2.1 x3346.2.2.2.2.2.1 x3346.2.2.2.2.2.2.1 x3346.2.2.2.2.2.2.2.1 x3346.2.2.2.2.2.2.2.2 v2255 w' (rowT_rd (SP.get hs4190 (i := 2) rfl)) z4101 hz4102) ?_
          rintro e w4193 ⟨rfl, hs4194⟩
          refine ⟨_, rfl, ?_⟩
          have hs4196 : SP [] w0 w4193 [rowT 63 (ePair eStr (ePair (eInt .i64) (ePair eStr (ePair eStr (eInt .i64))))) A2250 c2251 v2252, boxE g27 44 #[(.string ⟨List.toArray v2248⟩), (.int .i64 v2249), (.slice A2250 (List.length v2252) c2251)], rowT 9 eStr A2253 c2254 v2255, boxE g3355 33 #[(.int .i64 x3346.1), (.int .i64 x3346.2.1), (.string ⟨List.toArray x3346.2.2.1⟩), (.string ⟨List.toArray x3346.2.2.2.1⟩), (.int .i64 x3346.2.2.2.2.1), (.string ⟨List.toArray x3346.2.2.2.2.2.1⟩), (.int .i64 x3346.2.2.2.2.2.2.1), (.string ⟨List.toArray x3346.2.2.2.2.2.2.2.1⟩), (.string ⟨List.toArray x3346.2.2.2.2.2.2.2.2⟩)], boxE g16 56 #[(.slice A3999 (List.length z3932.2.2.2.2.2.1) c4000), (.int .i64 z3932.2.2.2.2.2.2.1), (.slice A4001 (List.length z3932.2.2.2.2.2.2.2) c4002)], rdE eU8 A3999 c4000 z3932.2.2.2.2.2.1, rowT 59 (ePair (eInt .i64) (ePair eStr (ePair eStr (ePair (eInt .i64) eStr)))) A4001 c4002 z3932.2.2.2.2.2.2.2, boxE g4005 31 #[(.int .i64 z3932.1), (.string ⟨List.toArray z3932.2.1⟩), (.string ⟨List.toArray z3932.2.2.1⟩), (.int .i64 z3932.2.2.2.1)], boxE g4126 31 #[(.int .i64 0), (.string ⟨List.toArray ([] : List UInt8)⟩), (.string ⟨List.toArray ([] : List UInt8)⟩), (.int .i64 0)]] := SP.call hs4190 hs4194
          clear hs4194
          refine ⟨_, updO_known hkn, rfl, ?_⟩
          exact (Exists.intro g4126 (And.intro (And.intro rfl (And.intro q4191 (trivial))) (hs4196)))
        ·exact Owe.run K [(10, (pt g3355 0))] ⟨gS K K, trivial⟩ (pt g3355 8) (fun _ _ => K) rfl
        ·refine Owe.light K [0, 1, 2, 4] K (all_cons ?_ (all_cons ?_ (all_cons ?_ (all_cons ?_ all_nil))))
         ·rintro ρ' w' hs hah ⟨hvl4198, hs4197⟩
          have hkn : Known ρ' [(103, (pt g3355 8))] := ⟨hah 4 103 K, trivial⟩
          refine Step.known _ hkn ?_
          refine Step.load (t := 9) (x := (.tmp 103)) (g := g3355) (off := 8) (i := 3) (v := (.string ⟨List.toArray x3346.2.2.2.2.2.2.2.2⟩)) (d := (some 104)) (k := 5) K rfl K hs4197 rfl K ?_
          exact ⟨rfl, _, updO_known hkn, rfl⟩
         ·rintro ρ' w' hs hah ⟨⟨q4200, -⟩, hs4199⟩
          have hkn : Known ρ' [(103, (pt g3355 8))] := ⟨hah 4 103 K, trivial⟩
          refine Step.known _ hkn ?_
          refine Step.load (t := 9) (x := (.tmp 103)) (g := g3355) (off := 8) (i := 3) (v := (.string ⟨List.toArray x3346.2.2.2.2.2.2.2.2⟩)) (d := (some 104)) (k := 5) K rfl K hs4199 rfl K ?_
          exact ⟨rfl, _, updO_known hkn, rfl⟩
         ·rintro ρ' w' hs hah ⟨g4126, ⟨q4203, -⟩, hs4202⟩
          have hkn : Known ρ' [(103, (pt g3355 8))] := ⟨hah 4 103 K, trivial⟩
          refine Step.known _ hkn ?_
          refine Step.load (t := 9) (x := (.tmp 103)) (g := g3355) (off := 8) (i := 3) (v := (.string ⟨List.toArray x3346.2.2.2.2.2.2.2.2⟩)) (d := (some 104)) (k := 5) K rfl K hs4202 rfl K ?_
          exact ⟨rfl, _, updO_known hkn, rfl⟩
         ·rintro ρ' w' hs hah ⟨g4144, ⟨q4206, q4207, -⟩, hs4205⟩
          have hkn : Known ρ' [(103, (pt g3355 8))] := ⟨hah 4 103 K, trivial⟩
          refine Step.known _ hkn ?_
          refine Step.load (t := 9) (x := (.tmp 103)) (g := g3355) (off := 8) (i := 3) (v := (.string ⟨List.toArray x3346.2.2.2.2.2.2.2.2⟩)) (d := (some 104)) (k := 5) K rfl K hs4205 rfl K ?_
          exact ⟨rfl, _, updO_known hkn, rfl⟩
        ·refine Owe.heavy K [(1, 3), (4, 5)] K (all_cons ⟨K, K, ?_⟩ (all_cons ⟨K, K, ?_⟩ all_nil))
         ·rintro ρ' w' hs hah ⟨⟨q4210, -⟩, hs4209⟩
          have hkn : Known ρ' [(99, (pt g27 0)), (102, (.string ⟨List.toArray z4101⟩)), (104, (.string ⟨List.toArray x3346.2.2.2.2.2.2.2.2⟩))] := ⟨hah 0 99 K, (valF_eq (h := 3) K).symm.trans q4210, hah 5 104 K, trivial⟩
          refine Step.known _ hkn ?_
          refine Step.callF (f := 15) (fo := (.func 15)) (xs := #[(.tmp 99), (.tmp 102), (.tmp 104)]) (tys := #[26, 9, 9]) (first := #[]) (captured := #[]) (d := (some 105)) (k := 6) K rfl K K Tryd.call15 (L_subwayref15_Book_Redeem_walk g27 A2250 c2251 v2248 v2249 v2252 z4101 x3346.2.2.2.2.2.2.2.2 w' (SP.sub hs4209 [1, 0] rfl rfl) z4107 hz4108) ?_
          rintro e w4212 ⟨A4214, c4215, rfl, hs4213⟩
          refine ⟨_, rfl, ?_⟩
          have hs4217 : SP [] w0 w4212 [rowT 9 eStr A2253 c2254 v2255, boxE g3355 33 #[(.int .i64 x3346.1), (.int .i64 x3346.2.1), (.string ⟨List.toArray x3346.2.2.1⟩), (.string ⟨List.toArray x3346.2.2.2.1⟩), (.int .i64 x3346.2.2.2.2.1), (.string ⟨List.toArray x3346.2.2.2.2.2.1⟩), (.int .i64 x3346.2.2.2.2.2.2.1), (.string ⟨List.toArray x3346.2.2.2.2.2.2.2.1⟩), (.string ⟨List.toArray x3346.2.2.2.2.2.2.2.2⟩)], boxE g16 56 #[(.slice A3999 (List.length z3932.2.2.2.2.2.1) c4000), (.int .i64 z3932.2.2.2.2.2.2.1), (.slice A4001 (List.length z3932.2.2.2.2.2.2.2) c4002)], rdE eU8 A3999 c4000 z3932.2.2.2.2.2.1, rowT 59 (ePair (eInt .i64) (ePair eStr (ePair eStr (ePair (eInt .i64) eStr)))) A4001 c4002 z3932.2.2.2.2.2.2.2, boxE g4005 31 #[(.int .i64 z3932.1), (.string ⟨List.toArray z3932.2.1⟩), (.string ⟨List.toArray z3932.2.2.1⟩), (.int .i64 z3932.2.2.2.1)], boxE g27 44 #[(.string ⟨List.toArray z4107.2.2.2.2.2.1⟩), (.int .i64 z4107.2.2.2.2.2.2.1), (.slice A4214 (List.length z4107.2.2.2.2.2.2.2) c4215)], rowT 63 (ePair eStr (ePair (eInt .i64) (ePair eStr (ePair eStr (eInt .i64))))) A4214 c4215 z4107.2.2.2.2.2.2.2] := SP.callS hs4209 [1, 0] [2, 3, 4, 5, 6, 7] rfl rfl hs4213 rfl
          clear hs4213
          refine ⟨_, updO_known hkn, rfl, ?_⟩
          exact (Exists.intro A4214 (Exists.intro c4215 (And.intro (And.intro q4210 (And.intro rfl (trivial))) (hs4217))))
         ·rintro ρ' w' hs hah ⟨g4144, ⟨q4219, q4220, -⟩, hs4218⟩
          have hkn : Known ρ' [(99, (pt g27 0)), (102, (.string ⟨List.toArray z4101⟩)), (104, (.string ⟨List.toArray x3346.2.2.2.2.2.2.2.2⟩))] := ⟨hah 0 99 K, (valF_eq (h := 3) K).symm.trans q4219, hah 5 104 K, trivial⟩
          refine Step.known _ hkn ?_
          refine Step.callF (f := 15) (fo := (.func 15)) (xs := #[(.tmp 99), (.tmp 102), (.tmp 104)]) (tys := #[26, 9, 9]) (first := #[]) (captured := #[]) (d := (some 105)) (k := 6) K rfl K K Tryd.call15 (L_subwayref15_Book_Redeem_walk g27 A2250 c2251 v2248 v2249 v2252 z4101 x3346.2.2.2.2.2.2.2.2 w' (SP.sub hs4218 [1, 0] rfl rfl) z4107 hz4108) ?_
          rintro e w4222 ⟨A4224, c4225, rfl, hs4223⟩
          refine ⟨_, rfl, ?_⟩
          have hs4227 : SP [] w0 w4222 [rowT 9 eStr A2253 c2254 v2255, boxE g3355 33 #[(.int .i64 x3346.1), (.int .i64 x3346.2.1), (.string ⟨List.toArray x3346.2.2.1⟩), (.string ⟨List.toArray x3346.2.2.2.1⟩), (.int .i64 x3346.2.2.2.2.1), (.string ⟨List.toArray x3346.2.2.2.2.2.1⟩), (.int .i64 x3346.2.2.2.2.2.2.1), (.string ⟨List.toArray x3346.2.2.2.2.2.2.2.1⟩), (.string ⟨List.toArray x3346.2.2.2.2.2.2.2.2⟩)], boxE g16 56 #[(.slice A3999 (List.length z3932.2.2.2.2.2.1) c4000), (.int .i64 z3932.2.2.2.2.2.2.1), (.slice A4001 (List.length z3932.2.2.2.2.2.2.2) c4002)], rdE eU8 A3999 c4000 z3932.2.2.2.2.2.1, rowT 59 (ePair (eInt .i64) (ePair eStr (ePair eStr (ePair (eInt .i64) eStr)))) A4001 c4002 z3932.2.2.2.2.2.2.2, boxE g4005 31 #[(.int .i64 z3932.1), (.string ⟨List.toArray z3932.2.1⟩), (.string ⟨List.toArray z3932.2.2.1⟩), (.int .i64 z3932.2.2.2.1)], boxE g4144 31 #[(.int .i64 0), (.string ⟨List.toArray ([] : List UInt8)⟩), (.string ⟨List.toArray ([] : List UInt8)⟩), (.int .i64 0)], boxE g27 44 #[(.string ⟨List.toArray z4107.2.2.2.2.2.1⟩), (.int .i64 z4107.2.2.2.2.2.2.1), (.slice A4224 (List.length z4107.2.2.2.2.2.2.2) c4225)], rowT 63 (ePair eStr (ePair (eInt .i64) (ePair eStr (ePair eStr (eInt .i64))))) A4224 c4225 z4107.2.2.2.2.2.2.2] := SP.callS hs4218 [1, 0] [2, 3, 4, 5, 6, 7, 8] rfl rfl hs4223 rfl
          clear hs4223
          refine ⟨_, updO_known hkn, rfl, ?_⟩
          exact (Exists.intro g4144 (Exists.intro A4224 (Exists.intro c4225 (And.intro (And.intro q4219 (And.intro rfl (And.intro q4220 (trivial)))) (SP.sel hs4227 [0, 1, 2, 3, 4, 5, 7, 8, 6] rfl rfl)))))
        ·exact Owe.run K [(105, (.tuple #[(.agg #[(.int .i64 z4107.1), (.string ⟨List.toArray z4107.2.1⟩), (.string ⟨List.toArray z4107.2.2.1⟩), (.int .i64 z4107.2.2.2.1)]), (.int .i64 z4107.2.2.2.2.1)]))] ⟨gA 6 K K, trivial⟩ (.tuple #[(.agg #[(.int .i64 z4107.1), (.string ⟨List.toArray z4107.2.1⟩), (.string ⟨List.toArray z4107.2.2.1⟩), (.int .i64 z4107.2.2.2.1)]), (.int .i64 z4107.2.2.2.2.1)]) (fun _ _ => K) rfl
        ·exact Owe.run K [(98, (.tuple #[(.agg #[(.int .i64 z4107.1), (.string ⟨List.toArray z4107.2.1⟩), (.string ⟨List.toArray z4107.2.2.1⟩), (.int .i64 z4107.2.2.2.1)]), (.int .i64 z4107.2.2.2.2.1)]))] ⟨gA 7 K K, trivial⟩ (.agg #[(.int .i64 z4107.1), (.string ⟨List.toArray z4107.2.1⟩), (.string ⟨List.toArray z4107.2.2.1⟩), (.int .i64 z4107.2.2.2.1)]) (fun _ _ => K) rfl
        ·exact Owe.run K [(98, (.tuple #[(.agg #[(.int .i64 z4107.1), (.string ⟨List.toArray z4107.2.1⟩), (.string ⟨List.toArray z4107.2.2.1⟩), (.int .i64 z4107.2.2.2.1)]), (.int .i64 z4107.2.2.2.2.1)]))] ⟨gA 7 K K, trivial⟩ (.int .i64 z4107.2.2.2.2.1) (fun _ _ => K) rfl
        ·refine Owe.heavy K [(0, 2), (1, 4), (3, 5)] K (all_cons ⟨K, K, ?_⟩ (all_cons ⟨K, K, ?_⟩ (all_cons ⟨K, K, ?_⟩ all_nil)))
         ·rintro ρ' w' hs hah ⟨hvl4229, hs4228⟩
          have hkn : Known ρ' [] := trivial
          refine Step.known _ hkn ?_
          refine Step.alloc (t := 31) (z := (.agg #[(.int .i64 0), (.string ⟨List.toArray ([] : List UInt8)⟩), (.string ⟨List.toArray ([] : List UInt8)⟩), (.int .i64 0)])) (d := (some 13)) (k := 10) K rfl K hs4228 ?_
          intro g4230 w4231 (hs4233 : SP [] w0 w4231 [rowT 63 (ePair eStr (ePair (eInt .i64) (ePair eStr (ePair eStr (eInt .i64))))) A2250 c2251 v2252, boxE g27 44 #[(.string ⟨List.toArray v2248⟩), (.int .i64 v2249), (.slice A2250 (List.length v2252) c2251)], rowT 9 eStr A2253 c2254 v2255, boxE g3355 33 #[(.int .i64 x3346.1), (.int .i64 x3346.2.1), (.string ⟨List.toArray x3346.2.2.1⟩), (.string ⟨List.toArray x3346.2.2.2.1⟩), (.int .i64 x3346.2.2.2.2.1), (.string ⟨List.toArray x3346.2.2.2.2.2.1⟩), (.int .i64 x3346.2.2.2.2.2.2.1), (.string ⟨List.toArray x3346.2.2.2.2.2.2.2.1⟩), (.string ⟨List.toArray x3346.2.2.2.2.2.2.2.2⟩)], boxE g16 56 #[(.slice A3999 (List.length z3932.2.2.2.2.2.1) c4000), (.int .i64 z3932.2.2.2.2.2.2.1), (.slice A4001 (List.length z3932.2.2.2.2.2.2.2) c4002)], rdE eU8 A3999 c4000 z3932.2.2.2.2.2.1, rowT 59 (ePair (eInt .i64) (ePair eStr (ePair eStr (ePair (eInt .i64) eStr)))) A4001 c4002 z3932.2.2.2.2.2.2.2, boxE g4005 31 #[(.int .i64 z3932.1), (.string ⟨List.toArray z3932.2.1⟩), (.string ⟨List.toArray z3932.2.2.1⟩), (.int .i64 z3932.2.2.2.1)], boxE g4230 31 #[(.int .i64 0), (.string ⟨List.toArray ([] : List UInt8)⟩), (.string ⟨List.toArray ([] : List UInt8)⟩), (.int .i64 0)]])
          refine ⟨_, updO_known hkn, trivial, ?_⟩
          exact (Exists.intro g4230 (And.intro (And.intro rfl (trivial)) (hs4233)))
         ·rintro ρ' w' hs hah ⟨⟨q4235, -⟩, hs4234⟩
          have hkn : Known ρ' [] := trivial
          refine Step.known _ hkn ?_
          refine Step.alloc (t := 31) (z := (.agg #[(.int .i64 0), (.string ⟨List.toArray ([] : List UInt8)⟩), (.string ⟨List.toArray ([] : List UInt8)⟩), (.int .i64 0)])) (d := (some 13)) (k := 10) K rfl K hs4234 ?_
          intro g4237 w4238 (hs4240 : SP [] w0 w4238 [rowT 63 (ePair eStr (ePair (eInt .i64) (ePair eStr (ePair eStr (eInt .i64))))) A2250 c2251 v2252, boxE g27 44 #[(.string ⟨List.toArray v2248⟩), (.int .i64 v2249), (.slice A2250 (List.length v2252) c2251)], rowT 9 eStr A2253 c2254 v2255, boxE g3355 33 #[(.int .i64 x3346.1), (.int .i64 x3346.2.1), (.string ⟨List.toArray x3346.2.2.1⟩), (.string ⟨List.toArray x3346.2.2.2.1⟩), (.int .i64 x3346.2.2.2.2.1), (.string ⟨List.toArray x3346.2.2.2.2.2.1⟩), (.int .i64 x3346.2.2.2.2.2.2.1), (.string ⟨List.toArray x3346.2.2.2.2.2.2.2.1⟩), (.string ⟨List.toArray x3346.2.2.2.2.2.2.2.2⟩)], boxE g16 56 #[(.slice A3999 (List.length z3932.2.2.2.2.2.1) c4000), (.int .i64 z3932.2.2.2.2.2.2.1), (.slice A4001 (List.length z3932.2.2.2.2.2.2.2) c4002)], rdE eU8 A3999 c4000 z3932.2.2.2.2.2.1, rowT 59 (ePair (eInt .i64) (ePair eStr (ePair eStr (ePair (eInt .i64) eStr)))) A4001 c4002 z3932.2.2.2.2.2.2.2, boxE g4005 31 #[(.int .i64 z3932.1), (.string ⟨List.toArray z3932.2.1⟩), (.string ⟨List.toArray z3932.2.2.1⟩), (.int .i64 z3932.2.2.2.1)], boxE g4237 31 #[(.int .i64 0), (.string ⟨List.toArray ([] : List UInt8)⟩), (.string ⟨List.toArray ([] : List UInt8)⟩), (.int .i64 0)]])
          refine ⟨_, updO_known hkn, trivial, ?_⟩
          exact (Exists.intro g4237 (And.intro (And.intro q4235 (And.intro rfl (trivial))) (hs4240)))
         ·rintro ρ' w' hs hah ⟨A4136, c4137, ⟨q4242, q4243, -⟩, hs4241⟩
          have hkn : Known ρ' [] := trivial
          refine Step.known _ hkn ?_
          refine Step.alloc (t := 31) (z := (.agg #[(.int .i64 0), (.string ⟨List.toArray ([] : List UInt8)⟩), (.string ⟨List.toArray ([] : List UInt8)⟩), (.int .i64 0)])) (d := (some 13)) (k := 10) K rfl K hs4241 ?_
          intro g4245 w4246 (hs4248 : SP [] w0 w4246 [rowT 9 eStr A2253 c2254 v2255, boxE g3355 33 #[(.int .i64 x3346.1), (.int .i64 x3346.2.1), (.string ⟨List.toArray x3346.2.2.1⟩), (.string ⟨List.toArray x3346.2.2.2.1⟩), (.int .i64 x3346.2.2.2.2.1), (.string ⟨List.toArray x3346.2.2.2.2.2.1⟩), (.int .i64 x3346.2.2.2.2.2.2.1), (.string ⟨List.toArray x3346.2.2.2.2.2.2.2.1⟩), (.string ⟨List.toArray x3346.2.2.2.2.2.2.2.2⟩)], boxE g16 56 #[(.slice A3999 (List.length z3932.2.2.2.2.2.1) c4000), (.int .i64 z3932.2.2.2.2.2.2.1), (.slice A4001 (List.length z3932.2.2.2.2.2.2.2) c4002)], rdE eU8 A3999 c4000 z3932.2.2.2.2.2.1, rowT 59 (ePair (eInt .i64) (ePair eStr (ePair eStr (ePair (eInt .i64) eStr)))) A4001 c4002 z3932.2.2.2.2.2.2.2, boxE g4005 31 #[(.int .i64 z3932.1), (.string ⟨List.toArray z3932.2.1⟩), (.string ⟨List.toArray z3932.2.2.1⟩), (.int .i64 z3932.2.2.2.1)], boxE g27 44 #[(.string ⟨List.toArray z4107.2.2.2.2.2.1⟩), (.int .i64 z4107.2.2.2.2.2.2.1), (.slice A4136 (List.length z4107.2.2.2.2.2.2.2) c4137)], rowT 63 (ePair eStr (ePair (eInt .i64) (ePair eStr (ePair eStr (eInt .i64))))) A4136 c4137 z4107.2.2.2.2.2.2.2, boxE g4245 31 #[(.int .i64 0), (.string ⟨List.toArray ([] : List UInt8)⟩), (.string ⟨List.toArray ([] : List UInt8)⟩), (.int .i64 0)]])
          refine ⟨_, updO_known hkn, trivial, ?_⟩
          exact (Exists.intro g4245 (Exists.intro A4136 (Exists.intro c4137 (And.intro (And.intro q4242 (And.intro q4243 (And.intro rfl (trivial)))) (hs4248)))))
        ·refine Owe.heavy K [(5, 6)] K (all_cons ⟨K, K, ?_⟩ all_nil)
         ·rintro ρ' w' hs hah ⟨g4158, A4154, c4155, ⟨q4250, q4251, q4252, -⟩, hs4249⟩
          have hkn : Known ρ' [(13, (pt g4158 0)), (106, (.agg #[(.int .i64 z4107.1), (.string ⟨List.toArray z4107.2.1⟩), (.string ⟨List.toArray z4107.2.2.1⟩), (.int .i64 z4107.2.2.2.1)]))] := ⟨(valF_eq (h := 10) K).symm.trans q4252, hah 8 106 K, trivial⟩
          refine Step.known _ hkn ?_
          refine Step.store (t := 31) (x := (.tmp 13)) (y := (.tmp 106)) (g := g4158) (off := 0) (i := 8) (v := (.agg #[(.int .i64 z4107.1), (.string ⟨List.toArray z4107.2.1⟩), (.string ⟨List.toArray z4107.2.2.1⟩), (.int .i64 z4107.2.2.2.1)])) (cs' := #[(.int .i64 z4107.1), (.string ⟨List.toArray z4107.2.1⟩), (.string ⟨List.toArray z4107.2.2.1⟩), (.int .i64 z4107.2.2.2.1)]) (d := none) (k := 11) K rfl K K hs4249 rfl K ?_
          intro w4254 (hs4256 : SP [] w0 w4254 [rowT 9 eStr A2253 c2254 v2255, boxE g3355 33 #[(.int .i64 x3346.1), (.int .i64 x3346.2.1), (.string ⟨List.toArray x3346.2.2.1⟩), (.string ⟨List.toArray x3346.2.2.2.1⟩), (.int .i64 x3346.2.2.2.2.1), (.string ⟨List.toArray x3346.2.2.2.2.2.1⟩), (.int .i64 x3346.2.2.2.2.2.2.1), (.string ⟨List.toArray x3346.2.2.2.2.2.2.2.1⟩), (.string ⟨List.toArray x3346.2.2.2.2.2.2.2.2⟩)], boxE g16 56 #[(.slice A3999 (List.length z3932.2.2.2.2.2.1) c4000), (.int .i64 z3932.2.2.2.2.2.2.1), (.slice A4001 (List.length z3932.2.2.2.2.2.2.2) c4002)], rdE eU8 A3999 c4000 z3932.2.2.2.2.2.1, rowT 59 (ePair (eInt .i64) (ePair eStr (ePair eStr (ePair (eInt .i64) eStr)))) A4001 c4002 z3932.2.2.2.2.2.2.2, boxE g4005 31 #[(.int .i64 z3932.1), (.string ⟨List.toArray z3932.2.1⟩), (.string ⟨List.toArray z3932.2.2.1⟩), (.int .i64 z3932.2.2.2.1)], boxE g27 44 #[(.string ⟨List.toArray z4107.2.2.2.2.2.1⟩), (.int .i64 z4107.2.2.2.2.2.2.1), (.slice A4154 (List.length z4107.2.2.2.2.2.2.2) c4155)], rowT 63 (ePair eStr (ePair (eInt .i64) (ePair eStr (ePair eStr (eInt .i64))))) A4154 c4155 z4107.2.2.2.2.2.2.2, boxE g4158 31 #[(.int .i64 z4107.1), (.string ⟨List.toArray z4107.2.1⟩), (.string ⟨List.toArray z4107.2.2.1⟩), (.int .i64 z4107.2.2.2.1)]])
          refine ⟨_, updO_known hkn, trivial, ?_⟩
          exact (Exists.intro g4158 (Exists.intro A4154 (Exists.intro c4155 (And.intro (And.intro q4250 (And.intro q4251 (And.intro q4252 (And.intro rfl (trivial))))) (hs4256)))))
        ·exact Owe.run K [(107, (.int .i64 z4107.2.2.2.2.1))] ⟨gA 9 K K, trivial⟩ (.int .i64 z4107.2.2.2.2.1) (fun _ _ => K) rfl
        ·rintro ρ' w' hs hf ⟨g4172, A4168, c4169, ⟨q4258, q4259, q4260, q4261, -⟩, hs4257⟩
         refine postKnown [(1, (.slice A3 (List.length p2) c4)), (5, (.bool z6)), (6, (pt g16 0)), (7, (pt g27 0)), (8, (.slice A2253 (List.length v2255) c2254)), (9, (.int .i64 v2256)), (11, (pt g4005 0)), (12, (.int .i64 z3932.2.2.2.2.1)), (13, (pt g4172 0)), (14, (.int .i64 z4107.2.2.2.2.1))] ⟨(hs 1 K).trans K, (hs 5 K).trans K, (hs 6 K).trans K, (hs 7 K).trans K, (hs 8 K).trans K, (hs 9 K).trans K, (hs 11 K).trans K, (hs 12 K).trans K, (valF_eq (h := 10) K).symm.trans q4260, hf 12 14 K, trivial⟩ ?_
         obtain ⟨w4263, hww4263⟩ : ∃ x, w' = x := ⟨_, rfl⟩
         rw [hww4263] at hs4257 ⊢
         refine At.sq K ?_
         refine At.join (fun ρ w => ∃ (v4265 : Bool), Known ρ [(1, (.slice A3 (List.length p2) c4)), (5, (.bool z6)), (6, (pt g16 0)), (7, (pt g27 0)), (8, (.slice A2253 (List.length v2255) c2254)), (9, (.int .i64 v2256)), (115, (.bool v4265))] ∧ SP [] w0 w [rdE eU8 A3999 c4000 z3932.2.2.2.2.2.1, rowT 59 (ePair (eInt .i64) (ePair eStr (ePair eStr (ePair (eInt .i64) eStr)))) A4001 c4002 z3932.2.2.2.2.2.2.2, boxE g16 56 #[(.slice A3999 (List.length z3932.2.2.2.2.2.1) c4000), (.int .i64 z3932.2.2.2.2.2.2.1), (.slice A4001 (List.length z3932.2.2.2.2.2.2.2) c4002)], rowT 63 (ePair eStr (ePair (eInt .i64) (ePair eStr (ePair eStr (eInt .i64))))) A4168 c4169 z4107.2.2.2.2.2.2.2, boxE g27 44 #[(.string ⟨List.toArray z4107.2.2.2.2.2.1⟩), (.int .i64 z4107.2.2.2.2.2.2.1), (.slice A4168 (List.length z4107.2.2.2.2.2.2.2) c4169)], rowT 9 eStr A2253 c2254 v2255] ∧ L_subwaylaw15_TicketPlays_k49 (L_subwaylaw15_TicketPlays_l28 p2 z6 f41) v2255 v2256 z3932 z4107 v4265 = some r) ?_ ?_
         ·refine At.region K K ?_
          refine In.step (k' := 1) rfl K ?_
          refine Step.load (t := 31) (x := (.tmp 11)) (g := g4005) (off := 0) (i := 5) (v := (.agg #[(.int .i64 z3932.1), (.string ⟨List.toArray z3932.2.1⟩), (.string ⟨List.toArray z3932.2.2.1⟩), (.int .i64 z3932.2.2.2.1)])) (d := (some 108)) (k := 0) K rfl K hs4257 rfl K ?_
          refine In.step (k' := 2) rfl K ?_
          refine Step.load (t := 31) (x := (.tmp 13)) (g := g4172) (off := 0) (i := 8) (v := (.agg #[(.int .i64 z4107.1), (.string ⟨List.toArray z4107.2.1⟩), (.string ⟨List.toArray z4107.2.2.1⟩), (.int .i64 z4107.2.2.2.1)])) (d := (some 109)) (k := 1) K rfl K hs4257 rfl K ?_
          refine In.step (k' := 3) rfl K ?_
          refine Step.bin (op := .neq) (T := 31) (T' := 31) (x := (.tmp 108)) (y := (.tmp 109)) (vx := (.agg #[(.int .i64 z3932.1), (.string ⟨List.toArray z3932.2.1⟩), (.string ⟨List.toArray z3932.2.2.1⟩), (.int .i64 z3932.2.2.2.1)])) (vy := (.agg #[(.int .i64 z4107.1), (.string ⟨List.toArray z4107.2.1⟩), (.string ⟨List.toArray z4107.2.2.1⟩), (.int .i64 z4107.2.2.2.1)])) (v := (.bool (!((z3932.1 == z4107.1) && ((z3932.2.1 == z4107.2.1) && ((z3932.2.2.1 == z4107.2.2.1) && (z3932.2.2.2.1 == z4107.2.2.2.1))))))) (d := (some 110)) (k := 2) K rfl K K (by clear H; intro w; simp only [beq_dec]; go_simp; simp only [struct_ifn, struct_ifn0, struct_if, beq_dec, Bool.and_true] <;> simp only [Bool.not_and]) ?_
          refine In.run' 1 (k' := 4) rfl [(111, (.bool (!((z3932.1 == z4107.1) && ((z3932.2.1 == z4107.2.1) && ((z3932.2.2.1 == z4107.2.2.1) && (z3932.2.2.2.1 == z4107.2.2.2.1)))))))] K ?_
          refine In.guard (t := 111) (b := (!((z3932.1 == z4107.1) && ((z3932.2.1 == z4107.2.1) && ((z3932.2.2.1 == z4107.2.2.1) && (z3932.2.2.2.1 == z4107.2.2.2.1)))))) K (fun hb4269 => ?_) (fun hb4269 => ?_)
          ·have H := ct H hb4269
           refine In.run' 4 (k' := 8) rfl [(112, undef), (113, undef), (114, undef), (115, (.bool true))] K ?_
           refine In.fin K ?_
           exact ⟨true, ⟨K, K, K, K, K, K, K, trivial⟩, SP.sel hs4257 [3, 4, 2, 7, 6, 0] rfl rfl, H⟩
          ·have H := cf H hb4269
           refine In.run' 4 (k' := 8) rfl [(112, (.int .i64 z3932.2.2.2.2.1)), (113, (.int .i64 z4107.2.2.2.2.1)), (114, (.bool (z3932.2.2.2.2.1 != z4107.2.2.2.2.1))), (115, (.bool (z3932.2.2.2.2.1 != z4107.2.2.2.2.1)))] K ?_
           refine In.fin K ?_
           exact ⟨(z3932.2.2.2.2.1 != z4107.2.2.2.2.1), ⟨K, K, K, K, K, K, K, trivial⟩, SP.sel hs4257 [3, 4, 2, 7, 6, 0] rfl rfl, H⟩
         ·rintro ρ w4266 ⟨v4265, hk, hs4267, H⟩
          unfold L_subwaylaw15_TicketPlays_k49 at H
          first | refine At.known [(1, (.slice A3 (List.length p2) c4)), (5, (.bool z6)), (6, (pt g16 0)), (7, (pt g27 0)), (8, (.slice A2253 (List.length v2255) c2254)), (9, (.int .i64 v2256)), (115, (.bool v4265))] hk ?_ | rw [← known_updL (l := [(1, (.slice A3 (List.length p2) c4)), (5, (.bool z6)), (6, (pt g16 0)), (7, (pt g27 0)), (8, (.slice A2253 (List.length v2255) c2254)), (9, (.int .i64 v2256)), (115, (.bool v4265))]) hk]
          refine At.cd K (o := (.tmp 115)) K (b := v4265) K (fun hb4268 => ?_) (fun hb4268 => ?_)
          ·have H := ct H hb4268
           refine At.sq K ?_
           refine At.region K K ?_
           refine In.run' 1 (k' := 1) rfl [(4, (.bool false))] K ?_
           refine In.fin K ?_
           refine At.ret K ?_
           refine ⟨(.bool false), K, ?_⟩
           obtain rfl := some_elim H
           exact ⟨rfl, SP.sel hs4267 [] rfl rfl⟩
          ·have H := cf H hb4268
           refine At.skip K ?_
           exact ⟨z3932.2.2.2.2.2.1, z3932.2.2.2.2.2.2.1, z3932.2.2.2.2.2.2.2, z4107.2.2.2.2.2.1, z4107.2.2.2.2.2.2.1, z4107.2.2.2.2.2.2.2, v2255, A3999, c4000, A4001, c4002, A4168, c4169, A2253, c2254, ⟨K, K, K, K, K, K, trivial⟩, SP.sel hs4267 [0, 1, 2, 3, 4, 5] rfl rfl, H⟩
      ·have H := cf H hb3925
       refine At.sq K ?_
       refine At.region K K ?_
       refine In.run' 2 (k' := 2) rfl [(117, (.bool (x3346.1 == 3))), (116, (.bool (x3346.1 == 3)))] K ?_
       refine In.fin K ?_
       refine At.join (fun ρ w => ∃ (v4345 : (List UInt8)) (v4346 : Int) (v4349 : (List (Int × (List UInt8) × (List UInt8) × Int × (List UInt8)))) (v4350 : (List UInt8)) (v4351 : Int) (v4354 : (List ((List UInt8) × Int × (List UInt8) × (List UInt8) × Int))) (v4357 : (List (List UInt8))) (A4343 : Option Addr) (c4344 : Nat) (A4347 : Option Addr) (c4348 : Nat) (A4352 : Option Addr) (c4353 : Nat) (A4355 : Option Addr) (c4356 : Nat), Known ρ [(1, (.slice A3 (List.length p2) c4)), (5, (.bool z6)), (6, (pt g16 0)), (7, (pt g27 0)), (8, (.slice A4355 (List.length v4357) c4356)), (9, (.int .i64 v2256))] ∧ SP [] w0 w [rdE eU8 A4343 c4344 v4345, rowT 59 (ePair (eInt .i64) (ePair eStr (ePair eStr (ePair (eInt .i64) eStr)))) A4347 c4348 v4349, boxE g16 56 #[(.slice A4343 (List.length v4345) c4344), (.int .i64 v4346), (.slice A4347 (List.length v4349) c4348)], rowT 63 (ePair eStr (ePair (eInt .i64) (ePair eStr (ePair eStr (eInt .i64))))) A4352 c4353 v4354, boxE g27 44 #[(.string ⟨List.toArray v4350⟩), (.int .i64 v4351), (.slice A4352 (List.length v4354) c4353)], rowT 9 eStr A4355 c4356 v4357] ∧ L_subwaylaw15_TicketPlays_k52 (L_subwaylaw15_TicketPlays_l28 p2 z6 f41) v2256 v4345 v4346 v4349 v4350 v4351 v4354 v4357 = some r) ?_ ?_
       ·refine At.cd K (o := (.tmp 116)) K (b := (x3346.1 == 3)) K (fun hb4360 => ?_) (fun hb4360 => ?_)
        ·have H := ct H hb4360
         refine At.sq K ?_
         refine At.region K K ?_
         refine In.run' 3 (k' := 3) rfl [(118, (pt g16 0)), (119, (pt g3355 1)), (120, (pt g3355 1))] K ?_
         refine In.step (k' := 4) rfl K ?_
         refine Step.load (t := 3) (x := (.tmp 120)) (g := g3355) (off := 1) (i := 6) (v := (.int .i64 x3346.2.1)) (d := (some 121)) (k := 3) K rfl K hs3361 rfl K ?_
         obtain ⟨z4361, hz4362, H⟩ := bind_elim H
         refine In.step (k' := 5) rfl K ?_
         refine Step.callF (f := 16) (fo := (.func 16)) (xs := #[(.tmp 118), (.tmp 121)]) (tys := #[24, 3]) (first := #[]) (captured := #[]) (d := (some 122)) (k := 4) K rfl K K Tryd.call16 (L_ticket_Book_Void_walk g16 A2241 c2242 A2245 c2246 v2243 v2244 v2247 x3346.2.1 w3359 (SP.sub hs3361 [2, 0, 1] rfl rfl) z4361 hz4362) ?_
         rintro e w4363 ⟨A4365, c4366, A4367, c4368, rfl, hs4364⟩
         refine ⟨_, rfl, ?_⟩
         have hs4370 : SP [] w0 w4363 [rowT 63 (ePair eStr (ePair (eInt .i64) (ePair eStr (ePair eStr (eInt .i64))))) A2250 c2251 v2252, boxE g27 44 #[(.string ⟨List.toArray v2248⟩), (.int .i64 v2249), (.slice A2250 (List.length v2252) c2251)], rowT 9 eStr A2253 c2254 v2255, boxE g3355 33 #[(.int .i64 x3346.1), (.int .i64 x3346.2.1), (.string ⟨List.toArray x3346.2.2.1⟩), (.string ⟨List.toArray x3346.2.2.2.1⟩), (.int .i64 x3346.2.2.2.2.1), (.string ⟨List.toArray x3346.2.2.2.2.2.1⟩), (.int .i64 x3346.2.2.2.2.2.2.1), (.string ⟨List.toArray x3346.2.2.2.2.2.2.2.1⟩), (.string ⟨List.toArray x3346.2.2.2.2.2.2.2.2⟩)], boxE g16 56 #[(.slice A4365 (List.length z4361.2.1) c4366), (.int .i64 z4361.2.2.1), (.slice A4367 (List.length z4361.2.2.2) c4368)], rdE eU8 A4365 c4366 z4361.2.1, rowT 59 (ePair (eInt .i64) (ePair eStr (ePair eStr (ePair (eInt .i64) eStr)))) A4367 c4368 z4361.2.2.2] := SP.callS hs3361 [2, 0, 1] [3, 4, 5, 6] rfl rfl hs4364 rfl
         clear hs4364
         refine In.run' 1 (k' := 6) rfl [(15, (.bool z4361.1))] K ?_
         refine In.fin K ?_
         refine At.sq K ?_
         refine At.region K K ?_
         refine In.run' 3 (k' := 3) rfl [(123, (pt g27 0)), (124, (pt g3355 1)), (125, (pt g3355 1))] K ?_
         refine In.step (k' := 4) rfl K ?_
         refine Step.load (t := 3) (x := (.tmp 125)) (g := g3355) (off := 1) (i := 3) (v := (.int .i64 x3346.2.1)) (d := (some 126)) (k := 3) K rfl K hs4370 rfl K ?_
         obtain ⟨z4371, hz4372, H⟩ := bind_elim H
         refine In.step (k' := 5) rfl K ?_
         refine Step.callF (f := 17) (fo := (.func 17)) (xs := #[(.tmp 123), (.tmp 126)]) (tys := #[26, 3]) (first := #[]) (captured := #[]) (d := (some 127)) (k := 4) K rfl K K Tryd.call17 (L_subwayref15_Book_Void_walk g27 A2250 c2251 v2248 v2249 v2252 x3346.2.1 w4363 (SP.sub hs4370 [1, 0] rfl rfl) z4371 hz4372) ?_
         rintro e w4373 ⟨A4375, c4376, rfl, hs4374⟩
         refine ⟨_, rfl, ?_⟩
         have hs4378 : SP [] w0 w4373 [rowT 9 eStr A2253 c2254 v2255, boxE g3355 33 #[(.int .i64 x3346.1), (.int .i64 x3346.2.1), (.string ⟨List.toArray x3346.2.2.1⟩), (.string ⟨List.toArray x3346.2.2.2.1⟩), (.int .i64 x3346.2.2.2.2.1), (.string ⟨List.toArray x3346.2.2.2.2.2.1⟩), (.int .i64 x3346.2.2.2.2.2.2.1), (.string ⟨List.toArray x3346.2.2.2.2.2.2.2.1⟩), (.string ⟨List.toArray x3346.2.2.2.2.2.2.2.2⟩)], boxE g16 56 #[(.slice A4365 (List.length z4361.2.1) c4366), (.int .i64 z4361.2.2.1), (.slice A4367 (List.length z4361.2.2.2) c4368)], rdE eU8 A4365 c4366 z4361.2.1, rowT 59 (ePair (eInt .i64) (ePair eStr (ePair eStr (ePair (eInt .i64) eStr)))) A4367 c4368 z4361.2.2.2, boxE g27 44 #[(.string ⟨List.toArray z4371.2.1⟩), (.int .i64 z4371.2.2.1), (.slice A4375 (List.length z4371.2.2.2) c4376)], rowT 63 (ePair eStr (ePair (eInt .i64) (ePair eStr (ePair eStr (eInt .i64))))) A4375 c4376 z4371.2.2.2] := SP.callS hs4370 [1, 0] [2, 3, 4, 5, 6] rfl rfl hs4374 rfl
         clear hs4374
         refine In.run' 1 (k' := 6) rfl [(16, (.bool z4371.1))] K ?_
         refine In.fin K ?_
         refine At.sq K ?_
         refine At.region K K ?_
         refine In.run' 3 (k' := 3) rfl [(128, (.bool z4361.1)), (129, (.bool z4371.1)), (130, (.bool (!(z4361.1 == z4371.1))))] K ?_
         refine In.fin K ?_
         refine At.cd K (o := (.tmp 130)) K (b := (!(z4361.1 == z4371.1))) K (fun hb4379 => ?_) (fun hb4379 => ?_)
         ·have H := ct H hb4379
          refine At.sq K ?_
          refine At.region K K ?_
          refine In.run' 1 (k' := 1) rfl [(4, (.bool false))] K ?_
          refine In.fin K ?_
          refine At.ret K ?_
          refine ⟨(.bool false), K, ?_⟩
          obtain rfl := some_elim H
          exact ⟨rfl, SP.sel hs4378 [] rfl rfl⟩
         ·have H := cf H hb4379
          refine At.skip K ?_
          exact ⟨z4361.2.1, z4361.2.2.1, z4361.2.2.2, z4371.2.1, z4371.2.2.1, z4371.2.2.2, v2255, A4365, c4366, A4367, c4368, A4375, c4376, A2253, c2254, ⟨K, K, K, K, K, K, trivial⟩, SP.sel hs4378 [3, 4, 2, 6, 5, 0] rfl rfl, H⟩
        ·have H := cf H hb4360
         refine At.sq K ?_
         refine At.region K K ?_
         refine In.run' 2 (k' := 2) rfl [(55, (pt g16 0)), (56, (pt g3355 1))] K ?_
         refine In.step (k' := 3) rfl K ?_
         refine Step.load (t := 31) (x := (.tmp 56)) (g := g3355) (off := 1) (i := 6) (v := (.agg #[(.int .i64 x3346.2.1), (.string ⟨List.toArray x3346.2.2.1⟩), (.string ⟨List.toArray x3346.2.2.2.1⟩), (.int .i64 x3346.2.2.2.2.1)])) (d := (some 57)) (k := 2) K rfl K hs3361 rfl K ?_
         refine In.run' 1 (k' := 4) rfl [(58, (pt g3355 5))] K ?_
         refine In.step (k' := 5) rfl K ?_
         refine Step.load (t := 9) (x := (.tmp 58)) (g := g3355) (off := 5) (i := 6) (v := (.string ⟨List.toArray x3346.2.2.2.2.2.1⟩)) (d := (some 59)) (k := 4) K rfl K hs3361 rfl K ?_
         obtain ⟨z4380, hz4381, H⟩ := bind_elim H
         refine In.step (k' := 6) rfl K ?_
         refine Step.callF (f := 18) (fo := (.func 18)) (xs := #[(.tmp 55), (.tmp 57), (.tmp 59)]) (tys := #[24, 31, 9]) (first := #[]) (captured := #[]) (d := (some 60)) (k := 5) K rfl K K Tryd.call18 (L_ticket_Book_Issue_walk g16 A2241 c2242 A2245 c2246 v2243 v2244 v2247 x3346.2.1 x3346.2.2.1 x3346.2.2.2.1 x3346.2.2.2.2.1 x3346.2.2.2.2.2.1 w3359 (fun w hm => laid_below hL (SP.below_of hs3361 (l := [2, 0, 1]) rfl hm)) (SP.sub hs3361 [2, 0, 1] rfl rfl) z4380 hz4381) ?_
         rintro e w4382 ⟨A4384, c4385, A4386, c4387, rfl, hs4383⟩
         refine ⟨_, rfl, ?_⟩
         have hs4389 : SP [] w0 w4382 [rowT 63 (ePair eStr (ePair (eInt .i64) (ePair eStr (ePair eStr (eInt .i64))))) A2250 c2251 v2252, boxE g27 44 #[(.string ⟨List.toArray v2248⟩), (.int .i64 v2249), (.slice A2250 (List.length v2252) c2251)], rowT 9 eStr A2253 c2254 v2255, boxE g3355 33 #[(.int .i64 x3346.1), (.int .i64 x3346.2.1), (.string ⟨List.toArray x3346.2.2.1⟩), (.string ⟨List.toArray x3346.2.2.2.1⟩), (.int .i64 x3346.2.2.2.2.1), (.string ⟨List.toArray x3346.2.2.2.2.2.1⟩), (.int .i64 x3346.2.2.2.2.2.2.1), (.string ⟨List.toArray x3346.2.2.2.2.2.2.2.1⟩), (.string ⟨List.toArray x3346.2.2.2.2.2.2.2.2⟩)], boxE g16 56 #[(.slice A4384 (List.length z4380.2.2.1) c4385), (.int .i64 z4380.2.2.2.1), (.slice A4386 (List.length z4380.2.2.2.2) c4387)], rdE eU8 A4384 c4385 z4380.2.2.1, rowT 59 (ePair (eInt .i64) (ePair eStr (ePair eStr (ePair (eInt .i64) eStr)))) A4386 c4387 z4380.2.2.2.2] := SP.callS hs3361 [2, 0, 1] [3, 4, 5, 6] rfl rfl hs4383 rfl
         clear hs4383
         refine In.run' 5 (k' := 11) rfl [(54, (.tuple #[(.string ⟨List.toArray z4380.1⟩), (.int .i64 z4380.2.1)])), (61, (.string ⟨List.toArray z4380.1⟩)), (62, (.int .i64 z4380.2.1)), (17, (.string ⟨List.toArray z4380.1⟩)), (18, (.int .i64 z4380.2.1))] K ?_
         refine In.fin K ?_
         refine At.sq K ?_
         refine At.region K K ?_
         refine In.run' 2 (k' := 2) rfl [(64, (pt g27 0)), (65, (pt g3355 1))] K ?_
         refine In.step (k' := 3) rfl K ?_
         refine Step.load (t := 31) (x := (.tmp 65)) (g := g3355) (off := 1) (i := 3) (v := (.agg #[(.int .i64 x3346.2.1), (.string ⟨List.toArray x3346.2.2.1⟩), (.string ⟨List.toArray x3346.2.2.2.1⟩), (.int .i64 x3346.2.2.2.2.1)])) (d := (some 66)) (k := 2) K rfl K hs4389 rfl K ?_
         refine In.run' 1 (k' := 4) rfl [(67, (pt g3355 5))] K ?_
         refine In.step (k' := 5) rfl K ?_
         refine Step.load (t := 9) (x := (.tmp 67)) (g := g3355) (off := 5) (i := 3) (v := (.string ⟨List.toArray x3346.2.2.2.2.2.1⟩)) (d := (some 68)) (k := 4) K rfl K hs4389 rfl K ?_
         obtain ⟨z4390, hz4391, H⟩ := bind_elim H
         refine In.step (k' := 6) rfl K ?_
         refine Step.callF (f := 19) (fo := (.func 19)) (xs := #[(.tmp 64), (.tmp 66), (.tmp 68)]) (tys := #[26, 31, 9]) (first := #[]) (captured := #[]) (d := (some 69)) (k := 5) K rfl K K Tryd.call19 (L_subwayref15_Book_Issue_walk g27 A2250 c2251 v2248 v2249 v2252 x3346.2.1 x3346.2.2.1 x3346.2.2.2.1 x3346.2.2.2.2.1 x3346.2.2.2.2.2.1 w4382 (SP.sub hs4389 [1, 0] rfl rfl) z4390 hz4391) ?_
         rintro e w4392 ⟨A4394, c4395, rfl, hs4393⟩
         refine ⟨_, rfl, ?_⟩
         have hs4397 : SP [] w0 w4392 [rowT 9 eStr A2253 c2254 v2255, boxE g3355 33 #[(.int .i64 x3346.1), (.int .i64 x3346.2.1), (.string ⟨List.toArray x3346.2.2.1⟩), (.string ⟨List.toArray x3346.2.2.2.1⟩), (.int .i64 x3346.2.2.2.2.1), (.string ⟨List.toArray x3346.2.2.2.2.2.1⟩), (.int .i64 x3346.2.2.2.2.2.2.1), (.string ⟨List.toArray x3346.2.2.2.2.2.2.2.1⟩), (.string ⟨List.toArray x3346.2.2.2.2.2.2.2.2⟩)], boxE g16 56 #[(.slice A4384 (List.length z4380.2.2.1) c4385), (.int .i64 z4380.2.2.2.1), (.slice A4386 (List.length z4380.2.2.2.2) c4387)], rdE eU8 A4384 c4385 z4380.2.2.1, rowT 59 (ePair (eInt .i64) (ePair eStr (ePair eStr (ePair (eInt .i64) eStr)))) A4386 c4387 z4380.2.2.2.2, boxE g27 44 #[(.string ⟨List.toArray z4390.2.2.1⟩), (.int .i64 z4390.2.2.2.1), (.slice A4394 (List.length z4390.2.2.2.2) c4395)], rowT 63 (ePair eStr (ePair (eInt .i64) (ePair eStr (ePair eStr (eInt .i64))))) A4394 c4395 z4390.2.2.2.2] := SP.callS hs4389 [1, 0] [2, 3, 4, 5, 6] rfl rfl hs4393 rfl
         clear hs4393
         refine In.run' 5 (k' := 11) rfl [(63, (.tuple #[(.string ⟨List.toArray z4390.1⟩), (.int .i64 z4390.2.1)])), (70, (.string ⟨List.toArray z4390.1⟩)), (71, (.int .i64 z4390.2.1)), (19, (.string ⟨List.toArray z4390.1⟩)), (20, (.int .i64 z4390.2.1))] K ?_
         refine In.fin K ?_
         refine At.sq K ?_
         refine At.sq K ?_
         refine At.join (fun ρ w => ∃ (v4399 : Bool), Known ρ [(1, (.slice A3 (List.length p2) c4)), (5, (.bool z6)), (6, (pt g16 0)), (7, (pt g27 0)), (8, (.slice A2253 (List.length v2255) c2254)), (9, (.int .i64 v2256)), (17, (.string ⟨List.toArray z4380.1⟩)), (18, (.int .i64 z4380.2.1)), (79, (.bool v4399))] ∧ SP [] w0 w [rdE eU8 A4384 c4385 z4380.2.2.1, rowT 59 (ePair (eInt .i64) (ePair eStr (ePair eStr (ePair (eInt .i64) eStr)))) A4386 c4387 z4380.2.2.2.2, boxE g16 56 #[(.slice A4384 (List.length z4380.2.2.1) c4385), (.int .i64 z4380.2.2.2.1), (.slice A4386 (List.length z4380.2.2.2.2) c4387)], rowT 63 (ePair eStr (ePair (eInt .i64) (ePair eStr (ePair eStr (eInt .i64))))) A4394 c4395 z4390.2.2.2.2, boxE g27 44 #[(.string ⟨List.toArray z4390.2.2.1⟩), (.int .i64 z4390.2.2.2.1), (.slice A4394 (List.length z4390.2.2.2.2) c4395)], rowT 9 eStr A2253 c2254 v2255] ∧ L_subwaylaw15_TicketPlays_k53 (L_subwaylaw15_TicketPlays_l28 p2 z6 f41) v2255 v2256 z4380 z4390 v4399 = some r) ?_ ?_
         ·refine At.region K K ?_
          refine In.run' 2 (k' := 2) rfl [(72, (.string ⟨List.toArray z4380.1⟩)), (73, (.string ⟨List.toArray z4390.1⟩))] K ?_
          refine In.step (k' := 3) rfl K ?_
          refine Step.strOp (op := .neq) (T := 9) (T' := 9) (x := (.tmp 72)) (y := (.tmp 73)) (a := z4380.1) (b := z4390.1) (r := (.bool (!(z4380.1 == z4390.1)))) (d := (some 74)) (k := 2) K rfl K K rfl ?_
          refine In.run' 1 (k' := 4) rfl [(75, (.bool (!(z4380.1 == z4390.1))))] K ?_
          refine In.guard (t := 75) (b := (!(z4380.1 == z4390.1))) K (fun hb4432 => ?_) (fun hb4432 => ?_)
          ·have H := ct H hb4432
           refine In.run' 4 (k' := 8) rfl [(76, undef), (77, undef), (78, undef), (79, (.bool true))] K ?_
           refine In.fin K ?_
           exact ⟨true, ⟨K, K, K, K, K, K, K, K, K, trivial⟩, SP.sel hs4397 [3, 4, 2, 6, 5, 0] rfl rfl, H⟩
          ·have H := cf H hb4432
           refine In.run' 4 (k' := 8) rfl [(76, (.int .i64 z4380.2.1)), (77, (.int .i64 z4390.2.1)), (78, (.bool (z4380.2.1 != z4390.2.1))), (79, (.bool (z4380.2.1 != z4390.2.1)))] K ?_
           refine In.fin K ?_
           exact ⟨(z4380.2.1 != z4390.2.1), ⟨K, K, K, K, K, K, K, K, K, trivial⟩, SP.sel hs4397 [3, 4, 2, 6, 5, 0] rfl rfl, H⟩
         ·rintro ρ w4400 ⟨v4399, hk, hs4401, H⟩
          unfold L_subwaylaw15_TicketPlays_k53 at H
          first | refine At.known [(1, (.slice A3 (List.length p2) c4)), (5, (.bool z6)), (6, (pt g16 0)), (7, (pt g27 0)), (8, (.slice A2253 (List.length v2255) c2254)), (9, (.int .i64 v2256)), (17, (.string ⟨List.toArray z4380.1⟩)), (18, (.int .i64 z4380.2.1)), (79, (.bool v4399))] hk ?_ | rw [← known_updL (l := [(1, (.slice A3 (List.length p2) c4)), (5, (.bool z6)), (6, (pt g16 0)), (7, (pt g27 0)), (8, (.slice A2253 (List.length v2255) c2254)), (9, (.int .i64 v2256)), (17, (.string ⟨List.toArray z4380.1⟩)), (18, (.int .i64 z4380.2.1)), (79, (.bool v4399))]) hk]
          refine At.cd K (o := (.tmp 79)) K (b := v4399) K (fun hb4402 => ?_) (fun hb4402 => ?_)
          ·have H := ct H hb4402
           refine At.sq K ?_
           refine At.region K K ?_
           refine In.run' 1 (k' := 1) rfl [(4, (.bool false))] K ?_
           refine In.fin K ?_
           refine At.ret K ?_
           refine ⟨(.bool false), K, ?_⟩
           obtain rfl := some_elim H
           exact ⟨rfl, SP.sel hs4401 [] rfl rfl⟩
          ·have H := cf H hb4402
           refine At.skip K ?_
           refine At.sq K ?_
           refine At.region K K ?_
           refine In.run' 2 (k' := 2) rfl [(80, (.int .i64 z4380.2.1)), (81, (.bool (z4380.2.1 == 0)))] K ?_
           refine In.fin K ?_
           refine At.join (fun ρ w => ∃ (v4417 : (List (List UInt8))) (A4415 : Option Addr) (c4416 : Nat), Known ρ [(1, (.slice A3 (List.length p2) c4)), (5, (.bool z6)), (6, (pt g16 0)), (7, (pt g27 0)), (8, (.slice A4415 (List.length v4417) c4416)), (9, (.int .i64 v2256))] ∧ SP [] w0 w [rdE eU8 A4384 c4385 z4380.2.2.1, rowT 59 (ePair (eInt .i64) (ePair eStr (ePair eStr (ePair (eInt .i64) eStr)))) A4386 c4387 z4380.2.2.2.2, boxE g16 56 #[(.slice A4384 (List.length z4380.2.2.1) c4385), (.int .i64 z4380.2.2.2.1), (.slice A4386 (List.length z4380.2.2.2.2) c4387)], rowT 63 (ePair eStr (ePair (eInt .i64) (ePair eStr (ePair eStr (eInt .i64))))) A4394 c4395 z4390.2.2.2.2, boxE g27 44 #[(.string ⟨List.toArray z4390.2.2.1⟩), (.int .i64 z4390.2.2.2.1), (.slice A4394 (List.length z4390.2.2.2.2) c4395)], rowT 9 eStr A4415 c4416 v4417] ∧ L_subwaylaw15_TicketPlays_k54 (L_subwaylaw15_TicketPlays_l28 p2 z6 f41) v2256 z4380 z4390 v4417 = some r) ?_ ?_
           ·refine At.cd K (o := (.tmp 81)) K (b := (z4380.2.1 == 0)) K (fun hb4420 => ?_) (fun hb4420 => ?_)
            ·have H := ct H hb4420
             refine At.region K K ?_
             refine In.run' 2 (k' := 2) rfl [(82, (.slice A2253 (List.length v2255) c2254)), (83, (.string ⟨List.toArray z4380.1⟩))] K ?_
             refine In.step (k' := 3) rfl K ?_
             refine Step.newSlice (e := eStr) (T := 29) (E := 9) (len := 1) (parts := #[(0, (.tmp 83))]) (cs := #[(.string ⟨List.toArray z4380.1⟩)]) ([z4380.1] : List (List UInt8)) (d := (some 84)) (k := 2) K rfl (fun _ => K) hs4401 rfl rfl rfl rfl ?_
             intro g4421 w4422 (hs4424 : SP [] w0 w4422 [rdE eU8 A4384 c4385 z4380.2.2.1, rowT 59 (ePair (eInt .i64) (ePair eStr (ePair eStr (ePair (eInt .i64) eStr)))) A4386 c4387 z4380.2.2.2.2, boxE g16 56 #[(.slice A4384 (List.length z4380.2.2.1) c4385), (.int .i64 z4380.2.2.2.1), (.slice A4386 (List.length z4380.2.2.2.2) c4387)], rowT 63 (ePair eStr (ePair (eInt .i64) (ePair eStr (ePair eStr (eInt .i64))))) A4394 c4395 z4390.2.2.2.2, boxE g27 44 #[(.string ⟨List.toArray z4390.2.2.1⟩), (.int .i64 z4390.2.2.2.1), (.slice A4394 (List.length z4390.2.2.2.2) c4395)], rowT 9 eStr A2253 c2254 v2255, rowT 9 eStr (some ⟨g4421, 0, none⟩) (List.length ([z4380.1] : List (List UInt8))) ([z4380.1] : List (List UInt8))])
             obtain ⟨hl4425, H⟩ := app_elim H
             obtain ⟨l4426, hyl4426⟩ : ∃ y, v2255 ++ ([z4380.1] : List (List UInt8)) = y := ⟨_, rfl⟩
             rw [hyl4426] at H
             refine In.step (k' := 4) rfl K ?_
             refine Step.append (e := eStr) (l := v2255) (m := ([z4380.1] : List (List UInt8))) (A := A2253) (c := c2254) (T := 29) (TX := 29) (E := 9) (b := 16) (s := (.tmp 82)) (x := (.tmp 84)) (i := 5) (vx := (.slice (some ⟨g4421, 0, none⟩) (List.length ([z4380.1] : List (List UInt8))) (List.length ([z4380.1] : List (List UInt8))))) (d := (some 85)) (k := 3) K rfl K K K K rfl hs4424 rfl (src_rdt (E := 9) K (rowT_rd (SP.get hs4424 (i := 6) rfl))) hl4425 ?_
             rw [hyl4426]
             intro A4427 c4428 w4429 (hs4431 : SP [] w0 w4429 [rdE eU8 A4384 c4385 z4380.2.2.1, rowT 59 (ePair (eInt .i64) (ePair eStr (ePair eStr (ePair (eInt .i64) eStr)))) A4386 c4387 z4380.2.2.2.2, boxE g16 56 #[(.slice A4384 (List.length z4380.2.2.1) c4385), (.int .i64 z4380.2.2.2.1), (.slice A4386 (List.length z4380.2.2.2.2) c4387)], rowT 63 (ePair eStr (ePair (eInt .i64) (ePair eStr (ePair eStr (eInt .i64))))) A4394 c4395 z4390.2.2.2.2, boxE g27 44 #[(.string ⟨List.toArray z4390.2.2.1⟩), (.int .i64 z4390.2.2.2.1), (.slice A4394 (List.length z4390.2.2.2.2) c4395)], rowT 9 eStr A4427 c4428 l4426, rowT 9 eStr (some ⟨g4421, 0, none⟩) (List.length ([z4380.1] : List (List UInt8))) ([z4380.1] : List (List UInt8))])
             refine In.run' 1 (k' := 5) rfl [(8, (.slice A4427 (List.length l4426) c4428))] K ?_
             refine In.fin K ?_
             exact ⟨l4426, A4427, c4428, ⟨K, K, K, K, K, K, trivial⟩, SP.sel hs4431 [0, 1, 2, 3, 4, 5] rfl rfl, H⟩
            ·have H := cf H hb4420
             refine At.skip K ?_
             exact ⟨v2255, A2253, c2254, ⟨K, K, K, K, K, K, trivial⟩, SP.sel hs4401 [0, 1, 2, 3, 4, 5] rfl rfl, H⟩
           ·rintro ρ w4418 ⟨v4417, A4415, c4416, hk, hs4419, H⟩
            unfold L_subwaylaw15_TicketPlays_k54 at H
            first | refine At.known [(1, (.slice A3 (List.length p2) c4)), (5, (.bool z6)), (6, (pt g16 0)), (7, (pt g27 0)), (8, (.slice A4415 (List.length v4417) c4416)), (9, (.int .i64 v2256))] hk ?_ | rw [← known_updL (l := [(1, (.slice A3 (List.length p2) c4)), (5, (.bool z6)), (6, (pt g16 0)), (7, (pt g27 0)), (8, (.slice A4415 (List.length v4417) c4416)), (9, (.int .i64 v2256))]) hk]
            exact ⟨z4380.2.2.1, z4380.2.2.2.1, z4380.2.2.2.2, z4390.2.2.1, z4390.2.2.2.1, z4390.2.2.2.2, v4417, A4384, c4385, A4386, c4387, A4394, c4395, A4415, c4416, ⟨K, K, K, K, K, K, trivial⟩, SP.sel hs4419 [0, 1, 2, 3, 4, 5] rfl rfl, H⟩
       ·rintro ρ w4358 ⟨v4345, v4346, v4349, v4350, v4351, v4354, v4357, A4343, c4344, A4347, c4348, A4352, c4353, A4355, c4356, hk, hs4359, H⟩
        unfold L_subwaylaw15_TicketPlays_k52 at H
        first | refine At.known [(1, (.slice A3 (List.length p2) c4)), (5, (.bool z6)), (6, (pt g16 0)), (7, (pt g27 0)), (8, (.slice A4355 (List.length v4357) c4356)), (9, (.int .i64 v2256))] hk ?_ | rw [← known_updL (l := [(1, (.slice A3 (List.length p2) c4)), (5, (.bool z6)), (6, (pt g16 0)), (7, (pt g27 0)), (8, (.slice A4355 (List.length v4357) c4356)), (9, (.int .i64 v2256))]) hk]
        exact ⟨v4345, v4346, v4349, v4350, v4351, v4354, v4357, A4343, c4344, A4347, c4348, A4352, c4353, A4355, c4356, ⟨K, K, K, K, K, K, trivial⟩, SP.sel hs4359 [0, 1, 2, 3, 4, 5] rfl rfl, H⟩
     ·rintro ρ w3885 ⟨v3872, v3873, v3876, v3877, v3878, v3881, v3884, A3870, c3871, A3874, c3875, A3879, c3880, A3882, c3883, hk, hs3886, H⟩
      unfold L_subwaylaw15_TicketPlays_k48 at H
      first | refine At.known [(1, (.slice A3 (List.length p2) c4)), (5, (.bool z6)), (6, (pt g16 0)), (7, (pt g27 0)), (8, (.slice A3882 (List.length v3884) c3883)), (9, (.int .i64 v2256))] hk ?_ | rw [← known_updL (l := [(1, (.slice A3 (List.length p2) c4)), (5, (.bool z6)), (6, (pt g16 0)), (7, (pt g27 0)), (8, (.slice A3882 (List.length v3884) c3883)), (9, (.int .i64 v2256))]) hk]
      refine At.sq K ?_
      obtain ⟨z3887, hz3888, H⟩ := bind_elim H
      refine At.stages K K K K K [GEq (pt g16 0), GEq (.int .i64 z3887), GEq (pt g27 0), GEq (pt g27 0), GEq (pt g27 2), GEq (.slice A3879 (List.length v3881) c3880), GEq (.int .i64 ((List.length v3881 : Nat) : Int)), GEq (.bool (z3887 != ((List.length v3881 : Nat) : Int)))] [1] [([], fun vs w => VL vs [] ∧ SP [] w0 w [rdE eU8 A3870 c3871 v3872, rowT 59 (ePair (eInt .i64) (ePair eStr (ePair eStr (ePair (eInt .i64) eStr)))) A3874 c3875 v3876, boxE g16 56 #[(.slice A3870 (List.length v3872) c3871), (.int .i64 v3873), (.slice A3874 (List.length v3876) c3875)], rowT 63 (ePair eStr (ePair (eInt .i64) (ePair eStr (ePair eStr (eInt .i64))))) A3879 c3880 v3881, boxE g27 44 #[(.string ⟨List.toArray v3877⟩), (.int .i64 v3878), (.slice A3879 (List.length v3881) c3880)], rowT 9 eStr A3882 c3883 v3884]), ([1], fun vs w => ∃ (A3899 : Option Addr), ∃ (c3900 : Nat), ∃ (A3901 : Option Addr), ∃ (c3902 : Nat), VL vs [(.int .i64 z3887)] ∧ SP [] w0 w [rowT 63 (ePair eStr (ePair (eInt .i64) (ePair eStr (ePair eStr (eInt .i64))))) A3879 c3880 v3881, boxE g27 44 #[(.string ⟨List.toArray v3877⟩), (.int .i64 v3878), (.slice A3879 (List.length v3881) c3880)], rowT 9 eStr A3882 c3883 v3884, boxE g16 56 #[(.slice A3899 (List.length v3872) c3900), (.int .i64 v3873), (.slice A3901 (List.length v3876) c3902)], rdE eU8 A3899 c3900 v3872, rowT 59 (ePair (eInt .i64) (ePair eStr (ePair eStr (ePair (eInt .i64) eStr)))) A3901 c3902 v3876])] (N := 8) K ⟨K, Nat.zero_lt_succ _⟩ (show VL [] [] ∧ SP [] w0 w3885.drew [rdE eU8 A3870 c3871 v3872, rowT 59 (ePair (eInt .i64) (ePair eStr (ePair eStr (ePair (eInt .i64) eStr)))) A3874 c3875 v3876, boxE g16 56 #[(.slice A3870 (List.length v3872) c3871), (.int .i64 v3873), (.slice A3874 (List.length v3876) c3875)], rowT 63 (ePair eStr (ePair (eInt .i64) (ePair eStr (ePair eStr (eInt .i64))))) A3879 c3880 v3881, boxE g27 44 #[(.string ⟨List.toArray v3877⟩), (.int .i64 v3878), (.slice A3879 (List.length v3881) c3880)], rowT 9 eStr A3882 c3883 v3884] from ⟨trivial, SP.drew hs3886⟩) ⟨⟨⟨⟨⟨⟨⟨⟨trivial, ?_⟩, ?_⟩, ?_⟩, ?_⟩, ?_⟩, ?_⟩, ?_⟩, ?_⟩ (last := 1) K ?_
      ·exact Owe.run K [(6, (pt g16 0))] ⟨gS K K, trivial⟩ (pt g16 0) (fun _ _ => K) rfl
      ·refine Owe.heavy K [(0, 1)] K (all_cons ⟨K, K, ?_⟩ all_nil)
       ·rintro ρ' w' hs hah ⟨hvl3906, hs3905⟩
        have hkn : Known ρ' [(131, (pt g16 0))] := ⟨hah 0 131 K, trivial⟩
        refine Step.known _ hkn ?_
        refine Step.callF (f := 20) (fo := (.func 20)) (xs := #[(.tmp 131)]) (tys := #[24]) (first := #[]) (captured := #[]) (d := (some 132)) (k := 1) K rfl K K Tryd.call20 (L_ticket_Book_Many_walk g16 A3870 c3871 A3874 c3875 v3872 v3873 v3876 w' (SP.sub hs3905 [2, 0, 1] rfl rfl) z3887 hz3888) ?_
        rintro e w3907 ⟨A3909, c3910, A3911, c3912, rfl, hs3908⟩
        refine ⟨_, rfl, ?_⟩
        have hs3914 : SP [] w0 w3907 [rowT 63 (ePair eStr (ePair (eInt .i64) (ePair eStr (ePair eStr (eInt .i64))))) A3879 c3880 v3881, boxE g27 44 #[(.string ⟨List.toArray v3877⟩), (.int .i64 v3878), (.slice A3879 (List.length v3881) c3880)], rowT 9 eStr A3882 c3883 v3884, boxE g16 56 #[(.slice A3909 (List.length v3872) c3910), (.int .i64 v3873), (.slice A3911 (List.length v3876) c3912)], rdE eU8 A3909 c3910 v3872, rowT 59 (ePair (eInt .i64) (ePair eStr (ePair eStr (ePair (eInt .i64) eStr)))) A3911 c3912 v3876] := SP.callS hs3905 [2, 0, 1] [3, 4, 5] rfl rfl hs3908 rfl
        clear hs3908
        refine ⟨_, updO_known hkn, rfl, ?_⟩
        exact (Exists.intro A3909 (Exists.intro c3910 (Exists.intro A3911 (Exists.intro c3912 (And.intro (And.intro rfl (trivial)) (hs3914))))))
      ·exact Owe.run K [(7, (pt g27 0))] ⟨gS K K, trivial⟩ (pt g27 0) (fun _ _ => K) rfl
      ·exact Owe.run K [(133, (pt g27 0))] ⟨gA 2 K K, trivial⟩ (pt g27 0) (fun _ _ => K) rfl
      ·exact Owe.run K [(134, (pt g27 0))] ⟨gA 3 K K, trivial⟩ (pt g27 2) (fun _ _ => K) rfl
      ·refine Owe.light K [0, 1] K (all_cons ?_ (all_cons ?_ all_nil))
       ·rintro ρ' w' hs hah ⟨hvl3916, hs3915⟩
        have hkn : Known ρ' [(135, (pt g27 2))] := ⟨hah 4 135 K, trivial⟩
        refine Step.known _ hkn ?_
        refine Step.load (t := 42) (x := (.tmp 135)) (g := g27) (off := 2) (i := 4) (v := (.slice A3879 (List.length v3881) c3880)) (d := (some 136)) (k := 5) K rfl K hs3915 rfl K ?_
        exact ⟨rfl, _, updO_known hkn, rfl⟩
       ·rintro ρ' w' hs hah ⟨A3899, c3900, A3901, c3902, ⟨q3918, -⟩, hs3917⟩
        have hkn : Known ρ' [(135, (pt g27 2))] := ⟨hah 4 135 K, trivial⟩
        refine Step.known _ hkn ?_
        refine Step.load (t := 42) (x := (.tmp 135)) (g := g27) (off := 2) (i := 1) (v := (.slice A3879 (List.length v3881) c3880)) (d := (some 136)) (k := 5) K rfl K hs3917 rfl K ?_
        exact ⟨rfl, _, updO_known hkn, rfl⟩
      ·exact Owe.run K [(136, (.slice A3879 (List.length v3881) c3880))] ⟨gA 5 K K, trivial⟩ (.int .i64 ((List.length v3881 : Nat) : Int)) (fun _ _ => K) rfl
      ·exact Owe.run K [(132, (.int .i64 z3887)), (137, (.int .i64 ((List.length v3881 : Nat) : Int)))] ⟨gA 1 K K, gA 6 K K, trivial⟩ (.bool (z3887 != ((List.length v3881 : Nat) : Int))) (fun _ _ => K) rfl
      ·rintro ρ' w' hs hf ⟨A3899, c3900, A3901, c3902, ⟨q3921, -⟩, hs3920⟩
       refine postKnown [(1, (.slice A3 (List.length p2) c4)), (5, (.bool z6)), (6, (pt g16 0)), (7, (pt g27 0)), (8, (.slice A3882 (List.length v3884) c3883)), (9, (.int .i64 v2256)), (138, (.bool (z3887 != ((List.length v3881 : Nat) : Int))))] ⟨(hs 1 K).trans K, (hs 5 K).trans K, (hs 6 K).trans K, (hs 7 K).trans K, (hs 8 K).trans K, (hs 9 K).trans K, hf 7 138 K, trivial⟩ ?_
       obtain ⟨w3923, hww3923⟩ : ∃ x, w' = x := ⟨_, rfl⟩
       rw [hww3923] at hs3920 ⊢
       refine At.cd K (o := (.tmp 138)) K (b := (z3887 != ((List.length v3881 : Nat) : Int))) K (fun hb3924 => ?_) (fun hb3924 => ?_)
       ·have H := ct H hb3924
        refine At.sq K ?_
        refine At.region K K ?_
        refine In.run' 1 (k' := 1) rfl [(4, (.bool false))] K ?_
        refine In.fin K ?_
        refine At.ret K ?_
        refine ⟨(.bool false), K, ?_⟩
        obtain rfl := some_elim H
        exact ⟨rfl, SP.sel hs3920 [] rfl rfl⟩
       ·have H := cf H hb3924
        refine At.skip K ?_
        refine At.region K K ?_
        refine In.run' 3 (k' := 3) rfl [(46, (.int .i64 v2256)), (47, (.int .i64 (IntKind.wrap .i64 (v2256 + 1)))), (9, (.int .i64 (IntKind.wrap .i64 (v2256 + 1))))] K ?_
        refine In.fin K ?_
        exact ⟨v3872, v3873, v3876, v3877, v3878, v3881, v3884, (IntKind.wrap .i64 (v2256 + 1)), A3899, c3900, A3901, c3902, A3879, c3880, A3882, c3883, ⟨K, K, K, K, K, K, trivial⟩, SP.sel hs3920 [4, 5, 3, 0, 1, 2] rfl rfl, H⟩
    ·have H := cf H hb3345
     refine At.exit K (id := 0) K ?_
     refine At.sq K ?_
     refine At.region K K ?_
     refine In.run' 2 (k' := 2) rfl [(139, (.bool z6)), (4, (.bool z6))] K ?_
     refine In.fin K ?_
     refine At.ret K ?_
     refine ⟨(.bool z6), K, ?_⟩
     obtain rfl := some_elim H
     exact ⟨rfl, SP.sel hs2240 [] rfl rfl⟩
   ·exact ⟨z12.1, z12.2.1, z12.2.2, z23.1, z23.2.1, z23.2.2, ([] : List (List UInt8)), 0, A17, c18, A19, c20, A28, c29, none, 0, ⟨K, K, K, K, K, K, trivial⟩, SP.sel (SP.nilrow hs41 9 eStr) [0, 1, 2, 3, 4, 5] rfl rfl, H⟩
end Go.Proofs.YtjllaeceghmjgaaDoor
