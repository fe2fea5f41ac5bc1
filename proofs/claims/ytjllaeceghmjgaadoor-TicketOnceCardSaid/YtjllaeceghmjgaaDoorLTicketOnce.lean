/- LIFTED BY PROGRAM (tools/lift.py): what functions compute, and that they do. -/
import Derived.Test.YtjllaeceghmjgaaDoorLTB
namespace Go.Proofs.YtjllaeceghmjgaaDoor
set_option linter.unusedSimpArgs false
set_option linter.unusedVariables false
open Go.RowKit

/-! L_subwaylaw15_TicketOnce -/
def L_subwaylaw15_TicketOnce_k244 (rec209 : (List UInt8) → Int → (List (Int × (List UInt8) × (List UInt8) × Int × (List UInt8))) → (List (List UInt8)) → (List (Int × (List UInt8) × (List UInt8) × Int)) → (List Bool) → Int → Int → Option (Bool)) (v12216 : Int) (v21313 : (List UInt8)) (v21314 : Int) (v21317 : (List (Int × (List UInt8) × (List UInt8) × Int × (List UInt8)))) (v21320 : (List (List UInt8))) (v21323 : (List (Int × (List UInt8) × (List UInt8) × Int))) (v21326 : (List Bool)) (v21327 : Int) : Option (Bool) :=
  ((L_ticket_Book_Many v21313 v21314 v21317).bind fun z21330 => (cond (z21330 != v21327) (some (false)) (rec209 v21313 v21314 v21317 v21320 v21323 v21326 v21327 (IntKind.wrap .i64 (v12216 + 1)))))
def L_subwaylaw15_TicketOnce_k255 (rec209 : (List UInt8) → Int → (List (Int × (List UInt8) × (List UInt8) × Int × (List UInt8))) → (List (List UInt8)) → (List (Int × (List UInt8) × (List UInt8) × Int)) → (List Bool) → Int → Int → Option (Bool)) (rec253 : Int → Int → Option (Bool)) (v21811 : Int) (v22277 : Int) : Option (Bool) :=
  (rec253 v22277 (IntKind.wrap .i64 (v21811 - 1)))
def L_subwaylaw15_TicketOnce_k254 (rec209 : (List UInt8) → Int → (List (Int × (List UInt8) × (List UInt8) × Int × (List UInt8))) → (List (List UInt8)) → (List (Int × (List UInt8) × (List UInt8) × Int)) → (List Bool) → Int → Int → Option (Bool)) (rec253 : Int → Int → Option (Bool)) (v21810 : Int) (v21811 : Int) (v22273 : Bool) : Option (Bool) :=
  (cond v22273 (L_subwaylaw15_TicketOnce_k255 rec209 rec253 v21811 v21811) (L_subwaylaw15_TicketOnce_k255 rec209 rec253 v21811 v21810))
def L_subwaylaw15_TicketOnce_k257 (rec209 : (List UInt8) → Int → (List (Int × (List UInt8) × (List UInt8) × Int × (List UInt8))) → (List (List UInt8)) → (List (Int × (List UInt8) × (List UInt8) × Int)) → (List Bool) → Int → Int → Option (Bool)) (rec253 : Int → Int → Option (Bool)) (v12208 : (List (List UInt8))) (v12211 : (List (Int × (List UInt8) × (List UInt8) × Int))) (v12216 : Int) (z21348 : (Int × (List UInt8) × (List UInt8) × Int × Int × (List UInt8) × Int × (List (Int × (List UInt8) × (List UInt8) × Int × (List UInt8))))) (v22498 : (List Bool)) (v22499 : Int) : Option (Bool) :=
  (L_subwaylaw15_TicketOnce_k244 rec209 v12216 z21348.2.2.2.2.2.1 z21348.2.2.2.2.2.2.1 z21348.2.2.2.2.2.2.2 v12208 v12211 v22498 v22499)
def L_subwaylaw15_TicketOnce_k256 (rec209 : (List UInt8) → Int → (List (Int × (List UInt8) × (List UInt8) × Int × (List UInt8))) → (List (List UInt8)) → (List (Int × (List UInt8) × (List UInt8) × Int)) → (List Bool) → Int → Int → Option (Bool)) (rec253 : Int → Int → Option (Bool)) (v12208 : (List (List UInt8))) (v12211 : (List (Int × (List UInt8) × (List UInt8) × Int))) (v12214 : (List Bool)) (v12215 : Int) (v12216 : Int) (z21348 : (Int × (List UInt8) × (List UInt8) × Int × Int × (List UInt8) × Int × (List (Int × (List UInt8) × (List UInt8) × Int × (List UInt8))))) (v21810 : Int) (v22478 : Bool) : Option (Bool) :=
  (cond v22478 (some (false)) (cond (z21348.2.2.2.2.1 == 0) ((idx v12214 v21810).bind fun x22503 => ((some (List.set v12214 (Int.toNat v21810) false)).bind fun l22512 => (L_subwaylaw15_TicketOnce_k257 rec209 rec253 v12208 v12211 v12216 z21348 l22512 (IntKind.wrap .i64 (v12215 - 1))))) (L_subwaylaw15_TicketOnce_k257 rec209 rec253 v12208 v12211 v12216 z21348 v12214 v12215)))
def L_subwaylaw15_TicketOnce_b249 (rec209 : (List UInt8) → Int → (List (Int × (List UInt8) × (List UInt8) × Int × (List UInt8))) → (List (List UInt8)) → (List (Int × (List UInt8) × (List UInt8) × Int)) → (List Bool) → Int → Int → Option (Bool)) (rec253 : Int → Int → Option (Bool)) (v12208 : (List (List UInt8))) (v12211 : (List (Int × (List UInt8) × (List UInt8) × Int))) (v12214 : (List Bool)) (v12215 : Int) (v12216 : Int) (x18285 : (Int × Int × (List UInt8) × (List UInt8) × Int × (List UInt8) × Int × (List UInt8) × (List UInt8))) (z21342 : ((List UInt8))) (z21348 : (Int × (List UInt8) × (List UInt8) × Int × Int × (List UInt8) × Int × (List (Int × (List UInt8) × (List UInt8) × Int × (List UInt8))))) (v21810 : Int) (v21811 : Int) : Option (Bool) :=
  (cond (decide (v21811 ≥ 0)) ((idx v12214 v21811).bind fun x22281 => (cond x22281 ((idx v12208 v21811).bind fun x22291 => (L_subwaylaw15_TicketOnce_k254 rec209 rec253 v21810 v21811 (x22291 == z21342))) (L_subwaylaw15_TicketOnce_k254 rec209 rec253 v21810 v21811 false))) (cond (!((z21348.2.2.2.2.1 == 151) == (decide (v21810 < 0)))) (L_subwaylaw15_TicketOnce_k256 rec209 rec253 v12208 v12211 v12214 v12215 v12216 z21348 v21810 true) (cond (z21348.2.2.2.2.1 == 0) ((idx v12211 v21810).bind fun x22521 => (cond (!((z21348.1 == x22521.1) && ((z21348.2.1 == x22521.2.1) && ((z21348.2.2.1 == x22521.2.2.1) && (z21348.2.2.2.1 == x22521.2.2.2))))) (L_subwaylaw15_TicketOnce_k256 rec209 rec253 v12208 v12211 v12214 v12215 v12216 z21348 v21810 true) (cond (!(z21348.2.2.1 == x18285.2.2.2.2.2.2.2.2)) (L_subwaylaw15_TicketOnce_k256 rec209 rec253 v12208 v12211 v12214 v12215 v12216 z21348 v21810 true) (cond (z21348.2.2.2.2.1 == 131) ((idx v12211 v21810).bind fun x22577 => (L_subwaylaw15_TicketOnce_k256 rec209 rec253 v12208 v12211 v12214 v12215 v12216 z21348 v21810 (x22577.2.2.1 == x18285.2.2.2.2.2.2.2.2))) (L_subwaylaw15_TicketOnce_k256 rec209 rec253 v12208 v12211 v12214 v12215 v12216 z21348 v21810 false))))) (cond (z21348.2.2.2.2.1 == 131) ((idx v12211 v21810).bind fun x22658 => (L_subwaylaw15_TicketOnce_k256 rec209 rec253 v12208 v12211 v12214 v12215 v12216 z21348 v21810 (x22658.2.2.1 == x18285.2.2.2.2.2.2.2.2))) (L_subwaylaw15_TicketOnce_k256 rec209 rec253 v12208 v12211 v12214 v12215 v12216 z21348 v21810 false)))))
def L_subwaylaw15_TicketOnce_l249 (rec209 : (List UInt8) → Int → (List (Int × (List UInt8) × (List UInt8) × Int × (List UInt8))) → (List (List UInt8)) → (List (Int × (List UInt8) × (List UInt8) × Int)) → (List Bool) → Int → Int → Option (Bool)) (v12208 : (List (List UInt8))) (v12211 : (List (Int × (List UInt8) × (List UInt8) × Int))) (v12214 : (List Bool)) (v12215 : Int) (v12216 : Int) (x18285 : (Int × Int × (List UInt8) × (List UInt8) × Int × (List UInt8) × Int × (List UInt8) × (List UInt8))) (z21342 : ((List UInt8))) (z21348 : (Int × (List UInt8) × (List UInt8) × Int × Int × (List UInt8) × Int × (List (Int × (List UInt8) × (List UInt8) × Int × (List UInt8))))) : Nat → Int → Int → Option (Bool)
  | 0, _, _ => none
  | f + 1, v21810, v21811 => L_subwaylaw15_TicketOnce_b249 rec209 (L_subwaylaw15_TicketOnce_l249 rec209 v12208 v12211 v12214 v12215 v12216 x18285 z21342 z21348 f) v12208 v12211 v12214 v12215 v12216 x18285 z21342 z21348 v21810 v21811
def L_subwaylaw15_TicketOnce_k268 (rec209 : (List UInt8) → Int → (List (Int × (List UInt8) × (List UInt8) × Int × (List UInt8))) → (List (List UInt8)) → (List (Int × (List UInt8) × (List UInt8) × Int)) → (List Bool) → Int → Int → Option (Bool)) (v12216 : Int) (v23515 : (List UInt8)) (v23516 : Int) (v23519 : (List (Int × (List UInt8) × (List UInt8) × Int × (List UInt8)))) (v23522 : (List (List UInt8))) (v23525 : (List (Int × (List UInt8) × (List UInt8) × Int))) (v23528 : (List Bool)) (v23529 : Int) : Option (Bool) :=
  (L_subwaylaw15_TicketOnce_k244 rec209 v12216 v23515 v23516 v23519 v23522 v23525 v23528 v23529)
def L_subwaylaw15_TicketOnce_k277 (rec209 : (List UInt8) → Int → (List (Int × (List UInt8) × (List UInt8) × Int × (List UInt8))) → (List (List UInt8)) → (List (Int × (List UInt8) × (List UInt8) × Int)) → (List Bool) → Int → Int → Option (Bool)) (rec275 : (List Bool) → Int → Int → Option (Bool)) (v23908 : Int) (v24174 : (List Bool)) (v24175 : Int) : Option (Bool) :=
  (rec275 v24174 v24175 (IntKind.wrap .i64 (v23908 + 1)))
def L_subwaylaw15_TicketOnce_k276 (rec209 : (List UInt8) → Int → (List (Int × (List UInt8) × (List UInt8) × Int × (List UInt8))) → (List (List UInt8)) → (List (Int × (List UInt8) × (List UInt8) × Int)) → (List Bool) → Int → Int → Option (Bool)) (rec275 : (List Bool) → Int → Int → Option (Bool)) (z23533 : (Bool × (List UInt8) × Int × (List (Int × (List UInt8) × (List UInt8) × Int × (List UInt8))))) (v23906 : (List Bool)) (v23907 : Int) (v23908 : Int) (v24154 : Bool) : Option (Bool) :=
  (cond v24154 (cond (!z23533.1) (some (false)) ((idx v23906 v23908).bind fun x24180 => ((some (List.set v23906 (Int.toNat v23908) false)).bind fun l24189 => (L_subwaylaw15_TicketOnce_k277 rec209 rec275 v23908 l24189 (IntKind.wrap .i64 (v23907 - 1)))))) (L_subwaylaw15_TicketOnce_k277 rec209 rec275 v23908 v23906 v23907))
def L_subwaylaw15_TicketOnce_b273 (rec209 : (List UInt8) → Int → (List (Int × (List UInt8) × (List UInt8) × Int × (List UInt8))) → (List (List UInt8)) → (List (Int × (List UInt8) × (List UInt8) × Int)) → (List Bool) → Int → Int → Option (Bool)) (rec275 : (List Bool) → Int → Int → Option (Bool)) (v12208 : (List (List UInt8))) (v12211 : (List (Int × (List UInt8) × (List UInt8) × Int))) (v12216 : Int) (x18285 : (Int × Int × (List UInt8) × (List UInt8) × Int × (List UInt8) × Int × (List UInt8) × (List UInt8))) (z23533 : (Bool × (List UInt8) × Int × (List (Int × (List UInt8) × (List UInt8) × Int × (List UInt8))))) (v23906 : (List Bool)) (v23907 : Int) (v23908 : Int) : Option (Bool) :=
  (cond (decide (v23908 < ((List.length v12208 : Nat) : Int))) ((idx v23906 v23908).bind fun x24193 => (cond x24193 ((idx v12211 v23908).bind fun x24203 => (L_subwaylaw15_TicketOnce_k276 rec209 rec275 z23533 v23906 v23907 v23908 (x24203.1 == x18285.2.1))) (L_subwaylaw15_TicketOnce_k276 rec209 rec275 z23533 v23906 v23907 v23908 false))) (L_subwaylaw15_TicketOnce_k268 rec209 v12216 z23533.2.1 z23533.2.2.1 z23533.2.2.2 v12208 v12211 v23906 v23907))
def L_subwaylaw15_TicketOnce_l273 (rec209 : (List UInt8) → Int → (List (Int × (List UInt8) × (List UInt8) × Int × (List UInt8))) → (List (List UInt8)) → (List (Int × (List UInt8) × (List UInt8) × Int)) → (List Bool) → Int → Int → Option (Bool)) (v12208 : (List (List UInt8))) (v12211 : (List (Int × (List UInt8) × (List UInt8) × Int))) (v12216 : Int) (x18285 : (Int × Int × (List UInt8) × (List UInt8) × Int × (List UInt8) × Int × (List UInt8) × (List UInt8))) (z23533 : (Bool × (List UInt8) × Int × (List (Int × (List UInt8) × (List UInt8) × Int × (List UInt8))))) : Nat → (List Bool) → Int → Int → Option (Bool)
  | 0, _, _, _ => none
  | f + 1, v23906, v23907, v23908 => L_subwaylaw15_TicketOnce_b273 rec209 (L_subwaylaw15_TicketOnce_l273 rec209 v12208 v12211 v12216 x18285 z23533 f) v12208 v12211 v12216 x18285 z23533 v23906 v23907 v23908
def L_subwaylaw15_TicketOnce_k278 (rec209 : (List UInt8) → Int → (List (Int × (List UInt8) × (List UInt8) × Int × (List UInt8))) → (List (List UInt8)) → (List (Int × (List UInt8) × (List UInt8) × Int)) → (List Bool) → Int → Int → Option (Bool)) (v12216 : Int) (z24261 : ((List UInt8) × Int × (List UInt8) × Int × (List (Int × (List UInt8) × (List UInt8) × Int × (List UInt8))))) (v24307 : (List (List UInt8))) (v24310 : (List (Int × (List UInt8) × (List UInt8) × Int))) (v24313 : (List Bool)) (v24314 : Int) : Option (Bool) :=
  (L_subwaylaw15_TicketOnce_k268 rec209 v12216 z24261.2.2.1 z24261.2.2.2.1 z24261.2.2.2.2 v24307 v24310 v24313 v24314)
def L_subwaylaw15_TicketOnce_b140 (rec209 : (List UInt8) → Int → (List (Int × (List UInt8) × (List UInt8) × Int × (List UInt8))) → (List (List UInt8)) → (List (Int × (List UInt8) × (List UInt8) × Int)) → (List Bool) → Int → Int → Option (Bool)) (p2 : (List (Int × Int × (List UInt8) × (List UInt8) × Int × (List UInt8) × Int × (List UInt8) × (List UInt8)))) (z6 : (Bool)) (v12201 : (List UInt8)) (v12202 : Int) (v12205 : (List (Int × (List UInt8) × (List UInt8) × Int × (List UInt8)))) (v12208 : (List (List UInt8))) (v12211 : (List (Int × (List UInt8) × (List UInt8) × Int))) (v12214 : (List Bool)) (v12215 : Int) (v12216 : Int) : Option (Bool) :=
  (cond (decide (v12216 < ((List.length p2 : Nat) : Int))) ((idx p2 v12216).bind fun x18285 => (cond (x18285.1 == 2) ((L_subwaylaw15_shown x18285.1 x18285.2.1 x18285.2.2.1 x18285.2.2.2.1 x18285.2.2.2.2.1 x18285.2.2.2.2.2.1 x18285.2.2.2.2.2.2.1 x18285.2.2.2.2.2.2.2.1 x18285.2.2.2.2.2.2.2.2 v12208).bind fun z21342 => ((L_ticket_Book_Redeem v12201 v12202 v12205 z21342 x18285.2.2.2.2.2.2.2.2).bind fun z21348 => (L_subwaylaw15_TicketOnce_l249 rec209 v12208 v12211 v12214 v12215 v12216 x18285 z21342 z21348 fuel (-1) (IntKind.wrap .i64 (((List.length v12208 : Nat) : Int) - 1))))) (cond (x18285.1 == 3) ((L_ticket_Book_Void v12201 v12202 v12205 x18285.2.1).bind fun z23533 => (L_subwaylaw15_TicketOnce_l273 rec209 v12208 v12211 v12216 x18285 z23533 fuel v12214 v12215 0)) ((L_ticket_Book_Issue v12201 v12202 v12205 x18285.2.1 x18285.2.2.1 x18285.2.2.2.1 x18285.2.2.2.2.1 x18285.2.2.2.2.2.1).bind fun z24261 => (cond (z24261.2.1 == 0) ((app v12208 ([z24261.1] : List (List UInt8))).bind fun l24323 => ((app v12211 ([(x18285.2.1, x18285.2.2.1, x18285.2.2.2.1, x18285.2.2.2.2.1)] : List (Int × (List UInt8) × (List UInt8) × Int))).bind fun l24334 => ((app v12214 ([true] : List Bool)).bind fun l24345 => (L_subwaylaw15_TicketOnce_k278 rec209 v12216 z24261 l24323 l24334 l24345 (IntKind.wrap .i64 (v12215 + 1)))))) (L_subwaylaw15_TicketOnce_k278 rec209 v12216 z24261 v12208 v12211 v12214 v12215)))))) (some (z6)))
def L_subwaylaw15_TicketOnce_l140 (p2 : (List (Int × Int × (List UInt8) × (List UInt8) × Int × (List UInt8) × Int × (List UInt8) × (List UInt8)))) (z6 : (Bool)) : Nat → (List UInt8) → Int → (List (Int × (List UInt8) × (List UInt8) × Int × (List UInt8))) → (List (List UInt8)) → (List (Int × (List UInt8) × (List UInt8) × Int)) → (List Bool) → Int → Int → Option (Bool)
  | 0, _, _, _, _, _, _, _, _ => none
  | f + 1, v12201, v12202, v12205, v12208, v12211, v12214, v12215, v12216 => L_subwaylaw15_TicketOnce_b140  (L_subwaylaw15_TicketOnce_l140 p2 z6 f) p2 z6 v12201 v12202 v12205 v12208 v12211 v12214 v12215 v12216
def L_subwaylaw15_TicketOnce_k1 (p2 : (List (Int × Int × (List UInt8) × (List UInt8) × Int × (List UInt8) × Int × (List UInt8) × (List UInt8)))) (z6 : (Bool)) (z12 : ((List UInt8) × Int × (List (Int × (List UInt8) × (List UInt8) × Int × (List UInt8))))) (v30 : Bool) : Option (Bool) :=
  (cond v30 (some (z6)) (L_subwaylaw15_TicketOnce_l140 p2 z6 fuel z12.1 z12.2.1 z12.2.2 ([] : List (List UInt8)) ([] : List (Int × (List UInt8) × (List UInt8) × Int)) ([] : List Bool) 0 0))
def L_subwaylaw15_TicketOnce (p1 : (List UInt8)) (p2 : (List (Int × Int × (List UInt8) × (List UInt8) × Int × (List UInt8) × Int × (List UInt8) × (List UInt8)))) : Option (Bool) :=
  ((L_subwaylaw15_head ).bind fun z6 => ((L_ticket_New p1).bind fun z12 => ((L_subwaylaw15_great p2).bind fun z24351 => (cond z24351 (L_subwaylaw15_TicketOnce_k1 p2 z6 z12 true) (L_subwaylaw15_TicketOnce_k1 p2 z6 z12 (decide (((List.length p1 : Nat) : Int) > 3000)))))))
set_option maxRecDepth 100000 in
set_option maxHeartbeats 4000000 in
theorem L_subwaylaw15_TicketOnce_walk (A3 : Option Addr) (c4 : Nat) (p1 : (List UInt8)) (p2 : (List (Int × Int × (List UInt8) × (List UInt8) × Int × (List UInt8) × Int × (List UInt8) × (List UInt8)))) (w0 : World) (hL : LaidW w0) (hr5 : RdT (ePair (eInt .i64) (ePair (eInt .i64) (ePair eStr (ePair eStr (ePair (eInt .i64) (ePair eStr (ePair (eInt .i64) (ePair eStr eStr)))))))) w0 A3 c4 p2) (r : (Bool)) (H : L_subwaylaw15_TicketOnce p1 p2 = some r) :
  Calls Tryd.prog 4 #[(.string ⟨List.toArray p1⟩), (.slice A3 (List.length p2) c4)] w0 (fun e w' => e = .returned (.bool r) ∧ SP [] w0 w' []) := by
 unfold L_subwaylaw15_TicketOnce at H
 refine calls_go (n := 196) Tryd.func4 K K K ?_
 have hs0 := SP.start [] w0
 refine At.sq K ?_
 refine At.region K K ?_
 refine In.run' 1 (k' := 1) rfl [(4, (.bool false))] K ?_
 refine In.fin K ?_
 refine At.sq K ?_
 refine At.region K K ?_
 obtain ⟨z6, hz7, H⟩ := bind_elim H
 refine In.step (k' := 1) rfl K ?_
 refine Step.callF (f := 9) (fo := (.func 9)) (xs := #[]) (tys := #[]) (first := #[]) (captured := #[]) (d := (some 22)) (k := 0) K rfl K K Tryd.call9 (L_subwaylaw15_head_walk   w0 (laid_below hL (SP.keeps hs0)) z6 hz7) ?_
 rintro e w8 ⟨rfl, hs9⟩
 refine ⟨_, rfl, ?_⟩
 have hs11 : SP [] w0 w8 [] := SP.call hs0 hs9
 clear hs9
 refine In.run' 1 (k' := 2) rfl [(5, (.bool z6))] K ?_
 refine In.fin K ?_
 refine At.sq K ?_
 refine At.region K K ?_
 refine In.run' 1 (k' := 1) rfl [(23, (.string ⟨List.toArray p1⟩))] K ?_
 obtain ⟨z12, hz13, H⟩ := bind_elim H
 refine In.step (k' := 2) rfl K ?_
 refine Step.callF (f := 10) (fo := (.func 10)) (xs := #[(.tmp 23)]) (tys := #[9]) (first := #[]) (captured := #[]) (d := (some 24)) (k := 1) K rfl K K Tryd.call10 (L_ticket_New_walk  p1 w8  z12 hz13) ?_
 rintro e w14 ⟨g16, A17, c18, A19, c20, rfl, hs15⟩
 refine ⟨_, rfl, ?_⟩
 have hs22 : SP [] w0 w14 [boxE g16 56 #[(.slice A17 (List.length z12.1) c18), (.int .i64 z12.2.1), (.slice A19 (List.length z12.2.2) c20)], rdE eU8 A17 c18 z12.1, rowT 59 (ePair (eInt .i64) (ePair eStr (ePair eStr (ePair (eInt .i64) eStr)))) A19 c20 z12.2.2] := SP.call hs11 hs15
 clear hs15
 refine In.run' 1 (k' := 3) rfl [(6, (pt g16 0))] K ?_
 refine In.fin K ?_
 refine At.sq K ?_
 refine At.sq K ?_
 refine At.join (fun ρ w => ∃ (v30 : Bool), Known ρ [(1, (.slice A3 (List.length p2) c4)), (5, (.bool z6)), (6, (pt g16 0)), (35, (.bool v30))] ∧ SP [] w0 w [rdE eU8 A17 c18 z12.1, rowT 59 (ePair (eInt .i64) (ePair eStr (ePair eStr (ePair (eInt .i64) eStr)))) A19 c20 z12.2.2, boxE g16 56 #[(.slice A17 (List.length z12.1) c18), (.int .i64 z12.2.1), (.slice A19 (List.length z12.2.2) c20)]] ∧ L_subwaylaw15_TicketOnce_k1 p2 z6 z12 v30 = some r) ?_ ?_
 ·refine At.region K K ?_
  refine In.run' 4 (k' := 4) rfl [(25, (pt g16 0)), (26, (.bool false)), (27, (.bool false)), (28, (.slice A3 (List.length p2) c4))] K ?_
  obtain ⟨z24351, hz24352, H⟩ := bind_elim H
  refine In.step (k' := 5) rfl K ?_
  refine Step.callF (f := 12) (fo := (.func 12)) (xs := #[(.tmp 28)]) (tys := #[22]) (first := #[]) (captured := #[]) (d := (some 29)) (k := 4) K rfl K K Tryd.call12 (L_subwaylaw15_great_walk A3 c4 p2 w14 (RdT.sp hr5 hs22) z24351 hz24352) ?_
  rintro e w24353 ⟨rfl, hs24354⟩
  refine ⟨_, rfl, ?_⟩
  have hs24356 : SP [] w0 w24353 [boxE g16 56 #[(.slice A17 (List.length z12.1) c18), (.int .i64 z12.2.1), (.slice A19 (List.length z12.2.2) c20)], rdE eU8 A17 c18 z12.1, rowT 59 (ePair (eInt .i64) (ePair eStr (ePair eStr (ePair (eInt .i64) eStr)))) A19 c20 z12.2.2] := SP.call hs22 hs24354
  clear hs24354
  refine In.run' 2 (k' := 7) rfl [(30, (.bool z24351)), (31, (.bool z24351))] K ?_
  refine In.guard (t := 31) (b := z24351) K (fun hb24357 => ?_) (fun hb24357 => ?_)
  ·have H := ct H hb24357
   refine In.run' 4 (k' := 11) rfl [(32, undef), (33, undef), (34, undef), (35, (.bool true))] K ?_
   refine In.fin K ?_
   exact ⟨true, ⟨K, K, K, K, trivial⟩, SP.sel hs24356 [1, 2, 0] rfl rfl, H⟩
  ·have H := cf H hb24357
   refine In.run' 4 (k' := 11) rfl [(32, (.string ⟨List.toArray p1⟩)), (33, (.int .i64 ((List.length p1 : Nat) : Int))), (34, (.bool (decide (((List.length p1 : Nat) : Int) > 3000)))), (35, (.bool (decide (((List.length p1 : Nat) : Int) > 3000))))] K ?_
   refine In.fin K ?_
   exact ⟨(decide (((List.length p1 : Nat) : Int) > 3000)), ⟨K, K, K, K, trivial⟩, SP.sel hs24356 [1, 2, 0] rfl rfl, H⟩
 ·rintro ρ w31 ⟨v30, hk, hs32, H⟩
  unfold L_subwaylaw15_TicketOnce_k1 at H
  first | refine At.known [(1, (.slice A3 (List.length p2) c4)), (5, (.bool z6)), (6, (pt g16 0)), (35, (.bool v30))] hk ?_ | rw [← known_updL (l := [(1, (.slice A3 (List.length p2) c4)), (5, (.bool z6)), (6, (pt g16 0)), (35, (.bool v30))]) hk]
  refine At.cd K (o := (.tmp 35)) K (b := v30) K (fun hb33 => ?_) (fun hb33 => ?_)
  ·have H := ct H hb33
   refine At.sq K ?_
   refine At.region K K ?_
   refine In.run' 6 (k' := 6) rfl [(36, (pt g16 0)), (37, (.bool true)), (38, (.bool true)), (39, (.bool z6)), (40, (.bool z6)), (4, (.bool z6))] K ?_
   refine In.fin K ?_
   refine At.ret K ?_
   refine ⟨(.bool z6), K, ?_⟩
   obtain rfl := some_elim H
   exact ⟨rfl, SP.sel hs32 [] rfl rfl⟩
  ·have H := cf H hb33
   refine At.skip K ?_
   refine At.sq K ?_
   refine At.region K K ?_
   refine In.run' 1 (k' := 1) rfl [(7, (.slice none (List.length ([] : List (List UInt8))) 0))] K ?_
   refine In.fin K ?_
   refine At.sq K ?_
   refine At.region K K ?_
   refine In.run' 1 (k' := 1) rfl [(8, (.slice none (List.length ([] : List (Int × (List UInt8) × (List UInt8) × Int))) 0))] K ?_
   refine In.fin K ?_
   refine At.sq K ?_
   refine At.region K K ?_
   refine In.run' 1 (k' := 1) rfl [(9, (.slice none (List.length ([] : List Bool)) 0))] K ?_
   refine In.fin K ?_
   refine At.sq K ?_
   refine At.region K K ?_
   refine In.run' 1 (k' := 1) rfl [(10, (.int .i64 0))] K ?_
   refine In.fin K ?_
   refine At.sq K ?_
   refine At.sq K ?_
   refine At.region K K ?_
   refine In.run' 1 (k' := 1) rfl [(11, (.int .i64 0))] K ?_
   refine In.fin K ?_
   refine At.bk K (id := 0) K ?_
   refine At.lp K (fun f209 ρ w => ∃ (v12201 : (List UInt8)) (v12202 : Int) (v12205 : (List (Int × (List UInt8) × (List UInt8) × Int × (List UInt8)))) (v12208 : (List (List UInt8))) (v12211 : (List (Int × (List UInt8) × (List UInt8) × Int))) (v12214 : (List Bool)) (v12215 : Int) (v12216 : Int) (A12199 : Option Addr) (c12200 : Nat) (A12203 : Option Addr) (c12204 : Nat) (A12206 : Option Addr) (c12207 : Nat) (A12209 : Option Addr) (c12210 : Nat) (A12212 : Option Addr) (c12213 : Nat), Known ρ [(1, (.slice A3 (List.length p2) c4)), (5, (.bool z6)), (6, (pt g16 0)), (7, (.slice A12206 (List.length v12208) c12207)), (8, (.slice A12209 (List.length v12211) c12210)), (9, (.slice A12212 (List.length v12214) c12213)), (10, (.int .i64 v12215)), (11, (.int .i64 v12216))] ∧ SP [] w0 w [rdE eU8 A12199 c12200 v12201, rowT 59 (ePair (eInt .i64) (ePair eStr (ePair eStr (ePair (eInt .i64) eStr)))) A12203 c12204 v12205, boxE g16 56 #[(.slice A12199 (List.length v12201) c12200), (.int .i64 v12202), (.slice A12203 (List.length v12205) c12204)], rowT 9 eStr A12206 c12207 v12208, rowT 31 (ePair (eInt .i64) (ePair eStr (ePair eStr (eInt .i64)))) A12209 c12210 v12211, rowT 4 eBool A12212 c12213 v12214] ∧ L_subwaylaw15_TicketOnce_l140 p2 z6 f209 v12201 v12202 v12205 v12208 v12211 v12214 v12215 v12216 = some r) (by rintro ρ w ⟨v12201, v12202, v12205, v12208, v12211, v12214, v12215, v12216, A12199, c12200, A12203, c12204, A12206, c12207, A12209, c12210, A12212, c12213, hk, hs, H⟩; cases H) ?_ fuel ?_
   ·rintro f209 ρ w12197 ⟨v12201, v12202, v12205, v12208, v12211, v12214, v12215, v12216, A12199, c12200, A12203, c12204, A12206, c12207, A12209, c12210, A12212, c12213, hk, hs12198, H⟩
    refine At.known [(1, (.slice A3 (List.length p2) c4)), (5, (.bool z6)), (6, (pt g16 0)), (7, (.slice A12206 (List.length v12208) c12207)), (8, (.slice A12209 (List.length v12211) c12210)), (9, (.slice A12212 (List.length v12214) c12213)), (10, (.int .i64 v12215)), (11, (.int .i64 v12216))] hk ?_
    replace H := (show L_subwaylaw15_TicketOnce_b140 (L_subwaylaw15_TicketOnce_l140 p2 z6 f209) p2 z6 v12201 v12202 v12205 v12208 v12211 v12214 v12215 v12216 = some r from H)
    unfold L_subwaylaw15_TicketOnce_b140 at H
    refine At.sq K ?_
    refine At.sq K ?_
    refine At.region K K ?_
    refine In.run' 4 (k' := 4) rfl [(41, (.int .i64 v12216)), (42, (.slice A3 (List.length p2) c4)), (43, (.int .i64 ((List.length p2 : Nat) : Int))), (44, (.bool (decide (v12216 < ((List.length p2 : Nat) : Int)))))] K ?_
    refine In.fin K ?_
    refine At.cd K (o := (.tmp 44)) K (b := (decide (v12216 < ((List.length p2 : Nat) : Int)))) K (fun hb18284 => ?_) (fun hb18284 => ?_)
    ·have H := ct H hb18284
     refine At.skip K ?_
     refine At.sq K ?_
     refine At.bk K (id := 1) K ?_
     refine At.sq K ?_
     refine At.region K K ?_
     refine In.run' 2 (k' := 2) rfl [(47, (.slice A3 (List.length p2) c4)), (48, (.int .i64 v12216))] K ?_
     obtain ⟨x18285, hp18286, hq18287, hx18288, H⟩ := idx_elim H
     refine In.step (k' := 3) rfl K ?_
     refine Step.elem (e := (ePair (eInt .i64) (ePair (eInt .i64) (ePair eStr (ePair eStr (ePair (eInt .i64) (ePair eStr (ePair (eInt .i64) (ePair eStr eStr))))))))) (l := p2) (A := A3) (c := c4) (T := 22) (E := 33) (x := (.tmp 47)) (ix := (.tmp 48)) (ki := .i64) (iz := v12216) (d := (some 49)) (k := 2) K rfl K K K K (RdT.sp hr5 hs12198) hp18286 hq18287 ?_
     intro b18289 o18290 hA18292 hb18293 hc18291
     refine In.step (k' := 4) rfl K ?_
     refine Step.cells (t := 33) (x := (.tmp 49)) (b := b18289) (off := (o18290 + Int.toNat v12216 * (ePair (eInt .i64) (ePair (eInt .i64) (ePair eStr (ePair eStr (ePair (eInt .i64) (ePair eStr (ePair (eInt .i64) (ePair eStr eStr)))))))).sz)) (xs := [(.int .i64 x18285.1), (.int .i64 x18285.2.1), (.string ⟨List.toArray x18285.2.2.1⟩), (.string ⟨List.toArray x18285.2.2.2.1⟩), (.int .i64 x18285.2.2.2.2.1), (.string ⟨List.toArray x18285.2.2.2.2.2.1⟩), (.int .i64 x18285.2.2.2.2.2.2.1), (.string ⟨List.toArray x18285.2.2.2.2.2.2.2.1⟩), (.string ⟨List.toArray x18285.2.2.2.2.2.2.2.2⟩)]) (d := (some 50)) (k := 3) K rfl K K K (elem_cells0 (e := (ePair (eInt .i64) (ePair (eInt .i64) (ePair eStr (ePair eStr (ePair (eInt .i64) (ePair eStr (ePair (eInt .i64) (ePair eStr eStr))))))))) (rdt_cells (RdT.sp hr5 hs12198) hA18292 hp18286 hq18287) hx18288 rfl) ?_
     refine In.step (k' := 5) rfl K ?_
     refine Step.alloc (t := 33) (z := (.agg #[(.int .i64 0), (.int .i64 0), (.string ⟨List.toArray ([] : List UInt8)⟩), (.string ⟨List.toArray ([] : List UInt8)⟩), (.int .i64 0), (.string ⟨List.toArray ([] : List UInt8)⟩), (.int .i64 0), (.string ⟨List.toArray ([] : List UInt8)⟩), (.string ⟨List.toArray ([] : List UInt8)⟩)])) (d := (some 12)) (k := 4) K rfl K hs12198 ?_
     intro g18294 w18295 (hs18297 : SP [] w0 w18295 [rdE eU8 A12199 c12200 v12201, rowT 59 (ePair (eInt .i64) (ePair eStr (ePair eStr (ePair (eInt .i64) eStr)))) A12203 c12204 v12205, boxE g16 56 #[(.slice A12199 (List.length v12201) c12200), (.int .i64 v12202), (.slice A12203 (List.length v12205) c12204)], rowT 9 eStr A12206 c12207 v12208, rowT 31 (ePair (eInt .i64) (ePair eStr (ePair eStr (eInt .i64)))) A12209 c12210 v12211, rowT 4 eBool A12212 c12213 v12214, boxE g18294 33 #[(.int .i64 0), (.int .i64 0), (.string ⟨List.toArray ([] : List UInt8)⟩), (.string ⟨List.toArray ([] : List UInt8)⟩), (.int .i64 0), (.string ⟨List.toArray ([] : List UInt8)⟩), (.int .i64 0), (.string ⟨List.toArray ([] : List UInt8)⟩), (.string ⟨List.toArray ([] : List UInt8)⟩)]])
     refine In.step (k' := 6) rfl K ?_
     refine Step.store (t := 33) (x := (.tmp 12)) (y := (.tmp 50)) (g := g18294) (off := 0) (i := 6) (v := (.agg #[(.int .i64 x18285.1), (.int .i64 x18285.2.1), (.string ⟨List.toArray x18285.2.2.1⟩), (.string ⟨List.toArray x18285.2.2.2.1⟩), (.int .i64 x18285.2.2.2.2.1), (.string ⟨List.toArray x18285.2.2.2.2.2.1⟩), (.int .i64 x18285.2.2.2.2.2.2.1), (.string ⟨List.toArray x18285.2.2.2.2.2.2.2.1⟩), (.string ⟨List.toArray x18285.2.2.2.2.2.2.2.2⟩)])) (cs' := #[(.int .i64 x18285.1), (.int .i64 x18285.2.1), (.string ⟨List.toArray x18285.2.2.1⟩), (.string ⟨List.toArray x18285.2.2.2.1⟩), (.int .i64 x18285.2.2.2.2.1), (.string ⟨List.toArray x18285.2.2.2.2.2.1⟩), (.int .i64 x18285.2.2.2.2.2.2.1), (.string ⟨List.toArray x18285.2.2.2.2.2.2.2.1⟩), (.string ⟨List.toArray x18285.2.2.2.2.2.2.2.2⟩)]) (d := none) (k := 5) K rfl K K hs18297 rfl K ?_
     intro w18298 (hs18300 : SP [] w0 w18298 [rdE eU8 A12199 c12200 v12201, rowT 59 (ePair (eInt .i64) (ePair eStr (ePair eStr (ePair (eInt .i64) eStr)))) A12203 c12204 v12205, boxE g16 56 #[(.slice A12199 (List.length v12201) c12200), (.int .i64 v12202), (.slice A12203 (List.length v12205) c12204)], rowT 9 eStr A12206 c12207 v12208, rowT 31 (ePair (eInt .i64) (ePair eStr (ePair eStr (eInt .i64)))) A12209 c12210 v12211, rowT 4 eBool A12212 c12213 v12214, boxE g18294 33 #[(.int .i64 x18285.1), (.int .i64 x18285.2.1), (.string ⟨List.toArray x18285.2.2.1⟩), (.string ⟨List.toArray x18285.2.2.2.1⟩), (.int .i64 x18285.2.2.2.2.1), (.string ⟨List.toArray x18285.2.2.2.2.2.1⟩), (.int .i64 x18285.2.2.2.2.2.2.1), (.string ⟨List.toArray x18285.2.2.2.2.2.2.2.1⟩), (.string ⟨List.toArray x18285.2.2.2.2.2.2.2.2⟩)]])
     refine In.fin K ?_
     refine At.sq K ?_
     refine At.sq K ?_
     refine At.region K K ?_
     refine In.run' 1 (k' := 1) rfl [(51, (pt g18294 0))] K ?_
     refine In.step (k' := 2) rfl K ?_
     refine Step.load (t := 3) (x := (.tmp 51)) (g := g18294) (off := 0) (i := 6) (v := (.int .i64 x18285.1)) (d := (some 52)) (k := 1) K rfl K hs18300 rfl K ?_
     refine In.run' 1 (k' := 3) rfl [(53, (.bool (x18285.1 == 2)))] K ?_
     refine In.fin K ?_
     refine At.join (fun ρ w => ∃ (v21313 : (List UInt8)) (v21314 : Int) (v21317 : (List (Int × (List UInt8) × (List UInt8) × Int × (List UInt8)))) (v21320 : (List (List UInt8))) (v21323 : (List (Int × (List UInt8) × (List UInt8) × Int))) (v21326 : (List Bool)) (v21327 : Int) (A21311 : Option Addr) (c21312 : Nat) (A21315 : Option Addr) (c21316 : Nat) (A21318 : Option Addr) (c21319 : Nat) (A21321 : Option Addr) (c21322 : Nat) (A21324 : Option Addr) (c21325 : Nat), Known ρ [(1, (.slice A3 (List.length p2) c4)), (5, (.bool z6)), (6, (pt g16 0)), (7, (.slice A21318 (List.length v21320) c21319)), (8, (.slice A21321 (List.length v21323) c21322)), (9, (.slice A21324 (List.length v21326) c21325)), (10, (.int .i64 v21327)), (11, (.int .i64 v12216))] ∧ SP [] w0 w [rdE eU8 A21311 c21312 v21313, rowT 59 (ePair (eInt .i64) (ePair eStr (ePair eStr (ePair (eInt .i64) eStr)))) A21315 c21316 v21317, boxE g16 56 #[(.slice A21311 (List.length v21313) c21312), (.int .i64 v21314), (.slice A21315 (List.length v21317) c21316)], rowT 9 eStr A21318 c21319 v21320, rowT 31 (ePair (eInt .i64) (ePair eStr (ePair eStr (eInt .i64)))) A21321 c21322 v21323, rowT 4 eBool A21324 c21325 v21326] ∧ L_subwaylaw15_TicketOnce_k244 (L_subwaylaw15_TicketOnce_l140 p2 z6 f209) v12216 v21313 v21314 v21317 v21320 v21323 v21326 v21327 = some r) ?_ ?_
     ·refine At.cd K (o := (.tmp 53)) K (b := (x18285.1 == 2)) K (fun hb21341 => ?_) (fun hb21341 => ?_)
      ·have H := ct H hb21341
       refine At.sq K ?_
       refine At.region K K ?_
       refine In.step (k' := 1) rfl K ?_
       refine Step.load (t := 33) (x := (.tmp 12)) (g := g18294) (off := 0) (i := 6) (v := (.agg #[(.int .i64 x18285.1), (.int .i64 x18285.2.1), (.string ⟨List.toArray x18285.2.2.1⟩), (.string ⟨List.toArray x18285.2.2.2.1⟩), (.int .i64 x18285.2.2.2.2.1), (.string ⟨List.toArray x18285.2.2.2.2.2.1⟩), (.int .i64 x18285.2.2.2.2.2.2.1), (.string ⟨List.toArray x18285.2.2.2.2.2.2.2.1⟩), (.string ⟨List.toArray x18285.2.2.2.2.2.2.2.2⟩)])) (d := (some 54)) (k := 0) K rfl K hs18300 rfl K ?_
       refine In.run' 1 (k' := 2) rfl [(55, (.slice A12206 (List.length v12208) c12207))] K ?_
       obtain ⟨z21342, hz21343, H⟩ := bind_elim H
       refine In.step (k' := 3) rfl K ?_
       refine Step.callF (f := 14) (fo := (.func 14)) (xs := #[(.tmp 54), (.tmp 55)]) (tys := #[33, 29]) (first := #[]) (captured := #[]) (d := (some 56)) (k := 2) K rfl K K Tryd.call14 (L_subwaylaw15_shown_walk A12206 c12207 x18285.1 x18285.2.1 x18285.2.2.1 x18285.2.2.2.1 x18285.2.2.2.2.1 x18285.2.2.2.2.2.1 x18285.2.2.2.2.2.2.1 x18285.2.2.2.2.2.2.2.1 x18285.2.2.2.2.2.2.2.2 v12208 w18298 (rowT_rd (SP.get hs18300 (i := 3) rfl)) z21342 hz21343) ?_
       rintro e w21344 ⟨rfl, hs21345⟩
       refine ⟨_, rfl, ?_⟩
       have hs21347 : SP [] w0 w21344 [rdE eU8 A12199 c12200 v12201, rowT 59 (ePair (eInt .i64) (ePair eStr (ePair eStr (ePair (eInt .i64) eStr)))) A12203 c12204 v12205, boxE g16 56 #[(.slice A12199 (List.length v12201) c12200), (.int .i64 v12202), (.slice A12203 (List.length v12205) c12204)], rowT 9 eStr A12206 c12207 v12208, rowT 31 (ePair (eInt .i64) (ePair eStr (ePair eStr (eInt .i64)))) A12209 c12210 v12211, rowT 4 eBool A12212 c12213 v12214, boxE g18294 33 #[(.int .i64 x18285.1), (.int .i64 x18285.2.1), (.string ⟨List.toArray x18285.2.2.1⟩), (.string ⟨List.toArray x18285.2.2.2.1⟩), (.int .i64 x18285.2.2.2.2.1), (.string ⟨List.toArray x18285.2.2.2.2.2.1⟩), (.int .i64 x18285.2.2.2.2.2.2.1), (.string ⟨List.toArray x18285.2.2.2.2.2.2.2.1⟩), (.string ⟨List.toArray x18285.2.2.2.2.2.2.2.2⟩)]] := SP.call hs18300 hs21345
       clear hs21345
       refine In.run' 1 (k' := 4) rfl [(13, (.string ⟨List.toArray z21342⟩))] K ?_
       refine In.fin K ?_
       refine At.sq K ?_
       refine At.region K K ?_
       refine In.run' 3 (k' := 3) rfl [(58, (pt g16 0)), (59, (.string ⟨List.toArray z21342⟩)), (60, (pt g18294 8))] K ?_
       refine In.step (k' := 4) rfl K ?_
       refine Step.load (t := 9) (x := (.tmp 60)) (g := g18294) (off := 8) (i := 6) (v := (.string ⟨List.toArray x18285.2.2.2.2.2.2.2.2⟩)) (d := (some 61)) (k := 3) K rfl K hs21347 rfl K ?_
       obtain ⟨z21348, hz21349, H⟩ := bind_elim H
       refine In.step (k' := 5) rfl K ?_
       refine Step.callF (f := 13) (fo := (.func 13)) (xs := #[(.tmp 58), (.tmp 59), (.tmp 61)]) (tys := #[24, 9, 9]) (first := #[]) (captured := #[]) (d := (some 62)) (k := 4) K rfl K K Tryd.call13 (L_ticket_Book_Redeem_walk g16 A12199 c12200 A12203 c12204 v12201 v12202 v12205 z21342 x18285.2.2.2.2.2.2.2.2 w21344 (SP.sub hs21347 [2, 0, 1] rfl rfl) z21348 hz21349) ?_
       rintro e w21350 ⟨A21352, c21353, A21354, c21355, rfl, hs21351⟩
       refine ⟨_, rfl, ?_⟩
       have hs21357 : SP [] w0 w21350 [rowT 9 eStr A12206 c12207 v12208, rowT 31 (ePair (eInt .i64) (ePair eStr (ePair eStr (eInt .i64)))) A12209 c12210 v12211, rowT 4 eBool A12212 c12213 v12214, boxE g18294 33 #[(.int .i64 x18285.1), (.int .i64 x18285.2.1), (.string ⟨List.toArray x18285.2.2.1⟩), (.string ⟨List.toArray x18285.2.2.2.1⟩), (.int .i64 x18285.2.2.2.2.1), (.string ⟨List.toArray x18285.2.2.2.2.2.1⟩), (.int .i64 x18285.2.2.2.2.2.2.1), (.string ⟨List.toArray x18285.2.2.2.2.2.2.2.1⟩), (.string ⟨List.toArray x18285.2.2.2.2.2.2.2.2⟩)], boxE g16 56 #[(.slice A21352 (List.length z21348.2.2.2.2.2.1) c21353), (.int .i64 z21348.2.2.2.2.2.2.1), (.slice A21354 (List.length z21348.2.2.2.2.2.2.2) c21355)], rdE eU8 A21352 c21353 z21348.2.2.2.2.2.1, rowT 59 (ePair (eInt .i64) (ePair eStr (ePair eStr (ePair (eInt .i64) eStr)))) A21354 c21355 z21348.2.2.2.2.2.2.2] := SP.callS hs21347 [2, 0, 1] [3, 4, 5, 6] rfl rfl hs21351 rfl
       clear hs21351
       refine In.run' 3 (k' := 8) rfl [(57, (.tuple #[(.agg #[(.int .i64 z21348.1), (.string ⟨List.toArray z21348.2.1⟩), (.string ⟨List.toArray z21348.2.2.1⟩), (.int .i64 z21348.2.2.2.1)]), (.int .i64 z21348.2.2.2.2.1)])), (63, (.agg #[(.int .i64 z21348.1), (.string ⟨List.toArray z21348.2.1⟩), (.string ⟨List.toArray z21348.2.2.1⟩), (.int .i64 z21348.2.2.2.1)])), (64, (.int .i64 z21348.2.2.2.2.1))] K ?_
       refine In.step (k' := 9) rfl K ?_
       refine Step.alloc (t := 31) (z := (.agg #[(.int .i64 0), (.string ⟨List.toArray ([] : List UInt8)⟩), (.string ⟨List.toArray ([] : List UInt8)⟩), (.int .i64 0)])) (d := (some 14)) (k := 8) K rfl K hs21357 ?_
       intro g21358 w21359 (hs21361 : SP [] w0 w21359 [rowT 9 eStr A12206 c12207 v12208, rowT 31 (ePair (eInt .i64) (ePair eStr (ePair eStr (eInt .i64)))) A12209 c12210 v12211, rowT 4 eBool A12212 c12213 v12214, boxE g18294 33 #[(.int .i64 x18285.1), (.int .i64 x18285.2.1), (.string ⟨List.toArray x18285.2.2.1⟩), (.string ⟨List.toArray x18285.2.2.2.1⟩), (.int .i64 x18285.2.2.2.2.1), (.string ⟨List.toArray x18285.2.2.2.2.2.1⟩), (.int .i64 x18285.2.2.2.2.2.2.1), (.string ⟨List.toArray x18285.2.2.2.2.2.2.2.1⟩), (.string ⟨List.toArray x18285.2.2.2.2.2.2.2.2⟩)], boxE g16 56 #[(.slice A21352 (List.length z21348.2.2.2.2.2.1) c21353), (.int .i64 z21348.2.2.2.2.2.2.1), (.slice A21354 (List.length z21348.2.2.2.2.2.2.2) c21355)], rdE eU8 A21352 c21353 z21348.2.2.2.2.2.1, rowT 59 (ePair (eInt .i64) (ePair eStr (ePair eStr (ePair (eInt .i64) eStr)))) A21354 c21355 z21348.2.2.2.2.2.2.2, boxE g21358 31 #[(.int .i64 0), (.string ⟨List.toArray ([] : List UInt8)⟩), (.string ⟨List.toArray ([] : List UInt8)⟩), (.int .i64 0)]])
       refine In.step (k' := 10) rfl K ?_
       refine Step.store (t := 31) (x := (.tmp 14)) (y := (.tmp 63)) (g := g21358) (off := 0) (i := 7) (v := (.agg #[(.int .i64 z21348.1), (.string ⟨List.toArray z21348.2.1⟩), (.string ⟨List.toArray z21348.2.2.1⟩), (.int .i64 z21348.2.2.2.1)])) (cs' := #[(.int .i64 z21348.1), (.string ⟨List.toArray z21348.2.1⟩), (.string ⟨List.toArray z21348.2.2.1⟩), (.int .i64 z21348.2.2.2.1)]) (d := none) (k := 9) K rfl K K hs21361 rfl K ?_
       intro w21362 (hs21364 : SP [] w0 w21362 [rowT 9 eStr A12206 c12207 v12208, rowT 31 (ePair (eInt .i64) (ePair eStr (ePair eStr (eInt .i64)))) A12209 c12210 v12211, rowT 4 eBool A12212 c12213 v12214, boxE g18294 33 #[(.int .i64 x18285.1), (.int .i64 x18285.2.1), (.string ⟨List.toArray x18285.2.2.1⟩), (.string ⟨List.toArray x18285.2.2.2.1⟩), (.int .i64 x18285.2.2.2.2.1), (.string ⟨List.toArray x18285.2.2.2.2.2.1⟩), (.int .i64 x18285.2.2.2.2.2.2.1), (.string ⟨List.toArray x18285.2.2.2.2.2.2.2.1⟩), (.string ⟨List.toArray x18285.2.2.2.2.2.2.2.2⟩)], boxE g16 56 #[(.slice A21352 (List.length z21348.2.2.2.2.2.1) c21353), (.int .i64 z21348.2.2.2.2.2.2.1), (.slice A21354 (List.length z21348.2.2.2.2.2.2.2) c21355)], rdE eU8 A21352 c21353 z21348.2.2.2.2.2.1, rowT 59 (ePair (eInt .i64) (ePair eStr (ePair eStr (ePair (eInt .i64) eStr)))) A21354 c21355 z21348.2.2.2.2.2.2.2, boxE g21358 31 #[(.int .i64 z21348.1), (.string ⟨List.toArray z21348.2.1⟩), (.string ⟨List.toArray z21348.2.2.1⟩), (.int .i64 z21348.2.2.2.1)]])
       refine In.run' 1 (k' := 11) rfl [(15, (.int .i64 z21348.2.2.2.2.1))] K ?_
       refine In.fin K ?_
       refine At.sq K ?_
       refine At.region K K ?_
       refine In.run' 1 (k' := 1) rfl [(16, (.int .i64 (-1)))] K ?_
       refine In.fin K ?_
       refine At.sq K ?_
       refine At.sq K ?_
       refine At.region K K ?_
       refine In.run' 4 (k' := 4) rfl [(65, (.slice A12206 (List.length v12208) c12207)), (66, (.int .i64 ((List.length v12208 : Nat) : Int))), (67, (.int .i64 (IntKind.wrap .i64 (((List.length v12208 : Nat) : Int) - 1)))), (17, (.int .i64 (IntKind.wrap .i64 (((List.length v12208 : Nat) : Int) - 1))))] K ?_
       refine In.fin K ?_
       refine At.bk K (id := 2) K ?_
       refine At.lp K (fun f253 ρ w => ∃ (v21810 : Int) (v21811 : Int), Known ρ [(1, (.slice A3 (List.length p2) c4)), (5, (.bool z6)), (6, (pt g16 0)), (7, (.slice A12206 (List.length v12208) c12207)), (8, (.slice A12209 (List.length v12211) c12210)), (9, (.slice A12212 (List.length v12214) c12213)), (10, (.int .i64 v12215)), (11, (.int .i64 v12216)), (12, (pt g18294 0)), (13, (.string ⟨List.toArray z21342⟩)), (14, (pt g21358 0)), (15, (.int .i64 z21348.2.2.2.2.1)), (16, (.int .i64 v21810)), (17, (.int .i64 v21811))] ∧ SP [] w0 w [rdE eU8 A21352 c21353 z21348.2.2.2.2.2.1, rowT 59 (ePair (eInt .i64) (ePair eStr (ePair eStr (ePair (eInt .i64) eStr)))) A21354 c21355 z21348.2.2.2.2.2.2.2, boxE g16 56 #[(.slice A21352 (List.length z21348.2.2.2.2.2.1) c21353), (.int .i64 z21348.2.2.2.2.2.2.1), (.slice A21354 (List.length z21348.2.2.2.2.2.2.2) c21355)], boxE g18294 33 #[(.int .i64 x18285.1), (.int .i64 x18285.2.1), (.string ⟨List.toArray x18285.2.2.1⟩), (.string ⟨List.toArray x18285.2.2.2.1⟩), (.int .i64 x18285.2.2.2.2.1), (.string ⟨List.toArray x18285.2.2.2.2.2.1⟩), (.int .i64 x18285.2.2.2.2.2.2.1), (.string ⟨List.toArray x18285.2.2.2.2.2.2.2.1⟩), (.string ⟨List.toArray x18285.2.2.2.2.2.2.2.2⟩)], boxE g21358 31 #[(.int .i64 z21348.1), (.string ⟨List.toArray z21348.2.1⟩), (.string ⟨List.toArray z21348.2.2.1⟩), (.int .i64 z21348.2.2.2.1)], rowT 9 eStr A12206 c12207 v12208, rowT 31 (ePair (eInt .i64) (ePair eStr (ePair eStr (eInt .i64)))) A12209 c12210 v12211, rowT 4 eBool A12212 c12213 v12214] ∧ L_subwaylaw15_TicketOnce_l249 (L_subwaylaw15_TicketOnce_l140 p2 z6 f209) v12208 v12211 v12214 v12215 v12216 x18285 z21342 z21348 f253 v21810 v21811 = some r) (by rintro ρ w ⟨v21810, v21811, hk, hs, H⟩; cases H) ?_ fuel ?_
       ·rintro f253 ρ w21808 ⟨v21810, v21811, hk, hs21809, H⟩
        refine At.known [(1, (.slice A3 (List.length p2) c4)), (5, (.bool z6)), (6, (pt g16 0)), (7, (.slice A12206 (List.length v12208) c12207)), (8, (.slice A12209 (List.length v12211) c12210)), (9, (.slice A12212 (List.length v12214) c12213)), (10, (.int .i64 v12215)), (11, (.int .i64 v12216)), (12, (pt g18294 0)), (13, (.string ⟨List.toArray z21342⟩)), (14, (pt g21358 0)), (15, (.int .i64 z21348.2.2.2.2.1)), (16, (.int .i64 v21810)), (17, (.int .i64 v21811))] hk ?_
        replace H := (show L_subwaylaw15_TicketOnce_b249 (L_subwaylaw15_TicketOnce_l140 p2 z6 f209) (L_subwaylaw15_TicketOnce_l249 (L_subwaylaw15_TicketOnce_l140 p2 z6 f209) v12208 v12211 v12214 v12215 v12216 x18285 z21342 z21348 f253) v12208 v12211 v12214 v12215 v12216 x18285 z21342 z21348 v21810 v21811 = some r from H)
        unfold L_subwaylaw15_TicketOnce_b249 at H
        refine At.sq K ?_
        refine At.sq K ?_
        refine At.region K K ?_
        refine In.run' 2 (k' := 2) rfl [(68, (.int .i64 v21811)), (69, (.bool (decide (v21811 ≥ 0))))] K ?_
        refine In.fin K ?_
        refine At.cd K (o := (.tmp 69)) K (b := (decide (v21811 ≥ 0))) K (fun hb22253 => ?_) (fun hb22253 => ?_)
        ·have H := ct H hb22253
         refine At.skip K ?_
         refine At.sq K ?_
         refine At.bk K (id := 3) K ?_
         refine At.sq K ?_
         refine At.join (fun ρ w => ∃ (v22273 : Bool), Known ρ [(1, (.slice A3 (List.length p2) c4)), (5, (.bool z6)), (6, (pt g16 0)), (7, (.slice A12206 (List.length v12208) c12207)), (8, (.slice A12209 (List.length v12211) c12210)), (9, (.slice A12212 (List.length v12214) c12213)), (10, (.int .i64 v12215)), (11, (.int .i64 v12216)), (12, (pt g18294 0)), (13, (.string ⟨List.toArray z21342⟩)), (14, (pt g21358 0)), (15, (.int .i64 z21348.2.2.2.2.1)), (16, (.int .i64 v21810)), (17, (.int .i64 v21811)), (83, (.bool v22273))] ∧ SP [] w0 w [rdE eU8 A21352 c21353 z21348.2.2.2.2.2.1, rowT 59 (ePair (eInt .i64) (ePair eStr (ePair eStr (ePair (eInt .i64) eStr)))) A21354 c21355 z21348.2.2.2.2.2.2.2, boxE g16 56 #[(.slice A21352 (List.length z21348.2.2.2.2.2.1) c21353), (.int .i64 z21348.2.2.2.2.2.2.1), (.slice A21354 (List.length z21348.2.2.2.2.2.2.2) c21355)], boxE g18294 33 #[(.int .i64 x18285.1), (.int .i64 x18285.2.1), (.string ⟨List.toArray x18285.2.2.1⟩), (.string ⟨List.toArray x18285.2.2.2.1⟩), (.int .i64 x18285.2.2.2.2.1), (.string ⟨List.toArray x18285.2.2.2.2.2.1⟩), (.int .i64 x18285.2.2.2.2.2.2.1), (.string ⟨List.toArray x18285.2.2.2.2.2.2.2.1⟩), (.string ⟨List.toArray x18285.2.2.2.2.2.2.2.2⟩)], boxE g21358 31 #[(.int .i64 z21348.1), (.string ⟨List.toArray z21348.2.1⟩), (.string ⟨List.toArray z21348.2.2.1⟩), (.int .i64 z21348.2.2.2.1)], rowT 9 eStr A12206 c12207 v12208, rowT 31 (ePair (eInt .i64) (ePair eStr (ePair eStr (eInt .i64)))) A12209 c12210 v12211, rowT 4 eBool A12212 c12213 v12214] ∧ L_subwaylaw15_TicketOnce_k254 (L_subwaylaw15_TicketOnce_l140 p2 z6 f209) (L_subwaylaw15_TicketOnce_l249 (L_subwaylaw15_TicketOnce_l140 p2 z6 f209) v12208 v12211 v12214 v12215 v12216 x18285 z21342 z21348 f253) v21810 v21811 v22273 = some r) ?_ ?_
         ·refine At.region K K ?_
          refine In.run' 2 (k' := 2) rfl [(72, (.slice A12212 (List.length v12214) c12213)), (73, (.int .i64 v21811))] K ?_
          obtain ⟨x22281, hp22282, hq22283, hx22284, H⟩ := idx_elim H
          refine In.step (k' := 3) rfl K ?_
          refine Step.elem (e := eBool) (l := v12214) (A := A12212) (c := c12213) (T := 47) (E := 4) (x := (.tmp 72)) (ix := (.tmp 73)) (ki := .i64) (iz := v21811) (d := (some 74)) (k := 2) K rfl K K K K (rowT_rd (SP.get hs21809 (i := 7) rfl)) hp22282 hq22283 ?_
          intro b22285 o22286 hA22288 hb22289 hc22287
          refine In.step (k' := 4) rfl K ?_
          refine Step.cell (t := 4) (x := (.tmp 74)) (b := b22285) (off := (o22286 + Int.toNat v21811 * eBool.sz)) (v := (.bool x22281)) (d := (some 75)) (k := 3) K rfl K K (elem_cell (e := eBool) (rdt_cells (rowT_rd (SP.get hs21809 (i := 7) rfl)) hA22288 hp22282 hq22283) hx22284 (j := 0) rfl) ?_
          refine In.run' 1 (k' := 5) rfl [(76, (.bool x22281))] K ?_
          refine In.guard (t := 76) (b := x22281) K (fun hb22290 => ?_) (fun hb22290 => ?_)
          ·have H := ct H hb22290
           refine In.run' 2 (k' := 7) rfl [(77, (.slice A12206 (List.length v12208) c12207)), (78, (.int .i64 v21811))] K ?_
           obtain ⟨x22291, hp22292, hq22293, hx22294, H⟩ := idx_elim H
           refine In.step (k' := 8) rfl K ?_
           refine Step.elem (e := eStr) (l := v12208) (A := A12206) (c := c12207) (T := 29) (E := 9) (x := (.tmp 77)) (ix := (.tmp 78)) (ki := .i64) (iz := v21811) (d := (some 79)) (k := 7) K rfl K K K K (rowT_rd (SP.get hs21809 (i := 5) rfl)) hp22292 hq22293 ?_
           intro b22295 o22296 hA22298 hb22299 hc22297
           refine In.step (k' := 9) rfl K ?_
           refine Step.cell (t := 9) (x := (.tmp 79)) (b := b22295) (off := (o22296 + Int.toNat v21811 * eStr.sz)) (v := (.string ⟨List.toArray x22291⟩)) (d := (some 80)) (k := 8) K rfl K K (elem_cell (e := eStr) (rdt_cells (rowT_rd (SP.get hs21809 (i := 5) rfl)) hA22298 hp22292 hq22293) hx22294 (j := 0) rfl) ?_
           refine In.run' 1 (k' := 10) rfl [(81, (.string ⟨List.toArray z21342⟩))] K ?_
           refine In.step (k' := 11) rfl K ?_
           refine Step.strOp (op := .eql) (T := 9) (T' := 9) (x := (.tmp 80)) (y := (.tmp 81)) (a := x22291) (b := z21342) (r := (.bool (x22291 == z21342))) (d := (some 82)) (k := 10) K rfl K K rfl ?_
           refine In.run' 1 (k' := 12) rfl [(83, (.bool (x22291 == z21342)))] K ?_
           refine In.fin K ?_
           exact ⟨(x22291 == z21342), ⟨K, K, K, K, K, K, K, K, K, K, K, K, K, K, K, trivial⟩, SP.sel hs21809 [0, 1, 2, 3, 4, 5, 6, 7] rfl rfl, H⟩
          ·have H := cf H hb22290
           refine In.run' 7 (k' := 12) rfl [(77, undef), (78, undef), (79, undef), (80, undef), (81, undef), (82, undef), (83, (.bool false))] K ?_
           refine In.fin K ?_
           exact ⟨false, ⟨K, K, K, K, K, K, K, K, K, K, K, K, K, K, K, trivial⟩, SP.sel hs21809 [0, 1, 2, 3, 4, 5, 6, 7] rfl rfl, H⟩
         ·rintro ρ w22274 ⟨v22273, hk, hs22275, H⟩
          unfold L_subwaylaw15_TicketOnce_k254 at H
          first | refine At.known [(1, (.slice A3 (List.length p2) c4)), (5, (.bool z6)), (6, (pt g16 0)), (7, (.slice A12206 (List.length v12208) c12207)), (8, (.slice A12209 (List.length v12211) c12210)), (9, (.slice A12212 (List.length v12214) c12213)), (10, (.int .i64 v12215)), (11, (.int .i64 v12216)), (12, (pt g18294 0)), (13, (.string ⟨List.toArray z21342⟩)), (14, (pt g21358 0)), (15, (.int .i64 z21348.2.2.2.2.1)), (16, (.int .i64 v21810)), (17, (.int .i64 v21811)), (83, (.bool v22273))] hk ?_ | rw [← known_updL (l := [(1, (.slice A3 (List.length p2) c4)), (5, (.bool z6)), (6, (pt g16 0)), (7, (.slice A12206 (List.length v12208) c12207)), (8, (.slice A12209 (List.length v12211) c12210)), (9, (.slice A12212 (List.length v12214) c12213)), (10, (.int .i64 v12215)), (11, (.int .i64 v12216)), (12, (pt g18294 0)), (13, (.string ⟨List.toArray z21342⟩)), (14, (pt g21358 0)), (15, (.int .i64 z21348.2.2.2.2.1)), (16, (.int .i64 v21810)), (17, (.int .i64 v21811)), (83, (.bool v22273))]) hk]
          refine At.join (fun ρ w => ∃ (v22277 : Int), Known ρ [(1, (.slice A3 (List.length p2) c4)), (5, (.bool z6)), (6, (pt g16 0)), (7, (.slice A12206 (List.length v12208) c12207)), (8, (.slice A12209 (List.length v12211) c12210)), (9, (.slice A12212 (List.length v12214) c12213)), (10, (.int .i64 v12215)), (11, (.int .i64 v12216)), (12, (pt g18294 0)), (13, (.string ⟨List.toArray z21342⟩)), (14, (pt g21358 0)), (15, (.int .i64 z21348.2.2.2.2.1)), (16, (.int .i64 v22277)), (17, (.int .i64 v21811))] ∧ SP [] w0 w [rdE eU8 A21352 c21353 z21348.2.2.2.2.2.1, rowT 59 (ePair (eInt .i64) (ePair eStr (ePair eStr (ePair (eInt .i64) eStr)))) A21354 c21355 z21348.2.2.2.2.2.2.2, boxE g16 56 #[(.slice A21352 (List.length z21348.2.2.2.2.2.1) c21353), (.int .i64 z21348.2.2.2.2.2.2.1), (.slice A21354 (List.length z21348.2.2.2.2.2.2.2) c21355)], boxE g18294 33 #[(.int .i64 x18285.1), (.int .i64 x18285.2.1), (.string ⟨List.toArray x18285.2.2.1⟩), (.string ⟨List.toArray x18285.2.2.2.1⟩), (.int .i64 x18285.2.2.2.2.1), (.string ⟨List.toArray x18285.2.2.2.2.2.1⟩), (.int .i64 x18285.2.2.2.2.2.2.1), (.string ⟨List.toArray x18285.2.2.2.2.2.2.2.1⟩), (.string ⟨List.toArray x18285.2.2.2.2.2.2.2.2⟩)], boxE g21358 31 #[(.int .i64 z21348.1), (.string ⟨List.toArray z21348.2.1⟩), (.string ⟨List.toArray z21348.2.2.1⟩), (.int .i64 z21348.2.2.2.1)], rowT 9 eStr A12206 c12207 v12208, rowT 31 (ePair (eInt .i64) (ePair eStr (ePair eStr (eInt .i64)))) A12209 c12210 v12211, rowT 4 eBool A12212 c12213 v12214] ∧ L_subwaylaw15_TicketOnce_k255 (L_subwaylaw15_TicketOnce_l140 p2 z6 f209) (L_subwaylaw15_TicketOnce_l249 (L_subwaylaw15_TicketOnce_l140 p2 z6 f209) v12208 v12211 v12214 v12215 v12216 x18285 z21342 z21348 f253) v21811 v22277 = some r) ?_ ?_
          ·refine At.cd K (o := (.tmp 83)) K (b := v22273) K (fun hb22280 => ?_) (fun hb22280 => ?_)
           ·have H := ct H hb22280
            refine At.region K K ?_
            refine In.run' 2 (k' := 2) rfl [(84, (.int .i64 v21811)), (16, (.int .i64 v21811))] K ?_
            refine In.fin K ?_
            exact ⟨v21811, ⟨K, K, K, K, K, K, K, K, K, K, K, K, K, K, trivial⟩, SP.sel hs22275 [0, 1, 2, 3, 4, 5, 6, 7] rfl rfl, H⟩
           ·have H := cf H hb22280
            refine At.skip K ?_
            exact ⟨v21810, ⟨K, K, K, K, K, K, K, K, K, K, K, K, K, K, trivial⟩, SP.sel hs22275 [0, 1, 2, 3, 4, 5, 6, 7] rfl rfl, H⟩
          ·rintro ρ w22278 ⟨v22277, hk, hs22279, H⟩
           unfold L_subwaylaw15_TicketOnce_k255 at H
           first | refine At.known [(1, (.slice A3 (List.length p2) c4)), (5, (.bool z6)), (6, (pt g16 0)), (7, (.slice A12206 (List.length v12208) c12207)), (8, (.slice A12209 (List.length v12211) c12210)), (9, (.slice A12212 (List.length v12214) c12213)), (10, (.int .i64 v12215)), (11, (.int .i64 v12216)), (12, (pt g18294 0)), (13, (.string ⟨List.toArray z21342⟩)), (14, (pt g21358 0)), (15, (.int .i64 z21348.2.2.2.2.1)), (16, (.int .i64 v22277)), (17, (.int .i64 v21811))] hk ?_ | rw [← known_updL (l := [(1, (.slice A3 (List.length p2) c4)), (5, (.bool z6)), (6, (pt g16 0)), (7, (.slice A12206 (List.length v12208) c12207)), (8, (.slice A12209 (List.length v12211) c12210)), (9, (.slice A12212 (List.length v12214) c12213)), (10, (.int .i64 v12215)), (11, (.int .i64 v12216)), (12, (pt g18294 0)), (13, (.string ⟨List.toArray z21342⟩)), (14, (pt g21358 0)), (15, (.int .i64 z21348.2.2.2.2.1)), (16, (.int .i64 v22277)), (17, (.int .i64 v21811))]) hk]
           refine At.region K K ?_
           refine In.run' 3 (k' := 3) rfl [(70, (.int .i64 v21811)), (71, (.int .i64 (IntKind.wrap .i64 (v21811 - 1)))), (17, (.int .i64 (IntKind.wrap .i64 (v21811 - 1))))] K ?_
           refine In.fin K ?_
           exact ⟨v22277, (IntKind.wrap .i64 (v21811 - 1)), ⟨K, K, K, K, K, K, K, K, K, K, K, K, K, K, trivial⟩, SP.sel hs22279 [0, 1, 2, 3, 4, 5, 6, 7] rfl rfl, H⟩
        ·have H := cf H hb22253
         refine At.exit K (id := 2) K ?_
         refine At.sq K ?_
         refine At.sq K ?_
         refine At.join (fun ρ w => ∃ (v22478 : Bool), Known ρ [(1, (.slice A3 (List.length p2) c4)), (5, (.bool z6)), (6, (pt g16 0)), (7, (.slice A12206 (List.length v12208) c12207)), (8, (.slice A12209 (List.length v12211) c12210)), (9, (.slice A12212 (List.length v12214) c12213)), (10, (.int .i64 v12215)), (11, (.int .i64 v12216)), (15, (.int .i64 z21348.2.2.2.2.1)), (16, (.int .i64 v21810)), (122, (.bool v22478))] ∧ SP [] w0 w [rdE eU8 A21352 c21353 z21348.2.2.2.2.2.1, rowT 59 (ePair (eInt .i64) (ePair eStr (ePair eStr (ePair (eInt .i64) eStr)))) A21354 c21355 z21348.2.2.2.2.2.2.2, boxE g16 56 #[(.slice A21352 (List.length z21348.2.2.2.2.2.1) c21353), (.int .i64 z21348.2.2.2.2.2.2.1), (.slice A21354 (List.length z21348.2.2.2.2.2.2.2) c21355)], rowT 9 eStr A12206 c12207 v12208, rowT 31 (ePair (eInt .i64) (ePair eStr (ePair eStr (eInt .i64)))) A12209 c12210 v12211, rowT 4 eBool A12212 c12213 v12214] ∧ L_subwaylaw15_TicketOnce_k256 (L_subwaylaw15_TicketOnce_l140 p2 z6 f209) (L_subwaylaw15_TicketOnce_l249 (L_subwaylaw15_TicketOnce_l140 p2 z6 f209) v12208 v12211 v12214 v12215 v12216 x18285 z21342 z21348 f253) v12208 v12211 v12214 v12215 v12216 z21348 v21810 v22478 = some r) ?_ ?_
         ·rcases Bool.eq_false_or_eq_true (!((z21348.2.2.2.2.1 == 151) == (decide (v21810 < 0)))) with hb22516 | hb22516
          ·have H := ct H hb22516
           refine At.stages K K K K K [GEq (.int .i64 z21348.2.2.2.2.1), GEq (.bool (z21348.2.2.2.2.1 == 151)), GEq (.int .i64 v21810), GEq (.bool (decide (v21810 < 0))), GEq (.bool (!((z21348.2.2.2.2.1 == 151) == (decide (v21810 < 0))))), GEq (.bool (!((z21348.2.2.2.2.1 == 151) == (decide (v21810 < 0))))), GEq undef, GEq undef, GEq undef, GEq undef, GEq undef, GEq undef, GEq undef, GEq undef, GEq undef, GEq undef, GEq undef, GEq undef, GEq undef, GEq undef, GEq undef, GEq undef, GEq undef, GEq (.bool true), GEq (.bool true), GEq undef, GEq undef, GEq undef, GEq undef, GEq undef, GEq undef, GEq undef, GEq undef, GEq undef, GEq undef, GEq undef, GEq undef, GEq (.bool true)] [] [([], fun vs w => VL vs [] ∧ SP [] w0 w [rdE eU8 A21352 c21353 z21348.2.2.2.2.2.1, rowT 59 (ePair (eInt .i64) (ePair eStr (ePair eStr (ePair (eInt .i64) eStr)))) A21354 c21355 z21348.2.2.2.2.2.2.2, boxE g16 56 #[(.slice A21352 (List.length z21348.2.2.2.2.2.1) c21353), (.int .i64 z21348.2.2.2.2.2.2.1), (.slice A21354 (List.length z21348.2.2.2.2.2.2.2) c21355)], boxE g18294 33 #[(.int .i64 x18285.1), (.int .i64 x18285.2.1), (.string ⟨List.toArray x18285.2.2.1⟩), (.string ⟨List.toArray x18285.2.2.2.1⟩), (.int .i64 x18285.2.2.2.2.1), (.string ⟨List.toArray x18285.2.2.2.2.2.1⟩), (.int .i64 x18285.2.2.2.2.2.2.1), (.string ⟨List.toArray x18285.2.2.2.2.2.2.2.1⟩), (.string ⟨List.toArray x18285.2.2.2.2.2.2.2.2⟩)], boxE g21358 31 #[(.int .i64 z21348.1), (.string ⟨List.toArray z21348.2.1⟩), (.string ⟨List.toArray z21348.2.2.1⟩), (.int .i64 z21348.2.2.2.1)], rowT 9 eStr A12206 c12207 v12208, rowT 31 (ePair (eInt .i64) (ePair eStr (ePair eStr (eInt .i64)))) A12209 c12210 v12211, rowT 4 eBool A12212 c12213 v12214])] (N := 38) K ⟨K, Nat.zero_lt_succ _⟩ (show VL [] [] ∧ SP [] w0 w21808.drew [rdE eU8 A21352 c21353 z21348.2.2.2.2.2.1, rowT 59 (ePair (eInt .i64) (ePair eStr (ePair eStr (ePair (eInt .i64) eStr)))) A21354 c21355 z21348.2.2.2.2.2.2.2, boxE g16 56 #[(.slice A21352 (List.length z21348.2.2.2.2.2.1) c21353), (.int .i64 z21348.2.2.2.2.2.2.1), (.slice A21354 (List.length z21348.2.2.2.2.2.2.2) c21355)], boxE g18294 33 #[(.int .i64 x18285.1), (.int .i64 x18285.2.1), (.string ⟨List.toArray x18285.2.2.1⟩), (.string ⟨List.toArray x18285.2.2.2.1⟩), (.int .i64 x18285.2.2.2.2.1), (.string ⟨List.toArray x18285.2.2.2.2.2.1⟩), (.int .i64 x18285.2.2.2.2.2.2.1), (.string ⟨List.toArray x18285.2.2.2.2.2.2.2.1⟩), (.string ⟨List.toArray x18285.2.2.2.2.2.2.2.2⟩)], boxE g21358 31 #[(.int .i64 z21348.1), (.string ⟨List.toArray z21348.2.1⟩), (.string ⟨List.toArray z21348.2.2.1⟩), (.int .i64 z21348.2.2.2.1)], rowT 9 eStr A12206 c12207 v12208, rowT 31 (ePair (eInt .i64) (ePair eStr (ePair eStr (eInt .i64)))) A12209 c12210 v12211, rowT 4 eBool A12212 c12213 v12214] from ⟨trivial, SP.drew hs21809⟩) ⟨⟨⟨⟨⟨⟨⟨⟨⟨⟨⟨⟨⟨⟨⟨⟨⟨⟨⟨⟨⟨⟨⟨⟨⟨⟨⟨⟨⟨⟨⟨⟨⟨⟨⟨⟨⟨⟨trivial, ?_⟩, ?_⟩, ?_⟩, ?_⟩, ?_⟩, ?_⟩, ?_⟩, ?_⟩, ?_⟩, ?_⟩, ?_⟩, ?_⟩, ?_⟩, ?_⟩, ?_⟩, ?_⟩, ?_⟩, ?_⟩, ?_⟩, ?_⟩, ?_⟩, ?_⟩, ?_⟩, ?_⟩, ?_⟩, ?_⟩, ?_⟩, ?_⟩, ?_⟩, ?_⟩, ?_⟩, ?_⟩, ?_⟩, ?_⟩, ?_⟩, ?_⟩, ?_⟩, ?_⟩ (last := 0) K ?_
           ·exact Owe.run K [(15, (.int .i64 z21348.2.2.2.2.1))] ⟨gS K K, trivial⟩ (.int .i64 z21348.2.2.2.2.1) (fun _ _ => K) rfl
           ·exact Owe.run K [(85, (.int .i64 z21348.2.2.2.2.1))] ⟨gA 0 K K, trivial⟩ (.bool (z21348.2.2.2.2.1 == 151)) (fun _ _ => K) rfl
           ·exact Owe.run K [(16, (.int .i64 v21810))] ⟨gS K K, trivial⟩ (.int .i64 v21810) (fun _ _ => K) rfl
           ·exact Owe.run K [(87, (.int .i64 v21810))] ⟨gA 2 K K, trivial⟩ (.bool (decide (v21810 < 0))) (fun _ _ => K) rfl
           ·exact Owe.run K [(86, (.bool (z21348.2.2.2.2.1 == 151))), (88, (.bool (decide (v21810 < 0))))] ⟨gA 1 K K, gA 3 K K, trivial⟩ (.bool (!((z21348.2.2.2.2.1 == 151) == (decide (v21810 < 0))))) (fun _ _ => K) rfl
           ·exact Owe.run K [(89, (.bool (!((z21348.2.2.2.2.1 == 151) == (decide (v21810 < 0))))))] ⟨gA 4 K K, trivial⟩ (.bool (!((z21348.2.2.2.2.1 == 151) == (decide (v21810 < 0))))) (fun _ _ => K) rfl
           ·exact Owe.skip K [(90, (.bool true))] ⟨gB 5 K (!((z21348.2.2.2.2.1 == 151) == (decide (v21810 < 0)))) K hb22516, trivial⟩ (some 91) (fun _ => K) K rfl
           ·exact Owe.skip K [(90, (.bool true))] ⟨gB 5 K (!((z21348.2.2.2.2.1 == 151) == (decide (v21810 < 0)))) K hb22516, trivial⟩ (some 92) (fun _ => K) K rfl
           ·exact Owe.skip K [(90, (.bool true))] ⟨gB 5 K (!((z21348.2.2.2.2.1 == 151) == (decide (v21810 < 0)))) K hb22516, trivial⟩ (some 93) (fun _ => K) K rfl
           ·exact Owe.skip K [(93, undef)] ⟨gA 8 K K, trivial⟩ (some 94) (fun _ => K) K rfl
           ·exact Owe.skip K [(93, undef)] ⟨gA 8 K K, trivial⟩ (some 95) (fun _ => K) K rfl
           ·exact Owe.skip K [(93, undef)] ⟨gA 8 K K, trivial⟩ (some 96) (fun _ => K) K rfl
           ·exact Owe.skip K [(93, undef)] ⟨gA 8 K K, trivial⟩ (some 97) (fun _ => K) K rfl
           ·exact Owe.skip K [(93, undef)] ⟨gA 8 K K, trivial⟩ (some 98) (fun _ => K) K rfl
           ·exact Owe.skip K [(93, undef)] ⟨gA 8 K K, trivial⟩ (some 99) (fun _ => K) K rfl
           ·exact Owe.skip K [(93, undef)] ⟨gA 8 K K, trivial⟩ (some 100) (fun _ => K) K rfl
           ·exact Owe.skip K [(100, undef)] ⟨gA 15 K K, trivial⟩ (some 101) (fun _ => K) K rfl
           ·exact Owe.skip K [(100, undef)] ⟨gA 15 K K, trivial⟩ (some 102) (fun _ => K) K rfl
           ·exact Owe.skip K [(100, undef)] ⟨gA 15 K K, trivial⟩ (some 103) (fun _ => K) K rfl
           ·exact Owe.skip K [(100, undef)] ⟨gA 15 K K, trivial⟩ (some 104) (fun _ => K) K rfl
           ·exact Owe.skip K [(100, undef)] ⟨gA 15 K K, trivial⟩ (some 105) (fun _ => K) K rfl
           ·exact Owe.skip K [(93, undef)] ⟨gA 8 K K, trivial⟩ (some 106) (fun _ => K) K rfl
           ·exact Owe.skip K [(90, (.bool true))] ⟨gB 5 K (!((z21348.2.2.2.2.1 == 151) == (decide (v21810 < 0)))) K hb22516, trivial⟩ (some 107) (fun _ => K) K rfl
           ·exact Owe.run K [(90, (.bool true)), (107, undef)] ⟨gB 5 K (!((z21348.2.2.2.2.1 == 151) == (decide (v21810 < 0)))) K hb22516, gA 22 K K, trivial⟩ (.bool true) (fun _ _ => K) rfl
           ·exact Owe.run K [(108, (.bool true))] ⟨gA 23 K K, trivial⟩ (.bool true) (fun _ _ => K) rfl
           ·exact Owe.skip K [(109, (.bool true))] ⟨gA 24 K K, trivial⟩ (some 110) (fun _ => K) K rfl
           ·exact Owe.skip K [(109, (.bool true))] ⟨gA 24 K K, trivial⟩ (some 111) (fun _ => K) K rfl
           ·exact Owe.skip K [(109, (.bool true))] ⟨gA 24 K K, trivial⟩ (some 112) (fun _ => K) K rfl
           ·exact Owe.skip K [(112, undef)] ⟨gA 27 K K, trivial⟩ (some 113) (fun _ => K) K rfl
           ·exact Owe.skip K [(112, undef)] ⟨gA 27 K K, trivial⟩ (some 114) (fun _ => K) K rfl
           ·exact Owe.skip K [(112, undef)] ⟨gA 27 K K, trivial⟩ (some 115) (fun _ => K) K rfl
           ·exact Owe.skip K [(112, undef)] ⟨gA 27 K K, trivial⟩ (some 116) (fun _ => K) K rfl
           ·exact Owe.skip K [(112, undef)] ⟨gA 27 K K, trivial⟩ (some 117) (fun _ => K) K rfl
           ·exact Owe.skip K [(112, undef)] ⟨gA 27 K K, trivial⟩ (some 118) (fun _ => K) K rfl
           ·exact Owe.skip K [(112, undef)] ⟨gA 27 K K, trivial⟩ (some 119) (fun _ => K) K rfl
           ·exact Owe.skip K [(112, undef)] ⟨gA 27 K K, trivial⟩ (some 120) (fun _ => K) K rfl
           ·exact Owe.skip K [(109, (.bool true))] ⟨gA 24 K K, trivial⟩ (some 121) (fun _ => K) K rfl
           ·exact Owe.run K [(109, (.bool true)), (121, undef)] ⟨gA 24 K K, gA 36 K K, trivial⟩ (.bool true) (fun _ _ => K) rfl
           ·rintro ρ' w' hs hf ⟨hvl22518, hs22517⟩
            refine postKnown [(1, (.slice A3 (List.length p2) c4)), (5, (.bool z6)), (6, (pt g16 0)), (7, (.slice A12206 (List.length v12208) c12207)), (8, (.slice A12209 (List.length v12211) c12210)), (9, (.slice A12212 (List.length v12214) c12213)), (10, (.int .i64 v12215)), (11, (.int .i64 v12216)), (15, (.int .i64 z21348.2.2.2.2.1)), (16, (.int .i64 v21810)), (122, (.bool true))] ⟨(hs 1 K).trans K, (hs 5 K).trans K, (hs 6 K).trans K, (hs 7 K).trans K, (hs 8 K).trans K, (hs 9 K).trans K, (hs 10 K).trans K, (hs 11 K).trans K, (hs 15 K).trans K, (hs 16 K).trans K, hf 37 122 K, trivial⟩ ?_
            obtain ⟨w22519, hww22519⟩ : ∃ x, w' = x := ⟨_, rfl⟩
            rw [hww22519] at hs22517 ⊢
            exact ⟨true, ⟨K, K, K, K, K, K, K, K, K, K, K, trivial⟩, SP.sel hs22517 [0, 1, 2, 5, 6, 7] rfl rfl, H⟩
          ·have H := cf H hb22516
           rcases Bool.eq_false_or_eq_true (z21348.2.2.2.2.1 == 0) with hb22520 | hb22520
           ·have H := ct H hb22520
            obtain ⟨x22521, hp22522, hq22523, hx22524, H⟩ := idx_elim H
            rcases Bool.eq_false_or_eq_true (!((z21348.1 == x22521.1) && ((z21348.2.1 == x22521.2.1) && ((z21348.2.2.1 == x22521.2.2.1) && (z21348.2.2.2.1 == x22521.2.2.2))))) with hb22530 | hb22530
            ·have H := ct H hb22530
             refine At.stages K K K K K [GEq (.int .i64 z21348.2.2.2.2.1), GEq (.bool (z21348.2.2.2.2.1 == 151)), GEq (.int .i64 v21810), GEq (.bool (decide (v21810 < 0))), GEq (.bool (!((z21348.2.2.2.2.1 == 151) == (decide (v21810 < 0))))), GEq (.bool (!((z21348.2.2.2.2.1 == 151) == (decide (v21810 < 0))))), GEq (.int .i64 z21348.2.2.2.2.1), GEq (.bool (z21348.2.2.2.2.1 == 0)), GEq (.bool (z21348.2.2.2.2.1 == 0)), GEq (.agg #[(.int .i64 z21348.1), (.string ⟨List.toArray z21348.2.1⟩), (.string ⟨List.toArray z21348.2.2.1⟩), (.int .i64 z21348.2.2.2.1)]), GEq (.slice A12209 (List.length v12211) c12210), GEq (.int .i64 v21810), GElem0 A12209 (ePair (eInt .i64) (ePair eStr (ePair eStr (eInt .i64)))).sz v21810, GEq (.agg #[(.int .i64 x22521.1), (.string ⟨List.toArray x22521.2.1⟩), (.string ⟨List.toArray x22521.2.2.1⟩), (.int .i64 x22521.2.2.2)]), GEq (.bool (!((z21348.1 == x22521.1) && ((z21348.2.1 == x22521.2.1) && ((z21348.2.2.1 == x22521.2.2.1) && (z21348.2.2.2.1 == x22521.2.2.2)))))), GEq (.bool (!((z21348.1 == x22521.1) && ((z21348.2.1 == x22521.2.1) && ((z21348.2.2.1 == x22521.2.2.1) && (z21348.2.2.2.1 == x22521.2.2.2)))))), GEq undef, GEq undef, GEq undef, GEq undef, GEq undef, GEq (.bool true), GEq (.bool true), GEq (.bool true), GEq (.bool true), GEq undef, GEq undef, GEq undef, GEq undef, GEq undef, GEq undef, GEq undef, GEq undef, GEq undef, GEq undef, GEq undef, GEq undef, GEq (.bool true)] [] [([], fun vs w => VL vs [] ∧ SP [] w0 w [rdE eU8 A21352 c21353 z21348.2.2.2.2.2.1, rowT 59 (ePair (eInt .i64) (ePair eStr (ePair eStr (ePair (eInt .i64) eStr)))) A21354 c21355 z21348.2.2.2.2.2.2.2, boxE g16 56 #[(.slice A21352 (List.length z21348.2.2.2.2.2.1) c21353), (.int .i64 z21348.2.2.2.2.2.2.1), (.slice A21354 (List.length z21348.2.2.2.2.2.2.2) c21355)], boxE g18294 33 #[(.int .i64 x18285.1), (.int .i64 x18285.2.1), (.string ⟨List.toArray x18285.2.2.1⟩), (.string ⟨List.toArray x18285.2.2.2.1⟩), (.int .i64 x18285.2.2.2.2.1), (.string ⟨List.toArray x18285.2.2.2.2.2.1⟩), (.int .i64 x18285.2.2.2.2.2.2.1), (.string ⟨List.toArray x18285.2.2.2.2.2.2.2.1⟩), (.string ⟨List.toArray x18285.2.2.2.2.2.2.2.2⟩)], boxE g21358 31 #[(.int .i64 z21348.1), (.string ⟨List.toArray z21348.2.1⟩), (.string ⟨List.toArray z21348.2.2.1⟩), (.int .i64 z21348.2.2.2.1)], rowT 9 eStr A12206 c12207 v12208, rowT 31 (ePair (eInt .i64) (ePair eStr (ePair eStr (eInt .i64)))) A12209 c12210 v12211, rowT 4 eBool A12212 c12213 v12214])] (N := 38) K ⟨K, Nat.zero_lt_succ _⟩ (show VL [] [] ∧ SP [] w0 w21808.drew [rdE eU8 A21352 c21353 z21348.2.2.2.2.2.1, rowT 59 (ePair (eInt .i64) (ePair eStr (ePair eStr (ePair (eInt .i64) eStr)))) A21354 c21355 z21348.2.2.2.2.2.2.2, boxE g16 56 #[(.slice A21352 (List.length z21348.2.2.2.2.2.1) c21353), (.int .i64 z21348.2.2.2.2.2.2.1), (.slice A21354 (List.length z21348.2.2.2.2.2.2.2) c21355)], boxE g18294 33 #[(.int .i64 x18285.1), (.int .i64 x18285.2.1), (.string ⟨List.toArray x18285.2.2.1⟩), (.string ⟨List.toArray x18285.2.2.2.1⟩), (.int .i64 x18285.2.2.2.2.1), (.string ⟨List.toArray x18285.2.2.2.2.2.1⟩), (.int .i64 x18285.2.2.2.2.2.2.1), (.string ⟨List.toArray x18285.2.2.2.2.2.2.2.1⟩), (.string ⟨List.toArray x18285.2.2.2.2.2.2.2.2⟩)], boxE g21358 31 #[(.int .i64 z21348.1), (.string ⟨List.toArray z21348.2.1⟩), (.string ⟨List.toArray z21348.2.2.1⟩), (.int .i64 z21348.2.2.2.1)], rowT 9 eStr A12206 c12207 v12208, rowT 31 (ePair (eInt .i64) (ePair eStr (ePair eStr (eInt .i64)))) A12209 c12210 v12211, rowT 4 eBool A12212 c12213 v12214] from ⟨trivial, SP.drew hs21809⟩) ⟨⟨⟨⟨⟨⟨⟨⟨⟨⟨⟨⟨⟨⟨⟨⟨⟨⟨⟨⟨⟨⟨⟨⟨⟨⟨⟨⟨⟨⟨⟨⟨⟨⟨⟨⟨⟨⟨trivial, ?_⟩, ?_⟩, ?_⟩, ?_⟩, ?_⟩, ?_⟩, ?_⟩, ?_⟩, ?_⟩, ?_⟩, ?_⟩, ?_⟩, ?_⟩, ?_⟩, ?_⟩, ?_⟩, ?_⟩, ?_⟩, ?_⟩, ?_⟩, ?_⟩, ?_⟩, ?_⟩, ?_⟩, ?_⟩, ?_⟩, ?_⟩, ?_⟩, ?_⟩, ?_⟩, ?_⟩, ?_⟩, ?_⟩, ?_⟩, ?_⟩, ?_⟩, ?_⟩, ?_⟩ (last := 0) K ?_
             ·exact Owe.run K [(15, (.int .i64 z21348.2.2.2.2.1))] ⟨gS K K, trivial⟩ (.int .i64 z21348.2.2.2.2.1) (fun _ _ => K) rfl
             ·exact Owe.run K [(85, (.int .i64 z21348.2.2.2.2.1))] ⟨gA 0 K K, trivial⟩ (.bool (z21348.2.2.2.2.1 == 151)) (fun _ _ => K) rfl
             ·exact Owe.run K [(16, (.int .i64 v21810))] ⟨gS K K, trivial⟩ (.int .i64 v21810) (fun _ _ => K) rfl
             ·exact Owe.run K [(87, (.int .i64 v21810))] ⟨gA 2 K K, trivial⟩ (.bool (decide (v21810 < 0))) (fun _ _ => K) rfl
             ·exact Owe.run K [(86, (.bool (z21348.2.2.2.2.1 == 151))), (88, (.bool (decide (v21810 < 0))))] ⟨gA 1 K K, gA 3 K K, trivial⟩ (.bool (!((z21348.2.2.2.2.1 == 151) == (decide (v21810 < 0))))) (fun _ _ => K) rfl
             ·exact Owe.run K [(89, (.bool (!((z21348.2.2.2.2.1 == 151) == (decide (v21810 < 0))))))] ⟨gA 4 K K, trivial⟩ (.bool (!((z21348.2.2.2.2.1 == 151) == (decide (v21810 < 0))))) (fun _ _ => K) rfl
             ·exact Owe.run K [(15, (.int .i64 z21348.2.2.2.2.1)), (90, (.bool false))] ⟨gS K K, gB 5 K (!((z21348.2.2.2.2.1 == 151) == (decide (v21810 < 0)))) K hb22516, trivial⟩ (.int .i64 z21348.2.2.2.2.1) (fun _ _ => K) rfl
             ·exact Owe.run K [(91, (.int .i64 z21348.2.2.2.2.1)), (90, (.bool false))] ⟨gA 6 K K, gB 5 K (!((z21348.2.2.2.2.1 == 151) == (decide (v21810 < 0)))) K hb22516, trivial⟩ (.bool (z21348.2.2.2.2.1 == 0)) (fun _ _ => K) rfl
             ·exact Owe.run K [(92, (.bool (z21348.2.2.2.2.1 == 0))), (90, (.bool false))] ⟨gA 7 K K, gB 5 K (!((z21348.2.2.2.2.1 == 151) == (decide (v21810 < 0)))) K hb22516, trivial⟩ (.bool (z21348.2.2.2.2.1 == 0)) (fun _ _ => K) rfl
             ·refine Owe.light K [0] K (all_cons ?_ all_nil)
              ·rintro ρ' w' hs hah ⟨hvl22532, hs22531⟩
               have e14 : ρ' 14 = (pt g21358 0) := (hs 14 K).trans K
               have e93 := hah 8 93 K
               have hkn : Known ρ' [(14, (pt g21358 0)), (93, (.bool true))] := ⟨e14, (Eq.trans e93 (congrArg Value.bool hb22520)), trivial⟩
               refine Step.known _ hkn ?_
               refine Step.load (t := 31) (x := (.tmp 14)) (g := g21358) (off := 0) (i := 4) (v := (.agg #[(.int .i64 z21348.1), (.string ⟨List.toArray z21348.2.1⟩), (.string ⟨List.toArray z21348.2.2.1⟩), (.int .i64 z21348.2.2.2.1)])) (d := (some 94)) (k := 9) K rfl K hs22531 rfl K ?_
               exact ⟨rfl, _, updO_known hkn, rfl⟩
             ·exact Owe.run K [(8, (.slice A12209 (List.length v12211) c12210)), (93, (.bool true))] ⟨gS K K, gB 8 K (z21348.2.2.2.2.1 == 0) K hb22520, trivial⟩ (.slice A12209 (List.length v12211) c12210) (fun _ _ => K) rfl
             ·exact Owe.run K [(16, (.int .i64 v21810)), (93, (.bool true))] ⟨gS K K, gB 8 K (z21348.2.2.2.2.1 == 0) K hb22520, trivial⟩ (.int .i64 v21810) (fun _ _ => K) rfl
             ·refine Owe.light K [0] K (all_cons ?_ all_nil)
              ·rintro ρ' w' hs hah ⟨hvl22534, hs22533⟩
               have e95 := hah 10 95 K
               have e96 := hah 11 96 K
               have e93 := hah 8 93 K
               have hkn : Known ρ' [(95, (.slice A12209 (List.length v12211) c12210)), (96, (.int .i64 v21810)), (93, (.bool true))] := ⟨e95, e96, (Eq.trans e93 (congrArg Value.bool hb22520)), trivial⟩
               refine Step.known _ hkn ?_
               refine Step.elem (e := (ePair (eInt .i64) (ePair eStr (ePair eStr (eInt .i64))))) (l := v12211) (A := A12209) (c := c12210) (T := 46) (E := 31) (x := (.tmp 95)) (ix := (.tmp 96)) (ki := .i64) (iz := v21810) (d := (some 97)) (k := 12) K rfl K K K K (rowT_rd (SP.get hs22533 (i := 6) rfl)) hp22522 hq22523 ?_
               intro b22535 o22536 hA22538 hb22539 hc22537
               exact ⟨rfl, _, updO_known hkn, ⟨b22535, o22536, hA22538, rfl⟩⟩
             ·refine Owe.light K [0] K (all_cons ?_ all_nil)
              ·rintro ρ' w' hs hah ⟨hvl22541, hs22540⟩
               obtain ⟨b22542, o22543, hA22544, e97⟩ := hah 12 97 K
               have e93 := hah 8 93 K
               have hkn : Known ρ' [(97, (.pointer (some ⟨b22542, (o22543 + Int.toNat v21810 * (ePair (eInt .i64) (ePair eStr (ePair eStr (eInt .i64)))).sz), none⟩))), (93, (.bool true))] := ⟨e97, (Eq.trans e93 (congrArg Value.bool hb22520)), trivial⟩
               refine Step.known _ hkn ?_
               refine Step.cells (t := 31) (x := (.tmp 97)) (b := b22542) (off := (o22543 + Int.toNat v21810 * (ePair (eInt .i64) (ePair eStr (ePair eStr (eInt .i64)))).sz)) (xs := [(.int .i64 x22521.1), (.string ⟨List.toArray x22521.2.1⟩), (.string ⟨List.toArray x22521.2.2.1⟩), (.int .i64 x22521.2.2.2)]) (d := (some 98)) (k := 13) K rfl K K K (elem_cells0 (e := (ePair (eInt .i64) (ePair eStr (ePair eStr (eInt .i64))))) (rdt_cells (rowT_rd (SP.get hs22540 (i := 6) rfl)) hA22544 hp22522 hq22523) hx22524 rfl) ?_
               exact ⟨rfl, _, updO_known hkn, rfl⟩
             ·refine Owe.light K [0] K (all_cons ?_ all_nil)
              ·rintro ρ' w' hs hah ⟨hvl22546, hs22545⟩
               have e94 := hah 9 94 K
               have e98 := hah 13 98 K
               have e93 := hah 8 93 K
               have hkn : Known ρ' [(94, (.agg #[(.int .i64 z21348.1), (.string ⟨List.toArray z21348.2.1⟩), (.string ⟨List.toArray z21348.2.2.1⟩), (.int .i64 z21348.2.2.2.1)])), (98, (.agg #[(.int .i64 x22521.1), (.string ⟨List.toArray x22521.2.1⟩), (.string ⟨List.toArray x22521.2.2.1⟩), (.int .i64 x22521.2.2.2)])), (93, (.bool true))] := ⟨e94, e98, (Eq.trans e93 (congrArg Value.bool hb22520)), trivial⟩
               refine Step.known _ hkn ?_
               refine Step.bin (op := .neq) (T := 31) (T' := 31) (x := (.tmp 94)) (y := (.tmp 98)) (vx := (.agg #[(.int .i64 z21348.1), (.string ⟨List.toArray z21348.2.1⟩), (.string ⟨List.toArray z21348.2.2.1⟩), (.int .i64 z21348.2.2.2.1)])) (vy := (.agg #[(.int .i64 x22521.1), (.string ⟨List.toArray x22521.2.1⟩), (.string ⟨List.toArray x22521.2.2.1⟩), (.int .i64 x22521.2.2.2)])) (v := (.bool (!((z21348.1 == x22521.1) && ((z21348.2.1 == x22521.2.1) && ((z21348.2.2.1 == x22521.2.2.1) && (z21348.2.2.2.1 == x22521.2.2.2))))))) (d := (some 99)) (k := 14) K rfl K K (by clear H; intro w; simp only [beq_dec]; go_simp; simp only [struct_ifn, struct_ifn0, struct_if, beq_dec, Bool.and_true] <;> simp only [Bool.not_and]) ?_
               exact ⟨rfl, _, updO_known hkn, rfl⟩
             ·exact Owe.run K [(99, (.bool (!((z21348.1 == x22521.1) && ((z21348.2.1 == x22521.2.1) && ((z21348.2.2.1 == x22521.2.2.1) && (z21348.2.2.2.1 == x22521.2.2.2))))))), (93, (.bool true))] ⟨gA 14 K K, gB 8 K (z21348.2.2.2.2.1 == 0) K hb22520, trivial⟩ (.bool (!((z21348.1 == x22521.1) && ((z21348.2.1 == x22521.2.1) && ((z21348.2.2.1 == x22521.2.2.1) && (z21348.2.2.2.1 == x22521.2.2.2)))))) (fun _ _ => K) rfl
             ·exact Owe.skip K [(100, (.bool true))] ⟨gB 15 K (!((z21348.1 == x22521.1) && ((z21348.2.1 == x22521.2.1) && ((z21348.2.2.1 == x22521.2.2.1) && (z21348.2.2.2.1 == x22521.2.2.2))))) K hb22530, trivial⟩ (some 101) (fun _ => K) K rfl
             ·exact Owe.skip K [(100, (.bool true))] ⟨gB 15 K (!((z21348.1 == x22521.1) && ((z21348.2.1 == x22521.2.1) && ((z21348.2.2.1 == x22521.2.2.1) && (z21348.2.2.2.1 == x22521.2.2.2))))) K hb22530, trivial⟩ (some 102) (fun _ => K) K rfl
             ·exact Owe.skip K [(100, (.bool true))] ⟨gB 15 K (!((z21348.1 == x22521.1) && ((z21348.2.1 == x22521.2.1) && ((z21348.2.2.1 == x22521.2.2.1) && (z21348.2.2.2.1 == x22521.2.2.2))))) K hb22530, trivial⟩ (some 103) (fun _ => K) K rfl
             ·exact Owe.skip K [(100, (.bool true))] ⟨gB 15 K (!((z21348.1 == x22521.1) && ((z21348.2.1 == x22521.2.1) && ((z21348.2.2.1 == x22521.2.2.1) && (z21348.2.2.2.1 == x22521.2.2.2))))) K hb22530, trivial⟩ (some 104) (fun _ => K) K rfl
             ·exact Owe.skip K [(100, (.bool true))] ⟨gB 15 K (!((z21348.1 == x22521.1) && ((z21348.2.1 == x22521.2.1) && ((z21348.2.2.1 == x22521.2.2.1) && (z21348.2.2.2.1 == x22521.2.2.2))))) K hb22530, trivial⟩ (some 105) (fun _ => K) K rfl
             ·exact Owe.run K [(100, (.bool true)), (105, undef), (93, (.bool true))] ⟨gB 15 K (!((z21348.1 == x22521.1) && ((z21348.2.1 == x22521.2.1) && ((z21348.2.2.1 == x22521.2.2.1) && (z21348.2.2.2.1 == x22521.2.2.2))))) K hb22530, gA 20 K K, gB 8 K (z21348.2.2.2.2.1 == 0) K hb22520, trivial⟩ (.bool true) (fun _ _ => K) rfl
             ·exact Owe.run K [(93, (.bool true)), (106, (.bool true)), (90, (.bool false))] ⟨gB 8 K (z21348.2.2.2.2.1 == 0) K hb22520, gA 21 K K, gB 5 K (!((z21348.2.2.2.2.1 == 151) == (decide (v21810 < 0)))) K hb22516, trivial⟩ (.bool true) (fun _ _ => K) rfl
             ·exact Owe.run K [(90, (.bool false)), (107, (.bool true))] ⟨gB 5 K (!((z21348.2.2.2.2.1 == 151) == (decide (v21810 < 0)))) K hb22516, gA 22 K K, trivial⟩ (.bool true) (fun _ _ => K) rfl
             ·exact Owe.run K [(108, (.bool true))] ⟨gA 23 K K, trivial⟩ (.bool true) (fun _ _ => K) rfl
             ·exact Owe.skip K [(109, (.bool true))] ⟨gA 24 K K, trivial⟩ (some 110) (fun _ => K) K rfl
             ·exact Owe.skip K [(109, (.bool true))] ⟨gA 24 K K, trivial⟩ (some 111) (fun _ => K) K rfl
             ·exact Owe.skip K [(109, (.bool true))] ⟨gA 24 K K, trivial⟩ (some 112) (fun _ => K) K rfl
             ·exact Owe.skip K [(112, undef)] ⟨gA 27 K K, trivial⟩ (some 113) (fun _ => K) K rfl
             ·exact Owe.skip K [(112, undef)] ⟨gA 27 K K, trivial⟩ (some 114) (fun _ => K) K rfl
             ·exact Owe.skip K [(112, undef)] ⟨gA 27 K K, trivial⟩ (some 115) (fun _ => K) K rfl
             ·exact Owe.skip K [(112, undef)] ⟨gA 27 K K, trivial⟩ (some 116) (fun _ => K) K rfl
             ·exact Owe.skip K [(112, undef)] ⟨gA 27 K K, trivial⟩ (some 117) (fun _ => K) K rfl
             ·exact Owe.skip K [(112, undef)] ⟨gA 27 K K, trivial⟩ (some 118) (fun _ => K) K rfl
             ·exact Owe.skip K [(112, undef)] ⟨gA 27 K K, trivial⟩ (some 119) (fun _ => K) K rfl
             ·exact Owe.skip K [(112, undef)] ⟨gA 27 K K, trivial⟩ (some 120) (fun _ => K) K rfl
             ·exact Owe.skip K [(109, (.bool true))] ⟨gA 24 K K, trivial⟩ (some 121) (fun _ => K) K rfl
             ·exact Owe.run K [(109, (.bool true)), (121, undef)] ⟨gA 24 K K, gA 36 K K, trivial⟩ (.bool true) (fun _ _ => K) rfl
             ·rintro ρ' w' hs hf ⟨hvl22548, hs22547⟩
              refine postKnown [(1, (.slice A3 (List.length p2) c4)), (5, (.bool z6)), (6, (pt g16 0)), (7, (.slice A12206 (List.length v12208) c12207)), (8, (.slice A12209 (List.length v12211) c12210)), (9, (.slice A12212 (List.length v12214) c12213)), (10, (.int .i64 v12215)), (11, (.int .i64 v12216)), (15, (.int .i64 z21348.2.2.2.2.1)), (16, (.int .i64 v21810)), (122, (.bool true))] ⟨(hs 1 K).trans K, (hs 5 K).trans K, (hs 6 K).trans K, (hs 7 K).trans K, (hs 8 K).trans K, (hs 9 K).trans K, (hs 10 K).trans K, (hs 11 K).trans K, (hs 15 K).trans K, (hs 16 K).trans K, hf 37 122 K, trivial⟩ ?_
              obtain ⟨w22549, hww22549⟩ : ∃ x, w' = x := ⟨_, rfl⟩
              rw [hww22549] at hs22547 ⊢
              exact ⟨true, ⟨K, K, K, K, K, K, K, K, K, K, K, trivial⟩, SP.sel hs22547 [0, 1, 2, 5, 6, 7] rfl rfl, H⟩
            ·have H := cf H hb22530
             rcases Bool.eq_false_or_eq_true (!(z21348.2.2.1 == x18285.2.2.2.2.2.2.2.2)) with hb22550 | hb22550
             ·have H := ct H hb22550
              refine At.stages K K K K K [GEq (.int .i64 z21348.2.2.2.2.1), GEq (.bool (z21348.2.2.2.2.1 == 151)), GEq (.int .i64 v21810), GEq (.bool (decide (v21810 < 0))), GEq (.bool (!((z21348.2.2.2.2.1 == 151) == (decide (v21810 < 0))))), GEq (.bool (!((z21348.2.2.2.2.1 == 151) == (decide (v21810 < 0))))), GEq (.int .i64 z21348.2.2.2.2.1), GEq (.bool (z21348.2.2.2.2.1 == 0)), GEq (.bool (z21348.2.2.2.2.1 == 0)), GEq (.agg #[(.int .i64 z21348.1), (.string ⟨List.toArray z21348.2.1⟩), (.string ⟨List.toArray z21348.2.2.1⟩), (.int .i64 z21348.2.2.2.1)]), GEq (.slice A12209 (List.length v12211) c12210), GEq (.int .i64 v21810), GElem0 A12209 (ePair (eInt .i64) (ePair eStr (ePair eStr (eInt .i64)))).sz v21810, GEq (.agg #[(.int .i64 x22521.1), (.string ⟨List.toArray x22521.2.1⟩), (.string ⟨List.toArray x22521.2.2.1⟩), (.int .i64 x22521.2.2.2)]), GEq (.bool (!((z21348.1 == x22521.1) && ((z21348.2.1 == x22521.2.1) && ((z21348.2.2.1 == x22521.2.2.1) && (z21348.2.2.2.1 == x22521.2.2.2)))))), GEq (.bool (!((z21348.1 == x22521.1) && ((z21348.2.1 == x22521.2.1) && ((z21348.2.2.1 == x22521.2.2.1) && (z21348.2.2.2.1 == x22521.2.2.2)))))), GEq (pt g21358 2), GEq (.string ⟨List.toArray z21348.2.2.1⟩), GEq (pt g18294 8), GEq (.string ⟨List.toArray x18285.2.2.2.2.2.2.2.2⟩), GEq (.bool (!(z21348.2.2.1 == x18285.2.2.2.2.2.2.2.2))), GEq (.bool (!(z21348.2.2.1 == x18285.2.2.2.2.2.2.2.2))), GEq (.bool (!(z21348.2.2.1 == x18285.2.2.2.2.2.2.2.2))), GEq (.bool (!(z21348.2.2.1 == x18285.2.2.2.2.2.2.2.2))), GEq (.bool (!(z21348.2.2.1 == x18285.2.2.2.2.2.2.2.2))), GEq undef, GEq undef, GEq undef, GEq undef, GEq undef, GEq undef, GEq undef, GEq undef, GEq undef, GEq undef, GEq undef, GEq undef, GEq (.bool true)] [] [([], fun vs w => VL vs [] ∧ SP [] w0 w [rdE eU8 A21352 c21353 z21348.2.2.2.2.2.1, rowT 59 (ePair (eInt .i64) (ePair eStr (ePair eStr (ePair (eInt .i64) eStr)))) A21354 c21355 z21348.2.2.2.2.2.2.2, boxE g16 56 #[(.slice A21352 (List.length z21348.2.2.2.2.2.1) c21353), (.int .i64 z21348.2.2.2.2.2.2.1), (.slice A21354 (List.length z21348.2.2.2.2.2.2.2) c21355)], boxE g18294 33 #[(.int .i64 x18285.1), (.int .i64 x18285.2.1), (.string ⟨List.toArray x18285.2.2.1⟩), (.string ⟨List.toArray x18285.2.2.2.1⟩), (.int .i64 x18285.2.2.2.2.1), (.string ⟨List.toArray x18285.2.2.2.2.2.1⟩), (.int .i64 x18285.2.2.2.2.2.2.1), (.string ⟨List.toArray x18285.2.2.2.2.2.2.2.1⟩), (.string ⟨List.toArray x18285.2.2.2.2.2.2.2.2⟩)], boxE g21358 31 #[(.int .i64 z21348.1), (.string ⟨List.toArray z21348.2.1⟩), (.string ⟨List.toArray z21348.2.2.1⟩), (.int .i64 z21348.2.2.2.1)], rowT 9 eStr A12206 c12207 v12208, rowT 31 (ePair (eInt .i64) (ePair eStr (ePair eStr (eInt .i64)))) A12209 c12210 v12211, rowT 4 eBool A12212 c12213 v12214])] (N := 38) K ⟨K, Nat.zero_lt_succ _⟩ (show VL [] [] ∧ SP [] w0 w21808.drew [rdE eU8 A21352 c21353 z21348.2.2.2.2.2.1, rowT 59 (ePair (eInt .i64) (ePair eStr (ePair eStr (ePair (eInt .i64) eStr)))) A21354 c21355 z21348.2.2.2.2.2.2.2, boxE g16 56 #[(.slice A21352 (List.length z21348.2.2.2.2.2.1) c21353), (.int .i64 z21348.2.2.2.2.2.2.1), (.slice A21354 (List.length z21348.2.2.2.2.2.2.2) c21355)], boxE g18294 33 #[(.int .i64 x18285.1), (.int .i64 x18285.2.1), (.string ⟨List.toArray x18285.2.2.1⟩), (.string ⟨List.toArray x18285.2.2.2.1⟩), (.int .i64 x18285.2.2.2.2.1), (.string ⟨List.toArray x18285.2.2.2.2.2.1⟩), (.int .i64 x18285.2.2.2.2.2.2.1), (.string ⟨List.toArray x18285.2.2.2.2.2.2.2.1⟩), (.string ⟨List.toArray x18285.2.2.2.2.2.2.2.2⟩)], boxE g21358 31 #[(.int .i64 z21348.1), (.string ⟨List.toArray z21348.2.1⟩), (.string ⟨List.toArray z21348.2.2.1⟩), (.int .i64 z21348.2.2.2.1)], rowT 9 eStr A12206 c12207 v12208, rowT 31 (ePair (eInt .i64) (ePair eStr (ePair eStr (eInt .i64)))) A12209 c12210 v12211, rowT 4 eBool A12212 c12213 v12214] from ⟨trivial, SP.drew hs21809⟩) ⟨⟨⟨⟨⟨⟨⟨⟨⟨⟨⟨⟨⟨⟨⟨⟨⟨⟨⟨⟨⟨⟨⟨⟨⟨⟨⟨⟨⟨⟨⟨⟨⟨⟨⟨⟨⟨⟨trivial, ?_⟩, ?_⟩, ?_⟩, ?_⟩, ?_⟩, ?_⟩, ?_⟩, ?_⟩, ?_⟩, ?_⟩, ?_⟩, ?_⟩, ?_⟩, ?_⟩, ?_⟩, ?_⟩, ?_⟩, ?_⟩, ?_⟩, ?_⟩, ?_⟩, ?_⟩, ?_⟩, ?_⟩, ?_⟩, ?_⟩, ?_⟩, ?_⟩, ?_⟩, ?_⟩, ?_⟩, ?_⟩, ?_⟩, ?_⟩, ?_⟩, ?_⟩, ?_⟩, ?_⟩ (last := 0) K ?_
              ·exact Owe.run K [(15, (.int .i64 z21348.2.2.2.2.1))] ⟨gS K K, trivial⟩ (.int .i64 z21348.2.2.2.2.1) (fun _ _ => K) rfl
              ·exact Owe.run K [(85, (.int .i64 z21348.2.2.2.2.1))] ⟨gA 0 K K, trivial⟩ (.bool (z21348.2.2.2.2.1 == 151)) (fun _ _ => K) rfl
              ·exact Owe.run K [(16, (.int .i64 v21810))] ⟨gS K K, trivial⟩ (.int .i64 v21810) (fun _ _ => K) rfl
              ·exact Owe.run K [(87, (.int .i64 v21810))] ⟨gA 2 K K, trivial⟩ (.bool (decide (v21810 < 0))) (fun _ _ => K) rfl
              ·exact Owe.run K [(86, (.bool (z21348.2.2.2.2.1 == 151))), (88, (.bool (decide (v21810 < 0))))] ⟨gA 1 K K, gA 3 K K, trivial⟩ (.bool (!((z21348.2.2.2.2.1 == 151) == (decide (v21810 < 0))))) (fun _ _ => K) rfl
              ·exact Owe.run K [(89, (.bool (!((z21348.2.2.2.2.1 == 151) == (decide (v21810 < 0))))))] ⟨gA 4 K K, trivial⟩ (.bool (!((z21348.2.2.2.2.1 == 151) == (decide (v21810 < 0))))) (fun _ _ => K) rfl
              ·exact Owe.run K [(15, (.int .i64 z21348.2.2.2.2.1)), (90, (.bool false))] ⟨gS K K, gB 5 K (!((z21348.2.2.2.2.1 == 151) == (decide (v21810 < 0)))) K hb22516, trivial⟩ (.int .i64 z21348.2.2.2.2.1) (fun _ _ => K) rfl
              ·exact Owe.run K [(91, (.int .i64 z21348.2.2.2.2.1)), (90, (.bool false))] ⟨gA 6 K K, gB 5 K (!((z21348.2.2.2.2.1 == 151) == (decide (v21810 < 0)))) K hb22516, trivial⟩ (.bool (z21348.2.2.2.2.1 == 0)) (fun _ _ => K) rfl
              ·exact Owe.run K [(92, (.bool (z21348.2.2.2.2.1 == 0))), (90, (.bool false))] ⟨gA 7 K K, gB 5 K (!((z21348.2.2.2.2.1 == 151) == (decide (v21810 < 0)))) K hb22516, trivial⟩ (.bool (z21348.2.2.2.2.1 == 0)) (fun _ _ => K) rfl
              ·refine Owe.light K [0] K (all_cons ?_ all_nil)
               ·rintro ρ' w' hs hah ⟨hvl22552, hs22551⟩
                have e14 : ρ' 14 = (pt g21358 0) := (hs 14 K).trans K
                have e93 := hah 8 93 K
                have hkn : Known ρ' [(14, (pt g21358 0)), (93, (.bool true))] := ⟨e14, (Eq.trans e93 (congrArg Value.bool hb22520)), trivial⟩
                refine Step.known _ hkn ?_
                refine Step.load (t := 31) (x := (.tmp 14)) (g := g21358) (off := 0) (i := 4) (v := (.agg #[(.int .i64 z21348.1), (.string ⟨List.toArray z21348.2.1⟩), (.string ⟨List.toArray z21348.2.2.1⟩), (.int .i64 z21348.2.2.2.1)])) (d := (some 94)) (k := 9) K rfl K hs22551 rfl K ?_
                exact ⟨rfl, _, updO_known hkn, rfl⟩
              ·exact Owe.run K [(8, (.slice A12209 (List.length v12211) c12210)), (93, (.bool true))] ⟨gS K K, gB 8 K (z21348.2.2.2.2.1 == 0) K hb22520, trivial⟩ (.slice A12209 (List.length v12211) c12210) (fun _ _ => K) rfl
              ·exact Owe.run K [(16, (.int .i64 v21810)), (93, (.bool true))] ⟨gS K K, gB 8 K (z21348.2.2.2.2.1 == 0) K hb22520, trivial⟩ (.int .i64 v21810) (fun _ _ => K) rfl
              ·refine Owe.light K [0] K (all_cons ?_ all_nil)
               ·rintro ρ' w' hs hah ⟨hvl22554, hs22553⟩
                have e95 := hah 10 95 K
                have e96 := hah 11 96 K
                have e93 := hah 8 93 K
                have hkn : Known ρ' [(95, (.slice A12209 (List.length v12211) c12210)), (96, (.int .i64 v21810)), (93, (.bool true))] := ⟨e95, e96, (Eq.trans e93 (congrArg Value.bool hb22520)), trivial⟩
                refine Step.known _ hkn ?_
                refine Step.elem (e := (ePair (eInt .i64) (ePair eStr (ePair eStr (eInt .i64))))) (l := v12211) (A := A12209) (c := c12210) (T := 46) (E := 31) (x := (.tmp 95)) (ix := (.tmp 96)) (ki := .i64) (iz := v21810) (d := (some 97)) (k := 12) K rfl K K K K (rowT_rd (SP.get hs22553 (i := 6) rfl)) hp22522 hq22523 ?_
                intro b22555 o22556 hA22558 hb22559 hc22557
                exact ⟨rfl, _, updO_known hkn, ⟨b22555, o22556, hA22558, rfl⟩⟩
              ·refine Owe.light K [0] K (all_cons ?_ all_nil)
               ·rintro ρ' w' hs hah ⟨hvl22561, hs22560⟩
                obtain ⟨b22562, o22563, hA22564, e97⟩ := hah 12 97 K
                have e93 := hah 8 93 K
                have hkn : Known ρ' [(97, (.pointer (some ⟨b22562, (o22563 + Int.toNat v21810 * (ePair (eInt .i64) (ePair eStr (ePair eStr (eInt .i64)))).sz), none⟩))), (93, (.bool true))] := ⟨e97, (Eq.trans e93 (congrArg Value.bool hb22520)), trivial⟩
                refine Step.known _ hkn ?_
                refine Step.cells (t := 31) (x := (.tmp 97)) (b := b22562) (off := (o22563 + Int.toNat v21810 * (ePair (eInt .i64) (ePair eStr (ePair eStr (eInt .i64)))).sz)) (xs := [(.int .i64 x22521.1), (.string ⟨List.toArray x22521.2.1⟩), (.string ⟨List.toArray x22521.2.2.1⟩), (.int .i64 x22521.2.2.2)]) (d := (some 98)) (k := 13) K rfl K K K (elem_cells0 (e := (ePair (eInt .i64) (ePair eStr (ePair eStr (eInt .i64))))) (rdt_cells (rowT_rd (SP.get hs22560 (i := 6) rfl)) hA22564 hp22522 hq22523) hx22524 rfl) ?_
                exact ⟨rfl, _, updO_known hkn, rfl⟩
              ·refine Owe.light K [0] K (all_cons ?_ all_nil)
               ·rintro ρ' w' hs hah ⟨hvl22566, hs22565⟩
                have e94 := hah 9 94 K
                have e98 := hah 13 98 K
                have e93 := hah 8 93 K
                have hkn : Known ρ' [(94, (.agg #[(.int .i64 z21348.1), (.string ⟨List.toArray z21348.2.1⟩), (.string ⟨List.toArray z21348.2.2.1⟩), (.int .i64 z21348.2.2.2.1)])), (98, (.agg #[(.int .i64 x22521.1), (.string ⟨List.toArray x22521.2.1⟩), (.string ⟨List.toArray x22521.2.2.1⟩), (.int .i64 x22521.2.2.2)])), (93, (.bool true))] := ⟨e94, e98, (Eq.trans e93 (congrArg Value.bool hb22520)), trivial⟩
                refine Step.known _ hkn ?_
                refine Step.bin (op := .neq) (T := 31) (T' := 31) (x := (.tmp 94)) (y := (.tmp 98)) (vx := (.agg #[(.int .i64 z21348.1), (.string ⟨List.toArray z21348.2.1⟩), (.string ⟨List.toArray z21348.2.2.1⟩), (.int .i64 z21348.2.2.2.1)])) (vy := (.agg #[(.int .i64 x22521.1), (.string ⟨List.toArray x22521.2.1⟩), (.string ⟨List.toArray x22521.2.2.1⟩), (.int .i64 x22521.2.2.2)])) (v := (.bool (!((z21348.1 == x22521.1) && ((z21348.2.1 == x22521.2.1) && ((z21348.2.2.1 == x22521.2.2.1) && (z21348.2.2.2.1 == x22521.2.2.2))))))) (d := (some 99)) (k := 14) K rfl K K (by clear H; intro w; simp only [beq_dec]; go_simp; simp only [struct_ifn, struct_ifn0, struct_if, beq_dec, Bool.and_true] <;> simp only [Bool.not_and]) ?_
                exact ⟨rfl, _, updO_known hkn, rfl⟩
              ·exact Owe.run K [(99, (.bool (!((z21348.1 == x22521.1) && ((z21348.2.1 == x22521.2.1) && ((z21348.2.2.1 == x22521.2.2.1) && (z21348.2.2.2.1 == x22521.2.2.2))))))), (93, (.bool true))] ⟨gA 14 K K, gB 8 K (z21348.2.2.2.2.1 == 0) K hb22520, trivial⟩ (.bool (!((z21348.1 == x22521.1) && ((z21348.2.1 == x22521.2.1) && ((z21348.2.2.1 == x22521.2.2.1) && (z21348.2.2.2.1 == x22521.2.2.2)))))) (fun _ _ => K) rfl
              ·exact Owe.run K [(14, (pt g21358 0)), (100, (.bool false))] ⟨gS K K, gB 15 K (!((z21348.1 == x22521.1) && ((z21348.2.1 == x22521.2.1) && ((z21348.2.2.1 == x22521.2.2.1) && (z21348.2.2.2.1 == x22521.2.2.2))))) K hb22530, trivial⟩ (pt g21358 2) (fun _ _ => K) rfl
              ·refine Owe.light K [0] K (all_cons ?_ all_nil)
               ·rintro ρ' w' hs hah ⟨hvl22568, hs22567⟩
                have e101 := hah 16 101 K
                have e100 := hah 15 100 K
                have hkn : Known ρ' [(101, (pt g21358 2)), (100, (.bool false))] := ⟨e101, (Eq.trans e100 (congrArg Value.bool hb22530)), trivial⟩
                refine Step.known _ hkn ?_
                refine Step.load (t := 9) (x := (.tmp 101)) (g := g21358) (off := 2) (i := 4) (v := (.string ⟨List.toArray z21348.2.2.1⟩)) (d := (some 102)) (k := 17) K rfl K hs22567 rfl K ?_
                exact ⟨rfl, _, updO_known hkn, rfl⟩
              ·exact Owe.run K [(12, (pt g18294 0)), (100, (.bool false))] ⟨gS K K, gB 15 K (!((z21348.1 == x22521.1) && ((z21348.2.1 == x22521.2.1) && ((z21348.2.2.1 == x22521.2.2.1) && (z21348.2.2.2.1 == x22521.2.2.2))))) K hb22530, trivial⟩ (pt g18294 8) (fun _ _ => K) rfl
              ·refine Owe.light K [0] K (all_cons ?_ all_nil)
               ·rintro ρ' w' hs hah ⟨hvl22570, hs22569⟩
                have e103 := hah 18 103 K
                have e100 := hah 15 100 K
                have hkn : Known ρ' [(103, (pt g18294 8)), (100, (.bool false))] := ⟨e103, (Eq.trans e100 (congrArg Value.bool hb22530)), trivial⟩
                refine Step.known _ hkn ?_
                refine Step.load (t := 9) (x := (.tmp 103)) (g := g18294) (off := 8) (i := 3) (v := (.string ⟨List.toArray x18285.2.2.2.2.2.2.2.2⟩)) (d := (some 104)) (k := 19) K rfl K hs22569 rfl K ?_
                exact ⟨rfl, _, updO_known hkn, rfl⟩
              ·refine Owe.light K [0] K (all_cons ?_ all_nil)
               ·rintro ρ' w' hs hah ⟨hvl22572, hs22571⟩
                have e102 := hah 17 102 K
                have e104 := hah 19 104 K
                have e100 := hah 15 100 K
                have hkn : Known ρ' [(102, (.string ⟨List.toArray z21348.2.2.1⟩)), (104, (.string ⟨List.toArray x18285.2.2.2.2.2.2.2.2⟩)), (100, (.bool false))] := ⟨e102, e104, (Eq.trans e100 (congrArg Value.bool hb22530)), trivial⟩
                refine Step.known _ hkn ?_
                refine Step.strOp (op := .neq) (T := 9) (T' := 9) (x := (.tmp 102)) (y := (.tmp 104)) (a := z21348.2.2.1) (b := x18285.2.2.2.2.2.2.2.2) (r := (.bool (!(z21348.2.2.1 == x18285.2.2.2.2.2.2.2.2)))) (d := (some 105)) (k := 20) K rfl K K rfl ?_
                exact ⟨rfl, _, updO_known hkn, rfl⟩
              ·exact Owe.run K [(100, (.bool false)), (105, (.bool (!(z21348.2.2.1 == x18285.2.2.2.2.2.2.2.2)))), (93, (.bool true))] ⟨gB 15 K (!((z21348.1 == x22521.1) && ((z21348.2.1 == x22521.2.1) && ((z21348.2.2.1 == x22521.2.2.1) && (z21348.2.2.2.1 == x22521.2.2.2))))) K hb22530, gA 20 K K, gB 8 K (z21348.2.2.2.2.1 == 0) K hb22520, trivial⟩ (.bool (!(z21348.2.2.1 == x18285.2.2.2.2.2.2.2.2))) (fun _ _ => K) rfl
              ·exact Owe.run K [(93, (.bool true)), (106, (.bool (!(z21348.2.2.1 == x18285.2.2.2.2.2.2.2.2)))), (90, (.bool false))] ⟨gB 8 K (z21348.2.2.2.2.1 == 0) K hb22520, gA 21 K K, gB 5 K (!((z21348.2.2.2.2.1 == 151) == (decide (v21810 < 0)))) K hb22516, trivial⟩ (.bool (!(z21348.2.2.1 == x18285.2.2.2.2.2.2.2.2))) (fun _ _ => K) rfl
              ·exact Owe.run K [(90, (.bool false)), (107, (.bool (!(z21348.2.2.1 == x18285.2.2.2.2.2.2.2.2))))] ⟨gB 5 K (!((z21348.2.2.2.2.1 == 151) == (decide (v21810 < 0)))) K hb22516, gA 22 K K, trivial⟩ (.bool (!(z21348.2.2.1 == x18285.2.2.2.2.2.2.2.2))) (fun _ _ => K) rfl
              ·exact Owe.run K [(108, (.bool (!(z21348.2.2.1 == x18285.2.2.2.2.2.2.2.2))))] ⟨gA 23 K K, trivial⟩ (.bool (!(z21348.2.2.1 == x18285.2.2.2.2.2.2.2.2))) (fun _ _ => K) rfl
              ·exact Owe.skip K [(109, (.bool true))] ⟨gB 24 K (!(z21348.2.2.1 == x18285.2.2.2.2.2.2.2.2)) K hb22550, trivial⟩ (some 110) (fun _ => K) K rfl
              ·exact Owe.skip K [(109, (.bool true))] ⟨gB 24 K (!(z21348.2.2.1 == x18285.2.2.2.2.2.2.2.2)) K hb22550, trivial⟩ (some 111) (fun _ => K) K rfl
              ·exact Owe.skip K [(109, (.bool true))] ⟨gB 24 K (!(z21348.2.2.1 == x18285.2.2.2.2.2.2.2.2)) K hb22550, trivial⟩ (some 112) (fun _ => K) K rfl
              ·exact Owe.skip K [(112, undef)] ⟨gA 27 K K, trivial⟩ (some 113) (fun _ => K) K rfl
              ·exact Owe.skip K [(112, undef)] ⟨gA 27 K K, trivial⟩ (some 114) (fun _ => K) K rfl
              ·exact Owe.skip K [(112, undef)] ⟨gA 27 K K, trivial⟩ (some 115) (fun _ => K) K rfl
              ·exact Owe.skip K [(112, undef)] ⟨gA 27 K K, trivial⟩ (some 116) (fun _ => K) K rfl
              ·exact Owe.skip K [(112, undef)] ⟨gA 27 K K, trivial⟩ (some 117) (fun _ => K) K rfl
              ·exact Owe.skip K [(112, undef)] ⟨gA 27 K K, trivial⟩ (some 118) (fun _ => K) K rfl
              ·exact Owe.skip K [(112, undef)] ⟨gA 27 K K, trivial⟩ (some 119) (fun _ => K) K rfl
              ·exact Owe.skip K [(112, undef)] ⟨gA 27 K K, trivial⟩ (some 120) (fun _ => K) K rfl
              ·exact Owe.skip K [(109, (.bool true))] ⟨gB 24 K (!(z21348.2.2.1 == x18285.2.2.2.2.2.2.2.2)) K hb22550, trivial⟩ (some 121) (fun _ => K) K rfl
              ·exact Owe.run K [(109, (.bool true)), (121, undef)] ⟨gB 24 K (!(z21348.2.2.1 == x18285.2.2.2.2.2.2.2.2)) K hb22550, gA 36 K K, trivial⟩ (.bool true) (fun _ _ => K) rfl
              ·rintro ρ' w' hs hf ⟨hvl22574, hs22573⟩
               refine postKnown [(1, (.slice A3 (List.length p2) c4)), (5, (.bool z6)), (6, (pt g16 0)), (7, (.slice A12206 (List.length v12208) c12207)), (8, (.slice A12209 (List.length v12211) c12210)), (9, (.slice A12212 (List.length v12214) c12213)), (10, (.int .i64 v12215)), (11, (.int .i64 v12216)), (15, (.int .i64 z21348.2.2.2.2.1)), (16, (.int .i64 v21810)), (122, (.bool true))] ⟨(hs 1 K).trans K, (hs 5 K).trans K, (hs 6 K).trans K, (hs 7 K).trans K, (hs 8 K).trans K, (hs 9 K).trans K, (hs 10 K).trans K, (hs 11 K).trans K, (hs 15 K).trans K, (hs 16 K).trans K, hf 37 122 K, trivial⟩ ?_
               obtain ⟨w22575, hww22575⟩ : ∃ x, w' = x := ⟨_, rfl⟩
               rw [hww22575] at hs22573 ⊢
               exact ⟨true, ⟨K, K, K, K, K, K, K, K, K, K, K, trivial⟩, SP.sel hs22573 [0, 1, 2, 5, 6, 7] rfl rfl, H⟩
             ·have H := cf H hb22550
              rcases Bool.eq_false_or_eq_true (z21348.2.2.2.2.1 == 131) with hb22576 | hb22576
              ·have H := ct H hb22576
               obtain ⟨x22577, hp22578, hq22579, hx22580, H⟩ := idx_elim H
               refine At.stages K K K K K [GEq (.int .i64 z21348.2.2.2.2.1), GEq (.bool (z21348.2.2.2.2.1 == 151)), GEq (.int .i64 v21810), GEq (.bool (decide (v21810 < 0))), GEq (.bool (!((z21348.2.2.2.2.1 == 151) == (decide (v21810 < 0))))), GEq (.bool (!((z21348.2.2.2.2.1 == 151) == (decide (v21810 < 0))))), GEq (.int .i64 z21348.2.2.2.2.1), GEq (.bool (z21348.2.2.2.2.1 == 0)), GEq (.bool (z21348.2.2.2.2.1 == 0)), GEq (.agg #[(.int .i64 z21348.1), (.string ⟨List.toArray z21348.2.1⟩), (.string ⟨List.toArray z21348.2.2.1⟩), (.int .i64 z21348.2.2.2.1)]), GEq (.slice A12209 (List.length v12211) c12210), GEq (.int .i64 v21810), GElem0 A12209 (ePair (eInt .i64) (ePair eStr (ePair eStr (eInt .i64)))).sz v21810, GEq (.agg #[(.int .i64 x22521.1), (.string ⟨List.toArray x22521.2.1⟩), (.string ⟨List.toArray x22521.2.2.1⟩), (.int .i64 x22521.2.2.2)]), GEq (.bool (!((z21348.1 == x22521.1) && ((z21348.2.1 == x22521.2.1) && ((z21348.2.2.1 == x22521.2.2.1) && (z21348.2.2.2.1 == x22521.2.2.2)))))), GEq (.bool (!((z21348.1 == x22521.1) && ((z21348.2.1 == x22521.2.1) && ((z21348.2.2.1 == x22521.2.2.1) && (z21348.2.2.2.1 == x22521.2.2.2)))))), GEq (pt g21358 2), GEq (.string ⟨List.toArray z21348.2.2.1⟩), GEq (pt g18294 8), GEq (.string ⟨List.toArray x18285.2.2.2.2.2.2.2.2⟩), GEq (.bool (!(z21348.2.2.1 == x18285.2.2.2.2.2.2.2.2))), GEq (.bool (!(z21348.2.2.1 == x18285.2.2.2.2.2.2.2.2))), GEq (.bool (!(z21348.2.2.1 == x18285.2.2.2.2.2.2.2.2))), GEq (.bool (!(z21348.2.2.1 == x18285.2.2.2.2.2.2.2.2))), GEq (.bool (!(z21348.2.2.1 == x18285.2.2.2.2.2.2.2.2))), GEq (.int .i64 z21348.2.2.2.2.1), GEq (.bool (z21348.2.2.2.2.1 == 131)), GEq (.bool (z21348.2.2.2.2.1 == 131)), GEq (.slice A12209 (List.length v12211) c12210), GEq (.int .i64 v21810), GElem0 A12209 (ePair (eInt .i64) (ePair eStr (ePair eStr (eInt .i64)))).sz v21810, GElem A12209 (ePair (eInt .i64) (ePair eStr (ePair eStr (eInt .i64)))).sz v21810 2, GEq (.string ⟨List.toArray x22577.2.2.1⟩), GEq (pt g18294 8), GEq (.string ⟨List.toArray x18285.2.2.2.2.2.2.2.2⟩), GEq (.bool (x22577.2.2.1 == x18285.2.2.2.2.2.2.2.2)), GEq (.bool (x22577.2.2.1 == x18285.2.2.2.2.2.2.2.2)), GEq (.bool (x22577.2.2.1 == x18285.2.2.2.2.2.2.2.2))] [] [([], fun vs w => VL vs [] ∧ SP [] w0 w [rdE eU8 A21352 c21353 z21348.2.2.2.2.2.1, rowT 59 (ePair (eInt .i64) (ePair eStr (ePair eStr (ePair (eInt .i64) eStr)))) A21354 c21355 z21348.2.2.2.2.2.2.2, boxE g16 56 #[(.slice A21352 (List.length z21348.2.2.2.2.2.1) c21353), (.int .i64 z21348.2.2.2.2.2.2.1), (.slice A21354 (List.length z21348.2.2.2.2.2.2.2) c21355)], boxE g18294 33 #[(.int .i64 x18285.1), (.int .i64 x18285.2.1), (.string ⟨List.toArray x18285.2.2.1⟩), (.string ⟨List.toArray x18285.2.2.2.1⟩), (.int .i64 x18285.2.2.2.2.1), (.string ⟨List.toArray x18285.2.2.2.2.2.1⟩), (.int .i64 x18285.2.2.2.2.2.2.1), (.string ⟨List.toArray x18285.2.2.2.2.2.2.2.1⟩), (.string ⟨List.toArray x18285.2.2.2.2.2.2.2.2⟩)], boxE g21358 31 #[(.int .i64 z21348.1), (.string ⟨List.toArray z21348.2.1⟩), (.string ⟨List.toArray z21348.2.2.1⟩), (.int .i64 z21348.2.2.2.1)], rowT 9 eStr A12206 c12207 v12208, rowT 31 (ePair (eInt .i64) (ePair eStr (ePair eStr (eInt .i64)))) A12209 c12210 v12211, rowT 4 eBool A12212 c12213 v12214])] (N := 38) K ⟨K, Nat.zero_lt_succ _⟩ (show VL [] [] ∧ SP [] w0 w21808.drew [rdE eU8 A21352 c21353 z21348.2.2.2.2.2.1, rowT 59 (ePair (eInt .i64) (ePair eStr (ePair eStr (ePair (eInt .i64) eStr)))) A21354 c21355 z21348.2.2.2.2.2.2.2, boxE g16 56 #[(.slice A21352 (List.length z21348.2.2.2.2.2.1) c21353), (.int .i64 z21348.2.2.2.2.2.2.1), (.slice A21354 (List.length z21348.2.2.2.2.2.2.2) c21355)], boxE g18294 33 #[(.int .i64 x18285.1), (.int .i64 x18285.2.1), (.string ⟨List.toArray x18285.2.2.1⟩), (.string ⟨List.toArray x18285.2.2.2.1⟩), (.int .i64 x18285.2.2.2.2.1), (.string ⟨List.toArray x18285.2.2.2.2.2.1⟩), (.int .i64 x18285.2.2.2.2.2.2.1), (.string ⟨List.toArray x18285.2.2.2.2.2.2.2.1⟩), (.string ⟨List.toArray x18285.2.2.2.2.2.2.2.2⟩)], boxE g21358 31 #[(.int .i64 z21348.1), (.string ⟨List.toArray z21348.2.1⟩), (.string ⟨List.toArray z21348.2.2.1⟩), (.int .i64 z21348.2.2.2.1)], rowT 9 eStr A12206 c12207 v12208, rowT 31 (ePair (eInt .i64) (ePair eStr (ePair eStr (eInt .i64)))) A12209 c12210 v12211, rowT 4 eBool A12212 c12213 v12214] from ⟨trivial, SP.drew hs21809⟩) ⟨⟨⟨⟨⟨⟨⟨⟨⟨⟨⟨⟨⟨⟨⟨⟨⟨⟨⟨⟨⟨⟨⟨⟨⟨⟨⟨⟨⟨⟨⟨⟨⟨⟨⟨⟨⟨⟨trivial, ?_⟩, ?_⟩, ?_⟩, ?_⟩, ?_⟩, ?_⟩, ?_⟩, ?_⟩, ?_⟩, ?_⟩, ?_⟩, ?_⟩, ?_⟩, ?_⟩, ?_⟩, ?_⟩, ?_⟩, ?_⟩, ?_⟩, ?_⟩, ?_⟩, ?_⟩, ?_⟩, ?_⟩, ?_⟩, ?_⟩, ?_⟩, ?_⟩, ?_⟩, ?_⟩, ?_⟩, ?_⟩, ?_⟩, ?_⟩, ?_⟩, ?_⟩, ?_⟩, ?_⟩ (last := 0) K ?_
               ·exact Owe.run K [(15, (.int .i64 z21348.2.2.2.2.1))] ⟨gS K K, trivial⟩ (.int .i64 z21348.2.2.2.2.1) (fun _ _ => K) rfl
               ·exact Owe.run K [(85, (.int .i64 z21348.2.2.2.2.1))] ⟨gA 0 K K, trivial⟩ (.bool (z21348.2.2.2.2.1 == 151)) (fun _ _ => K) rfl
               ·exact Owe.run K [(16, (.int .i64 v21810))] ⟨gS K K, trivial⟩ (.int .i64 v21810) (fun _ _ => K) rfl
               ·exact Owe.run K [(87, (.int .i64 v21810))] ⟨gA 2 K K, trivial⟩ (.bool (decide (v21810 < 0))) (fun _ _ => K) rfl
               ·exact Owe.run K [(86, (.bool (z21348.2.2.2.2.1 == 151))), (88, (.bool (decide (v21810 < 0))))] ⟨gA 1 K K, gA 3 K K, trivial⟩ (.bool (!((z21348.2.2.2.2.1 == 151) == (decide (v21810 < 0))))) (fun _ _ => K) rfl
               ·exact Owe.run K [(89, (.bool (!((z21348.2.2.2.2.1 == 151) == (decide (v21810 < 0))))))] ⟨gA 4 K K, trivial⟩ (.bool (!((z21348.2.2.2.2.1 == 151) == (decide (v21810 < 0))))) (fun _ _ => K) rfl
               ·exact Owe.run K [(15, (.int .i64 z21348.2.2.2.2.1)), (90, (.bool false))] ⟨gS K K, gB 5 K (!((z21348.2.2.2.2.1 == 151) == (decide (v21810 < 0)))) K hb22516, trivial⟩ (.int .i64 z21348.2.2.2.2.1) (fun _ _ => K) rfl
               ·exact Owe.run K [(91, (.int .i64 z21348.2.2.2.2.1)), (90, (.bool false))] ⟨gA 6 K K, gB 5 K (!((z21348.2.2.2.2.1 == 151) == (decide (v21810 < 0)))) K hb22516, trivial⟩ (.bool (z21348.2.2.2.2.1 == 0)) (fun _ _ => K) rfl
               ·exact Owe.run K [(92, (.bool (z21348.2.2.2.2.1 == 0))), (90, (.bool false))] ⟨gA 7 K K, gB 5 K (!((z21348.2.2.2.2.1 == 151) == (decide (v21810 < 0)))) K hb22516, trivial⟩ (.bool (z21348.2.2.2.2.1 == 0)) (fun _ _ => K) rfl
               ·refine Owe.light K [0] K (all_cons ?_ all_nil)
                ·rintro ρ' w' hs hah ⟨hvl22587, hs22586⟩
                 have e14 : ρ' 14 = (pt g21358 0) := (hs 14 K).trans K
                 have e93 := hah 8 93 K
                 have hkn : Known ρ' [(14, (pt g21358 0)), (93, (.bool true))] := ⟨e14, (Eq.trans e93 (congrArg Value.bool hb22520)), trivial⟩
                 refine Step.known _ hkn ?_
                 refine Step.load (t := 31) (x := (.tmp 14)) (g := g21358) (off := 0) (i := 4) (v := (.agg #[(.int .i64 z21348.1), (.string ⟨List.toArray z21348.2.1⟩), (.string ⟨List.toArray z21348.2.2.1⟩), (.int .i64 z21348.2.2.2.1)])) (d := (some 94)) (k := 9) K rfl K hs22586 rfl K ?_
                 exact ⟨rfl, _, updO_known hkn, rfl⟩
               ·exact Owe.run K [(8, (.slice A12209 (List.length v12211) c12210)), (93, (.bool true))] ⟨gS K K, gB 8 K (z21348.2.2.2.2.1 == 0) K hb22520, trivial⟩ (.slice A12209 (List.length v12211) c12210) (fun _ _ => K) rfl
               ·exact Owe.run K [(16, (.int .i64 v21810)), (93, (.bool true))] ⟨gS K K, gB 8 K (z21348.2.2.2.2.1 == 0) K hb22520, trivial⟩ (.int .i64 v21810) (fun _ _ => K) rfl
               ·refine Owe.light K [0] K (all_cons ?_ all_nil)
                ·rintro ρ' w' hs hah ⟨hvl22589, hs22588⟩
                 have e95 := hah 10 95 K
                 have e96 := hah 11 96 K
                 have e93 := hah 8 93 K
                 have hkn : Known ρ' [(95, (.slice A12209 (List.length v12211) c12210)), (96, (.int .i64 v21810)), (93, (.bool true))] := ⟨e95, e96, (Eq.trans e93 (congrArg Value.bool hb22520)), trivial⟩
                 refine Step.known _ hkn ?_
                 refine Step.elem (e := (ePair (eInt .i64) (ePair eStr (ePair eStr (eInt .i64))))) (l := v12211) (A := A12209) (c := c12210) (T := 46) (E := 31) (x := (.tmp 95)) (ix := (.tmp 96)) (ki := .i64) (iz := v21810) (d := (some 97)) (k := 12) K rfl K K K K (rowT_rd (SP.get hs22588 (i := 6) rfl)) hp22522 hq22523 ?_
                 intro b22590 o22591 hA22593 hb22594 hc22592
                 exact ⟨rfl, _, updO_known hkn, ⟨b22590, o22591, hA22593, rfl⟩⟩
               ·refine Owe.light K [0] K (all_cons ?_ all_nil)
                ·rintro ρ' w' hs hah ⟨hvl22596, hs22595⟩
                 obtain ⟨b22597, o22598, hA22599, e97⟩ := hah 12 97 K
                 have e93 := hah 8 93 K
                 have hkn : Known ρ' [(97, (.pointer (some ⟨b22597, (o22598 + Int.toNat v21810 * (ePair (eInt .i64) (ePair eStr (ePair eStr (eInt .i64)))).sz), none⟩))), (93, (.bool true))] := ⟨e97, (Eq.trans e93 (congrArg Value.bool hb22520)), trivial⟩
                 refine Step.known _ hkn ?_
                 refine Step.cells (t := 31) (x := (.tmp 97)) (b := b22597) (off := (o22598 + Int.toNat v21810 * (ePair (eInt .i64) (ePair eStr (ePair eStr (eInt .i64)))).sz)) (xs := [(.int .i64 x22521.1), (.string ⟨List.toArray x22521.2.1⟩), (.string ⟨List.toArray x22521.2.2.1⟩), (.int .i64 x22521.2.2.2)]) (d := (some 98)) (k := 13) K rfl K K K (elem_cells0 (e := (ePair (eInt .i64) (ePair eStr (ePair eStr (eInt .i64))))) (rdt_cells (rowT_rd (SP.get hs22595 (i := 6) rfl)) hA22599 hp22522 hq22523) hx22524 rfl) ?_
                 exact ⟨rfl, _, updO_known hkn, rfl⟩
               ·refine Owe.light K [0] K (all_cons ?_ all_nil)
                ·rintro ρ' w' hs hah ⟨hvl22601, hs22600⟩
                 have e94 := hah 9 94 K
                 have e98 := hah 13 98 K
                 have e93 := hah 8 93 K
                 have hkn : Known ρ' [(94, (.agg #[(.int .i64 z21348.1), (.string ⟨List.toArray z21348.2.1⟩), (.string ⟨List.toArray z21348.2.2.1⟩), (.int .i64 z21348.2.2.2.1)])), (98, (.agg #[(.int .i64 x22521.1), (.string ⟨List.toArray x22521.2.1⟩), (.string ⟨List.toArray x22521.2.2.1⟩), (.int .i64 x22521.2.2.2)])), (93, (.bool true))] := ⟨e94, e98, (Eq.trans e93 (congrArg Value.bool hb22520)), trivial⟩
                 refine Step.known _ hkn ?_
                 refine Step.bin (op := .neq) (T := 31) (T' := 31) (x := (.tmp 94)) (y := (.tmp 98)) (vx := (.agg #[(.int .i64 z21348.1), (.string ⟨List.toArray z21348.2.1⟩), (.string ⟨List.toArray z21348.2.2.1⟩), (.int .i64 z21348.2.2.2.1)])) (vy := (.agg #[(.int .i64 x22521.1), (.string ⟨List.toArray x22521.2.1⟩), (.string ⟨List.toArray x22521.2.2.1⟩), (.int .i64 x22521.2.2.2)])) (v := (.bool (!((z21348.1 == x22521.1) && ((z21348.2.1 == x22521.2.1) && ((z21348.2.2.1 == x22521.2.2.1) && (z21348.2.2.2.1 == x22521.2.2.2))))))) (d := (some 99)) (k := 14) K rfl K K (by clear H; intro w; simp only [beq_dec]; go_simp; simp only [struct_ifn, struct_ifn0, struct_if, beq_dec, Bool.and_true] <;> simp only [Bool.not_and]) ?_
                 exact ⟨rfl, _, updO_known hkn, rfl⟩
               ·exact Owe.run K [(99, (.bool (!((z21348.1 == x22521.1) && ((z21348.2.1 == x22521.2.1) && ((z21348.2.2.1 == x22521.2.2.1) && (z21348.2.2.2.1 == x22521.2.2.2))))))), (93, (.bool true))] ⟨gA 14 K K, gB 8 K (z21348.2.2.2.2.1 == 0) K hb22520, trivial⟩ (.bool (!((z21348.1 == x22521.1) && ((z21348.2.1 == x22521.2.1) && ((z21348.2.2.1 == x22521.2.2.1) && (z21348.2.2.2.1 == x22521.2.2.2)))))) (fun _ _ => K) rfl
               ·exact Owe.run K [(14, (pt g21358 0)), (100, (.bool false))] ⟨gS K K, gB 15 K (!((z21348.1 == x22521.1) && ((z21348.2.1 == x22521.2.1) && ((z21348.2.2.1 == x22521.2.2.1) && (z21348.2.2.2.1 == x22521.2.2.2))))) K hb22530, trivial⟩ (pt g21358 2) (fun _ _ => K) rfl
               ·refine Owe.light K [0] K (all_cons ?_ all_nil)
                ·rintro ρ' w' hs hah ⟨hvl22603, hs22602⟩
                 have e101 := hah 16 101 K
                 have e100 := hah 15 100 K
                 have hkn : Known ρ' [(101, (pt g21358 2)), (100, (.bool false))] := ⟨e101, (Eq.trans e100 (congrArg Value.bool hb22530)), trivial⟩
                 refine Step.known _ hkn ?_
                 refine Step.load (t := 9) (x := (.tmp 101)) (g := g21358) (off := 2) (i := 4) (v := (.string ⟨List.toArray z21348.2.2.1⟩)) (d := (some 102)) (k := 17) K rfl K hs22602 rfl K ?_
                 exact ⟨rfl, _, updO_known hkn, rfl⟩
               ·exact Owe.run K [(12, (pt g18294 0)), (100, (.bool false))] ⟨gS K K, gB 15 K (!((z21348.1 == x22521.1) && ((z21348.2.1 == x22521.2.1) && ((z21348.2.2.1 == x22521.2.2.1) && (z21348.2.2.2.1 == x22521.2.2.2))))) K hb22530, trivial⟩ (pt g18294 8) (fun _ _ => K) rfl
               ·refine Owe.light K [0] K (all_cons ?_ all_nil)
                ·rintro ρ' w' hs hah ⟨hvl22605, hs22604⟩
                 have e103 := hah 18 103 K
                 have e100 := hah 15 100 K
                 have hkn : Known ρ' [(103, (pt g18294 8)), (100, (.bool false))] := ⟨e103, (Eq.trans e100 (congrArg Value.bool hb22530)), trivial⟩
                 refine Step.known _ hkn ?_
                 refine Step.load (t := 9) (x := (.tmp 103)) (g := g18294) (off := 8) (i := 3) (v := (.string ⟨List.toArray x18285.2.2.2.2.2.2.2.2⟩)) (d := (some 104)) (k := 19) K rfl K hs22604 rfl K ?_
                 exact ⟨rfl, _, updO_known hkn, rfl⟩
               ·refine Owe.light K [0] K (all_cons ?_ all_nil)
                ·rintro ρ' w' hs hah ⟨hvl22607, hs22606⟩
                 have e102 := hah 17 102 K
                 have e104 := hah 19 104 K
                 have e100 := hah 15 100 K
                 have hkn : Known ρ' [(102, (.string ⟨List.toArray z21348.2.2.1⟩)), (104, (.string ⟨List.toArray x18285.2.2.2.2.2.2.2.2⟩)), (100, (.bool false))] := ⟨e102, e104, (Eq.trans e100 (congrArg Value.bool hb22530)), trivial⟩
                 refine Step.known _ hkn ?_
                 refine Step.strOp (op := .neq) (T := 9) (T' := 9) (x := (.tmp 102)) (y := (.tmp 104)) (a := z21348.2.2.1) (b := x18285.2.2.2.2.2.2.2.2) (r := (.bool (!(z21348.2.2.1 == x18285.2.2.2.2.2.2.2.2)))) (d := (some 105)) (k := 20) K rfl K K rfl ?_
                 exact ⟨rfl, _, updO_known hkn, rfl⟩
               ·exact Owe.run K [(100, (.bool false)), (105, (.bool (!(z21348.2.2.1 == x18285.2.2.2.2.2.2.2.2)))), (93, (.bool true))] ⟨gB 15 K (!((z21348.1 == x22521.1) && ((z21348.2.1 == x22521.2.1) && ((z21348.2.2.1 == x22521.2.2.1) && (z21348.2.2.2.1 == x22521.2.2.2))))) K hb22530, gA 20 K K, gB 8 K (z21348.2.2.2.2.1 == 0) K hb22520, trivial⟩ (.bool (!(z21348.2.2.1 == x18285.2.2.2.2.2.2.2.2))) (fun _ _ => K) rfl
               ·exact Owe.run K [(93, (.bool true)), (106, (.bool (!(z21348.2.2.1 == x18285.2.2.2.2.2.2.2.2)))), (90, (.bool false))] ⟨gB 8 K (z21348.2.2.2.2.1 == 0) K hb22520, gA 21 K K, gB 5 K (!((z21348.2.2.2.2.1 == 151) == (decide (v21810 < 0)))) K hb22516, trivial⟩ (.bool (!(z21348.2.2.1 == x18285.2.2.2.2.2.2.2.2))) (fun _ _ => K) rfl
               ·exact Owe.run K [(90, (.bool false)), (107, (.bool (!(z21348.2.2.1 == x18285.2.2.2.2.2.2.2.2))))] ⟨gB 5 K (!((z21348.2.2.2.2.1 == 151) == (decide (v21810 < 0)))) K hb22516, gA 22 K K, trivial⟩ (.bool (!(z21348.2.2.1 == x18285.2.2.2.2.2.2.2.2))) (fun _ _ => K) rfl
               ·exact Owe.run K [(108, (.bool (!(z21348.2.2.1 == x18285.2.2.2.2.2.2.2.2))))] ⟨gA 23 K K, trivial⟩ (.bool (!(z21348.2.2.1 == x18285.2.2.2.2.2.2.2.2))) (fun _ _ => K) rfl
               ·exact Owe.run K [(15, (.int .i64 z21348.2.2.2.2.1)), (109, (.bool false))] ⟨gS K K, gB 24 K (!(z21348.2.2.1 == x18285.2.2.2.2.2.2.2.2)) K hb22550, trivial⟩ (.int .i64 z21348.2.2.2.2.1) (fun _ _ => K) rfl
               ·exact Owe.run K [(110, (.int .i64 z21348.2.2.2.2.1)), (109, (.bool false))] ⟨gA 25 K K, gB 24 K (!(z21348.2.2.1 == x18285.2.2.2.2.2.2.2.2)) K hb22550, trivial⟩ (.bool (z21348.2.2.2.2.1 == 131)) (fun _ _ => K) rfl
               ·exact Owe.run K [(111, (.bool (z21348.2.2.2.2.1 == 131))), (109, (.bool false))] ⟨gA 26 K K, gB 24 K (!(z21348.2.2.1 == x18285.2.2.2.2.2.2.2.2)) K hb22550, trivial⟩ (.bool (z21348.2.2.2.2.1 == 131)) (fun _ _ => K) rfl
               ·exact Owe.run K [(8, (.slice A12209 (List.length v12211) c12210)), (112, (.bool true))] ⟨gS K K, gB 27 K (z21348.2.2.2.2.1 == 131) K hb22576, trivial⟩ (.slice A12209 (List.length v12211) c12210) (fun _ _ => K) rfl
               ·exact Owe.run K [(16, (.int .i64 v21810)), (112, (.bool true))] ⟨gS K K, gB 27 K (z21348.2.2.2.2.1 == 131) K hb22576, trivial⟩ (.int .i64 v21810) (fun _ _ => K) rfl
               ·refine Owe.light K [0] K (all_cons ?_ all_nil)
                ·rintro ρ' w' hs hah ⟨hvl22609, hs22608⟩
                 have e113 := hah 28 113 K
                 have e114 := hah 29 114 K
                 have e112 := hah 27 112 K
                 have hkn : Known ρ' [(113, (.slice A12209 (List.length v12211) c12210)), (114, (.int .i64 v21810)), (112, (.bool true))] := ⟨e113, e114, (Eq.trans e112 (congrArg Value.bool hb22576)), trivial⟩
                 refine Step.known _ hkn ?_
                 refine Step.elem (e := (ePair (eInt .i64) (ePair eStr (ePair eStr (eInt .i64))))) (l := v12211) (A := A12209) (c := c12210) (T := 46) (E := 31) (x := (.tmp 113)) (ix := (.tmp 114)) (ki := .i64) (iz := v21810) (d := (some 115)) (k := 30) K rfl K K K K (rowT_rd (SP.get hs22608 (i := 6) rfl)) hp22578 hq22579 ?_
                 intro b22610 o22611 hA22613 hb22614 hc22612
                 exact ⟨rfl, _, updO_known hkn, ⟨b22610, o22611, hA22613, rfl⟩⟩
               ·refine Owe.light K [0] K (all_cons ?_ all_nil)
                ·rintro ρ' w' hs hah ⟨hvl22616, hs22615⟩
                 obtain ⟨b22617, o22618, hA22619, e115⟩ := hah 30 115 K
                 have e112 := hah 27 112 K
                 have hkn : Known ρ' [(115, (.pointer (some ⟨b22617, (o22618 + Int.toNat v21810 * (ePair (eInt .i64) (ePair eStr (ePair eStr (eInt .i64)))).sz), none⟩))), (112, (.bool true))] := ⟨e115, (Eq.trans e112 (congrArg Value.bool hb22576)), trivial⟩
                 refine Step.known _ hkn ?_
                 refine Step.run (k := 31) (v := (.pointer (some ⟨b22617, (o22618 + Int.toNat v21810 * (ePair (eInt .i64) (ePair eStr (ePair eStr (eInt .i64)))).sz + 2), none⟩))) K ?_
                 exact ⟨rfl, _, updO_known hkn, ⟨b22617, o22618, hA22619, rfl⟩⟩
               ·refine Owe.light K [0] K (all_cons ?_ all_nil)
                ·rintro ρ' w' hs hah ⟨hvl22621, hs22620⟩
                 obtain ⟨b22622, o22623, hA22624, e116⟩ := hah 31 116 K
                 have e112 := hah 27 112 K
                 have hkn : Known ρ' [(116, (.pointer (some ⟨b22622, (o22623 + Int.toNat v21810 * (ePair (eInt .i64) (ePair eStr (ePair eStr (eInt .i64)))).sz + 2), none⟩))), (112, (.bool true))] := ⟨e116, (Eq.trans e112 (congrArg Value.bool hb22576)), trivial⟩
                 refine Step.known _ hkn ?_
                 refine Step.cell (t := 9) (x := (.tmp 116)) (b := b22622) (off := (o22623 + Int.toNat v21810 * (ePair (eInt .i64) (ePair eStr (ePair eStr (eInt .i64)))).sz + 2)) (v := (.string ⟨List.toArray x22577.2.2.1⟩)) (d := (some 117)) (k := 32) K rfl K K (elem_cell (e := (ePair (eInt .i64) (ePair eStr (ePair eStr (eInt .i64))))) (rdt_cells (rowT_rd (SP.get hs22620 (i := 6) rfl)) hA22624 hp22578 hq22579) hx22580 (j := 2) rfl) ?_
                 exact ⟨rfl, _, updO_known hkn, rfl⟩
               ·exact Owe.run K [(12, (pt g18294 0)), (112, (.bool true))] ⟨gS K K, gB 27 K (z21348.2.2.2.2.1 == 131) K hb22576, trivial⟩ (pt g18294 8) (fun _ _ => K) rfl
               ·refine Owe.light K [0] K (all_cons ?_ all_nil)
                ·rintro ρ' w' hs hah ⟨hvl22626, hs22625⟩
                 have e118 := hah 33 118 K
                 have e112 := hah 27 112 K
                 have hkn : Known ρ' [(118, (pt g18294 8)), (112, (.bool true))] := ⟨e118, (Eq.trans e112 (congrArg Value.bool hb22576)), trivial⟩
                 refine Step.known _ hkn ?_
                 refine Step.load (t := 9) (x := (.tmp 118)) (g := g18294) (off := 8) (i := 3) (v := (.string ⟨List.toArray x18285.2.2.2.2.2.2.2.2⟩)) (d := (some 119)) (k := 34) K rfl K hs22625 rfl K ?_
                 exact ⟨rfl, _, updO_known hkn, rfl⟩
               ·refine Owe.light K [0] K (all_cons ?_ all_nil)
                ·rintro ρ' w' hs hah ⟨hvl22628, hs22627⟩
                 have e117 := hah 32 117 K
                 have e119 := hah 34 119 K
                 have e112 := hah 27 112 K
                 have hkn : Known ρ' [(117, (.string ⟨List.toArray x22577.2.2.1⟩)), (119, (.string ⟨List.toArray x18285.2.2.2.2.2.2.2.2⟩)), (112, (.bool true))] := ⟨e117, e119, (Eq.trans e112 (congrArg Value.bool hb22576)), trivial⟩
                 refine Step.known _ hkn ?_
                 refine Step.strOp (op := .eql) (T := 9) (T' := 9) (x := (.tmp 117)) (y := (.tmp 119)) (a := x22577.2.2.1) (b := x18285.2.2.2.2.2.2.2.2) (r := (.bool (x22577.2.2.1 == x18285.2.2.2.2.2.2.2.2))) (d := (some 120)) (k := 35) K rfl K K rfl ?_
                 exact ⟨rfl, _, updO_known hkn, rfl⟩
               ·exact Owe.run K [(112, (.bool true)), (120, (.bool (x22577.2.2.1 == x18285.2.2.2.2.2.2.2.2))), (109, (.bool false))] ⟨gB 27 K (z21348.2.2.2.2.1 == 131) K hb22576, gA 35 K K, gB 24 K (!(z21348.2.2.1 == x18285.2.2.2.2.2.2.2.2)) K hb22550, trivial⟩ (.bool (x22577.2.2.1 == x18285.2.2.2.2.2.2.2.2)) (fun _ _ => K) rfl
               ·exact Owe.run K [(109, (.bool false)), (121, (.bool (x22577.2.2.1 == x18285.2.2.2.2.2.2.2.2)))] ⟨gB 24 K (!(z21348.2.2.1 == x18285.2.2.2.2.2.2.2.2)) K hb22550, gA 36 K K, trivial⟩ (.bool (x22577.2.2.1 == x18285.2.2.2.2.2.2.2.2)) (fun _ _ => K) rfl
               ·rintro ρ' w' hs hf ⟨hvl22630, hs22629⟩
                refine postKnown [(1, (.slice A3 (List.length p2) c4)), (5, (.bool z6)), (6, (pt g16 0)), (7, (.slice A12206 (List.length v12208) c12207)), (8, (.slice A12209 (List.length v12211) c12210)), (9, (.slice A12212 (List.length v12214) c12213)), (10, (.int .i64 v12215)), (11, (.int .i64 v12216)), (15, (.int .i64 z21348.2.2.2.2.1)), (16, (.int .i64 v21810)), (122, (.bool (x22577.2.2.1 == x18285.2.2.2.2.2.2.2.2)))] ⟨(hs 1 K).trans K, (hs 5 K).trans K, (hs 6 K).trans K, (hs 7 K).trans K, (hs 8 K).trans K, (hs 9 K).trans K, (hs 10 K).trans K, (hs 11 K).trans K, (hs 15 K).trans K, (hs 16 K).trans K, hf 37 122 K, trivial⟩ ?_
                obtain ⟨w22631, hww22631⟩ : ∃ x, w' = x := ⟨_, rfl⟩
                rw [hww22631] at hs22629 ⊢
                exact ⟨(x22577.2.2.1 == x18285.2.2.2.2.2.2.2.2), ⟨K, K, K, K, K, K, K, K, K, K, K, trivial⟩, SP.sel hs22629 [0, 1, 2, 5, 6, 7] rfl rfl, H⟩
              ·have H := cf H hb22576
               refine At.stages K K K K K [GEq (.int .i64 z21348.2.2.2.2.1), GEq (.bool (z21348.2.2.2.2.1 == 151)), GEq (.int .i64 v21810), GEq (.bool (decide (v21810 < 0))), GEq (.bool (!((z21348.2.2.2.2.1 == 151) == (decide (v21810 < 0))))), GEq (.bool (!((z21348.2.2.2.2.1 == 151) == (decide (v21810 < 0))))), GEq (.int .i64 z21348.2.2.2.2.1), GEq (.bool (z21348.2.2.2.2.1 == 0)), GEq (.bool (z21348.2.2.2.2.1 == 0)), GEq (.agg #[(.int .i64 z21348.1), (.string ⟨List.toArray z21348.2.1⟩), (.string ⟨List.toArray z21348.2.2.1⟩), (.int .i64 z21348.2.2.2.1)]), GEq (.slice A12209 (List.length v12211) c12210), GEq (.int .i64 v21810), GElem0 A12209 (ePair (eInt .i64) (ePair eStr (ePair eStr (eInt .i64)))).sz v21810, GEq (.agg #[(.int .i64 x22521.1), (.string ⟨List.toArray x22521.2.1⟩), (.string ⟨List.toArray x22521.2.2.1⟩), (.int .i64 x22521.2.2.2)]), GEq (.bool (!((z21348.1 == x22521.1) && ((z21348.2.1 == x22521.2.1) && ((z21348.2.2.1 == x22521.2.2.1) && (z21348.2.2.2.1 == x22521.2.2.2)))))), GEq (.bool (!((z21348.1 == x22521.1) && ((z21348.2.1 == x22521.2.1) && ((z21348.2.2.1 == x22521.2.2.1) && (z21348.2.2.2.1 == x22521.2.2.2)))))), GEq (pt g21358 2), GEq (.string ⟨List.toArray z21348.2.2.1⟩), GEq (pt g18294 8), GEq (.string ⟨List.toArray x18285.2.2.2.2.2.2.2.2⟩), GEq (.bool (!(z21348.2.2.1 == x18285.2.2.2.2.2.2.2.2))), GEq (.bool (!(z21348.2.2.1 == x18285.2.2.2.2.2.2.2.2))), GEq (.bool (!(z21348.2.2.1 == x18285.2.2.2.2.2.2.2.2))), GEq (.bool (!(z21348.2.2.1 == x18285.2.2.2.2.2.2.2.2))), GEq (.bool (!(z21348.2.2.1 == x18285.2.2.2.2.2.2.2.2))), GEq (.int .i64 z21348.2.2.2.2.1), GEq (.bool (z21348.2.2.2.2.1 == 131)), GEq (.bool (z21348.2.2.2.2.1 == 131)), GEq undef, GEq undef, GEq undef, GEq undef, GEq undef, GEq undef, GEq undef, GEq undef, GEq (.bool false), GEq (.bool false)] [] [([], fun vs w => VL vs [] ∧ SP [] w0 w [rdE eU8 A21352 c21353 z21348.2.2.2.2.2.1, rowT 59 (ePair (eInt .i64) (ePair eStr (ePair eStr (ePair (eInt .i64) eStr)))) A21354 c21355 z21348.2.2.2.2.2.2.2, boxE g16 56 #[(.slice A21352 (List.length z21348.2.2.2.2.2.1) c21353), (.int .i64 z21348.2.2.2.2.2.2.1), (.slice A21354 (List.length z21348.2.2.2.2.2.2.2) c21355)], boxE g18294 33 #[(.int .i64 x18285.1), (.int .i64 x18285.2.1), (.string ⟨List.toArray x18285.2.2.1⟩), (.string ⟨List.toArray x18285.2.2.2.1⟩), (.int .i64 x18285.2.2.2.2.1), (.string ⟨List.toArray x18285.2.2.2.2.2.1⟩), (.int .i64 x18285.2.2.2.2.2.2.1), (.string ⟨List.toArray x18285.2.2.2.2.2.2.2.1⟩), (.string ⟨List.toArray x18285.2.2.2.2.2.2.2.2⟩)], boxE g21358 31 #[(.int .i64 z21348.1), (.string ⟨List.toArray z21348.2.1⟩), (.string ⟨List.toArray z21348.2.2.1⟩), (.int .i64 z21348.2.2.2.1)], rowT 9 eStr A12206 c12207 v12208, rowT 31 (ePair (eInt .i64) (ePair eStr (ePair eStr (eInt .i64)))) A12209 c12210 v12211, rowT 4 eBool A12212 c12213 v12214])] (N := 38) K ⟨K, Nat.zero_lt_succ _⟩ (show VL [] [] ∧ SP [] w0 w21808.drew [rdE eU8 A21352 c21353 z21348.2.2.2.2.2.1, rowT 59 (ePair (eInt .i64) (ePair eStr (ePair eStr (ePair (eInt .i64) eStr)))) A21354 c21355 z21348.2.2.2.2.2.2.2, boxE g16 56 #[(.slice A21352 (List.length z21348.2.2.2.2.2.1) c21353), (.int .i64 z21348.2.2.2.2.2.2.1), (.slice A21354 (List.length z21348.2.2.2.2.2.2.2) c21355)], boxE g18294 33 #[(.int .i64 x18285.1), (.int .i64 x18285.2.1), (.string ⟨List.toArray x18285.2.2.1⟩), (.string ⟨List.toArray x18285.2.2.2.1⟩), (.int .i64 x18285.2.2.2.2.1), (.string ⟨List.toArray x18285.2.2.2.2.2.1⟩), (.int .i64 x18285.2.2.2.2.2.2.1), (.string ⟨List.toArray x18285.2.2.2.2.2.2.2.1⟩), (.string ⟨List.toArray x18285.2.2.2.2.2.2.2.2⟩)], boxE g21358 31 #[(.int .i64 z21348.1), (.string ⟨List.toArray z21348.2.1⟩), (.string ⟨List.toArray z21348.2.2.1⟩), (.int .i64 z21348.2.2.2.1)], rowT 9 eStr A12206 c12207 v12208, rowT 31 (ePair (eInt .i64) (ePair eStr (ePair eStr (eInt .i64)))) A12209 c12210 v12211, rowT 4 eBool A12212 c12213 v12214] from ⟨trivial, SP.drew hs21809⟩) ⟨⟨⟨⟨⟨⟨⟨⟨⟨⟨⟨⟨⟨⟨⟨⟨⟨⟨⟨⟨⟨⟨⟨⟨⟨⟨⟨⟨⟨⟨⟨⟨⟨⟨⟨⟨⟨⟨trivial, ?_⟩, ?_⟩, ?_⟩, ?_⟩, ?_⟩, ?_⟩, ?_⟩, ?_⟩, ?_⟩, ?_⟩, ?_⟩, ?_⟩, ?_⟩, ?_⟩, ?_⟩, ?_⟩, ?_⟩, ?_⟩, ?_⟩, ?_⟩, ?_⟩, ?_⟩, ?_⟩, ?_⟩, ?_⟩, ?_⟩, ?_⟩, ?_⟩, ?_⟩, ?_⟩, ?_⟩, ?_⟩, ?_⟩, ?_⟩, ?_⟩, ?_⟩, ?_⟩, ?_⟩ (last := 0) K ?_
               ·exact Owe.run K [(15, (.int .i64 z21348.2.2.2.2.1))] ⟨gS K K, trivial⟩ (.int .i64 z21348.2.2.2.2.1) (fun _ _ => K) rfl
               ·exact Owe.run K [(85, (.int .i64 z21348.2.2.2.2.1))] ⟨gA 0 K K, trivial⟩ (.bool (z21348.2.2.2.2.1 == 151)) (fun _ _ => K) rfl
               ·exact Owe.run K [(16, (.int .i64 v21810))] ⟨gS K K, trivial⟩ (.int .i64 v21810) (fun _ _ => K) rfl
               ·exact Owe.run K [(87, (.int .i64 v21810))] ⟨gA 2 K K, trivial⟩ (.bool (decide (v21810 < 0))) (fun _ _ => K) rfl
               ·exact Owe.run K [(86, (.bool (z21348.2.2.2.2.1 == 151))), (88, (.bool (decide (v21810 < 0))))] ⟨gA 1 K K, gA 3 K K, trivial⟩ (.bool (!((z21348.2.2.2.2.1 == 151) == (decide (v21810 < 0))))) (fun _ _ => K) rfl
               ·exact Owe.run K [(89, (.bool (!((z21348.2.2.2.2.1 == 151) == (decide (v21810 < 0))))))] ⟨gA 4 K K, trivial⟩ (.bool (!((z21348.2.2.2.2.1 == 151) == (decide (v21810 < 0))))) (fun _ _ => K) rfl
               ·exact Owe.run K [(15, (.int .i64 z21348.2.2.2.2.1)), (90, (.bool false))] ⟨gS K K, gB 5 K (!((z21348.2.2.2.2.1 == 151) == (decide (v21810 < 0)))) K hb22516, trivial⟩ (.int .i64 z21348.2.2.2.2.1) (fun _ _ => K) rfl
               ·exact Owe.run K [(91, (.int .i64 z21348.2.2.2.2.1)), (90, (.bool false))] ⟨gA 6 K K, gB 5 K (!((z21348.2.2.2.2.1 == 151) == (decide (v21810 < 0)))) K hb22516, trivial⟩ (.bool (z21348.2.2.2.2.1 == 0)) (fun _ _ => K) rfl
               ·exact Owe.run K [(92, (.bool (z21348.2.2.2.2.1 == 0))), (90, (.bool false))] ⟨gA 7 K K, gB 5 K (!((z21348.2.2.2.2.1 == 151) == (decide (v21810 < 0)))) K hb22516, trivial⟩ (.bool (z21348.2.2.2.2.1 == 0)) (fun _ _ => K) rfl
               ·refine Owe.light K [0] K (all_cons ?_ all_nil)
                ·rintro ρ' w' hs hah ⟨hvl22633, hs22632⟩
                 have e14 : ρ' 14 = (pt g21358 0) := (hs 14 K).trans K
                 have e93 := hah 8 93 K
                 have hkn : Known ρ' [(14, (pt g21358 0)), (93, (.bool true))] := ⟨e14, (Eq.trans e93 (congrArg Value.bool hb22520)), trivial⟩
                 refine Step.known _ hkn ?_
                 refine Step.load (t := 31) (x := (.tmp 14)) (g := g21358) (off := 0) (i := 4) (v := (.agg #[(.int .i64 z21348.1), (.string ⟨List.toArray z21348.2.1⟩), (.string ⟨List.toArray z21348.2.2.1⟩), (.int .i64 z21348.2.2.2.1)])) (d := (some 94)) (k := 9) K rfl K hs22632 rfl K ?_
                 exact ⟨rfl, _, updO_known hkn, rfl⟩
               ·exact Owe.run K [(8, (.slice A12209 (List.length v12211) c12210)), (93, (.bool true))] ⟨gS K K, gB 8 K (z21348.2.2.2.2.1 == 0) K hb22520, trivial⟩ (.slice A12209 (List.length v12211) c12210) (fun _ _ => K) rfl
               ·exact Owe.run K [(16, (.int .i64 v21810)), (93, (.bool true))] ⟨gS K K, gB 8 K (z21348.2.2.2.2.1 == 0) K hb22520, trivial⟩ (.int .i64 v21810) (fun _ _ => K) rfl
               ·refine Owe.light K [0] K (all_cons ?_ all_nil)
                ·rintro ρ' w' hs hah ⟨hvl22635, hs22634⟩
                 have e95 := hah 10 95 K
                 have e96 := hah 11 96 K
                 have e93 := hah 8 93 K
                 have hkn : Known ρ' [(95, (.slice A12209 (List.length v12211) c12210)), (96, (.int .i64 v21810)), (93, (.bool true))] := ⟨e95, e96, (Eq.trans e93 (congrArg Value.bool hb22520)), trivial⟩
                 refine Step.known _ hkn ?_
                 refine Step.elem (e := (ePair (eInt .i64) (ePair eStr (ePair eStr (eInt .i64))))) (l := v12211) (A := A12209) (c := c12210) (T := 46) (E := 31) (x := (.tmp 95)) (ix := (.tmp 96)) (ki := .i64) (iz := v21810) (d := (some 97)) (k := 12) K rfl K K K K (rowT_rd (SP.get hs22634 (i := 6) rfl)) hp22522 hq22523 ?_
                 intro b22636 o22637 hA22639 hb22640 hc22638
                 exact ⟨rfl, _, updO_known hkn, ⟨b22636, o22637, hA22639, rfl⟩⟩
               ·refine Owe.light K [0] K (all_cons ?_ all_nil)
                ·rintro ρ' w' hs hah ⟨hvl22642, hs22641⟩
                 obtain ⟨b22643, o22644, hA22645, e97⟩ := hah 12 97 K
                 have e93 := hah 8 93 K
                 have hkn : Known ρ' [(97, (.pointer (some ⟨b22643, (o22644 + Int.toNat v21810 * (ePair (eInt .i64) (ePair eStr (ePair eStr (eInt .i64)))).sz), none⟩))), (93, (.bool true))] := ⟨e97, (Eq.trans e93 (congrArg Value.bool hb22520)), trivial⟩
                 refine Step.known _ hkn ?_
                 refine Step.cells (t := 31) (x := (.tmp 97)) (b := b22643) (off := (o22644 + Int.toNat v21810 * (ePair (eInt .i64) (ePair eStr (ePair eStr (eInt .i64)))).sz)) (xs := [(.int .i64 x22521.1), (.string ⟨List.toArray x22521.2.1⟩), (.string ⟨List.toArray x22521.2.2.1⟩), (.int .i64 x22521.2.2.2)]) (d := (some 98)) (k := 13) K rfl K K K (elem_cells0 (e := (ePair (eInt .i64) (ePair eStr (ePair eStr (eInt .i64))))) (rdt_cells (rowT_rd (SP.get hs22641 (i := 6) rfl)) hA22645 hp22522 hq22523) hx22524 rfl) ?_
                 exact ⟨rfl, _, updO_known hkn, rfl⟩
               ·refine Owe.light K [0] K (all_cons ?_ all_nil)
                ·rintro ρ' w' hs hah ⟨hvl22647, hs22646⟩
                 have e94 := hah 9 94 K
                 have e98 := hah 13 98 K
                 have e93 := hah 8 93 K
                 have hkn : Known ρ' [(94, (.agg #[(.int .i64 z21348.1), (.string ⟨List.toArray z21348.2.1⟩), (.string ⟨List.toArray z21348.2.2.1⟩), (.int .i64 z21348.2.2.2.1)])), (98, (.agg #[(.int .i64 x22521.1), (.string ⟨List.toArray x22521.2.1⟩), (.string ⟨List.toArray x22521.2.2.1⟩), (.int .i64 x22521.2.2.2)])), (93, (.bool true))] := ⟨e94, e98, (Eq.trans e93 (congrArg Value.bool hb22520)), trivial⟩
                 refine Step.known _ hkn ?_
                 refine Step.bin (op := .neq) (T := 31) (T' := 31) (x := (.tmp 94)) (y := (.tmp 98)) (vx := (.agg #[(.int .i64 z21348.1), (.string ⟨List.toArray z21348.2.1⟩), (.string ⟨List.toArray z21348.2.2.1⟩), (.int .i64 z21348.2.2.2.1)])) (vy := (.agg #[(.int .i64 x22521.1), (.string ⟨List.toArray x22521.2.1⟩), (.string ⟨List.toArray x22521.2.2.1⟩), (.int .i64 x22521.2.2.2)])) (v := (.bool (!((z21348.1 == x22521.1) && ((z21348.2.1 == x22521.2.1) && ((z21348.2.2.1 == x22521.2.2.1) && (z21348.2.2.2.1 == x22521.2.2.2))))))) (d := (some 99)) (k := 14) K rfl K K (by clear H; intro w; simp only [beq_dec]; go_simp; simp only [struct_ifn, struct_ifn0, struct_if, beq_dec, Bool.and_true] <;> simp only [Bool.not_and]) ?_
                 exact ⟨rfl, _, updO_known hkn, rfl⟩
               ·exact Owe.run K [(99, (.bool (!((z21348.1 == x22521.1) && ((z21348.2.1 == x22521.2.1) && ((z21348.2.2.1 == x22521.2.2.1) && (z21348.2.2.2.1 == x22521.2.2.2))))))), (93, (.bool true))] ⟨gA 14 K K, gB 8 K (z21348.2.2.2.2.1 == 0) K hb22520, trivial⟩ (.bool (!((z21348.1 == x22521.1) && ((z21348.2.1 == x22521.2.1) && ((z21348.2.2.1 == x22521.2.2.1) && (z21348.2.2.2.1 == x22521.2.2.2)))))) (fun _ _ => K) rfl
               ·exact Owe.run K [(14, (pt g21358 0)), (100, (.bool false))] ⟨gS K K, gB 15 K (!((z21348.1 == x22521.1) && ((z21348.2.1 == x22521.2.1) && ((z21348.2.2.1 == x22521.2.2.1) && (z21348.2.2.2.1 == x22521.2.2.2))))) K hb22530, trivial⟩ (pt g21358 2) (fun _ _ => K) rfl
               ·refine Owe.light K [0] K (all_cons ?_ all_nil)
                ·rintro ρ' w' hs hah ⟨hvl22649, hs22648⟩
                 have e101 := hah 16 101 K
                 have e100 := hah 15 100 K
                 have hkn : Known ρ' [(101, (pt g21358 2)), (100, (.bool false))] := ⟨e101, (Eq.trans e100 (congrArg Value.bool hb22530)), trivial⟩
                 refine Step.known _ hkn ?_
                 refine Step.load (t := 9) (x := (.tmp 101)) (g := g21358) (off := 2) (i := 4) (v := (.string ⟨List.toArray z21348.2.2.1⟩)) (d := (some 102)) (k := 17) K rfl K hs22648 rfl K ?_
                 exact ⟨rfl, _, updO_known hkn, rfl⟩
               ·exact Owe.run K [(12, (pt g18294 0)), (100, (.bool false))] ⟨gS K K, gB 15 K (!((z21348.1 == x22521.1) && ((z21348.2.1 == x22521.2.1) && ((z21348.2.2.1 == x22521.2.2.1) && (z21348.2.2.2.1 == x22521.2.2.2))))) K hb22530, trivial⟩ (pt g18294 8) (fun _ _ => K) rfl
               ·refine Owe.light K [0] K (all_cons ?_ all_nil)
                ·rintro ρ' w' hs hah ⟨hvl22651, hs22650⟩
                 have e103 := hah 18 103 K
                 have e100 := hah 15 100 K
                 have hkn : Known ρ' [(103, (pt g18294 8)), (100, (.bool false))] := ⟨e103, (Eq.trans e100 (congrArg Value.bool hb22530)), trivial⟩
                 refine Step.known _ hkn ?_
                 refine Step.load (t := 9) (x := (.tmp 103)) (g := g18294) (off := 8) (i := 3) (v := (.string ⟨List.toArray x18285.2.2.2.2.2.2.2.2⟩)) (d := (some 104)) (k := 19) K rfl K hs22650 rfl K ?_
                 exact ⟨rfl, _, updO_known hkn, rfl⟩
               ·refine Owe.light K [0] K (all_cons ?_ all_nil)
                ·rintro ρ' w' hs hah ⟨hvl22653, hs22652⟩
                 have e102 := hah 17 102 K
                 have e104 := hah 19 104 K
                 have e100 := hah 15 100 K
                 have hkn : Known ρ' [(102, (.string ⟨List.toArray z21348.2.2.1⟩)), (104, (.string ⟨List.toArray x18285.2.2.2.2.2.2.2.2⟩)), (100, (.bool false))] := ⟨e102, e104, (Eq.trans e100 (congrArg Value.bool hb22530)), trivial⟩
                 refine Step.known _ hkn ?_
                 refine Step.strOp (op := .neq) (T := 9) (T' := 9) (x := (.tmp 102)) (y := (.tmp 104)) (a := z21348.2.2.1) (b := x18285.2.2.2.2.2.2.2.2) (r := (.bool (!(z21348.2.2.1 == x18285.2.2.2.2.2.2.2.2)))) (d := (some 105)) (k := 20) K rfl K K rfl ?_
                 exact ⟨rfl, _, updO_known hkn, rfl⟩
               ·exact Owe.run K [(100, (.bool false)), (105, (.bool (!(z21348.2.2.1 == x18285.2.2.2.2.2.2.2.2)))), (93, (.bool true))] ⟨gB 15 K (!((z21348.1 == x22521.1) && ((z21348.2.1 == x22521.2.1) && ((z21348.2.2.1 == x22521.2.2.1) && (z21348.2.2.2.1 == x22521.2.2.2))))) K hb22530, gA 20 K K, gB 8 K (z21348.2.2.2.2.1 == 0) K hb22520, trivial⟩ (.bool (!(z21348.2.2.1 == x18285.2.2.2.2.2.2.2.2))) (fun _ _ => K) rfl
               ·exact Owe.run K [(93, (.bool true)), (106, (.bool (!(z21348.2.2.1 == x18285.2.2.2.2.2.2.2.2)))), (90, (.bool false))] ⟨gB 8 K (z21348.2.2.2.2.1 == 0) K hb22520, gA 21 K K, gB 5 K (!((z21348.2.2.2.2.1 == 151) == (decide (v21810 < 0)))) K hb22516, trivial⟩ (.bool (!(z21348.2.2.1 == x18285.2.2.2.2.2.2.2.2))) (fun _ _ => K) rfl
               ·exact Owe.run K [(90, (.bool false)), (107, (.bool (!(z21348.2.2.1 == x18285.2.2.2.2.2.2.2.2))))] ⟨gB 5 K (!((z21348.2.2.2.2.1 == 151) == (decide (v21810 < 0)))) K hb22516, gA 22 K K, trivial⟩ (.bool (!(z21348.2.2.1 == x18285.2.2.2.2.2.2.2.2))) (fun _ _ => K) rfl
               ·exact Owe.run K [(108, (.bool (!(z21348.2.2.1 == x18285.2.2.2.2.2.2.2.2))))] ⟨gA 23 K K, trivial⟩ (.bool (!(z21348.2.2.1 == x18285.2.2.2.2.2.2.2.2))) (fun _ _ => K) rfl
               ·exact Owe.run K [(15, (.int .i64 z21348.2.2.2.2.1)), (109, (.bool false))] ⟨gS K K, gB 24 K (!(z21348.2.2.1 == x18285.2.2.2.2.2.2.2.2)) K hb22550, trivial⟩ (.int .i64 z21348.2.2.2.2.1) (fun _ _ => K) rfl
               ·exact Owe.run K [(110, (.int .i64 z21348.2.2.2.2.1)), (109, (.bool false))] ⟨gA 25 K K, gB 24 K (!(z21348.2.2.1 == x18285.2.2.2.2.2.2.2.2)) K hb22550, trivial⟩ (.bool (z21348.2.2.2.2.1 == 131)) (fun _ _ => K) rfl
               ·exact Owe.run K [(111, (.bool (z21348.2.2.2.2.1 == 131))), (109, (.bool false))] ⟨gA 26 K K, gB 24 K (!(z21348.2.2.1 == x18285.2.2.2.2.2.2.2.2)) K hb22550, trivial⟩ (.bool (z21348.2.2.2.2.1 == 131)) (fun _ _ => K) rfl
               ·exact Owe.skip K [(112, (.bool false))] ⟨gB 27 K (z21348.2.2.2.2.1 == 131) K hb22576, trivial⟩ (some 113) (fun _ => K) K rfl
               ·exact Owe.skip K [(112, (.bool false))] ⟨gB 27 K (z21348.2.2.2.2.1 == 131) K hb22576, trivial⟩ (some 114) (fun _ => K) K rfl
               ·exact Owe.skip K [(112, (.bool false))] ⟨gB 27 K (z21348.2.2.2.2.1 == 131) K hb22576, trivial⟩ (some 115) (fun _ => K) K rfl
               ·exact Owe.skip K [(112, (.bool false))] ⟨gB 27 K (z21348.2.2.2.2.1 == 131) K hb22576, trivial⟩ (some 116) (fun _ => K) K rfl
               ·exact Owe.skip K [(112, (.bool false))] ⟨gB 27 K (z21348.2.2.2.2.1 == 131) K hb22576, trivial⟩ (some 117) (fun _ => K) K rfl
               ·exact Owe.skip K [(112, (.bool false))] ⟨gB 27 K (z21348.2.2.2.2.1 == 131) K hb22576, trivial⟩ (some 118) (fun _ => K) K rfl
               ·exact Owe.skip K [(112, (.bool false))] ⟨gB 27 K (z21348.2.2.2.2.1 == 131) K hb22576, trivial⟩ (some 119) (fun _ => K) K rfl
               ·exact Owe.skip K [(112, (.bool false))] ⟨gB 27 K (z21348.2.2.2.2.1 == 131) K hb22576, trivial⟩ (some 120) (fun _ => K) K rfl
               ·exact Owe.run K [(112, (.bool false)), (120, undef), (109, (.bool false))] ⟨gB 27 K (z21348.2.2.2.2.1 == 131) K hb22576, gA 35 K K, gB 24 K (!(z21348.2.2.1 == x18285.2.2.2.2.2.2.2.2)) K hb22550, trivial⟩ (.bool false) (fun _ _ => K) rfl
               ·exact Owe.run K [(109, (.bool false)), (121, (.bool false))] ⟨gB 24 K (!(z21348.2.2.1 == x18285.2.2.2.2.2.2.2.2)) K hb22550, gA 36 K K, trivial⟩ (.bool false) (fun _ _ => K) rfl
               ·rintro ρ' w' hs hf ⟨hvl22655, hs22654⟩
                refine postKnown [(1, (.slice A3 (List.length p2) c4)), (5, (.bool z6)), (6, (pt g16 0)), (7, (.slice A12206 (List.length v12208) c12207)), (8, (.slice A12209 (List.length v12211) c12210)), (9, (.slice A12212 (List.length v12214) c12213)), (10, (.int .i64 v12215)), (11, (.int .i64 v12216)), (15, (.int .i64 z21348.2.2.2.2.1)), (16, (.int .i64 v21810)), (122, (.bool false))] ⟨(hs 1 K).trans K, (hs 5 K).trans K, (hs 6 K).trans K, (hs 7 K).trans K, (hs 8 K).trans K, (hs 9 K).trans K, (hs 10 K).trans K, (hs 11 K).trans K, (hs 15 K).trans K, (hs 16 K).trans K, hf 37 122 K, trivial⟩ ?_
                obtain ⟨w22656, hww22656⟩ : ∃ x, w' = x := ⟨_, rfl⟩
                rw [hww22656] at hs22654 ⊢
                exact ⟨false, ⟨K, K, K, K, K, K, K, K, K, K, K, trivial⟩, SP.sel hs22654 [0, 1, 2, 5, 6, 7] rfl rfl, H⟩
           ·have H := cf H hb22520
            rcases Bool.eq_false_or_eq_true (z21348.2.2.2.2.1 == 131) with hb22657 | hb22657
            ·have H := ct H hb22657
             obtain ⟨x22658, hp22659, hq22660, hx22661, H⟩ := idx_elim H
             refine At.stages K K K K K [GEq (.int .i64 z21348.2.2.2.2.1), GEq (.bool (z21348.2.2.2.2.1 == 151)), GEq (.int .i64 v21810), GEq (.bool (decide (v21810 < 0))), GEq (.bool (!((z21348.2.2.2.2.1 == 151) == (decide (v21810 < 0))))), GEq (.bool (!((z21348.2.2.2.2.1 == 151) == (decide (v21810 < 0))))), GEq (.int .i64 z21348.2.2.2.2.1), GEq (.bool (z21348.2.2.2.2.1 == 0)), GEq (.bool (z21348.2.2.2.2.1 == 0)), GEq undef, GEq undef, GEq undef, GEq undef, GEq undef, GEq undef, GEq undef, GEq undef, GEq undef, GEq undef, GEq undef, GEq undef, GEq undef, GEq (.bool false), GEq (.bool false), GEq (.bool false), GEq (.int .i64 z21348.2.2.2.2.1), GEq (.bool (z21348.2.2.2.2.1 == 131)), GEq (.bool (z21348.2.2.2.2.1 == 131)), GEq (.slice A12209 (List.length v12211) c12210), GEq (.int .i64 v21810), GElem0 A12209 (ePair (eInt .i64) (ePair eStr (ePair eStr (eInt .i64)))).sz v21810, GElem A12209 (ePair (eInt .i64) (ePair eStr (ePair eStr (eInt .i64)))).sz v21810 2, GEq (.string ⟨List.toArray x22658.2.2.1⟩), GEq (pt g18294 8), GEq (.string ⟨List.toArray x18285.2.2.2.2.2.2.2.2⟩), GEq (.bool (x22658.2.2.1 == x18285.2.2.2.2.2.2.2.2)), GEq (.bool (x22658.2.2.1 == x18285.2.2.2.2.2.2.2.2)), GEq (.bool (x22658.2.2.1 == x18285.2.2.2.2.2.2.2.2))] [] [([], fun vs w => VL vs [] ∧ SP [] w0 w [rdE eU8 A21352 c21353 z21348.2.2.2.2.2.1, rowT 59 (ePair (eInt .i64) (ePair eStr (ePair eStr (ePair (eInt .i64) eStr)))) A21354 c21355 z21348.2.2.2.2.2.2.2, boxE g16 56 #[(.slice A21352 (List.length z21348.2.2.2.2.2.1) c21353), (.int .i64 z21348.2.2.2.2.2.2.1), (.slice A21354 (List.length z21348.2.2.2.2.2.2.2) c21355)], boxE g18294 33 #[(.int .i64 x18285.1), (.int .i64 x18285.2.1), (.string ⟨List.toArray x18285.2.2.1⟩), (.string ⟨List.toArray x18285.2.2.2.1⟩), (.int .i64 x18285.2.2.2.2.1), (.string ⟨List.toArray x18285.2.2.2.2.2.1⟩), (.int .i64 x18285.2.2.2.2.2.2.1), (.string ⟨List.toArray x18285.2.2.2.2.2.2.2.1⟩), (.string ⟨List.toArray x18285.2.2.2.2.2.2.2.2⟩)], boxE g21358 31 #[(.int .i64 z21348.1), (.string ⟨List.toArray z21348.2.1⟩), (.string ⟨List.toArray z21348.2.2.1⟩), (.int .i64 z21348.2.2.2.1)], rowT 9 eStr A12206 c12207 v12208, rowT 31 (ePair (eInt .i64) (ePair eStr (ePair eStr (eInt .i64)))) A12209 c12210 v12211, rowT 4 eBool A12212 c12213 v12214])] (N := 38) K ⟨K, Nat.zero_lt_succ _⟩ (show VL [] [] ∧ SP [] w0 w21808.drew [rdE eU8 A21352 c21353 z21348.2.2.2.2.2.1, rowT 59 (ePair (eInt .i64) (ePair eStr (ePair eStr (ePair (eInt .i64) eStr)))) A21354 c21355 z21348.2.2.2.2.2.2.2, boxE g16 56 #[(.slice A21352 (List.length z21348.2.2.2.2.2.1) c21353), (.int .i64 z21348.2.2.2.2.2.2.1), (.slice A21354 (List.length z21348.2.2.2.2.2.2.2) c21355)], boxE g18294 33 #[(.int .i64 x18285.1), (.int .i64 x18285.2.1), (.string ⟨List.toArray x18285.2.2.1⟩), (.string ⟨List.toArray x18285.2.2.2.1⟩), (.int .i64 x18285.2.2.2.2.1), (.string ⟨List.toArray x18285.2.2.2.2.2.1⟩), (.int .i64 x18285.2.2.2.2.2.2.1), (.string ⟨List.toArray x18285.2.2.2.2.2.2.2.1⟩), (.string ⟨List.toArray x18285.2.2.2.2.2.2.2.2⟩)], boxE g21358 31 #[(.int .i64 z21348.1), (.string ⟨List.toArray z21348.2.1⟩), (.string ⟨List.toArray z21348.2.2.1⟩), (.int .i64 z21348.2.2.2.1)], rowT 9 eStr A12206 c12207 v12208, rowT 31 (ePair (eInt .i64) (ePair eStr (ePair eStr (eInt .i64)))) A12209 c12210 v12211, rowT 4 eBool A12212 c12213 v12214] from ⟨trivial, SP.drew hs21809⟩) ⟨⟨⟨⟨⟨⟨⟨⟨⟨⟨⟨⟨⟨⟨⟨⟨⟨⟨⟨⟨⟨⟨⟨⟨⟨⟨⟨⟨⟨⟨⟨⟨⟨⟨⟨⟨⟨⟨trivial, ?_⟩, ?_⟩, ?_⟩, ?_⟩, ?_⟩, ?_⟩, ?_⟩, ?_⟩, ?_⟩, ?_⟩, ?_⟩, ?_⟩, ?_⟩, ?_⟩, ?_⟩, ?_⟩, ?_⟩, ?_⟩, ?_⟩, ?_⟩, ?_⟩, ?_⟩, ?_⟩, ?_⟩, ?_⟩, ?_⟩, ?_⟩, ?_⟩, ?_⟩, ?_⟩, ?_⟩, ?_⟩, ?_⟩, ?_⟩, ?_⟩, ?_⟩, ?_⟩, ?_⟩ (last := 0) K ?_
             ·exact Owe.run K [(15, (.int .i64 z21348.2.2.2.2.1))] ⟨gS K K, trivial⟩ (.int .i64 z21348.2.2.2.2.1) (fun _ _ => K) rfl
             ·exact Owe.run K [(85, (.int .i64 z21348.2.2.2.2.1))] ⟨gA 0 K K, trivial⟩ (.bool (z21348.2.2.2.2.1 == 151)) (fun _ _ => K) rfl
             ·exact Owe.run K [(16, (.int .i64 v21810))] ⟨gS K K, trivial⟩ (.int .i64 v21810) (fun _ _ => K) rfl
             ·exact Owe.run K [(87, (.int .i64 v21810))] ⟨gA 2 K K, trivial⟩ (.bool (decide (v21810 < 0))) (fun _ _ => K) rfl
             ·exact Owe.run K [(86, (.bool (z21348.2.2.2.2.1 == 151))), (88, (.bool (decide (v21810 < 0))))] ⟨gA 1 K K, gA 3 K K, trivial⟩ (.bool (!((z21348.2.2.2.2.1 == 151) == (decide (v21810 < 0))))) (fun _ _ => K) rfl
             ·exact Owe.run K [(89, (.bool (!((z21348.2.2.2.2.1 == 151) == (decide (v21810 < 0))))))] ⟨gA 4 K K, trivial⟩ (.bool (!((z21348.2.2.2.2.1 == 151) == (decide (v21810 < 0))))) (fun _ _ => K) rfl
             ·exact Owe.run K [(15, (.int .i64 z21348.2.2.2.2.1)), (90, (.bool false))] ⟨gS K K, gB 5 K (!((z21348.2.2.2.2.1 == 151) == (decide (v21810 < 0)))) K hb22516, trivial⟩ (.int .i64 z21348.2.2.2.2.1) (fun _ _ => K) rfl
             ·exact Owe.run K [(91, (.int .i64 z21348.2.2.2.2.1)), (90, (.bool false))] ⟨gA 6 K K, gB 5 K (!((z21348.2.2.2.2.1 == 151) == (decide (v21810 < 0)))) K hb22516, trivial⟩ (.bool (z21348.2.2.2.2.1 == 0)) (fun _ _ => K) rfl
             ·exact Owe.run K [(92, (.bool (z21348.2.2.2.2.1 == 0))), (90, (.bool false))] ⟨gA 7 K K, gB 5 K (!((z21348.2.2.2.2.1 == 151) == (decide (v21810 < 0)))) K hb22516, trivial⟩ (.bool (z21348.2.2.2.2.1 == 0)) (fun _ _ => K) rfl
             ·exact Owe.skip K [(93, (.bool false))] ⟨gB 8 K (z21348.2.2.2.2.1 == 0) K hb22520, trivial⟩ (some 94) (fun _ => K) K rfl
             ·exact Owe.skip K [(93, (.bool false))] ⟨gB 8 K (z21348.2.2.2.2.1 == 0) K hb22520, trivial⟩ (some 95) (fun _ => K) K rfl
             ·exact Owe.skip K [(93, (.bool false))] ⟨gB 8 K (z21348.2.2.2.2.1 == 0) K hb22520, trivial⟩ (some 96) (fun _ => K) K rfl
             ·exact Owe.skip K [(93, (.bool false))] ⟨gB 8 K (z21348.2.2.2.2.1 == 0) K hb22520, trivial⟩ (some 97) (fun _ => K) K rfl
             ·exact Owe.skip K [(93, (.bool false))] ⟨gB 8 K (z21348.2.2.2.2.1 == 0) K hb22520, trivial⟩ (some 98) (fun _ => K) K rfl
             ·exact Owe.skip K [(93, (.bool false))] ⟨gB 8 K (z21348.2.2.2.2.1 == 0) K hb22520, trivial⟩ (some 99) (fun _ => K) K rfl
             ·exact Owe.skip K [(93, (.bool false))] ⟨gB 8 K (z21348.2.2.2.2.1 == 0) K hb22520, trivial⟩ (some 100) (fun _ => K) K rfl
             ·exact Owe.skip K [(100, undef)] ⟨gA 15 K K, trivial⟩ (some 101) (fun _ => K) K rfl
             ·exact Owe.skip K [(100, undef)] ⟨gA 15 K K, trivial⟩ (some 102) (fun _ => K) K rfl
             ·exact Owe.skip K [(100, undef)] ⟨gA 15 K K, trivial⟩ (some 103) (fun _ => K) K rfl
             ·exact Owe.skip K [(100, undef)] ⟨gA 15 K K, trivial⟩ (some 104) (fun _ => K) K rfl
             ·exact Owe.skip K [(100, undef)] ⟨gA 15 K K, trivial⟩ (some 105) (fun _ => K) K rfl
             ·exact Owe.skip K [(93, (.bool false))] ⟨gB 8 K (z21348.2.2.2.2.1 == 0) K hb22520, trivial⟩ (some 106) (fun _ => K) K rfl
             ·exact Owe.run K [(93, (.bool false)), (106, undef), (90, (.bool false))] ⟨gB 8 K (z21348.2.2.2.2.1 == 0) K hb22520, gA 21 K K, gB 5 K (!((z21348.2.2.2.2.1 == 151) == (decide (v21810 < 0)))) K hb22516, trivial⟩ (.bool false) (fun _ _ => K) rfl
             ·exact Owe.run K [(90, (.bool false)), (107, (.bool false))] ⟨gB 5 K (!((z21348.2.2.2.2.1 == 151) == (decide (v21810 < 0)))) K hb22516, gA 22 K K, trivial⟩ (.bool false) (fun _ _ => K) rfl
             ·exact Owe.run K [(108, (.bool false))] ⟨gA 23 K K, trivial⟩ (.bool false) (fun _ _ => K) rfl
             ·exact Owe.run K [(15, (.int .i64 z21348.2.2.2.2.1)), (109, (.bool false))] ⟨gS K K, gA 24 K K, trivial⟩ (.int .i64 z21348.2.2.2.2.1) (fun _ _ => K) rfl
             ·exact Owe.run K [(110, (.int .i64 z21348.2.2.2.2.1)), (109, (.bool false))] ⟨gA 25 K K, gA 24 K K, trivial⟩ (.bool (z21348.2.2.2.2.1 == 131)) (fun _ _ => K) rfl
             ·exact Owe.run K [(111, (.bool (z21348.2.2.2.2.1 == 131))), (109, (.bool false))] ⟨gA 26 K K, gA 24 K K, trivial⟩ (.bool (z21348.2.2.2.2.1 == 131)) (fun _ _ => K) rfl
             ·exact Owe.run K [(8, (.slice A12209 (List.length v12211) c12210)), (112, (.bool true))] ⟨gS K K, gB 27 K (z21348.2.2.2.2.1 == 131) K hb22657, trivial⟩ (.slice A12209 (List.length v12211) c12210) (fun _ _ => K) rfl
             ·exact Owe.run K [(16, (.int .i64 v21810)), (112, (.bool true))] ⟨gS K K, gB 27 K (z21348.2.2.2.2.1 == 131) K hb22657, trivial⟩ (.int .i64 v21810) (fun _ _ => K) rfl
             ·refine Owe.light K [0] K (all_cons ?_ all_nil)
              ·rintro ρ' w' hs hah ⟨hvl22668, hs22667⟩
               have e113 := hah 28 113 K
               have e114 := hah 29 114 K
               have e112 := hah 27 112 K
               have hkn : Known ρ' [(113, (.slice A12209 (List.length v12211) c12210)), (114, (.int .i64 v21810)), (112, (.bool true))] := ⟨e113, e114, (Eq.trans e112 (congrArg Value.bool hb22657)), trivial⟩
               refine Step.known _ hkn ?_
               refine Step.elem (e := (ePair (eInt .i64) (ePair eStr (ePair eStr (eInt .i64))))) (l := v12211) (A := A12209) (c := c12210) (T := 46) (E := 31) (x := (.tmp 113)) (ix := (.tmp 114)) (ki := .i64) (iz := v21810) (d := (some 115)) (k := 30) K rfl K K K K (rowT_rd (SP.get hs22667 (i := 6) rfl)) hp22659 hq22660 ?_
               intro b22669 o22670 hA22672 hb22673 hc22671
               exact ⟨rfl, _, updO_known hkn, ⟨b22669, o22670, hA22672, rfl⟩⟩
             ·refine Owe.light K [0] K (all_cons ?_ all_nil)
              ·rintro ρ' w' hs hah ⟨hvl22675, hs22674⟩
               obtain ⟨b22676, o22677, hA22678, e115⟩ := hah 30 115 K
               have e112 := hah 27 112 K
               have hkn : Known ρ' [(115, (.pointer (some ⟨b22676, (o22677 + Int.toNat v21810 * (ePair (eInt .i64) (ePair eStr (ePair eStr (eInt .i64)))).sz), none⟩))), (112, (.bool true))] := ⟨e115, (Eq.trans e112 (congrArg Value.bool hb22657)), trivial⟩
               refine Step.known _ hkn ?_
               refine Step.run (k := 31) (v := (.pointer (some ⟨b22676, (o22677 + Int.toNat v21810 * (ePair (eInt .i64) (ePair eStr (ePair eStr (eInt .i64)))).sz + 2), none⟩))) K ?_
               exact ⟨rfl, _, updO_known hkn, ⟨b22676, o22677, hA22678, rfl⟩⟩
             ·refine Owe.light K [0] K (all_cons ?_ all_nil)
              ·rintro ρ' w' hs hah ⟨hvl22680, hs22679⟩
               obtain ⟨b22681, o22682, hA22683, e116⟩ := hah 31 116 K
               have e112 := hah 27 112 K
               have hkn : Known ρ' [(116, (.pointer (some ⟨b22681, (o22682 + Int.toNat v21810 * (ePair (eInt .i64) (ePair eStr (ePair eStr (eInt .i64)))).sz + 2), none⟩))), (112, (.bool true))] := ⟨e116, (Eq.trans e112 (congrArg Value.bool hb22657)), trivial⟩
               refine Step.known _ hkn ?_
               refine Step.cell (t := 9) (x := (.tmp 116)) (b := b22681) (off := (o22682 + Int.toNat v21810 * (ePair (eInt .i64) (ePair eStr (ePair eStr (eInt .i64)))).sz + 2)) (v := (.string ⟨List.toArray x22658.2.2.1⟩)) (d := (some 117)) (k := 32) K rfl K K (elem_cell (e := (ePair (eInt .i64) (ePair eStr (ePair eStr (eInt .i64))))) (rdt_cells (rowT_rd (SP.get hs22679 (i := 6) rfl)) hA22683 hp22659 hq22660) hx22661 (j := 2) rfl) ?_
               exact ⟨rfl, _, updO_known hkn, rfl⟩
             ·exact Owe.run K [(12, (pt g18294 0)), (112, (.bool true))] ⟨gS K K, gB 27 K (z21348.2.2.2.2.1 == 131) K hb22657, trivial⟩ (pt g18294 8) (fun _ _ => K) rfl
             ·refine Owe.light K [0] K (all_cons ?_ all_nil)
              ·rintro ρ' w' hs hah ⟨hvl22685, hs22684⟩
               have e118 := hah 33 118 K
               have e112 := hah 27 112 K
               have hkn : Known ρ' [(118, (pt g18294 8)), (112, (.bool true))] := ⟨e118, (Eq.trans e112 (congrArg Value.bool hb22657)), trivial⟩
               refine Step.known _ hkn ?_
               refine Step.load (t := 9) (x := (.tmp 118)) (g := g18294) (off := 8) (i := 3) (v := (.string ⟨List.toArray x18285.2.2.2.2.2.2.2.2⟩)) (d := (some 119)) (k := 34) K rfl K hs22684 rfl K ?_
               exact ⟨rfl, _, updO_known hkn, rfl⟩
             ·refine Owe.light K [0] K (all_cons ?_ all_nil)
              ·rintro ρ' w' hs hah ⟨hvl22687, hs22686⟩
               have e117 := hah 32 117 K
               have e119 := hah 34 119 K
               have e112 := hah 27 112 K
               have hkn : Known ρ' [(117, (.string ⟨List.toArray x22658.2.2.1⟩)), (119, (.string ⟨List.toArray x18285.2.2.2.2.2.2.2.2⟩)), (112, (.bool true))] := ⟨e117, e119, (Eq.trans e112 (congrArg Value.bool hb22657)), trivial⟩
               refine Step.known _ hkn ?_
               refine Step.strOp (op := .eql) (T := 9) (T' := 9) (x := (.tmp 117)) (y := (.tmp 119)) (a := x22658.2.2.1) (b := x18285.2.2.2.2.2.2.2.2) (r := (.bool (x22658.2.2.1 == x18285.2.2.2.2.2.2.2.2))) (d := (some 120)) (k := 35) K rfl K K rfl ?_
               exact ⟨rfl, _, updO_known hkn, rfl⟩
             ·exact Owe.run K [(112, (.bool true)), (120, (.bool (x22658.2.2.1 == x18285.2.2.2.2.2.2.2.2))), (109, (.bool false))] ⟨gB 27 K (z21348.2.2.2.2.1 == 131) K hb22657, gA 35 K K, gA 24 K K, trivial⟩ (.bool (x22658.2.2.1 == x18285.2.2.2.2.2.2.2.2)) (fun _ _ => K) rfl
             ·exact Owe.run K [(109, (.bool false)), (121, (.bool (x22658.2.2.1 == x18285.2.2.2.2.2.2.2.2)))] ⟨gA 24 K K, gA 36 K K, trivial⟩ (.bool (x22658.2.2.1 == x18285.2.2.2.2.2.2.2.2)) (fun _ _ => K) rfl
             ·rintro ρ' w' hs hf ⟨hvl22689, hs22688⟩
              refine postKnown [(1, (.slice A3 (List.length p2) c4)), (5, (.bool z6)), (6, (pt g16 0)), (7, (.slice A12206 (List.length v12208) c12207)), (8, (.slice A12209 (List.length v12211) c12210)), (9, (.slice A12212 (List.length v12214) c12213)), (10, (.int .i64 v12215)), (11, (.int .i64 v12216)), (15, (.int .i64 z21348.2.2.2.2.1)), (16, (.int .i64 v21810)), (122, (.bool (x22658.2.2.1 == x18285.2.2.2.2.2.2.2.2)))] ⟨(hs 1 K).trans K, (hs 5 K).trans K, (hs 6 K).trans K, (hs 7 K).trans K, (hs 8 K).trans K, (hs 9 K).trans K, (hs 10 K).trans K, (hs 11 K).trans K, (hs 15 K).trans K, (hs 16 K).trans K, hf 37 122 K, trivial⟩ ?_
              obtain ⟨w22690, hww22690⟩ : ∃ x, w' = x := ⟨_, rfl⟩
              rw [hww22690] at hs22688 ⊢
              exact ⟨(x22658.2.2.1 == x18285.2.2.2.2.2.2.2.2), ⟨K, K, K, K, K, K, K, K, K, K, K, trivial⟩, SP.sel hs22688 [0, 1, 2, 5, 6, 7] rfl rfl, H⟩
            ·have H := cf H hb22657
             refine At.stages K K K K K [GEq (.int .i64 z21348.2.2.2.2.1), GEq (.bool (z21348.2.2.2.2.1 == 151)), GEq (.int .i64 v21810), GEq (.bool (decide (v21810 < 0))), GEq (.bool (!((z21348.2.2.2.2.1 == 151) == (decide (v21810 < 0))))), GEq (.bool (!((z21348.2.2.2.2.1 == 151) == (decide (v21810 < 0))))), GEq (.int .i64 z21348.2.2.2.2.1), GEq (.bool (z21348.2.2.2.2.1 == 0)), GEq (.bool (z21348.2.2.2.2.1 == 0)), GEq undef, GEq undef, GEq undef, GEq undef, GEq undef, GEq undef, GEq undef, GEq undef, GEq undef, GEq undef, GEq undef, GEq undef, GEq undef, GEq (.bool false), GEq (.bool false), GEq (.bool false), GEq (.int .i64 z21348.2.2.2.2.1), GEq (.bool (z21348.2.2.2.2.1 == 131)), GEq (.bool (z21348.2.2.2.2.1 == 131)), GEq undef, GEq undef, GEq undef, GEq undef, GEq undef, GEq undef, GEq undef, GEq undef, GEq (.bool false), GEq (.bool false)] [] [([], fun vs w => VL vs [] ∧ SP [] w0 w [rdE eU8 A21352 c21353 z21348.2.2.2.2.2.1, rowT 59 (ePair (eInt .i64) (ePair eStr (ePair eStr (ePair (eInt .i64) eStr)))) A21354 c21355 z21348.2.2.2.2.2.2.2, boxE g16 56 #[(.slice A21352 (List.length z21348.2.2.2.2.2.1) c21353), (.int .i64 z21348.2.2.2.2.2.2.1), (.slice A21354 (List.length z21348.2.2.2.2.2.2.2) c21355)], boxE g18294 33 #[(.int .i64 x18285.1), (.int .i64 x18285.2.1), (.string ⟨List.toArray x18285.2.2.1⟩), (.string ⟨List.toArray x18285.2.2.2.1⟩), (.int .i64 x18285.2.2.2.2.1), (.string ⟨List.toArray x18285.2.2.2.2.2.1⟩), (.int .i64 x18285.2.2.2.2.2.2.1), (.string ⟨List.toArray x18285.2.2.2.2.2.2.2.1⟩), (.string ⟨List.toArray x18285.2.2.2.2.2.2.2.2⟩)], boxE g21358 31 #[(.int .i64 z21348.1), (.string ⟨List.toArray z21348.2.1⟩), (.string ⟨List.toArray z21348.2.2.1⟩), (.int .i64 z21348.2.2.2.1)], rowT 9 eStr A12206 c12207 v12208, rowT 31 (ePair (eInt .i64) (ePair eStr (ePair eStr (eInt .i64)))) A12209 c12210 v12211, rowT 4 eBool A12212 c12213 v12214])] (N := 38) K ⟨K, Nat.zero_lt_succ _⟩ (show VL [] [] ∧ SP [] w0 w21808.drew [rdE eU8 A21352 c21353 z21348.2.2.2.2.2.1, rowT 59 (ePair (eInt .i64) (ePair eStr (ePair eStr (ePair (eInt .i64) eStr)))) A21354 c21355 z21348.2.2.2.2.2.2.2, boxE g16 56 #[(.slice A21352 (List.length z21348.2.2.2.2.2.1) c21353), (.int .i64 z21348.2.2.2.2.2.2.1), (.slice A21354 (List.length z21348.2.2.2.2.2.2.2) c21355)], boxE g18294 33 #[(.int .i64 x18285.1), (.int .i64 x18285.2.1), (.string ⟨List.toArray x18285.2.2.1⟩), (.string ⟨List.toArray x18285.2.2.2.1⟩), (.int .i64 x18285.2.2.2.2.1), (.string ⟨List.toArray x18285.2.2.2.2.2.1⟩), (.int .i64 x18285.2.2.2.2.2.2.1), (.string ⟨List.toArray x18285.2.2.2.2.2.2.2.1⟩), (.string ⟨List.toArray x18285.2.2.2.2.2.2.2.2⟩)], boxE g21358 31 #[(.int .i64 z21348.1), (.string ⟨List.toArray z21348.2.1⟩), (.string ⟨List.toArray z21348.2.2.1⟩), (.int .i64 z21348.2.2.2.1)], rowT 9 eStr A12206 c12207 v12208, rowT 31 (ePair (eInt .i64) (ePair eStr (ePair eStr (eInt .i64)))) A12209 c12210 v12211, rowT 4 eBool A12212 c12213 v12214] from ⟨trivial, SP.drew hs21809⟩) ⟨⟨⟨⟨⟨⟨⟨⟨⟨⟨⟨⟨⟨⟨⟨⟨⟨⟨⟨⟨⟨⟨⟨⟨⟨⟨⟨⟨⟨⟨⟨⟨⟨⟨⟨⟨⟨⟨trivial, ?_⟩, ?_⟩, ?_⟩, ?_⟩, ?_⟩, ?_⟩, ?_⟩, ?_⟩, ?_⟩, ?_⟩, ?_⟩, ?_⟩, ?_⟩, ?_⟩, ?_⟩, ?_⟩, ?_⟩, ?_⟩, ?_⟩, ?_⟩, ?_⟩, ?_⟩, ?_⟩, ?_⟩, ?_⟩, ?_⟩, ?_⟩, ?_⟩, ?_⟩, ?_⟩, ?_⟩, ?_⟩, ?_⟩, ?_⟩, ?_⟩, ?_⟩, ?_⟩, ?_⟩ (last := 0) K ?_
             ·exact Owe.run K [(15, (.int .i64 z21348.2.2.2.2.1))] ⟨gS K K, trivial⟩ (.int .i64 z21348.2.2.2.2.1) (fun _ _ => K) rfl
             ·exact Owe.run K [(85, (.int .i64 z21348.2.2.2.2.1))] ⟨gA 0 K K, trivial⟩ (.bool (z21348.2.2.2.2.1 == 151)) (fun _ _ => K) rfl
             ·exact Owe.run K [(16, (.int .i64 v21810))] ⟨gS K K, trivial⟩ (.int .i64 v21810) (fun _ _ => K) rfl
             ·exact Owe.run K [(87, (.int .i64 v21810))] ⟨gA 2 K K, trivial⟩ (.bool (decide (v21810 < 0))) (fun _ _ => K) rfl
             ·exact Owe.run K [(86, (.bool (z21348.2.2.2.2.1 == 151))), (88, (.bool (decide (v21810 < 0))))] ⟨gA 1 K K, gA 3 K K, trivial⟩ (.bool (!((z21348.2.2.2.2.1 == 151) == (decide (v21810 < 0))))) (fun _ _ => K) rfl
             ·exact Owe.run K [(89, (.bool (!((z21348.2.2.2.2.1 == 151) == (decide (v21810 < 0))))))] ⟨gA 4 K K, trivial⟩ (.bool (!((z21348.2.2.2.2.1 == 151) == (decide (v21810 < 0))))) (fun _ _ => K) rfl
             ·exact Owe.run K [(15, (.int .i64 z21348.2.2.2.2.1)), (90, (.bool false))] ⟨gS K K, gB 5 K (!((z21348.2.2.2.2.1 == 151) == (decide (v21810 < 0)))) K hb22516, trivial⟩ (.int .i64 z21348.2.2.2.2.1) (fun _ _ => K) rfl
             ·exact Owe.run K [(91, (.int .i64 z21348.2.2.2.2.1)), (90, (.bool false))] ⟨gA 6 K K, gB 5 K (!((z21348.2.2.2.2.1 == 151) == (decide (v21810 < 0)))) K hb22516, trivial⟩ (.bool (z21348.2.2.2.2.1 == 0)) (fun _ _ => K) rfl
             ·exact Owe.run K [(92, (.bool (z21348.2.2.2.2.1 == 0))), (90, (.bool false))] ⟨gA 7 K K, gB 5 K (!((z21348.2.2.2.2.1 == 151) == (decide (v21810 < 0)))) K hb22516, trivial⟩ (.bool (z21348.2.2.2.2.1 == 0)) (fun _ _ => K) rfl
             ·exact Owe.skip K [(93, (.bool false))] ⟨gB 8 K (z21348.2.2.2.2.1 == 0) K hb22520, trivial⟩ (some 94) (fun _ => K) K rfl
             ·exact Owe.skip K [(93, (.bool false))] ⟨gB 8 K (z21348.2.2.2.2.1 == 0) K hb22520, trivial⟩ (some 95) (fun _ => K) K rfl
             ·exact Owe.skip K [(93, (.bool false))] ⟨gB 8 K (z21348.2.2.2.2.1 == 0) K hb22520, trivial⟩ (some 96) (fun _ => K) K rfl
             ·exact Owe.skip K [(93, (.bool false))] ⟨gB 8 K (z21348.2.2.2.2.1 == 0) K hb22520, trivial⟩ (some 97) (fun _ => K) K rfl
             ·exact Owe.skip K [(93, (.bool false))] ⟨gB 8 K (z21348.2.2.2.2.1 == 0) K hb22520, trivial⟩ (some 98) (fun _ => K) K rfl
             ·exact Owe.skip K [(93, (.bool false))] ⟨gB 8 K (z21348.2.2.2.2.1 == 0) K hb22520, trivial⟩ (some 99) (fun _ => K) K rfl
             ·exact Owe.skip K [(93, (.bool false))] ⟨gB 8 K (z21348.2.2.2.2.1 == 0) K hb22520, trivial⟩ (some 100) (fun _ => K) K rfl
             ·exact Owe.skip K [(100, undef)] ⟨gA 15 K K, trivial⟩ (some 101) (fun _ => K) K rfl
             ·exact Owe.skip K [(100, undef)] ⟨gA 15 K K, trivial⟩ (some 102) (fun _ => K) K rfl
             ·exact Owe.skip K [(100, undef)] ⟨gA 15 K K, trivial⟩ (some 103) (fun _ => K) K rfl
             ·exact Owe.skip K [(100, undef)] ⟨gA 15 K K, trivial⟩ (some 104) (fun _ => K) K rfl
             ·exact Owe.skip K [(100, undef)] ⟨gA 15 K K, trivial⟩ (some 105) (fun _ => K) K rfl
             ·exact Owe.skip K [(93, (.bool false))] ⟨gB 8 K (z21348.2.2.2.2.1 == 0) K hb22520, trivial⟩ (some 106) (fun _ => K) K rfl
             ·exact Owe.run K [(93, (.bool false)), (106, undef), (90, (.bool false))] ⟨gB 8 K (z21348.2.2.2.2.1 == 0) K hb22520, gA 21 K K, gB 5 K (!((z21348.2.2.2.2.1 == 151) == (decide (v21810 < 0)))) K hb22516, trivial⟩ (.bool false) (fun _ _ => K) rfl
             ·exact Owe.run K [(90, (.bool false)), (107, (.bool false))] ⟨gB 5 K (!((z21348.2.2.2.2.1 == 151) == (decide (v21810 < 0)))) K hb22516, gA 22 K K, trivial⟩ (.bool false) (fun _ _ => K) rfl
             ·exact Owe.run K [(108, (.bool false))] ⟨gA 23 K K, trivial⟩ (.bool false) (fun _ _ => K) rfl
             ·exact Owe.run K [(15, (.int .i64 z21348.2.2.2.2.1)), (109, (.bool false))] ⟨gS K K, gA 24 K K, trivial⟩ (.int .i64 z21348.2.2.2.2.1) (fun _ _ => K) rfl
             ·exact Owe.run K [(110, (.int .i64 z21348.2.2.2.2.1)), (109, (.bool false))] ⟨gA 25 K K, gA 24 K K, trivial⟩ (.bool (z21348.2.2.2.2.1 == 131)) (fun _ _ => K) rfl
             ·exact Owe.run K [(111, (.bool (z21348.2.2.2.2.1 == 131))), (109, (.bool false))] ⟨gA 26 K K, gA 24 K K, trivial⟩ (.bool (z21348.2.2.2.2.1 == 131)) (fun _ _ => K) rfl
             ·exact Owe.skip K [(112, (.bool false))] ⟨gB 27 K (z21348.2.2.2.2.1 == 131) K hb22657, trivial⟩ (some 113) (fun _ => K) K rfl
             ·exact Owe.skip K [(112, (.bool false))] ⟨gB 27 K (z21348.2.2.2.2.1 == 131) K hb22657, trivial⟩ (some 114) (fun _ => K) K rfl
             ·exact Owe.skip K [(112, (.bool false))] ⟨gB 27 K (z21348.2.2.2.2.1 == 131) K hb22657, trivial⟩ (some 115) (fun _ => K) K rfl
             ·exact Owe.skip K [(112, (.bool false))] ⟨gB 27 K (z21348.2.2.2.2.1 == 131) K hb22657, trivial⟩ (some 116) (fun _ => K) K rfl
             ·exact Owe.skip K [(112, (.bool false))] ⟨gB 27 K (z21348.2.2.2.2.1 == 131) K hb22657, trivial⟩ (some 117) (fun _ => K) K rfl
             ·exact Owe.skip K [(112, (.bool false))] ⟨gB 27 K (z21348.2.2.2.2.1 == 131) K hb22657, trivial⟩ (some 118) (fun _ => K) K rfl
             ·exact Owe.skip K [(112, (.bool false))] ⟨gB 27 K (z21348.2.2.2.2.1 == 131) K hb22657, trivial⟩ (some 119) (fun _ => K) K rfl
             ·exact Owe.skip K [(112, (.bool false))] ⟨gB 27 K (z21348.2.2.2.2.1 == 131) K hb22657, trivial⟩ (some 120) (fun _ => K) K rfl
             ·exact Owe.run K [(112, (.bool false)), (120, undef), (109, (.bool false))] ⟨gB 27 K (z21348.2.2.2.2.1 == 131) K hb22657, gA 35 K K, gA 24 K K, trivial⟩ (.bool false) (fun _ _ => K) rfl
             ·exact Owe.run K [(109, (.bool false)), (121, (.bool false))] ⟨gA 24 K K, gA 36 K K, trivial⟩ (.bool false) (fun _ _ => K) rfl
             ·rintro ρ' w' hs hf ⟨hvl22692, hs22691⟩
              refine postKnown [(1, (.slice A3 (List.length p2) c4)), (5, (.bool z6)), (6, (pt g16 0)), (7, (.slice A12206 (List.length v12208) c12207)), (8, (.slice A12209 (List.length v12211) c12210)), (9, (.slice A12212 (List.length v12214) c12213)), (10, (.int .i64 v12215)), (11, (.int .i64 v12216)), (15, (.int .i64 z21348.2.2.2.2.1)), (16, (.int .i64 v21810)), (122, (.bool false))] ⟨(hs 1 K).trans K, (hs 5 K).trans K, (hs 6 K).trans K, (hs 7 K).trans K, (hs 8 K).trans K, (hs 9 K).trans K, (hs 10 K).trans K, (hs 11 K).trans K, (hs 15 K).trans K, (hs 16 K).trans K, hf 37 122 K, trivial⟩ ?_
              obtain ⟨w22693, hww22693⟩ : ∃ x, w' = x := ⟨_, rfl⟩
              rw [hww22693] at hs22691 ⊢
              exact ⟨false, ⟨K, K, K, K, K, K, K, K, K, K, K, trivial⟩, SP.sel hs22691 [0, 1, 2, 5, 6, 7] rfl rfl, H⟩
         ·rintro ρ w22479 ⟨v22478, hk, hs22480, H⟩
          unfold L_subwaylaw15_TicketOnce_k256 at H
          first | refine At.known [(1, (.slice A3 (List.length p2) c4)), (5, (.bool z6)), (6, (pt g16 0)), (7, (.slice A12206 (List.length v12208) c12207)), (8, (.slice A12209 (List.length v12211) c12210)), (9, (.slice A12212 (List.length v12214) c12213)), (10, (.int .i64 v12215)), (11, (.int .i64 v12216)), (15, (.int .i64 z21348.2.2.2.2.1)), (16, (.int .i64 v21810)), (122, (.bool v22478))] hk ?_ | rw [← known_updL (l := [(1, (.slice A3 (List.length p2) c4)), (5, (.bool z6)), (6, (pt g16 0)), (7, (.slice A12206 (List.length v12208) c12207)), (8, (.slice A12209 (List.length v12211) c12210)), (9, (.slice A12212 (List.length v12214) c12213)), (10, (.int .i64 v12215)), (11, (.int .i64 v12216)), (15, (.int .i64 z21348.2.2.2.2.1)), (16, (.int .i64 v21810)), (122, (.bool v22478))]) hk]
          refine At.cd K (o := (.tmp 122)) K (b := v22478) K (fun hb22481 => ?_) (fun hb22481 => ?_)
          ·have H := ct H hb22481
           refine At.sq K ?_
           refine At.region K K ?_
           refine In.run' 1 (k' := 1) rfl [(4, (.bool false))] K ?_
           refine In.fin K ?_
           refine At.ret K ?_
           refine ⟨(.bool false), K, ?_⟩
           obtain rfl := some_elim H
           exact ⟨rfl, SP.sel hs22480 [] rfl rfl⟩
          ·have H := cf H hb22481
           refine At.skip K ?_
           refine At.sq K ?_
           refine At.region K K ?_
           refine In.run' 2 (k' := 2) rfl [(123, (.int .i64 z21348.2.2.2.2.1)), (124, (.bool (z21348.2.2.2.2.1 == 0)))] K ?_
           refine In.fin K ?_
           refine At.join (fun ρ w => ∃ (v22498 : (List Bool)) (v22499 : Int) (A22496 : Option Addr) (c22497 : Nat), Known ρ [(1, (.slice A3 (List.length p2) c4)), (5, (.bool z6)), (6, (pt g16 0)), (7, (.slice A12206 (List.length v12208) c12207)), (8, (.slice A12209 (List.length v12211) c12210)), (9, (.slice A22496 (List.length v22498) c22497)), (10, (.int .i64 v22499)), (11, (.int .i64 v12216))] ∧ SP [] w0 w [rdE eU8 A21352 c21353 z21348.2.2.2.2.2.1, rowT 59 (ePair (eInt .i64) (ePair eStr (ePair eStr (ePair (eInt .i64) eStr)))) A21354 c21355 z21348.2.2.2.2.2.2.2, boxE g16 56 #[(.slice A21352 (List.length z21348.2.2.2.2.2.1) c21353), (.int .i64 z21348.2.2.2.2.2.2.1), (.slice A21354 (List.length z21348.2.2.2.2.2.2.2) c21355)], rowT 9 eStr A12206 c12207 v12208, rowT 31 (ePair (eInt .i64) (ePair eStr (ePair eStr (eInt .i64)))) A12209 c12210 v12211, rowT 4 eBool A22496 c22497 v22498] ∧ L_subwaylaw15_TicketOnce_k257 (L_subwaylaw15_TicketOnce_l140 p2 z6 f209) (L_subwaylaw15_TicketOnce_l249 (L_subwaylaw15_TicketOnce_l140 p2 z6 f209) v12208 v12211 v12214 v12215 v12216 x18285 z21342 z21348 f253) v12208 v12211 v12216 z21348 v22498 v22499 = some r) ?_ ?_
           ·refine At.cd K (o := (.tmp 124)) K (b := (z21348.2.2.2.2.1 == 0)) K (fun hb22502 => ?_) (fun hb22502 => ?_)
            ·have H := ct H hb22502
             refine At.sq K ?_
             refine At.region K K ?_
             refine In.run' 2 (k' := 2) rfl [(125, (.slice A12212 (List.length v12214) c12213)), (126, (.int .i64 v21810))] K ?_
             obtain ⟨x22503, hp22504, hq22505, hx22506, H⟩ := idx_elim H
             refine In.step (k' := 3) rfl K ?_
             refine Step.elem (e := eBool) (l := v12214) (A := A12212) (c := c12213) (T := 47) (E := 4) (x := (.tmp 125)) (ix := (.tmp 126)) (ki := .i64) (iz := v21810) (d := (some 127)) (k := 2) K rfl K K K K (rowT_rd (SP.get hs22480 (i := 5) rfl)) hp22504 hq22505 ?_
             intro b22507 o22508 hA22510 hb22511 hc22509
             replace H := some_bind_elim H
             obtain ⟨l22512, hyl22512⟩ : ∃ y, (List.set v12214 (Int.toNat v21810) false) = y := ⟨_, rfl⟩
             rw [hyl22512] at H
             have hnl22512 : List.length l22512 = List.length v12214 := by rw [← hyl22512, List.length_set]
             refine In.step (k' := 4) rfl K ?_
             refine Step.storeElem (e := eBool) (t := 4) (E := 4) (x := (.tmp 127)) (y := (.const (.bool false))) (A := A12212) (c := c12213) (l := v12214) (iz := v21810) (b := b22507) (off := o22508) (i := 5) (v := (.bool false)) (x' := false) (d := none) (k := 3) K rfl K K hs22480 rfl hA22510 rfl hq22505 hp22504 rfl K ?_
             rw [hyl22512]
             intro w22513 (hs22515 : SP [] w0 w22513 [rdE eU8 A21352 c21353 z21348.2.2.2.2.2.1, rowT 59 (ePair (eInt .i64) (ePair eStr (ePair eStr (ePair (eInt .i64) eStr)))) A21354 c21355 z21348.2.2.2.2.2.2.2, boxE g16 56 #[(.slice A21352 (List.length z21348.2.2.2.2.2.1) c21353), (.int .i64 z21348.2.2.2.2.2.2.1), (.slice A21354 (List.length z21348.2.2.2.2.2.2.2) c21355)], rowT 9 eStr A12206 c12207 v12208, rowT 31 (ePair (eInt .i64) (ePair eStr (ePair eStr (eInt .i64)))) A12209 c12210 v12211, rowT 4 eBool A12212 c12213 l22512])
             refine In.known [(9, (.slice A12212 (List.length l22512) c12213)), (125, (.slice A12212 (List.length l22512) c12213))] ⟨(by rw [hnl22512]; kernel_rfl), (by rw [hnl22512]; kernel_rfl), trivial⟩ ?_
             refine In.fin K ?_
             refine At.region K K ?_
             refine In.run' 3 (k' := 3) rfl [(128, (.int .i64 v12215)), (129, (.int .i64 (IntKind.wrap .i64 (v12215 - 1)))), (10, (.int .i64 (IntKind.wrap .i64 (v12215 - 1))))] K ?_
             refine In.fin K ?_
             exact ⟨l22512, (IntKind.wrap .i64 (v12215 - 1)), A12212, c12213, ⟨K, K, K, K, K, K, K, K, trivial⟩, SP.sel hs22515 [0, 1, 2, 3, 4, 5] rfl rfl, H⟩
            ·have H := cf H hb22502
             refine At.skip K ?_
             exact ⟨v12214, v12215, A12212, c12213, ⟨K, K, K, K, K, K, K, K, trivial⟩, SP.sel hs22480 [0, 1, 2, 3, 4, 5] rfl rfl, H⟩
           ·rintro ρ w22500 ⟨v22498, v22499, A22496, c22497, hk, hs22501, H⟩
            unfold L_subwaylaw15_TicketOnce_k257 at H
            first | refine At.known [(1, (.slice A3 (List.length p2) c4)), (5, (.bool z6)), (6, (pt g16 0)), (7, (.slice A12206 (List.length v12208) c12207)), (8, (.slice A12209 (List.length v12211) c12210)), (9, (.slice A22496 (List.length v22498) c22497)), (10, (.int .i64 v22499)), (11, (.int .i64 v12216))] hk ?_ | rw [← known_updL (l := [(1, (.slice A3 (List.length p2) c4)), (5, (.bool z6)), (6, (pt g16 0)), (7, (.slice A12206 (List.length v12208) c12207)), (8, (.slice A12209 (List.length v12211) c12210)), (9, (.slice A22496 (List.length v22498) c22497)), (10, (.int .i64 v22499)), (11, (.int .i64 v12216))]) hk]
            exact ⟨z21348.2.2.2.2.2.1, z21348.2.2.2.2.2.2.1, z21348.2.2.2.2.2.2.2, v12208, v12211, v22498, v22499, A21352, c21353, A21354, c21355, A12206, c12207, A12209, c12210, A22496, c22497, ⟨K, K, K, K, K, K, K, K, trivial⟩, SP.sel hs22501 [0, 1, 2, 3, 4, 5] rfl rfl, H⟩
       ·exact ⟨(-1), (IntKind.wrap .i64 (((List.length v12208 : Nat) : Int) - 1)), ⟨K, K, K, K, K, K, K, K, K, K, K, K, K, K, trivial⟩, SP.sel hs21364 [5, 6, 4, 3, 7, 0, 1, 2] rfl rfl, H⟩
      ·have H := cf H hb21341
       refine At.sq K ?_
       refine At.region K K ?_
       refine In.run' 1 (k' := 1) rfl [(130, (pt g18294 0))] K ?_
       refine In.step (k' := 2) rfl K ?_
       refine Step.load (t := 3) (x := (.tmp 130)) (g := g18294) (off := 0) (i := 6) (v := (.int .i64 x18285.1)) (d := (some 131)) (k := 1) K rfl K hs18300 rfl K ?_
       refine In.run' 1 (k' := 3) rfl [(132, (.bool (x18285.1 == 3)))] K ?_
       refine In.fin K ?_
       refine At.join (fun ρ w => ∃ (v23515 : (List UInt8)) (v23516 : Int) (v23519 : (List (Int × (List UInt8) × (List UInt8) × Int × (List UInt8)))) (v23522 : (List (List UInt8))) (v23525 : (List (Int × (List UInt8) × (List UInt8) × Int))) (v23528 : (List Bool)) (v23529 : Int) (A23513 : Option Addr) (c23514 : Nat) (A23517 : Option Addr) (c23518 : Nat) (A23520 : Option Addr) (c23521 : Nat) (A23523 : Option Addr) (c23524 : Nat) (A23526 : Option Addr) (c23527 : Nat), Known ρ [(1, (.slice A3 (List.length p2) c4)), (5, (.bool z6)), (6, (pt g16 0)), (7, (.slice A23520 (List.length v23522) c23521)), (8, (.slice A23523 (List.length v23525) c23524)), (9, (.slice A23526 (List.length v23528) c23527)), (10, (.int .i64 v23529)), (11, (.int .i64 v12216))] ∧ SP [] w0 w [rdE eU8 A23513 c23514 v23515, rowT 59 (ePair (eInt .i64) (ePair eStr (ePair eStr (ePair (eInt .i64) eStr)))) A23517 c23518 v23519, boxE g16 56 #[(.slice A23513 (List.length v23515) c23514), (.int .i64 v23516), (.slice A23517 (List.length v23519) c23518)], rowT 9 eStr A23520 c23521 v23522, rowT 31 (ePair (eInt .i64) (ePair eStr (ePair eStr (eInt .i64)))) A23523 c23524 v23525, rowT 4 eBool A23526 c23527 v23528] ∧ L_subwaylaw15_TicketOnce_k268 (L_subwaylaw15_TicketOnce_l140 p2 z6 f209) v12216 v23515 v23516 v23519 v23522 v23525 v23528 v23529 = some r) ?_ ?_
       ·refine At.cd K (o := (.tmp 132)) K (b := (x18285.1 == 3)) K (fun hb23532 => ?_) (fun hb23532 => ?_)
        ·have H := ct H hb23532
         refine At.sq K ?_
         refine At.region K K ?_
         refine In.run' 3 (k' := 3) rfl [(133, (pt g16 0)), (134, (pt g18294 1)), (135, (pt g18294 1))] K ?_
         refine In.step (k' := 4) rfl K ?_
         refine Step.load (t := 3) (x := (.tmp 135)) (g := g18294) (off := 1) (i := 6) (v := (.int .i64 x18285.2.1)) (d := (some 136)) (k := 3) K rfl K hs18300 rfl K ?_
         obtain ⟨z23533, hz23534, H⟩ := bind_elim H
         refine In.step (k' := 5) rfl K ?_
         refine Step.callF (f := 16) (fo := (.func 16)) (xs := #[(.tmp 133), (.tmp 136)]) (tys := #[24, 3]) (first := #[]) (captured := #[]) (d := (some 137)) (k := 4) K rfl K K Tryd.call16 (L_ticket_Book_Void_walk g16 A12199 c12200 A12203 c12204 v12201 v12202 v12205 x18285.2.1 w18298 (SP.sub hs18300 [2, 0, 1] rfl rfl) z23533 hz23534) ?_
         rintro e w23535 ⟨A23537, c23538, A23539, c23540, rfl, hs23536⟩
         refine ⟨_, rfl, ?_⟩
         have hs23542 : SP [] w0 w23535 [rowT 9 eStr A12206 c12207 v12208, rowT 31 (ePair (eInt .i64) (ePair eStr (ePair eStr (eInt .i64)))) A12209 c12210 v12211, rowT 4 eBool A12212 c12213 v12214, boxE g18294 33 #[(.int .i64 x18285.1), (.int .i64 x18285.2.1), (.string ⟨List.toArray x18285.2.2.1⟩), (.string ⟨List.toArray x18285.2.2.2.1⟩), (.int .i64 x18285.2.2.2.2.1), (.string ⟨List.toArray x18285.2.2.2.2.2.1⟩), (.int .i64 x18285.2.2.2.2.2.2.1), (.string ⟨List.toArray x18285.2.2.2.2.2.2.2.1⟩), (.string ⟨List.toArray x18285.2.2.2.2.2.2.2.2⟩)], boxE g16 56 #[(.slice A23537 (List.length z23533.2.1) c23538), (.int .i64 z23533.2.2.1), (.slice A23539 (List.length z23533.2.2.2) c23540)], rdE eU8 A23537 c23538 z23533.2.1, rowT 59 (ePair (eInt .i64) (ePair eStr (ePair eStr (ePair (eInt .i64) eStr)))) A23539 c23540 z23533.2.2.2] := SP.callS hs18300 [2, 0, 1] [3, 4, 5, 6] rfl rfl hs23536 rfl
         clear hs23536
         refine In.run' 1 (k' := 6) rfl [(18, (.bool z23533.1))] K ?_
         refine In.fin K ?_
         refine At.sq K ?_
         refine At.region K K ?_
         refine In.run' 1 (k' := 1) rfl [(19, (.int .i64 0))] K ?_
         refine In.fin K ?_
         refine At.bk K (id := 4) K ?_
         refine At.lp K (fun f275 ρ w => ∃ (v23906 : (List Bool)) (v23907 : Int) (v23908 : Int) (A23904 : Option Addr) (c23905 : Nat), Known ρ [(1, (.slice A3 (List.length p2) c4)), (5, (.bool z6)), (6, (pt g16 0)), (7, (.slice A12206 (List.length v12208) c12207)), (8, (.slice A12209 (List.length v12211) c12210)), (9, (.slice A23904 (List.length v23906) c23905)), (10, (.int .i64 v23907)), (11, (.int .i64 v12216)), (12, (pt g18294 0)), (18, (.bool z23533.1)), (19, (.int .i64 v23908))] ∧ SP [] w0 w [rdE eU8 A23537 c23538 z23533.2.1, rowT 59 (ePair (eInt .i64) (ePair eStr (ePair eStr (ePair (eInt .i64) eStr)))) A23539 c23540 z23533.2.2.2, boxE g16 56 #[(.slice A23537 (List.length z23533.2.1) c23538), (.int .i64 z23533.2.2.1), (.slice A23539 (List.length z23533.2.2.2) c23540)], boxE g18294 33 #[(.int .i64 x18285.1), (.int .i64 x18285.2.1), (.string ⟨List.toArray x18285.2.2.1⟩), (.string ⟨List.toArray x18285.2.2.2.1⟩), (.int .i64 x18285.2.2.2.2.1), (.string ⟨List.toArray x18285.2.2.2.2.2.1⟩), (.int .i64 x18285.2.2.2.2.2.2.1), (.string ⟨List.toArray x18285.2.2.2.2.2.2.2.1⟩), (.string ⟨List.toArray x18285.2.2.2.2.2.2.2.2⟩)], rowT 9 eStr A12206 c12207 v12208, rowT 31 (ePair (eInt .i64) (ePair eStr (ePair eStr (eInt .i64)))) A12209 c12210 v12211, rowT 4 eBool A23904 c23905 v23906] ∧ L_subwaylaw15_TicketOnce_l273 (L_subwaylaw15_TicketOnce_l140 p2 z6 f209) v12208 v12211 v12216 x18285 z23533 f275 v23906 v23907 v23908 = some r) (by rintro ρ w ⟨v23906, v23907, v23908, A23904, c23905, hk, hs, H⟩; cases H) ?_ fuel ?_
         ·rintro f275 ρ w23902 ⟨v23906, v23907, v23908, A23904, c23905, hk, hs23903, H⟩
          refine At.known [(1, (.slice A3 (List.length p2) c4)), (5, (.bool z6)), (6, (pt g16 0)), (7, (.slice A12206 (List.length v12208) c12207)), (8, (.slice A12209 (List.length v12211) c12210)), (9, (.slice A23904 (List.length v23906) c23905)), (10, (.int .i64 v23907)), (11, (.int .i64 v12216)), (12, (pt g18294 0)), (18, (.bool z23533.1)), (19, (.int .i64 v23908))] hk ?_
          replace H := (show L_subwaylaw15_TicketOnce_b273 (L_subwaylaw15_TicketOnce_l140 p2 z6 f209) (L_subwaylaw15_TicketOnce_l273 (L_subwaylaw15_TicketOnce_l140 p2 z6 f209) v12208 v12211 v12216 x18285 z23533 f275) v12208 v12211 v12216 x18285 z23533 v23906 v23907 v23908 = some r from H)
          unfold L_subwaylaw15_TicketOnce_b273 at H
          refine At.sq K ?_
          refine At.sq K ?_
          refine At.region K K ?_
          refine In.run' 4 (k' := 4) rfl [(138, (.int .i64 v23908)), (139, (.slice A12206 (List.length v12208) c12207)), (140, (.int .i64 ((List.length v12208 : Nat) : Int))), (141, (.bool (decide (v23908 < ((List.length v12208 : Nat) : Int)))))] K ?_
          refine In.fin K ?_
          refine At.cd K (o := (.tmp 141)) K (b := (decide (v23908 < ((List.length v12208 : Nat) : Int)))) K (fun hb24085 => ?_) (fun hb24085 => ?_)
          ·have H := ct H hb24085
           refine At.skip K ?_
           refine At.sq K ?_
           refine At.bk K (id := 5) K ?_
           refine At.sq K ?_
           refine At.join (fun ρ w => ∃ (v24154 : Bool), Known ρ [(1, (.slice A3 (List.length p2) c4)), (5, (.bool z6)), (6, (pt g16 0)), (7, (.slice A12206 (List.length v12208) c12207)), (8, (.slice A12209 (List.length v12211) c12210)), (9, (.slice A23904 (List.length v23906) c23905)), (10, (.int .i64 v23907)), (11, (.int .i64 v12216)), (12, (pt g18294 0)), (18, (.bool z23533.1)), (19, (.int .i64 v23908)), (158, (.bool v24154))] ∧ SP [] w0 w [rdE eU8 A23537 c23538 z23533.2.1, rowT 59 (ePair (eInt .i64) (ePair eStr (ePair eStr (ePair (eInt .i64) eStr)))) A23539 c23540 z23533.2.2.2, boxE g16 56 #[(.slice A23537 (List.length z23533.2.1) c23538), (.int .i64 z23533.2.2.1), (.slice A23539 (List.length z23533.2.2.2) c23540)], boxE g18294 33 #[(.int .i64 x18285.1), (.int .i64 x18285.2.1), (.string ⟨List.toArray x18285.2.2.1⟩), (.string ⟨List.toArray x18285.2.2.2.1⟩), (.int .i64 x18285.2.2.2.2.1), (.string ⟨List.toArray x18285.2.2.2.2.2.1⟩), (.int .i64 x18285.2.2.2.2.2.2.1), (.string ⟨List.toArray x18285.2.2.2.2.2.2.2.1⟩), (.string ⟨List.toArray x18285.2.2.2.2.2.2.2.2⟩)], rowT 9 eStr A12206 c12207 v12208, rowT 31 (ePair (eInt .i64) (ePair eStr (ePair eStr (eInt .i64)))) A12209 c12210 v12211, rowT 4 eBool A23904 c23905 v23906] ∧ L_subwaylaw15_TicketOnce_k276 (L_subwaylaw15_TicketOnce_l140 p2 z6 f209) (L_subwaylaw15_TicketOnce_l273 (L_subwaylaw15_TicketOnce_l140 p2 z6 f209) v12208 v12211 v12216 x18285 z23533 f275) z23533 v23906 v23907 v23908 v24154 = some r) ?_ ?_
           ·obtain ⟨x24193, hp24194, hq24195, hx24196, H⟩ := idx_elim H
            rcases Bool.eq_false_or_eq_true x24193 with hb24202 | hb24202
            ·have H := ct H hb24202
             obtain ⟨x24203, hp24204, hq24205, hx24206, H⟩ := idx_elim H
             refine At.stages K K K K K [GEq (.slice A23904 (List.length v23906) c23905), GEq (.int .i64 v23908), GElem0 A23904 eBool.sz v23908, GEq (.bool x24193), GEq (.bool x24193), GEq (.slice A12209 (List.length v12211) c12210), GEq (.int .i64 v23908), GElem0 A12209 (ePair (eInt .i64) (ePair eStr (ePair eStr (eInt .i64)))).sz v23908, GElem0 A12209 (ePair (eInt .i64) (ePair eStr (ePair eStr (eInt .i64)))).sz v23908, GEq (.int .i64 x24203.1), GEq (pt g18294 1), GEq (pt g18294 1), GEq (.int .i64 x18285.2.1), GEq (.bool (x24203.1 == x18285.2.1)), GEq (.bool (x24203.1 == x18285.2.1))] [] [([], fun vs w => VL vs [] ∧ SP [] w0 w [rdE eU8 A23537 c23538 z23533.2.1, rowT 59 (ePair (eInt .i64) (ePair eStr (ePair eStr (ePair (eInt .i64) eStr)))) A23539 c23540 z23533.2.2.2, boxE g16 56 #[(.slice A23537 (List.length z23533.2.1) c23538), (.int .i64 z23533.2.2.1), (.slice A23539 (List.length z23533.2.2.2) c23540)], boxE g18294 33 #[(.int .i64 x18285.1), (.int .i64 x18285.2.1), (.string ⟨List.toArray x18285.2.2.1⟩), (.string ⟨List.toArray x18285.2.2.2.1⟩), (.int .i64 x18285.2.2.2.2.1), (.string ⟨List.toArray x18285.2.2.2.2.2.1⟩), (.int .i64 x18285.2.2.2.2.2.2.1), (.string ⟨List.toArray x18285.2.2.2.2.2.2.2.1⟩), (.string ⟨List.toArray x18285.2.2.2.2.2.2.2.2⟩)], rowT 9 eStr A12206 c12207 v12208, rowT 31 (ePair (eInt .i64) (ePair eStr (ePair eStr (eInt .i64)))) A12209 c12210 v12211, rowT 4 eBool A23904 c23905 v23906])] (N := 15) K ⟨K, Nat.zero_lt_succ _⟩ (show VL [] [] ∧ SP [] w0 w23902.drew [rdE eU8 A23537 c23538 z23533.2.1, rowT 59 (ePair (eInt .i64) (ePair eStr (ePair eStr (ePair (eInt .i64) eStr)))) A23539 c23540 z23533.2.2.2, boxE g16 56 #[(.slice A23537 (List.length z23533.2.1) c23538), (.int .i64 z23533.2.2.1), (.slice A23539 (List.length z23533.2.2.2) c23540)], boxE g18294 33 #[(.int .i64 x18285.1), (.int .i64 x18285.2.1), (.string ⟨List.toArray x18285.2.2.1⟩), (.string ⟨List.toArray x18285.2.2.2.1⟩), (.int .i64 x18285.2.2.2.2.1), (.string ⟨List.toArray x18285.2.2.2.2.2.1⟩), (.int .i64 x18285.2.2.2.2.2.2.1), (.string ⟨List.toArray x18285.2.2.2.2.2.2.2.1⟩), (.string ⟨List.toArray x18285.2.2.2.2.2.2.2.2⟩)], rowT 9 eStr A12206 c12207 v12208, rowT 31 (ePair (eInt .i64) (ePair eStr (ePair eStr (eInt .i64)))) A12209 c12210 v12211, rowT 4 eBool A23904 c23905 v23906] from ⟨trivial, SP.drew hs23903⟩) ⟨⟨⟨⟨⟨⟨⟨⟨⟨⟨⟨⟨⟨⟨⟨trivial, ?_⟩, ?_⟩, ?_⟩, ?_⟩, ?_⟩, ?_⟩, ?_⟩, ?_⟩, ?_⟩, ?_⟩, ?_⟩, ?_⟩, ?_⟩, ?_⟩, ?_⟩ (last := 0) K ?_
             ·exact Owe.run K [(9, (.slice A23904 (List.length v23906) c23905))] ⟨gS K K, trivial⟩ (.slice A23904 (List.length v23906) c23905) (fun _ _ => K) rfl
             ·exact Owe.run K [(19, (.int .i64 v23908))] ⟨gS K K, trivial⟩ (.int .i64 v23908) (fun _ _ => K) rfl
             ·refine Owe.light K [0] K (all_cons ?_ all_nil)
              ·rintro ρ' w' hs hah ⟨hvl24213, hs24212⟩
               have hkn : Known ρ' [(144, (.slice A23904 (List.length v23906) c23905)), (145, (.int .i64 v23908))] := ⟨hah 0 144 K, hah 1 145 K, trivial⟩
               refine Step.known _ hkn ?_
               refine Step.elem (e := eBool) (l := v23906) (A := A23904) (c := c23905) (T := 47) (E := 4) (x := (.tmp 144)) (ix := (.tmp 145)) (ki := .i64) (iz := v23908) (d := (some 146)) (k := 2) K rfl K K K K (rowT_rd (SP.get hs24212 (i := 6) rfl)) hp24194 hq24195 ?_
               intro b24214 o24215 hA24217 hb24218 hc24216
               exact ⟨rfl, _, updO_known hkn, ⟨b24214, o24215, hA24217, rfl⟩⟩
             ·refine Owe.light K [0] K (all_cons ?_ all_nil)
              ·rintro ρ' w' hs hah ⟨hvl24220, hs24219⟩
               obtain ⟨b24221, o24222, hA24223, e146⟩ := hah 2 146 K
               have hkn : Known ρ' [(146, (.pointer (some ⟨b24221, (o24222 + Int.toNat v23908 * eBool.sz), none⟩)))] := ⟨e146, trivial⟩
               refine Step.known _ hkn ?_
               refine Step.cell (t := 4) (x := (.tmp 146)) (b := b24221) (off := (o24222 + Int.toNat v23908 * eBool.sz)) (v := (.bool x24193)) (d := (some 147)) (k := 3) K rfl K K (elem_cell (e := eBool) (rdt_cells (rowT_rd (SP.get hs24219 (i := 6) rfl)) hA24223 hp24194 hq24195) hx24196 (j := 0) rfl) ?_
               exact ⟨rfl, _, updO_known hkn, rfl⟩
             ·exact Owe.run K [(147, (.bool x24193))] ⟨gA 3 K K, trivial⟩ (.bool x24193) (fun _ _ => K) rfl
             ·exact Owe.run K [(8, (.slice A12209 (List.length v12211) c12210)), (148, (.bool true))] ⟨gS K K, gB 4 K x24193 K hb24202, trivial⟩ (.slice A12209 (List.length v12211) c12210) (fun _ _ => K) rfl
             ·exact Owe.run K [(19, (.int .i64 v23908)), (148, (.bool true))] ⟨gS K K, gB 4 K x24193 K hb24202, trivial⟩ (.int .i64 v23908) (fun _ _ => K) rfl
             ·refine Owe.light K [0] K (all_cons ?_ all_nil)
              ·rintro ρ' w' hs hah ⟨hvl24225, hs24224⟩
               have e149 := hah 5 149 K
               have e150 := hah 6 150 K
               have e148 := hah 4 148 K
               have hkn : Known ρ' [(149, (.slice A12209 (List.length v12211) c12210)), (150, (.int .i64 v23908)), (148, (.bool true))] := ⟨e149, e150, (Eq.trans e148 (congrArg Value.bool hb24202)), trivial⟩
               refine Step.known _ hkn ?_
               refine Step.elem (e := (ePair (eInt .i64) (ePair eStr (ePair eStr (eInt .i64))))) (l := v12211) (A := A12209) (c := c12210) (T := 46) (E := 31) (x := (.tmp 149)) (ix := (.tmp 150)) (ki := .i64) (iz := v23908) (d := (some 151)) (k := 7) K rfl K K K K (rowT_rd (SP.get hs24224 (i := 5) rfl)) hp24204 hq24205 ?_
               intro b24226 o24227 hA24229 hb24230 hc24228
               exact ⟨rfl, _, updO_known hkn, ⟨b24226, o24227, hA24229, rfl⟩⟩
             ·refine Owe.light K [0] K (all_cons ?_ all_nil)
              ·rintro ρ' w' hs hah ⟨hvl24232, hs24231⟩
               obtain ⟨b24233, o24234, hA24235, e151⟩ := hah 7 151 K
               have e148 := hah 4 148 K
               have hkn : Known ρ' [(151, (.pointer (some ⟨b24233, (o24234 + Int.toNat v23908 * (ePair (eInt .i64) (ePair eStr (ePair eStr (eInt .i64)))).sz), none⟩))), (148, (.bool true))] := ⟨e151, (Eq.trans e148 (congrArg Value.bool hb24202)), trivial⟩
               refine Step.known _ hkn ?_
               refine Step.run (k := 8) (v := (.pointer (some ⟨b24233, (o24234 + Int.toNat v23908 * (ePair (eInt .i64) (ePair eStr (ePair eStr (eInt .i64)))).sz), none⟩))) K ?_
               exact ⟨rfl, _, updO_known hkn, ⟨b24233, o24234, hA24235, rfl⟩⟩
             ·refine Owe.light K [0] K (all_cons ?_ all_nil)
              ·rintro ρ' w' hs hah ⟨hvl24237, hs24236⟩
               obtain ⟨b24238, o24239, hA24240, e152⟩ := hah 8 152 K
               have e148 := hah 4 148 K
               have hkn : Known ρ' [(152, (.pointer (some ⟨b24238, (o24239 + Int.toNat v23908 * (ePair (eInt .i64) (ePair eStr (ePair eStr (eInt .i64)))).sz), none⟩))), (148, (.bool true))] := ⟨e152, (Eq.trans e148 (congrArg Value.bool hb24202)), trivial⟩
               refine Step.known _ hkn ?_
               refine Step.cell (t := 3) (x := (.tmp 152)) (b := b24238) (off := (o24239 + Int.toNat v23908 * (ePair (eInt .i64) (ePair eStr (ePair eStr (eInt .i64)))).sz)) (v := (.int .i64 x24203.1)) (d := (some 153)) (k := 9) K rfl K K (elem_cell (e := (ePair (eInt .i64) (ePair eStr (ePair eStr (eInt .i64))))) (rdt_cells (rowT_rd (SP.get hs24236 (i := 5) rfl)) hA24240 hp24204 hq24205) hx24206 (j := 0) rfl) ?_
               exact ⟨rfl, _, updO_known hkn, rfl⟩
             ·exact Owe.run K [(12, (pt g18294 0)), (148, (.bool true))] ⟨gS K K, gB 4 K x24193 K hb24202, trivial⟩ (pt g18294 1) (fun _ _ => K) rfl
             ·exact Owe.run K [(154, (pt g18294 1)), (148, (.bool true))] ⟨gA 10 K K, gB 4 K x24193 K hb24202, trivial⟩ (pt g18294 1) (fun _ _ => K) rfl
             ·refine Owe.light K [0] K (all_cons ?_ all_nil)
              ·rintro ρ' w' hs hah ⟨hvl24242, hs24241⟩
               have e155 := hah 11 155 K
               have e148 := hah 4 148 K
               have hkn : Known ρ' [(155, (pt g18294 1)), (148, (.bool true))] := ⟨e155, (Eq.trans e148 (congrArg Value.bool hb24202)), trivial⟩
               refine Step.known _ hkn ?_
               refine Step.load (t := 3) (x := (.tmp 155)) (g := g18294) (off := 1) (i := 3) (v := (.int .i64 x18285.2.1)) (d := (some 156)) (k := 12) K rfl K hs24241 rfl K ?_
               exact ⟨rfl, _, updO_known hkn, rfl⟩
             ·exact Owe.run K [(153, (.int .i64 x24203.1)), (156, (.int .i64 x18285.2.1)), (148, (.bool true))] ⟨gA 9 K K, gA 12 K K, gB 4 K x24193 K hb24202, trivial⟩ (.bool (x24203.1 == x18285.2.1)) (fun _ _ => K) rfl
             ·exact Owe.run K [(148, (.bool true)), (157, (.bool (x24203.1 == x18285.2.1)))] ⟨gB 4 K x24193 K hb24202, gA 13 K K, trivial⟩ (.bool (x24203.1 == x18285.2.1)) (fun _ _ => K) rfl
             ·rintro ρ' w' hs hf ⟨hvl24244, hs24243⟩
              refine postKnown [(1, (.slice A3 (List.length p2) c4)), (5, (.bool z6)), (6, (pt g16 0)), (7, (.slice A12206 (List.length v12208) c12207)), (8, (.slice A12209 (List.length v12211) c12210)), (9, (.slice A23904 (List.length v23906) c23905)), (10, (.int .i64 v23907)), (11, (.int .i64 v12216)), (12, (pt g18294 0)), (18, (.bool z23533.1)), (19, (.int .i64 v23908)), (158, (.bool (x24203.1 == x18285.2.1)))] ⟨(hs 1 K).trans K, (hs 5 K).trans K, (hs 6 K).trans K, (hs 7 K).trans K, (hs 8 K).trans K, (hs 9 K).trans K, (hs 10 K).trans K, (hs 11 K).trans K, (hs 12 K).trans K, (hs 18 K).trans K, (hs 19 K).trans K, hf 14 158 K, trivial⟩ ?_
              obtain ⟨w24245, hww24245⟩ : ∃ x, w' = x := ⟨_, rfl⟩
              rw [hww24245] at hs24243 ⊢
              exact ⟨(x24203.1 == x18285.2.1), ⟨K, K, K, K, K, K, K, K, K, K, K, K, trivial⟩, SP.sel hs24243 [0, 1, 2, 3, 4, 5, 6] rfl rfl, H⟩
            ·have H := cf H hb24202
             refine At.stages K K K K K [GEq (.slice A23904 (List.length v23906) c23905), GEq (.int .i64 v23908), GElem0 A23904 eBool.sz v23908, GEq (.bool x24193), GEq (.bool x24193), GEq undef, GEq undef, GEq undef, GEq undef, GEq undef, GEq undef, GEq undef, GEq undef, GEq undef, GEq (.bool false)] [] [([], fun vs w => VL vs [] ∧ SP [] w0 w [rdE eU8 A23537 c23538 z23533.2.1, rowT 59 (ePair (eInt .i64) (ePair eStr (ePair eStr (ePair (eInt .i64) eStr)))) A23539 c23540 z23533.2.2.2, boxE g16 56 #[(.slice A23537 (List.length z23533.2.1) c23538), (.int .i64 z23533.2.2.1), (.slice A23539 (List.length z23533.2.2.2) c23540)], boxE g18294 33 #[(.int .i64 x18285.1), (.int .i64 x18285.2.1), (.string ⟨List.toArray x18285.2.2.1⟩), (.string ⟨List.toArray x18285.2.2.2.1⟩), (.int .i64 x18285.2.2.2.2.1), (.string ⟨List.toArray x18285.2.2.2.2.2.1⟩), (.int .i64 x18285.2.2.2.2.2.2.1), (.string ⟨List.toArray x18285.2.2.2.2.2.2.2.1⟩), (.string ⟨List.toArray x18285.2.2.2.2.2.2.2.2⟩)], rowT 9 eStr A12206 c12207 v12208, rowT 31 (ePair (eInt .i64) (ePair eStr (ePair eStr (eInt .i64)))) A12209 c12210 v12211, rowT 4 eBool A23904 c23905 v23906])] (N := 15) K ⟨K, Nat.zero_lt_succ _⟩ (show VL [] [] ∧ SP [] w0 w23902.drew [rdE eU8 A23537 c23538 z23533.2.1, rowT 59 (ePair (eInt .i64) (ePair eStr (ePair eStr (ePair (eInt .i64) eStr)))) A23539 c23540 z23533.2.2.2, boxE g16 56 #[(.slice A23537 (List.length z23533.2.1) c23538), (.int .i64 z23533.2.2.1), (.slice A23539 (List.length z23533.2.2.2) c23540)], boxE g18294 33 #[(.int .i64 x18285.1), (.int .i64 x18285.2.1), (.string ⟨List.toArray x18285.2.2.1⟩), (.string ⟨List.toArray x18285.2.2.2.1⟩), (.int .i64 x18285.2.2.2.2.1), (.string ⟨List.toArray x18285.2.2.2.2.2.1⟩), (.int .i64 x18285.2.2.2.2.2.2.1), (.string ⟨List.toArray x18285.2.2.2.2.2.2.2.1⟩), (.string ⟨List.toArray x18285.2.2.2.2.2.2.2.2⟩)], rowT 9 eStr A12206 c12207 v12208, rowT 31 (ePair (eInt .i64) (ePair eStr (ePair eStr (eInt .i64)))) A12209 c12210 v12211, rowT 4 eBool A23904 c23905 v23906] from ⟨trivial, SP.drew hs23903⟩) ⟨⟨⟨⟨⟨⟨⟨⟨⟨⟨⟨⟨⟨⟨⟨trivial, ?_⟩, ?_⟩, ?_⟩, ?_⟩, ?_⟩, ?_⟩, ?_⟩, ?_⟩, ?_⟩, ?_⟩, ?_⟩, ?_⟩, ?_⟩, ?_⟩, ?_⟩ (last := 0) K ?_
             ·exact Owe.run K [(9, (.slice A23904 (List.length v23906) c23905))] ⟨gS K K, trivial⟩ (.slice A23904 (List.length v23906) c23905) (fun _ _ => K) rfl
             ·exact Owe.run K [(19, (.int .i64 v23908))] ⟨gS K K, trivial⟩ (.int .i64 v23908) (fun _ _ => K) rfl
             ·refine Owe.light K [0] K (all_cons ?_ all_nil)
              ·rintro ρ' w' hs hah ⟨hvl24247, hs24246⟩
               have hkn : Known ρ' [(144, (.slice A23904 (List.length v23906) c23905)), (145, (.int .i64 v23908))] := ⟨hah 0 144 K, hah 1 145 K, trivial⟩
               refine Step.known _ hkn ?_
               refine Step.elem (e := eBool) (l := v23906) (A := A23904) (c := c23905) (T := 47) (E := 4) (x := (.tmp 144)) (ix := (.tmp 145)) (ki := .i64) (iz := v23908) (d := (some 146)) (k := 2) K rfl K K K K (rowT_rd (SP.get hs24246 (i := 6) rfl)) hp24194 hq24195 ?_
               intro b24248 o24249 hA24251 hb24252 hc24250
               exact ⟨rfl, _, updO_known hkn, ⟨b24248, o24249, hA24251, rfl⟩⟩
             ·refine Owe.light K [0] K (all_cons ?_ all_nil)
              ·rintro ρ' w' hs hah ⟨hvl24254, hs24253⟩
               obtain ⟨b24255, o24256, hA24257, e146⟩ := hah 2 146 K
               have hkn : Known ρ' [(146, (.pointer (some ⟨b24255, (o24256 + Int.toNat v23908 * eBool.sz), none⟩)))] := ⟨e146, trivial⟩
               refine Step.known _ hkn ?_
               refine Step.cell (t := 4) (x := (.tmp 146)) (b := b24255) (off := (o24256 + Int.toNat v23908 * eBool.sz)) (v := (.bool x24193)) (d := (some 147)) (k := 3) K rfl K K (elem_cell (e := eBool) (rdt_cells (rowT_rd (SP.get hs24253 (i := 6) rfl)) hA24257 hp24194 hq24195) hx24196 (j := 0) rfl) ?_
               exact ⟨rfl, _, updO_known hkn, rfl⟩
             ·exact Owe.run K [(147, (.bool x24193))] ⟨gA 3 K K, trivial⟩ (.bool x24193) (fun _ _ => K) rfl
             ·exact Owe.skip K [(148, (.bool false))] ⟨gB 4 K x24193 K hb24202, trivial⟩ (some 149) (fun _ => K) K rfl
             ·exact Owe.skip K [(148, (.bool false))] ⟨gB 4 K x24193 K hb24202, trivial⟩ (some 150) (fun _ => K) K rfl
             ·exact Owe.skip K [(148, (.bool false))] ⟨gB 4 K x24193 K hb24202, trivial⟩ (some 151) (fun _ => K) K rfl
             ·exact Owe.skip K [(148, (.bool false))] ⟨gB 4 K x24193 K hb24202, trivial⟩ (some 152) (fun _ => K) K rfl
             ·exact Owe.skip K [(148, (.bool false))] ⟨gB 4 K x24193 K hb24202, trivial⟩ (some 153) (fun _ => K) K rfl
             ·exact Owe.skip K [(148, (.bool false))] ⟨gB 4 K x24193 K hb24202, trivial⟩ (some 154) (fun _ => K) K rfl
             ·exact Owe.skip K [(148, (.bool false))] ⟨gB 4 K x24193 K hb24202, trivial⟩ (some 155) (fun _ => K) K rfl
             ·exact Owe.skip K [(148, (.bool false))] ⟨gB 4 K x24193 K hb24202, trivial⟩ (some 156) (fun _ => K) K rfl
             ·exact Owe.skip K [(148, (.bool false))] ⟨gB 4 K x24193 K hb24202, trivial⟩ (some 157) (fun _ => K) K rfl
             ·exact Owe.run K [(148, (.bool false)), (157, undef)] ⟨gB 4 K x24193 K hb24202, gA 13 K K, trivial⟩ (.bool false) (fun _ _ => K) rfl
             ·rintro ρ' w' hs hf ⟨hvl24259, hs24258⟩
              refine postKnown [(1, (.slice A3 (List.length p2) c4)), (5, (.bool z6)), (6, (pt g16 0)), (7, (.slice A12206 (List.length v12208) c12207)), (8, (.slice A12209 (List.length v12211) c12210)), (9, (.slice A23904 (List.length v23906) c23905)), (10, (.int .i64 v23907)), (11, (.int .i64 v12216)), (12, (pt g18294 0)), (18, (.bool z23533.1)), (19, (.int .i64 v23908)), (158, (.bool false))] ⟨(hs 1 K).trans K, (hs 5 K).trans K, (hs 6 K).trans K, (hs 7 K).trans K, (hs 8 K).trans K, (hs 9 K).trans K, (hs 10 K).trans K, (hs 11 K).trans K, (hs 12 K).trans K, (hs 18 K).trans K, (hs 19 K).trans K, hf 14 158 K, trivial⟩ ?_
              obtain ⟨w24260, hww24260⟩ : ∃ x, w' = x := ⟨_, rfl⟩
              rw [hww24260] at hs24258 ⊢
              exact ⟨false, ⟨K, K, K, K, K, K, K, K, K, K, K, K, trivial⟩, SP.sel hs24258 [0, 1, 2, 3, 4, 5, 6] rfl rfl, H⟩
           ·rintro ρ w24155 ⟨v24154, hk, hs24156, H⟩
            unfold L_subwaylaw15_TicketOnce_k276 at H
            first | refine At.known [(1, (.slice A3 (List.length p2) c4)), (5, (.bool z6)), (6, (pt g16 0)), (7, (.slice A12206 (List.length v12208) c12207)), (8, (.slice A12209 (List.length v12211) c12210)), (9, (.slice A23904 (List.length v23906) c23905)), (10, (.int .i64 v23907)), (11, (.int .i64 v12216)), (12, (pt g18294 0)), (18, (.bool z23533.1)), (19, (.int .i64 v23908)), (158, (.bool v24154))] hk ?_ | rw [← known_updL (l := [(1, (.slice A3 (List.length p2) c4)), (5, (.bool z6)), (6, (pt g16 0)), (7, (.slice A12206 (List.length v12208) c12207)), (8, (.slice A12209 (List.length v12211) c12210)), (9, (.slice A23904 (List.length v23906) c23905)), (10, (.int .i64 v23907)), (11, (.int .i64 v12216)), (12, (pt g18294 0)), (18, (.bool z23533.1)), (19, (.int .i64 v23908)), (158, (.bool v24154))]) hk]
            refine At.join (fun ρ w => ∃ (v24174 : (List Bool)) (v24175 : Int) (A24172 : Option Addr) (c24173 : Nat), Known ρ [(1, (.slice A3 (List.length p2) c4)), (5, (.bool z6)), (6, (pt g16 0)), (7, (.slice A12206 (List.length v12208) c12207)), (8, (.slice A12209 (List.length v12211) c12210)), (9, (.slice A24172 (List.length v24174) c24173)), (10, (.int .i64 v24175)), (11, (.int .i64 v12216)), (12, (pt g18294 0)), (18, (.bool z23533.1)), (19, (.int .i64 v23908))] ∧ SP [] w0 w [rdE eU8 A23537 c23538 z23533.2.1, rowT 59 (ePair (eInt .i64) (ePair eStr (ePair eStr (ePair (eInt .i64) eStr)))) A23539 c23540 z23533.2.2.2, boxE g16 56 #[(.slice A23537 (List.length z23533.2.1) c23538), (.int .i64 z23533.2.2.1), (.slice A23539 (List.length z23533.2.2.2) c23540)], boxE g18294 33 #[(.int .i64 x18285.1), (.int .i64 x18285.2.1), (.string ⟨List.toArray x18285.2.2.1⟩), (.string ⟨List.toArray x18285.2.2.2.1⟩), (.int .i64 x18285.2.2.2.2.1), (.string ⟨List.toArray x18285.2.2.2.2.2.1⟩), (.int .i64 x18285.2.2.2.2.2.2.1), (.string ⟨List.toArray x18285.2.2.2.2.2.2.2.1⟩), (.string ⟨List.toArray x18285.2.2.2.2.2.2.2.2⟩)], rowT 9 eStr A12206 c12207 v12208, rowT 31 (ePair (eInt .i64) (ePair eStr (ePair eStr (eInt .i64)))) A12209 c12210 v12211, rowT 4 eBool A24172 c24173 v24174] ∧ L_subwaylaw15_TicketOnce_k277 (L_subwaylaw15_TicketOnce_l140 p2 z6 f209) (L_subwaylaw15_TicketOnce_l273 (L_subwaylaw15_TicketOnce_l140 p2 z6 f209) v12208 v12211 v12216 x18285 z23533 f275) v23908 v24174 v24175 = some r) ?_ ?_
            ·refine At.cd K (o := (.tmp 158)) K (b := v24154) K (fun hb24178 => ?_) (fun hb24178 => ?_)
             ·have H := ct H hb24178
              refine At.sq K ?_
              refine At.sq K ?_
              refine At.region K K ?_
              refine In.run' 2 (k' := 2) rfl [(159, (.bool z23533.1)), (160, (.bool (!z23533.1)))] K ?_
              refine In.fin K ?_
              refine At.cd K (o := (.tmp 160)) K (b := (!z23533.1)) K (fun hb24179 => ?_) (fun hb24179 => ?_)
              ·have H := ct H hb24179
               refine At.sq K ?_
               refine At.region K K ?_
               refine In.run' 1 (k' := 1) rfl [(4, (.bool false))] K ?_
               refine In.fin K ?_
               refine At.ret K ?_
               refine ⟨(.bool false), K, ?_⟩
               obtain rfl := some_elim H
               exact ⟨rfl, SP.sel hs24156 [] rfl rfl⟩
              ·have H := cf H hb24179
               refine At.skip K ?_
               refine At.sq K ?_
               refine At.region K K ?_
               refine In.run' 2 (k' := 2) rfl [(161, (.slice A23904 (List.length v23906) c23905)), (162, (.int .i64 v23908))] K ?_
               obtain ⟨x24180, hp24181, hq24182, hx24183, H⟩ := idx_elim H
               refine In.step (k' := 3) rfl K ?_
               refine Step.elem (e := eBool) (l := v23906) (A := A23904) (c := c23905) (T := 47) (E := 4) (x := (.tmp 161)) (ix := (.tmp 162)) (ki := .i64) (iz := v23908) (d := (some 163)) (k := 2) K rfl K K K K (rowT_rd (SP.get hs24156 (i := 6) rfl)) hp24181 hq24182 ?_
               intro b24184 o24185 hA24187 hb24188 hc24186
               replace H := some_bind_elim H
               obtain ⟨l24189, hyl24189⟩ : ∃ y, (List.set v23906 (Int.toNat v23908) false) = y := ⟨_, rfl⟩
               rw [hyl24189] at H
               have hnl24189 : List.length l24189 = List.length v23906 := by rw [← hyl24189, List.length_set]
               refine In.step (k' := 4) rfl K ?_
               refine Step.storeElem (e := eBool) (t := 4) (E := 4) (x := (.tmp 163)) (y := (.const (.bool false))) (A := A23904) (c := c23905) (l := v23906) (iz := v23908) (b := b24184) (off := o24185) (i := 6) (v := (.bool false)) (x' := false) (d := none) (k := 3) K rfl K K hs24156 rfl hA24187 rfl hq24182 hp24181 rfl K ?_
               rw [hyl24189]
               intro w24190 (hs24192 : SP [] w0 w24190 [rdE eU8 A23537 c23538 z23533.2.1, rowT 59 (ePair (eInt .i64) (ePair eStr (ePair eStr (ePair (eInt .i64) eStr)))) A23539 c23540 z23533.2.2.2, boxE g16 56 #[(.slice A23537 (List.length z23533.2.1) c23538), (.int .i64 z23533.2.2.1), (.slice A23539 (List.length z23533.2.2.2) c23540)], boxE g18294 33 #[(.int .i64 x18285.1), (.int .i64 x18285.2.1), (.string ⟨List.toArray x18285.2.2.1⟩), (.string ⟨List.toArray x18285.2.2.2.1⟩), (.int .i64 x18285.2.2.2.2.1), (.string ⟨List.toArray x18285.2.2.2.2.2.1⟩), (.int .i64 x18285.2.2.2.2.2.2.1), (.string ⟨List.toArray x18285.2.2.2.2.2.2.2.1⟩), (.string ⟨List.toArray x18285.2.2.2.2.2.2.2.2⟩)], rowT 9 eStr A12206 c12207 v12208, rowT 31 (ePair (eInt .i64) (ePair eStr (ePair eStr (eInt .i64)))) A12209 c12210 v12211, rowT 4 eBool A23904 c23905 l24189])
               refine In.known [(9, (.slice A23904 (List.length l24189) c23905)), (161, (.slice A23904 (List.length l24189) c23905))] ⟨(by rw [hnl24189]; kernel_rfl), (by rw [hnl24189]; kernel_rfl), trivial⟩ ?_
               refine In.fin K ?_
               refine At.region K K ?_
               refine In.run' 3 (k' := 3) rfl [(164, (.int .i64 v23907)), (165, (.int .i64 (IntKind.wrap .i64 (v23907 - 1)))), (10, (.int .i64 (IntKind.wrap .i64 (v23907 - 1))))] K ?_
               refine In.fin K ?_
               exact ⟨l24189, (IntKind.wrap .i64 (v23907 - 1)), A23904, c23905, ⟨K, K, K, K, K, K, K, K, K, K, K, trivial⟩, SP.sel hs24192 [0, 1, 2, 3, 4, 5, 6] rfl rfl, H⟩
             ·have H := cf H hb24178
              refine At.skip K ?_
              exact ⟨v23906, v23907, A23904, c23905, ⟨K, K, K, K, K, K, K, K, K, K, K, trivial⟩, SP.sel hs24156 [0, 1, 2, 3, 4, 5, 6] rfl rfl, H⟩
            ·rintro ρ w24176 ⟨v24174, v24175, A24172, c24173, hk, hs24177, H⟩
             unfold L_subwaylaw15_TicketOnce_k277 at H
             first | refine At.known [(1, (.slice A3 (List.length p2) c4)), (5, (.bool z6)), (6, (pt g16 0)), (7, (.slice A12206 (List.length v12208) c12207)), (8, (.slice A12209 (List.length v12211) c12210)), (9, (.slice A24172 (List.length v24174) c24173)), (10, (.int .i64 v24175)), (11, (.int .i64 v12216)), (12, (pt g18294 0)), (18, (.bool z23533.1)), (19, (.int .i64 v23908))] hk ?_ | rw [← known_updL (l := [(1, (.slice A3 (List.length p2) c4)), (5, (.bool z6)), (6, (pt g16 0)), (7, (.slice A12206 (List.length v12208) c12207)), (8, (.slice A12209 (List.length v12211) c12210)), (9, (.slice A24172 (List.length v24174) c24173)), (10, (.int .i64 v24175)), (11, (.int .i64 v12216)), (12, (pt g18294 0)), (18, (.bool z23533.1)), (19, (.int .i64 v23908))]) hk]
             refine At.region K K ?_
             refine In.run' 3 (k' := 3) rfl [(142, (.int .i64 v23908)), (143, (.int .i64 (IntKind.wrap .i64 (v23908 + 1)))), (19, (.int .i64 (IntKind.wrap .i64 (v23908 + 1))))] K ?_
             refine In.fin K ?_
             exact ⟨v24174, v24175, (IntKind.wrap .i64 (v23908 + 1)), A24172, c24173, ⟨K, K, K, K, K, K, K, K, K, K, K, trivial⟩, SP.sel hs24177 [0, 1, 2, 3, 4, 5, 6] rfl rfl, H⟩
          ·have H := cf H hb24085
           refine At.exit K (id := 4) K ?_
           exact ⟨z23533.2.1, z23533.2.2.1, z23533.2.2.2, v12208, v12211, v23906, v23907, A23537, c23538, A23539, c23540, A12206, c12207, A12209, c12210, A23904, c23905, ⟨K, K, K, K, K, K, K, K, trivial⟩, SP.sel hs23903 [0, 1, 2, 4, 5, 6] rfl rfl, H⟩
         ·exact ⟨v12214, v12215, 0, A12212, c12213, ⟨K, K, K, K, K, K, K, K, K, K, K, trivial⟩, SP.sel hs23542 [5, 6, 4, 3, 0, 1, 2] rfl rfl, H⟩
        ·have H := cf H hb23532
         refine At.sq K ?_
         refine At.region K K ?_
         refine In.run' 2 (k' := 2) rfl [(167, (pt g16 0)), (168, (pt g18294 1))] K ?_
         refine In.step (k' := 3) rfl K ?_
         refine Step.load (t := 31) (x := (.tmp 168)) (g := g18294) (off := 1) (i := 6) (v := (.agg #[(.int .i64 x18285.2.1), (.string ⟨List.toArray x18285.2.2.1⟩), (.string ⟨List.toArray x18285.2.2.2.1⟩), (.int .i64 x18285.2.2.2.2.1)])) (d := (some 169)) (k := 2) K rfl K hs18300 rfl K ?_
         refine In.run' 1 (k' := 4) rfl [(170, (pt g18294 5))] K ?_
         refine In.step (k' := 5) rfl K ?_
         refine Step.load (t := 9) (x := (.tmp 170)) (g := g18294) (off := 5) (i := 6) (v := (.string ⟨List.toArray x18285.2.2.2.2.2.1⟩)) (d := (some 171)) (k := 4) K rfl K hs18300 rfl K ?_
         obtain ⟨z24261, hz24262, H⟩ := bind_elim H
         refine In.step (k' := 6) rfl K ?_
         refine Step.callF (f := 18) (fo := (.func 18)) (xs := #[(.tmp 167), (.tmp 169), (.tmp 171)]) (tys := #[24, 31, 9]) (first := #[]) (captured := #[]) (d := (some 172)) (k := 5) K rfl K K Tryd.call18 (L_ticket_Book_Issue_walk g16 A12199 c12200 A12203 c12204 v12201 v12202 v12205 x18285.2.1 x18285.2.2.1 x18285.2.2.2.1 x18285.2.2.2.2.1 x18285.2.2.2.2.2.1 w18298 (fun w hm => laid_below hL (SP.below_of hs18300 (l := [2, 0, 1]) rfl hm)) (SP.sub hs18300 [2, 0, 1] rfl rfl) z24261 hz24262) ?_
         rintro e w24263 ⟨A24265, c24266, A24267, c24268, rfl, hs24264⟩
         refine ⟨_, rfl, ?_⟩
         have hs24270 : SP [] w0 w24263 [rowT 9 eStr A12206 c12207 v12208, rowT 31 (ePair (eInt .i64) (ePair eStr (ePair eStr (eInt .i64)))) A12209 c12210 v12211, rowT 4 eBool A12212 c12213 v12214, boxE g18294 33 #[(.int .i64 x18285.1), (.int .i64 x18285.2.1), (.string ⟨List.toArray x18285.2.2.1⟩), (.string ⟨List.toArray x18285.2.2.2.1⟩), (.int .i64 x18285.2.2.2.2.1), (.string ⟨List.toArray x18285.2.2.2.2.2.1⟩), (.int .i64 x18285.2.2.2.2.2.2.1), (.string ⟨List.toArray x18285.2.2.2.2.2.2.2.1⟩), (.string ⟨List.toArray x18285.2.2.2.2.2.2.2.2⟩)], boxE g16 56 #[(.slice A24265 (List.length z24261.2.2.1) c24266), (.int .i64 z24261.2.2.2.1), (.slice A24267 (List.length z24261.2.2.2.2) c24268)], rdE eU8 A24265 c24266 z24261.2.2.1, rowT 59 (ePair (eInt .i64) (ePair eStr (ePair eStr (ePair (eInt .i64) eStr)))) A24267 c24268 z24261.2.2.2.2] := SP.callS hs18300 [2, 0, 1] [3, 4, 5, 6] rfl rfl hs24264 rfl
         clear hs24264
         refine In.run' 5 (k' := 11) rfl [(166, (.tuple #[(.string ⟨List.toArray z24261.1⟩), (.int .i64 z24261.2.1)])), (173, (.string ⟨List.toArray z24261.1⟩)), (174, (.int .i64 z24261.2.1)), (20, (.string ⟨List.toArray z24261.1⟩)), (21, (.int .i64 z24261.2.1))] K ?_
         refine In.fin K ?_
         refine At.sq K ?_
         refine At.region K K ?_
         refine In.run' 2 (k' := 2) rfl [(175, (.int .i64 z24261.2.1)), (176, (.bool (z24261.2.1 == 0)))] K ?_
         refine In.fin K ?_
         refine At.join (fun ρ w => ∃ (v24307 : (List (List UInt8))) (v24310 : (List (Int × (List UInt8) × (List UInt8) × Int))) (v24313 : (List Bool)) (v24314 : Int) (A24305 : Option Addr) (c24306 : Nat) (A24308 : Option Addr) (c24309 : Nat) (A24311 : Option Addr) (c24312 : Nat), Known ρ [(1, (.slice A3 (List.length p2) c4)), (5, (.bool z6)), (6, (pt g16 0)), (7, (.slice A24305 (List.length v24307) c24306)), (8, (.slice A24308 (List.length v24310) c24309)), (9, (.slice A24311 (List.length v24313) c24312)), (10, (.int .i64 v24314)), (11, (.int .i64 v12216))] ∧ SP [] w0 w [rdE eU8 A24265 c24266 z24261.2.2.1, rowT 59 (ePair (eInt .i64) (ePair eStr (ePair eStr (ePair (eInt .i64) eStr)))) A24267 c24268 z24261.2.2.2.2, boxE g16 56 #[(.slice A24265 (List.length z24261.2.2.1) c24266), (.int .i64 z24261.2.2.2.1), (.slice A24267 (List.length z24261.2.2.2.2) c24268)], rowT 9 eStr A24305 c24306 v24307, rowT 31 (ePair (eInt .i64) (ePair eStr (ePair eStr (eInt .i64)))) A24308 c24309 v24310, rowT 4 eBool A24311 c24312 v24313] ∧ L_subwaylaw15_TicketOnce_k278 (L_subwaylaw15_TicketOnce_l140 p2 z6 f209) v12216 z24261 v24307 v24310 v24313 v24314 = some r) ?_ ?_
         ·refine At.cd K (o := (.tmp 176)) K (b := (z24261.2.1 == 0)) K (fun hb24317 => ?_) (fun hb24317 => ?_)
          ·have H := ct H hb24317
           refine At.sq K ?_
           refine At.region K K ?_
           refine In.run' 2 (k' := 2) rfl [(177, (.slice A12206 (List.length v12208) c12207)), (178, (.string ⟨List.toArray z24261.1⟩))] K ?_
           refine In.step (k' := 3) rfl K ?_
           refine Step.newSlice (e := eStr) (T := 29) (E := 9) (len := 1) (parts := #[(0, (.tmp 178))]) (cs := #[(.string ⟨List.toArray z24261.1⟩)]) ([z24261.1] : List (List UInt8)) (d := (some 179)) (k := 2) K rfl (fun _ => K) hs24270 rfl rfl rfl rfl ?_
           intro g24318 w24319 (hs24321 : SP [] w0 w24319 [rowT 9 eStr A12206 c12207 v12208, rowT 31 (ePair (eInt .i64) (ePair eStr (ePair eStr (eInt .i64)))) A12209 c12210 v12211, rowT 4 eBool A12212 c12213 v12214, boxE g18294 33 #[(.int .i64 x18285.1), (.int .i64 x18285.2.1), (.string ⟨List.toArray x18285.2.2.1⟩), (.string ⟨List.toArray x18285.2.2.2.1⟩), (.int .i64 x18285.2.2.2.2.1), (.string ⟨List.toArray x18285.2.2.2.2.2.1⟩), (.int .i64 x18285.2.2.2.2.2.2.1), (.string ⟨List.toArray x18285.2.2.2.2.2.2.2.1⟩), (.string ⟨List.toArray x18285.2.2.2.2.2.2.2.2⟩)], boxE g16 56 #[(.slice A24265 (List.length z24261.2.2.1) c24266), (.int .i64 z24261.2.2.2.1), (.slice A24267 (List.length z24261.2.2.2.2) c24268)], rdE eU8 A24265 c24266 z24261.2.2.1, rowT 59 (ePair (eInt .i64) (ePair eStr (ePair eStr (ePair (eInt .i64) eStr)))) A24267 c24268 z24261.2.2.2.2, rowT 9 eStr (some ⟨g24318, 0, none⟩) (List.length ([z24261.1] : List (List UInt8))) ([z24261.1] : List (List UInt8))])
           obtain ⟨hl24322, H⟩ := app_elim H
           obtain ⟨l24323, hyl24323⟩ : ∃ y, v12208 ++ ([z24261.1] : List (List UInt8)) = y := ⟨_, rfl⟩
           rw [hyl24323] at H
           refine In.step (k' := 4) rfl K ?_
           refine Step.append (e := eStr) (l := v12208) (m := ([z24261.1] : List (List UInt8))) (A := A12206) (c := c12207) (T := 29) (TX := 29) (E := 9) (b := 16) (s := (.tmp 177)) (x := (.tmp 179)) (i := 0) (vx := (.slice (some ⟨g24318, 0, none⟩) (List.length ([z24261.1] : List (List UInt8))) (List.length ([z24261.1] : List (List UInt8))))) (d := (some 180)) (k := 3) K rfl K K K K rfl hs24321 rfl (src_rdt (E := 9) K (rowT_rd (SP.get hs24321 (i := 7) rfl))) hl24322 ?_
           rw [hyl24323]
           intro A24324 c24325 w24326 (hs24328 : SP [] w0 w24326 [rowT 9 eStr A24324 c24325 l24323, rowT 31 (ePair (eInt .i64) (ePair eStr (ePair eStr (eInt .i64)))) A12209 c12210 v12211, rowT 4 eBool A12212 c12213 v12214, boxE g18294 33 #[(.int .i64 x18285.1), (.int .i64 x18285.2.1), (.string ⟨List.toArray x18285.2.2.1⟩), (.string ⟨List.toArray x18285.2.2.2.1⟩), (.int .i64 x18285.2.2.2.2.1), (.string ⟨List.toArray x18285.2.2.2.2.2.1⟩), (.int .i64 x18285.2.2.2.2.2.2.1), (.string ⟨List.toArray x18285.2.2.2.2.2.2.2.1⟩), (.string ⟨List.toArray x18285.2.2.2.2.2.2.2.2⟩)], boxE g16 56 #[(.slice A24265 (List.length z24261.2.2.1) c24266), (.int .i64 z24261.2.2.2.1), (.slice A24267 (List.length z24261.2.2.2.2) c24268)], rdE eU8 A24265 c24266 z24261.2.2.1, rowT 59 (ePair (eInt .i64) (ePair eStr (ePair eStr (ePair (eInt .i64) eStr)))) A24267 c24268 z24261.2.2.2.2, rowT 9 eStr (some ⟨g24318, 0, none⟩) (List.length ([z24261.1] : List (List UInt8))) ([z24261.1] : List (List UInt8))])
           refine In.run' 1 (k' := 5) rfl [(7, (.slice A24324 (List.length l24323) c24325))] K ?_
           refine In.fin K ?_
           refine At.sq K ?_
           refine At.region K K ?_
           refine In.run' 2 (k' := 2) rfl [(181, (.slice A12209 (List.length v12211) c12210)), (182, (pt g18294 1))] K ?_
           refine In.step (k' := 3) rfl K ?_
           refine Step.load (t := 31) (x := (.tmp 182)) (g := g18294) (off := 1) (i := 3) (v := (.agg #[(.int .i64 x18285.2.1), (.string ⟨List.toArray x18285.2.2.1⟩), (.string ⟨List.toArray x18285.2.2.2.1⟩), (.int .i64 x18285.2.2.2.2.1)])) (d := (some 183)) (k := 2) K rfl K hs24328 rfl K ?_
           refine In.step (k' := 4) rfl K ?_
           refine Step.newSlice (e := (ePair (eInt .i64) (ePair eStr (ePair eStr (eInt .i64))))) (T := 46) (E := 31) (len := 1) (parts := #[(0, (.tmp 183))]) (cs := #[(.int .i64 x18285.2.1), (.string ⟨List.toArray x18285.2.2.1⟩), (.string ⟨List.toArray x18285.2.2.2.1⟩), (.int .i64 x18285.2.2.2.2.1)]) ([(x18285.2.1, x18285.2.2.1, x18285.2.2.2.1, x18285.2.2.2.2.1)] : List (Int × (List UInt8) × (List UInt8) × Int)) (d := (some 184)) (k := 3) K rfl (fun _ => K) hs24328 rfl rfl rfl rfl ?_
           intro g24329 w24330 (hs24332 : SP [] w0 w24330 [rowT 9 eStr A24324 c24325 l24323, rowT 31 (ePair (eInt .i64) (ePair eStr (ePair eStr (eInt .i64)))) A12209 c12210 v12211, rowT 4 eBool A12212 c12213 v12214, boxE g18294 33 #[(.int .i64 x18285.1), (.int .i64 x18285.2.1), (.string ⟨List.toArray x18285.2.2.1⟩), (.string ⟨List.toArray x18285.2.2.2.1⟩), (.int .i64 x18285.2.2.2.2.1), (.string ⟨List.toArray x18285.2.2.2.2.2.1⟩), (.int .i64 x18285.2.2.2.2.2.2.1), (.string ⟨List.toArray x18285.2.2.2.2.2.2.2.1⟩), (.string ⟨List.toArray x18285.2.2.2.2.2.2.2.2⟩)], boxE g16 56 #[(.slice A24265 (List.length z24261.2.2.1) c24266), (.int .i64 z24261.2.2.2.1), (.slice A24267 (List.length z24261.2.2.2.2) c24268)], rdE eU8 A24265 c24266 z24261.2.2.1, rowT 59 (ePair (eInt .i64) (ePair eStr (ePair eStr (ePair (eInt .i64) eStr)))) A24267 c24268 z24261.2.2.2.2, rowT 9 eStr (some ⟨g24318, 0, none⟩) (List.length ([z24261.1] : List (List UInt8))) ([z24261.1] : List (List UInt8)), rowT 31 (ePair (eInt .i64) (ePair eStr (ePair eStr (eInt .i64)))) (some ⟨g24329, 0, none⟩) (List.length ([(x18285.2.1, x18285.2.2.1, x18285.2.2.2.1, x18285.2.2.2.2.1)] : List (Int × (List UInt8) × (List UInt8) × Int))) ([(x18285.2.1, x18285.2.2.1, x18285.2.2.2.1, x18285.2.2.2.2.1)] : List (Int × (List UInt8) × (List UInt8) × Int))])
           obtain ⟨hl24333, H⟩ := app_elim H
           obtain ⟨l24334, hyl24334⟩ : ∃ y, v12211 ++ ([(x18285.2.1, x18285.2.2.1, x18285.2.2.2.1, x18285.2.2.2.2.1)] : List (Int × (List UInt8) × (List UInt8) × Int)) = y := ⟨_, rfl⟩
           rw [hyl24334] at H
           refine In.step (k' := 5) rfl K ?_
           refine Step.append (e := (ePair (eInt .i64) (ePair eStr (ePair eStr (eInt .i64))))) (l := v12211) (m := ([(x18285.2.1, x18285.2.2.1, x18285.2.2.2.1, x18285.2.2.2.2.1)] : List (Int × (List UInt8) × (List UInt8) × Int))) (A := A12209) (c := c12210) (T := 46) (TX := 46) (E := 31) (b := 48) (s := (.tmp 181)) (x := (.tmp 184)) (i := 1) (vx := (.slice (some ⟨g24329, 0, none⟩) (List.length ([(x18285.2.1, x18285.2.2.1, x18285.2.2.2.1, x18285.2.2.2.2.1)] : List (Int × (List UInt8) × (List UInt8) × Int))) (List.length ([(x18285.2.1, x18285.2.2.1, x18285.2.2.2.1, x18285.2.2.2.2.1)] : List (Int × (List UInt8) × (List UInt8) × Int))))) (d := (some 185)) (k := 4) K rfl K K K K rfl hs24332 rfl (src_rdt (E := 31) K (rowT_rd (SP.get hs24332 (i := 8) rfl))) hl24333 ?_
           rw [hyl24334]
           intro A24335 c24336 w24337 (hs24339 : SP [] w0 w24337 [rowT 9 eStr A24324 c24325 l24323, rowT 31 (ePair (eInt .i64) (ePair eStr (ePair eStr (eInt .i64)))) A24335 c24336 l24334, rowT 4 eBool A12212 c12213 v12214, boxE g18294 33 #[(.int .i64 x18285.1), (.int .i64 x18285.2.1), (.string ⟨List.toArray x18285.2.2.1⟩), (.string ⟨List.toArray x18285.2.2.2.1⟩), (.int .i64 x18285.2.2.2.2.1), (.string ⟨List.toArray x18285.2.2.2.2.2.1⟩), (.int .i64 x18285.2.2.2.2.2.2.1), (.string ⟨List.toArray x18285.2.2.2.2.2.2.2.1⟩), (.string ⟨List.toArray x18285.2.2.2.2.2.2.2.2⟩)], boxE g16 56 #[(.slice A24265 (List.length z24261.2.2.1) c24266), (.int .i64 z24261.2.2.2.1), (.slice A24267 (List.length z24261.2.2.2.2) c24268)], rdE eU8 A24265 c24266 z24261.2.2.1, rowT 59 (ePair (eInt .i64) (ePair eStr (ePair eStr (ePair (eInt .i64) eStr)))) A24267 c24268 z24261.2.2.2.2, rowT 9 eStr (some ⟨g24318, 0, none⟩) (List.length ([z24261.1] : List (List UInt8))) ([z24261.1] : List (List UInt8)), rowT 31 (ePair (eInt .i64) (ePair eStr (ePair eStr (eInt .i64)))) (some ⟨g24329, 0, none⟩) (List.length ([(x18285.2.1, x18285.2.2.1, x18285.2.2.2.1, x18285.2.2.2.2.1)] : List (Int × (List UInt8) × (List UInt8) × Int))) ([(x18285.2.1, x18285.2.2.1, x18285.2.2.2.1, x18285.2.2.2.2.1)] : List (Int × (List UInt8) × (List UInt8) × Int))])
           refine In.run' 1 (k' := 6) rfl [(8, (.slice A24335 (List.length l24334) c24336))] K ?_
           refine In.fin K ?_
           refine At.sq K ?_
           refine At.region K K ?_
           refine In.run' 1 (k' := 1) rfl [(186, (.slice A12212 (List.length v12214) c12213))] K ?_
           refine In.step (k' := 2) rfl K ?_
           refine Step.newSlice (e := eBool) (T := 47) (E := 4) (len := 1) (parts := #[(0, (.const (.bool true)))]) (cs := #[(.bool true)]) ([true] : List Bool) (d := (some 187)) (k := 1) K rfl (fun _ => K) hs24339 rfl rfl rfl rfl ?_
           intro g24340 w24341 (hs24343 : SP [] w0 w24341 [rowT 9 eStr A24324 c24325 l24323, rowT 31 (ePair (eInt .i64) (ePair eStr (ePair eStr (eInt .i64)))) A24335 c24336 l24334, rowT 4 eBool A12212 c12213 v12214, boxE g18294 33 #[(.int .i64 x18285.1), (.int .i64 x18285.2.1), (.string ⟨List.toArray x18285.2.2.1⟩), (.string ⟨List.toArray x18285.2.2.2.1⟩), (.int .i64 x18285.2.2.2.2.1), (.string ⟨List.toArray x18285.2.2.2.2.2.1⟩), (.int .i64 x18285.2.2.2.2.2.2.1), (.string ⟨List.toArray x18285.2.2.2.2.2.2.2.1⟩), (.string ⟨List.toArray x18285.2.2.2.2.2.2.2.2⟩)], boxE g16 56 #[(.slice A24265 (List.length z24261.2.2.1) c24266), (.int .i64 z24261.2.2.2.1), (.slice A24267 (List.length z24261.2.2.2.2) c24268)], rdE eU8 A24265 c24266 z24261.2.2.1, rowT 59 (ePair (eInt .i64) (ePair eStr (ePair eStr (ePair (eInt .i64) eStr)))) A24267 c24268 z24261.2.2.2.2, rowT 9 eStr (some ⟨g24318, 0, none⟩) (List.length ([z24261.1] : List (List UInt8))) ([z24261.1] : List (List UInt8)), rowT 31 (ePair (eInt .i64) (ePair eStr (ePair eStr (eInt .i64)))) (some ⟨g24329, 0, none⟩) (List.length ([(x18285.2.1, x18285.2.2.1, x18285.2.2.2.1, x18285.2.2.2.2.1)] : List (Int × (List UInt8) × (List UInt8) × Int))) ([(x18285.2.1, x18285.2.2.1, x18285.2.2.2.1, x18285.2.2.2.2.1)] : List (Int × (List UInt8) × (List UInt8) × Int)), rowT 4 eBool (some ⟨g24340, 0, none⟩) (List.length ([true] : List Bool)) ([true] : List Bool)])
           obtain ⟨hl24344, H⟩ := app_elim H
           obtain ⟨l24345, hyl24345⟩ : ∃ y, v12214 ++ ([true] : List Bool) = y := ⟨_, rfl⟩
           rw [hyl24345] at H
           refine In.step (k' := 3) rfl K ?_
           refine Step.append (e := eBool) (l := v12214) (m := ([true] : List Bool)) (A := A12212) (c := c12213) (T := 47) (TX := 47) (E := 4) (b := 1) (s := (.tmp 186)) (x := (.tmp 187)) (i := 2) (vx := (.slice (some ⟨g24340, 0, none⟩) (List.length ([true] : List Bool)) (List.length ([true] : List Bool)))) (d := (some 188)) (k := 2) K rfl K K K K rfl hs24343 rfl (src_rdt (E := 4) K (rowT_rd (SP.get hs24343 (i := 9) rfl))) hl24344 ?_
           rw [hyl24345]
           intro A24346 c24347 w24348 (hs24350 : SP [] w0 w24348 [rowT 9 eStr A24324 c24325 l24323, rowT 31 (ePair (eInt .i64) (ePair eStr (ePair eStr (eInt .i64)))) A24335 c24336 l24334, rowT 4 eBool A24346 c24347 l24345, boxE g18294 33 #[(.int .i64 x18285.1), (.int .i64 x18285.2.1), (.string ⟨List.toArray x18285.2.2.1⟩), (.string ⟨List.toArray x18285.2.2.2.1⟩), (.int .i64 x18285.2.2.2.2.1), (.string ⟨List.toArray x18285.2.2.2.2.2.1⟩), (.int .i64 x18285.2.2.2.2.2.2.1), (.string ⟨List.toArray x18285.2.2.2.2.2.2.2.1⟩), (.string ⟨List.toArray x18285.2.2.2.2.2.2.2.2⟩)], boxE g16 56 #[(.slice A24265 (List.length z24261.2.2.1) c24266), (.int .i64 z24261.2.2.2.1), (.slice A24267 (List.length z24261.2.2.2.2) c24268)], rdE eU8 A24265 c24266 z24261.2.2.1, rowT 59 (ePair (eInt .i64) (ePair eStr (ePair eStr (ePair (eInt .i64) eStr)))) A24267 c24268 z24261.2.2.2.2, rowT 9 eStr (some ⟨g24318, 0, none⟩) (List.length ([z24261.1] : List (List UInt8))) ([z24261.1] : List (List UInt8)), rowT 31 (ePair (eInt .i64) (ePair eStr (ePair eStr (eInt .i64)))) (some ⟨g24329, 0, none⟩) (List.length ([(x18285.2.1, x18285.2.2.1, x18285.2.2.2.1, x18285.2.2.2.2.1)] : List (Int × (List UInt8) × (List UInt8) × Int))) ([(x18285.2.1, x18285.2.2.1, x18285.2.2.2.1, x18285.2.2.2.2.1)] : List (Int × (List UInt8) × (List UInt8) × Int)), rowT 4 eBool (some ⟨g24340, 0, none⟩) (List.length ([true] : List Bool)) ([true] : List Bool)])
           refine In.run' 1 (k' := 4) rfl [(9, (.slice A24346 (List.length l24345) c24347))] K ?_
           refine In.fin K ?_
           refine At.region K K ?_
           refine In.run' 3 (k' := 3) rfl [(189, (.int .i64 v12215)), (190, (.int .i64 (IntKind.wrap .i64 (v12215 + 1)))), (10, (.int .i64 (IntKind.wrap .i64 (v12215 + 1))))] K ?_
           refine In.fin K ?_
           exact ⟨l24323, l24334, l24345, (IntKind.wrap .i64 (v12215 + 1)), A24324, c24325, A24335, c24336, A24346, c24347, ⟨K, K, K, K, K, K, K, K, trivial⟩, SP.sel hs24350 [5, 6, 4, 0, 1, 2] rfl rfl, H⟩
          ·have H := cf H hb24317
           refine At.skip K ?_
           exact ⟨v12208, v12211, v12214, v12215, A12206, c12207, A12209, c12210, A12212, c12213, ⟨K, K, K, K, K, K, K, K, trivial⟩, SP.sel hs24270 [5, 6, 4, 0, 1, 2] rfl rfl, H⟩
         ·rintro ρ w24315 ⟨v24307, v24310, v24313, v24314, A24305, c24306, A24308, c24309, A24311, c24312, hk, hs24316, H⟩
          unfold L_subwaylaw15_TicketOnce_k278 at H
          first | refine At.known [(1, (.slice A3 (List.length p2) c4)), (5, (.bool z6)), (6, (pt g16 0)), (7, (.slice A24305 (List.length v24307) c24306)), (8, (.slice A24308 (List.length v24310) c24309)), (9, (.slice A24311 (List.length v24313) c24312)), (10, (.int .i64 v24314)), (11, (.int .i64 v12216))] hk ?_ | rw [← known_updL (l := [(1, (.slice A3 (List.length p2) c4)), (5, (.bool z6)), (6, (pt g16 0)), (7, (.slice A24305 (List.length v24307) c24306)), (8, (.slice A24308 (List.length v24310) c24309)), (9, (.slice A24311 (List.length v24313) c24312)), (10, (.int .i64 v24314)), (11, (.int .i64 v12216))]) hk]
          exact ⟨z24261.2.2.1, z24261.2.2.2.1, z24261.2.2.2.2, v24307, v24310, v24313, v24314, A24265, c24266, A24267, c24268, A24305, c24306, A24308, c24309, A24311, c24312, ⟨K, K, K, K, K, K, K, K, trivial⟩, SP.sel hs24316 [0, 1, 2, 3, 4, 5] rfl rfl, H⟩
       ·rintro ρ w23530 ⟨v23515, v23516, v23519, v23522, v23525, v23528, v23529, A23513, c23514, A23517, c23518, A23520, c23521, A23523, c23524, A23526, c23527, hk, hs23531, H⟩
        unfold L_subwaylaw15_TicketOnce_k268 at H
        first | refine At.known [(1, (.slice A3 (List.length p2) c4)), (5, (.bool z6)), (6, (pt g16 0)), (7, (.slice A23520 (List.length v23522) c23521)), (8, (.slice A23523 (List.length v23525) c23524)), (9, (.slice A23526 (List.length v23528) c23527)), (10, (.int .i64 v23529)), (11, (.int .i64 v12216))] hk ?_ | rw [← known_updL (l := [(1, (.slice A3 (List.length p2) c4)), (5, (.bool z6)), (6, (pt g16 0)), (7, (.slice A23520 (List.length v23522) c23521)), (8, (.slice A23523 (List.length v23525) c23524)), (9, (.slice A23526 (List.length v23528) c23527)), (10, (.int .i64 v23529)), (11, (.int .i64 v12216))]) hk]
        exact ⟨v23515, v23516, v23519, v23522, v23525, v23528, v23529, A23513, c23514, A23517, c23518, A23520, c23521, A23523, c23524, A23526, c23527, ⟨K, K, K, K, K, K, K, K, trivial⟩, SP.sel hs23531 [0, 1, 2, 3, 4, 5] rfl rfl, H⟩
     ·rintro ρ w21328 ⟨v21313, v21314, v21317, v21320, v21323, v21326, v21327, A21311, c21312, A21315, c21316, A21318, c21319, A21321, c21322, A21324, c21325, hk, hs21329, H⟩
      unfold L_subwaylaw15_TicketOnce_k244 at H
      first | refine At.known [(1, (.slice A3 (List.length p2) c4)), (5, (.bool z6)), (6, (pt g16 0)), (7, (.slice A21318 (List.length v21320) c21319)), (8, (.slice A21321 (List.length v21323) c21322)), (9, (.slice A21324 (List.length v21326) c21325)), (10, (.int .i64 v21327)), (11, (.int .i64 v12216))] hk ?_ | rw [← known_updL (l := [(1, (.slice A3 (List.length p2) c4)), (5, (.bool z6)), (6, (pt g16 0)), (7, (.slice A21318 (List.length v21320) c21319)), (8, (.slice A21321 (List.length v21323) c21322)), (9, (.slice A21324 (List.length v21326) c21325)), (10, (.int .i64 v21327)), (11, (.int .i64 v12216))]) hk]
      refine At.sq K ?_
      refine At.region K K ?_
      refine In.run' 1 (k' := 1) rfl [(191, (pt g16 0))] K ?_
      obtain ⟨z21330, hz21331, H⟩ := bind_elim H
      refine In.step (k' := 2) rfl K ?_
      refine Step.callF (f := 20) (fo := (.func 20)) (xs := #[(.tmp 191)]) (tys := #[24]) (first := #[]) (captured := #[]) (d := (some 192)) (k := 1) K rfl K K Tryd.call20 (L_ticket_Book_Many_walk g16 A21311 c21312 A21315 c21316 v21313 v21314 v21317 w21328 (SP.sub hs21329 [2, 0, 1] rfl rfl) z21330 hz21331) ?_
      rintro e w21332 ⟨A21334, c21335, A21336, c21337, rfl, hs21333⟩
      refine ⟨_, rfl, ?_⟩
      have hs21339 : SP [] w0 w21332 [rowT 9 eStr A21318 c21319 v21320, rowT 31 (ePair (eInt .i64) (ePair eStr (ePair eStr (eInt .i64)))) A21321 c21322 v21323, rowT 4 eBool A21324 c21325 v21326, boxE g16 56 #[(.slice A21334 (List.length v21313) c21335), (.int .i64 v21314), (.slice A21336 (List.length v21317) c21337)], rdE eU8 A21334 c21335 v21313, rowT 59 (ePair (eInt .i64) (ePair eStr (ePair eStr (ePair (eInt .i64) eStr)))) A21336 c21337 v21317] := SP.callS hs21329 [2, 0, 1] [3, 4, 5] rfl rfl hs21333 rfl
      clear hs21333
      refine In.run' 2 (k' := 4) rfl [(193, (.int .i64 v21327)), (194, (.bool (z21330 != v21327)))] K ?_
      refine In.fin K ?_
      refine At.cd K (o := (.tmp 194)) K (b := (z21330 != v21327)) K (fun hb21340 => ?_) (fun hb21340 => ?_)
      ·have H := ct H hb21340
       refine At.sq K ?_
       refine At.region K K ?_
       refine In.run' 1 (k' := 1) rfl [(4, (.bool false))] K ?_
       refine In.fin K ?_
       refine At.ret K ?_
       refine ⟨(.bool false), K, ?_⟩
       obtain rfl := some_elim H
       exact ⟨rfl, SP.sel hs21339 [] rfl rfl⟩
      ·have H := cf H hb21340
       refine At.skip K ?_
       refine At.region K K ?_
       refine In.run' 3 (k' := 3) rfl [(45, (.int .i64 v12216)), (46, (.int .i64 (IntKind.wrap .i64 (v12216 + 1)))), (11, (.int .i64 (IntKind.wrap .i64 (v12216 + 1))))] K ?_
       refine In.fin K ?_
       exact ⟨v21313, v21314, v21317, v21320, v21323, v21326, v21327, (IntKind.wrap .i64 (v12216 + 1)), A21334, c21335, A21336, c21337, A21318, c21319, A21321, c21322, A21324, c21325, ⟨K, K, K, K, K, K, K, K, trivial⟩, SP.sel hs21339 [4, 5, 3, 0, 1, 2] rfl rfl, H⟩
    ·have H := cf H hb18284
     refine At.exit K (id := 0) K ?_
     refine At.sq K ?_
     refine At.region K K ?_
     refine In.run' 2 (k' := 2) rfl [(195, (.bool z6)), (4, (.bool z6))] K ?_
     refine In.fin K ?_
     refine At.ret K ?_
     refine ⟨(.bool z6), K, ?_⟩
     obtain rfl := some_elim H
     exact ⟨rfl, SP.sel hs12198 [] rfl rfl⟩
   ·exact ⟨z12.1, z12.2.1, z12.2.2, ([] : List (List UInt8)), ([] : List (Int × (List UInt8) × (List UInt8) × Int)), ([] : List Bool), 0, 0, A17, c18, A19, c20, none, 0, none, 0, none, 0, ⟨K, K, K, K, K, K, K, K, trivial⟩, SP.sel (SP.nilrow (SP.nilrow (SP.nilrow hs32 9 eStr) 31 (ePair (eInt .i64) (ePair eStr (ePair eStr (eInt .i64))))) 4 eBool) [0, 1, 2, 3, 4, 5] rfl rfl, H⟩
end Go.Proofs.YtjllaeceghmjgaaDoor
