/- LIFTED BY PROGRAM (tools/lift.py): what functions compute, and that they do. -/
import Derived.Test.YtjpchjbbfbmjgaaLA
namespace Go.Proofs.Ytjpchjbbfbmjgaa
set_option linter.unusedSimpArgs false
set_option linter.unusedVariables false
open Go.RowKit

/-! L_subwaylaw05_WireBack -/
def L_subwaylaw05_WireBack_k5 (v149 : Bool) : Option (Bool) :=
  (some (v149))
def L_subwaylaw05_WireBack_k6 (v224 : Bool) : Option (Bool) :=
  (some (v224))
def L_subwaylaw05_WireBack_k4 (p6 : (List UInt8)) (z16 : (Bool)) : Option (Bool) :=
  ((L_wire_Get p6).bind fun z134 => (cond (!z134.2.2.2.2.2) (cond z16 (L_subwaylaw05_WireBack_k5 ((z134.1 == 0) && ((z134.2.1 == ([] : List UInt8)) && ((z134.2.2.1 == ([] : List UInt8)) && ((z134.2.2.2.1 == 0) && (z134.2.2.2.2.1 == 0)))))) (L_subwaylaw05_WireBack_k5 false)) (cond z16 ((L_wire_Right z134.1 z134.2.1 z134.2.2.1 z134.2.2.2.1 z134.2.2.2.2.1).bind fun z228 => (cond z228 ((L_wire_Put z134.1 z134.2.1 z134.2.2.1 z134.2.2.2.1 z134.2.2.2.2.1).bind fun z233 => (L_subwaylaw05_WireBack_k6 (z233 == p6))) (L_subwaylaw05_WireBack_k6 false))) (L_subwaylaw05_WireBack_k6 false))))
def L_subwaylaw05_WireBack_k7 (p6 : (List UInt8)) (z16 : (Bool)) (v371 : Bool) : Option (Bool) :=
  (cond v371 (some (false)) (L_subwaylaw05_WireBack_k4 p6 z16))
def L_subwaylaw05_WireBack_k2 (pKind1 : Int) (pA2 : (List UInt8)) (pB3 : (List UInt8)) (pN4 : Int) (pM5 : Int) (p6 : (List UInt8)) (p10 : Int) (p11 : UInt8) (z16 : (Bool)) (z33 : ((List UInt8))) (v48 : Bool) : Option (Bool) :=
  (cond v48 (some (false)) (cond (decide (((List.length z33 : Nat) : Int) > 0)) ((L_wire_Get z33).bind fun z299 => ((chk (!(((List.length z33 : Nat) : Int) == 0))).bind fun _ => ((sub z33 0 (Int.tmod (IntKind.wrap .i64 p10) ((List.length z33 : Nat) : Int))).bind fun l316 => ((L_wire_Get l316).bind fun z320 => ((app ([] : List UInt8) z33).bind fun l338 => ((app l338 ([p11] : List UInt8)).bind fun l349 => ((L_wire_Get l349).bind fun z355 => (cond (!z299.2.2.2.2.2) (L_subwaylaw05_WireBack_k7 p6 z16 true) (cond (!((z299.1 == pKind1) && ((z299.2.1 == pA2) && ((z299.2.2.1 == pB3) && ((z299.2.2.2.1 == pN4) && (z299.2.2.2.2.1 == pM5)))))) (L_subwaylaw05_WireBack_k7 p6 z16 true) (cond z320.2.2.2.2.2 (L_subwaylaw05_WireBack_k7 p6 z16 true) (L_subwaylaw05_WireBack_k7 p6 z16 z355.2.2.2.2.2))))))))))) (L_subwaylaw05_WireBack_k4 p6 z16)))
def L_subwaylaw05_WireBack_k1 (pKind1 : Int) (pA2 : (List UInt8)) (pB3 : (List UInt8)) (pN4 : Int) (pM5 : Int) (p6 : (List UInt8)) (p10 : Int) (p11 : UInt8) (z16 : (Bool)) (v29 : Bool) : Option (Bool) :=
  (cond v29 (some (z16)) ((L_wire_Put pKind1 pA2 pB3 pN4 pM5).bind fun z33 => ((L_wire_Right pKind1 pA2 pB3 pN4 pM5).bind fun z378 => (cond (!((decide (((List.length z33 : Nat) : Int) > 0)) == z378)) (L_subwaylaw05_WireBack_k2 pKind1 pA2 pB3 pN4 pM5 p6 p10 p11 z16 z33 true) (L_subwaylaw05_WireBack_k2 pKind1 pA2 pB3 pN4 pM5 p6 p10 p11 z16 z33 (decide (((List.length z33 : Nat) : Int) > 200)))))))
def L_subwaylaw05_WireBack (pKind1 : Int) (pA2 : (List UInt8)) (pB3 : (List UInt8)) (pN4 : Int) (pM5 : Int) (p6 : (List UInt8)) (p10 : Int) (p11 : UInt8) : Option (Bool) :=
  ((L_subwaylaw05_head ).bind fun z16 => ((L_subwaylaw05_Great pKind1 pA2 pB3 pN4 pM5).bind fun z385 => (cond z385 (L_subwaylaw05_WireBack_k1 pKind1 pA2 pB3 pN4 pM5 p6 p10 p11 z16 true) (L_subwaylaw05_WireBack_k1 pKind1 pA2 pB3 pN4 pM5 p6 p10 p11 z16 (decide (((List.length p6 : Nat) : Int) > 9000))))))
set_option maxRecDepth 100000 in
set_option maxHeartbeats 4000000 in
theorem L_subwaylaw05_WireBack_walk (A7 : Option Addr) (c8 : Nat) (pKind1 : Int) (pA2 : (List UInt8)) (pB3 : (List UInt8)) (pN4 : Int) (pM5 : Int) (p6 : (List UInt8)) (p10 : Int) (p11 : UInt8) (w0 : World) (hr9 : RdT eU8 w0 A7 c8 p6) (r : (Bool)) (H : L_subwaylaw05_WireBack pKind1 pA2 pB3 pN4 pM5 p6 p10 p11 = some r) :
    Calls Try.prog 4 #[(.agg #[(.int .i64 pKind1), (.string ⟨List.toArray pA2⟩), (.string ⟨List.toArray pB3⟩), (.int .i64 pN4), (.int .i64 pM5)]), (.slice A7 (List.length p6) c8), (.int .u16 p10), (.int .u8 ((p11).toNat : Int))] w0 (fun e w' => e = .returned (.bool r) ∧ SP [] w0 w' []) := by
  unfold L_subwaylaw05_WireBack at H
  refine calls_start (n := 109) Try.func4 (by kernel_rfl) (by kernel_rfl) (by kernel_rfl) ?_
  have hs0 := SP.start [] w0
  refine At.seq (by kernel_rfl) (p0 := [false]) (p1 := [true]) rfl rfl ?_
  refine At.region (by kernel_rfl) (by kernel_rfl) ?_
  refine In.step (k' := 1) rfl (by kernel_rfl) ?_
  refine Step.box (t := 23) (x := (.tmp 0)) (v := (.agg #[(.int .i64 pKind1), (.string ⟨List.toArray pA2⟩), (.string ⟨List.toArray pB3⟩), (.int .i64 pN4), (.int .i64 pM5)])) (d := (some 4)) (k := 0) (by kernel_rfl) rfl (by kernel_rfl) hs0 ?_
  intro g12 w13 hs14
  have hs15 : SP [] w0 w13 [boxE g12 23 #[(.int .i64 pKind1), (.string ⟨List.toArray pA2⟩), (.string ⟨List.toArray pB3⟩), (.int .i64 pN4), (.int .i64 pM5)]] := hs14
  clear hs14
  refine In.run' 1 (k' := 2) rfl [(8, (.bool false))] (by kernel_rfl) ?_
  refine In.fin (by kernel_rfl) ?_
  refine At.seq (by kernel_rfl) (p0 := [true, false]) (p1 := [true, true]) rfl rfl ?_
  refine At.region (by kernel_rfl) (by kernel_rfl) ?_
  obtain ⟨z16, hz17, H⟩ := bind_elim H
  refine In.step (k' := 1) rfl (by kernel_rfl) ?_
  refine Step.callF (f := 9) (fo := (.func 9)) (xs := #[]) (tys := #[]) (first := #[]) (captured := #[]) (d := (some 19)) (k := 0) (by kernel_rfl) rfl (by kernel_rfl) (by kernel_rfl) Try.call9 (L_subwaylaw05_head_walk   w13  z16 hz17) ?_
  rintro e w18 ⟨rfl, hs19⟩
  refine ⟨_, rfl, ?_⟩
  have hs20 := SP.call hs15 hs19
  clear hs19
  have hs21 : SP [] w0 w18 [boxE g12 23 #[(.int .i64 pKind1), (.string ⟨List.toArray pA2⟩), (.string ⟨List.toArray pB3⟩), (.int .i64 pN4), (.int .i64 pM5)]] := hs20
  clear hs20
  refine In.run' 1 (k' := 2) rfl [(9, (.bool z16))] (by kernel_rfl) ?_
  refine In.fin (by kernel_rfl) ?_
  refine At.seq (by kernel_rfl) (p0 := [true, true, false]) (p1 := [true, true, true]) rfl rfl ?_
  refine At.seq (by kernel_rfl) (p0 := [true, true, false, false]) (p1 := [true, true, false, true]) rfl rfl ?_
  refine At.join (fun ρ w => ∃ (v29 : Bool), Known ρ [(1, (.slice A7 (List.length p6) c8)), (2, (.int .u16 p10)), (3, (.int .u8 ((p11).toNat : Int))), (4, (.pointer (some ⟨g12, 0, none⟩))), (9, (.bool z16)), (26, (.bool v29))] ∧ SP [] w0 w [boxE g12 23 #[(.int .i64 pKind1), (.string ⟨List.toArray pA2⟩), (.string ⟨List.toArray pB3⟩), (.int .i64 pN4), (.int .i64 pM5)]] ∧ L_subwaylaw05_WireBack_k1 pKind1 pA2 pB3 pN4 pM5 p6 p10 p11 z16 v29 = some r) ?_ ?_
  · refine At.region (by kernel_rfl) (by kernel_rfl) ?_
    refine In.step (k' := 1) rfl (by kernel_rfl) ?_
    refine Step.load (t := 23) (x := (.tmp 4)) (g := g12) (off := 0) (i := 0) (v := (.agg #[(.int .i64 pKind1), (.string ⟨List.toArray pA2⟩), (.string ⟨List.toArray pB3⟩), (.int .i64 pN4), (.int .i64 pM5)])) (d := (some 20)) (k := 0) (by kernel_rfl) rfl (by kernel_rfl) hs21 rfl (by kernel_rfl) ?_
    obtain ⟨z385, hz386, H⟩ := bind_elim H
    refine In.step (k' := 2) rfl (by kernel_rfl) ?_
    refine Step.callF (f := 10) (fo := (.func 10)) (xs := #[(.tmp 20)]) (tys := #[23]) (first := #[]) (captured := #[]) (d := (some 21)) (k := 1) (by kernel_rfl) rfl (by kernel_rfl) (by kernel_rfl) Try.call10 (L_subwaylaw05_Great_walk  pKind1 pA2 pB3 pN4 pM5 w18  z385 hz386) ?_
    rintro e w387 ⟨rfl, hs388⟩
    refine ⟨_, rfl, ?_⟩
    have hs389 := SP.call hs21 hs388
    clear hs388
    have hs390 : SP [] w0 w387 [boxE g12 23 #[(.int .i64 pKind1), (.string ⟨List.toArray pA2⟩), (.string ⟨List.toArray pB3⟩), (.int .i64 pN4), (.int .i64 pM5)]] := hs389
    clear hs389
    refine In.run' 1 (k' := 3) rfl [(22, (.bool z385))] (by kernel_rfl) ?_
    refine In.guard (t := 22) (b := z385) (by kernel_rfl) (fun hb391 => ?_) (fun hb391 => ?_)
    · have H := ct H hb391
      refine In.run' 4 (k' := 7) rfl [(23, undef), (24, undef), (25, undef), (26, (.bool true))] (by kernel_rfl) ?_
      refine In.fin (by kernel_rfl) ?_
      exact ⟨true, ⟨(by kernel_rfl), (by kernel_rfl), (by kernel_rfl), (by kernel_rfl), (by kernel_rfl), (by kernel_rfl), trivial⟩, SP.sel hs390 [0] rfl rfl, H⟩
    · have H := cf H hb391
      refine In.run' 4 (k' := 7) rfl [(23, (.slice A7 (List.length p6) c8)), (24, (.int .i64 ((List.length p6 : Nat) : Int))), (25, (.bool (decide (((List.length p6 : Nat) : Int) > 9000)))), (26, (.bool (decide (((List.length p6 : Nat) : Int) > 9000))))] (by kernel_rfl) ?_
      refine In.fin (by kernel_rfl) ?_
      exact ⟨(decide (((List.length p6 : Nat) : Int) > 9000)), ⟨(by kernel_rfl), (by kernel_rfl), (by kernel_rfl), (by kernel_rfl), (by kernel_rfl), (by kernel_rfl), trivial⟩, SP.sel hs390 [0] rfl rfl, H⟩
  · rintro ρ w30 ⟨v29, hk, hs31, H⟩
    unfold L_subwaylaw05_WireBack_k1 at H
    refine At.known [(1, (.slice A7 (List.length p6) c8)), (2, (.int .u16 p10)), (3, (.int .u8 ((p11).toNat : Int))), (4, (.pointer (some ⟨g12, 0, none⟩))), (9, (.bool z16)), (26, (.bool v29))] hk ?_
    refine At.cond (by kernel_rfl) (o := (.tmp 26)) (by kernel_rfl) (b := v29) (by kernel_rfl) (p0 := [true, true, false, true, false]) (p1 := [true, true, false, true, true]) rfl rfl (fun hb32 => ?_) (fun hb32 => ?_)
    · have H := ct H hb32
      refine At.seq (by kernel_rfl) (p0 := [true, true, false, true, false, false]) (p1 := [true, true, false, true, false, true]) rfl rfl ?_
      refine At.region (by kernel_rfl) (by kernel_rfl) ?_
      refine In.run' 2 (k' := 2) rfl [(27, (.bool z16)), (8, (.bool z16))] (by kernel_rfl) ?_
      refine In.fin (by kernel_rfl) ?_
      refine At.ret (by kernel_rfl) ?_
      refine ⟨(.bool z16), by kernel_rfl, ?_⟩
      obtain rfl := some_elim H
      exact ⟨rfl, SP.sel hs31 [] rfl rfl⟩
    · have H := cf H hb32
      refine At.skip (by kernel_rfl) ?_
      refine At.seq (by kernel_rfl) (p0 := [true, true, true, false]) (p1 := [true, true, true, true]) rfl rfl ?_
      refine At.region (by kernel_rfl) (by kernel_rfl) ?_
      refine In.step (k' := 1) rfl (by kernel_rfl) ?_
      refine Step.load (t := 23) (x := (.tmp 4)) (g := g12) (off := 0) (i := 0) (v := (.agg #[(.int .i64 pKind1), (.string ⟨List.toArray pA2⟩), (.string ⟨List.toArray pB3⟩), (.int .i64 pN4), (.int .i64 pM5)])) (d := (some 28)) (k := 0) (by kernel_rfl) rfl (by kernel_rfl) hs31 rfl (by kernel_rfl) ?_
      obtain ⟨z33, hz34, H⟩ := bind_elim H
      refine In.step (k' := 2) rfl (by kernel_rfl) ?_
      refine Step.callF (f := 15) (fo := (.func 15)) (xs := #[(.tmp 28)]) (tys := #[23]) (first := #[]) (captured := #[]) (d := (some 29)) (k := 1) (by kernel_rfl) rfl (by kernel_rfl) (by kernel_rfl) Try.call15 (L_wire_Put_walk  pKind1 pA2 pB3 pN4 pM5 w30  z33 hz34) ?_
      rintro e w35 ⟨A37, c38, rfl, hs36⟩
      refine ⟨_, rfl, ?_⟩
      have hs39 := SP.call hs31 hs36
      clear hs36
      have hs40 : SP [] w0 w35 [boxE g12 23 #[(.int .i64 pKind1), (.string ⟨List.toArray pA2⟩), (.string ⟨List.toArray pB3⟩), (.int .i64 pN4), (.int .i64 pM5)], rowT 5 eU8 A37 c38 z33] := hs39
      clear hs39
      refine In.run' 1 (k' := 3) rfl [(10, (.slice A37 (List.length z33) c38))] (by kernel_rfl) ?_
      refine In.fin (by kernel_rfl) ?_
      refine At.seq (by kernel_rfl) (p0 := [true, true, true, true, false]) (p1 := [true, true, true, true, true]) rfl rfl ?_
      refine At.seq (by kernel_rfl) (p0 := [true, true, true, true, false, false]) (p1 := [true, true, true, true, false, true]) rfl rfl ?_
      refine At.join (fun ρ w => ∃ (v48 : Bool), Known ρ [(1, (.slice A7 (List.length p6) c8)), (2, (.int .u16 p10)), (3, (.int .u8 ((p11).toNat : Int))), (4, (.pointer (some ⟨g12, 0, none⟩))), (9, (.bool z16)), (10, (.slice A37 (List.length z33) c38)), (40, (.bool v48))] ∧ SP [] w0 w [boxE g12 23 #[(.int .i64 pKind1), (.string ⟨List.toArray pA2⟩), (.string ⟨List.toArray pB3⟩), (.int .i64 pN4), (.int .i64 pM5)], rowT 5 eU8 A37 c38 z33] ∧ L_subwaylaw05_WireBack_k2 pKind1 pA2 pB3 pN4 pM5 p6 p10 p11 z16 z33 v48 = some r) ?_ ?_
      · refine At.region (by kernel_rfl) (by kernel_rfl) ?_
        refine In.run' 3 (k' := 3) rfl [(30, (.slice A37 (List.length z33) c38)), (31, (.int .i64 ((List.length z33 : Nat) : Int))), (32, (.bool (decide (((List.length z33 : Nat) : Int) > 0))))] (by kernel_rfl) ?_
        refine In.step (k' := 4) rfl (by kernel_rfl) ?_
        refine Step.load (t := 23) (x := (.tmp 4)) (g := g12) (off := 0) (i := 0) (v := (.agg #[(.int .i64 pKind1), (.string ⟨List.toArray pA2⟩), (.string ⟨List.toArray pB3⟩), (.int .i64 pN4), (.int .i64 pM5)])) (d := (some 33)) (k := 3) (by kernel_rfl) rfl (by kernel_rfl) hs40 rfl (by kernel_rfl) ?_
        obtain ⟨z378, hz379, H⟩ := bind_elim H
        refine In.step (k' := 5) rfl (by kernel_rfl) ?_
        refine Step.callF (f := 13) (fo := (.func 13)) (xs := #[(.tmp 33)]) (tys := #[23]) (first := #[]) (captured := #[]) (d := (some 34)) (k := 4) (by kernel_rfl) rfl (by kernel_rfl) (by kernel_rfl) Try.call13 (L_wire_Right_walk  pKind1 pA2 pB3 pN4 pM5 w35  z378 hz379) ?_
        rintro e w380 ⟨rfl, hs381⟩
        refine ⟨_, rfl, ?_⟩
        have hs382 := SP.call hs40 hs381
        clear hs381
        have hs383 : SP [] w0 w380 [boxE g12 23 #[(.int .i64 pKind1), (.string ⟨List.toArray pA2⟩), (.string ⟨List.toArray pB3⟩), (.int .i64 pN4), (.int .i64 pM5)], rowT 5 eU8 A37 c38 z33] := hs382
        clear hs382
        refine In.run' 2 (k' := 7) rfl [(35, (.bool (!((decide (((List.length z33 : Nat) : Int) > 0)) == z378)))), (36, (.bool (!((decide (((List.length z33 : Nat) : Int) > 0)) == z378))))] (by kernel_rfl) ?_
        refine In.guard (t := 36) (b := (!((decide (((List.length z33 : Nat) : Int) > 0)) == z378))) (by kernel_rfl) (fun hb384 => ?_) (fun hb384 => ?_)
        · have H := ct H hb384
          refine In.run' 4 (k' := 11) rfl [(37, undef), (38, undef), (39, undef), (40, (.bool true))] (by kernel_rfl) ?_
          refine In.fin (by kernel_rfl) ?_
          exact ⟨true, ⟨(by kernel_rfl), (by kernel_rfl), (by kernel_rfl), (by kernel_rfl), (by kernel_rfl), (by kernel_rfl), (by kernel_rfl), trivial⟩, SP.sel hs383 [0, 1] rfl rfl, H⟩
        · have H := cf H hb384
          refine In.run' 4 (k' := 11) rfl [(37, (.slice A37 (List.length z33) c38)), (38, (.int .i64 ((List.length z33 : Nat) : Int))), (39, (.bool (decide (((List.length z33 : Nat) : Int) > 200)))), (40, (.bool (decide (((List.length z33 : Nat) : Int) > 200))))] (by kernel_rfl) ?_
          refine In.fin (by kernel_rfl) ?_
          exact ⟨(decide (((List.length z33 : Nat) : Int) > 200)), ⟨(by kernel_rfl), (by kernel_rfl), (by kernel_rfl), (by kernel_rfl), (by kernel_rfl), (by kernel_rfl), (by kernel_rfl), trivial⟩, SP.sel hs383 [0, 1] rfl rfl, H⟩
      · rintro ρ w49 ⟨v48, hk, hs50, H⟩
        unfold L_subwaylaw05_WireBack_k2 at H
        refine At.known [(1, (.slice A7 (List.length p6) c8)), (2, (.int .u16 p10)), (3, (.int .u8 ((p11).toNat : Int))), (4, (.pointer (some ⟨g12, 0, none⟩))), (9, (.bool z16)), (10, (.slice A37 (List.length z33) c38)), (40, (.bool v48))] hk ?_
        refine At.cond (by kernel_rfl) (o := (.tmp 40)) (by kernel_rfl) (b := v48) (by kernel_rfl) (p0 := [true, true, true, true, false, true, false]) (p1 := [true, true, true, true, false, true, true]) rfl rfl (fun hb51 => ?_) (fun hb51 => ?_)
        · have H := ct H hb51
          refine At.seq (by kernel_rfl) (p0 := [true, true, true, true, false, true, false, false]) (p1 := [true, true, true, true, false, true, false, true]) rfl rfl ?_
          refine At.region (by kernel_rfl) (by kernel_rfl) ?_
          refine In.run' 1 (k' := 1) rfl [(8, (.bool false))] (by kernel_rfl) ?_
          refine In.fin (by kernel_rfl) ?_
          refine At.ret (by kernel_rfl) ?_
          refine ⟨(.bool false), by kernel_rfl, ?_⟩
          obtain rfl := some_elim H
          exact ⟨rfl, SP.sel hs50 [] rfl rfl⟩
        · have H := cf H hb51
          refine At.skip (by kernel_rfl) ?_
          refine At.seq (by kernel_rfl) (p0 := [true, true, true, true, true, false]) (p1 := [true, true, true, true, true, true]) rfl rfl ?_
          refine At.seq (by kernel_rfl) (p0 := [true, true, true, true, true, false, false]) (p1 := [true, true, true, true, true, false, true]) rfl rfl ?_
          refine At.region (by kernel_rfl) (by kernel_rfl) ?_
          refine In.run' 3 (k' := 3) rfl [(41, (.slice A37 (List.length z33) c38)), (42, (.int .i64 ((List.length z33 : Nat) : Int))), (43, (.bool (decide (((List.length z33 : Nat) : Int) > 0))))] (by kernel_rfl) ?_
          refine In.fin (by kernel_rfl) ?_
          refine At.join (fun ρ w => Known ρ [(1, (.slice A7 (List.length p6) c8)), (9, (.bool z16))] ∧ SP [] w0 w [] ∧ L_subwaylaw05_WireBack_k4 p6 z16 = some r) ?_ ?_
          · refine At.cond (by kernel_rfl) (o := (.tmp 43)) (by kernel_rfl) (b := (decide (((List.length z33 : Nat) : Int) > 0))) (by kernel_rfl) (p0 := [true, true, true, true, true, false, true, false]) (p1 := [true, true, true, true, true, false, true, true]) rfl rfl (fun hb298 => ?_) (fun hb298 => ?_)
            · have H := ct H hb298
              refine At.seq (by kernel_rfl) (p0 := [true, true, true, true, true, false, true, false, false]) (p1 := [true, true, true, true, true, false, true, false, true]) rfl rfl ?_
              refine At.region (by kernel_rfl) (by kernel_rfl) ?_
              refine In.run' 1 (k' := 1) rfl [(45, (.slice A37 (List.length z33) c38))] (by kernel_rfl) ?_
              obtain ⟨z299, hz300, H⟩ := bind_elim H
              refine In.step (k' := 2) rfl (by kernel_rfl) ?_
              refine Step.callF (f := 11) (fo := (.func 11)) (xs := #[(.tmp 45)]) (tys := #[24]) (first := #[]) (captured := #[]) (d := (some 46)) (k := 1) (by kernel_rfl) rfl (by kernel_rfl) (by kernel_rfl) Try.call11 (L_wire_Get_walk A37 c38 z33 w49 (rowT_rd (SP.get hs50 (i := 1) rfl)) z299 hz300) ?_
              rintro e w301 ⟨rfl, hs302⟩
              refine ⟨_, rfl, ?_⟩
              have hs303 := SP.call hs50 hs302
              clear hs302
              have hs304 : SP [] w0 w301 [boxE g12 23 #[(.int .i64 pKind1), (.string ⟨List.toArray pA2⟩), (.string ⟨List.toArray pB3⟩), (.int .i64 pN4), (.int .i64 pM5)], rowT 5 eU8 A37 c38 z33] := hs303
              clear hs303
              refine In.run' 3 (k' := 5) rfl [(44, (.tuple #[(.agg #[(.int .i64 z299.1), (.string ⟨List.toArray z299.2.1⟩), (.string ⟨List.toArray z299.2.2.1⟩), (.int .i64 z299.2.2.2.1), (.int .i64 z299.2.2.2.2.1)]), (.bool z299.2.2.2.2.2)])), (47, (.agg #[(.int .i64 z299.1), (.string ⟨List.toArray z299.2.1⟩), (.string ⟨List.toArray z299.2.2.1⟩), (.int .i64 z299.2.2.2.1), (.int .i64 z299.2.2.2.2.1)])), (48, (.bool z299.2.2.2.2.2))] (by kernel_rfl) ?_
              refine In.step (k' := 6) rfl (by kernel_rfl) ?_
              refine Step.alloc (t := 23) (z := (.agg #[(.int .i64 0), (.string ⟨List.toArray ([] : List UInt8)⟩), (.string ⟨List.toArray ([] : List UInt8)⟩), (.int .i64 0), (.int .i64 0)])) (d := (some 11)) (k := 5) (by kernel_rfl) rfl (by kernel_rfl) hs304 ?_
              intro g305 w306 hs307
              have hs308 : SP [] w0 w306 [boxE g12 23 #[(.int .i64 pKind1), (.string ⟨List.toArray pA2⟩), (.string ⟨List.toArray pB3⟩), (.int .i64 pN4), (.int .i64 pM5)], rowT 5 eU8 A37 c38 z33, boxE g305 23 #[(.int .i64 0), (.string ⟨List.toArray ([] : List UInt8)⟩), (.string ⟨List.toArray ([] : List UInt8)⟩), (.int .i64 0), (.int .i64 0)]] := hs307
              clear hs307
              refine In.step (k' := 7) rfl (by kernel_rfl) ?_
              refine Step.store (t := 23) (x := (.tmp 11)) (y := (.tmp 47)) (g := g305) (off := 0) (i := 2) (v := (.agg #[(.int .i64 z299.1), (.string ⟨List.toArray z299.2.1⟩), (.string ⟨List.toArray z299.2.2.1⟩), (.int .i64 z299.2.2.2.1), (.int .i64 z299.2.2.2.2.1)])) (cs' := #[(.int .i64 z299.1), (.string ⟨List.toArray z299.2.1⟩), (.string ⟨List.toArray z299.2.2.1⟩), (.int .i64 z299.2.2.2.1), (.int .i64 z299.2.2.2.2.1)]) (d := none) (k := 6) (by kernel_rfl) rfl (by kernel_rfl) (by kernel_rfl) hs308 rfl (by kernel_rfl) ?_
              intro w309 hs310
              have hs311 : SP [] w0 w309 [boxE g12 23 #[(.int .i64 pKind1), (.string ⟨List.toArray pA2⟩), (.string ⟨List.toArray pB3⟩), (.int .i64 pN4), (.int .i64 pM5)], rowT 5 eU8 A37 c38 z33, boxE g305 23 #[(.int .i64 z299.1), (.string ⟨List.toArray z299.2.1⟩), (.string ⟨List.toArray z299.2.2.1⟩), (.int .i64 z299.2.2.2.1), (.int .i64 z299.2.2.2.2.1)]] := hs310
              clear hs310
              refine In.run' 1 (k' := 8) rfl [(12, (.bool z299.2.2.2.2.2))] (by kernel_rfl) ?_
              refine In.fin (by kernel_rfl) ?_
              refine At.seq (by kernel_rfl) (p0 := [true, true, true, true, true, false, true, false, true, false]) (p1 := [true, true, true, true, true, false, true, false, true, true]) rfl rfl ?_
              refine At.region (by kernel_rfl) (by kernel_rfl) ?_
              refine In.run' 5 (k' := 5) rfl [(50, (.slice A37 (List.length z33) c38)), (51, (.int .u16 p10)), (52, (.int .i64 (IntKind.wrap .i64 p10))), (53, (.slice A37 (List.length z33) c38)), (54, (.int .i64 ((List.length z33 : Nat) : Int)))] (by kernel_rfl) ?_
              obtain ⟨hl312, H⟩ := chk_elim H
              refine In.step (k' := 6) rfl (by kernel_rfl) ?_
              refine Step.div (op := .rem) (T := 3) (T' := 3) (x := (.tmp 52)) (y := (.tmp 54)) (kx := .i64) (a := (IntKind.wrap .i64 p10)) (b := ((List.length z33 : Nat) : Int)) (v := (.int .i64 (Int.tmod (IntKind.wrap .i64 p10) ((List.length z33 : Nat) : Int)))) (d := (some 55)) (k := 5) (by kernel_rfl) rfl (by kernel_rfl) (by kernel_rfl) hl312 rfl ?_
              obtain ⟨hz313, hz314, hz315, H⟩ := sub_elim H
              obtain ⟨l316, hyl316⟩ : ∃ y, (List.drop (Int.toNat 0) (List.take (Int.toNat (Int.tmod (IntKind.wrap .i64 p10) ((List.length z33 : Nat) : Int))) z33)) = y := ⟨_, rfl⟩
              rw [hyl316] at H
              refine In.step (k' := 7) rfl (by kernel_rfl) ?_
              refine Step.slice (e := eU8) (l := z33) (A := A37) (c := c38) (T := 24) (E := 5) (x := (.tmp 50)) (lo := none) (hi := (some (.tmp 55))) (i := 0) (j := (Int.tmod (IntKind.wrap .i64 p10) ((List.length z33 : Nat) : Int))) (d := (some 56)) (k := 6) (by kernel_rfl) rfl (by kernel_rfl) (by kernel_rfl) (by kernel_rfl) rfl ⟨.i64, by kernel_rfl⟩ (RdX.le (rowT_rd (SP.get hs311 (i := 1) rfl))) hz313 hz314 hz315 ?_
              intro A317 c318 _ _ hcut319
              rw [hyl316] at hcut319 ⊢
              obtain ⟨z320, hz321, H⟩ := bind_elim H
              refine In.step (k' := 8) rfl (by kernel_rfl) ?_
              refine Step.callF (f := 11) (fo := (.func 11)) (xs := #[(.tmp 56)]) (tys := #[24]) (first := #[]) (captured := #[]) (d := (some 57)) (k := 7) (by kernel_rfl) rfl (by kernel_rfl) (by kernel_rfl) Try.call11 (L_wire_Get_walk A317 c318 l316 w309 (hcut319 w309 (rowT_rd (SP.get hs311 (i := 1) rfl))) z320 hz321) ?_
              rintro e w322 ⟨rfl, hs323⟩
              refine ⟨_, rfl, ?_⟩
              have hs324 := SP.call hs311 hs323
              clear hs323
              have hs325 : SP [] w0 w322 [boxE g12 23 #[(.int .i64 pKind1), (.string ⟨List.toArray pA2⟩), (.string ⟨List.toArray pB3⟩), (.int .i64 pN4), (.int .i64 pM5)], rowT 5 eU8 A37 c38 z33, boxE g305 23 #[(.int .i64 z299.1), (.string ⟨List.toArray z299.2.1⟩), (.string ⟨List.toArray z299.2.2.1⟩), (.int .i64 z299.2.2.2.1), (.int .i64 z299.2.2.2.2.1)]] := hs324
              clear hs324
              refine In.run' 3 (k' := 11) rfl [(49, (.tuple #[(.agg #[(.int .i64 z320.1), (.string ⟨List.toArray z320.2.1⟩), (.string ⟨List.toArray z320.2.2.1⟩), (.int .i64 z320.2.2.2.1), (.int .i64 z320.2.2.2.2.1)]), (.bool z320.2.2.2.2.2)])), (58, (.agg #[(.int .i64 z320.1), (.string ⟨List.toArray z320.2.1⟩), (.string ⟨List.toArray z320.2.2.1⟩), (.int .i64 z320.2.2.2.1), (.int .i64 z320.2.2.2.2.1)])), (59, (.bool z320.2.2.2.2.2))] (by kernel_rfl) ?_
              refine In.step (k' := 12) rfl (by kernel_rfl) ?_
              refine Step.alloc (t := 23) (z := (.agg #[(.int .i64 0), (.string ⟨List.toArray ([] : List UInt8)⟩), (.string ⟨List.toArray ([] : List UInt8)⟩), (.int .i64 0), (.int .i64 0)])) (d := (some 13)) (k := 11) (by kernel_rfl) rfl (by kernel_rfl) hs325 ?_
              intro g326 w327 hs328
              have hs329 : SP [] w0 w327 [boxE g12 23 #[(.int .i64 pKind1), (.string ⟨List.toArray pA2⟩), (.string ⟨List.toArray pB3⟩), (.int .i64 pN4), (.int .i64 pM5)], rowT 5 eU8 A37 c38 z33, boxE g305 23 #[(.int .i64 z299.1), (.string ⟨List.toArray z299.2.1⟩), (.string ⟨List.toArray z299.2.2.1⟩), (.int .i64 z299.2.2.2.1), (.int .i64 z299.2.2.2.2.1)], boxE g326 23 #[(.int .i64 0), (.string ⟨List.toArray ([] : List UInt8)⟩), (.string ⟨List.toArray ([] : List UInt8)⟩), (.int .i64 0), (.int .i64 0)]] := hs328
              clear hs328
              refine In.step (k' := 13) rfl (by kernel_rfl) ?_
              refine Step.store (t := 23) (x := (.tmp 13)) (y := (.tmp 58)) (g := g326) (off := 0) (i := 3) (v := (.agg #[(.int .i64 z320.1), (.string ⟨List.toArray z320.2.1⟩), (.string ⟨List.toArray z320.2.2.1⟩), (.int .i64 z320.2.2.2.1), (.int .i64 z320.2.2.2.2.1)])) (cs' := #[(.int .i64 z320.1), (.string ⟨List.toArray z320.2.1⟩), (.string ⟨List.toArray z320.2.2.1⟩), (.int .i64 z320.2.2.2.1), (.int .i64 z320.2.2.2.2.1)]) (d := none) (k := 12) (by kernel_rfl) rfl (by kernel_rfl) (by kernel_rfl) hs329 rfl (by kernel_rfl) ?_
              intro w330 hs331
              have hs332 : SP [] w0 w330 [boxE g12 23 #[(.int .i64 pKind1), (.string ⟨List.toArray pA2⟩), (.string ⟨List.toArray pB3⟩), (.int .i64 pN4), (.int .i64 pM5)], rowT 5 eU8 A37 c38 z33, boxE g305 23 #[(.int .i64 z299.1), (.string ⟨List.toArray z299.2.1⟩), (.string ⟨List.toArray z299.2.2.1⟩), (.int .i64 z299.2.2.2.1), (.int .i64 z299.2.2.2.2.1)], boxE g326 23 #[(.int .i64 z320.1), (.string ⟨List.toArray z320.2.1⟩), (.string ⟨List.toArray z320.2.2.1⟩), (.int .i64 z320.2.2.2.1), (.int .i64 z320.2.2.2.2.1)]] := hs331
              clear hs331
              refine In.run' 1 (k' := 14) rfl [(14, (.bool z320.2.2.2.2.2))] (by kernel_rfl) ?_
              refine In.fin (by kernel_rfl) ?_
              refine At.seq (by kernel_rfl) (p0 := [true, true, true, true, true, false, true, false, true, true, false]) (p1 := [true, true, true, true, true, false, true, false, true, true, true]) rfl rfl ?_
              refine At.region (by kernel_rfl) (by kernel_rfl) ?_
              refine In.step (k' := 1) rfl (by kernel_rfl) ?_
              refine Step.newSlice (e := eU8) (T := 24) (E := 5) (len := 0) (parts := #[]) (cs := #[]) ([] : List UInt8) (d := (some 61)) (k := 0) (by kernel_rfl) rfl (fun _ => by kernel_rfl) hs332 rfl rfl rfl rfl ?_
              intro g333 w334 hs335
              have hs336 : SP [] w0 w334 [boxE g12 23 #[(.int .i64 pKind1), (.string ⟨List.toArray pA2⟩), (.string ⟨List.toArray pB3⟩), (.int .i64 pN4), (.int .i64 pM5)], rowT 5 eU8 A37 c38 z33, boxE g305 23 #[(.int .i64 z299.1), (.string ⟨List.toArray z299.2.1⟩), (.string ⟨List.toArray z299.2.2.1⟩), (.int .i64 z299.2.2.2.1), (.int .i64 z299.2.2.2.2.1)], boxE g326 23 #[(.int .i64 z320.1), (.string ⟨List.toArray z320.2.1⟩), (.string ⟨List.toArray z320.2.2.1⟩), (.int .i64 z320.2.2.2.1), (.int .i64 z320.2.2.2.2.1)], rowT 5 eU8 (some ⟨g333, 0, none⟩) (List.length ([] : List UInt8)) ([] : List UInt8)] := hs335
              clear hs335
              refine In.run' 1 (k' := 2) rfl [(62, (.slice A37 (List.length z33) c38))] (by kernel_rfl) ?_
              obtain ⟨hl337, H⟩ := app_elim H
              obtain ⟨l338, hyl338⟩ : ∃ y, ([] : List UInt8) ++ z33 = y := ⟨_, rfl⟩
              rw [hyl338] at H
              refine In.step (k' := 3) rfl (by kernel_rfl) ?_
              refine Step.append (e := eU8) (l := ([] : List UInt8)) (m := z33) (A := (some ⟨g333, 0, none⟩)) (c := (List.length ([] : List UInt8))) (T := 24) (TX := 24) (E := 5) (b := 1) (s := (.tmp 61)) (x := (.tmp 62)) (i := 4) (vx := (.slice A37 (List.length z33) c38)) (d := (some 63)) (k := 2) (by kernel_rfl) rfl (by kernel_rfl) (by kernel_rfl) (by kernel_rfl) (by kernel_rfl) rfl hs336 rfl (src_rdt (E := 5) (by kernel_rfl) (rowT_rd (SP.get hs336 (i := 1) rfl))) hl337 ?_
              rw [hyl338]
              intro A339 c340 w341 hs342
              have hs343 : SP [] w0 w341 [boxE g12 23 #[(.int .i64 pKind1), (.string ⟨List.toArray pA2⟩), (.string ⟨List.toArray pB3⟩), (.int .i64 pN4), (.int .i64 pM5)], rowT 5 eU8 A37 c38 z33, boxE g305 23 #[(.int .i64 z299.1), (.string ⟨List.toArray z299.2.1⟩), (.string ⟨List.toArray z299.2.2.1⟩), (.int .i64 z299.2.2.2.1), (.int .i64 z299.2.2.2.2.1)], boxE g326 23 #[(.int .i64 z320.1), (.string ⟨List.toArray z320.2.1⟩), (.string ⟨List.toArray z320.2.2.1⟩), (.int .i64 z320.2.2.2.1), (.int .i64 z320.2.2.2.2.1)], rowT 5 eU8 A339 c340 l338] := hs342
              clear hs342
              refine In.run' 1 (k' := 4) rfl [(64, (.int .u8 ((p11).toNat : Int)))] (by kernel_rfl) ?_
              refine In.step (k' := 5) rfl (by kernel_rfl) ?_
              refine Step.newSlice (e := eU8) (T := 24) (E := 5) (len := 1) (parts := #[(0, (.tmp 64))]) (cs := #[(.int .u8 ((p11).toNat : Int))]) ([p11] : List UInt8) (d := (some 65)) (k := 4) (by kernel_rfl) rfl (fun _ => by kernel_rfl) hs343 (cells_cons8 (Or.inl rfl) rfl) rfl rfl rfl ?_
              intro g344 w345 hs346
              have hs347 : SP [] w0 w345 [boxE g12 23 #[(.int .i64 pKind1), (.string ⟨List.toArray pA2⟩), (.string ⟨List.toArray pB3⟩), (.int .i64 pN4), (.int .i64 pM5)], rowT 5 eU8 A37 c38 z33, boxE g305 23 #[(.int .i64 z299.1), (.string ⟨List.toArray z299.2.1⟩), (.string ⟨List.toArray z299.2.2.1⟩), (.int .i64 z299.2.2.2.1), (.int .i64 z299.2.2.2.2.1)], boxE g326 23 #[(.int .i64 z320.1), (.string ⟨List.toArray z320.2.1⟩), (.string ⟨List.toArray z320.2.2.1⟩), (.int .i64 z320.2.2.2.1), (.int .i64 z320.2.2.2.2.1)], rowT 5 eU8 A339 c340 l338, rowT 5 eU8 (some ⟨g344, 0, none⟩) (List.length ([p11] : List UInt8)) ([p11] : List UInt8)] := hs346
              clear hs346
              obtain ⟨hl348, H⟩ := app_elim H
              obtain ⟨l349, hyl349⟩ : ∃ y, l338 ++ ([p11] : List UInt8) = y := ⟨_, rfl⟩
              rw [hyl349] at H
              refine In.step (k' := 6) rfl (by kernel_rfl) ?_
              refine Step.append (e := eU8) (l := l338) (m := ([p11] : List UInt8)) (A := A339) (c := c340) (T := 24) (TX := 24) (E := 5) (b := 1) (s := (.tmp 63)) (x := (.tmp 65)) (i := 4) (vx := (.slice (some ⟨g344, 0, none⟩) (List.length ([p11] : List UInt8)) (List.length ([p11] : List UInt8)))) (d := (some 66)) (k := 5) (by kernel_rfl) rfl (by kernel_rfl) (by kernel_rfl) (by kernel_rfl) (by kernel_rfl) rfl hs347 rfl (src_rdt (E := 5) (by kernel_rfl) (rowT_rd (SP.get hs347 (i := 5) rfl))) hl348 ?_
              rw [hyl349]
              intro A350 c351 w352 hs353
              have hs354 : SP [] w0 w352 [boxE g12 23 #[(.int .i64 pKind1), (.string ⟨List.toArray pA2⟩), (.string ⟨List.toArray pB3⟩), (.int .i64 pN4), (.int .i64 pM5)], rowT 5 eU8 A37 c38 z33, boxE g305 23 #[(.int .i64 z299.1), (.string ⟨List.toArray z299.2.1⟩), (.string ⟨List.toArray z299.2.2.1⟩), (.int .i64 z299.2.2.2.1), (.int .i64 z299.2.2.2.2.1)], boxE g326 23 #[(.int .i64 z320.1), (.string ⟨List.toArray z320.2.1⟩), (.string ⟨List.toArray z320.2.2.1⟩), (.int .i64 z320.2.2.2.1), (.int .i64 z320.2.2.2.2.1)], rowT 5 eU8 A350 c351 l349, rowT 5 eU8 (some ⟨g344, 0, none⟩) (List.length ([p11] : List UInt8)) ([p11] : List UInt8)] := hs353
              clear hs353
              obtain ⟨z355, hz356, H⟩ := bind_elim H
              refine In.step (k' := 7) rfl (by kernel_rfl) ?_
              refine Step.callF (f := 11) (fo := (.func 11)) (xs := #[(.tmp 66)]) (tys := #[24]) (first := #[]) (captured := #[]) (d := (some 67)) (k := 6) (by kernel_rfl) rfl (by kernel_rfl) (by kernel_rfl) Try.call11 (L_wire_Get_walk A350 c351 l349 w352 (rowT_rd (SP.get hs354 (i := 4) rfl)) z355 hz356) ?_
              rintro e w357 ⟨rfl, hs358⟩
              refine ⟨_, rfl, ?_⟩
              have hs359 := SP.call hs354 hs358
              clear hs358
              have hs360 : SP [] w0 w357 [boxE g12 23 #[(.int .i64 pKind1), (.string ⟨List.toArray pA2⟩), (.string ⟨List.toArray pB3⟩), (.int .i64 pN4), (.int .i64 pM5)], rowT 5 eU8 A37 c38 z33, boxE g305 23 #[(.int .i64 z299.1), (.string ⟨List.toArray z299.2.1⟩), (.string ⟨List.toArray z299.2.2.1⟩), (.int .i64 z299.2.2.2.1), (.int .i64 z299.2.2.2.2.1)], boxE g326 23 #[(.int .i64 z320.1), (.string ⟨List.toArray z320.2.1⟩), (.string ⟨List.toArray z320.2.2.1⟩), (.int .i64 z320.2.2.2.1), (.int .i64 z320.2.2.2.2.1)], rowT 5 eU8 A350 c351 l349, rowT 5 eU8 (some ⟨g344, 0, none⟩) (List.length ([p11] : List UInt8)) ([p11] : List UInt8)] := hs359
              clear hs359
              refine In.run' 3 (k' := 10) rfl [(60, (.tuple #[(.agg #[(.int .i64 z355.1), (.string ⟨List.toArray z355.2.1⟩), (.string ⟨List.toArray z355.2.2.1⟩), (.int .i64 z355.2.2.2.1), (.int .i64 z355.2.2.2.2.1)]), (.bool z355.2.2.2.2.2)])), (68, (.agg #[(.int .i64 z355.1), (.string ⟨List.toArray z355.2.1⟩), (.string ⟨List.toArray z355.2.2.1⟩), (.int .i64 z355.2.2.2.1), (.int .i64 z355.2.2.2.2.1)])), (69, (.bool z355.2.2.2.2.2))] (by kernel_rfl) ?_
              refine In.step (k' := 11) rfl (by kernel_rfl) ?_
              refine Step.alloc (t := 23) (z := (.agg #[(.int .i64 0), (.string ⟨List.toArray ([] : List UInt8)⟩), (.string ⟨List.toArray ([] : List UInt8)⟩), (.int .i64 0), (.int .i64 0)])) (d := (some 15)) (k := 10) (by kernel_rfl) rfl (by kernel_rfl) hs360 ?_
              intro g361 w362 hs363
              have hs364 : SP [] w0 w362 [boxE g12 23 #[(.int .i64 pKind1), (.string ⟨List.toArray pA2⟩), (.string ⟨List.toArray pB3⟩), (.int .i64 pN4), (.int .i64 pM5)], rowT 5 eU8 A37 c38 z33, boxE g305 23 #[(.int .i64 z299.1), (.string ⟨List.toArray z299.2.1⟩), (.string ⟨List.toArray z299.2.2.1⟩), (.int .i64 z299.2.2.2.1), (.int .i64 z299.2.2.2.2.1)], boxE g326 23 #[(.int .i64 z320.1), (.string ⟨List.toArray z320.2.1⟩), (.string ⟨List.toArray z320.2.2.1⟩), (.int .i64 z320.2.2.2.1), (.int .i64 z320.2.2.2.2.1)], rowT 5 eU8 A350 c351 l349, rowT 5 eU8 (some ⟨g344, 0, none⟩) (List.length ([p11] : List UInt8)) ([p11] : List UInt8), boxE g361 23 #[(.int .i64 0), (.string ⟨List.toArray ([] : List UInt8)⟩), (.string ⟨List.toArray ([] : List UInt8)⟩), (.int .i64 0), (.int .i64 0)]] := hs363
              clear hs363
              refine In.step (k' := 12) rfl (by kernel_rfl) ?_
              refine Step.store (t := 23) (x := (.tmp 15)) (y := (.tmp 68)) (g := g361) (off := 0) (i := 6) (v := (.agg #[(.int .i64 z355.1), (.string ⟨List.toArray z355.2.1⟩), (.string ⟨List.toArray z355.2.2.1⟩), (.int .i64 z355.2.2.2.1), (.int .i64 z355.2.2.2.2.1)])) (cs' := #[(.int .i64 z355.1), (.string ⟨List.toArray z355.2.1⟩), (.string ⟨List.toArray z355.2.2.1⟩), (.int .i64 z355.2.2.2.1), (.int .i64 z355.2.2.2.2.1)]) (d := none) (k := 11) (by kernel_rfl) rfl (by kernel_rfl) (by kernel_rfl) hs364 rfl (by kernel_rfl) ?_
              intro w365 hs366
              have hs367 : SP [] w0 w365 [boxE g12 23 #[(.int .i64 pKind1), (.string ⟨List.toArray pA2⟩), (.string ⟨List.toArray pB3⟩), (.int .i64 pN4), (.int .i64 pM5)], rowT 5 eU8 A37 c38 z33, boxE g305 23 #[(.int .i64 z299.1), (.string ⟨List.toArray z299.2.1⟩), (.string ⟨List.toArray z299.2.2.1⟩), (.int .i64 z299.2.2.2.1), (.int .i64 z299.2.2.2.2.1)], boxE g326 23 #[(.int .i64 z320.1), (.string ⟨List.toArray z320.2.1⟩), (.string ⟨List.toArray z320.2.2.1⟩), (.int .i64 z320.2.2.2.1), (.int .i64 z320.2.2.2.2.1)], rowT 5 eU8 A350 c351 l349, rowT 5 eU8 (some ⟨g344, 0, none⟩) (List.length ([p11] : List UInt8)) ([p11] : List UInt8), boxE g361 23 #[(.int .i64 z355.1), (.string ⟨List.toArray z355.2.1⟩), (.string ⟨List.toArray z355.2.2.1⟩), (.int .i64 z355.2.2.2.1), (.int .i64 z355.2.2.2.2.1)]] := hs366
              clear hs366
              refine In.run' 1 (k' := 13) rfl [(16, (.bool z355.2.2.2.2.2))] (by kernel_rfl) ?_
              refine In.fin (by kernel_rfl) ?_
              refine At.seq (by kernel_rfl) (p0 := [true, true, true, true, true, false, true, false, true, true, true, false]) (p1 := [true, true, true, true, true, false, true, false, true, true, true, true]) rfl rfl ?_
              refine At.join (fun ρ w => ∃ (v371 : Bool), Known ρ [(1, (.slice A7 (List.length p6) c8)), (9, (.bool z16)), (82, (.bool v371))] ∧ SP [] w0 w [] ∧ L_subwaylaw05_WireBack_k7 p6 z16 v371 = some r) ?_ ?_
              · refine At.region (by kernel_rfl) (by kernel_rfl) ?_
                refine In.run' 3 (k' := 3) rfl [(70, (.bool z299.2.2.2.2.2)), (71, (.bool (!z299.2.2.2.2.2))), (72, (.bool (!z299.2.2.2.2.2)))] (by kernel_rfl) ?_
                refine In.guard (t := 72) (b := (!z299.2.2.2.2.2)) (by kernel_rfl) (fun hb375 => ?_) (fun hb375 => ?_)
                · have H := ct H hb375
                  refine In.run' 10 (k' := 13) rfl [(73, undef), (74, undef), (75, undef), (76, (.bool true)), (77, (.bool true)), (78, undef), (79, (.bool true)), (80, (.bool true)), (81, undef), (82, (.bool true))] (by kernel_rfl) ?_
                  refine In.fin (by kernel_rfl) ?_
                  exact ⟨true, ⟨(by kernel_rfl), (by kernel_rfl), (by kernel_rfl), trivial⟩, SP.sel hs367 [] rfl rfl, H⟩
                · have H := cf H hb375
                  refine In.step (k' := 4) rfl (by kernel_rfl) ?_
                  refine Step.load (t := 23) (x := (.tmp 11)) (g := g305) (off := 0) (i := 2) (v := (.agg #[(.int .i64 z299.1), (.string ⟨List.toArray z299.2.1⟩), (.string ⟨List.toArray z299.2.2.1⟩), (.int .i64 z299.2.2.2.1), (.int .i64 z299.2.2.2.2.1)])) (d := (some 73)) (k := 3) (by kernel_rfl) rfl (by kernel_rfl) hs367 rfl (by kernel_rfl) ?_
                  refine In.step (k' := 5) rfl (by kernel_rfl) ?_
                  refine Step.load (t := 23) (x := (.tmp 4)) (g := g12) (off := 0) (i := 0) (v := (.agg #[(.int .i64 pKind1), (.string ⟨List.toArray pA2⟩), (.string ⟨List.toArray pB3⟩), (.int .i64 pN4), (.int .i64 pM5)])) (d := (some 74)) (k := 4) (by kernel_rfl) rfl (by kernel_rfl) hs367 rfl (by kernel_rfl) ?_
                  refine In.step (k' := 6) rfl (by kernel_rfl) ?_
                  refine Step.bin (op := .neq) (T := 23) (T' := 23) (x := (.tmp 73)) (y := (.tmp 74)) (vx := (.agg #[(.int .i64 z299.1), (.string ⟨List.toArray z299.2.1⟩), (.string ⟨List.toArray z299.2.2.1⟩), (.int .i64 z299.2.2.2.1), (.int .i64 z299.2.2.2.2.1)])) (vy := (.agg #[(.int .i64 pKind1), (.string ⟨List.toArray pA2⟩), (.string ⟨List.toArray pB3⟩), (.int .i64 pN4), (.int .i64 pM5)])) (v := (.bool (!((z299.1 == pKind1) && ((z299.2.1 == pA2) && ((z299.2.2.1 == pB3) && ((z299.2.2.2.1 == pN4) && (z299.2.2.2.2.1 == pM5)))))))) (d := (some 75)) (k := 5) (by kernel_rfl) rfl (by kernel_rfl) (by kernel_rfl) (by clear H; intro w; simp only [beq_dec]; go_simp; simp only [struct_ifn, struct_ifn0, struct_if, beq_dec, Bool.and_true] <;> simp only [Bool.not_and]) ?_
                  refine In.run' 2 (k' := 8) rfl [(76, (.bool (!((z299.1 == pKind1) && ((z299.2.1 == pA2) && ((z299.2.2.1 == pB3) && ((z299.2.2.2.1 == pN4) && (z299.2.2.2.2.1 == pM5)))))))), (77, (.bool (!((z299.1 == pKind1) && ((z299.2.1 == pA2) && ((z299.2.2.1 == pB3) && ((z299.2.2.2.1 == pN4) && (z299.2.2.2.2.1 == pM5))))))))] (by kernel_rfl) ?_
                  refine In.guard (t := 77) (b := (!((z299.1 == pKind1) && ((z299.2.1 == pA2) && ((z299.2.2.1 == pB3) && ((z299.2.2.2.1 == pN4) && (z299.2.2.2.2.1 == pM5))))))) (by kernel_rfl) (fun hb376 => ?_) (fun hb376 => ?_)
                  · have H := ct H hb376
                    refine In.run' 5 (k' := 13) rfl [(78, undef), (79, (.bool true)), (80, (.bool true)), (81, undef), (82, (.bool true))] (by kernel_rfl) ?_
                    refine In.fin (by kernel_rfl) ?_
                    exact ⟨true, ⟨(by kernel_rfl), (by kernel_rfl), (by kernel_rfl), trivial⟩, SP.sel hs367 [] rfl rfl, H⟩
                  · have H := cf H hb376
                    refine In.run' 3 (k' := 11) rfl [(78, (.bool z320.2.2.2.2.2)), (79, (.bool z320.2.2.2.2.2)), (80, (.bool z320.2.2.2.2.2))] (by kernel_rfl) ?_
                    refine In.guard (t := 80) (b := z320.2.2.2.2.2) (by kernel_rfl) (fun hb377 => ?_) (fun hb377 => ?_)
                    · have H := ct H hb377
                      refine In.run' 2 (k' := 13) rfl [(81, undef), (82, (.bool true))] (by kernel_rfl) ?_
                      refine In.fin (by kernel_rfl) ?_
                      exact ⟨true, ⟨(by kernel_rfl), (by kernel_rfl), (by kernel_rfl), trivial⟩, SP.sel hs367 [] rfl rfl, H⟩
                    · have H := cf H hb377
                      refine In.run' 2 (k' := 13) rfl [(81, (.bool z355.2.2.2.2.2)), (82, (.bool z355.2.2.2.2.2))] (by kernel_rfl) ?_
                      refine In.fin (by kernel_rfl) ?_
                      exact ⟨z355.2.2.2.2.2, ⟨(by kernel_rfl), (by kernel_rfl), (by kernel_rfl), trivial⟩, SP.sel hs367 [] rfl rfl, H⟩
              · rintro ρ w372 ⟨v371, hk, hs373, H⟩
                unfold L_subwaylaw05_WireBack_k7 at H
                refine At.known [(1, (.slice A7 (List.length p6) c8)), (9, (.bool z16)), (82, (.bool v371))] hk ?_
                refine At.cond (by kernel_rfl) (o := (.tmp 82)) (by kernel_rfl) (b := v371) (by kernel_rfl) (p0 := [true, true, true, true, true, false, true, false, true, true, true, true, false]) (p1 := [true, true, true, true, true, false, true, false, true, true, true, true, true]) rfl rfl (fun hb374 => ?_) (fun hb374 => ?_)
                · have H := ct H hb374
                  refine At.seq (by kernel_rfl) (p0 := [true, true, true, true, true, false, true, false, true, true, true, true, false, false]) (p1 := [true, true, true, true, true, false, true, false, true, true, true, true, false, true]) rfl rfl ?_
                  refine At.region (by kernel_rfl) (by kernel_rfl) ?_
                  refine In.run' 1 (k' := 1) rfl [(8, (.bool false))] (by kernel_rfl) ?_
                  refine In.fin (by kernel_rfl) ?_
                  refine At.ret (by kernel_rfl) ?_
                  refine ⟨(.bool false), by kernel_rfl, ?_⟩
                  obtain rfl := some_elim H
                  exact ⟨rfl, SP.sel hs373 [] rfl rfl⟩
                · have H := cf H hb374
                  refine At.skip (by kernel_rfl) ?_
                  exact ⟨⟨(by kernel_rfl), (by kernel_rfl), trivial⟩, SP.sel hs373 [] rfl rfl, H⟩
            · have H := cf H hb298
              refine At.skip (by kernel_rfl) ?_
              exact ⟨⟨(by kernel_rfl), (by kernel_rfl), trivial⟩, SP.sel hs50 [] rfl rfl, H⟩
          · rintro ρ w132 ⟨hk, hs133, H⟩
            unfold L_subwaylaw05_WireBack_k4 at H
            refine At.known [(1, (.slice A7 (List.length p6) c8)), (9, (.bool z16))] hk ?_
            refine At.seq (by kernel_rfl) (p0 := [true, true, true, true, true, true, false]) (p1 := [true, true, true, true, true, true, true]) rfl rfl ?_
            refine At.region (by kernel_rfl) (by kernel_rfl) ?_
            refine In.run' 1 (k' := 1) rfl [(84, (.slice A7 (List.length p6) c8))] (by kernel_rfl) ?_
            obtain ⟨z134, hz135, H⟩ := bind_elim H
            refine In.step (k' := 2) rfl (by kernel_rfl) ?_
            refine Step.callF (f := 11) (fo := (.func 11)) (xs := #[(.tmp 84)]) (tys := #[24]) (first := #[]) (captured := #[]) (d := (some 85)) (k := 1) (by kernel_rfl) rfl (by kernel_rfl) (by kernel_rfl) Try.call11 (L_wire_Get_walk A7 c8 p6 w132 (RdT.sp hr9 hs133) z134 hz135) ?_
            rintro e w136 ⟨rfl, hs137⟩
            refine ⟨_, rfl, ?_⟩
            have hs138 := SP.call hs133 hs137
            clear hs137
            have hs139 : SP [] w0 w136 [] := hs138
            clear hs138
            refine In.run' 3 (k' := 5) rfl [(83, (.tuple #[(.agg #[(.int .i64 z134.1), (.string ⟨List.toArray z134.2.1⟩), (.string ⟨List.toArray z134.2.2.1⟩), (.int .i64 z134.2.2.2.1), (.int .i64 z134.2.2.2.2.1)]), (.bool z134.2.2.2.2.2)])), (86, (.agg #[(.int .i64 z134.1), (.string ⟨List.toArray z134.2.1⟩), (.string ⟨List.toArray z134.2.2.1⟩), (.int .i64 z134.2.2.2.1), (.int .i64 z134.2.2.2.2.1)])), (87, (.bool z134.2.2.2.2.2))] (by kernel_rfl) ?_
            refine In.step (k' := 6) rfl (by kernel_rfl) ?_
            refine Step.alloc (t := 23) (z := (.agg #[(.int .i64 0), (.string ⟨List.toArray ([] : List UInt8)⟩), (.string ⟨List.toArray ([] : List UInt8)⟩), (.int .i64 0), (.int .i64 0)])) (d := (some 17)) (k := 5) (by kernel_rfl) rfl (by kernel_rfl) hs139 ?_
            intro g140 w141 hs142
            have hs143 : SP [] w0 w141 [boxE g140 23 #[(.int .i64 0), (.string ⟨List.toArray ([] : List UInt8)⟩), (.string ⟨List.toArray ([] : List UInt8)⟩), (.int .i64 0), (.int .i64 0)]] := hs142
            clear hs142
            refine In.step (k' := 7) rfl (by kernel_rfl) ?_
            refine Step.store (t := 23) (x := (.tmp 17)) (y := (.tmp 86)) (g := g140) (off := 0) (i := 0) (v := (.agg #[(.int .i64 z134.1), (.string ⟨List.toArray z134.2.1⟩), (.string ⟨List.toArray z134.2.2.1⟩), (.int .i64 z134.2.2.2.1), (.int .i64 z134.2.2.2.2.1)])) (cs' := #[(.int .i64 z134.1), (.string ⟨List.toArray z134.2.1⟩), (.string ⟨List.toArray z134.2.2.1⟩), (.int .i64 z134.2.2.2.1), (.int .i64 z134.2.2.2.2.1)]) (d := none) (k := 6) (by kernel_rfl) rfl (by kernel_rfl) (by kernel_rfl) hs143 rfl (by kernel_rfl) ?_
            intro w144 hs145
            have hs146 : SP [] w0 w144 [boxE g140 23 #[(.int .i64 z134.1), (.string ⟨List.toArray z134.2.1⟩), (.string ⟨List.toArray z134.2.2.1⟩), (.int .i64 z134.2.2.2.1), (.int .i64 z134.2.2.2.2.1)]] := hs145
            clear hs145
            refine In.run' 1 (k' := 8) rfl [(18, (.bool z134.2.2.2.2.2))] (by kernel_rfl) ?_
            refine In.fin (by kernel_rfl) ?_
            refine At.seq (by kernel_rfl) (p0 := [true, true, true, true, true, true, true, false]) (p1 := [true, true, true, true, true, true, true, true]) rfl rfl ?_
            refine At.seq (by kernel_rfl) (p0 := [true, true, true, true, true, true, true, false, false]) (p1 := [true, true, true, true, true, true, true, false, true]) rfl rfl ?_
            refine At.region (by kernel_rfl) (by kernel_rfl) ?_
            refine In.run' 2 (k' := 2) rfl [(88, (.bool z134.2.2.2.2.2)), (89, (.bool (!z134.2.2.2.2.2)))] (by kernel_rfl) ?_
            refine In.fin (by kernel_rfl) ?_
            refine At.cond (by kernel_rfl) (o := (.tmp 89)) (by kernel_rfl) (b := (!z134.2.2.2.2.2)) (by kernel_rfl) (p0 := [true, true, true, true, true, true, true, false, true, false]) (p1 := [true, true, true, true, true, true, true, false, true, true]) rfl rfl (fun hb147 => ?_) (fun hb147 => ?_)
            · have H := ct H hb147
              refine At.seq (by kernel_rfl) (p0 := [true, true, true, true, true, true, true, false, true, false, false]) (p1 := [true, true, true, true, true, true, true, false, true, false, true]) rfl rfl ?_
              refine At.join (fun ρ w => ∃ (v149 : Bool), Known ρ [(8, (.bool v149))] ∧ SP [] w0 w [] ∧ L_subwaylaw05_WireBack_k5 v149 = some r) ?_ ?_
              · refine At.region (by kernel_rfl) (by kernel_rfl) ?_
                refine In.run' 2 (k' := 2) rfl [(90, (.bool z16)), (91, (.bool z16))] (by kernel_rfl) ?_
                refine In.guard (t := 91) (b := z16) (by kernel_rfl) (fun hb152 => ?_) (fun hb152 => ?_)
                · have H := ct H hb152
                  refine In.step (k' := 3) rfl (by kernel_rfl) ?_
                  refine Step.load (t := 23) (x := (.tmp 17)) (g := g140) (off := 0) (i := 0) (v := (.agg #[(.int .i64 z134.1), (.string ⟨List.toArray z134.2.1⟩), (.string ⟨List.toArray z134.2.2.1⟩), (.int .i64 z134.2.2.2.1), (.int .i64 z134.2.2.2.2.1)])) (d := (some 92)) (k := 2) (by kernel_rfl) rfl (by kernel_rfl) hs146 rfl (by kernel_rfl) ?_
                  refine In.run' 1 (k' := 4) rfl [(93, (.agg #[(.int .i64 0), (.string ⟨List.toArray ([] : List UInt8)⟩), (.string ⟨List.toArray ([] : List UInt8)⟩), (.int .i64 0), (.int .i64 0)]))] (by kernel_rfl) ?_
                  refine In.step (k' := 5) rfl (by kernel_rfl) ?_
                  refine Step.bin (op := .eql) (T := 23) (T' := 23) (x := (.tmp 92)) (y := (.tmp 93)) (vx := (.agg #[(.int .i64 z134.1), (.string ⟨List.toArray z134.2.1⟩), (.string ⟨List.toArray z134.2.2.1⟩), (.int .i64 z134.2.2.2.1), (.int .i64 z134.2.2.2.2.1)])) (vy := (.agg #[(.int .i64 0), (.string ⟨List.toArray ([] : List UInt8)⟩), (.string ⟨List.toArray ([] : List UInt8)⟩), (.int .i64 0), (.int .i64 0)])) (v := (.bool ((z134.1 == 0) && ((z134.2.1 == ([] : List UInt8)) && ((z134.2.2.1 == ([] : List UInt8)) && ((z134.2.2.2.1 == 0) && (z134.2.2.2.2.1 == 0))))))) (d := (some 94)) (k := 4) (by kernel_rfl) rfl (by kernel_rfl) (by kernel_rfl) (by clear H; intro w; simp only [beq_dec]; go_simp; simp only [struct_ifn, struct_ifn0, struct_if, beq_dec, Bool.and_true] <;> simp only [Bool.not_and]) ?_
                  refine In.run' 2 (k' := 7) rfl [(95, (.bool ((z134.1 == 0) && ((z134.2.1 == ([] : List UInt8)) && ((z134.2.2.1 == ([] : List UInt8)) && ((z134.2.2.2.1 == 0) && (z134.2.2.2.2.1 == 0))))))), (8, (.bool ((z134.1 == 0) && ((z134.2.1 == ([] : List UInt8)) && ((z134.2.2.1 == ([] : List UInt8)) && ((z134.2.2.2.1 == 0) && (z134.2.2.2.2.1 == 0)))))))] (by kernel_rfl) ?_
                  refine In.fin (by kernel_rfl) ?_
                  exact ⟨((z134.1 == 0) && ((z134.2.1 == ([] : List UInt8)) && ((z134.2.2.1 == ([] : List UInt8)) && ((z134.2.2.2.1 == 0) && (z134.2.2.2.2.1 == 0))))), ⟨(by kernel_rfl), trivial⟩, SP.sel hs146 [] rfl rfl, H⟩
                · have H := cf H hb152
                  refine In.run' 5 (k' := 7) rfl [(92, undef), (93, undef), (94, undef), (95, (.bool false)), (8, (.bool false))] (by kernel_rfl) ?_
                  refine In.fin (by kernel_rfl) ?_
                  exact ⟨false, ⟨(by kernel_rfl), trivial⟩, SP.sel hs146 [] rfl rfl, H⟩
              · rintro ρ w150 ⟨v149, hk, hs151, H⟩
                unfold L_subwaylaw05_WireBack_k5 at H
                refine At.known [(8, (.bool v149))] hk ?_
                refine At.ret (by kernel_rfl) ?_
                refine ⟨(.bool v149), by kernel_rfl, ?_⟩
                obtain rfl := some_elim H
                exact ⟨rfl, SP.sel hs151 [] rfl rfl⟩
            · have H := cf H hb147
              refine At.skip (by kernel_rfl) ?_
              refine At.seq (by kernel_rfl) (p0 := [true, true, true, true, true, true, true, true, false]) (p1 := [true, true, true, true, true, true, true, true, true]) rfl rfl ?_
              refine At.join (fun ρ w => ∃ (v224 : Bool), Known ρ [(8, (.bool v224))] ∧ SP [] w0 w [] ∧ L_subwaylaw05_WireBack_k6 v224 = some r) ?_ ?_
              · rcases Bool.eq_false_or_eq_true z16 with hb227 | hb227
                · have H := ct H hb227
                  obtain ⟨z228, hz229, H⟩ := bind_elim H
                  rcases Bool.eq_false_or_eq_true z228 with hb232 | hb232
                  · have H := ct H hb232
                    obtain ⟨z233, hz234, H⟩ := bind_elim H
                    refine At.draw (by kernel_rfl) (by kernel_rfl) (by kernel_rfl) (by kernel_rfl) (by kernel_rfl) [FEq (.bool z16), FEq (.bool z16), FEq (.agg #[(.int .i64 z134.1), (.string ⟨List.toArray z134.2.1⟩), (.string ⟨List.toArray z134.2.2.1⟩), (.int .i64 z134.2.2.2.1), (.int .i64 z134.2.2.2.2.1)]), FEq (.bool z228), FEq (.bool z228), FEq (.bool z228), FEq (.agg #[(.int .i64 z134.1), (.string ⟨List.toArray z134.2.1⟩), (.string ⟨List.toArray z134.2.2.1⟩), (.int .i64 z134.2.2.2.1), (.int .i64 z134.2.2.2.2.1)]), FRow eU8 z233, FEq (.string ⟨List.toArray z233⟩), FEq (.slice A7 (List.length p6) c8), FEq (.string ⟨List.toArray p6⟩), FEq (.bool (z233 == p6)), FEq (.bool (z233 == p6)), FEq (.bool (z233 == p6))] ⟨mono_eq _, mono_eq _, mono_eq _, mono_eq _, mono_eq _, mono_eq _, mono_eq _, mono_row _ _, mono_eq _, mono_eq _, mono_eq _, mono_eq _, mono_eq _, mono_eq _, trivial⟩ (N := 14) (by kernel_rfl) ⟨⟨⟨⟨⟨⟨⟨⟨⟨⟨⟨⟨⟨⟨trivial, ?_⟩, ?_⟩, ?_⟩, ?_⟩, ?_⟩, ?_⟩, ?_⟩, ?_⟩, ?_⟩, ?_⟩, ?_⟩, ?_⟩, ?_⟩, ?_⟩ ?_
                    · intro ρ' w' hk hs hah
                      have e9 : ρ' 9 = (.bool z16) := (hs 9 (by kernel_rfl)).trans (by kernel_rfl)
                      have hkn : Known ρ' [(9, (.bool z16))] := ⟨e9, trivial⟩
                      refine Step.known _ hkn ?_
                      refine Step.run (k := 0) (v := (.bool z16)) (by kernel_rfl) ?_
                      exact ⟨Below.refl _ _, _, updO_known hkn, rfl⟩
                    · intro ρ' w' hk hs hah
                      have e96 := hah 0 96 (by kernel_rfl)
                      have hkn : Known ρ' [(96, (.bool z16))] := ⟨e96, trivial⟩
                      refine Step.known _ hkn ?_
                      refine Step.run (k := 1) (v := (.bool z16)) (by kernel_rfl) ?_
                      exact ⟨Below.refl _ _, _, updO_known hkn, rfl⟩
                    · intro ρ' w' hk hs hah
                      have e17 : ρ' 17 = (.pointer (some ⟨g140, 0, none⟩)) := (hs 17 (by kernel_rfl)).trans (by kernel_rfl)
                      have e97 := hah 1 97 (by kernel_rfl)
                      have hkn : Known ρ' [(17, (.pointer (some ⟨g140, 0, none⟩))), (97, (.bool true))] := ⟨e17, (Eq.trans e97 (congrArg Value.bool hb227)), trivial⟩
                      refine Step.known _ hkn ?_
                      have hs241 := SP.below hs146 hk
                      refine Step.load (t := 23) (x := (.tmp 17)) (g := g140) (off := 0) (i := 0) (v := (.agg #[(.int .i64 z134.1), (.string ⟨List.toArray z134.2.1⟩), (.string ⟨List.toArray z134.2.2.1⟩), (.int .i64 z134.2.2.2.1), (.int .i64 z134.2.2.2.2.1)])) (d := (some 98)) (k := 2) (by kernel_rfl) rfl (by kernel_rfl) hs241 rfl (by kernel_rfl) ?_
                      exact ⟨Below.refl _ _, _, updO_known hkn, rfl⟩
                    · intro ρ' w' hk hs hah
                      have e98 := hah 2 98 (by kernel_rfl)
                      have e97 := hah 1 97 (by kernel_rfl)
                      have hkn : Known ρ' [(98, (.agg #[(.int .i64 z134.1), (.string ⟨List.toArray z134.2.1⟩), (.string ⟨List.toArray z134.2.2.1⟩), (.int .i64 z134.2.2.2.1), (.int .i64 z134.2.2.2.2.1)])), (97, (.bool true))] := ⟨e98, (Eq.trans e97 (congrArg Value.bool hb227)), trivial⟩
                      refine Step.known _ hkn ?_
                      have hs242 := SP.below hs146 hk
                      refine Step.callF (f := 13) (fo := (.func 13)) (xs := #[(.tmp 98)]) (tys := #[23]) (first := #[]) (captured := #[]) (d := (some 99)) (k := 3) (by kernel_rfl) rfl (by kernel_rfl) (by kernel_rfl) Try.call13 (L_wire_Right_walk  z134.1 z134.2.1 z134.2.2.1 z134.2.2.2.1 z134.2.2.2.2.1 w'  z228 hz229) ?_
                      rintro e w243 ⟨rfl, hs244⟩
                      exact ⟨_, rfl, SP.keeps hs244, _, updO_known hkn, rfl⟩
                    · intro ρ' w' hk hs hah
                      have e97 := hah 1 97 (by kernel_rfl)
                      have e99 := hah 3 99 (by kernel_rfl)
                      have hkn : Known ρ' [(97, (.bool true)), (99, (.bool z228))] := ⟨(Eq.trans e97 (congrArg Value.bool hb227)), e99, trivial⟩
                      refine Step.known _ hkn ?_
                      refine Step.run (k := 4) (v := (.bool z228)) (by kernel_rfl) ?_
                      exact ⟨Below.refl _ _, _, updO_known hkn, rfl⟩
                    · intro ρ' w' hk hs hah
                      have e100 := hah 4 100 (by kernel_rfl)
                      have hkn : Known ρ' [(100, (.bool z228))] := ⟨e100, trivial⟩
                      refine Step.known _ hkn ?_
                      refine Step.run (k := 5) (v := (.bool z228)) (by kernel_rfl) ?_
                      exact ⟨Below.refl _ _, _, updO_known hkn, rfl⟩
                    · intro ρ' w' hk hs hah
                      have e17 : ρ' 17 = (.pointer (some ⟨g140, 0, none⟩)) := (hs 17 (by kernel_rfl)).trans (by kernel_rfl)
                      have e101 := hah 5 101 (by kernel_rfl)
                      have hkn : Known ρ' [(17, (.pointer (some ⟨g140, 0, none⟩))), (101, (.bool true))] := ⟨e17, (Eq.trans e101 (congrArg Value.bool hb232)), trivial⟩
                      refine Step.known _ hkn ?_
                      have hs247 := SP.below hs146 hk
                      refine Step.load (t := 23) (x := (.tmp 17)) (g := g140) (off := 0) (i := 0) (v := (.agg #[(.int .i64 z134.1), (.string ⟨List.toArray z134.2.1⟩), (.string ⟨List.toArray z134.2.2.1⟩), (.int .i64 z134.2.2.2.1), (.int .i64 z134.2.2.2.2.1)])) (d := (some 102)) (k := 6) (by kernel_rfl) rfl (by kernel_rfl) hs247 rfl (by kernel_rfl) ?_
                      exact ⟨Below.refl _ _, _, updO_known hkn, rfl⟩
                    · intro ρ' w' hk hs hah
                      have e102 := hah 6 102 (by kernel_rfl)
                      have e101 := hah 5 101 (by kernel_rfl)
                      have hkn : Known ρ' [(102, (.agg #[(.int .i64 z134.1), (.string ⟨List.toArray z134.2.1⟩), (.string ⟨List.toArray z134.2.2.1⟩), (.int .i64 z134.2.2.2.1), (.int .i64 z134.2.2.2.2.1)])), (101, (.bool true))] := ⟨e102, (Eq.trans e101 (congrArg Value.bool hb232)), trivial⟩
                      refine Step.known _ hkn ?_
                      have hs248 := SP.below hs146 hk
                      refine Step.callF (f := 15) (fo := (.func 15)) (xs := #[(.tmp 102)]) (tys := #[23]) (first := #[]) (captured := #[]) (d := (some 103)) (k := 7) (by kernel_rfl) rfl (by kernel_rfl) (by kernel_rfl) Try.call15 (L_wire_Put_walk  z134.1 z134.2.1 z134.2.2.1 z134.2.2.2.1 z134.2.2.2.2.1 w'  z233 hz234) ?_
                      rintro e w249 ⟨A251, c252, rfl, hs250⟩
                      exact ⟨_, rfl, SP.keeps hs250, _, updO_known hkn, ⟨_, _, rfl, SP.row_of hs250⟩⟩
                    · intro ρ' w' hk hs hah
                      obtain ⟨A254, c255, e103, hr256⟩ := hah 7 103 (by kernel_rfl)
                      have e101 := hah 5 101 (by kernel_rfl)
                      have hkn : Known ρ' [(103, (.slice A254 (List.length z233) c255)), (101, (.bool true))] := ⟨e103, (Eq.trans e101 (congrArg Value.bool hb232)), trivial⟩
                      refine Step.known _ hkn ?_
                      have hs253 := SP.below hs146 hk
                      refine Step.toStr (T := 24) (S' := 9) (E := 5) (x := (.tmp 103)) (A := A254) (c := c255) (l := z233) (d := (some 104)) (k := 8) (by kernel_rfl) rfl (by kernel_rfl) (by kernel_rfl) (by kernel_rfl) (by kernel_rfl) hr256 ?_
                      exact ⟨Below.refl _ _, _, updO_known hkn, rfl⟩
                    · intro ρ' w' hk hs hah
                      have e1 : ρ' 1 = (.slice A7 (List.length p6) c8) := (hs 1 (by kernel_rfl)).trans (by kernel_rfl)
                      have e101 := hah 5 101 (by kernel_rfl)
                      have hkn : Known ρ' [(1, (.slice A7 (List.length p6) c8)), (101, (.bool true))] := ⟨e1, (Eq.trans e101 (congrArg Value.bool hb232)), trivial⟩
                      refine Step.known _ hkn ?_
                      refine Step.run (k := 9) (v := (.slice A7 (List.length p6) c8)) (by kernel_rfl) ?_
                      exact ⟨Below.refl _ _, _, updO_known hkn, rfl⟩
                    · intro ρ' w' hk hs hah
                      have e105 := hah 9 105 (by kernel_rfl)
                      have e101 := hah 5 101 (by kernel_rfl)
                      have hkn : Known ρ' [(105, (.slice A7 (List.length p6) c8)), (101, (.bool true))] := ⟨e105, (Eq.trans e101 (congrArg Value.bool hb232)), trivial⟩
                      refine Step.known _ hkn ?_
                      have hs258 := SP.below hs146 hk
                      refine Step.toStr (T := 24) (S' := 9) (E := 5) (x := (.tmp 105)) (A := A7) (c := c8) (l := p6) (d := (some 106)) (k := 10) (by kernel_rfl) rfl (by kernel_rfl) (by kernel_rfl) (by kernel_rfl) (by kernel_rfl) (RdT.sp hr9 hs258) ?_
                      exact ⟨Below.refl _ _, _, updO_known hkn, rfl⟩
                    · intro ρ' w' hk hs hah
                      have e104 := hah 8 104 (by kernel_rfl)
                      have e106 := hah 10 106 (by kernel_rfl)
                      have e101 := hah 5 101 (by kernel_rfl)
                      have hkn : Known ρ' [(104, (.string ⟨List.toArray z233⟩)), (106, (.string ⟨List.toArray p6⟩)), (101, (.bool true))] := ⟨e104, e106, (Eq.trans e101 (congrArg Value.bool hb232)), trivial⟩
                      refine Step.known _ hkn ?_
                      have hs259 := SP.below hs146 hk
                      refine Step.strOp (op := .eql) (T := 9) (T' := 9) (x := (.tmp 104)) (y := (.tmp 106)) (a := z233) (b := p6) (r := (.bool (z233 == p6))) (d := (some 107)) (k := 11) (by kernel_rfl) rfl (by kernel_rfl) (by kernel_rfl) rfl ?_
                      exact ⟨Below.refl _ _, _, updO_known hkn, rfl⟩
                    · intro ρ' w' hk hs hah
                      have e101 := hah 5 101 (by kernel_rfl)
                      have e107 := hah 11 107 (by kernel_rfl)
                      have hkn : Known ρ' [(101, (.bool true)), (107, (.bool (z233 == p6)))] := ⟨(Eq.trans e101 (congrArg Value.bool hb232)), e107, trivial⟩
                      refine Step.known _ hkn ?_
                      refine Step.run (k := 12) (v := (.bool (z233 == p6))) (by kernel_rfl) ?_
                      exact ⟨Below.refl _ _, _, updO_known hkn, rfl⟩
                    · intro ρ' w' hk hs hah
                      have e108 := hah 12 108 (by kernel_rfl)
                      have hkn : Known ρ' [(108, (.bool (z233 == p6)))] := ⟨e108, trivial⟩
                      refine Step.known _ hkn ?_
                      refine Step.run (k := 13) (v := (.bool (z233 == p6))) (by kernel_rfl) ?_
                      exact ⟨Below.refl _ _, _, updO_known hkn, rfl⟩
                    · intro ρ' w' hk hs hf
                      have hs263 := SP.below hs146 hk
                      obtain ⟨w262, hww262⟩ : ∃ x, w' = x := ⟨_, rfl⟩
                      subst hww262
                      have e8 := hf 13 8 (by kernel_rfl)
                      refine postKnown [(8, (.bool (z233 == p6)))] ⟨e8, trivial⟩ ?_
                      exact ⟨(z233 == p6), ⟨(by kernel_rfl), trivial⟩, SP.sel hs263 [] rfl rfl, H⟩
                  · have H := cf H hb232
                    refine At.draw (by kernel_rfl) (by kernel_rfl) (by kernel_rfl) (by kernel_rfl) (by kernel_rfl) [FEq (.bool z16), FEq (.bool z16), FEq (.agg #[(.int .i64 z134.1), (.string ⟨List.toArray z134.2.1⟩), (.string ⟨List.toArray z134.2.2.1⟩), (.int .i64 z134.2.2.2.1), (.int .i64 z134.2.2.2.2.1)]), FEq (.bool z228), FEq (.bool z228), FEq (.bool z228), FAny, FAny, FAny, FAny, FAny, FAny, FEq (.bool false), FEq (.bool false)] ⟨mono_eq _, mono_eq _, mono_eq _, mono_eq _, mono_eq _, mono_eq _, mono_any, mono_any, mono_any, mono_any, mono_any, mono_any, mono_eq _, mono_eq _, trivial⟩ (N := 14) (by kernel_rfl) ⟨⟨⟨⟨⟨⟨⟨⟨⟨⟨⟨⟨⟨⟨trivial, ?_⟩, ?_⟩, ?_⟩, ?_⟩, ?_⟩, ?_⟩, ?_⟩, ?_⟩, ?_⟩, ?_⟩, ?_⟩, ?_⟩, ?_⟩, ?_⟩ ?_
                    · intro ρ' w' hk hs hah
                      have e9 : ρ' 9 = (.bool z16) := (hs 9 (by kernel_rfl)).trans (by kernel_rfl)
                      have hkn : Known ρ' [(9, (.bool z16))] := ⟨e9, trivial⟩
                      refine Step.known _ hkn ?_
                      refine Step.run (k := 0) (v := (.bool z16)) (by kernel_rfl) ?_
                      exact ⟨Below.refl _ _, _, updO_known hkn, rfl⟩
                    · intro ρ' w' hk hs hah
                      have e96 := hah 0 96 (by kernel_rfl)
                      have hkn : Known ρ' [(96, (.bool z16))] := ⟨e96, trivial⟩
                      refine Step.known _ hkn ?_
                      refine Step.run (k := 1) (v := (.bool z16)) (by kernel_rfl) ?_
                      exact ⟨Below.refl _ _, _, updO_known hkn, rfl⟩
                    · intro ρ' w' hk hs hah
                      have e17 : ρ' 17 = (.pointer (some ⟨g140, 0, none⟩)) := (hs 17 (by kernel_rfl)).trans (by kernel_rfl)
                      have e97 := hah 1 97 (by kernel_rfl)
                      have hkn : Known ρ' [(17, (.pointer (some ⟨g140, 0, none⟩))), (97, (.bool true))] := ⟨e17, (Eq.trans e97 (congrArg Value.bool hb227)), trivial⟩
                      refine Step.known _ hkn ?_
                      have hs266 := SP.below hs146 hk
                      refine Step.load (t := 23) (x := (.tmp 17)) (g := g140) (off := 0) (i := 0) (v := (.agg #[(.int .i64 z134.1), (.string ⟨List.toArray z134.2.1⟩), (.string ⟨List.toArray z134.2.2.1⟩), (.int .i64 z134.2.2.2.1), (.int .i64 z134.2.2.2.2.1)])) (d := (some 98)) (k := 2) (by kernel_rfl) rfl (by kernel_rfl) hs266 rfl (by kernel_rfl) ?_
                      exact ⟨Below.refl _ _, _, updO_known hkn, rfl⟩
                    · intro ρ' w' hk hs hah
                      have e98 := hah 2 98 (by kernel_rfl)
                      have e97 := hah 1 97 (by kernel_rfl)
                      have hkn : Known ρ' [(98, (.agg #[(.int .i64 z134.1), (.string ⟨List.toArray z134.2.1⟩), (.string ⟨List.toArray z134.2.2.1⟩), (.int .i64 z134.2.2.2.1), (.int .i64 z134.2.2.2.2.1)])), (97, (.bool true))] := ⟨e98, (Eq.trans e97 (congrArg Value.bool hb227)), trivial⟩
                      refine Step.known _ hkn ?_
                      have hs267 := SP.below hs146 hk
                      refine Step.callF (f := 13) (fo := (.func 13)) (xs := #[(.tmp 98)]) (tys := #[23]) (first := #[]) (captured := #[]) (d := (some 99)) (k := 3) (by kernel_rfl) rfl (by kernel_rfl) (by kernel_rfl) Try.call13 (L_wire_Right_walk  z134.1 z134.2.1 z134.2.2.1 z134.2.2.2.1 z134.2.2.2.2.1 w'  z228 hz229) ?_
                      rintro e w268 ⟨rfl, hs269⟩
                      exact ⟨_, rfl, SP.keeps hs269, _, updO_known hkn, rfl⟩
                    · intro ρ' w' hk hs hah
                      have e97 := hah 1 97 (by kernel_rfl)
                      have e99 := hah 3 99 (by kernel_rfl)
                      have hkn : Known ρ' [(97, (.bool true)), (99, (.bool z228))] := ⟨(Eq.trans e97 (congrArg Value.bool hb227)), e99, trivial⟩
                      refine Step.known _ hkn ?_
                      refine Step.run (k := 4) (v := (.bool z228)) (by kernel_rfl) ?_
                      exact ⟨Below.refl _ _, _, updO_known hkn, rfl⟩
                    · intro ρ' w' hk hs hah
                      have e100 := hah 4 100 (by kernel_rfl)
                      have hkn : Known ρ' [(100, (.bool z228))] := ⟨e100, trivial⟩
                      refine Step.known _ hkn ?_
                      refine Step.run (k := 5) (v := (.bool z228)) (by kernel_rfl) ?_
                      exact ⟨Below.refl _ _, _, updO_known hkn, rfl⟩
                    · intro ρ' w' hk hs hah
                      have e17 : ρ' 17 = (.pointer (some ⟨g140, 0, none⟩)) := (hs 17 (by kernel_rfl)).trans (by kernel_rfl)
                      have e101 := hah 5 101 (by kernel_rfl)
                      have hkn : Known ρ' [(17, (.pointer (some ⟨g140, 0, none⟩))), (101, (.bool false))] := ⟨e17, (Eq.trans e101 (congrArg Value.bool hb232)), trivial⟩
                      refine Step.known _ hkn ?_
                      refine Step.not (k := 6) (d := (some 102)) (by kernel_rfl) rfl ?_
                      exact ⟨Below.refl _ _, _, updO_known hkn, trivial⟩
                    · intro ρ' w' hk hs hah
                      have e101 := hah 5 101 (by kernel_rfl)
                      have hkn : Known ρ' [(101, (.bool false))] := ⟨(Eq.trans e101 (congrArg Value.bool hb232)), trivial⟩
                      refine Step.known _ hkn ?_
                      refine Step.not (k := 7) (d := (some 103)) (by kernel_rfl) rfl ?_
                      exact ⟨Below.refl _ _, _, updO_known hkn, trivial⟩
                    · intro ρ' w' hk hs hah
                      have e101 := hah 5 101 (by kernel_rfl)
                      have hkn : Known ρ' [(101, (.bool false))] := ⟨(Eq.trans e101 (congrArg Value.bool hb232)), trivial⟩
                      refine Step.known _ hkn ?_
                      refine Step.not (k := 8) (d := (some 104)) (by kernel_rfl) rfl ?_
                      exact ⟨Below.refl _ _, _, updO_known hkn, trivial⟩
                    · intro ρ' w' hk hs hah
                      have e1 : ρ' 1 = (.slice A7 (List.length p6) c8) := (hs 1 (by kernel_rfl)).trans (by kernel_rfl)
                      have e101 := hah 5 101 (by kernel_rfl)
                      have hkn : Known ρ' [(1, (.slice A7 (List.length p6) c8)), (101, (.bool false))] := ⟨e1, (Eq.trans e101 (congrArg Value.bool hb232)), trivial⟩
                      refine Step.known _ hkn ?_
                      refine Step.not (k := 9) (d := (some 105)) (by kernel_rfl) rfl ?_
                      exact ⟨Below.refl _ _, _, updO_known hkn, trivial⟩
                    · intro ρ' w' hk hs hah
                      have e101 := hah 5 101 (by kernel_rfl)
                      have hkn : Known ρ' [(101, (.bool false))] := ⟨(Eq.trans e101 (congrArg Value.bool hb232)), trivial⟩
                      refine Step.known _ hkn ?_
                      refine Step.not (k := 10) (d := (some 106)) (by kernel_rfl) rfl ?_
                      exact ⟨Below.refl _ _, _, updO_known hkn, trivial⟩
                    · intro ρ' w' hk hs hah
                      have e101 := hah 5 101 (by kernel_rfl)
                      have hkn : Known ρ' [(101, (.bool false))] := ⟨(Eq.trans e101 (congrArg Value.bool hb232)), trivial⟩
                      refine Step.known _ hkn ?_
                      refine Step.not (k := 11) (d := (some 107)) (by kernel_rfl) rfl ?_
                      exact ⟨Below.refl _ _, _, updO_known hkn, trivial⟩
                    · intro ρ' w' hk hs hah
                      have e101 := hah 5 101 (by kernel_rfl)
                      have hkn : Known ρ' [(101, (.bool false))] := ⟨(Eq.trans e101 (congrArg Value.bool hb232)), trivial⟩
                      refine Step.known _ hkn ?_
                      refine Step.run (k := 12) (v := (.bool false)) (by kernel_rfl) ?_
                      exact ⟨Below.refl _ _, _, updO_known hkn, rfl⟩
                    · intro ρ' w' hk hs hah
                      have e108 := hah 12 108 (by kernel_rfl)
                      have hkn : Known ρ' [(108, (.bool false))] := ⟨e108, trivial⟩
                      refine Step.known _ hkn ?_
                      refine Step.run (k := 13) (v := (.bool false)) (by kernel_rfl) ?_
                      exact ⟨Below.refl _ _, _, updO_known hkn, rfl⟩
                    · intro ρ' w' hk hs hf
                      have hs281 := SP.below hs146 hk
                      obtain ⟨w280, hww280⟩ : ∃ x, w' = x := ⟨_, rfl⟩
                      subst hww280
                      have e8 := hf 13 8 (by kernel_rfl)
                      refine postKnown [(8, (.bool false))] ⟨e8, trivial⟩ ?_
                      exact ⟨false, ⟨(by kernel_rfl), trivial⟩, SP.sel hs281 [] rfl rfl, H⟩
                · have H := cf H hb227
                  refine At.draw (by kernel_rfl) (by kernel_rfl) (by kernel_rfl) (by kernel_rfl) (by kernel_rfl) [FEq (.bool z16), FEq (.bool z16), FAny, FAny, FEq (.bool false), FEq (.bool false), FAny, FAny, FAny, FAny, FAny, FAny, FEq (.bool false), FEq (.bool false)] ⟨mono_eq _, mono_eq _, mono_any, mono_any, mono_eq _, mono_eq _, mono_any, mono_any, mono_any, mono_any, mono_any, mono_any, mono_eq _, mono_eq _, trivial⟩ (N := 14) (by kernel_rfl) ⟨⟨⟨⟨⟨⟨⟨⟨⟨⟨⟨⟨⟨⟨trivial, ?_⟩, ?_⟩, ?_⟩, ?_⟩, ?_⟩, ?_⟩, ?_⟩, ?_⟩, ?_⟩, ?_⟩, ?_⟩, ?_⟩, ?_⟩, ?_⟩ ?_
                  · intro ρ' w' hk hs hah
                    have e9 : ρ' 9 = (.bool z16) := (hs 9 (by kernel_rfl)).trans (by kernel_rfl)
                    have hkn : Known ρ' [(9, (.bool z16))] := ⟨e9, trivial⟩
                    refine Step.known _ hkn ?_
                    refine Step.run (k := 0) (v := (.bool z16)) (by kernel_rfl) ?_
                    exact ⟨Below.refl _ _, _, updO_known hkn, rfl⟩
                  · intro ρ' w' hk hs hah
                    have e96 := hah 0 96 (by kernel_rfl)
                    have hkn : Known ρ' [(96, (.bool z16))] := ⟨e96, trivial⟩
                    refine Step.known _ hkn ?_
                    refine Step.run (k := 1) (v := (.bool z16)) (by kernel_rfl) ?_
                    exact ⟨Below.refl _ _, _, updO_known hkn, rfl⟩
                  · intro ρ' w' hk hs hah
                    have e17 : ρ' 17 = (.pointer (some ⟨g140, 0, none⟩)) := (hs 17 (by kernel_rfl)).trans (by kernel_rfl)
                    have e97 := hah 1 97 (by kernel_rfl)
                    have hkn : Known ρ' [(17, (.pointer (some ⟨g140, 0, none⟩))), (97, (.bool false))] := ⟨e17, (Eq.trans e97 (congrArg Value.bool hb227)), trivial⟩
                    refine Step.known _ hkn ?_
                    refine Step.not (k := 2) (d := (some 98)) (by kernel_rfl) rfl ?_
                    exact ⟨Below.refl _ _, _, updO_known hkn, trivial⟩
                  · intro ρ' w' hk hs hah
                    have e97 := hah 1 97 (by kernel_rfl)
                    have hkn : Known ρ' [(97, (.bool false))] := ⟨(Eq.trans e97 (congrArg Value.bool hb227)), trivial⟩
                    refine Step.known _ hkn ?_
                    refine Step.not (k := 3) (d := (some 99)) (by kernel_rfl) rfl ?_
                    exact ⟨Below.refl _ _, _, updO_known hkn, trivial⟩
                  · intro ρ' w' hk hs hah
                    have e97 := hah 1 97 (by kernel_rfl)
                    have hkn : Known ρ' [(97, (.bool false))] := ⟨(Eq.trans e97 (congrArg Value.bool hb227)), trivial⟩
                    refine Step.known _ hkn ?_
                    refine Step.run (k := 4) (v := (.bool false)) (by kernel_rfl) ?_
                    exact ⟨Below.refl _ _, _, updO_known hkn, rfl⟩
                  · intro ρ' w' hk hs hah
                    have e100 := hah 4 100 (by kernel_rfl)
                    have hkn : Known ρ' [(100, (.bool false))] := ⟨e100, trivial⟩
                    refine Step.known _ hkn ?_
                    refine Step.run (k := 5) (v := (.bool false)) (by kernel_rfl) ?_
                    exact ⟨Below.refl _ _, _, updO_known hkn, rfl⟩
                  · intro ρ' w' hk hs hah
                    have e17 : ρ' 17 = (.pointer (some ⟨g140, 0, none⟩)) := (hs 17 (by kernel_rfl)).trans (by kernel_rfl)
                    have e101 := hah 5 101 (by kernel_rfl)
                    have hkn : Known ρ' [(17, (.pointer (some ⟨g140, 0, none⟩))), (101, (.bool false))] := ⟨e17, e101, trivial⟩
                    refine Step.known _ hkn ?_
                    refine Step.not (k := 6) (d := (some 102)) (by kernel_rfl) rfl ?_
                    exact ⟨Below.refl _ _, _, updO_known hkn, trivial⟩
                  · intro ρ' w' hk hs hah
                    have e101 := hah 5 101 (by kernel_rfl)
                    have hkn : Known ρ' [(101, (.bool false))] := ⟨e101, trivial⟩
                    refine Step.known _ hkn ?_
                    refine Step.not (k := 7) (d := (some 103)) (by kernel_rfl) rfl ?_
                    exact ⟨Below.refl _ _, _, updO_known hkn, trivial⟩
                  · intro ρ' w' hk hs hah
                    have e101 := hah 5 101 (by kernel_rfl)
                    have hkn : Known ρ' [(101, (.bool false))] := ⟨e101, trivial⟩
                    refine Step.known _ hkn ?_
                    refine Step.not (k := 8) (d := (some 104)) (by kernel_rfl) rfl ?_
                    exact ⟨Below.refl _ _, _, updO_known hkn, trivial⟩
                  · intro ρ' w' hk hs hah
                    have e1 : ρ' 1 = (.slice A7 (List.length p6) c8) := (hs 1 (by kernel_rfl)).trans (by kernel_rfl)
                    have e101 := hah 5 101 (by kernel_rfl)
                    have hkn : Known ρ' [(1, (.slice A7 (List.length p6) c8)), (101, (.bool false))] := ⟨e1, e101, trivial⟩
                    refine Step.known _ hkn ?_
                    refine Step.not (k := 9) (d := (some 105)) (by kernel_rfl) rfl ?_
                    exact ⟨Below.refl _ _, _, updO_known hkn, trivial⟩
                  · intro ρ' w' hk hs hah
                    have e101 := hah 5 101 (by kernel_rfl)
                    have hkn : Known ρ' [(101, (.bool false))] := ⟨e101, trivial⟩
                    refine Step.known _ hkn ?_
                    refine Step.not (k := 10) (d := (some 106)) (by kernel_rfl) rfl ?_
                    exact ⟨Below.refl _ _, _, updO_known hkn, trivial⟩
                  · intro ρ' w' hk hs hah
                    have e101 := hah 5 101 (by kernel_rfl)
                    have hkn : Known ρ' [(101, (.bool false))] := ⟨e101, trivial⟩
                    refine Step.known _ hkn ?_
                    refine Step.not (k := 11) (d := (some 107)) (by kernel_rfl) rfl ?_
                    exact ⟨Below.refl _ _, _, updO_known hkn, trivial⟩
                  · intro ρ' w' hk hs hah
                    have e101 := hah 5 101 (by kernel_rfl)
                    have hkn : Known ρ' [(101, (.bool false))] := ⟨e101, trivial⟩
                    refine Step.known _ hkn ?_
                    refine Step.run (k := 12) (v := (.bool false)) (by kernel_rfl) ?_
                    exact ⟨Below.refl _ _, _, updO_known hkn, rfl⟩
                  · intro ρ' w' hk hs hah
                    have e108 := hah 12 108 (by kernel_rfl)
                    have hkn : Known ρ' [(108, (.bool false))] := ⟨e108, trivial⟩
                    refine Step.known _ hkn ?_
                    refine Step.run (k := 13) (v := (.bool false)) (by kernel_rfl) ?_
                    exact ⟨Below.refl _ _, _, updO_known hkn, rfl⟩
                  · intro ρ' w' hk hs hf
                    have hs297 := SP.below hs146 hk
                    obtain ⟨w296, hww296⟩ : ∃ x, w' = x := ⟨_, rfl⟩
                    subst hww296
                    have e8 := hf 13 8 (by kernel_rfl)
                    refine postKnown [(8, (.bool false))] ⟨e8, trivial⟩ ?_
                    exact ⟨false, ⟨(by kernel_rfl), trivial⟩, SP.sel hs297 [] rfl rfl, H⟩
              · rintro ρ w225 ⟨v224, hk, hs226, H⟩
                unfold L_subwaylaw05_WireBack_k6 at H
                refine At.known [(8, (.bool v224))] hk ?_
                refine At.ret (by kernel_rfl) ?_
                refine ⟨(.bool v224), by kernel_rfl, ?_⟩
                obtain rfl := some_elim H
                exact ⟨rfl, SP.sel hs226 [] rfl rfl⟩
end Go.Proofs.Ytjpchjbbfbmjgaa
