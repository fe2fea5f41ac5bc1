/- LIFTED BY PROGRAM (tools/lift.py): what functions compute, and that they do. -/
import Derived.Test.YtjpchjbbfbmjgaaLA
namespace Go.Proofs.Ytjpchjbbfbmjgaa
set_option linter.unusedSimpArgs false
set_option linter.unusedVariables false
open Go.RowKit

/-! L_subwaylaw05_WireTells -/
def L_subwaylaw05_WireTells_k2 (v289 : Bool) : Option (Bool) :=
  (some (v289))
def L_subwaylaw05_WireTells_k1 (pKind1 : Int) (pA2 : (List UInt8)) (pB3 : (List UInt8)) (pN4 : Int) (pM5 : Int) (p6 : (List UInt8)) (z14 : (Bool)) (v27 : Bool) : Option (Bool) :=
  (cond v27 (some (z14)) ((L_wire_Get p6).bind fun z31 => ((L_subwayref05_Get p6).bind fun z44 => (cond z14 ((L_wire_Right pKind1 pA2 pB3 pN4 pM5).bind fun z293 => ((L_subwayref05_Right pKind1 pA2 pB3 pN4 pM5).bind fun z297 => (cond (z293 == z297) ((L_wire_Put pKind1 pA2 pB3 pN4 pM5).bind fun z302 => ((L_subwayref05_Put pKind1 pA2 pB3 pN4 pM5).bind fun z308 => (cond (z302 == z308) (cond ((z31.1 == z44.1) && ((z31.2.1 == z44.2.1) && ((z31.2.2.1 == z44.2.2.1) && ((z31.2.2.2.1 == z44.2.2.2.1) && (z31.2.2.2.2.1 == z44.2.2.2.2.1))))) (L_subwaylaw05_WireTells_k2 (z31.2.2.2.2.2 == z44.2.2.2.2.2)) (L_subwaylaw05_WireTells_k2 false)) (L_subwaylaw05_WireTells_k2 false)))) (L_subwaylaw05_WireTells_k2 false)))) (L_subwaylaw05_WireTells_k2 false)))))
def L_subwaylaw05_WireTells (pKind1 : Int) (pA2 : (List UInt8)) (pB3 : (List UInt8)) (pN4 : Int) (pM5 : Int) (p6 : (List UInt8)) : Option (Bool) :=
  ((L_subwaylaw05_head ).bind fun z14 => ((L_subwaylaw05_Great pKind1 pA2 pB3 pN4 pM5).bind fun z524 => (cond z524 (L_subwaylaw05_WireTells_k1 pKind1 pA2 pB3 pN4 pM5 p6 z14 true) (L_subwaylaw05_WireTells_k1 pKind1 pA2 pB3 pN4 pM5 p6 z14 (decide (((List.length p6 : Nat) : Int) > 9000))))))
set_option maxRecDepth 100000 in
set_option maxHeartbeats 4000000 in
theorem L_subwaylaw05_WireTells_walk (A7 : Option Addr) (c8 : Nat) (pKind1 : Int) (pA2 : (List UInt8)) (pB3 : (List UInt8)) (pN4 : Int) (pM5 : Int) (p6 : (List UInt8)) (w0 : World) (hr9 : RdT eU8 w0 A7 c8 p6) (r : (Bool)) (H : L_subwaylaw05_WireTells pKind1 pA2 pB3 pN4 pM5 p6 = some r) :
    Calls Try.prog 3 #[(.agg #[(.int .i64 pKind1), (.string ⟨List.toArray pA2⟩), (.string ⟨List.toArray pB3⟩), (.int .i64 pN4), (.int .i64 pM5)]), (.slice A7 (List.length p6) c8)] w0 (fun e w' => e = .returned (.bool r) ∧ SP [] w0 w' []) := by
  unfold L_subwaylaw05_WireTells at H
  refine calls_start (n := 56) Try.func3 (by kernel_rfl) (by kernel_rfl) (by kernel_rfl) ?_
  have hs0 := SP.start [] w0
  refine At.seq (by kernel_rfl) (p0 := [false]) (p1 := [true]) rfl rfl ?_
  refine At.region (by kernel_rfl) (by kernel_rfl) ?_
  refine In.step (k' := 1) rfl (by kernel_rfl) ?_
  refine Step.box (t := 23) (x := (.tmp 0)) (v := (.agg #[(.int .i64 pKind1), (.string ⟨List.toArray pA2⟩), (.string ⟨List.toArray pB3⟩), (.int .i64 pN4), (.int .i64 pM5)])) (d := (some 2)) (k := 0) (by kernel_rfl) rfl (by kernel_rfl) hs0 ?_
  intro g10 w11 hs12
  have hs13 : SP [] w0 w11 [boxE g10 23 #[(.int .i64 pKind1), (.string ⟨List.toArray pA2⟩), (.string ⟨List.toArray pB3⟩), (.int .i64 pN4), (.int .i64 pM5)]] := hs12
  clear hs12
  refine In.run' 1 (k' := 2) rfl [(4, (.bool false))] (by kernel_rfl) ?_
  refine In.fin (by kernel_rfl) ?_
  refine At.seq (by kernel_rfl) (p0 := [true, false]) (p1 := [true, true]) rfl rfl ?_
  refine At.region (by kernel_rfl) (by kernel_rfl) ?_
  obtain ⟨z14, hz15, H⟩ := bind_elim H
  refine In.step (k' := 1) rfl (by kernel_rfl) ?_
  refine Step.callF (f := 9) (fo := (.func 9)) (xs := #[]) (tys := #[]) (first := #[]) (captured := #[]) (d := (some 10)) (k := 0) (by kernel_rfl) rfl (by kernel_rfl) (by kernel_rfl) Try.call9 (L_subwaylaw05_head_walk   w11  z14 hz15) ?_
  rintro e w16 ⟨rfl, hs17⟩
  refine ⟨_, rfl, ?_⟩
  have hs18 := SP.call hs13 hs17
  clear hs17
  have hs19 : SP [] w0 w16 [boxE g10 23 #[(.int .i64 pKind1), (.string ⟨List.toArray pA2⟩), (.string ⟨List.toArray pB3⟩), (.int .i64 pN4), (.int .i64 pM5)]] := hs18
  clear hs18
  refine In.run' 1 (k' := 2) rfl [(5, (.bool z14))] (by kernel_rfl) ?_
  refine In.fin (by kernel_rfl) ?_
  refine At.seq (by kernel_rfl) (p0 := [true, true, false]) (p1 := [true, true, true]) rfl rfl ?_
  refine At.seq (by kernel_rfl) (p0 := [true, true, false, false]) (p1 := [true, true, false, true]) rfl rfl ?_
  refine At.join (fun ρ w => ∃ (v27 : Bool), Known ρ [(1, (.slice A7 (List.length p6) c8)), (2, (.pointer (some ⟨g10, 0, none⟩))), (5, (.bool z14)), (17, (.bool v27))] ∧ SP [] w0 w [boxE g10 23 #[(.int .i64 pKind1), (.string ⟨List.toArray pA2⟩), (.string ⟨List.toArray pB3⟩), (.int .i64 pN4), (.int .i64 pM5)]] ∧ L_subwaylaw05_WireTells_k1 pKind1 pA2 pB3 pN4 pM5 p6 z14 v27 = some r) ?_ ?_
  · refine At.region (by kernel_rfl) (by kernel_rfl) ?_
    refine In.step (k' := 1) rfl (by kernel_rfl) ?_
    refine Step.load (t := 23) (x := (.tmp 2)) (g := g10) (off := 0) (i := 0) (v := (.agg #[(.int .i64 pKind1), (.string ⟨List.toArray pA2⟩), (.string ⟨List.toArray pB3⟩), (.int .i64 pN4), (.int .i64 pM5)])) (d := (some 11)) (k := 0) (by kernel_rfl) rfl (by kernel_rfl) hs19 rfl (by kernel_rfl) ?_
    obtain ⟨z524, hz525, H⟩ := bind_elim H
    refine In.step (k' := 2) rfl (by kernel_rfl) ?_
    refine Step.callF (f := 10) (fo := (.func 10)) (xs := #[(.tmp 11)]) (tys := #[23]) (first := #[]) (captured := #[]) (d := (some 12)) (k := 1) (by kernel_rfl) rfl (by kernel_rfl) (by kernel_rfl) Try.call10 (L_subwaylaw05_Great_walk  pKind1 pA2 pB3 pN4 pM5 w16  z524 hz525) ?_
    rintro e w526 ⟨rfl, hs527⟩
    refine ⟨_, rfl, ?_⟩
    have hs528 := SP.call hs19 hs527
    clear hs527
    have hs529 : SP [] w0 w526 [boxE g10 23 #[(.int .i64 pKind1), (.string ⟨List.toArray pA2⟩), (.string ⟨List.toArray pB3⟩), (.int .i64 pN4), (.int .i64 pM5)]] := hs528
    clear hs528
    refine In.run' 1 (k' := 3) rfl [(13, (.bool z524))] (by kernel_rfl) ?_
    refine In.guard (t := 13) (b := z524) (by kernel_rfl) (fun hb530 => ?_) (fun hb530 => ?_)
    · have H := ct H hb530
      refine In.run' 4 (k' := 7) rfl [(14, undef), (15, undef), (16, undef), (17, (.bool true))] (by kernel_rfl) ?_
      refine In.fin (by kernel_rfl) ?_
      exact ⟨true, ⟨(by kernel_rfl), (by kernel_rfl), (by kernel_rfl), (by kernel_rfl), trivial⟩, SP.sel hs529 [0] rfl rfl, H⟩
    · have H := cf H hb530
      refine In.run' 4 (k' := 7) rfl [(14, (.slice A7 (List.length p6) c8)), (15, (.int .i64 ((List.length p6 : Nat) : Int))), (16, (.bool (decide (((List.length p6 : Nat) : Int) > 9000)))), (17, (.bool (decide (((List.length p6 : Nat) : Int) > 9000))))] (by kernel_rfl) ?_
      refine In.fin (by kernel_rfl) ?_
      exact ⟨(decide (((List.length p6 : Nat) : Int) > 9000)), ⟨(by kernel_rfl), (by kernel_rfl), (by kernel_rfl), (by kernel_rfl), trivial⟩, SP.sel hs529 [0] rfl rfl, H⟩
  · rintro ρ w28 ⟨v27, hk, hs29, H⟩
    unfold L_subwaylaw05_WireTells_k1 at H
    refine At.known [(1, (.slice A7 (List.length p6) c8)), (2, (.pointer (some ⟨g10, 0, none⟩))), (5, (.bool z14)), (17, (.bool v27))] hk ?_
    refine At.cond (by kernel_rfl) (o := (.tmp 17)) (by kernel_rfl) (b := v27) (by kernel_rfl) (p0 := [true, true, false, true, false]) (p1 := [true, true, false, true, true]) rfl rfl (fun hb30 => ?_) (fun hb30 => ?_)
    · have H := ct H hb30
      refine At.seq (by kernel_rfl) (p0 := [true, true, false, true, false, false]) (p1 := [true, true, false, true, false, true]) rfl rfl ?_
      refine At.region (by kernel_rfl) (by kernel_rfl) ?_
      refine In.run' 2 (k' := 2) rfl [(18, (.bool z14)), (4, (.bool z14))] (by kernel_rfl) ?_
      refine In.fin (by kernel_rfl) ?_
      refine At.ret (by kernel_rfl) ?_
      refine ⟨(.bool z14), by kernel_rfl, ?_⟩
      obtain rfl := some_elim H
      exact ⟨rfl, SP.sel hs29 [] rfl rfl⟩
    · have H := cf H hb30
      refine At.skip (by kernel_rfl) ?_
      refine At.seq (by kernel_rfl) (p0 := [true, true, true, false]) (p1 := [true, true, true, true]) rfl rfl ?_
      refine At.region (by kernel_rfl) (by kernel_rfl) ?_
      refine In.run' 1 (k' := 1) rfl [(20, (.slice A7 (List.length p6) c8))] (by kernel_rfl) ?_
      obtain ⟨z31, hz32, H⟩ := bind_elim H
      refine In.step (k' := 2) rfl (by kernel_rfl) ?_
      refine Step.callF (f := 11) (fo := (.func 11)) (xs := #[(.tmp 20)]) (tys := #[24]) (first := #[]) (captured := #[]) (d := (some 21)) (k := 1) (by kernel_rfl) rfl (by kernel_rfl) (by kernel_rfl) Try.call11 (L_wire_Get_walk A7 c8 p6 w28 (RdT.sp hr9 hs29) z31 hz32) ?_
      rintro e w33 ⟨rfl, hs34⟩
      refine ⟨_, rfl, ?_⟩
      have hs35 := SP.call hs29 hs34
      clear hs34
      have hs36 : SP [] w0 w33 [boxE g10 23 #[(.int .i64 pKind1), (.string ⟨List.toArray pA2⟩), (.string ⟨List.toArray pB3⟩), (.int .i64 pN4), (.int .i64 pM5)]] := hs35
      clear hs35
      refine In.run' 3 (k' := 5) rfl [(19, (.tuple #[(.agg #[(.int .i64 z31.1), (.string ⟨List.toArray z31.2.1⟩), (.string ⟨List.toArray z31.2.2.1⟩), (.int .i64 z31.2.2.2.1), (.int .i64 z31.2.2.2.2.1)]), (.bool z31.2.2.2.2.2)])), (22, (.agg #[(.int .i64 z31.1), (.string ⟨List.toArray z31.2.1⟩), (.string ⟨List.toArray z31.2.2.1⟩), (.int .i64 z31.2.2.2.1), (.int .i64 z31.2.2.2.2.1)])), (23, (.bool z31.2.2.2.2.2))] (by kernel_rfl) ?_
      refine In.step (k' := 6) rfl (by kernel_rfl) ?_
      refine Step.alloc (t := 23) (z := (.agg #[(.int .i64 0), (.string ⟨List.toArray ([] : List UInt8)⟩), (.string ⟨List.toArray ([] : List UInt8)⟩), (.int .i64 0), (.int .i64 0)])) (d := (some 6)) (k := 5) (by kernel_rfl) rfl (by kernel_rfl) hs36 ?_
      intro g37 w38 hs39
      have hs40 : SP [] w0 w38 [boxE g10 23 #[(.int .i64 pKind1), (.string ⟨List.toArray pA2⟩), (.string ⟨List.toArray pB3⟩), (.int .i64 pN4), (.int .i64 pM5)], boxE g37 23 #[(.int .i64 0), (.string ⟨List.toArray ([] : List UInt8)⟩), (.string ⟨List.toArray ([] : List UInt8)⟩), (.int .i64 0), (.int .i64 0)]] := hs39
      clear hs39
      refine In.step (k' := 7) rfl (by kernel_rfl) ?_
      refine Step.store (t := 23) (x := (.tmp 6)) (y := (.tmp 22)) (g := g37) (off := 0) (i := 1) (v := (.agg #[(.int .i64 z31.1), (.string ⟨List.toArray z31.2.1⟩), (.string ⟨List.toArray z31.2.2.1⟩), (.int .i64 z31.2.2.2.1), (.int .i64 z31.2.2.2.2.1)])) (cs' := #[(.int .i64 z31.1), (.string ⟨List.toArray z31.2.1⟩), (.string ⟨List.toArray z31.2.2.1⟩), (.int .i64 z31.2.2.2.1), (.int .i64 z31.2.2.2.2.1)]) (d := none) (k := 6) (by kernel_rfl) rfl (by kernel_rfl) (by kernel_rfl) hs40 rfl (by kernel_rfl) ?_
      intro w41 hs42
      have hs43 : SP [] w0 w41 [boxE g10 23 #[(.int .i64 pKind1), (.string ⟨List.toArray pA2⟩), (.string ⟨List.toArray pB3⟩), (.int .i64 pN4), (.int .i64 pM5)], boxE g37 23 #[(.int .i64 z31.1), (.string ⟨List.toArray z31.2.1⟩), (.string ⟨List.toArray z31.2.2.1⟩), (.int .i64 z31.2.2.2.1), (.int .i64 z31.2.2.2.2.1)]] := hs42
      clear hs42
      refine In.run' 1 (k' := 8) rfl [(7, (.bool z31.2.2.2.2.2))] (by kernel_rfl) ?_
      refine In.fin (by kernel_rfl) ?_
      refine At.seq (by kernel_rfl) (p0 := [true, true, true, true, false]) (p1 := [true, true, true, true, true]) rfl rfl ?_
      refine At.region (by kernel_rfl) (by kernel_rfl) ?_
      refine In.run' 1 (k' := 1) rfl [(25, (.slice A7 (List.length p6) c8))] (by kernel_rfl) ?_
      obtain ⟨z44, hz45, H⟩ := bind_elim H
      refine In.step (k' := 2) rfl (by kernel_rfl) ?_
      refine Step.callF (f := 12) (fo := (.func 12)) (xs := #[(.tmp 25)]) (tys := #[24]) (first := #[]) (captured := #[]) (d := (some 26)) (k := 1) (by kernel_rfl) rfl (by kernel_rfl) (by kernel_rfl) Try.call12 (L_subwayref05_Get_walk A7 c8 p6 w41 (RdT.sp hr9 hs43) z44 hz45) ?_
      rintro e w46 ⟨rfl, hs47⟩
      refine ⟨_, rfl, ?_⟩
      have hs48 := SP.call hs43 hs47
      clear hs47
      have hs49 : SP [] w0 w46 [boxE g10 23 #[(.int .i64 pKind1), (.string ⟨List.toArray pA2⟩), (.string ⟨List.toArray pB3⟩), (.int .i64 pN4), (.int .i64 pM5)], boxE g37 23 #[(.int .i64 z31.1), (.string ⟨List.toArray z31.2.1⟩), (.string ⟨List.toArray z31.2.2.1⟩), (.int .i64 z31.2.2.2.1), (.int .i64 z31.2.2.2.2.1)]] := hs48
      clear hs48
      refine In.run' 3 (k' := 5) rfl [(24, (.tuple #[(.agg #[(.int .i64 z44.1), (.string ⟨List.toArray z44.2.1⟩), (.string ⟨List.toArray z44.2.2.1⟩), (.int .i64 z44.2.2.2.1), (.int .i64 z44.2.2.2.2.1)]), (.bool z44.2.2.2.2.2)])), (27, (.agg #[(.int .i64 z44.1), (.string ⟨List.toArray z44.2.1⟩), (.string ⟨List.toArray z44.2.2.1⟩), (.int .i64 z44.2.2.2.1), (.int .i64 z44.2.2.2.2.1)])), (28, (.bool z44.2.2.2.2.2))] (by kernel_rfl) ?_
      refine In.step (k' := 6) rfl (by kernel_rfl) ?_
      refine Step.alloc (t := 23) (z := (.agg #[(.int .i64 0), (.string ⟨List.toArray ([] : List UInt8)⟩), (.string ⟨List.toArray ([] : List UInt8)⟩), (.int .i64 0), (.int .i64 0)])) (d := (some 8)) (k := 5) (by kernel_rfl) rfl (by kernel_rfl) hs49 ?_
      intro g50 w51 hs52
      have hs53 : SP [] w0 w51 [boxE g10 23 #[(.int .i64 pKind1), (.string ⟨List.toArray pA2⟩), (.string ⟨List.toArray pB3⟩), (.int .i64 pN4), (.int .i64 pM5)], boxE g37 23 #[(.int .i64 z31.1), (.string ⟨List.toArray z31.2.1⟩), (.string ⟨List.toArray z31.2.2.1⟩), (.int .i64 z31.2.2.2.1), (.int .i64 z31.2.2.2.2.1)], boxE g50 23 #[(.int .i64 0), (.string ⟨List.toArray ([] : List UInt8)⟩), (.string ⟨List.toArray ([] : List UInt8)⟩), (.int .i64 0), (.int .i64 0)]] := hs52
      clear hs52
      refine In.step (k' := 7) rfl (by kernel_rfl) ?_
      refine Step.store (t := 23) (x := (.tmp 8)) (y := (.tmp 27)) (g := g50) (off := 0) (i := 2) (v := (.agg #[(.int .i64 z44.1), (.string ⟨List.toArray z44.2.1⟩), (.string ⟨List.toArray z44.2.2.1⟩), (.int .i64 z44.2.2.2.1), (.int .i64 z44.2.2.2.2.1)])) (cs' := #[(.int .i64 z44.1), (.string ⟨List.toArray z44.2.1⟩), (.string ⟨List.toArray z44.2.2.1⟩), (.int .i64 z44.2.2.2.1), (.int .i64 z44.2.2.2.2.1)]) (d := none) (k := 6) (by kernel_rfl) rfl (by kernel_rfl) (by kernel_rfl) hs53 rfl (by kernel_rfl) ?_
      intro w54 hs55
      have hs56 : SP [] w0 w54 [boxE g10 23 #[(.int .i64 pKind1), (.string ⟨List.toArray pA2⟩), (.string ⟨List.toArray pB3⟩), (.int .i64 pN4), (.int .i64 pM5)], boxE g37 23 #[(.int .i64 z31.1), (.string ⟨List.toArray z31.2.1⟩), (.string ⟨List.toArray z31.2.2.1⟩), (.int .i64 z31.2.2.2.1), (.int .i64 z31.2.2.2.2.1)], boxE g50 23 #[(.int .i64 z44.1), (.string ⟨List.toArray z44.2.1⟩), (.string ⟨List.toArray z44.2.2.1⟩), (.int .i64 z44.2.2.2.1), (.int .i64 z44.2.2.2.2.1)]] := hs55
      clear hs55
      refine In.run' 1 (k' := 8) rfl [(9, (.bool z44.2.2.2.2.2))] (by kernel_rfl) ?_
      refine In.fin (by kernel_rfl) ?_
      refine At.seq (by kernel_rfl) (p0 := [true, true, true, true, true, false]) (p1 := [true, true, true, true, true, true]) rfl rfl ?_
      refine At.join (fun ρ w => ∃ (v289 : Bool), Known ρ [(4, (.bool v289))] ∧ SP [] w0 w [] ∧ L_subwaylaw05_WireTells_k2 v289 = some r) ?_ ?_
      · rcases Bool.eq_false_or_eq_true z14 with hb292 | hb292
        · have H := ct H hb292
          obtain ⟨z293, hz294, H⟩ := bind_elim H
          obtain ⟨z297, hz298, H⟩ := bind_elim H
          rcases Bool.eq_false_or_eq_true (z293 == z297) with hb301 | hb301
          · have H := ct H hb301
            obtain ⟨z302, hz303, H⟩ := bind_elim H
            obtain ⟨z308, hz309, H⟩ := bind_elim H
            rcases Bool.eq_false_or_eq_true (z302 == z308) with hb314 | hb314
            · have H := ct H hb314
              rcases Bool.eq_false_or_eq_true ((z31.1 == z44.1) && ((z31.2.1 == z44.2.1) && ((z31.2.2.1 == z44.2.2.1) && ((z31.2.2.2.1 == z44.2.2.2.1) && (z31.2.2.2.2.1 == z44.2.2.2.2.1))))) with hb315 | hb315
              · have H := ct H hb315
                refine At.draw (by kernel_rfl) (by kernel_rfl) (by kernel_rfl) (by kernel_rfl) (by kernel_rfl) [FEq (.bool z14), FEq (.bool z14), FEq (.agg #[(.int .i64 pKind1), (.string ⟨List.toArray pA2⟩), (.string ⟨List.toArray pB3⟩), (.int .i64 pN4), (.int .i64 pM5)]), FEq (.bool z293), FEq (.agg #[(.int .i64 pKind1), (.string ⟨List.toArray pA2⟩), (.string ⟨List.toArray pB3⟩), (.int .i64 pN4), (.int .i64 pM5)]), FEq (.bool z297), FEq (.bool (z293 == z297)), FEq (.bool (z293 == z297)), FEq (.bool (z293 == z297)), FEq (.agg #[(.int .i64 pKind1), (.string ⟨List.toArray pA2⟩), (.string ⟨List.toArray pB3⟩), (.int .i64 pN4), (.int .i64 pM5)]), FRow eU8 z302, FEq (.string ⟨List.toArray z302⟩), FEq (.agg #[(.int .i64 pKind1), (.string ⟨List.toArray pA2⟩), (.string ⟨List.toArray pB3⟩), (.int .i64 pN4), (.int .i64 pM5)]), FRow eU8 z308, FEq (.string ⟨List.toArray z308⟩), FEq (.bool (z302 == z308)), FEq (.bool (z302 == z308)), FEq (.bool (z302 == z308)), FEq (.agg #[(.int .i64 z31.1), (.string ⟨List.toArray z31.2.1⟩), (.string ⟨List.toArray z31.2.2.1⟩), (.int .i64 z31.2.2.2.1), (.int .i64 z31.2.2.2.2.1)]), FEq (.agg #[(.int .i64 z44.1), (.string ⟨List.toArray z44.2.1⟩), (.string ⟨List.toArray z44.2.2.1⟩), (.int .i64 z44.2.2.2.1), (.int .i64 z44.2.2.2.2.1)]), FEq (.bool ((z31.1 == z44.1) && ((z31.2.1 == z44.2.1) && ((z31.2.2.1 == z44.2.2.1) && ((z31.2.2.2.1 == z44.2.2.2.1) && (z31.2.2.2.2.1 == z44.2.2.2.2.1)))))), FEq (.bool ((z31.1 == z44.1) && ((z31.2.1 == z44.2.1) && ((z31.2.2.1 == z44.2.2.1) && ((z31.2.2.2.1 == z44.2.2.2.1) && (z31.2.2.2.2.1 == z44.2.2.2.2.1)))))), FEq (.bool ((z31.1 == z44.1) && ((z31.2.1 == z44.2.1) && ((z31.2.2.1 == z44.2.2.1) && ((z31.2.2.2.1 == z44.2.2.2.1) && (z31.2.2.2.2.1 == z44.2.2.2.2.1)))))), FEq (.bool z31.2.2.2.2.2), FEq (.bool z44.2.2.2.2.2), FEq (.bool (z31.2.2.2.2.2 == z44.2.2.2.2.2)), FEq (.bool (z31.2.2.2.2.2 == z44.2.2.2.2.2)), FEq (.bool (z31.2.2.2.2.2 == z44.2.2.2.2.2))] ⟨mono_eq _, mono_eq _, mono_eq _, mono_eq _, mono_eq _, mono_eq _, mono_eq _, mono_eq _, mono_eq _, mono_eq _, mono_row _ _, mono_eq _, mono_eq _, mono_row _ _, mono_eq _, mono_eq _, mono_eq _, mono_eq _, mono_eq _, mono_eq _, mono_eq _, mono_eq _, mono_eq _, mono_eq _, mono_eq _, mono_eq _, mono_eq _, mono_eq _, trivial⟩ (N := 28) (by kernel_rfl) ⟨⟨⟨⟨⟨⟨⟨⟨⟨⟨⟨⟨⟨⟨⟨⟨⟨⟨⟨⟨⟨⟨⟨⟨⟨⟨⟨⟨trivial, ?_⟩, ?_⟩, ?_⟩, ?_⟩, ?_⟩, ?_⟩, ?_⟩, ?_⟩, ?_⟩, ?_⟩, ?_⟩, ?_⟩, ?_⟩, ?_⟩, ?_⟩, ?_⟩, ?_⟩, ?_⟩, ?_⟩, ?_⟩, ?_⟩, ?_⟩, ?_⟩, ?_⟩, ?_⟩, ?_⟩, ?_⟩, ?_⟩ ?_
                · intro ρ' w' hk hs hah
                  have e5 : ρ' 5 = (.bool z14) := (hs 5 (by kernel_rfl)).trans (by kernel_rfl)
                  have hkn : Known ρ' [(5, (.bool z14))] := ⟨e5, trivial⟩
                  refine Step.known _ hkn ?_
                  refine Step.run (k := 0) (v := (.bool z14)) (by kernel_rfl) ?_
                  exact ⟨Below.refl _ _, _, updO_known hkn, rfl⟩
                · intro ρ' w' hk hs hah
                  have e29 := hah 0 29 (by kernel_rfl)
                  have hkn : Known ρ' [(29, (.bool z14))] := ⟨e29, trivial⟩
                  refine Step.known _ hkn ?_
                  refine Step.run (k := 1) (v := (.bool z14)) (by kernel_rfl) ?_
                  exact ⟨Below.refl _ _, _, updO_known hkn, rfl⟩
                · intro ρ' w' hk hs hah
                  have e2 : ρ' 2 = (.pointer (some ⟨g10, 0, none⟩)) := (hs 2 (by kernel_rfl)).trans (by kernel_rfl)
                  have e30 := hah 1 30 (by kernel_rfl)
                  have hkn : Known ρ' [(2, (.pointer (some ⟨g10, 0, none⟩))), (30, (.bool true))] := ⟨e2, (Eq.trans e30 (congrArg Value.bool hb292)), trivial⟩
                  refine Step.known _ hkn ?_
                  have hs318 := SP.below hs56 hk
                  refine Step.load (t := 23) (x := (.tmp 2)) (g := g10) (off := 0) (i := 0) (v := (.agg #[(.int .i64 pKind1), (.string ⟨List.toArray pA2⟩), (.string ⟨List.toArray pB3⟩), (.int .i64 pN4), (.int .i64 pM5)])) (d := (some 31)) (k := 2) (by kernel_rfl) rfl (by kernel_rfl) hs318 rfl (by kernel_rfl) ?_
                  exact ⟨Below.refl _ _, _, updO_known hkn, rfl⟩
                · intro ρ' w' hk hs hah
                  have e31 := hah 2 31 (by kernel_rfl)
                  have e30 := hah 1 30 (by kernel_rfl)
                  have hkn : Known ρ' [(31, (.agg #[(.int .i64 pKind1), (.string ⟨List.toArray pA2⟩), (.string ⟨List.toArray pB3⟩), (.int .i64 pN4), (.int .i64 pM5)])), (30, (.bool true))] := ⟨e31, (Eq.trans e30 (congrArg Value.bool hb292)), trivial⟩
                  refine Step.known _ hkn ?_
                  have hs319 := SP.below hs56 hk
                  refine Step.callF (f := 13) (fo := (.func 13)) (xs := #[(.tmp 31)]) (tys := #[23]) (first := #[]) (captured := #[]) (d := (some 32)) (k := 3) (by kernel_rfl) rfl (by kernel_rfl) (by kernel_rfl) Try.call13 (L_wire_Right_walk  pKind1 pA2 pB3 pN4 pM5 w'  z293 hz294) ?_
                  rintro e w320 ⟨rfl, hs321⟩
                  exact ⟨_, rfl, SP.keeps hs321, _, updO_known hkn, rfl⟩
                · intro ρ' w' hk hs hah
                  have e2 : ρ' 2 = (.pointer (some ⟨g10, 0, none⟩)) := (hs 2 (by kernel_rfl)).trans (by kernel_rfl)
                  have e30 := hah 1 30 (by kernel_rfl)
                  have hkn : Known ρ' [(2, (.pointer (some ⟨g10, 0, none⟩))), (30, (.bool true))] := ⟨e2, (Eq.trans e30 (congrArg Value.bool hb292)), trivial⟩
                  refine Step.known _ hkn ?_
                  have hs322 := SP.below hs56 hk
                  refine Step.load (t := 23) (x := (.tmp 2)) (g := g10) (off := 0) (i := 0) (v := (.agg #[(.int .i64 pKind1), (.string ⟨List.toArray pA2⟩), (.string ⟨List.toArray pB3⟩), (.int .i64 pN4), (.int .i64 pM5)])) (d := (some 33)) (k := 4) (by kernel_rfl) rfl (by kernel_rfl) hs322 rfl (by kernel_rfl) ?_
                  exact ⟨Below.refl _ _, _, updO_known hkn, rfl⟩
                · intro ρ' w' hk hs hah
                  have e33 := hah 4 33 (by kernel_rfl)
                  have e30 := hah 1 30 (by kernel_rfl)
                  have hkn : Known ρ' [(33, (.agg #[(.int .i64 pKind1), (.string ⟨List.toArray pA2⟩), (.string ⟨List.toArray pB3⟩), (.int .i64 pN4), (.int .i64 pM5)])), (30, (.bool true))] := ⟨e33, (Eq.trans e30 (congrArg Value.bool hb292)), trivial⟩
                  refine Step.known _ hkn ?_
                  have hs323 := SP.below hs56 hk
                  refine Step.callF (f := 14) (fo := (.func 14)) (xs := #[(.tmp 33)]) (tys := #[23]) (first := #[]) (captured := #[]) (d := (some 34)) (k := 5) (by kernel_rfl) rfl (by kernel_rfl) (by kernel_rfl) Try.call14 (L_subwayref05_Right_walk  pKind1 pA2 pB3 pN4 pM5 w'  z297 hz298) ?_
                  rintro e w324 ⟨rfl, hs325⟩
                  exact ⟨_, rfl, SP.keeps hs325, _, updO_known hkn, rfl⟩
                · intro ρ' w' hk hs hah
                  have e32 := hah 3 32 (by kernel_rfl)
                  have e34 := hah 5 34 (by kernel_rfl)
                  have e30 := hah 1 30 (by kernel_rfl)
                  have hkn : Known ρ' [(32, (.bool z293)), (34, (.bool z297)), (30, (.bool true))] := ⟨e32, e34, (Eq.trans e30 (congrArg Value.bool hb292)), trivial⟩
                  refine Step.known _ hkn ?_
                  refine Step.run (k := 6) (v := (.bool (z293 == z297))) (by kernel_rfl) ?_
                  exact ⟨Below.refl _ _, _, updO_known hkn, rfl⟩
                · intro ρ' w' hk hs hah
                  have e30 := hah 1 30 (by kernel_rfl)
                  have e35 := hah 6 35 (by kernel_rfl)
                  have hkn : Known ρ' [(30, (.bool true)), (35, (.bool (z293 == z297)))] := ⟨(Eq.trans e30 (congrArg Value.bool hb292)), e35, trivial⟩
                  refine Step.known _ hkn ?_
                  refine Step.run (k := 7) (v := (.bool (z293 == z297))) (by kernel_rfl) ?_
                  exact ⟨Below.refl _ _, _, updO_known hkn, rfl⟩
                · intro ρ' w' hk hs hah
                  have e36 := hah 7 36 (by kernel_rfl)
                  have hkn : Known ρ' [(36, (.bool (z293 == z297)))] := ⟨e36, trivial⟩
                  refine Step.known _ hkn ?_
                  refine Step.run (k := 8) (v := (.bool (z293 == z297))) (by kernel_rfl) ?_
                  exact ⟨Below.refl _ _, _, updO_known hkn, rfl⟩
                · intro ρ' w' hk hs hah
                  have e2 : ρ' 2 = (.pointer (some ⟨g10, 0, none⟩)) := (hs 2 (by kernel_rfl)).trans (by kernel_rfl)
                  have e37 := hah 8 37 (by kernel_rfl)
                  have hkn : Known ρ' [(2, (.pointer (some ⟨g10, 0, none⟩))), (37, (.bool true))] := ⟨e2, (Eq.trans e37 (congrArg Value.bool hb301)), trivial⟩
                  refine Step.known _ hkn ?_
                  have hs329 := SP.below hs56 hk
                  refine Step.load (t := 23) (x := (.tmp 2)) (g := g10) (off := 0) (i := 0) (v := (.agg #[(.int .i64 pKind1), (.string ⟨List.toArray pA2⟩), (.string ⟨List.toArray pB3⟩), (.int .i64 pN4), (.int .i64 pM5)])) (d := (some 38)) (k := 9) (by kernel_rfl) rfl (by kernel_rfl) hs329 rfl (by kernel_rfl) ?_
                  exact ⟨Below.refl _ _, _, updO_known hkn, rfl⟩
                · intro ρ' w' hk hs hah
                  have e38 := hah 9 38 (by kernel_rfl)
                  have e37 := hah 8 37 (by kernel_rfl)
                  have hkn : Known ρ' [(38, (.agg #[(.int .i64 pKind1), (.string ⟨List.toArray pA2⟩), (.string ⟨List.toArray pB3⟩), (.int .i64 pN4), (.int .i64 pM5)])), (37, (.bool true))] := ⟨e38, (Eq.trans e37 (congrArg Value.bool hb301)), trivial⟩
                  refine Step.known _ hkn ?_
                  have hs330 := SP.below hs56 hk
                  refine Step.callF (f := 15) (fo := (.func 15)) (xs := #[(.tmp 38)]) (tys := #[23]) (first := #[]) (captured := #[]) (d := (some 39)) (k := 10) (by kernel_rfl) rfl (by kernel_rfl) (by kernel_rfl) Try.call15 (L_wire_Put_walk  pKind1 pA2 pB3 pN4 pM5 w'  z302 hz303) ?_
                  rintro e w331 ⟨A333, c334, rfl, hs332⟩
                  exact ⟨_, rfl, SP.keeps hs332, _, updO_known hkn, ⟨_, _, rfl, SP.row_of hs332⟩⟩
                · intro ρ' w' hk hs hah
                  obtain ⟨A336, c337, e39, hr338⟩ := hah 10 39 (by kernel_rfl)
                  have e37 := hah 8 37 (by kernel_rfl)
                  have hkn : Known ρ' [(39, (.slice A336 (List.length z302) c337)), (37, (.bool true))] := ⟨e39, (Eq.trans e37 (congrArg Value.bool hb301)), trivial⟩
                  refine Step.known _ hkn ?_
                  have hs335 := SP.below hs56 hk
                  refine Step.toStr (T := 24) (S' := 9) (E := 5) (x := (.tmp 39)) (A := A336) (c := c337) (l := z302) (d := (some 40)) (k := 11) (by kernel_rfl) rfl (by kernel_rfl) (by kernel_rfl) (by kernel_rfl) (by kernel_rfl) hr338 ?_
                  exact ⟨Below.refl _ _, _, updO_known hkn, rfl⟩
                · intro ρ' w' hk hs hah
                  have e2 : ρ' 2 = (.pointer (some ⟨g10, 0, none⟩)) := (hs 2 (by kernel_rfl)).trans (by kernel_rfl)
                  have e37 := hah 8 37 (by kernel_rfl)
                  have hkn : Known ρ' [(2, (.pointer (some ⟨g10, 0, none⟩))), (37, (.bool true))] := ⟨e2, (Eq.trans e37 (congrArg Value.bool hb301)), trivial⟩
                  refine Step.known _ hkn ?_
                  have hs339 := SP.below hs56 hk
                  refine Step.load (t := 23) (x := (.tmp 2)) (g := g10) (off := 0) (i := 0) (v := (.agg #[(.int .i64 pKind1), (.string ⟨List.toArray pA2⟩), (.string ⟨List.toArray pB3⟩), (.int .i64 pN4), (.int .i64 pM5)])) (d := (some 41)) (k := 12) (by kernel_rfl) rfl (by kernel_rfl) hs339 rfl (by kernel_rfl) ?_
                  exact ⟨Below.refl _ _, _, updO_known hkn, rfl⟩
                · intro ρ' w' hk hs hah
                  have e41 := hah 12 41 (by kernel_rfl)
                  have e37 := hah 8 37 (by kernel_rfl)
                  have hkn : Known ρ' [(41, (.agg #[(.int .i64 pKind1), (.string ⟨List.toArray pA2⟩), (.string ⟨List.toArray pB3⟩), (.int .i64 pN4), (.int .i64 pM5)])), (37, (.bool true))] := ⟨e41, (Eq.trans e37 (congrArg Value.bool hb301)), trivial⟩
                  refine Step.known _ hkn ?_
                  have hs340 := SP.below hs56 hk
                  refine Step.callF (f := 16) (fo := (.func 16)) (xs := #[(.tmp 41)]) (tys := #[23]) (first := #[]) (captured := #[]) (d := (some 42)) (k := 13) (by kernel_rfl) rfl (by kernel_rfl) (by kernel_rfl) Try.call16 (L_subwayref05_Put_walk  pKind1 pA2 pB3 pN4 pM5 w'  z308 hz309) ?_
                  rintro e w341 ⟨A343, c344, rfl, hs342⟩
                  exact ⟨_, rfl, SP.keeps hs342, _, updO_known hkn, ⟨_, _, rfl, SP.row_of hs342⟩⟩
                · intro ρ' w' hk hs hah
                  obtain ⟨A346, c347, e42, hr348⟩ := hah 13 42 (by kernel_rfl)
                  have e37 := hah 8 37 (by kernel_rfl)
                  have hkn : Known ρ' [(42, (.slice A346 (List.length z308) c347)), (37, (.bool true))] := ⟨e42, (Eq.trans e37 (congrArg Value.bool hb301)), trivial⟩
                  refine Step.known _ hkn ?_
                  have hs345 := SP.below hs56 hk
                  refine Step.toStr (T := 24) (S' := 9) (E := 5) (x := (.tmp 42)) (A := A346) (c := c347) (l := z308) (d := (some 43)) (k := 14) (by kernel_rfl) rfl (by kernel_rfl) (by kernel_rfl) (by kernel_rfl) (by kernel_rfl) hr348 ?_
                  exact ⟨Below.refl _ _, _, updO_known hkn, rfl⟩
                · intro ρ' w' hk hs hah
                  have e40 := hah 11 40 (by kernel_rfl)
                  have e43 := hah 14 43 (by kernel_rfl)
                  have e37 := hah 8 37 (by kernel_rfl)
                  have hkn : Known ρ' [(40, (.string ⟨List.toArray z302⟩)), (43, (.string ⟨List.toArray z308⟩)), (37, (.bool true))] := ⟨e40, e43, (Eq.trans e37 (congrArg Value.bool hb301)), trivial⟩
                  refine Step.known _ hkn ?_
                  have hs349 := SP.below hs56 hk
                  refine Step.strOp (op := .eql) (T := 9) (T' := 9) (x := (.tmp 40)) (y := (.tmp 43)) (a := z302) (b := z308) (r := (.bool (z302 == z308))) (d := (some 44)) (k := 15) (by kernel_rfl) rfl (by kernel_rfl) (by kernel_rfl) rfl ?_
                  exact ⟨Below.refl _ _, _, updO_known hkn, rfl⟩
                · intro ρ' w' hk hs hah
                  have e37 := hah 8 37 (by kernel_rfl)
                  have e44 := hah 15 44 (by kernel_rfl)
                  have hkn : Known ρ' [(37, (.bool true)), (44, (.bool (z302 == z308)))] := ⟨(Eq.trans e37 (congrArg Value.bool hb301)), e44, trivial⟩
                  refine Step.known _ hkn ?_
                  refine Step.run (k := 16) (v := (.bool (z302 == z308))) (by kernel_rfl) ?_
                  exact ⟨Below.refl _ _, _, updO_known hkn, rfl⟩
                · intro ρ' w' hk hs hah
                  have e45 := hah 16 45 (by kernel_rfl)
                  have hkn : Known ρ' [(45, (.bool (z302 == z308)))] := ⟨e45, trivial⟩
                  refine Step.known _ hkn ?_
                  refine Step.run (k := 17) (v := (.bool (z302 == z308))) (by kernel_rfl) ?_
                  exact ⟨Below.refl _ _, _, updO_known hkn, rfl⟩
                · intro ρ' w' hk hs hah
                  have e6 : ρ' 6 = (.pointer (some ⟨g37, 0, none⟩)) := (hs 6 (by kernel_rfl)).trans (by kernel_rfl)
                  have e46 := hah 17 46 (by kernel_rfl)
                  have hkn : Known ρ' [(6, (.pointer (some ⟨g37, 0, none⟩))), (46, (.bool true))] := ⟨e6, (Eq.trans e46 (congrArg Value.bool hb314)), trivial⟩
                  refine Step.known _ hkn ?_
                  have hs352 := SP.below hs56 hk
                  refine Step.load (t := 23) (x := (.tmp 6)) (g := g37) (off := 0) (i := 1) (v := (.agg #[(.int .i64 z31.1), (.string ⟨List.toArray z31.2.1⟩), (.string ⟨List.toArray z31.2.2.1⟩), (.int .i64 z31.2.2.2.1), (.int .i64 z31.2.2.2.2.1)])) (d := (some 47)) (k := 18) (by kernel_rfl) rfl (by kernel_rfl) hs352 rfl (by kernel_rfl) ?_
                  exact ⟨Below.refl _ _, _, updO_known hkn, rfl⟩
                · intro ρ' w' hk hs hah
                  have e8 : ρ' 8 = (.pointer (some ⟨g50, 0, none⟩)) := (hs 8 (by kernel_rfl)).trans (by kernel_rfl)
                  have e46 := hah 17 46 (by kernel_rfl)
                  have hkn : Known ρ' [(8, (.pointer (some ⟨g50, 0, none⟩))), (46, (.bool true))] := ⟨e8, (Eq.trans e46 (congrArg Value.bool hb314)), trivial⟩
                  refine Step.known _ hkn ?_
                  have hs353 := SP.below hs56 hk
                  refine Step.load (t := 23) (x := (.tmp 8)) (g := g50) (off := 0) (i := 2) (v := (.agg #[(.int .i64 z44.1), (.string ⟨List.toArray z44.2.1⟩), (.string ⟨List.toArray z44.2.2.1⟩), (.int .i64 z44.2.2.2.1), (.int .i64 z44.2.2.2.2.1)])) (d := (some 48)) (k := 19) (by kernel_rfl) rfl (by kernel_rfl) hs353 rfl (by kernel_rfl) ?_
                  exact ⟨Below.refl _ _, _, updO_known hkn, rfl⟩
                · intro ρ' w' hk hs hah
                  have e47 := hah 18 47 (by kernel_rfl)
                  have e48 := hah 19 48 (by kernel_rfl)
                  have e46 := hah 17 46 (by kernel_rfl)
                  have hkn : Known ρ' [(47, (.agg #[(.int .i64 z31.1), (.string ⟨List.toArray z31.2.1⟩), (.string ⟨List.toArray z31.2.2.1⟩), (.int .i64 z31.2.2.2.1), (.int .i64 z31.2.2.2.2.1)])), (48, (.agg #[(.int .i64 z44.1), (.string ⟨List.toArray z44.2.1⟩), (.string ⟨List.toArray z44.2.2.1⟩), (.int .i64 z44.2.2.2.1), (.int .i64 z44.2.2.2.2.1)])), (46, (.bool true))] := ⟨e47, e48, (Eq.trans e46 (congrArg Value.bool hb314)), trivial⟩
                  refine Step.known _ hkn ?_
                  have hs354 := SP.below hs56 hk
                  refine Step.bin (op := .eql) (T := 23) (T' := 23) (x := (.tmp 47)) (y := (.tmp 48)) (vx := (.agg #[(.int .i64 z31.1), (.string ⟨List.toArray z31.2.1⟩), (.string ⟨List.toArray z31.2.2.1⟩), (.int .i64 z31.2.2.2.1), (.int .i64 z31.2.2.2.2.1)])) (vy := (.agg #[(.int .i64 z44.1), (.string ⟨List.toArray z44.2.1⟩), (.string ⟨List.toArray z44.2.2.1⟩), (.int .i64 z44.2.2.2.1), (.int .i64 z44.2.2.2.2.1)])) (v := (.bool ((z31.1 == z44.1) && ((z31.2.1 == z44.2.1) && ((z31.2.2.1 == z44.2.2.1) && ((z31.2.2.2.1 == z44.2.2.2.1) && (z31.2.2.2.2.1 == z44.2.2.2.2.1))))))) (d := (some 49)) (k := 20) (by kernel_rfl) rfl (by kernel_rfl) (by kernel_rfl) (by clear H; intro w; simp only [beq_dec]; go_simp; simp only [struct_ifn, struct_ifn0, struct_if, beq_dec, Bool.and_true] <;> simp only [Bool.not_and]) ?_
                  exact ⟨Below.refl _ _, _, updO_known hkn, rfl⟩
                · intro ρ' w' hk hs hah
                  have e46 := hah 17 46 (by kernel_rfl)
                  have e49 := hah 20 49 (by kernel_rfl)
                  have hkn : Known ρ' [(46, (.bool true)), (49, (.bool ((z31.1 == z44.1) && ((z31.2.1 == z44.2.1) && ((z31.2.2.1 == z44.2.2.1) && ((z31.2.2.2.1 == z44.2.2.2.1) && (z31.2.2.2.2.1 == z44.2.2.2.2.1)))))))] := ⟨(Eq.trans e46 (congrArg Value.bool hb314)), e49, trivial⟩
                  refine Step.known _ hkn ?_
                  refine Step.run (k := 21) (v := (.bool ((z31.1 == z44.1) && ((z31.2.1 == z44.2.1) && ((z31.2.2.1 == z44.2.2.1) && ((z31.2.2.2.1 == z44.2.2.2.1) && (z31.2.2.2.2.1 == z44.2.2.2.2.1))))))) (by kernel_rfl) ?_
                  exact ⟨Below.refl _ _, _, updO_known hkn, rfl⟩
                · intro ρ' w' hk hs hah
                  have e50 := hah 21 50 (by kernel_rfl)
                  have hkn : Known ρ' [(50, (.bool ((z31.1 == z44.1) && ((z31.2.1 == z44.2.1) && ((z31.2.2.1 == z44.2.2.1) && ((z31.2.2.2.1 == z44.2.2.2.1) && (z31.2.2.2.2.1 == z44.2.2.2.2.1)))))))] := ⟨e50, trivial⟩
                  refine Step.known _ hkn ?_
                  refine Step.run (k := 22) (v := (.bool ((z31.1 == z44.1) && ((z31.2.1 == z44.2.1) && ((z31.2.2.1 == z44.2.2.1) && ((z31.2.2.2.1 == z44.2.2.2.1) && (z31.2.2.2.2.1 == z44.2.2.2.2.1))))))) (by kernel_rfl) ?_
                  exact ⟨Below.refl _ _, _, updO_known hkn, rfl⟩
                · intro ρ' w' hk hs hah
                  have e7 : ρ' 7 = (.bool z31.2.2.2.2.2) := (hs 7 (by kernel_rfl)).trans (by kernel_rfl)
                  have e51 := hah 22 51 (by kernel_rfl)
                  have hkn : Known ρ' [(7, (.bool z31.2.2.2.2.2)), (51, (.bool true))] := ⟨e7, (Eq.trans e51 (congrArg Value.bool hb315)), trivial⟩
                  refine Step.known _ hkn ?_
                  refine Step.run (k := 23) (v := (.bool z31.2.2.2.2.2)) (by kernel_rfl) ?_
                  exact ⟨Below.refl _ _, _, updO_known hkn, rfl⟩
                · intro ρ' w' hk hs hah
                  have e9 : ρ' 9 = (.bool z44.2.2.2.2.2) := (hs 9 (by kernel_rfl)).trans (by kernel_rfl)
                  have e51 := hah 22 51 (by kernel_rfl)
                  have hkn : Known ρ' [(9, (.bool z44.2.2.2.2.2)), (51, (.bool true))] := ⟨e9, (Eq.trans e51 (congrArg Value.bool hb315)), trivial⟩
                  refine Step.known _ hkn ?_
                  refine Step.run (k := 24) (v := (.bool z44.2.2.2.2.2)) (by kernel_rfl) ?_
                  exact ⟨Below.refl _ _, _, updO_known hkn, rfl⟩
                · intro ρ' w' hk hs hah
                  have e52 := hah 23 52 (by kernel_rfl)
                  have e53 := hah 24 53 (by kernel_rfl)
                  have e51 := hah 22 51 (by kernel_rfl)
                  have hkn : Known ρ' [(52, (.bool z31.2.2.2.2.2)), (53, (.bool z44.2.2.2.2.2)), (51, (.bool true))] := ⟨e52, e53, (Eq.trans e51 (congrArg Value.bool hb315)), trivial⟩
                  refine Step.known _ hkn ?_
                  refine Step.run (k := 25) (v := (.bool (z31.2.2.2.2.2 == z44.2.2.2.2.2))) (by kernel_rfl) ?_
                  exact ⟨Below.refl _ _, _, updO_known hkn, rfl⟩
                · intro ρ' w' hk hs hah
                  have e51 := hah 22 51 (by kernel_rfl)
                  have e54 := hah 25 54 (by kernel_rfl)
                  have hkn : Known ρ' [(51, (.bool true)), (54, (.bool (z31.2.2.2.2.2 == z44.2.2.2.2.2)))] := ⟨(Eq.trans e51 (congrArg Value.bool hb315)), e54, trivial⟩
                  refine Step.known _ hkn ?_
                  refine Step.run (k := 26) (v := (.bool (z31.2.2.2.2.2 == z44.2.2.2.2.2))) (by kernel_rfl) ?_
                  exact ⟨Below.refl _ _, _, updO_known hkn, rfl⟩
                · intro ρ' w' hk hs hah
                  have e55 := hah 26 55 (by kernel_rfl)
                  have hkn : Known ρ' [(55, (.bool (z31.2.2.2.2.2 == z44.2.2.2.2.2)))] := ⟨e55, trivial⟩
                  refine Step.known _ hkn ?_
                  refine Step.run (k := 27) (v := (.bool (z31.2.2.2.2.2 == z44.2.2.2.2.2))) (by kernel_rfl) ?_
                  exact ⟨Below.refl _ _, _, updO_known hkn, rfl⟩
                · intro ρ' w' hk hs hf
                  have hs363 := SP.below hs56 hk
                  obtain ⟨w362, hww362⟩ : ∃ x, w' = x := ⟨_, rfl⟩
                  subst hww362
                  have e4 := hf 27 4 (by kernel_rfl)
                  refine postKnown [(4, (.bool (z31.2.2.2.2.2 == z44.2.2.2.2.2)))] ⟨e4, trivial⟩ ?_
                  exact ⟨(z31.2.2.2.2.2 == z44.2.2.2.2.2), ⟨(by kernel_rfl), trivial⟩, SP.sel hs363 [] rfl rfl, H⟩
              · have H := cf H hb315
                refine At.draw (by kernel_rfl) (by kernel_rfl) (by kernel_rfl) (by kernel_rfl) (by kernel_rfl) [FEq (.bool z14), FEq (.bool z14), FEq (.agg #[(.int .i64 pKind1), (.string ⟨List.toArray pA2⟩), (.string ⟨List.toArray pB3⟩), (.int .i64 pN4), (.int .i64 pM5)]), FEq (.bool z293), FEq (.agg #[(.int .i64 pKind1), (.string ⟨List.toArray pA2⟩), (.string ⟨List.toArray pB3⟩), (.int .i64 pN4), (.int .i64 pM5)]), FEq (.bool z297), FEq (.bool (z293 == z297)), FEq (.bool (z293 == z297)), FEq (.bool (z293 == z297)), FEq (.agg #[(.int .i64 pKind1), (.string ⟨List.toArray pA2⟩), (.string ⟨List.toArray pB3⟩), (.int .i64 pN4), (.int .i64 pM5)]), FRow eU8 z302, FEq (.string ⟨List.toArray z302⟩), FEq (.agg #[(.int .i64 pKind1), (.string ⟨List.toArray pA2⟩), (.string ⟨List.toArray pB3⟩), (.int .i64 pN4), (.int .i64 pM5)]), FRow eU8 z308, FEq (.string ⟨List.toArray z308⟩), FEq (.bool (z302 == z308)), FEq (.bool (z302 == z308)), FEq (.bool (z302 == z308)), FEq (.agg #[(.int .i64 z31.1), (.string ⟨List.toArray z31.2.1⟩), (.string ⟨List.toArray z31.2.2.1⟩), (.int .i64 z31.2.2.2.1), (.int .i64 z31.2.2.2.2.1)]), FEq (.agg #[(.int .i64 z44.1), (.string ⟨List.toArray z44.2.1⟩), (.string ⟨List.toArray z44.2.2.1⟩), (.int .i64 z44.2.2.2.1), (.int .i64 z44.2.2.2.2.1)]), FEq (.bool ((z31.1 == z44.1) && ((z31.2.1 == z44.2.1) && ((z31.2.2.1 == z44.2.2.1) && ((z31.2.2.2.1 == z44.2.2.2.1) && (z31.2.2.2.2.1 == z44.2.2.2.2.1)))))), FEq (.bool ((z31.1 == z44.1) && ((z31.2.1 == z44.2.1) && ((z31.2.2.1 == z44.2.2.1) && ((z31.2.2.2.1 == z44.2.2.2.1) && (z31.2.2.2.2.1 == z44.2.2.2.2.1)))))), FEq (.bool ((z31.1 == z44.1) && ((z31.2.1 == z44.2.1) && ((z31.2.2.1 == z44.2.2.1) && ((z31.2.2.2.1 == z44.2.2.2.1) && (z31.2.2.2.2.1 == z44.2.2.2.2.1)))))), FAny, FAny, FAny, FEq (.bool false), FEq (.bool false)] ⟨mono_eq _, mono_eq _, mono_eq _, mono_eq _, mono_eq _, mono_eq _, mono_eq _, mono_eq _, mono_eq _, mono_eq _, mono_row _ _, mono_eq _, mono_eq _, mono_row _ _, mono_eq _, mono_eq _, mono_eq _, mono_eq _, mono_eq _, mono_eq _, mono_eq _, mono_eq _, mono_eq _, mono_any, mono_any, mono_any, mono_eq _, mono_eq _, trivial⟩ (N := 28) (by kernel_rfl) ⟨⟨⟨⟨⟨⟨⟨⟨⟨⟨⟨⟨⟨⟨⟨⟨⟨⟨⟨⟨⟨⟨⟨⟨⟨⟨⟨⟨trivial, ?_⟩, ?_⟩, ?_⟩, ?_⟩, ?_⟩, ?_⟩, ?_⟩, ?_⟩, ?_⟩, ?_⟩, ?_⟩, ?_⟩, ?_⟩, ?_⟩, ?_⟩, ?_⟩, ?_⟩, ?_⟩, ?_⟩, ?_⟩, ?_⟩, ?_⟩, ?_⟩, ?_⟩, ?_⟩, ?_⟩, ?_⟩, ?_⟩ ?_
                · intro ρ' w' hk hs hah
                  have e5 : ρ' 5 = (.bool z14) := (hs 5 (by kernel_rfl)).trans (by kernel_rfl)
                  have hkn : Known ρ' [(5, (.bool z14))] := ⟨e5, trivial⟩
                  refine Step.known _ hkn ?_
                  refine Step.run (k := 0) (v := (.bool z14)) (by kernel_rfl) ?_
                  exact ⟨Below.refl _ _, _, updO_known hkn, rfl⟩
                · intro ρ' w' hk hs hah
                  have e29 := hah 0 29 (by kernel_rfl)
                  have hkn : Known ρ' [(29, (.bool z14))] := ⟨e29, trivial⟩
                  refine Step.known _ hkn ?_
                  refine Step.run (k := 1) (v := (.bool z14)) (by kernel_rfl) ?_
                  exact ⟨Below.refl _ _, _, updO_known hkn, rfl⟩
                · intro ρ' w' hk hs hah
                  have e2 : ρ' 2 = (.pointer (some ⟨g10, 0, none⟩)) := (hs 2 (by kernel_rfl)).trans (by kernel_rfl)
                  have e30 := hah 1 30 (by kernel_rfl)
                  have hkn : Known ρ' [(2, (.pointer (some ⟨g10, 0, none⟩))), (30, (.bool true))] := ⟨e2, (Eq.trans e30 (congrArg Value.bool hb292)), trivial⟩
                  refine Step.known _ hkn ?_
                  have hs366 := SP.below hs56 hk
                  refine Step.load (t := 23) (x := (.tmp 2)) (g := g10) (off := 0) (i := 0) (v := (.agg #[(.int .i64 pKind1), (.string ⟨List.toArray pA2⟩), (.string ⟨List.toArray pB3⟩), (.int .i64 pN4), (.int .i64 pM5)])) (d := (some 31)) (k := 2) (by kernel_rfl) rfl (by kernel_rfl) hs366 rfl (by kernel_rfl) ?_
                  exact ⟨Below.refl _ _, _, updO_known hkn, rfl⟩
                · intro ρ' w' hk hs hah
                  have e31 := hah 2 31 (by kernel_rfl)
                  have e30 := hah 1 30 (by kernel_rfl)
                  have hkn : Known ρ' [(31, (.agg #[(.int .i64 pKind1), (.string ⟨List.toArray pA2⟩), (.string ⟨List.toArray pB3⟩), (.int .i64 pN4), (.int .i64 pM5)])), (30, (.bool true))] := ⟨e31, (Eq.trans e30 (congrArg Value.bool hb292)), trivial⟩
                  refine Step.known _ hkn ?_
                  have hs367 := SP.below hs56 hk
                  refine Step.callF (f := 13) (fo := (.func 13)) (xs := #[(.tmp 31)]) (tys := #[23]) (first := #[]) (captured := #[]) (d := (some 32)) (k := 3) (by kernel_rfl) rfl (by kernel_rfl) (by kernel_rfl) Try.call13 (L_wire_Right_walk  pKind1 pA2 pB3 pN4 pM5 w'  z293 hz294) ?_
                  rintro e w368 ⟨rfl, hs369⟩
                  exact ⟨_, rfl, SP.keeps hs369, _, updO_known hkn, rfl⟩
                · intro ρ' w' hk hs hah
                  have e2 : ρ' 2 = (.pointer (some ⟨g10, 0, none⟩)) := (hs 2 (by kernel_rfl)).trans (by kernel_rfl)
                  have e30 := hah 1 30 (by kernel_rfl)
                  have hkn : Known ρ' [(2, (.pointer (some ⟨g10, 0, none⟩))), (30, (.bool true))] := ⟨e2, (Eq.trans e30 (congrArg Value.bool hb292)), trivial⟩
                  refine Step.known _ hkn ?_
                  have hs370 := SP.below hs56 hk
                  refine Step.load (t := 23) (x := (.tmp 2)) (g := g10) (off := 0) (i := 0) (v := (.agg #[(.int .i64 pKind1), (.string ⟨List.toArray pA2⟩), (.string ⟨List.toArray pB3⟩), (.int .i64 pN4), (.int .i64 pM5)])) (d := (some 33)) (k := 4) (by kernel_rfl) rfl (by kernel_rfl) hs370 rfl (by kernel_rfl) ?_
                  exact ⟨Below.refl _ _, _, updO_known hkn, rfl⟩
                · intro ρ' w' hk hs hah
                  have e33 := hah 4 33 (by kernel_rfl)
                  have e30 := hah 1 30 (by kernel_rfl)
                  have hkn : Known ρ' [(33, (.agg #[(.int .i64 pKind1), (.string ⟨List.toArray pA2⟩), (.string ⟨List.toArray pB3⟩), (.int .i64 pN4), (.int .i64 pM5)])), (30, (.bool true))] := ⟨e33, (Eq.trans e30 (congrArg Value.bool hb292)), trivial⟩
                  refine Step.known _ hkn ?_
                  have hs371 := SP.below hs56 hk
                  refine Step.callF (f := 14) (fo := (.func 14)) (xs := #[(.tmp 33)]) (tys := #[23]) (first := #[]) (captured := #[]) (d := (some 34)) (k := 5) (by kernel_rfl) rfl (by kernel_rfl) (by kernel_rfl) Try.call14 (L_subwayref05_Right_walk  pKind1 pA2 pB3 pN4 pM5 w'  z297 hz298) ?_
                  rintro e w372 ⟨rfl, hs373⟩
                  exact ⟨_, rfl, SP.keeps hs373, _, updO_known hkn, rfl⟩
                · intro ρ' w' hk hs hah
                  have e32 := hah 3 32 (by kernel_rfl)
                  have e34 := hah 5 34 (by kernel_rfl)
                  have e30 := hah 1 30 (by kernel_rfl)
                  have hkn : Known ρ' [(32, (.bool z293)), (34, (.bool z297)), (30, (.bool true))] := ⟨e32, e34, (Eq.trans e30 (congrArg Value.bool hb292)), trivial⟩
                  refine Step.known _ hkn ?_
                  refine Step.run (k := 6) (v := (.bool (z293 == z297))) (by kernel_rfl) ?_
                  exact ⟨Below.refl _ _, _, updO_known hkn, rfl⟩
                · intro ρ' w' hk hs hah
                  have e30 := hah 1 30 (by kernel_rfl)
                  have e35 := hah 6 35 (by kernel_rfl)
                  have hkn : Known ρ' [(30, (.bool true)), (35, (.bool (z293 == z297)))] := ⟨(Eq.trans e30 (congrArg Value.bool hb292)), e35, trivial⟩
                  refine Step.known _ hkn ?_
                  refine Step.run (k := 7) (v := (.bool (z293 == z297))) (by kernel_rfl) ?_
                  exact ⟨Below.refl _ _, _, updO_known hkn, rfl⟩
                · intro ρ' w' hk hs hah
                  have e36 := hah 7 36 (by kernel_rfl)
                  have hkn : Known ρ' [(36, (.bool (z293 == z297)))] := ⟨e36, trivial⟩
                  refine Step.known _ hkn ?_
                  refine Step.run (k := 8) (v := (.bool (z293 == z297))) (by kernel_rfl) ?_
                  exact ⟨Below.refl _ _, _, updO_known hkn, rfl⟩
                · intro ρ' w' hk hs hah
                  have e2 : ρ' 2 = (.pointer (some ⟨g10, 0, none⟩)) := (hs 2 (by kernel_rfl)).trans (by kernel_rfl)
                  have e37 := hah 8 37 (by kernel_rfl)
                  have hkn : Known ρ' [(2, (.pointer (some ⟨g10, 0, none⟩))), (37, (.bool true))] := ⟨e2, (Eq.trans e37 (congrArg Value.bool hb301)), trivial⟩
                  refine Step.known _ hkn ?_
                  have hs377 := SP.below hs56 hk
                  refine Step.load (t := 23) (x := (.tmp 2)) (g := g10) (off := 0) (i := 0) (v := (.agg #[(.int .i64 pKind1), (.string ⟨List.toArray pA2⟩), (.string ⟨List.toArray pB3⟩), (.int .i64 pN4), (.int .i64 pM5)])) (d := (some 38)) (k := 9) (by kernel_rfl) rfl (by kernel_rfl) hs377 rfl (by kernel_rfl) ?_
                  exact ⟨Below.refl _ _, _, updO_known hkn, rfl⟩
                · intro ρ' w' hk hs hah
                  have e38 := hah 9 38 (by kernel_rfl)
                  have e37 := hah 8 37 (by kernel_rfl)
                  have hkn : Known ρ' [(38, (.agg #[(.int .i64 pKind1), (.string ⟨List.toArray pA2⟩), (.string ⟨List.toArray pB3⟩), (.int .i64 pN4), (.int .i64 pM5)])), (37, (.bool true))] := ⟨e38, (Eq.trans e37 (congrArg Value.bool hb301)), trivial⟩
                  refine Step.known _ hkn ?_
                  have hs378 := SP.below hs56 hk
                  refine Step.callF (f := 15) (fo := (.func 15)) (xs := #[(.tmp 38)]) (tys := #[23]) (first := #[]) (captured := #[]) (d := (some 39)) (k := 10) (by kernel_rfl) rfl (by kernel_rfl) (by kernel_rfl) Try.call15 (L_wire_Put_walk  pKind1 pA2 pB3 pN4 pM5 w'  z302 hz303) ?_
                  rintro e w379 ⟨A381, c382, rfl, hs380⟩
                  exact ⟨_, rfl, SP.keeps hs380, _, updO_known hkn, ⟨_, _, rfl, SP.row_of hs380⟩⟩
                · intro ρ' w' hk hs hah
                  obtain ⟨A384, c385, e39, hr386⟩ := hah 10 39 (by kernel_rfl)
                  have e37 := hah 8 37 (by kernel_rfl)
                  have hkn : Known ρ' [(39, (.slice A384 (List.length z302) c385)), (37, (.bool true))] := ⟨e39, (Eq.trans e37 (congrArg Value.bool hb301)), trivial⟩
                  refine Step.known _ hkn ?_
                  have hs383 := SP.below hs56 hk
                  refine Step.toStr (T := 24) (S' := 9) (E := 5) (x := (.tmp 39)) (A := A384) (c := c385) (l := z302) (d := (some 40)) (k := 11) (by kernel_rfl) rfl (by kernel_rfl) (by kernel_rfl) (by kernel_rfl) (by kernel_rfl) hr386 ?_
                  exact ⟨Below.refl _ _, _, updO_known hkn, rfl⟩
                · intro ρ' w' hk hs hah
                  have e2 : ρ' 2 = (.pointer (some ⟨g10, 0, none⟩)) := (hs 2 (by kernel_rfl)).trans (by kernel_rfl)
                  have e37 := hah 8 37 (by kernel_rfl)
                  have hkn : Known ρ' [(2, (.pointer (some ⟨g10, 0, none⟩))), (37, (.bool true))] := ⟨e2, (Eq.trans e37 (congrArg Value.bool hb301)), trivial⟩
                  refine Step.known _ hkn ?_
                  have hs387 := SP.below hs56 hk
                  refine Step.load (t := 23) (x := (.tmp 2)) (g := g10) (off := 0) (i := 0) (v := (.agg #[(.int .i64 pKind1), (.string ⟨List.toArray pA2⟩), (.string ⟨List.toArray pB3⟩), (.int .i64 pN4), (.int .i64 pM5)])) (d := (some 41)) (k := 12) (by kernel_rfl) rfl (by kernel_rfl) hs387 rfl (by kernel_rfl) ?_
                  exact ⟨Below.refl _ _, _, updO_known hkn, rfl⟩
                · intro ρ' w' hk hs hah
                  have e41 := hah 12 41 (by kernel_rfl)
                  have e37 := hah 8 37 (by kernel_rfl)
                  have hkn : Known ρ' [(41, (.agg #[(.int .i64 pKind1), (.string ⟨List.toArray pA2⟩), (.string ⟨List.toArray pB3⟩), (.int .i64 pN4), (.int .i64 pM5)])), (37, (.bool true))] := ⟨e41, (Eq.trans e37 (congrArg Value.bool hb301)), trivial⟩
                  refine Step.known _ hkn ?_
                  have hs388 := SP.below hs56 hk
                  refine Step.callF (f := 16) (fo := (.func 16)) (xs := #[(.tmp 41)]) (tys := #[23]) (first := #[]) (captured := #[]) (d := (some 42)) (k := 13) (by kernel_rfl) rfl (by kernel_rfl) (by kernel_rfl) Try.call16 (L_subwayref05_Put_walk  pKind1 pA2 pB3 pN4 pM5 w'  z308 hz309) ?_
                  rintro e w389 ⟨A391, c392, rfl, hs390⟩
                  exact ⟨_, rfl, SP.keeps hs390, _, updO_known hkn, ⟨_, _, rfl, SP.row_of hs390⟩⟩
                · intro ρ' w' hk hs hah
                  obtain ⟨A394, c395, e42, hr396⟩ := hah 13 42 (by kernel_rfl)
                  have e37 := hah 8 37 (by kernel_rfl)
                  have hkn : Known ρ' [(42, (.slice A394 (List.length z308) c395)), (37, (.bool true))] := ⟨e42, (Eq.trans e37 (congrArg Value.bool hb301)), trivial⟩
                  refine Step.known _ hkn ?_
                  have hs393 := SP.below hs56 hk
                  refine Step.toStr (T := 24) (S' := 9) (E := 5) (x := (.tmp 42)) (A := A394) (c := c395) (l := z308) (d := (some 43)) (k := 14) (by kernel_rfl) rfl (by kernel_rfl) (by kernel_rfl) (by kernel_rfl) (by kernel_rfl) hr396 ?_
                  exact ⟨Below.refl _ _, _, updO_known hkn, rfl⟩
                · intro ρ' w' hk hs hah
                  have e40 := hah 11 40 (by kernel_rfl)
                  have e43 := hah 14 43 (by kernel_rfl)
                  have e37 := hah 8 37 (by kernel_rfl)
                  have hkn : Known ρ' [(40, (.string ⟨List.toArray z302⟩)), (43, (.string ⟨List.toArray z308⟩)), (37, (.bool true))] := ⟨e40, e43, (Eq.trans e37 (congrArg Value.bool hb301)), trivial⟩
                  refine Step.known _ hkn ?_
                  have hs397 := SP.below hs56 hk
                  refine Step.strOp (op := .eql) (T := 9) (T' := 9) (x := (.tmp 40)) (y := (.tmp 43)) (a := z302) (b := z308) (r := (.bool (z302 == z308))) (d := (some 44)) (k := 15) (by kernel_rfl) rfl (by kernel_rfl) (by kernel_rfl) rfl ?_
                  exact ⟨Below.refl _ _, _, updO_known hkn, rfl⟩
                · intro ρ' w' hk hs hah
                  have e37 := hah 8 37 (by kernel_rfl)
                  have e44 := hah 15 44 (by kernel_rfl)
                  have hkn : Known ρ' [(37, (.bool true)), (44, (.bool (z302 == z308)))] := ⟨(Eq.trans e37 (congrArg Value.bool hb301)), e44, trivial⟩
                  refine Step.known _ hkn ?_
                  refine Step.run (k := 16) (v := (.bool (z302 == z308))) (by kernel_rfl) ?_
                  exact ⟨Below.refl _ _, _, updO_known hkn, rfl⟩
                · intro ρ' w' hk hs hah
                  have e45 := hah 16 45 (by kernel_rfl)
                  have hkn : Known ρ' [(45, (.bool (z302 == z308)))] := ⟨e45, trivial⟩
                  refine Step.known _ hkn ?_
                  refine Step.run (k := 17) (v := (.bool (z302 == z308))) (by kernel_rfl) ?_
                  exact ⟨Below.refl _ _, _, updO_known hkn, rfl⟩
                · intro ρ' w' hk hs hah
                  have e6 : ρ' 6 = (.pointer (some ⟨g37, 0, none⟩)) := (hs 6 (by kernel_rfl)).trans (by kernel_rfl)
                  have e46 := hah 17 46 (by kernel_rfl)
                  have hkn : Known ρ' [(6, (.pointer (some ⟨g37, 0, none⟩))), (46, (.bool true))] := ⟨e6, (Eq.trans e46 (congrArg Value.bool hb314)), trivial⟩
                  refine Step.known _ hkn ?_
                  have hs400 := SP.below hs56 hk
                  refine Step.load (t := 23) (x := (.tmp 6)) (g := g37) (off := 0) (i := 1) (v := (.agg #[(.int .i64 z31.1), (.string ⟨List.toArray z31.2.1⟩), (.string ⟨List.toArray z31.2.2.1⟩), (.int .i64 z31.2.2.2.1), (.int .i64 z31.2.2.2.2.1)])) (d := (some 47)) (k := 18) (by kernel_rfl) rfl (by kernel_rfl) hs400 rfl (by kernel_rfl) ?_
                  exact ⟨Below.refl _ _, _, updO_known hkn, rfl⟩
                · intro ρ' w' hk hs hah
                  have e8 : ρ' 8 = (.pointer (some ⟨g50, 0, none⟩)) := (hs 8 (by kernel_rfl)).trans (by kernel_rfl)
                  have e46 := hah 17 46 (by kernel_rfl)
                  have hkn : Known ρ' [(8, (.pointer (some ⟨g50, 0, none⟩))), (46, (.bool true))] := ⟨e8, (Eq.trans e46 (congrArg Value.bool hb314)), trivial⟩
                  refine Step.known _ hkn ?_
                  have hs401 := SP.below hs56 hk
                  refine Step.load (t := 23) (x := (.tmp 8)) (g := g50) (off := 0) (i := 2) (v := (.agg #[(.int .i64 z44.1), (.string ⟨List.toArray z44.2.1⟩), (.string ⟨List.toArray z44.2.2.1⟩), (.int .i64 z44.2.2.2.1), (.int .i64 z44.2.2.2.2.1)])) (d := (some 48)) (k := 19) (by kernel_rfl) rfl (by kernel_rfl) hs401 rfl (by kernel_rfl) ?_
                  exact ⟨Below.refl _ _, _, updO_known hkn, rfl⟩
                · intro ρ' w' hk hs hah
                  have e47 := hah 18 47 (by kernel_rfl)
                  have e48 := hah 19 48 (by kernel_rfl)
                  have e46 := hah 17 46 (by kernel_rfl)
                  have hkn : Known ρ' [(47, (.agg #[(.int .i64 z31.1), (.string ⟨List.toArray z31.2.1⟩), (.string ⟨List.toArray z31.2.2.1⟩), (.int .i64 z31.2.2.2.1), (.int .i64 z31.2.2.2.2.1)])), (48, (.agg #[(.int .i64 z44.1), (.string ⟨List.toArray z44.2.1⟩), (.string ⟨List.toArray z44.2.2.1⟩), (.int .i64 z44.2.2.2.1), (.int .i64 z44.2.2.2.2.1)])), (46, (.bool true))] := ⟨e47, e48, (Eq.trans e46 (congrArg Value.bool hb314)), trivial⟩
                  refine Step.known _ hkn ?_
                  have hs402 := SP.below hs56 hk
                  refine Step.bin (op := .eql) (T := 23) (T' := 23) (x := (.tmp 47)) (y := (.tmp 48)) (vx := (.agg #[(.int .i64 z31.1), (.string ⟨List.toArray z31.2.1⟩), (.string ⟨List.toArray z31.2.2.1⟩), (.int .i64 z31.2.2.2.1), (.int .i64 z31.2.2.2.2.1)])) (vy := (.agg #[(.int .i64 z44.1), (.string ⟨List.toArray z44.2.1⟩), (.string ⟨List.toArray z44.2.2.1⟩), (.int .i64 z44.2.2.2.1), (.int .i64 z44.2.2.2.2.1)])) (v := (.bool ((z31.1 == z44.1) && ((z31.2.1 == z44.2.1) && ((z31.2.2.1 == z44.2.2.1) && ((z31.2.2.2.1 == z44.2.2.2.1) && (z31.2.2.2.2.1 == z44.2.2.2.2.1))))))) (d := (some 49)) (k := 20) (by kernel_rfl) rfl (by kernel_rfl) (by kernel_rfl) (by clear H; intro w; simp only [beq_dec]; go_simp; simp only [struct_ifn, struct_ifn0, struct_if, beq_dec, Bool.and_true] <;> simp only [Bool.not_and]) ?_
                  exact ⟨Below.refl _ _, _, updO_known hkn, rfl⟩
                · intro ρ' w' hk hs hah
                  have e46 := hah 17 46 (by kernel_rfl)
                  have e49 := hah 20 49 (by kernel_rfl)
                  have hkn : Known ρ' [(46, (.bool true)), (49, (.bool ((z31.1 == z44.1) && ((z31.2.1 == z44.2.1) && ((z31.2.2.1 == z44.2.2.1) && ((z31.2.2.2.1 == z44.2.2.2.1) && (z31.2.2.2.2.1 == z44.2.2.2.2.1)))))))] := ⟨(Eq.trans e46 (congrArg Value.bool hb314)), e49, trivial⟩
                  refine Step.known _ hkn ?_
                  refine Step.run (k := 21) (v := (.bool ((z31.1 == z44.1) && ((z31.2.1 == z44.2.1) && ((z31.2.2.1 == z44.2.2.1) && ((z31.2.2.2.1 == z44.2.2.2.1) && (z31.2.2.2.2.1 == z44.2.2.2.2.1))))))) (by kernel_rfl) ?_
                  exact ⟨Below.refl _ _, _, updO_known hkn, rfl⟩
                · intro ρ' w' hk hs hah
                  have e50 := hah 21 50 (by kernel_rfl)
                  have hkn : Known ρ' [(50, (.bool ((z31.1 == z44.1) && ((z31.2.1 == z44.2.1) && ((z31.2.2.1 == z44.2.2.1) && ((z31.2.2.2.1 == z44.2.2.2.1) && (z31.2.2.2.2.1 == z44.2.2.2.2.1)))))))] := ⟨e50, trivial⟩
                  refine Step.known _ hkn ?_
                  refine Step.run (k := 22) (v := (.bool ((z31.1 == z44.1) && ((z31.2.1 == z44.2.1) && ((z31.2.2.1 == z44.2.2.1) && ((z31.2.2.2.1 == z44.2.2.2.1) && (z31.2.2.2.2.1 == z44.2.2.2.2.1))))))) (by kernel_rfl) ?_
                  exact ⟨Below.refl _ _, _, updO_known hkn, rfl⟩
                · intro ρ' w' hk hs hah
                  have e7 : ρ' 7 = (.bool z31.2.2.2.2.2) := (hs 7 (by kernel_rfl)).trans (by kernel_rfl)
                  have e51 := hah 22 51 (by kernel_rfl)
                  have hkn : Known ρ' [(7, (.bool z31.2.2.2.2.2)), (51, (.bool false))] := ⟨e7, (Eq.trans e51 (congrArg Value.bool hb315)), trivial⟩
                  refine Step.known _ hkn ?_
                  refine Step.not (k := 23) (d := (some 52)) (by kernel_rfl) rfl ?_
                  exact ⟨Below.refl _ _, _, updO_known hkn, trivial⟩
                · intro ρ' w' hk hs hah
                  have e9 : ρ' 9 = (.bool z44.2.2.2.2.2) := (hs 9 (by kernel_rfl)).trans (by kernel_rfl)
                  have e51 := hah 22 51 (by kernel_rfl)
                  have hkn : Known ρ' [(9, (.bool z44.2.2.2.2.2)), (51, (.bool false))] := ⟨e9, (Eq.trans e51 (congrArg Value.bool hb315)), trivial⟩
                  refine Step.known _ hkn ?_
                  refine Step.not (k := 24) (d := (some 53)) (by kernel_rfl) rfl ?_
                  exact ⟨Below.refl _ _, _, updO_known hkn, trivial⟩
                · intro ρ' w' hk hs hah
                  have e51 := hah 22 51 (by kernel_rfl)
                  have hkn : Known ρ' [(51, (.bool false))] := ⟨(Eq.trans e51 (congrArg Value.bool hb315)), trivial⟩
                  refine Step.known _ hkn ?_
                  refine Step.not (k := 25) (d := (some 54)) (by kernel_rfl) rfl ?_
                  exact ⟨Below.refl _ _, _, updO_known hkn, trivial⟩
                · intro ρ' w' hk hs hah
                  have e51 := hah 22 51 (by kernel_rfl)
                  have hkn : Known ρ' [(51, (.bool false))] := ⟨(Eq.trans e51 (congrArg Value.bool hb315)), trivial⟩
                  refine Step.known _ hkn ?_
                  refine Step.run (k := 26) (v := (.bool false)) (by kernel_rfl) ?_
                  exact ⟨Below.refl _ _, _, updO_known hkn, rfl⟩
                · intro ρ' w' hk hs hah
                  have e55 := hah 26 55 (by kernel_rfl)
                  have hkn : Known ρ' [(55, (.bool false))] := ⟨e55, trivial⟩
                  refine Step.known _ hkn ?_
                  refine Step.run (k := 27) (v := (.bool false)) (by kernel_rfl) ?_
                  exact ⟨Below.refl _ _, _, updO_known hkn, rfl⟩
                · intro ρ' w' hk hs hf
                  have hs411 := SP.below hs56 hk
                  obtain ⟨w410, hww410⟩ : ∃ x, w' = x := ⟨_, rfl⟩
                  subst hww410
                  have e4 := hf 27 4 (by kernel_rfl)
                  refine postKnown [(4, (.bool false))] ⟨e4, trivial⟩ ?_
                  exact ⟨false, ⟨(by kernel_rfl), trivial⟩, SP.sel hs411 [] rfl rfl, H⟩
            · have H := cf H hb314
              refine At.draw (by kernel_rfl) (by kernel_rfl) (by kernel_rfl) (by kernel_rfl) (by kernel_rfl) [FEq (.bool z14), FEq (.bool z14), FEq (.agg #[(.int .i64 pKind1), (.string ⟨List.toArray pA2⟩), (.string ⟨List.toArray pB3⟩), (.int .i64 pN4), (.int .i64 pM5)]), FEq (.bool z293), FEq (.agg #[(.int .i64 pKind1), (.string ⟨List.toArray pA2⟩), (.string ⟨List.toArray pB3⟩), (.int .i64 pN4), (.int .i64 pM5)]), FEq (.bool z297), FEq (.bool (z293 == z297)), FEq (.bool (z293 == z297)), FEq (.bool (z293 == z297)), FEq (.agg #[(.int .i64 pKind1), (.string ⟨List.toArray pA2⟩), (.string ⟨List.toArray pB3⟩), (.int .i64 pN4), (.int .i64 pM5)]), FRow eU8 z302, FEq (.string ⟨List.toArray z302⟩), FEq (.agg #[(.int .i64 pKind1), (.string ⟨List.toArray pA2⟩), (.string ⟨List.toArray pB3⟩), (.int .i64 pN4), (.int .i64 pM5)]), FRow eU8 z308, FEq (.string ⟨List.toArray z308⟩), FEq (.bool (z302 == z308)), FEq (.bool (z302 == z308)), FEq (.bool (z302 == z308)), FAny, FAny, FAny, FEq (.bool false), FEq (.bool false), FAny, FAny, FAny, FEq (.bool false), FEq (.bool false)] ⟨mono_eq _, mono_eq _, mono_eq _, mono_eq _, mono_eq _, mono_eq _, mono_eq _, mono_eq _, mono_eq _, mono_eq _, mono_row _ _, mono_eq _, mono_eq _, mono_row _ _, mono_eq _, mono_eq _, mono_eq _, mono_eq _, mono_any, mono_any, mono_any, mono_eq _, mono_eq _, mono_any, mono_any, mono_any, mono_eq _, mono_eq _, trivial⟩ (N := 28) (by kernel_rfl) ⟨⟨⟨⟨⟨⟨⟨⟨⟨⟨⟨⟨⟨⟨⟨⟨⟨⟨⟨⟨⟨⟨⟨⟨⟨⟨⟨⟨trivial, ?_⟩, ?_⟩, ?_⟩, ?_⟩, ?_⟩, ?_⟩, ?_⟩, ?_⟩, ?_⟩, ?_⟩, ?_⟩, ?_⟩, ?_⟩, ?_⟩, ?_⟩, ?_⟩, ?_⟩, ?_⟩, ?_⟩, ?_⟩, ?_⟩, ?_⟩, ?_⟩, ?_⟩, ?_⟩, ?_⟩, ?_⟩, ?_⟩ ?_
              · intro ρ' w' hk hs hah
                have e5 : ρ' 5 = (.bool z14) := (hs 5 (by kernel_rfl)).trans (by kernel_rfl)
                have hkn : Known ρ' [(5, (.bool z14))] := ⟨e5, trivial⟩
                refine Step.known _ hkn ?_
                refine Step.run (k := 0) (v := (.bool z14)) (by kernel_rfl) ?_
                exact ⟨Below.refl _ _, _, updO_known hkn, rfl⟩
              · intro ρ' w' hk hs hah
                have e29 := hah 0 29 (by kernel_rfl)
                have hkn : Known ρ' [(29, (.bool z14))] := ⟨e29, trivial⟩
                refine Step.known _ hkn ?_
                refine Step.run (k := 1) (v := (.bool z14)) (by kernel_rfl) ?_
                exact ⟨Below.refl _ _, _, updO_known hkn, rfl⟩
              · intro ρ' w' hk hs hah
                have e2 : ρ' 2 = (.pointer (some ⟨g10, 0, none⟩)) := (hs 2 (by kernel_rfl)).trans (by kernel_rfl)
                have e30 := hah 1 30 (by kernel_rfl)
                have hkn : Known ρ' [(2, (.pointer (some ⟨g10, 0, none⟩))), (30, (.bool true))] := ⟨e2, (Eq.trans e30 (congrArg Value.bool hb292)), trivial⟩
                refine Step.known _ hkn ?_
                have hs414 := SP.below hs56 hk
                refine Step.load (t := 23) (x := (.tmp 2)) (g := g10) (off := 0) (i := 0) (v := (.agg #[(.int .i64 pKind1), (.string ⟨List.toArray pA2⟩), (.string ⟨List.toArray pB3⟩), (.int .i64 pN4), (.int .i64 pM5)])) (d := (some 31)) (k := 2) (by kernel_rfl) rfl (by kernel_rfl) hs414 rfl (by kernel_rfl) ?_
                exact ⟨Below.refl _ _, _, updO_known hkn, rfl⟩
              · intro ρ' w' hk hs hah
                have e31 := hah 2 31 (by kernel_rfl)
                have e30 := hah 1 30 (by kernel_rfl)
                have hkn : Known ρ' [(31, (.agg #[(.int .i64 pKind1), (.string ⟨List.toArray pA2⟩), (.string ⟨List.toArray pB3⟩), (.int .i64 pN4), (.int .i64 pM5)])), (30, (.bool true))] := ⟨e31, (Eq.trans e30 (congrArg Value.bool hb292)), trivial⟩
                refine Step.known _ hkn ?_
                have hs415 := SP.below hs56 hk
                refine Step.callF (f := 13) (fo := (.func 13)) (xs := #[(.tmp 31)]) (tys := #[23]) (first := #[]) (captured := #[]) (d := (some 32)) (k := 3) (by kernel_rfl) rfl (by kernel_rfl) (by kernel_rfl) Try.call13 (L_wire_Right_walk  pKind1 pA2 pB3 pN4 pM5 w'  z293 hz294) ?_
                rintro e w416 ⟨rfl, hs417⟩
                exact ⟨_, rfl, SP.keeps hs417, _, updO_known hkn, rfl⟩
              · intro ρ' w' hk hs hah
                have e2 : ρ' 2 = (.pointer (some ⟨g10, 0, none⟩)) := (hs 2 (by kernel_rfl)).trans (by kernel_rfl)
                have e30 := hah 1 30 (by kernel_rfl)
                have hkn : Known ρ' [(2, (.pointer (some ⟨g10, 0, none⟩))), (30, (.bool true))] := ⟨e2, (Eq.trans e30 (congrArg Value.bool hb292)), trivial⟩
                refine Step.known _ hkn ?_
                have hs418 := SP.below hs56 hk
                refine Step.load (t := 23) (x := (.tmp 2)) (g := g10) (off := 0) (i := 0) (v := (.agg #[(.int .i64 pKind1), (.string ⟨List.toArray pA2⟩), (.string ⟨List.toArray pB3⟩), (.int .i64 pN4), (.int .i64 pM5)])) (d := (some 33)) (k := 4) (by kernel_rfl) rfl (by kernel_rfl) hs418 rfl (by kernel_rfl) ?_
                exact ⟨Below.refl _ _, _, updO_known hkn, rfl⟩
              · intro ρ' w' hk hs hah
                have e33 := hah 4 33 (by kernel_rfl)
                have e30 := hah 1 30 (by kernel_rfl)
                have hkn : Known ρ' [(33, (.agg #[(.int .i64 pKind1), (.string ⟨List.toArray pA2⟩), (.string ⟨List.toArray pB3⟩), (.int .i64 pN4), (.int .i64 pM5)])), (30, (.bool true))] := ⟨e33, (Eq.trans e30 (congrArg Value.bool hb292)), trivial⟩
                refine Step.known _ hkn ?_
                have hs419 := SP.below hs56 hk
                refine Step.callF (f := 14) (fo := (.func 14)) (xs := #[(.tmp 33)]) (tys := #[23]) (first := #[]) (captured := #[]) (d := (some 34)) (k := 5) (by kernel_rfl) rfl (by kernel_rfl) (by kernel_rfl) Try.call14 (L_subwayref05_Right_walk  pKind1 pA2 pB3 pN4 pM5 w'  z297 hz298) ?_
                rintro e w420 ⟨rfl, hs421⟩
                exact ⟨_, rfl, SP.keeps hs421, _, updO_known hkn, rfl⟩
              · intro ρ' w' hk hs hah
                have e32 := hah 3 32 (by kernel_rfl)
                have e34 := hah 5 34 (by kernel_rfl)
                have e30 := hah 1 30 (by kernel_rfl)
                have hkn : Known ρ' [(32, (.bool z293)), (34, (.bool z297)), (30, (.bool true))] := ⟨e32, e34, (Eq.trans e30 (congrArg Value.bool hb292)), trivial⟩
                refine Step.known _ hkn ?_
                refine Step.run (k := 6) (v := (.bool (z293 == z297))) (by kernel_rfl) ?_
                exact ⟨Below.refl _ _, _, updO_known hkn, rfl⟩
              · intro ρ' w' hk hs hah
                have e30 := hah 1 30 (by kernel_rfl)
                have e35 := hah 6 35 (by kernel_rfl)
                have hkn : Known ρ' [(30, (.bool true)), (35, (.bool (z293 == z297)))] := ⟨(Eq.trans e30 (congrArg Value.bool hb292)), e35, trivial⟩
                refine Step.known _ hkn ?_
                refine Step.run (k := 7) (v := (.bool (z293 == z297))) (by kernel_rfl) ?_
                exact ⟨Below.refl _ _, _, updO_known hkn, rfl⟩
              · intro ρ' w' hk hs hah
                have e36 := hah 7 36 (by kernel_rfl)
                have hkn : Known ρ' [(36, (.bool (z293 == z297)))] := ⟨e36, trivial⟩
                refine Step.known _ hkn ?_
                refine Step.run (k := 8) (v := (.bool (z293 == z297))) (by kernel_rfl) ?_
                exact ⟨Below.refl _ _, _, updO_known hkn, rfl⟩
              · intro ρ' w' hk hs hah
                have e2 : ρ' 2 = (.pointer (some ⟨g10, 0, none⟩)) := (hs 2 (by kernel_rfl)).trans (by kernel_rfl)
                have e37 := hah 8 37 (by kernel_rfl)
                have hkn : Known ρ' [(2, (.pointer (some ⟨g10, 0, none⟩))), (37, (.bool true))] := ⟨e2, (Eq.trans e37 (congrArg Value.bool hb301)), trivial⟩
                refine Step.known _ hkn ?_
                have hs425 := SP.below hs56 hk
                refine Step.load (t := 23) (x := (.tmp 2)) (g := g10) (off := 0) (i := 0) (v := (.agg #[(.int .i64 pKind1), (.string ⟨List.toArray pA2⟩), (.string ⟨List.toArray pB3⟩), (.int .i64 pN4), (.int .i64 pM5)])) (d := (some 38)) (k := 9) (by kernel_rfl) rfl (by kernel_rfl) hs425 rfl (by kernel_rfl) ?_
                exact ⟨Below.refl _ _, _, updO_known hkn, rfl⟩
              · intro ρ' w' hk hs hah
                have e38 := hah 9 38 (by kernel_rfl)
                have e37 := hah 8 37 (by kernel_rfl)
                have hkn : Known ρ' [(38, (.agg #[(.int .i64 pKind1), (.string ⟨List.toArray pA2⟩), (.string ⟨List.toArray pB3⟩), (.int .i64 pN4), (.int .i64 pM5)])), (37, (.bool true))] := ⟨e38, (Eq.trans e37 (congrArg Value.bool hb301)), trivial⟩
                refine Step.known _ hkn ?_
                have hs426 := SP.below hs56 hk
                refine Step.callF (f := 15) (fo := (.func 15)) (xs := #[(.tmp 38)]) (tys := #[23]) (first := #[]) (captured := #[]) (d := (some 39)) (k := 10) (by kernel_rfl) rfl (by kernel_rfl) (by kernel_rfl) Try.call15 (L_wire_Put_walk  pKind1 pA2 pB3 pN4 pM5 w'  z302 hz303) ?_
                rintro e w427 ⟨A429, c430, rfl, hs428⟩
                exact ⟨_, rfl, SP.keeps hs428, _, updO_known hkn, ⟨_, _, rfl, SP.row_of hs428⟩⟩
              · intro ρ' w' hk hs hah
                obtain ⟨A432, c433, e39, hr434⟩ := hah 10 39 (by kernel_rfl)
                have e37 := hah 8 37 (by kernel_rfl)
                have hkn : Known ρ' [(39, (.slice A432 (List.length z302) c433)), (37, (.bool true))] := ⟨e39, (Eq.trans e37 (congrArg Value.bool hb301)), trivial⟩
                refine Step.known _ hkn ?_
                have hs431 := SP.below hs56 hk
                refine Step.toStr (T := 24) (S' := 9) (E := 5) (x := (.tmp 39)) (A := A432) (c := c433) (l := z302) (d := (some 40)) (k := 11) (by kernel_rfl) rfl (by kernel_rfl) (by kernel_rfl) (by kernel_rfl) (by kernel_rfl) hr434 ?_
                exact ⟨Below.refl _ _, _, updO_known hkn, rfl⟩
              · intro ρ' w' hk hs hah
                have e2 : ρ' 2 = (.pointer (some ⟨g10, 0, none⟩)) := (hs 2 (by kernel_rfl)).trans (by kernel_rfl)
                have e37 := hah 8 37 (by kernel_rfl)
                have hkn : Known ρ' [(2, (.pointer (some ⟨g10, 0, none⟩))), (37, (.bool true))] := ⟨e2, (Eq.trans e37 (congrArg Value.bool hb301)), trivial⟩
                refine Step.known _ hkn ?_
                have hs435 := SP.below hs56 hk
                refine Step.load (t := 23) (x := (.tmp 2)) (g := g10) (off := 0) (i := 0) (v := (.agg #[(.int .i64 pKind1), (.string ⟨List.toArray pA2⟩), (.string ⟨List.toArray pB3⟩), (.int .i64 pN4), (.int .i64 pM5)])) (d := (some 41)) (k := 12) (by kernel_rfl) rfl (by kernel_rfl) hs435 rfl (by kernel_rfl) ?_
                exact ⟨Below.refl _ _, _, updO_known hkn, rfl⟩
              · intro ρ' w' hk hs hah
                have e41 := hah 12 41 (by kernel_rfl)
                have e37 := hah 8 37 (by kernel_rfl)
                have hkn : Known ρ' [(41, (.agg #[(.int .i64 pKind1), (.string ⟨List.toArray pA2⟩), (.string ⟨List.toArray pB3⟩), (.int .i64 pN4), (.int .i64 pM5)])), (37, (.bool true))] := ⟨e41, (Eq.trans e37 (congrArg Value.bool hb301)), trivial⟩
                refine Step.known _ hkn ?_
                have hs436 := SP.below hs56 hk
                refine Step.callF (f := 16) (fo := (.func 16)) (xs := #[(.tmp 41)]) (tys := #[23]) (first := #[]) (captured := #[]) (d := (some 42)) (k := 13) (by kernel_rfl) rfl (by kernel_rfl) (by kernel_rfl) Try.call16 (L_subwayref05_Put_walk  pKind1 pA2 pB3 pN4 pM5 w'  z308 hz309) ?_
                rintro e w437 ⟨A439, c440, rfl, hs438⟩
                exact ⟨_, rfl, SP.keeps hs438, _, updO_known hkn, ⟨_, _, rfl, SP.row_of hs438⟩⟩
              · intro ρ' w' hk hs hah
                obtain ⟨A442, c443, e42, hr444⟩ := hah 13 42 (by kernel_rfl)
                have e37 := hah 8 37 (by kernel_rfl)
                have hkn : Known ρ' [(42, (.slice A442 (List.length z308) c443)), (37, (.bool true))] := ⟨e42, (Eq.trans e37 (congrArg Value.bool hb301)), trivial⟩
                refine Step.known _ hkn ?_
                have hs441 := SP.below hs56 hk
                refine Step.toStr (T := 24) (S' := 9) (E := 5) (x := (.tmp 42)) (A := A442) (c := c443) (l := z308) (d := (some 43)) (k := 14) (by kernel_rfl) rfl (by kernel_rfl) (by kernel_rfl) (by kernel_rfl) (by kernel_rfl) hr444 ?_
                exact ⟨Below.refl _ _, _, updO_known hkn, rfl⟩
              · intro ρ' w' hk hs hah
                have e40 := hah 11 40 (by kernel_rfl)
                have e43 := hah 14 43 (by kernel_rfl)
                have e37 := hah 8 37 (by kernel_rfl)
                have hkn : Known ρ' [(40, (.string ⟨List.toArray z302⟩)), (43, (.string ⟨List.toArray z308⟩)), (37, (.bool true))] := ⟨e40, e43, (Eq.trans e37 (congrArg Value.bool hb301)), trivial⟩
                refine Step.known _ hkn ?_
                have hs445 := SP.below hs56 hk
                refine Step.strOp (op := .eql) (T := 9) (T' := 9) (x := (.tmp 40)) (y := (.tmp 43)) (a := z302) (b := z308) (r := (.bool (z302 == z308))) (d := (some 44)) (k := 15) (by kernel_rfl) rfl (by kernel_rfl) (by kernel_rfl) rfl ?_
                exact ⟨Below.refl _ _, _, updO_known hkn, rfl⟩
              · intro ρ' w' hk hs hah
                have e37 := hah 8 37 (by kernel_rfl)
                have e44 := hah 15 44 (by kernel_rfl)
                have hkn : Known ρ' [(37, (.bool true)), (44, (.bool (z302 == z308)))] := ⟨(Eq.trans e37 (congrArg Value.bool hb301)), e44, trivial⟩
                refine Step.known _ hkn ?_
                refine Step.run (k := 16) (v := (.bool (z302 == z308))) (by kernel_rfl) ?_
                exact ⟨Below.refl _ _, _, updO_known hkn, rfl⟩
              · intro ρ' w' hk hs hah
                have e45 := hah 16 45 (by kernel_rfl)
                have hkn : Known ρ' [(45, (.bool (z302 == z308)))] := ⟨e45, trivial⟩
                refine Step.known _ hkn ?_
                refine Step.run (k := 17) (v := (.bool (z302 == z308))) (by kernel_rfl) ?_
                exact ⟨Below.refl _ _, _, updO_known hkn, rfl⟩
              · intro ρ' w' hk hs hah
                have e6 : ρ' 6 = (.pointer (some ⟨g37, 0, none⟩)) := (hs 6 (by kernel_rfl)).trans (by kernel_rfl)
                have e46 := hah 17 46 (by kernel_rfl)
                have hkn : Known ρ' [(6, (.pointer (some ⟨g37, 0, none⟩))), (46, (.bool false))] := ⟨e6, (Eq.trans e46 (congrArg Value.bool hb314)), trivial⟩
                refine Step.known _ hkn ?_
                refine Step.not (k := 18) (d := (some 47)) (by kernel_rfl) rfl ?_
                exact ⟨Below.refl _ _, _, updO_known hkn, trivial⟩
              · intro ρ' w' hk hs hah
                have e8 : ρ' 8 = (.pointer (some ⟨g50, 0, none⟩)) := (hs 8 (by kernel_rfl)).trans (by kernel_rfl)
                have e46 := hah 17 46 (by kernel_rfl)
                have hkn : Known ρ' [(8, (.pointer (some ⟨g50, 0, none⟩))), (46, (.bool false))] := ⟨e8, (Eq.trans e46 (congrArg Value.bool hb314)), trivial⟩
                refine Step.known _ hkn ?_
                refine Step.not (k := 19) (d := (some 48)) (by kernel_rfl) rfl ?_
                exact ⟨Below.refl _ _, _, updO_known hkn, trivial⟩
              · intro ρ' w' hk hs hah
                have e46 := hah 17 46 (by kernel_rfl)
                have hkn : Known ρ' [(46, (.bool false))] := ⟨(Eq.trans e46 (congrArg Value.bool hb314)), trivial⟩
                refine Step.known _ hkn ?_
                refine Step.not (k := 20) (d := (some 49)) (by kernel_rfl) rfl ?_
                exact ⟨Below.refl _ _, _, updO_known hkn, trivial⟩
              · intro ρ' w' hk hs hah
                have e46 := hah 17 46 (by kernel_rfl)
                have hkn : Known ρ' [(46, (.bool false))] := ⟨(Eq.trans e46 (congrArg Value.bool hb314)), trivial⟩
                refine Step.known _ hkn ?_
                refine Step.run (k := 21) (v := (.bool false)) (by kernel_rfl) ?_
                exact ⟨Below.refl _ _, _, updO_known hkn, rfl⟩
              · intro ρ' w' hk hs hah
                have e50 := hah 21 50 (by kernel_rfl)
                have hkn : Known ρ' [(50, (.bool false))] := ⟨e50, trivial⟩
                refine Step.known _ hkn ?_
                refine Step.run (k := 22) (v := (.bool false)) (by kernel_rfl) ?_
                exact ⟨Below.refl _ _, _, updO_known hkn, rfl⟩
              · intro ρ' w' hk hs hah
                have e7 : ρ' 7 = (.bool z31.2.2.2.2.2) := (hs 7 (by kernel_rfl)).trans (by kernel_rfl)
                have e51 := hah 22 51 (by kernel_rfl)
                have hkn : Known ρ' [(7, (.bool z31.2.2.2.2.2)), (51, (.bool false))] := ⟨e7, e51, trivial⟩
                refine Step.known _ hkn ?_
                refine Step.not (k := 23) (d := (some 52)) (by kernel_rfl) rfl ?_
                exact ⟨Below.refl _ _, _, updO_known hkn, trivial⟩
              · intro ρ' w' hk hs hah
                have e9 : ρ' 9 = (.bool z44.2.2.2.2.2) := (hs 9 (by kernel_rfl)).trans (by kernel_rfl)
                have e51 := hah 22 51 (by kernel_rfl)
                have hkn : Known ρ' [(9, (.bool z44.2.2.2.2.2)), (51, (.bool false))] := ⟨e9, e51, trivial⟩
                refine Step.known _ hkn ?_
                refine Step.not (k := 24) (d := (some 53)) (by kernel_rfl) rfl ?_
                exact ⟨Below.refl _ _, _, updO_known hkn, trivial⟩
              · intro ρ' w' hk hs hah
                have e51 := hah 22 51 (by kernel_rfl)
                have hkn : Known ρ' [(51, (.bool false))] := ⟨e51, trivial⟩
                refine Step.known _ hkn ?_
                refine Step.not (k := 25) (d := (some 54)) (by kernel_rfl) rfl ?_
                exact ⟨Below.refl _ _, _, updO_known hkn, trivial⟩
              · intro ρ' w' hk hs hah
                have e51 := hah 22 51 (by kernel_rfl)
                have hkn : Known ρ' [(51, (.bool false))] := ⟨e51, trivial⟩
                refine Step.known _ hkn ?_
                refine Step.run (k := 26) (v := (.bool false)) (by kernel_rfl) ?_
                exact ⟨Below.refl _ _, _, updO_known hkn, rfl⟩
              · intro ρ' w' hk hs hah
                have e55 := hah 26 55 (by kernel_rfl)
                have hkn : Known ρ' [(55, (.bool false))] := ⟨e55, trivial⟩
                refine Step.known _ hkn ?_
                refine Step.run (k := 27) (v := (.bool false)) (by kernel_rfl) ?_
                exact ⟨Below.refl _ _, _, updO_known hkn, rfl⟩
              · intro ρ' w' hk hs hf
                have hs459 := SP.below hs56 hk
                obtain ⟨w458, hww458⟩ : ∃ x, w' = x := ⟨_, rfl⟩
                subst hww458
                have e4 := hf 27 4 (by kernel_rfl)
                refine postKnown [(4, (.bool false))] ⟨e4, trivial⟩ ?_
                exact ⟨false, ⟨(by kernel_rfl), trivial⟩, SP.sel hs459 [] rfl rfl, H⟩
          · have H := cf H hb301
            refine At.draw (by kernel_rfl) (by kernel_rfl) (by kernel_rfl) (by kernel_rfl) (by kernel_rfl) [FEq (.bool z14), FEq (.bool z14), FEq (.agg #[(.int .i64 pKind1), (.string ⟨List.toArray pA2⟩), (.string ⟨List.toArray pB3⟩), (.int .i64 pN4), (.int .i64 pM5)]), FEq (.bool z293), FEq (.agg #[(.int .i64 pKind1), (.string ⟨List.toArray pA2⟩), (.string ⟨List.toArray pB3⟩), (.int .i64 pN4), (.int .i64 pM5)]), FEq (.bool z297), FEq (.bool (z293 == z297)), FEq (.bool (z293 == z297)), FEq (.bool (z293 == z297)), FAny, FAny, FAny, FAny, FAny, FAny, FAny, FEq (.bool false), FEq (.bool false), FAny, FAny, FAny, FEq (.bool false), FEq (.bool false), FAny, FAny, FAny, FEq (.bool false), FEq (.bool false)] ⟨mono_eq _, mono_eq _, mono_eq _, mono_eq _, mono_eq _, mono_eq _, mono_eq _, mono_eq _, mono_eq _, mono_any, mono_any, mono_any, mono_any, mono_any, mono_any, mono_any, mono_eq _, mono_eq _, mono_any, mono_any, mono_any, mono_eq _, mono_eq _, mono_any, mono_any, mono_any, mono_eq _, mono_eq _, trivial⟩ (N := 28) (by kernel_rfl) ⟨⟨⟨⟨⟨⟨⟨⟨⟨⟨⟨⟨⟨⟨⟨⟨⟨⟨⟨⟨⟨⟨⟨⟨⟨⟨⟨⟨trivial, ?_⟩, ?_⟩, ?_⟩, ?_⟩, ?_⟩, ?_⟩, ?_⟩, ?_⟩, ?_⟩, ?_⟩, ?_⟩, ?_⟩, ?_⟩, ?_⟩, ?_⟩, ?_⟩, ?_⟩, ?_⟩, ?_⟩, ?_⟩, ?_⟩, ?_⟩, ?_⟩, ?_⟩, ?_⟩, ?_⟩, ?_⟩, ?_⟩ ?_
            · intro ρ' w' hk hs hah
              have e5 : ρ' 5 = (.bool z14) := (hs 5 (by kernel_rfl)).trans (by kernel_rfl)
              have hkn : Known ρ' [(5, (.bool z14))] := ⟨e5, trivial⟩
              refine Step.known _ hkn ?_
              refine Step.run (k := 0) (v := (.bool z14)) (by kernel_rfl) ?_
              exact ⟨Below.refl _ _, _, updO_known hkn, rfl⟩
            · intro ρ' w' hk hs hah
              have e29 := hah 0 29 (by kernel_rfl)
              have hkn : Known ρ' [(29, (.bool z14))] := ⟨e29, trivial⟩
              refine Step.known _ hkn ?_
              refine Step.run (k := 1) (v := (.bool z14)) (by kernel_rfl) ?_
              exact ⟨Below.refl _ _, _, updO_known hkn, rfl⟩
            · intro ρ' w' hk hs hah
              have e2 : ρ' 2 = (.pointer (some ⟨g10, 0, none⟩)) := (hs 2 (by kernel_rfl)).trans (by kernel_rfl)
              have e30 := hah 1 30 (by kernel_rfl)
              have hkn : Known ρ' [(2, (.pointer (some ⟨g10, 0, none⟩))), (30, (.bool true))] := ⟨e2, (Eq.trans e30 (congrArg Value.bool hb292)), trivial⟩
              refine Step.known _ hkn ?_
              have hs462 := SP.below hs56 hk
              refine Step.load (t := 23) (x := (.tmp 2)) (g := g10) (off := 0) (i := 0) (v := (.agg #[(.int .i64 pKind1), (.string ⟨List.toArray pA2⟩), (.string ⟨List.toArray pB3⟩), (.int .i64 pN4), (.int .i64 pM5)])) (d := (some 31)) (k := 2) (by kernel_rfl) rfl (by kernel_rfl) hs462 rfl (by kernel_rfl) ?_
              exact ⟨Below.refl _ _, _, updO_known hkn, rfl⟩
            · intro ρ' w' hk hs hah
              have e31 := hah 2 31 (by kernel_rfl)
              have e30 := hah 1 30 (by kernel_rfl)
              have hkn : Known ρ' [(31, (.agg #[(.int .i64 pKind1), (.string ⟨List.toArray pA2⟩), (.string ⟨List.toArray pB3⟩), (.int .i64 pN4), (.int .i64 pM5)])), (30, (.bool true))] := ⟨e31, (Eq.trans e30 (congrArg Value.bool hb292)), trivial⟩
              refine Step.known _ hkn ?_
              have hs463 := SP.below hs56 hk
              refine Step.callF (f := 13) (fo := (.func 13)) (xs := #[(.tmp 31)]) (tys := #[23]) (first := #[]) (captured := #[]) (d := (some 32)) (k := 3) (by kernel_rfl) rfl (by kernel_rfl) (by kernel_rfl) Try.call13 (L_wire_Right_walk  pKind1 pA2 pB3 pN4 pM5 w'  z293 hz294) ?_
              rintro e w464 ⟨rfl, hs465⟩
              exact ⟨_, rfl, SP.keeps hs465, _, updO_known hkn, rfl⟩
            · intro ρ' w' hk hs hah
              have e2 : ρ' 2 = (.pointer (some ⟨g10, 0, none⟩)) := (hs 2 (by kernel_rfl)).trans (by kernel_rfl)
              have e30 := hah 1 30 (by kernel_rfl)
              have hkn : Known ρ' [(2, (.pointer (some ⟨g10, 0, none⟩))), (30, (.bool true))] := ⟨e2, (Eq.trans e30 (congrArg Value.bool hb292)), trivial⟩
              refine Step.known _ hkn ?_
              have hs466 := SP.below hs56 hk
              refine Step.load (t := 23) (x := (.tmp 2)) (g := g10) (off := 0) (i := 0) (v := (.agg #[(.int .i64 pKind1), (.string ⟨List.toArray pA2⟩), (.string ⟨List.toArray pB3⟩), (.int .i64 pN4), (.int .i64 pM5)])) (d := (some 33)) (k := 4) (by kernel_rfl) rfl (by kernel_rfl) hs466 rfl (by kernel_rfl) ?_
              exact ⟨Below.refl _ _, _, updO_known hkn, rfl⟩
            · intro ρ' w' hk hs hah
              have e33 := hah 4 33 (by kernel_rfl)
              have e30 := hah 1 30 (by kernel_rfl)
              have hkn : Known ρ' [(33, (.agg #[(.int .i64 pKind1), (.string ⟨List.toArray pA2⟩), (.string ⟨List.toArray pB3⟩), (.int .i64 pN4), (.int .i64 pM5)])), (30, (.bool true))] := ⟨e33, (Eq.trans e30 (congrArg Value.bool hb292)), trivial⟩
              refine Step.known _ hkn ?_
              have hs467 := SP.below hs56 hk
              refine Step.callF (f := 14) (fo := (.func 14)) (xs := #[(.tmp 33)]) (tys := #[23]) (first := #[]) (captured := #[]) (d := (some 34)) (k := 5) (by kernel_rfl) rfl (by kernel_rfl) (by kernel_rfl) Try.call14 (L_subwayref05_Right_walk  pKind1 pA2 pB3 pN4 pM5 w'  z297 hz298) ?_
              rintro e w468 ⟨rfl, hs469⟩
              exact ⟨_, rfl, SP.keeps hs469, _, updO_known hkn, rfl⟩
            · intro ρ' w' hk hs hah
              have e32 := hah 3 32 (by kernel_rfl)
              have e34 := hah 5 34 (by kernel_rfl)
              have e30 := hah 1 30 (by kernel_rfl)
              have hkn : Known ρ' [(32, (.bool z293)), (34, (.bool z297)), (30, (.bool true))] := ⟨e32, e34, (Eq.trans e30 (congrArg Value.bool hb292)), trivial⟩
              refine Step.known _ hkn ?_
              refine Step.run (k := 6) (v := (.bool (z293 == z297))) (by kernel_rfl) ?_
              exact ⟨Below.refl _ _, _, updO_known hkn, rfl⟩
            · intro ρ' w' hk hs hah
              have e30 := hah 1 30 (by kernel_rfl)
              have e35 := hah 6 35 (by kernel_rfl)
              have hkn : Known ρ' [(30, (.bool true)), (35, (.bool (z293 == z297)))] := ⟨(Eq.trans e30 (congrArg Value.bool hb292)), e35, trivial⟩
              refine Step.known _ hkn ?_
              refine Step.run (k := 7) (v := (.bool (z293 == z297))) (by kernel_rfl) ?_
              exact ⟨Below.refl _ _, _, updO_known hkn, rfl⟩
            · intro ρ' w' hk hs hah
              have e36 := hah 7 36 (by kernel_rfl)
              have hkn : Known ρ' [(36, (.bool (z293 == z297)))] := ⟨e36, trivial⟩
              refine Step.known _ hkn ?_
              refine Step.run (k := 8) (v := (.bool (z293 == z297))) (by kernel_rfl) ?_
              exact ⟨Below.refl _ _, _, updO_known hkn, rfl⟩
            · intro ρ' w' hk hs hah
              have e2 : ρ' 2 = (.pointer (some ⟨g10, 0, none⟩)) := (hs 2 (by kernel_rfl)).trans (by kernel_rfl)
              have e37 := hah 8 37 (by kernel_rfl)
              have hkn : Known ρ' [(2, (.pointer (some ⟨g10, 0, none⟩))), (37, (.bool false))] := ⟨e2, (Eq.trans e37 (congrArg Value.bool hb301)), trivial⟩
              refine Step.known _ hkn ?_
              refine Step.not (k := 9) (d := (some 38)) (by kernel_rfl) rfl ?_
              exact ⟨Below.refl _ _, _, updO_known hkn, trivial⟩
            · intro ρ' w' hk hs hah
              have e37 := hah 8 37 (by kernel_rfl)
              have hkn : Known ρ' [(37, (.bool false))] := ⟨(Eq.trans e37 (congrArg Value.bool hb301)), trivial⟩
              refine Step.known _ hkn ?_
              refine Step.not (k := 10) (d := (some 39)) (by kernel_rfl) rfl ?_
              exact ⟨Below.refl _ _, _, updO_known hkn, trivial⟩
            · intro ρ' w' hk hs hah
              have e37 := hah 8 37 (by kernel_rfl)
              have hkn : Known ρ' [(37, (.bool false))] := ⟨(Eq.trans e37 (congrArg Value.bool hb301)), trivial⟩
              refine Step.known _ hkn ?_
              refine Step.not (k := 11) (d := (some 40)) (by kernel_rfl) rfl ?_
              exact ⟨Below.refl _ _, _, updO_known hkn, trivial⟩
            · intro ρ' w' hk hs hah
              have e2 : ρ' 2 = (.pointer (some ⟨g10, 0, none⟩)) := (hs 2 (by kernel_rfl)).trans (by kernel_rfl)
              have e37 := hah 8 37 (by kernel_rfl)
              have hkn : Known ρ' [(2, (.pointer (some ⟨g10, 0, none⟩))), (37, (.bool false))] := ⟨e2, (Eq.trans e37 (congrArg Value.bool hb301)), trivial⟩
              refine Step.known _ hkn ?_
              refine Step.not (k := 12) (d := (some 41)) (by kernel_rfl) rfl ?_
              exact ⟨Below.refl _ _, _, updO_known hkn, trivial⟩
            · intro ρ' w' hk hs hah
              have e37 := hah 8 37 (by kernel_rfl)
              have hkn : Known ρ' [(37, (.bool false))] := ⟨(Eq.trans e37 (congrArg Value.bool hb301)), trivial⟩
              refine Step.known _ hkn ?_
              refine Step.not (k := 13) (d := (some 42)) (by kernel_rfl) rfl ?_
              exact ⟨Below.refl _ _, _, updO_known hkn, trivial⟩
            · intro ρ' w' hk hs hah
              have e37 := hah 8 37 (by kernel_rfl)
              have hkn : Known ρ' [(37, (.bool false))] := ⟨(Eq.trans e37 (congrArg Value.bool hb301)), trivial⟩
              refine Step.known _ hkn ?_
              refine Step.not (k := 14) (d := (some 43)) (by kernel_rfl) rfl ?_
              exact ⟨Below.refl _ _, _, updO_known hkn, trivial⟩
            · intro ρ' w' hk hs hah
              have e37 := hah 8 37 (by kernel_rfl)
              have hkn : Known ρ' [(37, (.bool false))] := ⟨(Eq.trans e37 (congrArg Value.bool hb301)), trivial⟩
              refine Step.known _ hkn ?_
              refine Step.not (k := 15) (d := (some 44)) (by kernel_rfl) rfl ?_
              exact ⟨Below.refl _ _, _, updO_known hkn, trivial⟩
            · intro ρ' w' hk hs hah
              have e37 := hah 8 37 (by kernel_rfl)
              have hkn : Known ρ' [(37, (.bool false))] := ⟨(Eq.trans e37 (congrArg Value.bool hb301)), trivial⟩
              refine Step.known _ hkn ?_
              refine Step.run (k := 16) (v := (.bool false)) (by kernel_rfl) ?_
              exact ⟨Below.refl _ _, _, updO_known hkn, rfl⟩
            · intro ρ' w' hk hs hah
              have e45 := hah 16 45 (by kernel_rfl)
              have hkn : Known ρ' [(45, (.bool false))] := ⟨e45, trivial⟩
              refine Step.known _ hkn ?_
              refine Step.run (k := 17) (v := (.bool false)) (by kernel_rfl) ?_
              exact ⟨Below.refl _ _, _, updO_known hkn, rfl⟩
            · intro ρ' w' hk hs hah
              have e6 : ρ' 6 = (.pointer (some ⟨g37, 0, none⟩)) := (hs 6 (by kernel_rfl)).trans (by kernel_rfl)
              have e46 := hah 17 46 (by kernel_rfl)
              have hkn : Known ρ' [(6, (.pointer (some ⟨g37, 0, none⟩))), (46, (.bool false))] := ⟨e6, e46, trivial⟩
              refine Step.known _ hkn ?_
              refine Step.not (k := 18) (d := (some 47)) (by kernel_rfl) rfl ?_
              exact ⟨Below.refl _ _, _, updO_known hkn, trivial⟩
            · intro ρ' w' hk hs hah
              have e8 : ρ' 8 = (.pointer (some ⟨g50, 0, none⟩)) := (hs 8 (by kernel_rfl)).trans (by kernel_rfl)
              have e46 := hah 17 46 (by kernel_rfl)
              have hkn : Known ρ' [(8, (.pointer (some ⟨g50, 0, none⟩))), (46, (.bool false))] := ⟨e8, e46, trivial⟩
              refine Step.known _ hkn ?_
              refine Step.not (k := 19) (d := (some 48)) (by kernel_rfl) rfl ?_
              exact ⟨Below.refl _ _, _, updO_known hkn, trivial⟩
            · intro ρ' w' hk hs hah
              have e46 := hah 17 46 (by kernel_rfl)
              have hkn : Known ρ' [(46, (.bool false))] := ⟨e46, trivial⟩
              refine Step.known _ hkn ?_
              refine Step.not (k := 20) (d := (some 49)) (by kernel_rfl) rfl ?_
              exact ⟨Below.refl _ _, _, updO_known hkn, trivial⟩
            · intro ρ' w' hk hs hah
              have e46 := hah 17 46 (by kernel_rfl)
              have hkn : Known ρ' [(46, (.bool false))] := ⟨e46, trivial⟩
              refine Step.known _ hkn ?_
              refine Step.run (k := 21) (v := (.bool false)) (by kernel_rfl) ?_
              exact ⟨Below.refl _ _, _, updO_known hkn, rfl⟩
            · intro ρ' w' hk hs hah
              have e50 := hah 21 50 (by kernel_rfl)
              have hkn : Known ρ' [(50, (.bool false))] := ⟨e50, trivial⟩
              refine Step.known _ hkn ?_
              refine Step.run (k := 22) (v := (.bool false)) (by kernel_rfl) ?_
              exact ⟨Below.refl _ _, _, updO_known hkn, rfl⟩
            · intro ρ' w' hk hs hah
              have e7 : ρ' 7 = (.bool z31.2.2.2.2.2) := (hs 7 (by kernel_rfl)).trans (by kernel_rfl)
              have e51 := hah 22 51 (by kernel_rfl)
              have hkn : Known ρ' [(7, (.bool z31.2.2.2.2.2)), (51, (.bool false))] := ⟨e7, e51, trivial⟩
              refine Step.known _ hkn ?_
              refine Step.not (k := 23) (d := (some 52)) (by kernel_rfl) rfl ?_
              exact ⟨Below.refl _ _, _, updO_known hkn, trivial⟩
            · intro ρ' w' hk hs hah
              have e9 : ρ' 9 = (.bool z44.2.2.2.2.2) := (hs 9 (by kernel_rfl)).trans (by kernel_rfl)
              have e51 := hah 22 51 (by kernel_rfl)
              have hkn : Known ρ' [(9, (.bool z44.2.2.2.2.2)), (51, (.bool false))] := ⟨e9, e51, trivial⟩
              refine Step.known _ hkn ?_
              refine Step.not (k := 24) (d := (some 53)) (by kernel_rfl) rfl ?_
              exact ⟨Below.refl _ _, _, updO_known hkn, trivial⟩
            · intro ρ' w' hk hs hah
              have e51 := hah 22 51 (by kernel_rfl)
              have hkn : Known ρ' [(51, (.bool false))] := ⟨e51, trivial⟩
              refine Step.known _ hkn ?_
              refine Step.not (k := 25) (d := (some 54)) (by kernel_rfl) rfl ?_
              exact ⟨Below.refl _ _, _, updO_known hkn, trivial⟩
            · intro ρ' w' hk hs hah
              have e51 := hah 22 51 (by kernel_rfl)
              have hkn : Known ρ' [(51, (.bool false))] := ⟨e51, trivial⟩
              refine Step.known _ hkn ?_
              refine Step.run (k := 26) (v := (.bool false)) (by kernel_rfl) ?_
              exact ⟨Below.refl _ _, _, updO_known hkn, rfl⟩
            · intro ρ' w' hk hs hah
              have e55 := hah 26 55 (by kernel_rfl)
              have hkn : Known ρ' [(55, (.bool false))] := ⟨e55, trivial⟩
              refine Step.known _ hkn ?_
              refine Step.run (k := 27) (v := (.bool false)) (by kernel_rfl) ?_
              exact ⟨Below.refl _ _, _, updO_known hkn, rfl⟩
            · intro ρ' w' hk hs hf
              have hs493 := SP.below hs56 hk
              obtain ⟨w492, hww492⟩ : ∃ x, w' = x := ⟨_, rfl⟩
              subst hww492
              have e4 := hf 27 4 (by kernel_rfl)
              refine postKnown [(4, (.bool false))] ⟨e4, trivial⟩ ?_
              exact ⟨false, ⟨(by kernel_rfl), trivial⟩, SP.sel hs493 [] rfl rfl, H⟩
        · have H := cf H hb292
          refine At.draw (by kernel_rfl) (by kernel_rfl) (by kernel_rfl) (by kernel_rfl) (by kernel_rfl) [FEq (.bool z14), FEq (.bool z14), FAny, FAny, FAny, FAny, FAny, FEq (.bool false), FEq (.bool false), FAny, FAny, FAny, FAny, FAny, FAny, FAny, FEq (.bool false), FEq (.bool false), FAny, FAny, FAny, FEq (.bool false), FEq (.bool false), FAny, FAny, FAny, FEq (.bool false), FEq (.bool false)] ⟨mono_eq _, mono_eq _, mono_any, mono_any, mono_any, mono_any, mono_any, mono_eq _, mono_eq _, mono_any, mono_any, mono_any, mono_any, mono_any, mono_any, mono_any, mono_eq _, mono_eq _, mono_any, mono_any, mono_any, mono_eq _, mono_eq _, mono_any, mono_any, mono_any, mono_eq _, mono_eq _, trivial⟩ (N := 28) (by kernel_rfl) ⟨⟨⟨⟨⟨⟨⟨⟨⟨⟨⟨⟨⟨⟨⟨⟨⟨⟨⟨⟨⟨⟨⟨⟨⟨⟨⟨⟨trivial, ?_⟩, ?_⟩, ?_⟩, ?_⟩, ?_⟩, ?_⟩, ?_⟩, ?_⟩, ?_⟩, ?_⟩, ?_⟩, ?_⟩, ?_⟩, ?_⟩, ?_⟩, ?_⟩, ?_⟩, ?_⟩, ?_⟩, ?_⟩, ?_⟩, ?_⟩, ?_⟩, ?_⟩, ?_⟩, ?_⟩, ?_⟩, ?_⟩ ?_
          · intro ρ' w' hk hs hah
            have e5 : ρ' 5 = (.bool z14) := (hs 5 (by kernel_rfl)).trans (by kernel_rfl)
            have hkn : Known ρ' [(5, (.bool z14))] := ⟨e5, trivial⟩
            refine Step.known _ hkn ?_
            refine Step.run (k := 0) (v := (.bool z14)) (by kernel_rfl) ?_
            exact ⟨Below.refl _ _, _, updO_known hkn, rfl⟩
          · intro ρ' w' hk hs hah
            have e29 := hah 0 29 (by kernel_rfl)
            have hkn : Known ρ' [(29, (.bool z14))] := ⟨e29, trivial⟩
            refine Step.known _ hkn ?_
            refine Step.run (k := 1) (v := (.bool z14)) (by kernel_rfl) ?_
            exact ⟨Below.refl _ _, _, updO_known hkn, rfl⟩
          · intro ρ' w' hk hs hah
            have e2 : ρ' 2 = (.pointer (some ⟨g10, 0, none⟩)) := (hs 2 (by kernel_rfl)).trans (by kernel_rfl)
            have e30 := hah 1 30 (by kernel_rfl)
            have hkn : Known ρ' [(2, (.pointer (some ⟨g10, 0, none⟩))), (30, (.bool false))] := ⟨e2, (Eq.trans e30 (congrArg Value.bool hb292)), trivial⟩
            refine Step.known _ hkn ?_
            refine Step.not (k := 2) (d := (some 31)) (by kernel_rfl) rfl ?_
            exact ⟨Below.refl _ _, _, updO_known hkn, trivial⟩
          · intro ρ' w' hk hs hah
            have e30 := hah 1 30 (by kernel_rfl)
            have hkn : Known ρ' [(30, (.bool false))] := ⟨(Eq.trans e30 (congrArg Value.bool hb292)), trivial⟩
            refine Step.known _ hkn ?_
            refine Step.not (k := 3) (d := (some 32)) (by kernel_rfl) rfl ?_
            exact ⟨Below.refl _ _, _, updO_known hkn, trivial⟩
          · intro ρ' w' hk hs hah
            have e2 : ρ' 2 = (.pointer (some ⟨g10, 0, none⟩)) := (hs 2 (by kernel_rfl)).trans (by kernel_rfl)
            have e30 := hah 1 30 (by kernel_rfl)
            have hkn : Known ρ' [(2, (.pointer (some ⟨g10, 0, none⟩))), (30, (.bool false))] := ⟨e2, (Eq.trans e30 (congrArg Value.bool hb292)), trivial⟩
            refine Step.known _ hkn ?_
            refine Step.not (k := 4) (d := (some 33)) (by kernel_rfl) rfl ?_
            exact ⟨Below.refl _ _, _, updO_known hkn, trivial⟩
          · intro ρ' w' hk hs hah
            have e30 := hah 1 30 (by kernel_rfl)
            have hkn : Known ρ' [(30, (.bool false))] := ⟨(Eq.trans e30 (congrArg Value.bool hb292)), trivial⟩
            refine Step.known _ hkn ?_
            refine Step.not (k := 5) (d := (some 34)) (by kernel_rfl) rfl ?_
            exact ⟨Below.refl _ _, _, updO_known hkn, trivial⟩
          · intro ρ' w' hk hs hah
            have e30 := hah 1 30 (by kernel_rfl)
            have hkn : Known ρ' [(30, (.bool false))] := ⟨(Eq.trans e30 (congrArg Value.bool hb292)), trivial⟩
            refine Step.known _ hkn ?_
            refine Step.not (k := 6) (d := (some 35)) (by kernel_rfl) rfl ?_
            exact ⟨Below.refl _ _, _, updO_known hkn, trivial⟩
          · intro ρ' w' hk hs hah
            have e30 := hah 1 30 (by kernel_rfl)
            have hkn : Known ρ' [(30, (.bool false))] := ⟨(Eq.trans e30 (congrArg Value.bool hb292)), trivial⟩
            refine Step.known _ hkn ?_
            refine Step.run (k := 7) (v := (.bool false)) (by kernel_rfl) ?_
            exact ⟨Below.refl _ _, _, updO_known hkn, rfl⟩
          · intro ρ' w' hk hs hah
            have e36 := hah 7 36 (by kernel_rfl)
            have hkn : Known ρ' [(36, (.bool false))] := ⟨e36, trivial⟩
            refine Step.known _ hkn ?_
            refine Step.run (k := 8) (v := (.bool false)) (by kernel_rfl) ?_
            exact ⟨Below.refl _ _, _, updO_known hkn, rfl⟩
          · intro ρ' w' hk hs hah
            have e2 : ρ' 2 = (.pointer (some ⟨g10, 0, none⟩)) := (hs 2 (by kernel_rfl)).trans (by kernel_rfl)
            have e37 := hah 8 37 (by kernel_rfl)
            have hkn : Known ρ' [(2, (.pointer (some ⟨g10, 0, none⟩))), (37, (.bool false))] := ⟨e2, e37, trivial⟩
            refine Step.known _ hkn ?_
            refine Step.not (k := 9) (d := (some 38)) (by kernel_rfl) rfl ?_
            exact ⟨Below.refl _ _, _, updO_known hkn, trivial⟩
          · intro ρ' w' hk hs hah
            have e37 := hah 8 37 (by kernel_rfl)
            have hkn : Known ρ' [(37, (.bool false))] := ⟨e37, trivial⟩
            refine Step.known _ hkn ?_
            refine Step.not (k := 10) (d := (some 39)) (by kernel_rfl) rfl ?_
            exact ⟨Below.refl _ _, _, updO_known hkn, trivial⟩
          · intro ρ' w' hk hs hah
            have e37 := hah 8 37 (by kernel_rfl)
            have hkn : Known ρ' [(37, (.bool false))] := ⟨e37, trivial⟩
            refine Step.known _ hkn ?_
            refine Step.not (k := 11) (d := (some 40)) (by kernel_rfl) rfl ?_
            exact ⟨Below.refl _ _, _, updO_known hkn, trivial⟩
          · intro ρ' w' hk hs hah
            have e2 : ρ' 2 = (.pointer (some ⟨g10, 0, none⟩)) := (hs 2 (by kernel_rfl)).trans (by kernel_rfl)
            have e37 := hah 8 37 (by kernel_rfl)
            have hkn : Known ρ' [(2, (.pointer (some ⟨g10, 0, none⟩))), (37, (.bool false))] := ⟨e2, e37, trivial⟩
            refine Step.known _ hkn ?_
            refine Step.not (k := 12) (d := (some 41)) (by kernel_rfl) rfl ?_
            exact ⟨Below.refl _ _, _, updO_known hkn, trivial⟩
          · intro ρ' w' hk hs hah
            have e37 := hah 8 37 (by kernel_rfl)
            have hkn : Known ρ' [(37, (.bool false))] := ⟨e37, trivial⟩
            refine Step.known _ hkn ?_
            refine Step.not (k := 13) (d := (some 42)) (by kernel_rfl) rfl ?_
            exact ⟨Below.refl _ _, _, updO_known hkn, trivial⟩
          · intro ρ' w' hk hs hah
            have e37 := hah 8 37 (by kernel_rfl)
            have hkn : Known ρ' [(37, (.bool false))] := ⟨e37, trivial⟩
            refine Step.known _ hkn ?_
            refine Step.not (k := 14) (d := (some 43)) (by kernel_rfl) rfl ?_
            exact ⟨Below.refl _ _, _, updO_known hkn, trivial⟩
          · intro ρ' w' hk hs hah
            have e37 := hah 8 37 (by kernel_rfl)
            have hkn : Known ρ' [(37, (.bool false))] := ⟨e37, trivial⟩
            refine Step.known _ hkn ?_
            refine Step.not (k := 15) (d := (some 44)) (by kernel_rfl) rfl ?_
            exact ⟨Below.refl _ _, _, updO_known hkn, trivial⟩
          · intro ρ' w' hk hs hah
            have e37 := hah 8 37 (by kernel_rfl)
            have hkn : Known ρ' [(37, (.bool false))] := ⟨e37, trivial⟩
            refine Step.known _ hkn ?_
            refine Step.run (k := 16) (v := (.bool false)) (by kernel_rfl) ?_
            exact ⟨Below.refl _ _, _, updO_known hkn, rfl⟩
          · intro ρ' w' hk hs hah
            have e45 := hah 16 45 (by kernel_rfl)
            have hkn : Known ρ' [(45, (.bool false))] := ⟨e45, trivial⟩
            refine Step.known _ hkn ?_
            refine Step.run (k := 17) (v := (.bool false)) (by kernel_rfl) ?_
            exact ⟨Below.refl _ _, _, updO_known hkn, rfl⟩
          · intro ρ' w' hk hs hah
            have e6 : ρ' 6 = (.pointer (some ⟨g37, 0, none⟩)) := (hs 6 (by kernel_rfl)).trans (by kernel_rfl)
            have e46 := hah 17 46 (by kernel_rfl)
            have hkn : Known ρ' [(6, (.pointer (some ⟨g37, 0, none⟩))), (46, (.bool false))] := ⟨e6, e46, trivial⟩
            refine Step.known _ hkn ?_
            refine Step.not (k := 18) (d := (some 47)) (by kernel_rfl) rfl ?_
            exact ⟨Below.refl _ _, _, updO_known hkn, trivial⟩
          · intro ρ' w' hk hs hah
            have e8 : ρ' 8 = (.pointer (some ⟨g50, 0, none⟩)) := (hs 8 (by kernel_rfl)).trans (by kernel_rfl)
            have e46 := hah 17 46 (by kernel_rfl)
            have hkn : Known ρ' [(8, (.pointer (some ⟨g50, 0, none⟩))), (46, (.bool false))] := ⟨e8, e46, trivial⟩
            refine Step.known _ hkn ?_
            refine Step.not (k := 19) (d := (some 48)) (by kernel_rfl) rfl ?_
            exact ⟨Below.refl _ _, _, updO_known hkn, trivial⟩
          · intro ρ' w' hk hs hah
            have e46 := hah 17 46 (by kernel_rfl)
            have hkn : Known ρ' [(46, (.bool false))] := ⟨e46, trivial⟩
            refine Step.known _ hkn ?_
            refine Step.not (k := 20) (d := (some 49)) (by kernel_rfl) rfl ?_
            exact ⟨Below.refl _ _, _, updO_known hkn, trivial⟩
          · intro ρ' w' hk hs hah
            have e46 := hah 17 46 (by kernel_rfl)
            have hkn : Known ρ' [(46, (.bool false))] := ⟨e46, trivial⟩
            refine Step.known _ hkn ?_
            refine Step.run (k := 21) (v := (.bool false)) (by kernel_rfl) ?_
            exact ⟨Below.refl _ _, _, updO_known hkn, rfl⟩
          · intro ρ' w' hk hs hah
            have e50 := hah 21 50 (by kernel_rfl)
            have hkn : Known ρ' [(50, (.bool false))] := ⟨e50, trivial⟩
            refine Step.known _ hkn ?_
            refine Step.run (k := 22) (v := (.bool false)) (by kernel_rfl) ?_
            exact ⟨Below.refl _ _, _, updO_known hkn, rfl⟩
          · intro ρ' w' hk hs hah
            have e7 : ρ' 7 = (.bool z31.2.2.2.2.2) := (hs 7 (by kernel_rfl)).trans (by kernel_rfl)
            have e51 := hah 22 51 (by kernel_rfl)
            have hkn : Known ρ' [(7, (.bool z31.2.2.2.2.2)), (51, (.bool false))] := ⟨e7, e51, trivial⟩
            refine Step.known _ hkn ?_
            refine Step.not (k := 23) (d := (some 52)) (by kernel_rfl) rfl ?_
            exact ⟨Below.refl _ _, _, updO_known hkn, trivial⟩
          · intro ρ' w' hk hs hah
            have e9 : ρ' 9 = (.bool z44.2.2.2.2.2) := (hs 9 (by kernel_rfl)).trans (by kernel_rfl)
            have e51 := hah 22 51 (by kernel_rfl)
            have hkn : Known ρ' [(9, (.bool z44.2.2.2.2.2)), (51, (.bool false))] := ⟨e9, e51, trivial⟩
            refine Step.known _ hkn ?_
            refine Step.not (k := 24) (d := (some 53)) (by kernel_rfl) rfl ?_
            exact ⟨Below.refl _ _, _, updO_known hkn, trivial⟩
          · intro ρ' w' hk hs hah
            have e51 := hah 22 51 (by kernel_rfl)
            have hkn : Known ρ' [(51, (.bool false))] := ⟨e51, trivial⟩
            refine Step.known _ hkn ?_
            refine Step.not (k := 25) (d := (some 54)) (by kernel_rfl) rfl ?_
            exact ⟨Below.refl _ _, _, updO_known hkn, trivial⟩
          · intro ρ' w' hk hs hah
            have e51 := hah 22 51 (by kernel_rfl)
            have hkn : Known ρ' [(51, (.bool false))] := ⟨e51, trivial⟩
            refine Step.known _ hkn ?_
            refine Step.run (k := 26) (v := (.bool false)) (by kernel_rfl) ?_
            exact ⟨Below.refl _ _, _, updO_known hkn, rfl⟩
          · intro ρ' w' hk hs hah
            have e55 := hah 26 55 (by kernel_rfl)
            have hkn : Known ρ' [(55, (.bool false))] := ⟨e55, trivial⟩
            refine Step.known _ hkn ?_
            refine Step.run (k := 27) (v := (.bool false)) (by kernel_rfl) ?_
            exact ⟨Below.refl _ _, _, updO_known hkn, rfl⟩
          · intro ρ' w' hk hs hf
            have hs523 := SP.below hs56 hk
            obtain ⟨w522, hww522⟩ : ∃ x, w' = x := ⟨_, rfl⟩
            subst hww522
            have e4 := hf 27 4 (by kernel_rfl)
            refine postKnown [(4, (.bool false))] ⟨e4, trivial⟩ ?_
            exact ⟨false, ⟨(by kernel_rfl), trivial⟩, SP.sel hs523 [] rfl rfl, H⟩
      · rintro ρ w290 ⟨v289, hk, hs291, H⟩
        unfold L_subwaylaw05_WireTells_k2 at H
        refine At.known [(4, (.bool v289))] hk ?_
        refine At.ret (by kernel_rfl) ?_
        refine ⟨(.bool v289), by kernel_rfl, ?_⟩
        obtain rfl := some_elim H
        exact ⟨rfl, SP.sel hs291 [] rfl rfl⟩
end Go.Proofs.Ytjpchjbbfbmjgaa
