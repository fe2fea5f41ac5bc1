import Derived.Test.YtmgfanhcdfobhaaGreatDoorPkShakeSays1
set_option linter.unusedSimpArgs false
set_option linter.unusedVariables false
set_option linter.unusedSectionVars false
namespace Go.Proofs.YtmgfanhcdfobhaaGreatDoor
open Go.RowKit
def X2 (v5 : Bool) : Option (Bool) :=
  (some (v5))
def Zn (p1 : Int) (p2 : Int) (p3 : Int) : Option (Bool) :=
  (cond (decide (p1 ≥ p2)) (X2 (decide (p1 ≤ p3))) (X2 false))
set_option maxRecDepth 100000 in
set_option maxHeartbeats 4000000 in
theorem Xm  (p1 : Int) (p2 : Int) (p3 : Int) (w0 : World)  (r : (Bool)) (H : Zn p1 p2 p3 = some r) :
  Calls Tryz.prog 59 #[(.int .i64 p1), (.int .i64 p2), (.int .i64 p3)] w0 (fun e w' => e = .returned (.bool r) ∧ SP [] w0 w' []) := by
 unfold Zn at H
 refine Qt (n := 15) Tryz.func59 K K K ?_
 have c := Q1 [] w0
 refine aQ ?_
 refine aR ?_
 refine iR 1 1 [(6, (.bool false))] ?_
 refine iF ?_
 refine aQ ?_
 refine At.join (fun ρ w => ∃ (v5 : Bool), Zg ρ [(6, (.bool v5))] ∧ SP [] w0 w [] ∧ X2 v5 = some r) ?_ ?_
 ·refine aR ?_
  refine iR 4 4 [(7, (.int .i64 p1)), (8, (.int .i64 p2)), (9, (.bool (decide (p1 ≥ p2)))), (10, (.bool (decide (p1 ≥ p2))))] ?_
  refine In.guard (t := 10) (b := (decide (p1 ≥ p2))) K (fun a => ?_) (fun a => ?_)
  ·have H := ct H a
   refine iR 5 9 [(11, (.int .i64 p1)), (12, (.int .i64 p3)), (13, (.bool (decide (p1 ≤ p3)))), (14, (.bool (decide (p1 ≤ p3)))), (6, (.bool (decide (p1 ≤ p3))))] ?_
   refine iF ?_
   exact ⟨(decide (p1 ≤ p3)), ⟨K, trivial⟩, SP.sel c [] rfl rfl, H⟩
  ·have H := cf H a
   refine iR 5 9 [(11, undef), (12, undef), (13, undef), (14, (.bool false)), (6, (.bool false))] ?_
   refine iF ?_
   exact ⟨false, ⟨K, trivial⟩, SP.sel c [] rfl rfl, H⟩
 ·rintro ρ w6 ⟨v5, hk, d, H⟩
  unfold X2 at H
  first | refine At.known [(6, (.bool v5))] hk ?_ | rw [← Q9 (l := [(6, (.bool v5))]) hk]
  refine At.ret K ?_
  refine ⟨(.bool v5), K, ?_⟩
  obtain rfl := Qf H
  exact ⟨rfl, SP.sel d [] rfl rfl⟩
def Qx (c : Int → Option (Int)) (p1 : (List (Int × Int))) (p5 : (Int → Int → Option (Bool))) (a : Int) : Option (Int) :=
  (cond (decide (a < ((List.length p1 : Nat) : Int))) ((idx p1 a).bind fun b => ((p5 b.1 b.2).bind fun d => (cond d (some (a)) (c (IntKind.wrap .i64 (a + 1)))))) (some ((-1))))
def Qq (p1 : (List (Int × Int))) (p5 : (Int → Int → Option (Bool))) : Nat → Int → Option (Int)
  | 0, _ => none
  | f + 1, a => Qx  (Qq p1 p5 f) p1 p5 a
def Vx (p1 : (List (Int × Int))) (p5 : (Int → Int → Option (Bool))) : Option (Int) :=
  (Qq p1 p5 Zw 0)
set_option maxRecDepth 100000 in
set_option maxHeartbeats 4000000 in
theorem Y7 (A2 : Option Addr) (c3 : Nat) (g : FuncId) (h : Array Value) (p1 : (List (Int × Int))) (p5 : (Int → Int → Option (Bool))) (w0 : World) (q : RdT (Qu (Qh .u32) (Qh .i64)) w0 A2 c3 p1) (hcf8 : ∀ (args : Array Value) (w : World), (callFunc g args).run Tryz.prog w = .ok (.enter g args) w) (a1 : ∀ (y0 : Int) (y1 : Int) (z : (Bool)) (w : World), Below w0.heap.size w0 w → p5 y0 y1 = some z → Calls Tryz.prog g (([(.agg #[(.int .u32 y0), (.int .i64 y1)])] : List Value) ++ (h).toList).toArray w (fun e w' => e = .returned (.bool z) ∧ SP [] w w' [])) (r : (Int)) (H : Vx p1 p5 = some r) :
  Calls Tryz.prog 94 #[(.slice A2 (List.length p1) c3), (.func (.func g) #[] h)] w0 (fun e w' => e = .returned (.int .i64 r) ∧ SP [] w0 w' []) := by
 unfold Vx at H
 refine Qt (n := 19) Tryz.func94 K K K ?_
 have a2 := Q1 [] w0
 refine aQ ?_
 refine aR ?_
 refine iR 1 1 [(4, (.int .i64 0))] ?_
 refine iF ?_
 refine aQ ?_
 refine aQ ?_
 refine aR ?_
 refine iR 3 3 [(6, (.slice A2 (List.length p1) c3)), (7, (.int .i64 ((List.length p1 : Nat) : Int))), (8, (.int .i64 0))] ?_
 refine iF ?_
 refine X8 K (id := 0) K ?_
 refine Ne K (fun f1 ρ w => ∃ (a : Int), Zg ρ [(0, (.slice A2 (List.length p1) c3)), (1, (.func (.func g) #[] h)), (7, (.int .i64 ((List.length p1 : Nat) : Int))), (8, (.int .i64 a))] ∧ SP [] w0 w [] ∧ Qq p1 p5 f1 a = some r) (by rintro ρ w ⟨a, hk, hs, H⟩; cases H) ?_ Zw ?_
 ·rintro f1 ρ a3 ⟨a, hk, j, H⟩
  refine At.known [(0, (.slice A2 (List.length p1) c3)), (1, (.func (.func g) #[] h)), (7, (.int .i64 ((List.length p1 : Nat) : Int))), (8, (.int .i64 a))] hk ?_
  replace H := (show Qx (Qq p1 p5 f1) p1 p5 a = some r from H)
  unfold Qx at H
  refine aQ ?_
  refine aR ?_
  refine iR 1 1 [(9, (.bool (decide (a < ((List.length p1 : Nat) : Int)))))] ?_
  refine iF ?_
  refine aQ ?_
  refine Zu K (o := (.tmp 9)) K (b := (decide (a < ((List.length p1 : Nat) : Int)))) K (fun m => ?_) (fun m => ?_)
  ·have H := ct H m
   refine At.skip K ?_
   refine aQ ?_
   refine X8 K (id := 1) K ?_
   refine aQ ?_
   refine aR ?_
   refine iR 2 2 [(10, (.int .i64 a)), (5, (.int .i64 a))] ?_
   refine iF ?_
   refine aQ ?_
   refine aR ?_
   refine iR 3 3 [(11, (.func (.func g) #[] h)), (12, (.slice A2 (List.length p1) c3)), (13, (.int .i64 a))] ?_
   obtain ⟨i, s, u, a4, H⟩ := Qy H
   refine iS 4 ?_
   refine Z2 (e := (Qu (Qh .u32) (Qh .i64))) (l := p1) (A := A2) (c := c3) (T := 41) (E := 113) (x := (.tmp 12)) (ix := (.tmp 13)) (ki := .i64) (iz := a) (d := (some 14)) (k := 3) K rfl K K K K (RdT.sp q j) s u ?_
   intro a5 a6 a7 a9 hc55
   refine iS 5 ?_
   refine Qj.cells (t := 113) (x := (.tmp 14)) (b := a5) (off := (a6 + Int.toNat a * (Qu (Qh .u32) (Qh .i64)).sz)) (xs := [(.int .u32 i.1), (.int .i64 i.2)]) (d := (some 15)) (k := 4) K rfl K K K (Xc (e := (Qu (Qh .u32) (Qh .i64))) (Qp (RdT.sp q j) a7 s u) a4 rfl) ?_
   obtain ⟨v, a8, H⟩ := Qc H
   refine iS 6 ?_
   refine Z5 (f := g) (fo := (.tmp 11)) (xs := #[(.tmp 15)]) (tys := #[113]) (first := #[]) (captured := h) (args := (([(.agg #[(.int .u32 i.1), (.int .i64 i.2)])] : List Value) ++ (h).toList)) (d := (some 16)) (k := 5) K rfl K K hcf8 (a1 i.1 i.2 v a3  (SP.keeps j)  a8) ?_
   rintro e b0 ⟨rfl, y⟩
   refine ⟨_, rfl, ?_⟩
   have a0 := SP.call j y
   clear y
   refine iF ?_
   refine Zu K (o := (.tmp 16)) K (b := v) K (fun p => ?_) (fun p => ?_)
   ·have H := ct H p
    refine aQ ?_
    refine aR ?_
    refine iR 2 2 [(17, (.int .i64 a)), (4, (.int .i64 a))] ?_
    refine iF ?_
    refine At.ret K ?_
    refine ⟨(.int .i64 a), K, ?_⟩
    obtain rfl := Qf H
    exact ⟨rfl, SP.sel a0 [] rfl rfl⟩
   ·have H := cf H p
    refine At.skip K ?_
    refine aR ?_
    refine iR 2 2 [(18, (.int .i64 (IntKind.wrap .i64 (a + 1)))), (8, (.int .i64 (IntKind.wrap .i64 (a + 1))))] ?_
    refine iF ?_
    exact ⟨(IntKind.wrap .i64 (a + 1)), ⟨K, K, K, K, trivial⟩, SP.sel a0 [] rfl rfl, H⟩
  ·have H := cf H m
   refine At.exit K (id := 0) K ?_
   refine aQ ?_
   refine aR ?_
   refine iR 1 1 [(4, (.int .i64 (-1)))] ?_
   refine iF ?_
   refine At.ret K ?_
   refine ⟨(.int .i64 (-1)), K, ?_⟩
   obtain rfl := Qf H
   exact ⟨rfl, SP.sel j [] rfl rfl⟩
 ·exact ⟨0, ⟨K, K, K, K, trivial⟩, SP.sel a2 [] rfl rfl, H⟩
def Vf (p1 : (List (Int × Int))) (p5 : (Int → Int → Option (Bool))) : Option (Bool) :=
  ((Vx p1 p5).bind fun a => (some ((decide (a ≥ 0)))))
set_option maxRecDepth 100000 in
set_option maxHeartbeats 4000000 in
theorem Yy (A2 : Option Addr) (c3 : Nat) (a : FuncId) (b : Array Value) (p1 : (List (Int × Int))) (p5 : (Int → Int → Option (Bool))) (w0 : World) (g : RdT (Qu (Qh .u32) (Qh .i64)) w0 A2 c3 p1) (hcf8 : ∀ (args : Array Value) (w : World), (callFunc a args).run Tryz.prog w = .ok (.enter a args) w) (h : ∀ (y0 : Int) (y1 : Int) (z : (Bool)) (w : World), Below w0.heap.size w0 w → p5 y0 y1 = some z → Calls Tryz.prog a (([(.agg #[(.int .u32 y0), (.int .i64 y1)])] : List Value) ++ (b).toList).toArray w (fun e w' => e = .returned (.bool z) ∧ SP [] w w' [])) (r : (Bool)) (H : Vf p1 p5 = some r) :
  Calls Tryz.prog 77 #[(.slice A2 (List.length p1) c3), (.func (.func a) #[] b)] w0 (fun e w' => e = .returned (.bool r) ∧ SP [] w0 w' []) := by
 unfold Vf at H
 refine Qt (n := 9) Tryz.func77 K K K ?_
 have d := Q1 [] w0
 refine aQ ?_
 refine aR ?_
 refine iR 1 1 [(4, (.bool false))] ?_
 refine iF ?_
 refine aQ ?_
 refine aR ?_
 refine iR 2 2 [(5, (.slice A2 (List.length p1) c3)), (6, (.func (.func a) #[] b))] ?_
 obtain ⟨c, i, H⟩ := Qc H
 refine iS 3 ?_
 refine cF 94 #[(.tmp 5), (.tmp 6)] #[41, 115] 7 Tryz.call94 (Y7 A2 c3 a b p1 p5 w0 (RdT.sp g d) hcf8 (fun y0 y1 z w  hw  hz => h y0 y1 z w  (Di d hw)  hz) c i) ?_
 rintro e k ⟨rfl, f⟩
 refine ⟨_, rfl, ?_⟩
 have j := SP.call d f
 clear f
 refine iR 2 5 [(8, (.bool (decide (c ≥ 0)))), (4, (.bool (decide (c ≥ 0))))] ?_
 refine iF ?_
 refine At.ret K ?_
 refine ⟨(.bool (decide (c ≥ 0))), K, ?_⟩
 obtain rfl := Qf H
 exact ⟨rfl, SP.sel j [] rfl rfl⟩
def Qm (c : Int → Option (Int)) (p1 : (List ((List UInt8) × (List UInt8) × Int))) (p5 : ((List UInt8) → (List UInt8) → Int → Option (Bool))) (a : Int) : Option (Int) :=
  (cond (decide (a < ((List.length p1 : Nat) : Int))) ((idx p1 a).bind fun b => ((p5 b.1 b.2.1 b.2.2).bind fun d => (cond d (some (a)) (c (IntKind.wrap .i64 (a + 1)))))) (some ((-1))))
def Qi (p1 : (List ((List UInt8) × (List UInt8) × Int))) (p5 : ((List UInt8) → (List UInt8) → Int → Option (Bool))) : Nat → Int → Option (Int)
  | 0, _ => none
  | f + 1, a => Qm  (Qi p1 p5 f) p1 p5 a
def Q2 (p1 : (List ((List UInt8) × (List UInt8) × Int))) (p5 : ((List UInt8) → (List UInt8) → Int → Option (Bool))) : Option (Int) :=
  (Qi p1 p5 Zw 0)
set_option maxRecDepth 100000 in
set_option maxHeartbeats 4000000 in
theorem Zo (A2 : Option Addr) (c3 : Nat) (h : FuncId) (i : Array Value) (p1 : (List ((List UInt8) × (List UInt8) × Int))) (p5 : ((List UInt8) → (List UInt8) → Int → Option (Bool))) (w0 : World) (q : RdT (Qu Zc (Qu Zc (Qh .i64))) w0 A2 c3 p1) (hcf8 : ∀ (args : Array Value) (w : World), (callFunc h args).run Tryz.prog w = .ok (.enter h args) w) (a1 : ∀ (y0 : (List UInt8)) (y1 : (List UInt8)) (y2 : Int) (z : (Bool)) (w : World), Below w0.heap.size w0 w → p5 y0 y1 y2 = some z → Calls Tryz.prog h (([(.agg #[(.string ⟨List.toArray y0⟩), (.string ⟨List.toArray y1⟩), (.int .i64 y2)])] : List Value) ++ (i).toList).toArray w (fun e w' => e = .returned (.bool z) ∧ SP [] w w' [])) (r : (Int)) (H : Q2 p1 p5 = some r) :
  Calls Tryz.prog 89 #[(.slice A2 (List.length p1) c3), (.func (.func h) #[] i)] w0 (fun e w' => e = .returned (.int .i64 r) ∧ SP [] w0 w' []) := by
 unfold Q2 at H
 refine Qt (n := 19) Tryz.func89 K K K ?_
 have a2 := Q1 [] w0
 refine aQ ?_
 refine aR ?_
 refine iR 1 1 [(4, (.int .i64 0))] ?_
 refine iF ?_
 refine aQ ?_
 refine aQ ?_
 refine aR ?_
 refine iR 3 3 [(6, (.slice A2 (List.length p1) c3)), (7, (.int .i64 ((List.length p1 : Nat) : Int))), (8, (.int .i64 0))] ?_
 refine iF ?_
 refine X8 K (id := 0) K ?_
 refine Ne K (fun f1 ρ w => ∃ (a : Int), Zg ρ [(0, (.slice A2 (List.length p1) c3)), (1, (.func (.func h) #[] i)), (7, (.int .i64 ((List.length p1 : Nat) : Int))), (8, (.int .i64 a))] ∧ SP [] w0 w [] ∧ Qi p1 p5 f1 a = some r) (by rintro ρ w ⟨a, hk, hs, H⟩; cases H) ?_ Zw ?_
 ·rintro f1 ρ a3 ⟨a, hk, j, H⟩
  refine At.known [(0, (.slice A2 (List.length p1) c3)), (1, (.func (.func h) #[] i)), (7, (.int .i64 ((List.length p1 : Nat) : Int))), (8, (.int .i64 a))] hk ?_
  replace H := (show Qm (Qi p1 p5 f1) p1 p5 a = some r from H)
  unfold Qm at H
  refine aQ ?_
  refine aR ?_
  refine iR 1 1 [(9, (.bool (decide (a < ((List.length p1 : Nat) : Int)))))] ?_
  refine iF ?_
  refine aQ ?_
  refine Zu K (o := (.tmp 9)) K (b := (decide (a < ((List.length p1 : Nat) : Int)))) K (fun m => ?_) (fun m => ?_)
  ·have H := ct H m
   refine At.skip K ?_
   refine aQ ?_
   refine X8 K (id := 1) K ?_
   refine aQ ?_
   refine aR ?_
   refine iR 2 2 [(10, (.int .i64 a)), (5, (.int .i64 a))] ?_
   refine iF ?_
   refine aQ ?_
   refine aR ?_
   refine iR 3 3 [(11, (.func (.func h) #[] i)), (12, (.slice A2 (List.length p1) c3)), (13, (.int .i64 a))] ?_
   obtain ⟨g, s, u, a4, H⟩ := Qy H
   refine iS 4 ?_
   refine Z2 (e := (Qu Zc (Qu Zc (Qh .i64)))) (l := p1) (A := A2) (c := c3) (T := 42) (E := 48) (x := (.tmp 12)) (ix := (.tmp 13)) (ki := .i64) (iz := a) (d := (some 14)) (k := 3) K rfl K K K K (RdT.sp q j) s u ?_
   intro a5 a6 a7 a9 hc55
   refine iS 5 ?_
   refine Qj.cells (t := 48) (x := (.tmp 14)) (b := a5) (off := (a6 + Int.toNat a * (Qu Zc (Qu Zc (Qh .i64))).sz)) (xs := [(.string ⟨List.toArray g.1⟩), (.string ⟨List.toArray g.2.1⟩), (.int .i64 g.2.2)]) (d := (some 15)) (k := 4) K rfl K K K (Xc (e := (Qu Zc (Qu Zc (Qh .i64)))) (Qp (RdT.sp q j) a7 s u) a4 rfl) ?_
   obtain ⟨v, a8, H⟩ := Qc H
   refine iS 6 ?_
   refine Z5 (f := h) (fo := (.tmp 11)) (xs := #[(.tmp 15)]) (tys := #[48]) (first := #[]) (captured := i) (args := (([(.agg #[(.string ⟨List.toArray g.1⟩), (.string ⟨List.toArray g.2.1⟩), (.int .i64 g.2.2)])] : List Value) ++ (i).toList)) (d := (some 16)) (k := 5) K rfl K K hcf8 (a1 g.1 g.2.1 g.2.2 v a3  (SP.keeps j)  a8) ?_
   rintro e b0 ⟨rfl, y⟩
   refine ⟨_, rfl, ?_⟩
   have a0 := SP.call j y
   clear y
   refine iF ?_
   refine Zu K (o := (.tmp 16)) K (b := v) K (fun p => ?_) (fun p => ?_)
   ·have H := ct H p
    refine aQ ?_
    refine aR ?_
    refine iR 2 2 [(17, (.int .i64 a)), (4, (.int .i64 a))] ?_
    refine iF ?_
    refine At.ret K ?_
    refine ⟨(.int .i64 a), K, ?_⟩
    obtain rfl := Qf H
    exact ⟨rfl, SP.sel a0 [] rfl rfl⟩
   ·have H := cf H p
    refine At.skip K ?_
    refine aR ?_
    refine iR 2 2 [(18, (.int .i64 (IntKind.wrap .i64 (a + 1)))), (8, (.int .i64 (IntKind.wrap .i64 (a + 1))))] ?_
    refine iF ?_
    exact ⟨(IntKind.wrap .i64 (a + 1)), ⟨K, K, K, K, trivial⟩, SP.sel a0 [] rfl rfl, H⟩
  ·have H := cf H m
   refine At.exit K (id := 0) K ?_
   refine aQ ?_
   refine aR ?_
   refine iR 1 1 [(4, (.int .i64 (-1)))] ?_
   refine iF ?_
   refine At.ret K ?_
   refine ⟨(.int .i64 (-1)), K, ?_⟩
   obtain rfl := Qf H
   exact ⟨rfl, SP.sel j [] rfl rfl⟩
 ·exact ⟨0, ⟨K, K, K, K, trivial⟩, SP.sel a2 [] rfl rfl, H⟩
def Q5 (p1 : (List ((List UInt8) × (List UInt8) × Int))) (p5 : ((List UInt8) → (List UInt8) → Int → Option (Bool))) : Option (Bool) :=
  ((Q2 p1 p5).bind fun a => (some ((decide (a ≥ 0)))))
set_option maxRecDepth 100000 in
set_option maxHeartbeats 4000000 in
theorem Yd (A2 : Option Addr) (c3 : Nat) (a : FuncId) (b : Array Value) (p1 : (List ((List UInt8) × (List UInt8) × Int))) (p5 : ((List UInt8) → (List UInt8) → Int → Option (Bool))) (w0 : World) (g : RdT (Qu Zc (Qu Zc (Qh .i64))) w0 A2 c3 p1) (hcf8 : ∀ (args : Array Value) (w : World), (callFunc a args).run Tryz.prog w = .ok (.enter a args) w) (h : ∀ (y0 : (List UInt8)) (y1 : (List UInt8)) (y2 : Int) (z : (Bool)) (w : World), Below w0.heap.size w0 w → p5 y0 y1 y2 = some z → Calls Tryz.prog a (([(.agg #[(.string ⟨List.toArray y0⟩), (.string ⟨List.toArray y1⟩), (.int .i64 y2)])] : List Value) ++ (b).toList).toArray w (fun e w' => e = .returned (.bool z) ∧ SP [] w w' [])) (r : (Bool)) (H : Q5 p1 p5 = some r) :
  Calls Tryz.prog 80 #[(.slice A2 (List.length p1) c3), (.func (.func a) #[] b)] w0 (fun e w' => e = .returned (.bool r) ∧ SP [] w0 w' []) := by
 unfold Q5 at H
 refine Qt (n := 9) Tryz.func80 K K K ?_
 have d := Q1 [] w0
 refine aQ ?_
 refine aR ?_
 refine iR 1 1 [(4, (.bool false))] ?_
 refine iF ?_
 refine aQ ?_
 refine aR ?_
 refine iR 2 2 [(5, (.slice A2 (List.length p1) c3)), (6, (.func (.func a) #[] b))] ?_
 obtain ⟨c, i, H⟩ := Qc H
 refine iS 3 ?_
 refine cF 89 #[(.tmp 5), (.tmp 6)] #[42, 117] 7 Tryz.call89 (Zo A2 c3 a b p1 p5 w0 (RdT.sp g d) hcf8 (fun y0 y1 y2 z w  hw  hz => h y0 y1 y2 z w  (Di d hw)  hz) c i) ?_
 rintro e k ⟨rfl, f⟩
 refine ⟨_, rfl, ?_⟩
 have j := SP.call d f
 clear f
 refine iR 2 5 [(8, (.bool (decide (c ≥ 0)))), (4, (.bool (decide (c ≥ 0))))] ?_
 refine iF ?_
 refine At.ret K ?_
 refine ⟨(.bool (decide (c ≥ 0))), K, ?_⟩
 obtain rfl := Qf H
 exact ⟨rfl, SP.sel j [] rfl rfl⟩
def Qk (c : Int → Option (Int)) (p1 : (List Qd)) (p6 : ((List UInt8) → Int → Int → (List (Int × Int)) → (List ((List UInt8) × (List UInt8) × Int)) → Option (Bool))) (b : Int) : Option (Int) :=
  (cond (decide (b < ((List.length p1 : Nat) : Int))) ((idx p1 b).bind fun a => ((p6 a.1 a.2.1 a.2.2.1 a.2.2.2.1 a.2.2.2.2).bind fun d => (cond d (some (b)) (c (IntKind.wrap .i64 (b + 1)))))) (some ((-1))))
def Qg (p1 : (List Qd)) (p6 : ((List UInt8) → Int → Int → (List (Int × Int)) → (List ((List UInt8) × (List UInt8) × Int)) → Option (Bool))) : Nat → Int → Option (Int)
  | 0, _ => none
  | f + 1, a => Qk  (Qg p1 p6 f) p1 p6 a
def Qz (p1 : (List Qd)) (p6 : ((List UInt8) → Int → Int → (List (Int × Int)) → (List ((List UInt8) × (List UInt8) × Int)) → Option (Bool))) : Option (Int) :=
  (Qg p1 p6 Zw 0)
set_option maxRecDepth 100000 in
set_option maxHeartbeats 4000000 in
theorem Zh (A2 : Option Addr) (c3 : Nat) (h : FuncId) (i : Array Value) (d5 : (List Q8)) (p6 : ((List UInt8) → Int → Int → (List (Int × Int)) → (List ((List UInt8) × (List UInt8) × Int)) → Option (Bool))) (w0 : World) (m : (dDS J9 Bj).ok w0 (A2, c3, d5)) (hcf9 : ∀ (args : Array Value) (w : World), (callFunc h args).run Tryz.prog w = .ok (.enter h args) w) (a2 : ∀ (y0 : (List UInt8)) (y1 : Int) (y2 : Int) (y3 : (List (Int × Int))) (y4 : (List ((List UInt8) × (List UInt8) × Int))) (z : (Bool)) (w : World) (Ay3 : Option Addr) (cy3 : Nat) (Ay4 : Option Addr) (cy4 : Nat), Below w0.heap.size w0 w → RdT (Qu (Qh .u32) (Qh .i64)) w Ay3 cy3 y3 → RdT (Qu Zc (Qu Zc (Qh .i64))) w Ay4 cy4 y4 → p6 y0 y1 y2 y3 y4 = some z → Calls Tryz.prog h (([(.agg #[(.string ⟨List.toArray y0⟩), (.int .i64 y1), (.int .i64 y2), (.slice Ay3 (List.length y3) cy3), (.slice Ay4 (List.length y4) cy4)])] : List Value) ++ (i).toList).toArray w (fun e w' => e = .returned (.bool z) ∧ SP [] w w' [])) (r : (Int)) (H : Qz (List.map stT d5) p6 = some r) :
  Calls Tryz.prog 76 #[(.slice A2 (List.length (List.map stT d5)) c3), (.func (.func h) #[] i)] w0 (fun e w' => e = .returned (.int .i64 r) ∧ SP [] w0 w' []) := by
 unfold Qz at H
 refine Qt (n := 19) Tryz.func76 K K K ?_
 have a3 := Q1 [] w0
 refine aQ ?_
 refine aR ?_
 refine iR 1 1 [(4, (.int .i64 0))] ?_
 refine iF ?_
 refine aQ ?_
 refine aQ ?_
 refine aR ?_
 refine iR 3 3 [(6, (.slice A2 (List.length (List.map stT d5)) c3)), (7, (.int .i64 ((List.length (List.map stT d5) : Nat) : Int))), (8, (.int .i64 0))] ?_
 refine iF ?_
 refine X8 K (id := 0) K ?_
 refine Ne K (fun f1 ρ w => ∃ (g : Int), Zg ρ [(0, (.slice A2 (List.length (List.map stT d5)) c3)), (1, (.func (.func h) #[] i)), (7, (.int .i64 ((List.length (List.map stT d5) : Nat) : Int))), (8, (.int .i64 g))] ∧ SP [] w0 w [] ∧ Qg (List.map stT d5) p6 f1 g = some r) (by rintro ρ w ⟨g, hk, hs, H⟩; cases H) ?_ Zw ?_
 ·rintro f1 ρ a4 ⟨g, hk, j, H⟩
  refine At.known [(0, (.slice A2 (List.length (List.map stT d5)) c3)), (1, (.func (.func h) #[] i)), (7, (.int .i64 ((List.length (List.map stT d5) : Nat) : Int))), (8, (.int .i64 g))] hk ?_
  replace H := (show Qk (Qg (List.map stT d5) p6 f1) (List.map stT d5) p6 g = some r from H)
  unfold Qk at H
  refine aQ ?_
  refine aR ?_
  refine iR 1 1 [(9, (.bool (decide (g < ((List.length (List.map stT d5) : Nat) : Int)))))] ?_
  refine iF ?_
  refine aQ ?_
  refine Zu K (o := (.tmp 9)) K (b := (decide (g < ((List.length (List.map stT d5) : Nat) : Int)))) K (fun p => ?_) (fun p => ?_)
  ·have H := ct H p
   refine At.skip K ?_
   refine aQ ?_
   refine X8 K (id := 1) K ?_
   refine aQ ?_
   refine aR ?_
   refine iR 2 2 [(10, (.int .i64 g)), (5, (.int .i64 g))] ?_
   refine iF ?_
   refine aQ ?_
   refine aR ?_
   refine iR 3 3 [(11, (.func (.func h) #[] i)), (12, (.slice A2 (List.length (List.map stT d5)) c3)), (13, (.int .i64 g))] ?_
   obtain ⟨a, u, v, q, H⟩ := Gw H
   refine iS 4 ?_
   refine U1 stT (e := J9) (l := d5) (A := A2) (c := c3) (T := 22) (E := 44) (x := (.tmp 12)) (ix := (.tmp 13)) (ki := .i64) (iz := g) (d := (some 14)) (k := 3) K rfl K K K K (RdT.sp (Uz m) j) u v ?_
   intro a5 a6 a7 a9 hc59
   refine iS 5 ?_
   refine Qj.cells (t := 44) (x := (.tmp 14)) (b := a5) (off := (a6 + Int.toNat g * J9.sz)) (xs := [(.string ⟨List.toArray (stT a).1⟩), (.int .i64 (stT a).2.1), (.int .i64 (stT a).2.2.1), (.slice a.2.2.2.1.1 (List.length (stT a).2.2.2.1) a.2.2.2.1.2.1), (.slice a.2.2.2.2.1 (List.length (stT a).2.2.2.2) a.2.2.2.2.2.1)]) (d := (some 15)) (k := 4) K rfl K K K (Xc (e := J9) (Qp (RdT.sp (Uz m) j) a7 u v) q rfl) ?_
   obtain ⟨y, a8, H⟩ := Qc H
   refine iS 6 ?_
   refine Z5 (f := h) (fo := (.tmp 11)) (xs := #[(.tmp 15)]) (tys := #[44]) (first := #[]) (captured := i) (args := (([(.agg #[(.string ⟨List.toArray (stT a).1⟩), (.int .i64 (stT a).2.1), (.int .i64 (stT a).2.2.1), (.slice a.2.2.2.1.1 (List.length (stT a).2.2.2.1) a.2.2.2.1.2.1), (.slice a.2.2.2.2.1 (List.length (stT a).2.2.2.2) a.2.2.2.2.2.1)])] : List Value) ++ (i).toList)) (d := (some 16)) (k := 5) K rfl K K hcf9 (a2 (stT a).1 (stT a).2.1 (stT a).2.2.1 (stT a).2.2.2.1 (stT a).2.2.2.2 y a4 a.2.2.2.1.1 a.2.2.2.1.2.1 a.2.2.2.2.1 a.2.2.2.2.2.1 (SP.keeps j) (RdT.sp (Uz (dp1 (dp2 (dp2 (dp2 (Dx m q)))))) j) (RdT.sp (Uz (dp2 (dp2 (dp2 (dp2 (Dx m q)))))) j) a8) ?_
   rintro e b0 ⟨rfl, a0⟩
   refine ⟨_, rfl, ?_⟩
   have a1 := SP.call j a0
   clear a0
   refine iF ?_
   refine Zu K (o := (.tmp 16)) K (b := y) K (fun s => ?_) (fun s => ?_)
   ·have H := ct H s
    refine aQ ?_
    refine aR ?_
    refine iR 2 2 [(17, (.int .i64 g)), (4, (.int .i64 g))] ?_
    refine iF ?_
    refine At.ret K ?_
    refine ⟨(.int .i64 g), K, ?_⟩
    obtain rfl := Qf H
    exact ⟨rfl, SP.sel a1 [] rfl rfl⟩
   ·have H := cf H s
    refine At.skip K ?_
    refine aR ?_
    refine iR 2 2 [(18, (.int .i64 (IntKind.wrap .i64 (g + 1)))), (8, (.int .i64 (IntKind.wrap .i64 (g + 1))))] ?_
    refine iF ?_
    exact ⟨(IntKind.wrap .i64 (g + 1)), ⟨K, K, K, K, trivial⟩, SP.sel a1 [] rfl rfl, H⟩
  ·have H := cf H p
   refine At.exit K (id := 0) K ?_
   refine aQ ?_
   refine aR ?_
   refine iR 1 1 [(4, (.int .i64 (-1)))] ?_
   refine iF ?_
   refine At.ret K ?_
   refine ⟨(.int .i64 (-1)), K, ?_⟩
   obtain rfl := Qf H
   exact ⟨rfl, SP.sel j [] rfl rfl⟩
 ·exact ⟨0, ⟨K, K, K, K, trivial⟩, SP.sel a3 [] rfl rfl, H⟩
def Q3 (p1 : (List Qd)) (p6 : ((List UInt8) → Int → Int → (List (Int × Int)) → (List ((List UInt8) × (List UInt8) × Int)) → Option (Bool))) : Option (Bool) :=
  ((Qz p1 p6).bind fun a => (some ((decide (a ≥ 0)))))
set_option maxRecDepth 100000 in
set_option maxHeartbeats 4000000 in
theorem X3 (A2 : Option Addr) (c3 : Nat) (a : FuncId) (b : Array Value) (d5 : (List Q8)) (p6 : ((List UInt8) → Int → Int → (List (Int × Int)) → (List ((List UInt8) × (List UInt8) × Int)) → Option (Bool))) (w0 : World) (g : (dDS J9 Bj).ok w0 (A2, c3, d5)) (hcf9 : ∀ (args : Array Value) (w : World), (callFunc a args).run Tryz.prog w = .ok (.enter a args) w) (h : ∀ (y0 : (List UInt8)) (y1 : Int) (y2 : Int) (y3 : (List (Int × Int))) (y4 : (List ((List UInt8) × (List UInt8) × Int))) (z : (Bool)) (w : World) (Ay3 : Option Addr) (cy3 : Nat) (Ay4 : Option Addr) (cy4 : Nat), Below w0.heap.size w0 w → RdT (Qu (Qh .u32) (Qh .i64)) w Ay3 cy3 y3 → RdT (Qu Zc (Qu Zc (Qh .i64))) w Ay4 cy4 y4 → p6 y0 y1 y2 y3 y4 = some z → Calls Tryz.prog a (([(.agg #[(.string ⟨List.toArray y0⟩), (.int .i64 y1), (.int .i64 y2), (.slice Ay3 (List.length y3) cy3), (.slice Ay4 (List.length y4) cy4)])] : List Value) ++ (b).toList).toArray w (fun e w' => e = .returned (.bool z) ∧ SP [] w w' [])) (r : (Bool)) (H : Q3 (List.map stT d5) p6 = some r) :
  Calls Tryz.prog 60 #[(.slice A2 (List.length (List.map stT d5)) c3), (.func (.func a) #[] b)] w0 (fun e w' => e = .returned (.bool r) ∧ SP [] w0 w' []) := by
 unfold Q3 at H
 refine Qt (n := 9) Tryz.func60 K K K ?_
 have d := Q1 [] w0
 refine aQ ?_
 refine aR ?_
 refine iR 1 1 [(4, (.bool false))] ?_
 refine iF ?_
 refine aQ ?_
 refine aR ?_
 refine iR 2 2 [(5, (.slice A2 (List.length (List.map stT d5)) c3)), (6, (.func (.func a) #[] b))] ?_
 obtain ⟨c, i, H⟩ := Qc H
 refine iS 3 ?_
 refine cF 76 #[(.tmp 5), (.tmp 6)] #[22, 102] 7 Tryz.call76 (Zh A2 c3 a b d5 p6 w0 (Dp.sp g d) hcf9 (fun y0 y1 y2 y3 y4 z w Ay3 cy3 Ay4 cy4 hw hy3 hy4 hz => h y0 y1 y2 y3 y4 z w Ay3 cy3 Ay4 cy4 (Di d hw) hy3 hy4 hz) c i) ?_
 rintro e k ⟨rfl, f⟩
 refine ⟨_, rfl, ?_⟩
 have j := SP.call d f
 clear f
 refine iR 2 5 [(8, (.bool (decide (c ≥ 0)))), (4, (.bool (decide (c ≥ 0))))] ?_
 refine iF ?_
 refine At.ret K ?_
 refine ⟨(.bool (decide (c ≥ 0))), K, ?_⟩
 obtain rfl := Qf H
 exact ⟨rfl, SP.sel j [] rfl rfl⟩
def Xq (a : Int) (b : Int) : Option (Bool) :=
  ((Jp a b).bind fun z7 => (some ((z7 == ([] : List UInt8)))))
set_option maxRecDepth 100000 in
set_option maxHeartbeats 4000000 in
theorem Gi  (c : Int) (f : Int) (w0 : World) (hL : Rz w0)  (r : (Bool)) (H : Xq c f = some r) :
  Calls Tryz.prog 78 #[(.agg #[(.int .u32 c), (.int .i64 f)])] w0 (fun e w' => e = .returned (.bool r) ∧ SP [] w0 w' []) := by
 unfold Xq at H
 refine Qt (n := 6) Tryz.func78 K K K ?_
 have i := Q1 [] w0
 refine aQ ?_
 refine aR ?_
 refine iS 1 ?_
 refine Vo (t := 113) (x := (.tmp 0)) (v := (.agg #[(.int .u32 c), (.int .i64 f)])) (d := (some 1)) (k := 0) K rfl K i ?_
 intro g3 w4 g
 refine iR 1 2 [(2, (.bool false))] ?_
 refine iF ?_
 refine aQ ?_
 refine aR ?_
 refine iS 1 ?_
 refine sL 113 1 g3 0 0 (.agg #[(.int .u32 c), (.int .i64 f)]) 3 g rfl ?_
 obtain ⟨z7, j, H⟩ := Qc H
 refine iS 2 ?_
 refine cF 79 #[(.tmp 3)] #[113] 4 Tryz.call79 (Rk  c f w4 (Zs hL (SP.keeps g)) z7 j) ?_
 rintro e w9 ⟨rfl, h⟩
 refine ⟨_, rfl, ?_⟩
 have l := SP.call g h
 clear h
 refine iS 3 ?_
 refine Jb (op := .eql) (T := 9) (T' := 9) (x := (.tmp 4)) (y := (.const (.string ⟨List.toArray ([] : List UInt8)⟩))) (a := z7) (b := ([] : List UInt8)) (r := (.bool (z7 == ([] : List UInt8)))) (d := (some 5)) (k := 2) K rfl K K rfl ?_
 refine iR 1 4 [(2, (.bool (z7 == ([] : List UInt8))))] ?_
 refine iF ?_
 refine At.ret K ?_
 refine ⟨(.bool (z7 == ([] : List UInt8))), K, ?_⟩
 obtain rfl := Qf H
 exact ⟨rfl, SP.sel l [] rfl rfl⟩
def Xr (a : Bool) : Option (Bool) :=
  (some (a))
def Jq (a : (List UInt8)) (b : (List UInt8)) (c : Int) : Option (Bool) :=
  ((X1 a).bind fun d => (cond d ((Zn ((List.length b : Nat) : Int) 1 32).bind fun e => (cond e ((Zn c 0 1099511627776).bind fun f => (Xr f)) (Xr false))) (Xr false)))
set_option maxRecDepth 100000 in
set_option maxHeartbeats 4000000 in
theorem Rm  (f : (List UInt8)) (a : (List UInt8)) (g : Int) (w0 : World)  (r : (Bool)) (H : Jq f a g = some r) :
  Calls Tryz.prog 82 #[(.agg #[(.string ⟨List.toArray f⟩), (.string ⟨List.toArray a⟩), (.int .i64 g)])] w0 (fun e w' => e = .returned (.bool r) ∧ SP [] w0 w' []) := by
 unfold Jq at H
 refine Qt (n := 17) Tryz.func82 K K K ?_
 have a0 := Q1 [] w0
 refine aQ ?_
 refine aR ?_
 refine iS 1 ?_
 refine Vo (t := 48) (x := (.tmp 0)) (v := (.agg #[(.string ⟨List.toArray f⟩), (.string ⟨List.toArray a⟩), (.int .i64 g)])) (d := (some 1)) (k := 0) K rfl K a0 ?_
 intro g4 w5 s
 refine iR 1 2 [(2, (.bool false))] ?_
 refine iF ?_
 refine aQ ?_
 refine At.join (fun ρ w => ∃ (c : Bool), Zg ρ [(2, (.bool c))] ∧ SP [] w0 w [] ∧ Xr c = some r) ?_ ?_
 ·refine aR ?_
  refine iR 1 1 [(3, (pt g4 0))] ?_
  refine iS 2 ?_
  refine sL 9 3 g4 0 0 (.string ⟨List.toArray f⟩) 4 s rfl ?_
  obtain ⟨j, a1, H⟩ := Qc H
  refine iS 3 ?_
  refine cF 83 #[(.tmp 4)] #[9] 5 Tryz.call83 (Na  f w5  j a1) ?_
  rintro e a2 ⟨rfl, u⟩
  refine ⟨_, rfl, ?_⟩
  have m := SP.call s u
  clear u
  refine iR 1 4 [(6, (.bool j))] ?_
  refine In.guard (t := 6) (b := j) K (fun o => ?_) (fun o => ?_)
  ·have H := ct H o
   refine iR 1 5 [(7, (pt g4 1))] ?_
   refine iS 6 ?_
   refine sL 9 7 g4 1 0 (.string ⟨List.toArray a⟩) 8 m rfl ?_
   refine iR 1 7 [(9, (.int .i64 ((List.length a : Nat) : Int)))] ?_
   obtain ⟨h, a3, H⟩ := Qc H
   refine iS 8 ?_
   refine cF 59 #[(.tmp 9), (.const (.int .i64 (1))), (.const (.int .i64 (32)))] #[2, 2, 2] 10 Tryz.call59 (Xm  ((List.length a : Nat) : Int) 1 32 a2  h a3) ?_
   rintro e a4 ⟨rfl, y⟩
   refine ⟨_, rfl, ?_⟩
   have p := SP.call m y
   clear y
   refine iR 2 10 [(11, (.bool h)), (12, (.bool h))] ?_
   refine In.guard (t := 12) (b := h) K (fun q => ?_) (fun q => ?_)
   ·have H := ct H q
    refine iR 1 11 [(13, (pt g4 2))] ?_
    refine iS 12 ?_
    refine sL 2 13 g4 2 0 (.int .i64 g) 14 p rfl ?_
    obtain ⟨i, a5, H⟩ := Qc H
    refine iS 13 ?_
    refine cF 59 #[(.tmp 14), (.const (.int .i64 (0))), (.const (.int .i64 (1099511627776)))] #[2, 2, 2] 15 Tryz.call59 (Xm  g 0 1099511627776 a4  i a5) ?_
    rintro e a8 ⟨rfl, z⟩
    refine ⟨_, rfl, ?_⟩
    have a6 := SP.call p z
    clear z
    refine iR 2 15 [(16, (.bool i)), (2, (.bool i))] ?_
    refine iF ?_
    exact ⟨i, ⟨K, trivial⟩, SP.sel a6 [] rfl rfl, H⟩
   ·have H := cf H q
    refine iR 5 15 [(13, undef), (14, undef), (15, undef), (16, (.bool false)), (2, (.bool false))] ?_
    refine iF ?_
    exact ⟨false, ⟨K, trivial⟩, SP.sel p [] rfl rfl, H⟩
  ·have H := cf H o
   refine iR 11 15 [(7, undef), (8, undef), (9, undef), (10, undef), (11, (.bool false)), (12, (.bool false)), (13, undef), (14, undef), (15, undef), (16, (.bool false)), (2, (.bool false))] ?_
   refine iF ?_
   exact ⟨false, ⟨K, trivial⟩, SP.sel m [] rfl rfl, H⟩
 ·rintro ρ a9 ⟨c, hk, a7, H⟩
  unfold Xr at H
  first | refine At.known [(2, (.bool c))] hk ?_ | rw [← Q9 (l := [(2, (.bool c))]) hk]
  refine At.ret K ?_
  refine ⟨(.bool c), K, ?_⟩
  obtain rfl := Qf H
  exact ⟨rfl, SP.sel a7 [] rfl rfl⟩
def Yh (a : (List UInt8)) (b : (List UInt8)) (c : Int) : Option (Bool) :=
  ((Jq a b c).bind fun z8 => (some ((!z8))))
set_option maxRecDepth 100000 in
set_option maxHeartbeats 4000000 in
theorem Gj  (a : (List UInt8)) (b : (List UInt8)) (c : Int) (w0 : World)  (r : (Bool)) (H : Yh a b c = some r) :
  Calls Tryz.prog 81 #[(.agg #[(.string ⟨List.toArray a⟩), (.string ⟨List.toArray b⟩), (.int .i64 c)])] w0 (fun e w' => e = .returned (.bool r) ∧ SP [] w0 w' []) := by
 unfold Yh at H
 refine Qt (n := 6) Tryz.func81 K K K ?_
 have h := Q1 [] w0
 refine aQ ?_
 refine aR ?_
 refine iS 1 ?_
 refine Vo (t := 48) (x := (.tmp 0)) (v := (.agg #[(.string ⟨List.toArray a⟩), (.string ⟨List.toArray b⟩), (.int .i64 c)])) (d := (some 1)) (k := 0) K rfl K h ?_
 intro g4 w5 f
 refine iR 1 2 [(2, (.bool false))] ?_
 refine iF ?_
 refine aQ ?_
 refine aR ?_
 refine iS 1 ?_
 refine sL 48 1 g4 0 0 (.agg #[(.string ⟨List.toArray a⟩), (.string ⟨List.toArray b⟩), (.int .i64 c)]) 3 f rfl ?_
 obtain ⟨z8, i, H⟩ := Qc H
 refine iS 2 ?_
 refine cF 82 #[(.tmp 3)] #[48] 4 Tryz.call82 (Rm  a b c w5  z8 i) ?_
 rintro e l ⟨rfl, g⟩
 refine ⟨_, rfl, ?_⟩
 have j := SP.call f g
 clear g
 refine iR 2 4 [(5, (.bool (!z8))), (2, (.bool (!z8)))] ?_
 refine iF ?_
 refine At.ret K ?_
 refine ⟨(.bool (!z8)), K, ?_⟩
 obtain rfl := Qf H
 exact ⟨rfl, SP.sel j [] rfl rfl⟩
def Vg (d : Int → Option (Bool)) (p1 : (List ((List UInt8) × (List UInt8) × Int))) (p5 : ((List UInt8) → (List UInt8) → Int → Option ((List UInt8)))) (a : Int) : Option (Bool) :=
  (cond (decide (a < ((List.length p1 : Nat) : Int))) ((idx p1 (IntKind.wrap .i64 (a - 1))).bind fun b => ((p5 b.1 b.2.1 b.2.2).bind fun e => ((idx p1 a).bind fun c => ((p5 c.1 c.2.1 c.2.2).bind fun f => (cond (!(Op.bytesLess e f)) (some (false)) (d (IntKind.wrap .i64 (a + 1)))))))) (some (true)))
def Vh (p1 : (List ((List UInt8) × (List UInt8) × Int))) (p5 : ((List UInt8) → (List UInt8) → Int → Option ((List UInt8)))) : Nat → Int → Option (Bool)
  | 0, _ => none
  | f + 1, a => Vg  (Vh p1 p5 f) p1 p5 a
def Ze (p1 : (List ((List UInt8) × (List UInt8) × Int))) (p5 : ((List UInt8) → (List UInt8) → Int → Option ((List UInt8)))) : Option (Bool) :=
  (Vh p1 p5 Zw 1)
set_option maxRecDepth 100000 in
set_option maxHeartbeats 4000000 in
theorem Uq (A2 : Option Addr) (c3 : Nat) (i : FuncId) (j : Array Value) (p1 : (List ((List UInt8) × (List UInt8) × Int))) (p5 : ((List UInt8) → (List UInt8) → Int → Option ((List UInt8)))) (w0 : World) (u : RdT (Qu Zc (Qu Zc (Qh .i64))) w0 A2 c3 p1) (hcf8 : ∀ (args : Array Value) (w : World), (callFunc i args).run Tryz.prog w = .ok (.enter i args) w) (a5 : ∀ (y0 : (List UInt8)) (y1 : (List UInt8)) (y2 : Int) (z : ((List UInt8))) (w : World), Below w0.heap.size w0 w → p5 y0 y1 y2 = some z → Calls Tryz.prog i (([(.agg #[(.string ⟨List.toArray y0⟩), (.string ⟨List.toArray y1⟩), (.int .i64 y2)])] : List Value) ++ (j).toList).toArray w (fun e w' => e = .returned (.string ⟨List.toArray z⟩) ∧ SP [] w w' [])) (r : (Bool)) (H : Ze p1 p5 = some r) :
  Calls Tryz.prog 84 #[(.slice A2 (List.length p1) c3), (.func (.func i) #[] j)] w0 (fun e w' => e = .returned (.bool r) ∧ SP [] w0 w' []) := by
 unfold Ze at H
 refine Qt (n := 26) Tryz.func84 K K K ?_
 have b4 := Q1 [] w0
 refine aQ ?_
 refine aR ?_
 refine iR 1 1 [(4, (.bool false))] ?_
 refine iF ?_
 refine aQ ?_
 refine aQ ?_
 refine aR ?_
 refine iR 1 1 [(5, (.int .i64 1))] ?_
 refine iF ?_
 refine X8 K (id := 0) K ?_
 refine Ne K (fun f1 ρ w => ∃ (g : Int), Zg ρ [(0, (.slice A2 (List.length p1) c3)), (1, (.func (.func i) #[] j)), (5, (.int .i64 g))] ∧ SP [] w0 w [] ∧ Vh p1 p5 f1 g = some r) (by rintro ρ w ⟨g, hk, hs, H⟩; cases H) ?_ Zw ?_
 ·rintro f1 ρ f0 ⟨g, hk, a6, H⟩
  refine At.known [(0, (.slice A2 (List.length p1) c3)), (1, (.func (.func i) #[] j)), (5, (.int .i64 g))] hk ?_
  replace H := (show Vg (Vh p1 p5 f1) p1 p5 g = some r from H)
  unfold Vg at H
  refine aQ ?_
  refine aQ ?_
  refine aR ?_
  refine iR 4 4 [(6, (.int .i64 g)), (7, (.slice A2 (List.length p1) c3)), (8, (.int .i64 ((List.length p1 : Nat) : Int))), (9, (.bool (decide (g < ((List.length p1 : Nat) : Int)))))] ?_
  refine iF ?_
  refine Zu K (o := (.tmp 9)) K (b := (decide (g < ((List.length p1 : Nat) : Int)))) K (fun a1 => ?_) (fun a1 => ?_)
  ·have H := ct H a1
   refine At.skip K ?_
   refine aQ ?_
   refine X8 K (id := 1) K ?_
   refine aQ ?_
   obtain ⟨p, a7, a8, b5, H⟩ := Qy H
   obtain ⟨q, b6, H⟩ := Qc H
   obtain ⟨m, v, a0, a9, H⟩ := Qy H
   obtain ⟨s, b7, H⟩ := Qc H
   refine aG [GEq (.func (.func i) #[] j), GEq (.slice A2 (List.length p1) c3), GEq (.int .i64 g), GEq (.int .i64 (IntKind.wrap .i64 (g - 1))), Xt A2 (Qu Zc (Qu Zc (Qh .i64))).sz (IntKind.wrap .i64 (g - 1)), GEq (.agg #[(.string ⟨List.toArray p.1⟩), (.string ⟨List.toArray p.2.1⟩), (.int .i64 p.2.2)]), GEq (.string ⟨List.toArray q⟩), GEq (.func (.func i) #[] j), GEq (.slice A2 (List.length p1) c3), GEq (.int .i64 g), Xt A2 (Qu Zc (Qu Zc (Qh .i64))).sz g, GEq (.agg #[(.string ⟨List.toArray m.1⟩), (.string ⟨List.toArray m.2.1⟩), (.int .i64 m.2.2)]), GEq (.string ⟨List.toArray s⟩), GEq (.bool (!(Op.bytesLess q s)))] [6, 12] (tG [] w0 [] [([], []), ([6], [(.string ⟨List.toArray q⟩)]), ([6, 12], [(.string ⟨List.toArray q⟩), (.string ⟨List.toArray s⟩)])]) 14 2 ⟨trivial, SP.drew a6⟩ ?_ ?_
   iterate 14 refine And.intro ?_ ?_
   exact trivial
   ·exact oV (hC (hS 1 (.func (.func i) #[] j)) (h0)) (.func (.func i) #[] j)
   ·exact oV (hC (hS 0 (.slice A2 (List.length p1) c3)) (h0)) (.slice A2 (List.length p1) c3)
   ·exact oV (hC (hS 5 (.int .i64 g)) (h0)) (.int .i64 g)
   ·exact oV (hC (hA 2 14) (h0)) (.int .i64 (IntKind.wrap .i64 (g - 1)))
   ·refine oL 0 ?_
    ·rintro ρ' w' hs hah ⟨f2, b8⟩
     refine kM (kc (kA hah 1 13) (kc (kA hah 3 15) k0)) fun hkn => ?_
     refine Z2 (e := (Qu Zc (Qu Zc (Qh .i64)))) (l := p1) (A := A2) (c := c3) (T := 42) (E := 48) (x := (.tmp 13)) (ix := (.tmp 15)) (ki := .i64) (iz := (IntKind.wrap .i64 (g - 1))) (d := (some 16)) (k := 4) K rfl K K K K (RdT.sp u b8) a7 a8 ?_
     intro b9 c0 c1 f3 hc269
     exact ⟨rfl, _, Qb hkn, ⟨b9, c0, c1, rfl⟩⟩
   ·refine oL 0 ?_
    ·rintro ρ' w' hs hah ⟨f4, c2⟩
     obtain ⟨c4, c5, c6, c7⟩ := hah 4 16 K
     refine kM (kc c7 k0) fun hkn => ?_
     refine Qj.cells (t := 48) (x := (.tmp 16)) (b := c4) (off := (c5 + Int.toNat (IntKind.wrap .i64 (g - 1)) * (Qu Zc (Qu Zc (Qh .i64))).sz)) (xs := [(.string ⟨List.toArray p.1⟩), (.string ⟨List.toArray p.2.1⟩), (.int .i64 p.2.2)]) (d := (some 17)) (k := 5) K rfl K K K (Xc (e := (Qu Zc (Qu Zc (Qh .i64)))) (Qp (RdT.sp u c2) c6 a7 a8) b5 rfl) ?_
     exact eK hkn
   ·refine oH 0 1 ?_
    ·rintro ρ' w' hs hah ⟨f5, b0⟩
     refine kM (kc (kA hah 0 12) (kc (kA hah 5 17) k0)) fun hkn => ?_
     refine Z5 (f := i) (fo := (.tmp 12)) (xs := #[(.tmp 17)]) (tys := #[48]) (first := #[]) (captured := j) (args := (([(.agg #[(.string ⟨List.toArray p.1⟩), (.string ⟨List.toArray p.2.1⟩), (.int .i64 p.2.2)])] : List Value) ++ (j).toList)) (d := (some 18)) (k := 6) K rfl K K hcf8 (a5 p.1 p.2.1 p.2.2 q w'  (SP.keeps b0)  b6) ?_
     rintro e f6 ⟨rfl, b1⟩
     refine ⟨_, rfl, ?_⟩
     have c8 := SP.call b0 b1
     clear b1
     refine ⟨_, Qb hkn, rfl, ?_⟩
     exact (And.intro (And.intro rfl (trivial)) (c8))
   ·exact oV (hC (hS 1 (.func (.func i) #[] j)) (h0)) (.func (.func i) #[] j)
   ·exact oV (hC (hS 0 (.slice A2 (List.length p1) c3)) (h0)) (.slice A2 (List.length p1) c3)
   ·exact oV (hC (hS 5 (.int .i64 g)) (h0)) (.int .i64 g)
   ·refine Owe.light K [0, 1] K (Ql ?_ (Ql ?_ Vu))
    ·rintro ρ' w' hs hah ⟨f7, c9⟩
     refine kM (kc (kA hah 8 20) (kc (kA hah 9 21) k0)) fun hkn => ?_
     refine Z2 (e := (Qu Zc (Qu Zc (Qh .i64)))) (l := p1) (A := A2) (c := c3) (T := 42) (E := 48) (x := (.tmp 20)) (ix := (.tmp 21)) (ki := .i64) (iz := g) (d := (some 22)) (k := 10) K rfl K K K K (RdT.sp u c9) v a0 ?_
     intro d0 d1 d2 f8 hc287
     exact ⟨rfl, _, Qb hkn, ⟨d0, d1, d2, rfl⟩⟩
    ·rintro ρ' w' hs hah ⟨⟨f9, -⟩, d3⟩
     refine kM (kc (kA hah 8 20) (kc (kA hah 9 21) k0)) fun hkn => ?_
     refine Z2 (e := (Qu Zc (Qu Zc (Qh .i64)))) (l := p1) (A := A2) (c := c3) (T := 42) (E := 48) (x := (.tmp 20)) (ix := (.tmp 21)) (ki := .i64) (iz := g) (d := (some 22)) (k := 10) K rfl K K K K (RdT.sp u d3) v a0 ?_
     intro d4 d5 d6 g0 hc295
     exact ⟨rfl, _, Qb hkn, ⟨d4, d5, d6, rfl⟩⟩
   ·refine Owe.light K [0, 1] K (Ql ?_ (Ql ?_ Vu))
    ·rintro ρ' w' hs hah ⟨g1, d7⟩
     obtain ⟨d8, d9, e0, a2⟩ := hah 10 22 K
     refine kM (kc a2 k0) fun hkn => ?_
     refine Qj.cells (t := 48) (x := (.tmp 22)) (b := d8) (off := (d9 + Int.toNat g * (Qu Zc (Qu Zc (Qh .i64))).sz)) (xs := [(.string ⟨List.toArray m.1⟩), (.string ⟨List.toArray m.2.1⟩), (.int .i64 m.2.2)]) (d := (some 23)) (k := 11) K rfl K K K (Xc (e := (Qu Zc (Qu Zc (Qh .i64)))) (Qp (RdT.sp u d7) e0 v a0) a9 rfl) ?_
     exact eK hkn
    ·rintro ρ' w' hs hah ⟨⟨g2, -⟩, e1⟩
     obtain ⟨e2, e3, e4, a2⟩ := hah 10 22 K
     refine kM (kc a2 k0) fun hkn => ?_
     refine Qj.cells (t := 48) (x := (.tmp 22)) (b := e2) (off := (e3 + Int.toNat g * (Qu Zc (Qu Zc (Qh .i64))).sz)) (xs := [(.string ⟨List.toArray m.1⟩), (.string ⟨List.toArray m.2.1⟩), (.int .i64 m.2.2)]) (d := (some 23)) (k := 11) K rfl K K K (Xc (e := (Qu Zc (Qu Zc (Qh .i64)))) (Qp (RdT.sp u e1) e4 v a0) a9 rfl) ?_
     exact eK hkn
   ·refine oH 1 2 ?_
    ·rintro ρ' w' hs hah ⟨⟨e5, -⟩, b2⟩
     refine kM (kc (kA hah 7 19) (kc (kA hah 11 23) k0)) fun hkn => ?_
     refine Z5 (f := i) (fo := (.tmp 19)) (xs := #[(.tmp 23)]) (tys := #[48]) (first := #[]) (captured := j) (args := (([(.agg #[(.string ⟨List.toArray m.1⟩), (.string ⟨List.toArray m.2.1⟩), (.int .i64 m.2.2)])] : List Value) ++ (j).toList)) (d := (some 24)) (k := 12) K rfl K K hcf8 (a5 m.1 m.2.1 m.2.2 s w'  (SP.keeps b2)  b7) ?_
     rintro e g3 ⟨rfl, b3⟩
     refine ⟨_, rfl, ?_⟩
     have e6 := SP.call b2 b3
     clear b3
     refine ⟨_, Qb hkn, rfl, ?_⟩
     exact (And.intro (And.intro e5 (And.intro rfl (trivial))) (e6))
   ·refine oL 2 ?_
    ·rintro ρ' w' hs hah ⟨⟨e7, e8, -⟩, g4⟩
     refine kN [(18, (.string ⟨List.toArray q⟩)), (24, (.string ⟨List.toArray s⟩))] ⟨(Yl (h := 6) K).symm.trans e7, (Yl (h := 12) K).symm.trans e8, trivial⟩ fun hkn => ?_
     refine Jb (op := .geq) (T := 9) (T' := 9) (x := (.tmp 18)) (y := (.tmp 24)) (a := q) (b := s) (r := (.bool (!(Op.bytesLess q s)))) (d := (some 25)) (k := 13) K rfl K K rfl ?_
     exact eK hkn
   ·rintro ρ' w' hs hf ⟨⟨g5, g6, -⟩, a3⟩
    refine Vj [(0, (.slice A2 (List.length p1) c3)), (1, (.func (.func i) #[] j)), (5, (.int .i64 g)), (25, (.bool (!(Op.bytesLess q s))))] ⟨(hs 0 K).trans K, (hs 1 K).trans K, (hs 5 K).trans K, hf 13 25 K, trivial⟩ ?_
    obtain ⟨g7, e9⟩ : ∃ x, w' = x := ⟨_, rfl⟩
    rw [e9] at a3 ⊢
    refine Zu K (o := (.tmp 25)) K (b := (!(Op.bytesLess q s))) K (fun a4 => ?_) (fun a4 => ?_)
    ·have H := ct H a4
     refine aQ ?_
     refine aR ?_
     refine iR 1 1 [(4, (.bool false))] ?_
     refine iF ?_
     refine At.ret K ?_
     refine ⟨(.bool false), K, ?_⟩
     obtain rfl := Qf H
     exact ⟨rfl, SP.sel a3 [] rfl rfl⟩
    ·have H := cf H a4
     refine At.skip K ?_
     refine aR ?_
     refine iR 3 3 [(10, (.int .i64 g)), (11, (.int .i64 (IntKind.wrap .i64 (g + 1)))), (5, (.int .i64 (IntKind.wrap .i64 (g + 1))))] ?_
     refine iF ?_
     exact ⟨(IntKind.wrap .i64 (g + 1)), ⟨K, K, K, trivial⟩, SP.sel a3 [] rfl rfl, H⟩
  ·have H := cf H a1
   refine At.exit K (id := 0) K ?_
   refine aQ ?_
   refine aR ?_
   refine iR 1 1 [(4, (.bool true))] ?_
   refine iF ?_
   refine At.ret K ?_
   refine ⟨(.bool true), K, ?_⟩
   obtain rfl := Qf H
   exact ⟨rfl, SP.sel a6 [] rfl rfl⟩
 ·exact ⟨1, ⟨K, K, K, trivial⟩, SP.sel b4 [] rfl rfl, H⟩
def Je (a : (List UInt8)) (b : (List UInt8)) (c : Int) : Option ((List UInt8)) :=
  (some (a))
set_option maxRecDepth 100000 in
set_option maxHeartbeats 4000000 in
theorem Gk  (a : (List UInt8)) (b : (List UInt8)) (c : Int) (w0 : World)  (r : ((List UInt8))) (H : Je a b c = some r) :
  Calls Tryz.prog 85 #[(.agg #[(.string ⟨List.toArray a⟩), (.string ⟨List.toArray b⟩), (.int .i64 c)])] w0 (fun e w' => e = .returned (.string ⟨List.toArray r⟩) ∧ SP [] w0 w' []) := by
 unfold Je at H
 refine Qt (n := 5) Tryz.func85 K K K ?_
 have g := Q1 [] w0
 refine aQ ?_
 refine aR ?_
 refine iS 1 ?_
 refine Vo (t := 48) (x := (.tmp 0)) (v := (.agg #[(.string ⟨List.toArray a⟩), (.string ⟨List.toArray b⟩), (.int .i64 c)])) (d := (some 1)) (k := 0) K rfl K g ?_
 intro g4 w5 f
 refine iR 1 2 [(2, (.string ⟨List.toArray ([] : List UInt8)⟩))] ?_
 refine iF ?_
 refine aQ ?_
 refine aR ?_
 refine iR 1 1 [(3, (pt g4 0))] ?_
 refine iS 2 ?_
 refine sL 9 3 g4 0 0 (.string ⟨List.toArray a⟩) 4 f rfl ?_
 refine iR 1 3 [(2, (.string ⟨List.toArray a⟩))] ?_
 refine iF ?_
 refine At.ret K ?_
 refine ⟨(.string ⟨List.toArray a⟩), K, ?_⟩
 obtain rfl := Qf H
 exact ⟨rfl, SP.sel f [] rfl rfl⟩
def Z6 (a : Bool) : Option (Bool) :=
  (some (a))
def Z7 (a : Int) (b : Int) (c : (List ((List UInt8) × (List UInt8) × Int))) (d : Bool) : Option (Bool) :=
  (cond d (some (false)) ((Zn a 0 8).bind fun e => (cond e ((Zn b 0 8).bind fun f => (cond f ((Ze c (fun y0 y1 y2 => Je y0 y1 y2)).bind fun g => (Z6 g)) (Z6 false))) (Z6 false))))
def X4 (a : Int) (b : Int) (c : (List ((List UInt8) × (List UInt8) × Int))) (d : Bool) : Option (Bool) :=
  (Z7 a b c d)
def X5 (a : Int) (b : Int) (c : (List ((List UInt8) × (List UInt8) × Int))) (d : Bool) : Option (Bool) :=
  (X4 a b c d)
def Z8 (g : (List UInt8)) (b : Int) (c : Int) (d : (List (Int × Int))) (a : (List ((List UInt8) × (List UInt8) × Int))) (e : Bool) : Option (Bool) :=
  (cond e (Z7 b c a e) ((X1 g).bind fun f => (cond (!f) (X4 b c a (!f)) (cond (decide (((List.length d : Nat) : Int) > 4)) (X5 b c a (decide (((List.length d : Nat) : Int) > 4))) (X5 b c a (decide (((List.length a : Nat) : Int) > 4)))))))
def Y8 (c : (List UInt8)) (d : Int) (e : Int) (a : (List (Int × Int))) (b : (List ((List UInt8) × (List UInt8) × Int))) : Option (Bool) :=
  ((Vf a (fun y0 y1 => Xq y0 y1)).bind fun f => (cond f (Z8 c d e a b true) ((Q5 b (fun y0 y1 y2 => Yh y0 y1 y2)).bind fun g => (Z8 c d e a b g))))
set_option maxRecDepth 100000 in
set_option maxHeartbeats 4000000 in
theorem G6 (A5 : Option Addr) (c6 : Nat) (A9 : Option Addr) (i : Nat) (j : (List UInt8)) (g : Int) (h : Int) (f : (List (Int × Int))) (c : (List ((List UInt8) × (List UInt8) × Int))) (w0 : World) (hL : Rz w0) (c7 : RdT (Qu (Qh .u32) (Qh .i64)) w0 A5 c6 f) (b9 : RdT (Qu Zc (Qu Zc (Qh .i64))) w0 A9 i c) (r : (Bool)) (H : Y8 j g h f c = some r) :
  Calls Tryz.prog 62 #[(.agg #[(.string ⟨List.toArray j⟩), (.int .i64 g), (.int .i64 h), (.slice A5 (List.length f) c6), (.slice A9 (List.length c) i)])] w0 (fun e w' => e = .returned (.bool r) ∧ SP [] w0 w' []) := by
 unfold Y8 at H
 refine Qt (n := 40) Tryz.func62 K K K ?_
 have c8 := Q1 [] w0
 refine aQ ?_
 refine aR ?_
 refine iS 1 ?_
 refine Vo (t := 44) (x := (.tmp 0)) (v := (.agg #[(.string ⟨List.toArray j⟩), (.int .i64 g), (.int .i64 h), (.slice A5 (List.length f) c6), (.slice A9 (List.length c) i)])) (d := (some 1)) (k := 0) K rfl K c8 ?_
 intro a c9 a2
 refine iR 1 2 [(2, (.bool false))] ?_
 refine iF ?_
 refine aQ ?_
 refine aR ?_
 refine iR 1 1 [(4, (pt a 3))] ?_
 refine iS 2 ?_
 refine sL 41 4 a 3 0 (.slice A5 (List.length f) c6) 5 a2 rfl ?_
 obtain ⟨y, d0, H⟩ := Qc H
 refine iS 3 ?_
 refine cF 77 #[(.tmp 5), (.func 78)] #[41, 115] 6 Tryz.call77 (Yy A5 c6 78 #[] f (fun y0 y1 => Xq y0 y1) c9 (RdT.sp c7 a2) Tryz.call78 (fun y0 y1 z w  hw  hz => Gi  y0 y1 w (Zs (Zs hL (SP.keeps a2)) hw) z hz) y d0) ?_
 rintro e d1 ⟨rfl, c0⟩
 refine ⟨_, rfl, ?_⟩
 have a3 := SP.call a2 c0
 clear c0
 refine iR 1 4 [(3, (.bool y))] ?_
 refine iF ?_
 refine aQ ?_
 refine At.join (fun ρ w => ∃ (m : Bool), Zg ρ [(1, (pt a 0)), (3, (.bool m))] ∧ SP [] w0 w [Qo a 44 #[(.string ⟨List.toArray j⟩), (.int .i64 g), (.int .i64 h), (.slice A5 (List.length f) c6), (.slice A9 (List.length c) i)]] ∧ Z8 j g h f c m = some r) ?_ ?_
 ·refine aR ?_
  refine iR 2 2 [(7, (.bool y)), (8, (.bool y))] ?_
  refine In.guard (t := 8) (b := y) K (fun a8 => ?_) (fun a8 => ?_)
  ·have H := ct H a8
   refine iR 5 7 [(9, undef), (10, undef), (11, undef), (12, (.bool true)), (3, (.bool true))] ?_
   refine iF ?_
   exact ⟨true, ⟨K, K, trivial⟩, SP.sel a3 [0] rfl rfl, H⟩
  ·have H := cf H a8
   refine iR 1 3 [(9, (pt a 4))] ?_
   refine iS 4 ?_
   refine sL 42 9 a 4 0 (.slice A9 (List.length c) i) 10 a3 rfl ?_
   obtain ⟨a4, d2, H⟩ := Qc H
   refine iS 5 ?_
   refine cF 80 #[(.tmp 10), (.func 81)] #[42, 117] 11 Tryz.call80 (Yd A9 i 81 #[] c (fun y0 y1 y2 => Yh y0 y1 y2) d1 (RdT.sp b9 a3) Tryz.call81 (fun y0 y1 y2 z w  hw  hz => Gj  y0 y1 y2 w  z hz) a4 d2) ?_
   rintro e e6 ⟨rfl, c1⟩
   refine ⟨_, rfl, ?_⟩
   have d3 := SP.call a3 c1
   clear c1
   refine iR 2 7 [(12, (.bool a4)), (3, (.bool a4))] ?_
   refine iF ?_
   exact ⟨a4, ⟨K, K, trivial⟩, SP.sel d3 [0] rfl rfl, H⟩
 ·rintro ρ d4 ⟨m, hk, a9, H⟩
  unfold Z8 at H
  first | refine At.known [(1, (pt a 0)), (3, (.bool m))] hk ?_ | rw [← Q9 (l := [(1, (pt a 0)), (3, (.bool m))]) hk]
  refine aQ ?_
  refine X8 K (id := 0) K ?_
  refine aQ ?_
  refine aQ ?_
  refine aR ?_
  refine iR 2 2 [(14, (.bool m)), (13, (.bool m))] ?_
  refine iF ?_
  refine At.join (fun ρ w => ∃ (p : Bool), Zg ρ [(1, (pt a 0)), (13, (.bool p))] ∧ SP [] w0 w [Qo a 44 #[(.string ⟨List.toArray j⟩), (.int .i64 g), (.int .i64 h), (.slice A5 (List.length f) c6), (.slice A9 (List.length c) i)]] ∧ Z7 g h c p = some r) ?_ ?_
  ·refine Zu K (o := (.tmp 13)) K (b := m) K (fun b0 => ?_) (fun b0 => ?_)
   ·have H := ct H b0
    refine At.skip K ?_
    exact ⟨m, ⟨K, K, trivial⟩, SP.sel a9 [0] rfl rfl, H⟩
   ·have H := cf H b0
    refine aQ ?_
    refine aR ?_
    refine iR 1 1 [(15, (pt a 0))] ?_
    refine iS 2 ?_
    refine sL 9 15 a 0 0 (.string ⟨List.toArray j⟩) 16 a9 rfl ?_
    obtain ⟨a0, d5, H⟩ := Qc H
    refine iS 3 ?_
    refine cF 83 #[(.tmp 16)] #[9] 17 Tryz.call83 (Na  j d4  a0 d5) ?_
    rintro e e7 ⟨rfl, c2⟩
    refine ⟨_, rfl, ?_⟩
    have a1 := SP.call a9 c2
    clear c2
    refine iR 2 5 [(18, (.bool (!a0))), (13, (.bool (!a0)))] ?_
    refine iF ?_
    refine At.join (fun ρ w => ∃ (q : Bool), Zg ρ [(1, (pt a 0)), (13, (.bool q))] ∧ SP [] w0 w [Qo a 44 #[(.string ⟨List.toArray j⟩), (.int .i64 g), (.int .i64 h), (.slice A5 (List.length f) c6), (.slice A9 (List.length c) i)]] ∧ X4 g h c q = some r) ?_ ?_
    ·refine Zu K (o := (.tmp 13)) K (b := (!a0)) K (fun b1 => ?_) (fun b1 => ?_)
     ·have H := ct H b1
      refine At.skip K ?_
      exact ⟨(!a0), ⟨K, K, trivial⟩, SP.sel a1 [0] rfl rfl, H⟩
     ·have H := cf H b1
      refine aQ ?_
      refine aR ?_
      refine iR 1 1 [(19, (pt a 3))] ?_
      refine iS 2 ?_
      refine sL 41 19 a 3 0 (.slice A5 (List.length f) c6) 20 a1 rfl ?_
      refine iR 3 5 [(21, (.int .i64 ((List.length f : Nat) : Int))), (22, (.bool (decide (((List.length f : Nat) : Int) > 4)))), (13, (.bool (decide (((List.length f : Nat) : Int) > 4))))] ?_
      refine iF ?_
      refine At.join (fun ρ w => ∃ (s : Bool), Zg ρ [(1, (pt a 0)), (13, (.bool s))] ∧ SP [] w0 w [Qo a 44 #[(.string ⟨List.toArray j⟩), (.int .i64 g), (.int .i64 h), (.slice A5 (List.length f) c6), (.slice A9 (List.length c) i)]] ∧ X5 g h c s = some r) ?_ ?_
      ·refine Zu K (o := (.tmp 13)) K (b := (decide (((List.length f : Nat) : Int) > 4))) K (fun b2 => ?_) (fun b2 => ?_)
       ·have H := ct H b2
        refine At.skip K ?_
        exact ⟨(decide (((List.length f : Nat) : Int) > 4)), ⟨K, K, trivial⟩, SP.sel a1 [0] rfl rfl, H⟩
       ·have H := cf H b2
        refine aR ?_
        refine iR 1 1 [(23, (pt a 4))] ?_
        refine iS 2 ?_
        refine sL 42 23 a 4 0 (.slice A9 (List.length c) i) 24 a1 rfl ?_
        refine iR 3 5 [(25, (.int .i64 ((List.length c : Nat) : Int))), (26, (.bool (decide (((List.length c : Nat) : Int) > 4)))), (13, (.bool (decide (((List.length c : Nat) : Int) > 4))))] ?_
        refine iF ?_
        exact ⟨(decide (((List.length c : Nat) : Int) > 4)), ⟨K, K, trivial⟩, SP.sel a1 [0] rfl rfl, H⟩
      ·rintro ρ e8 ⟨s, hk, d6, H⟩
       unfold X5 at H
       first | refine At.known [(1, (pt a 0)), (13, (.bool s))] hk ?_ | rw [← Q9 (l := [(1, (pt a 0)), (13, (.bool s))]) hk]
       exact ⟨s, ⟨K, K, trivial⟩, SP.sel d6 [0] rfl rfl, H⟩
    ·rintro ρ e9 ⟨q, hk, d7, H⟩
     unfold X4 at H
     first | refine At.known [(1, (pt a 0)), (13, (.bool q))] hk ?_ | rw [← Q9 (l := [(1, (pt a 0)), (13, (.bool q))]) hk]
     exact ⟨q, ⟨K, K, trivial⟩, SP.sel d7 [0] rfl rfl, H⟩
  ·rintro ρ d8 ⟨p, hk, b3, H⟩
   unfold Z7 at H
   first | refine At.known [(1, (pt a 0)), (13, (.bool p))] hk ?_ | rw [← Q9 (l := [(1, (pt a 0)), (13, (.bool p))]) hk]
   refine Zu K (o := (.tmp 13)) K (b := p) K (fun b4 => ?_) (fun b4 => ?_)
   ·have H := ct H b4
    refine aQ ?_
    refine aR ?_
    refine iR 1 1 [(2, (.bool false))] ?_
    refine iF ?_
    refine At.ret K ?_
    refine ⟨(.bool false), K, ?_⟩
    obtain rfl := Qf H
    exact ⟨rfl, SP.sel b3 [] rfl rfl⟩
   ·have H := cf H b4
    refine At.skip K ?_
    refine aQ ?_
    refine At.join (fun ρ w => ∃ (u : Bool), Zg ρ [(2, (.bool u))] ∧ SP [] w0 w [] ∧ Z6 u = some r) ?_ ?_
    ·refine aR ?_
     refine iR 1 1 [(27, (pt a 1))] ?_
     refine iS 2 ?_
     refine sL 3 27 a 1 0 (.int .i64 g) 28 b3 rfl ?_
     obtain ⟨b5, d9, H⟩ := Qc H
     refine iS 3 ?_
     refine cF 59 #[(.tmp 28), (.const (.int .i64 (0))), (.const (.int .i64 (8)))] #[2, 2, 2] 29 Tryz.call59 (Xm  g 0 8 d8  b5 d9) ?_
     rintro e e0 ⟨rfl, c3⟩
     refine ⟨_, rfl, ?_⟩
     have b6 := SP.call b3 c3
     clear c3
     refine iR 1 4 [(30, (.bool b5))] ?_
     refine In.guard (t := 30) (b := b5) K (fun b7 => ?_) (fun b7 => ?_)
     ·have H := ct H b7
      refine iR 1 5 [(31, (pt a 2))] ?_
      refine iS 6 ?_
      refine sL 3 31 a 2 0 (.int .i64 h) 32 b6 rfl ?_
      obtain ⟨a5, e1, H⟩ := Qc H
      refine iS 7 ?_
      refine cF 59 #[(.tmp 32), (.const (.int .i64 (0))), (.const (.int .i64 (8)))] #[2, 2, 2] 33 Tryz.call59 (Xm  h 0 8 e0  a5 e1) ?_
      rintro e e2 ⟨rfl, c4⟩
      refine ⟨_, rfl, ?_⟩
      have a6 := SP.call b6 c4
      clear c4
      refine iR 2 9 [(34, (.bool a5)), (35, (.bool a5))] ?_
      refine In.guard (t := 35) (b := a5) K (fun b8 => ?_) (fun b8 => ?_)
      ·have H := ct H b8
       refine iR 1 10 [(36, (pt a 4))] ?_
       refine iS 11 ?_
       refine sL 42 36 a 4 0 (.slice A9 (List.length c) i) 37 a6 rfl ?_
       obtain ⟨a7, e3, H⟩ := Qc H
       refine iS 12 ?_
       refine cF 84 #[(.tmp 37), (.func 85)] #[42, 120] 38 Tryz.call84 (Uq A9 i 85 #[] c (fun y0 y1 y2 => Je y0 y1 y2) e2 (RdT.sp b9 a6) Tryz.call85 (fun y0 y1 y2 z w  hw  hz => Gk  y0 y1 y2 w  z hz) a7 e3) ?_
       rintro e f0 ⟨rfl, c5⟩
       refine ⟨_, rfl, ?_⟩
       have e4 := SP.call a6 c5
       clear c5
       refine iR 2 14 [(39, (.bool a7)), (2, (.bool a7))] ?_
       refine iF ?_
       exact ⟨a7, ⟨K, trivial⟩, SP.sel e4 [] rfl rfl, H⟩
      ·have H := cf H b8
       refine iR 5 14 [(36, undef), (37, undef), (38, undef), (39, (.bool false)), (2, (.bool false))] ?_
       refine iF ?_
       exact ⟨false, ⟨K, trivial⟩, SP.sel a6 [] rfl rfl, H⟩
     ·have H := cf H b7
      refine iR 10 14 [(31, undef), (32, undef), (33, undef), (34, (.bool false)), (35, (.bool false)), (36, undef), (37, undef), (38, undef), (39, (.bool false)), (2, (.bool false))] ?_
      refine iF ?_
      exact ⟨false, ⟨K, trivial⟩, SP.sel b6 [] rfl rfl, H⟩
    ·rintro ρ f1 ⟨u, hk, e5, H⟩
     unfold Z6 at H
     first | refine At.known [(2, (.bool u))] hk ?_ | rw [← Q9 (l := [(2, (.bool u))]) hk]
     refine At.ret K ?_
     refine ⟨(.bool u), K, ?_⟩
     obtain rfl := Qf H
     exact ⟨rfl, SP.sel e5 [] rfl rfl⟩
def Yz (a : (List UInt8)) (b : Int) (c : Int) (d : (List (Int × Int))) (e : (List ((List UInt8) × (List UInt8) × Int))) : Option (Bool) :=
  ((Y8 a b c d e).bind fun f => (some ((!f))))
set_option maxRecDepth 100000 in
set_option maxHeartbeats 4000000 in
theorem Gx (A5 : Option Addr) (c6 : Nat) (A9 : Option Addr) (c : Nat) (f : (List UInt8)) (g : Int) (h : Int) (a : (List (Int × Int))) (b : (List ((List UInt8) × (List UInt8) × Int))) (w0 : World) (hL : Rz w0) (m : RdT (Qu (Qh .u32) (Qh .i64)) w0 A5 c6 a) (o : RdT (Qu Zc (Qu Zc (Qh .i64))) w0 A9 c b) (r : (Bool)) (H : Yz f g h a b = some r) :
  Calls Tryz.prog 61 #[(.agg #[(.string ⟨List.toArray f⟩), (.int .i64 g), (.int .i64 h), (.slice A5 (List.length a) c6), (.slice A9 (List.length b) c)])] w0 (fun e w' => e = .returned (.bool r) ∧ SP [] w0 w' []) := by
 unfold Yz at H
 refine Qt (n := 6) Tryz.func61 K K K ?_
 have p := Q1 [] w0
 refine aQ ?_
 refine aR ?_
 refine iS 1 ?_
 refine Vo (t := 44) (x := (.tmp 0)) (v := (.agg #[(.string ⟨List.toArray f⟩), (.int .i64 g), (.int .i64 h), (.slice A5 (List.length a) c6), (.slice A9 (List.length b) c)])) (d := (some 1)) (k := 0) K rfl K p ?_
 intro q s i
 refine iR 1 2 [(2, (.bool false))] ?_
 refine iF ?_
 refine aQ ?_
 refine aR ?_
 refine iS 1 ?_
 refine sL 44 1 q 0 0 (.agg #[(.string ⟨List.toArray f⟩), (.int .i64 g), (.int .i64 h), (.slice A5 (List.length a) c6), (.slice A9 (List.length b) c)]) 3 i rfl ?_
 obtain ⟨j, u, H⟩ := Qc H
 refine iS 2 ?_
 refine cF 62 #[(.tmp 3)] #[44] 4 Tryz.call62 (G6 A5 c6 A9 c f g h a b s (Zs hL (SP.keeps i)) (RdT.sp m i) (RdT.sp o i) j u) ?_
 rintro e y ⟨rfl, l⟩
 refine ⟨_, rfl, ?_⟩
 have w := SP.call i l
 clear l
 refine iR 2 4 [(5, (.bool (!j))), (2, (.bool (!j)))] ?_
 refine iF ?_
 refine At.ret K ?_
 refine ⟨(.bool (!j)), K, ?_⟩
 obtain rfl := Qf H
 exact ⟨rfl, SP.sel w [] rfl rfl⟩
def Va (d : Int → Option (Bool)) (p1 : (List Qd)) (p6 : ((List UInt8) → Int → Int → (List (Int × Int)) → (List ((List UInt8) × (List UInt8) × Int)) → Option ((List UInt8)))) (c : Int) : Option (Bool) :=
  (cond (decide (c < ((List.length p1 : Nat) : Int))) ((idx p1 (IntKind.wrap .i64 (c - 1))).bind fun a => ((p6 a.1 a.2.1 a.2.2.1 a.2.2.2.1 a.2.2.2.2).bind fun e => ((idx p1 c).bind fun b => ((p6 b.1 b.2.1 b.2.2.1 b.2.2.2.1 b.2.2.2.2).bind fun f => (cond (!(Op.bytesLess e f)) (some (false)) (d (IntKind.wrap .i64 (c + 1)))))))) (some (true)))
def Vb (p1 : (List Qd)) (p6 : ((List UInt8) → Int → Int → (List (Int × Int)) → (List ((List UInt8) × (List UInt8) × Int)) → Option ((List UInt8)))) : Nat → Int → Option (Bool)
  | 0, _ => none
  | f + 1, a => Va  (Vb p1 p6 f) p1 p6 a
def Za (p1 : (List Qd)) (p6 : ((List UInt8) → Int → Int → (List (Int × Int)) → (List ((List UInt8) × (List UInt8) × Int)) → Option ((List UInt8)))) : Option (Bool) :=
  (Vb p1 p6 Zw 1)
set_option maxRecDepth 100000 in
set_option maxHeartbeats 4000000 in
theorem Uf (A2 : Option Addr) (c3 : Nat) (m : FuncId) (p : Array Value) (d5 : (List Q8)) (p6 : ((List UInt8) → Int → Int → (List (Int × Int)) → (List ((List UInt8) × (List UInt8) × Int)) → Option ((List UInt8)))) (w0 : World) (q : (dDS J9 Bj).ok w0 (A2, c3, d5)) (hcf9 : ∀ (args : Array Value) (w : World), (callFunc m args).run Tryz.prog w = .ok (.enter m args) w) (a9 : ∀ (y0 : (List UInt8)) (y1 : Int) (y2 : Int) (y3 : (List (Int × Int))) (y4 : (List ((List UInt8) × (List UInt8) × Int))) (z : ((List UInt8))) (w : World) (Ay3 : Option Addr) (cy3 : Nat) (Ay4 : Option Addr) (cy4 : Nat), Below w0.heap.size w0 w → RdT (Qu (Qh .u32) (Qh .i64)) w Ay3 cy3 y3 → RdT (Qu Zc (Qu Zc (Qh .i64))) w Ay4 cy4 y4 → p6 y0 y1 y2 y3 y4 = some z → Calls Tryz.prog m (([(.agg #[(.string ⟨List.toArray y0⟩), (.int .i64 y1), (.int .i64 y2), (.slice Ay3 (List.length y3) cy3), (.slice Ay4 (List.length y4) cy4)])] : List Value) ++ (p).toList).toArray w (fun e w' => e = .returned (.string ⟨List.toArray z⟩) ∧ SP [] w w' [])) (r : (Bool)) (H : Za (List.map stT d5) p6 = some r) :
  Calls Tryz.prog 63 #[(.slice A2 (List.length (List.map stT d5)) c3), (.func (.func m) #[] p)] w0 (fun e w' => e = .returned (.bool r) ∧ SP [] w0 w' []) := by
 unfold Za at H
 refine Qt (n := 26) Tryz.func63 K K K ?_
 have b5 := Q1 [] w0
 refine aQ ?_
 refine aR ?_
 refine iR 1 1 [(4, (.bool false))] ?_
 refine iF ?_
 refine aQ ?_
 refine aQ ?_
 refine aR ?_
 refine iR 1 1 [(5, (.int .i64 1))] ?_
 refine iF ?_
 refine X8 K (id := 0) K ?_
 refine Ne K (fun f1 ρ w => ∃ (j : Int), Zg ρ [(0, (.slice A2 (List.length (List.map stT d5)) c3)), (1, (.func (.func m) #[] p)), (5, (.int .i64 j))] ∧ SP [] w0 w [] ∧ Vb (List.map stT d5) p6 f1 j = some r) (by rintro ρ w ⟨j, hk, hs, H⟩; cases H) ?_ Zw ?_
 ·rintro f1 ρ f2 ⟨j, hk, b0, H⟩
  refine At.known [(0, (.slice A2 (List.length (List.map stT d5)) c3)), (1, (.func (.func m) #[] p)), (5, (.int .i64 j))] hk ?_
  replace H := (show Va (Vb (List.map stT d5) p6 f1) (List.map stT d5) p6 j = some r from H)
  unfold Va at H
  refine aQ ?_
  refine aQ ?_
  refine aR ?_
  refine iR 4 4 [(6, (.int .i64 j)), (7, (.slice A2 (List.length (List.map stT d5)) c3)), (8, (.int .i64 ((List.length (List.map stT d5) : Nat) : Int))), (9, (.bool (decide (j < ((List.length (List.map stT d5) : Nat) : Int)))))] ?_
  refine iF ?_
  refine Zu K (o := (.tmp 9)) K (b := (decide (j < ((List.length (List.map stT d5) : Nat) : Int)))) K (fun a4 => ?_) (fun a4 => ?_)
  ·have H := ct H a4
   refine At.skip K ?_
   refine aQ ?_
   refine X8 K (id := 1) K ?_
   refine aQ ?_
   obtain ⟨i, b1, b2, a5, H⟩ := Gw H
   obtain ⟨s, b6, H⟩ := Qc H
   obtain ⟨g, v, a0, a1, H⟩ := Gw H
   obtain ⟨u, b7, H⟩ := Qc H
   refine aG [GEq (.func (.func m) #[] p), GEq (.slice A2 (List.length (List.map stT d5)) c3), GEq (.int .i64 j), GEq (.int .i64 (IntKind.wrap .i64 (j - 1))), Xt A2 J9.sz (IntKind.wrap .i64 (j - 1)), GEq (.agg #[(.string ⟨List.toArray (stT i).1⟩), (.int .i64 (stT i).2.1), (.int .i64 (stT i).2.2.1), (.slice i.2.2.2.1.1 (List.length (stT i).2.2.2.1) i.2.2.2.1.2.1), (.slice i.2.2.2.2.1 (List.length (stT i).2.2.2.2) i.2.2.2.2.2.1)]), GEq (.string ⟨List.toArray s⟩), GEq (.func (.func m) #[] p), GEq (.slice A2 (List.length (List.map stT d5)) c3), GEq (.int .i64 j), Xt A2 J9.sz j, GEq (.agg #[(.string ⟨List.toArray (stT g).1⟩), (.int .i64 (stT g).2.1), (.int .i64 (stT g).2.2.1), (.slice g.2.2.2.1.1 (List.length (stT g).2.2.2.1) g.2.2.2.1.2.1), (.slice g.2.2.2.2.1 (List.length (stT g).2.2.2.2) g.2.2.2.2.2.1)]), GEq (.string ⟨List.toArray u⟩), GEq (.bool (!(Op.bytesLess s u)))] [6, 12] (tG [] w0 [] [([], []), ([6], [(.string ⟨List.toArray s⟩)]), ([6, 12], [(.string ⟨List.toArray s⟩), (.string ⟨List.toArray u⟩)])]) 14 2 ⟨trivial, SP.drew b0⟩ ?_ ?_
   iterate 14 refine And.intro ?_ ?_
   exact trivial
   ·exact oV (hC (hS 1 (.func (.func m) #[] p)) (h0)) (.func (.func m) #[] p)
   ·exact oV (hC (hS 0 (.slice A2 (List.length (List.map stT d5)) c3)) (h0)) (.slice A2 (List.length (List.map stT d5)) c3)
   ·exact oV (hC (hS 5 (.int .i64 j)) (h0)) (.int .i64 j)
   ·exact oV (hC (hA 2 14) (h0)) (.int .i64 (IntKind.wrap .i64 (j - 1)))
   ·refine oL 0 ?_
    ·rintro ρ' w' hs hah ⟨f3, b8⟩
     refine kM (kc (kA hah 1 13) (kc (kA hah 3 15) k0)) fun hkn => ?_
     refine U1 stT (e := J9) (l := d5) (A := A2) (c := c3) (T := 22) (E := 44) (x := (.tmp 13)) (ix := (.tmp 15)) (ki := .i64) (iz := (IntKind.wrap .i64 (j - 1))) (d := (some 16)) (k := 4) K rfl K K K K (RdT.sp (Uz q) b8) b1 b2 ?_
     intro b9 c0 c1 f4 hc276
     exact ⟨rfl, _, Qb hkn, ⟨b9, c0, c1, rfl⟩⟩
   ·refine oL 0 ?_
    ·rintro ρ' w' hs hah ⟨f5, c2⟩
     obtain ⟨c4, c5, c6, c7⟩ := hah 4 16 K
     refine kM (kc c7 k0) fun hkn => ?_
     refine Qj.cells (t := 44) (x := (.tmp 16)) (b := c4) (off := (c5 + Int.toNat (IntKind.wrap .i64 (j - 1)) * J9.sz)) (xs := [(.string ⟨List.toArray (stT i).1⟩), (.int .i64 (stT i).2.1), (.int .i64 (stT i).2.2.1), (.slice i.2.2.2.1.1 (List.length (stT i).2.2.2.1) i.2.2.2.1.2.1), (.slice i.2.2.2.2.1 (List.length (stT i).2.2.2.2) i.2.2.2.2.2.1)]) (d := (some 17)) (k := 5) K rfl K K K (Xc (e := J9) (Qp (RdT.sp (Uz q) c2) c6 b1 b2) a5 rfl) ?_
     exact eK hkn
   ·refine oH 0 1 ?_
    ·rintro ρ' w' hs hah ⟨f6, a2⟩
     refine kM (kc (kA hah 0 12) (kc (kA hah 5 17) k0)) fun hkn => ?_
     refine Z5 (f := m) (fo := (.tmp 12)) (xs := #[(.tmp 17)]) (tys := #[44]) (first := #[]) (captured := p) (args := (([(.agg #[(.string ⟨List.toArray (stT i).1⟩), (.int .i64 (stT i).2.1), (.int .i64 (stT i).2.2.1), (.slice i.2.2.2.1.1 (List.length (stT i).2.2.2.1) i.2.2.2.1.2.1), (.slice i.2.2.2.2.1 (List.length (stT i).2.2.2.2) i.2.2.2.2.2.1)])] : List Value) ++ (p).toList)) (d := (some 18)) (k := 6) K rfl K K hcf9 (a9 (stT i).1 (stT i).2.1 (stT i).2.2.1 (stT i).2.2.2.1 (stT i).2.2.2.2 s w' i.2.2.2.1.1 i.2.2.2.1.2.1 i.2.2.2.2.1 i.2.2.2.2.2.1 (SP.keeps a2) (RdT.sp (Uz (dp1 (dp2 (dp2 (dp2 (Dx q a5)))))) a2) (RdT.sp (Uz (dp2 (dp2 (dp2 (dp2 (Dx q a5)))))) a2) b6) ?_
     rintro e f7 ⟨rfl, b3⟩
     refine ⟨_, rfl, ?_⟩
     have c8 := SP.call a2 b3
     clear b3
     refine ⟨_, Qb hkn, rfl, ?_⟩
     exact (And.intro (And.intro rfl (trivial)) (c8))
   ·exact oV (hC (hS 1 (.func (.func m) #[] p)) (h0)) (.func (.func m) #[] p)
   ·exact oV (hC (hS 0 (.slice A2 (List.length (List.map stT d5)) c3)) (h0)) (.slice A2 (List.length (List.map stT d5)) c3)
   ·exact oV (hC (hS 5 (.int .i64 j)) (h0)) (.int .i64 j)
   ·refine Owe.light K [0, 1] K (Ql ?_ (Ql ?_ Vu))
    ·rintro ρ' w' hs hah ⟨f8, c9⟩
     refine kM (kc (kA hah 8 20) (kc (kA hah 9 21) k0)) fun hkn => ?_
     refine U1 stT (e := J9) (l := d5) (A := A2) (c := c3) (T := 22) (E := 44) (x := (.tmp 20)) (ix := (.tmp 21)) (ki := .i64) (iz := j) (d := (some 22)) (k := 10) K rfl K K K K (RdT.sp (Uz q) c9) v a0 ?_
     intro d0 d1 d2 f9 hc294
     exact ⟨rfl, _, Qb hkn, ⟨d0, d1, d2, rfl⟩⟩
    ·rintro ρ' w' hs hah ⟨⟨g0, -⟩, d3⟩
     refine kM (kc (kA hah 8 20) (kc (kA hah 9 21) k0)) fun hkn => ?_
     refine U1 stT (e := J9) (l := d5) (A := A2) (c := c3) (T := 22) (E := 44) (x := (.tmp 20)) (ix := (.tmp 21)) (ki := .i64) (iz := j) (d := (some 22)) (k := 10) K rfl K K K K (RdT.sp (Uz q) d3) v a0 ?_
     intro d4 d6 d7 g1 hc302
     exact ⟨rfl, _, Qb hkn, ⟨d4, d6, d7, rfl⟩⟩
   ·refine Owe.light K [0, 1] K (Ql ?_ (Ql ?_ Vu))
    ·rintro ρ' w' hs hah ⟨g2, d8⟩
     obtain ⟨d9, e0, e1, a6⟩ := hah 10 22 K
     refine kM (kc a6 k0) fun hkn => ?_
     refine Qj.cells (t := 44) (x := (.tmp 22)) (b := d9) (off := (e0 + Int.toNat j * J9.sz)) (xs := [(.string ⟨List.toArray (stT g).1⟩), (.int .i64 (stT g).2.1), (.int .i64 (stT g).2.2.1), (.slice g.2.2.2.1.1 (List.length (stT g).2.2.2.1) g.2.2.2.1.2.1), (.slice g.2.2.2.2.1 (List.length (stT g).2.2.2.2) g.2.2.2.2.2.1)]) (d := (some 23)) (k := 11) K rfl K K K (Xc (e := J9) (Qp (RdT.sp (Uz q) d8) e1 v a0) a1 rfl) ?_
     exact eK hkn
    ·rintro ρ' w' hs hah ⟨⟨g3, -⟩, e2⟩
     obtain ⟨e3, e4, e5, a6⟩ := hah 10 22 K
     refine kM (kc a6 k0) fun hkn => ?_
     refine Qj.cells (t := 44) (x := (.tmp 22)) (b := e3) (off := (e4 + Int.toNat j * J9.sz)) (xs := [(.string ⟨List.toArray (stT g).1⟩), (.int .i64 (stT g).2.1), (.int .i64 (stT g).2.2.1), (.slice g.2.2.2.1.1 (List.length (stT g).2.2.2.1) g.2.2.2.1.2.1), (.slice g.2.2.2.2.1 (List.length (stT g).2.2.2.2) g.2.2.2.2.2.1)]) (d := (some 23)) (k := 11) K rfl K K K (Xc (e := J9) (Qp (RdT.sp (Uz q) e2) e5 v a0) a1 rfl) ?_
     exact eK hkn
   ·refine oH 1 2 ?_
    ·rintro ρ' w' hs hah ⟨⟨e6, -⟩, a3⟩
     refine kM (kc (kA hah 7 19) (kc (kA hah 11 23) k0)) fun hkn => ?_
     refine Z5 (f := m) (fo := (.tmp 19)) (xs := #[(.tmp 23)]) (tys := #[44]) (first := #[]) (captured := p) (args := (([(.agg #[(.string ⟨List.toArray (stT g).1⟩), (.int .i64 (stT g).2.1), (.int .i64 (stT g).2.2.1), (.slice g.2.2.2.1.1 (List.length (stT g).2.2.2.1) g.2.2.2.1.2.1), (.slice g.2.2.2.2.1 (List.length (stT g).2.2.2.2) g.2.2.2.2.2.1)])] : List Value) ++ (p).toList)) (d := (some 24)) (k := 12) K rfl K K hcf9 (a9 (stT g).1 (stT g).2.1 (stT g).2.2.1 (stT g).2.2.2.1 (stT g).2.2.2.2 u w' g.2.2.2.1.1 g.2.2.2.1.2.1 g.2.2.2.2.1 g.2.2.2.2.2.1 (SP.keeps a3) (RdT.sp (Uz (dp1 (dp2 (dp2 (dp2 (Dx q a1)))))) a3) (RdT.sp (Uz (dp2 (dp2 (dp2 (dp2 (Dx q a1)))))) a3) b7) ?_
     rintro e g4 ⟨rfl, b4⟩
     refine ⟨_, rfl, ?_⟩
     have e7 := SP.call a3 b4
     clear b4
     refine ⟨_, Qb hkn, rfl, ?_⟩
     exact (And.intro (And.intro e6 (And.intro rfl (trivial))) (e7))
   ·refine oL 2 ?_
    ·rintro ρ' w' hs hah ⟨⟨e8, e9, -⟩, g5⟩
     refine kN [(18, (.string ⟨List.toArray s⟩)), (24, (.string ⟨List.toArray u⟩))] ⟨(Yl (h := 6) K).symm.trans e8, (Yl (h := 12) K).symm.trans e9, trivial⟩ fun hkn => ?_
     refine Jb (op := .geq) (T := 9) (T' := 9) (x := (.tmp 18)) (y := (.tmp 24)) (a := s) (b := u) (r := (.bool (!(Op.bytesLess s u)))) (d := (some 25)) (k := 13) K rfl K K rfl ?_
     exact eK hkn
   ·rintro ρ' w' hs hf ⟨⟨g6, g7, -⟩, a7⟩
    refine Vj [(0, (.slice A2 (List.length (List.map stT d5)) c3)), (1, (.func (.func m) #[] p)), (5, (.int .i64 j)), (25, (.bool (!(Op.bytesLess s u))))] ⟨(hs 0 K).trans K, (hs 1 K).trans K, (hs 5 K).trans K, hf 13 25 K, trivial⟩ ?_
    obtain ⟨g8, f0⟩ : ∃ x, w' = x := ⟨_, rfl⟩
    rw [f0] at a7 ⊢
    refine Zu K (o := (.tmp 25)) K (b := (!(Op.bytesLess s u))) K (fun a8 => ?_) (fun a8 => ?_)
    ·have H := ct H a8
     refine aQ ?_
     refine aR ?_
     refine iR 1 1 [(4, (.bool false))] ?_
     refine iF ?_
     refine At.ret K ?_
     refine ⟨(.bool false), K, ?_⟩
     obtain rfl := Qf H
     exact ⟨rfl, SP.sel a7 [] rfl rfl⟩
    ·have H := cf H a8
     refine At.skip K ?_
     refine aR ?_
     refine iR 3 3 [(10, (.int .i64 j)), (11, (.int .i64 (IntKind.wrap .i64 (j + 1)))), (5, (.int .i64 (IntKind.wrap .i64 (j + 1))))] ?_
     refine iF ?_
     exact ⟨(IntKind.wrap .i64 (j + 1)), ⟨K, K, K, trivial⟩, SP.sel a7 [] rfl rfl, H⟩
  ·have H := cf H a4
   refine At.exit K (id := 0) K ?_
   refine aQ ?_
   refine aR ?_
   refine iR 1 1 [(4, (.bool true))] ?_
   refine iF ?_
   refine At.ret K ?_
   refine ⟨(.bool true), K, ?_⟩
   obtain rfl := Qf H
   exact ⟨rfl, SP.sel b0 [] rfl rfl⟩
 ·exact ⟨1, ⟨K, K, K, trivial⟩, SP.sel b5 [] rfl rfl, H⟩
def Ju (a : (List UInt8)) (b : Int) (c : Int) (d : (List (Int × Int))) (e : (List ((List UInt8) × (List UInt8) × Int))) : Option ((List UInt8)) :=
  (some (a))
set_option maxRecDepth 100000 in
set_option maxHeartbeats 4000000 in
theorem Gy (A5 : Option Addr) (c6 : Nat) (A9 : Option Addr) (f : Nat) (a : (List UInt8)) (g : Int) (h : Int) (b : (List (Int × Int))) (c : (List ((List UInt8) × (List UInt8) × Int))) (w0 : World) (m : RdT (Qu (Qh .u32) (Qh .i64)) w0 A5 c6 b) (o : RdT (Qu Zc (Qu Zc (Qh .i64))) w0 A9 f c) (r : ((List UInt8))) (H : Ju a g h b c = some r) :
  Calls Tryz.prog 64 #[(.agg #[(.string ⟨List.toArray a⟩), (.int .i64 g), (.int .i64 h), (.slice A5 (List.length b) c6), (.slice A9 (List.length c) f)])] w0 (fun e w' => e = .returned (.string ⟨List.toArray r⟩) ∧ SP [] w0 w' []) := by
 unfold Ju at H
 refine Qt (n := 5) Tryz.func64 K K K ?_
 have l := Q1 [] w0
 refine aQ ?_
 refine aR ?_
 refine iS 1 ?_
 refine Vo (t := 44) (x := (.tmp 0)) (v := (.agg #[(.string ⟨List.toArray a⟩), (.int .i64 g), (.int .i64 h), (.slice A5 (List.length b) c6), (.slice A9 (List.length c) f)])) (d := (some 1)) (k := 0) K rfl K l ?_
 intro i p j
 refine iR 1 2 [(2, (.string ⟨List.toArray ([] : List UInt8)⟩))] ?_
 refine iF ?_
 refine aQ ?_
 refine aR ?_
 refine iR 1 1 [(3, (pt i 0))] ?_
 refine iS 2 ?_
 refine sL 9 3 i 0 0 (.string ⟨List.toArray a⟩) 4 j rfl ?_
 refine iR 1 3 [(2, (.string ⟨List.toArray a⟩))] ?_
 refine iF ?_
 refine At.ret K ?_
 refine ⟨(.string ⟨List.toArray a⟩), K, ?_⟩
 obtain rfl := Qf H
 exact ⟨rfl, SP.sel j [] rfl rfl⟩
def Xs (b : Int → Option (Bool)) (a : Bool) : Option (Bool) :=
  (some (a))
def Zi (a : Int → Option (Bool)) (d : Int) (e : Int) (f : Int) (g : Int) (b : (List Qd)) (c : Int) : Option (Bool) :=
  (cond (decide (c < ((List.length ([d, e, f, g] : List Int) : Nat) : Int))) ((idx ([d, e, f, g] : List Int) c).bind fun h => ((Zn h 1 1073741824).bind fun i => (cond (!i) (some (false)) (a (IntKind.wrap .i64 (c + 1)))))) (cond (decide (((List.length b : Nat) : Int) ≤ 8)) ((Q3 b (fun y0 y1 y2 y3 y4 => Yz y0 y1 y2 y3 y4)).bind fun j => (cond (!j) ((Za b (fun y0 y1 y2 y3 y4 => Ju y0 y1 y2 y3 y4)).bind fun k => (Xs a k)) (Xs a false))) (Xs a false)))
def Zy (a : Int) (b : Int) (c : Int) (d : Int) (e : (List Qd)) : Nat → Int → Option (Bool)
  | 0, _ => none
  | f + 1, g => Zi  (Zy a b c d e f) a b c d e g
def Jr (a : Int) (b : Int) (c : Int) (d : Int) (e : (List Qd)) : Option (Bool) :=
  (Zy a b c d e Zw 0)
set_option maxRecDepth 100000 in
set_option maxHeartbeats 4000000 in
theorem Rn (A6 : Option Addr) (c7 : Nat) (a : Int) (f : Int) (g : Int) (h : Int) (d9 : (List Q8)) (w0 : World) (hL : Rz w0) (a9 : (dDS J9 Bj).ok w0 (A6, c7, d9)) (r : (Bool)) (H : Jr a f g h (List.map stT d9) = some r) :
  Calls Tryz.prog 43 #[(.agg #[(.int .i64 a), (.int .i64 f), (.int .i64 g), (.int .i64 h), (.slice A6 (List.length (List.map stT d9)) c7)])] w0 (fun e w' => e = .returned (.bool r) ∧ SP [] w0 w' []) := by
 unfold Jr at H
 refine Qt (n := 38) Tryz.func43 K K K ?_
 have b7 := Q1 [] w0
 refine aQ ?_
 refine aR ?_
 refine iS 1 ?_
 refine Vo (t := 24) (x := (.tmp 0)) (v := (.agg #[(.int .i64 a), (.int .i64 f), (.int .i64 g), (.int .i64 h), (.slice A6 (List.length (List.map stT d9)) c7)])) (d := (some 1)) (k := 0) K rfl K b7 ?_
 intro m d0 u
 refine iR 1 2 [(2, (.bool false))] ?_
 refine iF ?_
 refine aQ ?_
 refine aQ ?_
 refine aR ?_
 refine iR 1 1 [(5, (pt m 0))] ?_
 refine iS 2 ?_
 refine sL 2 5 m 0 0 (.int .i64 a) 6 u rfl ?_
 refine iR 1 3 [(7, (pt m 1))] ?_
 refine iS 4 ?_
 refine sL 2 7 m 1 0 (.int .i64 f) 8 u rfl ?_
 refine iR 1 5 [(9, (pt m 2))] ?_
 refine iS 6 ?_
 refine sL 2 9 m 2 0 (.int .i64 g) 10 u rfl ?_
 refine iR 1 7 [(11, (pt m 3))] ?_
 refine iS 8 ?_
 refine sL 2 11 m 3 0 (.int .i64 h) 12 u rfl ?_
 refine iS 9 ?_
 refine Jc (e := (Qh .i64)) (T := 99) (E := 2) (len := 4) (parts := #[(0, (.tmp 6)), (1, (.tmp 8)), (2, (.tmp 10)), (3, (.tmp 12))]) (cs := #[(.int .i64 a), (.int .i64 f), (.int .i64 g), (.int .i64 h)]) ([a, f, g, h] : List Int) (d := (some 13)) (k := 8) K rfl (fun _ => K) u rfl rfl rfl rfl ?_
 intro a0 d1 b8
 refine iR 2 11 [(14, (.int .i64 ((List.length ([a, f, g, h] : List Int) : Nat) : Int))), (15, (.int .i64 0))] ?_
 refine iF ?_
 refine X8 K (id := 0) K ?_
 refine Ne K (fun f3 ρ w => ∃ (p : Int), Zg ρ [(1, (pt m 0)), (13, (.slice (some ⟨a0, 0, none⟩) (List.length ([a, f, g, h] : List Int)) (List.length ([a, f, g, h] : List Int)))), (14, (.int .i64 ((List.length ([a, f, g, h] : List Int) : Nat) : Int))), (15, (.int .i64 p))] ∧ SP [] w0 w [Qo m 24 #[(.int .i64 a), (.int .i64 f), (.int .i64 g), (.int .i64 h), (.slice A6 (List.length (List.map stT d9)) c7)], Ut 2 (Qh .i64) (some ⟨a0, 0, none⟩) (List.length ([a, f, g, h] : List Int)) ([a, f, g, h] : List Int)] ∧ Zy a f g h (List.map stT d9) f3 p = some r) (by rintro ρ w ⟨p, hk, hs, H⟩; cases H) ?_ Zw ?_
 ·rintro f3 ρ b0 ⟨p, hk, q, H⟩
  refine At.known [(1, (pt m 0)), (13, (.slice (some ⟨a0, 0, none⟩) (List.length ([a, f, g, h] : List Int)) (List.length ([a, f, g, h] : List Int)))), (14, (.int .i64 ((List.length ([a, f, g, h] : List Int) : Nat) : Int))), (15, (.int .i64 p))] hk ?_
  replace H := (show Zi (Zy a f g h (List.map stT d9) f3) a f g h (List.map stT d9) p = some r from H)
  unfold Zi at H
  refine aQ ?_
  refine aR ?_
  refine iR 1 1 [(16, (.bool (decide (p < ((List.length ([a, f, g, h] : List Int) : Nat) : Int)))))] ?_
  refine iF ?_
  refine aQ ?_
  refine Zu K (o := (.tmp 16)) K (b := (decide (p < ((List.length ([a, f, g, h] : List Int) : Nat) : Int)))) K (fun a4 => ?_) (fun a4 => ?_)
  ·have H := ct H a4
   refine At.skip K ?_
   refine aQ ?_
   refine X8 K (id := 1) K ?_
   refine aQ ?_
   refine aR ?_
   obtain ⟨a1, b1, b2, b9, H⟩ := Qy H
   refine iS 1 ?_
   refine Z2 (e := (Qh .i64)) (l := ([a, f, g, h] : List Int)) (A := (some ⟨a0, 0, none⟩)) (c := (List.length ([a, f, g, h] : List Int))) (T := 99) (E := 2) (x := (.tmp 13)) (ix := (.tmp 15)) (ki := .i64) (iz := p) (d := (some 17)) (k := 0) K rfl K K K K (V1 (SP.get q (i := 1) rfl)) b1 b2 ?_
   intro c0 c1 c2 d2 hc125
   refine iS 2 ?_
   refine sC 2 17 c0 (c1 + Int.toNat p * (Qh .i64).sz) (.int .i64 a1) 18 (Qw (e := (Qh .i64)) (Qp (V1 (SP.get q (i := 1) rfl)) c2 b1 b2) b9 (j := 0) rfl) ?_
   refine iR 1 3 [(4, (.int .i64 a1))] ?_
   refine iF ?_
   refine aQ ?_
   refine aR ?_
   refine iR 1 1 [(19, (.int .i64 a1))] ?_
   obtain ⟨a5, c3, H⟩ := Qc H
   refine iS 2 ?_
   refine cF 59 #[(.tmp 19), (.const (.int .i64 (1))), (.const (.int .i64 (1073741824)))] #[2, 2, 2] 20 Tryz.call59 (Xm  a1 1 1073741824 b0  a5 c3) ?_
   rintro e d3 ⟨rfl, b3⟩
   refine ⟨_, rfl, ?_⟩
   have b4 := SP.call q b3
   clear b3
   refine iR 1 3 [(21, (.bool (!a5)))] ?_
   refine iF ?_
   refine Zu K (o := (.tmp 21)) K (b := (!a5)) K (fun a6 => ?_) (fun a6 => ?_)
   ·have H := ct H a6
    refine aQ ?_
    refine aR ?_
    refine iR 1 1 [(2, (.bool false))] ?_
    refine iF ?_
    refine At.ret K ?_
    refine ⟨(.bool false), K, ?_⟩
    obtain rfl := Qf H
    exact ⟨rfl, SP.sel b4 [] rfl rfl⟩
   ·have H := cf H a6
    refine At.skip K ?_
    refine aR ?_
    refine iR 2 2 [(22, (.int .i64 (IntKind.wrap .i64 (p + 1)))), (15, (.int .i64 (IntKind.wrap .i64 (p + 1))))] ?_
    refine iF ?_
    exact ⟨(IntKind.wrap .i64 (p + 1)), ⟨K, K, K, K, trivial⟩, SP.sel b4 [0, 1] rfl rfl, H⟩
  ·have H := cf H a4
   refine At.exit K (id := 0) K ?_
   refine aQ ?_
   refine At.join (fun ρ w => ∃ (s : Bool), Zg ρ [(2, (.bool s))] ∧ SP [] w0 w [] ∧ Xs (Zy a f g h (List.map stT d9) f3) s = some r) ?_ ?_
   ·refine aR ?_
    refine iR 1 1 [(23, (pt m 4))] ?_
    refine iS 2 ?_
    refine sL 22 23 m 4 0 (.slice A6 (List.length (List.map stT d9)) c7) 24 q rfl ?_
    refine iR 3 5 [(25, (.int .i64 ((List.length (List.map stT d9) : Nat) : Int))), (26, (.bool (decide (((List.length (List.map stT d9) : Nat) : Int) ≤ 8)))), (27, (.bool (decide (((List.length (List.map stT d9) : Nat) : Int) ≤ 8))))] ?_
    refine In.guard (t := 27) (b := (decide (((List.length (List.map stT d9) : Nat) : Int) ≤ 8))) K (fun a7 => ?_) (fun a7 => ?_)
    ·have H := ct H a7
     refine iR 1 6 [(28, (pt m 4))] ?_
     refine iS 7 ?_
     refine sL 22 28 m 4 0 (.slice A6 (List.length (List.map stT d9)) c7) 29 q rfl ?_
     obtain ⟨y, c4, H⟩ := Qc H
     refine iS 8 ?_
     refine cF 60 #[(.tmp 29), (.func 61)] #[22, 102] 30 Tryz.call60 (X3 A6 c7 61 #[] d9 (fun y0 y1 y2 y3 y4 => Yz y0 y1 y2 y3 y4) b0 (Dp.sp a9 q) Tryz.call61 (fun y0 y1 y2 y3 y4 z w Ay3 cy3 Ay4 cy4 hw hy3 hy4 hz => Gx Ay3 cy3 Ay4 cy4 y0 y1 y2 y3 y4 w (Zs (Zs hL (SP.keeps q)) hw) hy3 hy4 z hz) y c4) ?_
     rintro e c5 ⟨rfl, b5⟩
     refine ⟨_, rfl, ?_⟩
     have a2 := SP.call q b5
     clear b5
     refine iR 3 11 [(31, (.bool (!y))), (32, (.bool (!y))), (33, (.bool (!y)))] ?_
     refine In.guard (t := 33) (b := (!y)) K (fun a8 => ?_) (fun a8 => ?_)
     ·have H := ct H a8
      refine iR 1 12 [(34, (pt m 4))] ?_
      refine iS 13 ?_
      refine sL 22 34 m 4 0 (.slice A6 (List.length (List.map stT d9)) c7) 35 a2 rfl ?_
      obtain ⟨a3, c6, H⟩ := Qc H
      refine iS 14 ?_
      refine cF 63 #[(.tmp 35), (.func 64)] #[22, 104] 36 Tryz.call63 (Uf A6 c7 64 #[] d9 (fun y0 y1 y2 y3 y4 => Ju y0 y1 y2 y3 y4) c5 (Dp.sp a9 a2) Tryz.call64 (fun y0 y1 y2 y3 y4 z w Ay3 cy3 Ay4 cy4 hw hy3 hy4 hz => Gy Ay3 cy3 Ay4 cy4 y0 y1 y2 y3 y4 w hy3 hy4 z hz) a3 c6) ?_
      rintro e d4 ⟨rfl, b6⟩
      refine ⟨_, rfl, ?_⟩
      have c8 := SP.call a2 b6
      clear b6
      refine iR 2 16 [(37, (.bool a3)), (2, (.bool a3))] ?_
      refine iF ?_
      exact ⟨a3, ⟨K, trivial⟩, SP.sel c8 [] rfl rfl, H⟩
     ·have H := cf H a8
      refine iR 5 16 [(34, undef), (35, undef), (36, undef), (37, (.bool false)), (2, (.bool false))] ?_
      refine iF ?_
      exact ⟨false, ⟨K, trivial⟩, SP.sel a2 [] rfl rfl, H⟩
    ·have H := cf H a7
     refine iR 11 16 [(28, undef), (29, undef), (30, undef), (31, undef), (32, (.bool false)), (33, (.bool false)), (34, undef), (35, undef), (36, undef), (37, (.bool false)), (2, (.bool false))] ?_
     refine iF ?_
     exact ⟨false, ⟨K, trivial⟩, SP.sel q [] rfl rfl, H⟩
   ·rintro ρ d5 ⟨s, hk, c9, H⟩
    unfold Xs at H
    first | refine At.known [(2, (.bool s))] hk ?_ | rw [← Q9 (l := [(2, (.bool s))]) hk]
    refine At.ret K ?_
    refine ⟨(.bool s), K, ?_⟩
    obtain rfl := Qf H
    exact ⟨rfl, SP.sel c9 [] rfl rfl⟩
 ·exact ⟨0, ⟨K, K, K, K, trivial⟩, SP.sel b8 [0, 1] rfl rfl, H⟩
end Go.Proofs.YtmgfanhcdfobhaaGreatDoor
namespace Go.Proofs.YtmgfanhcdfobhaaGreatDoor
open Go.RowKit
def V8 (f : Int → Int → Option (Bool)) (g : Int → Int → Option (Bool)) (h : Int) (b : Qd) (c : Int) (a : Int) (i : Bool) : Option (Bool) :=
  (cond i ((idx b.2.2.2.2 a).bind fun d => ((idx b.2.2.2.2 a).bind fun e => (g (IntKind.wrap .i64 ((IntKind.wrap .i64 (c + (if 3000 < ((List.length d.1 : Nat) : Int) then 3000 else ((List.length d.1 : Nat) : Int)))) + (if 3000 < ((List.length e.2.1 : Nat) : Int) then 3000 else ((List.length e.2.1 : Nat) : Int)))) (IntKind.wrap .i64 (a + 1))))) (f c (IntKind.wrap .i64 (h + 1))))
def Vv (d : Int → Int → Option (Bool)) (e : Int → Int → Option (Bool)) (f : Int) (a : Qd) (b : Int) (c : Int) : Option (Bool) :=
  (cond (decide (c < ((List.length a.2.2.2.2 : Nat) : Int))) (V8 d e f a b c (decide (b < 3000))) (V8 d e f a b c false))
def Vi (a : Int → Int → Option (Bool)) (b : Int) (c : Qd) : Nat → Int → Int → Option (Bool)
  | 0, _, _ => none
  | f + 1, d, e => Vv a (Vi a b c f) b c d e
def V9 (d : Int → Int → Option (Bool)) (e : (List Qd)) (b : Int) (c : Int) (f : Bool) : Option (Bool) :=
  (cond f ((idx e c).bind fun a => (Vi d c a Zw (IntKind.wrap .i64 ((IntKind.wrap .i64 ((IntKind.wrap .i64 (b + (if 3000 < ((List.length a.1 : Nat) : Int) then 3000 else ((List.length a.1 : Nat) : Int)))) + ((List.length a.2.2.2.1 : Nat) : Int))) + ((List.length a.2.2.2.2 : Nat) : Int))) 0)) (some ((decide (b ≥ 3000)))))
def Vz (d : Int → Int → Option (Bool)) (a : (List Qd)) (b : Int) (c : Int) : Option (Bool) :=
  (cond (decide (c < ((List.length a : Nat) : Int))) (V9 d a b c (decide (b < 3000))) (V9 d a b c false))
def Qv (a : (List Qd)) : Nat → Int → Int → Option (Bool)
  | 0, _, _ => none
  | f + 1, b, c => Vz  (Qv a f) a b c
def Yo (b : Int) (c : Int) (d : Int) (e : Int) (a : (List Qd)) : Option (Bool) :=
  (Qv a Zw ((List.length a : Nat) : Int) 0)
set_option maxRecDepth 100000 in
set_option maxHeartbeats 4000000 in
theorem Np (A6 : Option Addr) (c7 : Nat) (a2 : Int) (a3 : Int) (a4 : Int) (a5 : Int) (d9 : (List Q8)) (w0 : World) (a6 : (dDS J9 Bj).ok w0 (A6, c7, d9)) (r : (Bool)) (H : Yo a2 a3 a4 a5 (List.map stT d9) = some r) :
  Calls Tryz.prog 16 #[(.agg #[(.int .i64 a2), (.int .i64 a3), (.int .i64 a4), (.int .i64 a5), (.slice A6 (List.length (List.map stT d9)) c7)])] w0 (fun e w' => e = .returned (.bool r) ∧ SP [] w0 w' []) := by
 unfold Yo at H
 refine Qt (n := 72) Tryz.func16 K K K ?_
 have d3 := Q1 [] w0
 refine aQ ?_
 refine aR ?_
 refine iS 1 ?_
 refine Vo (t := 24) (x := (.tmp 0)) (v := (.agg #[(.int .i64 a2), (.int .i64 a3), (.int .i64 a4), (.int .i64 a5), (.slice A6 (List.length (List.map stT d9)) c7)])) (d := (some 1)) (k := 0) K rfl K d3 ?_
 intro u g6 b9
 refine iR 1 2 [(2, (.bool false))] ?_
 refine iF ?_
 refine aQ ?_
 refine aR ?_
 refine iR 1 1 [(7, (pt u 4))] ?_
 refine iS 2 ?_
 refine sL 22 7 u 4 0 (.slice A6 (List.length (List.map stT d9)) c7) 8 b9 rfl ?_
 refine iR 2 4 [(9, (.int .i64 ((List.length (List.map stT d9) : Nat) : Int))), (3, (.int .i64 ((List.length (List.map stT d9) : Nat) : Int)))] ?_
 refine iF ?_
 refine aQ ?_
 refine aQ ?_
 refine aR ?_
 refine iR 1 1 [(4, (.int .i64 0))] ?_
 refine iF ?_
 refine X8 K (id := 0) K ?_
 refine Ne K (fun a1 ρ w => ∃ (q : Int) (h : Int), Zg ρ [(1, (pt u 0)), (3, (.int .i64 q)), (4, (.int .i64 h))] ∧ SP [] w0 w [Qo u 24 #[(.int .i64 a2), (.int .i64 a3), (.int .i64 a4), (.int .i64 a5), (.slice A6 (List.length (List.map stT d9)) c7)]] ∧ Qv (List.map stT d9) a1 q h = some r) (by rintro ρ w ⟨q, h, hk, hs, H⟩; cases H) ?_ Zw ?_
 ·rintro a1 ρ g7 ⟨q, h, hk, b3, H⟩
  refine At.known [(1, (pt u 0)), (3, (.int .i64 q)), (4, (.int .i64 h))] hk ?_
  replace H := (show Vz (Qv (List.map stT d9) a1) (List.map stT d9) q h = some r from H)
  unfold Vz at H
  refine aQ ?_
  refine aQ ?_
  refine At.join (fun ρ w => ∃ (a7 : Bool), Zg ρ [(1, (pt u 0)), (3, (.int .i64 q)), (4, (.int .i64 h)), (18, (.bool a7))] ∧ SP [] w0 w [Qo u 24 #[(.int .i64 a2), (.int .i64 a3), (.int .i64 a4), (.int .i64 a5), (.slice A6 (List.length (List.map stT d9)) c7)]] ∧ V9 (Qv (List.map stT d9) a1) (List.map stT d9) q h a7 = some r) ?_ ?_
  ·refine aR ?_
   refine iR 2 2 [(10, (.int .i64 h)), (11, (pt u 4))] ?_
   refine iS 3 ?_
   refine sL 22 11 u 4 0 (.slice A6 (List.length (List.map stT d9)) c7) 12 b3 rfl ?_
   refine iR 3 6 [(13, (.int .i64 ((List.length (List.map stT d9) : Nat) : Int))), (14, (.bool (decide (h < ((List.length (List.map stT d9) : Nat) : Int))))), (15, (.bool (decide (h < ((List.length (List.map stT d9) : Nat) : Int)))))] ?_
   refine In.guard (t := 15) (b := (decide (h < ((List.length (List.map stT d9) : Nat) : Int)))) K (fun b4 => ?_) (fun b4 => ?_)
   ·have H := ct H b4
    refine iR 3 9 [(16, (.int .i64 q)), (17, (.bool (decide (q < 3000)))), (18, (.bool (decide (q < 3000))))] ?_
    refine iF ?_
    exact ⟨(decide (q < 3000)), ⟨K, K, K, K, trivial⟩, SP.sel b3 [0] rfl rfl, H⟩
   ·have H := cf H b4
    refine iR 3 9 [(16, undef), (17, undef), (18, (.bool false))] ?_
    refine iF ?_
    exact ⟨false, ⟨K, K, K, K, trivial⟩, SP.sel b3 [0] rfl rfl, H⟩
  ·rintro ρ g8 ⟨a7, hk, a9, H⟩
   unfold V9 at H
   first | refine At.known [(1, (pt u 0)), (3, (.int .i64 q)), (4, (.int .i64 h)), (18, (.bool a7))] hk ?_ | rw [← Q9 (l := [(1, (pt u 0)), (3, (.int .i64 q)), (4, (.int .i64 h)), (18, (.bool a7))]) hk]
   refine Zu K (o := (.tmp 18)) K (b := a7) K (fun b5 => ?_) (fun b5 => ?_)
   ·have H := ct H b5
    refine At.skip K ?_
    refine aQ ?_
    refine X8 K (id := 1) K ?_
    refine aQ ?_
    refine aR ?_
    refine iR 1 1 [(21, (pt u 4))] ?_
    refine iS 2 ?_
    refine sL 22 21 u 4 0 (.slice A6 (List.length (List.map stT d9)) c7) 22 a9 rfl ?_
    refine iR 1 3 [(23, (.int .i64 h))] ?_
    obtain ⟨a, c0, c1, b0, H⟩ := Gw H
    refine iS 4 ?_
    refine U1 stT (e := J9) (l := d9) (A := A6) (c := c7) (T := 22) (E := 44) (x := (.tmp 22)) (ix := (.tmp 23)) (ki := .i64) (iz := h) (d := (some 24)) (k := 3) K rfl K K K K (RdT.sp (Uz a6) a9) c0 c1 ?_
    intro d4 d5 d6 g9 hc480
    refine iS 5 ?_
    refine Qj.cells (t := 44) (x := (.tmp 24)) (b := d4) (off := (d5 + Int.toNat h * J9.sz)) (xs := [(.string ⟨List.toArray (stT a).1⟩), (.int .i64 (stT a).2.1), (.int .i64 (stT a).2.2.1), (.slice a.2.2.2.1.1 (List.length (stT a).2.2.2.1) a.2.2.2.1.2.1), (.slice a.2.2.2.2.1 (List.length (stT a).2.2.2.2) a.2.2.2.2.2.1)]) (d := (some 25)) (k := 4) K rfl K K K (Xc (e := J9) (Qp (RdT.sp (Uz a6) a9) d6 c0 c1) b0 rfl) ?_
    refine iS 6 ?_
    refine Qj.alloc (t := 44) (z := (.agg #[(.string ⟨List.toArray ([] : List UInt8)⟩), (.int .i64 0), (.int .i64 0), (.slice none (List.length ([] : List (Int × Int))) 0), (.slice none (List.length ([] : List ((List UInt8) × (List UInt8) × Int))) 0)])) (d := (some 5)) (k := 5) K rfl K a9 ?_
    intro m h1 d7
    refine iS 7 ?_
    refine Qj.store (t := 44) (x := (.tmp 5)) (y := (.tmp 25)) (g := m) (off := 0) (i := 1) (v := (.agg #[(.string ⟨List.toArray (stT a).1⟩), (.int .i64 (stT a).2.1), (.int .i64 (stT a).2.2.1), (.slice a.2.2.2.1.1 (List.length (stT a).2.2.2.1) a.2.2.2.1.2.1), (.slice a.2.2.2.2.1 (List.length (stT a).2.2.2.2) a.2.2.2.2.2.1)])) (cs' := #[(.string ⟨List.toArray (stT a).1⟩), (.int .i64 (stT a).2.1), (.int .i64 (stT a).2.2.1), (.slice a.2.2.2.1.1 (List.length (stT a).2.2.2.1) a.2.2.2.1.2.1), (.slice a.2.2.2.2.1 (List.length (stT a).2.2.2.2) a.2.2.2.2.2.1)]) (d := none) (k := 6) K rfl K K d7 rfl K ?_
    intro h2 b1
    refine iF ?_
    refine aQ ?_
    refine aR ?_
    refine iR 2 2 [(26, (.int .i64 q)), (27, (pt m 0))] ?_
    refine iS 3 ?_
    refine sL 9 27 m 0 1 (.string ⟨List.toArray (stT a).1⟩) 28 b1 rfl ?_
    refine iR 4 7 [(29, (.int .i64 ((List.length (stT a).1 : Nat) : Int))), (30, (.int .i64 (if 3000 < ((List.length (stT a).1 : Nat) : Int) then 3000 else ((List.length (stT a).1 : Nat) : Int)))), (31, (.int .i64 (IntKind.wrap .i64 (q + (if 3000 < ((List.length (stT a).1 : Nat) : Int) then 3000 else ((List.length (stT a).1 : Nat) : Int)))))), (32, (pt m 3))] ?_
    refine iS 8 ?_
    refine sL 41 32 m 3 1 (.slice a.2.2.2.1.1 (List.length (stT a).2.2.2.1) a.2.2.2.1.2.1) 33 b1 rfl ?_
    refine iR 3 11 [(34, (.int .i64 ((List.length (stT a).2.2.2.1 : Nat) : Int))), (35, (.int .i64 (IntKind.wrap .i64 ((IntKind.wrap .i64 (q + (if 3000 < ((List.length (stT a).1 : Nat) : Int) then 3000 else ((List.length (stT a).1 : Nat) : Int)))) + ((List.length (stT a).2.2.2.1 : Nat) : Int))))), (36, (pt m 4))] ?_
    refine iS 12 ?_
    refine sL 42 36 m 4 1 (.slice a.2.2.2.2.1 (List.length (stT a).2.2.2.2) a.2.2.2.2.2.1) 37 b1 rfl ?_
    refine iR 3 15 [(38, (.int .i64 ((List.length (stT a).2.2.2.2 : Nat) : Int))), (39, (.int .i64 (IntKind.wrap .i64 ((IntKind.wrap .i64 ((IntKind.wrap .i64 (q + (if 3000 < ((List.length (stT a).1 : Nat) : Int) then 3000 else ((List.length (stT a).1 : Nat) : Int)))) + ((List.length (stT a).2.2.2.1 : Nat) : Int))) + ((List.length (stT a).2.2.2.2 : Nat) : Int))))), (3, (.int .i64 (IntKind.wrap .i64 ((IntKind.wrap .i64 ((IntKind.wrap .i64 (q + (if 3000 < ((List.length (stT a).1 : Nat) : Int) then 3000 else ((List.length (stT a).1 : Nat) : Int)))) + ((List.length (stT a).2.2.2.1 : Nat) : Int))) + ((List.length (stT a).2.2.2.2 : Nat) : Int)))))] ?_
    refine iF ?_
    refine aQ ?_
    refine aR ?_
    refine iR 1 1 [(6, (.int .i64 0))] ?_
    refine iF ?_
    refine X8 K (id := 2) K ?_
    refine Ne K (fun b2 ρ w => ∃ (p : Int) (f : Int), Zg ρ [(1, (pt u 0)), (3, (.int .i64 p)), (4, (.int .i64 h)), (5, (pt m 0)), (6, (.int .i64 f))] ∧ SP [] w0 w [Qo u 24 #[(.int .i64 a2), (.int .i64 a3), (.int .i64 a4), (.int .i64 a5), (.slice A6 (List.length (List.map stT d9)) c7)], Qo m 44 #[(.string ⟨List.toArray (stT a).1⟩), (.int .i64 (stT a).2.1), (.int .i64 (stT a).2.2.1), (.slice a.2.2.2.1.1 (List.length (stT a).2.2.2.1) a.2.2.2.1.2.1), (.slice a.2.2.2.2.1 (List.length (stT a).2.2.2.2) a.2.2.2.2.2.1)]] ∧ Vi (Qv (List.map stT d9) a1) h (stT a) b2 p f = some r) (by rintro ρ w ⟨p, f, hk, hs, H⟩; cases H) ?_ Zw ?_
    ·rintro b2 ρ h3 ⟨p, f, hk, b6, H⟩
     refine At.known [(1, (pt u 0)), (3, (.int .i64 p)), (4, (.int .i64 h)), (5, (pt m 0)), (6, (.int .i64 f))] hk ?_
     replace H := (show Vv (Qv (List.map stT d9) a1) (Vi (Qv (List.map stT d9) a1) h (stT a) b2) h (stT a) p f = some r from H)
     unfold Vv at H
     refine aQ ?_
     refine aQ ?_
     refine At.join (fun ρ w => ∃ (a8 : Bool), Zg ρ [(1, (pt u 0)), (3, (.int .i64 p)), (4, (.int .i64 h)), (5, (pt m 0)), (6, (.int .i64 f)), (48, (.bool a8))] ∧ SP [] w0 w [Qo u 24 #[(.int .i64 a2), (.int .i64 a3), (.int .i64 a4), (.int .i64 a5), (.slice A6 (List.length (List.map stT d9)) c7)], Qo m 44 #[(.string ⟨List.toArray (stT a).1⟩), (.int .i64 (stT a).2.1), (.int .i64 (stT a).2.2.1), (.slice a.2.2.2.1.1 (List.length (stT a).2.2.2.1) a.2.2.2.1.2.1), (.slice a.2.2.2.2.1 (List.length (stT a).2.2.2.2) a.2.2.2.2.2.1)]] ∧ V8 (Qv (List.map stT d9) a1) (Vi (Qv (List.map stT d9) a1) h (stT a) b2) h (stT a) p f a8 = some r) ?_ ?_
     ·refine aR ?_
      refine iR 2 2 [(40, (.int .i64 f)), (41, (pt m 4))] ?_
      refine iS 3 ?_
      refine sL 42 41 m 4 1 (.slice a.2.2.2.2.1 (List.length (stT a).2.2.2.2) a.2.2.2.2.2.1) 42 b6 rfl ?_
      refine iR 3 6 [(43, (.int .i64 ((List.length (stT a).2.2.2.2 : Nat) : Int))), (44, (.bool (decide (f < ((List.length (stT a).2.2.2.2 : Nat) : Int))))), (45, (.bool (decide (f < ((List.length (stT a).2.2.2.2 : Nat) : Int)))))] ?_
      refine In.guard (t := 45) (b := (decide (f < ((List.length (stT a).2.2.2.2 : Nat) : Int)))) K (fun b7 => ?_) (fun b7 => ?_)
      ·have H := ct H b7
       refine iR 3 9 [(46, (.int .i64 p)), (47, (.bool (decide (p < 3000)))), (48, (.bool (decide (p < 3000))))] ?_
       refine iF ?_
       exact ⟨(decide (p < 3000)), ⟨K, K, K, K, K, K, trivial⟩, SP.sel b6 [0, 1] rfl rfl, H⟩
      ·have H := cf H b7
       refine iR 3 9 [(46, undef), (47, undef), (48, (.bool false))] ?_
       refine iF ?_
       exact ⟨false, ⟨K, K, K, K, K, K, trivial⟩, SP.sel b6 [0, 1] rfl rfl, H⟩
     ·rintro ρ h4 ⟨a8, hk, c2, H⟩
      unfold V8 at H
      first | refine At.known [(1, (pt u 0)), (3, (.int .i64 p)), (4, (.int .i64 h)), (5, (pt m 0)), (6, (.int .i64 f)), (48, (.bool a8))] hk ?_ | rw [← Q9 (l := [(1, (pt u 0)), (3, (.int .i64 p)), (4, (.int .i64 h)), (5, (pt m 0)), (6, (.int .i64 f)), (48, (.bool a8))]) hk]
      refine Zu K (o := (.tmp 48)) K (b := a8) K (fun b8 => ?_) (fun b8 => ?_)
      ·have H := ct H b8
       refine At.skip K ?_
       refine aQ ?_
       refine X8 K (id := 3) K ?_
       obtain ⟨s, c3, c4, d8, H⟩ := Qy H
       obtain ⟨a0, c5, c6, e0, H⟩ := Qy H
       refine aG [GEq (.int .i64 p), GEq (pt m 4), GEq (.slice a.2.2.2.2.1 (List.length (stT a).2.2.2.2) a.2.2.2.2.2.1), GEq (.int .i64 f), Xt a.2.2.2.2.1 (Qu Zc (Qu Zc (Qh .i64))).sz f, Xt a.2.2.2.2.1 (Qu Zc (Qu Zc (Qh .i64))).sz f, GEq (.string ⟨List.toArray s.1⟩), GEq (.int .i64 ((List.length s.1 : Nat) : Int)), GEq (.int .i64 (if 3000 < ((List.length s.1 : Nat) : Int) then 3000 else ((List.length s.1 : Nat) : Int))), GEq (.int .i64 (IntKind.wrap .i64 (p + (if 3000 < ((List.length s.1 : Nat) : Int) then 3000 else ((List.length s.1 : Nat) : Int))))), GEq (pt m 4), GEq (.slice a.2.2.2.2.1 (List.length (stT a).2.2.2.2) a.2.2.2.2.2.1), GEq (.int .i64 f), Xt a.2.2.2.2.1 (Qu Zc (Qu Zc (Qh .i64))).sz f, GElem a.2.2.2.2.1 (Qu Zc (Qu Zc (Qh .i64))).sz f 1, GEq (.string ⟨List.toArray a0.2.1⟩), GEq (.int .i64 ((List.length a0.2.1 : Nat) : Int)), GEq (.int .i64 (if 3000 < ((List.length a0.2.1 : Nat) : Int) then 3000 else ((List.length a0.2.1 : Nat) : Int))), GEq (.int .i64 (IntKind.wrap .i64 ((IntKind.wrap .i64 (p + (if 3000 < ((List.length s.1 : Nat) : Int) then 3000 else ((List.length s.1 : Nat) : Int)))) + (if 3000 < ((List.length a0.2.1 : Nat) : Int) then 3000 else ((List.length a0.2.1 : Nat) : Int))))), GEq (.int .i64 (IntKind.wrap .i64 ((IntKind.wrap .i64 (p + (if 3000 < ((List.length s.1 : Nat) : Int) then 3000 else ((List.length s.1 : Nat) : Int)))) + (if 3000 < ((List.length a0.2.1 : Nat) : Int) then 3000 else ((List.length a0.2.1 : Nat) : Int)))))] [] (tG [] w0 [Qo u 24 #[(.int .i64 a2), (.int .i64 a3), (.int .i64 a4), (.int .i64 a5), (.slice A6 (List.length (List.map stT d9)) c7)], Qo m 44 #[(.string ⟨List.toArray (stT a).1⟩), (.int .i64 (stT a).2.1), (.int .i64 (stT a).2.2.1), (.slice a.2.2.2.1.1 (List.length (stT a).2.2.2.1) a.2.2.2.1.2.1), (.slice a.2.2.2.2.1 (List.length (stT a).2.2.2.2) a.2.2.2.2.2.1)]] [([], [])]) 20 0 ⟨trivial, SP.drew c2⟩ ?_ ?_
       iterate 20 refine And.intro ?_ ?_
       exact trivial
       ·exact oV (hC (hS 3 (.int .i64 p)) (h0)) (.int .i64 p)
       ·exact oV (hC (hS 5 (pt m 0)) (h0)) (pt m 4)
       ·refine oL 0 ?_
        ·rintro ρ' w' hs hah ⟨h5, e1⟩
         refine kM (kc (kA hah 1 52) k0) fun hkn => ?_
         refine sL 42 52 m 4 1 (.slice a.2.2.2.2.1 (List.length (stT a).2.2.2.2) a.2.2.2.2.2.1) 53 e1 rfl ?_
         exact eK hkn
       ·exact oV (hC (hS 6 (.int .i64 f)) (h0)) (.int .i64 f)
       ·refine oL 0 ?_
        ·rintro ρ' w' hs hah ⟨h6, e2⟩
         refine kM (kc (kA hah 2 53) (kc (kA hah 3 54) k0)) fun hkn => ?_
         refine Z2 (e := (Qu Zc (Qu Zc (Qh .i64)))) (l := (stT a).2.2.2.2) (A := a.2.2.2.2.1) (c := a.2.2.2.2.2.1) (T := 42) (E := 48) (x := (.tmp 53)) (ix := (.tmp 54)) (ki := .i64) (iz := f) (d := (some 55)) (k := 4) K rfl K K K K (RdT.sp (Uz (dp2 (dp2 (dp2 (dp2 (Dx a6 b0)))))) e2) c3 c4 ?_
         intro e3 e4 e5 h7 hc655
         exact ⟨rfl, _, Qb hkn, ⟨e3, e4, e5, rfl⟩⟩
       ·refine oL 0 ?_
        ·rintro ρ' w' hs hah ⟨h8, h9⟩
         obtain ⟨c8, c9, e6, e7⟩ := hah 4 55 K
         refine kM (kc e7 k0) fun hkn => ?_
         refine Qj.run (k := 5) (v := (.pointer (some ⟨c8, (c9 + Int.toNat f * (Qu Zc (Qu Zc (Qh .i64))).sz), none⟩))) K ?_
         exact ⟨rfl, _, Qb hkn, ⟨c8, c9, e6, rfl⟩⟩
       ·refine oL 0 ?_
        ·rintro ρ' w' hs hah ⟨i0, e8⟩
         obtain ⟨e9, f0, f1, f2⟩ := hah 5 56 K
         refine kM (kc f2 k0) fun hkn => ?_
         refine sC 9 56 e9 (f0 + Int.toNat f * (Qu Zc (Qu Zc (Qh .i64))).sz) (.string ⟨List.toArray s.1⟩) 57 (Qw (e := (Qu Zc (Qu Zc (Qh .i64)))) (Qp (RdT.sp (Uz (dp2 (dp2 (dp2 (dp2 (Dx a6 b0)))))) e8) f1 c3 c4) d8 (j := 0) rfl) ?_
         exact eK hkn
       ·exact oV (hC (hA 6 57) (h0)) (.int .i64 ((List.length s.1 : Nat) : Int))
       ·exact oV (hC (hA 7 58) (h0)) (.int .i64 (if 3000 < ((List.length s.1 : Nat) : Int) then 3000 else ((List.length s.1 : Nat) : Int)))
       ·exact oV (hC (hA 0 51) (hC (hA 8 59) (h0))) (.int .i64 (IntKind.wrap .i64 (p + (if 3000 < ((List.length s.1 : Nat) : Int) then 3000 else ((List.length s.1 : Nat) : Int)))))
       ·exact oV (hC (hS 5 (pt m 0)) (h0)) (pt m 4)
       ·refine oL 0 ?_
        ·rintro ρ' w' hs hah ⟨i1, f3⟩
         refine kM (kc (kA hah 10 61) k0) fun hkn => ?_
         refine sL 42 61 m 4 1 (.slice a.2.2.2.2.1 (List.length (stT a).2.2.2.2) a.2.2.2.2.2.1) 62 f3 rfl ?_
         exact eK hkn
       ·exact oV (hC (hS 6 (.int .i64 f)) (h0)) (.int .i64 f)
       ·refine oL 0 ?_
        ·rintro ρ' w' hs hah ⟨i2, f4⟩
         refine kM (kc (kA hah 11 62) (kc (kA hah 12 63) k0)) fun hkn => ?_
         refine Z2 (e := (Qu Zc (Qu Zc (Qh .i64)))) (l := (stT a).2.2.2.2) (A := a.2.2.2.2.1) (c := a.2.2.2.2.2.1) (T := 42) (E := 48) (x := (.tmp 62)) (ix := (.tmp 63)) (ki := .i64) (iz := f) (d := (some 64)) (k := 13) K rfl K K K K (RdT.sp (Uz (dp2 (dp2 (dp2 (dp2 (Dx a6 b0)))))) f4) c5 c6 ?_
         intro f5 f6 f7 i3 hc674
         exact ⟨rfl, _, Qb hkn, ⟨f5, f6, f7, rfl⟩⟩
       ·refine oL 0 ?_
        ·rintro ρ' w' hs hah ⟨i4, i5⟩
         obtain ⟨d0, d1, f8, f9⟩ := hah 13 64 K
         refine kM (kc f9 k0) fun hkn => ?_
         refine Qj.run (k := 14) (v := (.pointer (some ⟨d0, (d1 + Int.toNat f * (Qu Zc (Qu Zc (Qh .i64))).sz + 1), none⟩))) K ?_
         exact ⟨rfl, _, Qb hkn, ⟨d0, d1, f8, rfl⟩⟩
       ·refine oL 0 ?_
        ·rintro ρ' w' hs hah ⟨i6, g0⟩
         obtain ⟨g1, g2, g3, g4⟩ := hah 14 65 K
         refine kM (kc g4 k0) fun hkn => ?_
         refine sC 9 65 g1 (g2 + Int.toNat f * (Qu Zc (Qu Zc (Qh .i64))).sz + 1) (.string ⟨List.toArray a0.2.1⟩) 66 (Qw (e := (Qu Zc (Qu Zc (Qh .i64)))) (Qp (RdT.sp (Uz (dp2 (dp2 (dp2 (dp2 (Dx a6 b0)))))) g0) g3 c5 c6) e0 (j := 1) rfl) ?_
         exact eK hkn
       ·exact oV (hC (hA 15 66) (h0)) (.int .i64 ((List.length a0.2.1 : Nat) : Int))
       ·exact oV (hC (hA 16 67) (h0)) (.int .i64 (if 3000 < ((List.length a0.2.1 : Nat) : Int) then 3000 else ((List.length a0.2.1 : Nat) : Int)))
       ·exact oV (hC (hA 9 60) (hC (hA 17 68) (h0))) (.int .i64 (IntKind.wrap .i64 ((IntKind.wrap .i64 (p + (if 3000 < ((List.length s.1 : Nat) : Int) then 3000 else ((List.length s.1 : Nat) : Int)))) + (if 3000 < ((List.length a0.2.1 : Nat) : Int) then 3000 else ((List.length a0.2.1 : Nat) : Int)))))
       ·exact oV (hC (hA 18 69) (h0)) (.int .i64 (IntKind.wrap .i64 ((IntKind.wrap .i64 (p + (if 3000 < ((List.length s.1 : Nat) : Int) then 3000 else ((List.length s.1 : Nat) : Int)))) + (if 3000 < ((List.length a0.2.1 : Nat) : Int) then 3000 else ((List.length a0.2.1 : Nat) : Int)))))
       ·rintro ρ' w' hs hf ⟨i7, d2⟩
        refine Vj [(1, (pt u 0)), (3, (.int .i64 (IntKind.wrap .i64 ((IntKind.wrap .i64 (p + (if 3000 < ((List.length s.1 : Nat) : Int) then 3000 else ((List.length s.1 : Nat) : Int)))) + (if 3000 < ((List.length a0.2.1 : Nat) : Int) then 3000 else ((List.length a0.2.1 : Nat) : Int)))))), (4, (.int .i64 h)), (5, (pt m 0)), (6, (.int .i64 f))] ⟨(hs 1 K).trans K, hf 19 3 K, (hs 4 K).trans K, (hs 5 K).trans K, (hs 6 K).trans K, trivial⟩ ?_
        obtain ⟨i8, g5⟩ : ∃ x, w' = x := ⟨_, rfl⟩
        rw [g5] at d2 ⊢
        refine aR ?_
        refine iR 3 3 [(49, (.int .i64 f)), (50, (.int .i64 (IntKind.wrap .i64 (f + 1)))), (6, (.int .i64 (IntKind.wrap .i64 (f + 1))))] ?_
        refine iF ?_
        exact ⟨(IntKind.wrap .i64 ((IntKind.wrap .i64 (p + (if 3000 < ((List.length s.1 : Nat) : Int) then 3000 else ((List.length s.1 : Nat) : Int)))) + (if 3000 < ((List.length a0.2.1 : Nat) : Int) then 3000 else ((List.length a0.2.1 : Nat) : Int)))), (IntKind.wrap .i64 (f + 1)), ⟨K, K, K, K, K, trivial⟩, SP.sel d2 [0, 1] rfl rfl, H⟩
      ·have H := cf H b8
       refine At.exit K (id := 2) K ?_
       refine aR ?_
       refine iR 3 3 [(19, (.int .i64 h)), (20, (.int .i64 (IntKind.wrap .i64 (h + 1)))), (4, (.int .i64 (IntKind.wrap .i64 (h + 1))))] ?_
       refine iF ?_
       exact ⟨p, (IntKind.wrap .i64 (h + 1)), ⟨K, K, K, trivial⟩, SP.sel c2 [0] rfl rfl, H⟩
    ·exact ⟨(IntKind.wrap .i64 ((IntKind.wrap .i64 ((IntKind.wrap .i64 (q + (if 3000 < ((List.length (stT a).1 : Nat) : Int) then 3000 else ((List.length (stT a).1 : Nat) : Int)))) + ((List.length (stT a).2.2.2.1 : Nat) : Int))) + ((List.length (stT a).2.2.2.2 : Nat) : Int))), 0, ⟨K, K, K, K, K, trivial⟩, SP.sel b1 [0, 1] rfl rfl, H⟩
   ·have H := cf H b5
    refine At.exit K (id := 0) K ?_
    refine aQ ?_
    refine aR ?_
    refine iR 3 3 [(70, (.int .i64 q)), (71, (.bool (decide (q ≥ 3000)))), (2, (.bool (decide (q ≥ 3000))))] ?_
    refine iF ?_
    refine At.ret K ?_
    refine ⟨(.bool (decide (q ≥ 3000))), K, ?_⟩
    obtain rfl := Qf H
    exact ⟨rfl, SP.sel a9 [] rfl rfl⟩
 ·exact ⟨((List.length (List.map stT d9) : Nat) : Int), 0, ⟨K, K, K, trivial⟩, SP.sel b9 [0] rfl rfl, H⟩
end Go.Proofs.YtmgfanhcdfobhaaGreatDoor
namespace Go.Proofs.YtmgfanhcdfobhaaGreatDoor
abbrev Str := List UInt8
abbrev Hr := Int × Int
abbrev D5 := Str × Str × Int
theorem lNameM (s : Str) (h : s.length ≤ 140737488355328) : X1 s = some (Bi s) := by
  by_cases h9 : s.length ≤ 9000
  · exact lName s h9
  · unfold X1 Zf Bi
    have hne : (s == ([] : List UInt8)) = false := by rw [beq_eq_false_iff_ne]; intro e; subst e; simp at h9
    rw [hne, show decide (((List.length s : Nat) : Int) ≤ 20) = false from decide_eq_false (by omega), show decide (s.length ≤ 20) = false from decide_eq_false (by omega)]
    simp
theorem Dy (l : List Hr) (P : Hr → Bool) (p : Int → Int → Option Bool) (hp : ∀ x ∈ l, p x.1 x.2 = some (P x)) (hl : l.length ≤ 140737488355328) :
    ∀ (d i f : Nat), d = l.length - i → i ≤ l.length → d < f → ∃ r, Qq l p f (i : Int) = some r ∧ decide (r ≥ 0) = (l.drop i).any P := by
  intro d
  induction d with
  | zero =>
    intro i f hd hi hf
    obtain ⟨f, rfl⟩ : ∃ g, f = g + 1 := ⟨f - 1, by omega⟩
    refine ⟨-1, ?_, ?_⟩
    · show Qx (Qq l p f) l p (i : Int) = _
      unfold Qx
      rw [show decide ((i : Int) < ((l.length : Nat) : Int)) = false from decide_eq_false (by omega), cond_false]
    · rw [List.drop_of_length_le (by omega)]
      rfl
  | succ d ih =>
    intro i f hd hi hf
    obtain ⟨f, rfl⟩ : ∃ g, f = g + 1 := ⟨f - 1, by omega⟩
    have hlt : i < l.length := by omega
    obtain ⟨r, h1, h2⟩ := ih (i + 1) f (by omega) (by omega) (by omega)
    rw [List.drop_eq_getElem_cons hlt, List.any_cons]
    have hstep : Qq l p (f + 1) (i : Int) = cond (P l[i]) (some (i : Int)) (Qq l p f ((i + 1 : Nat) : Int)) := by
      show Qx (Qq l p f) l p (i : Int) = _
      unfold Qx
      rw [show decide ((i : Int) < ((l.length : Nat) : Int)) = true from decide_eq_true (by omega), cond_true, Ji hlt, Option.bind_some, hp _ (List.getElem_mem hlt), Option.bind_some, show ((i : Int) + 1) = ((i + 1 : Nat) : Int) by omega, Xu (by omega)]
    rw [hstep]
    cases hP : P l[i] with
    | true => exact ⟨(i : Int), rfl, by rw [decide_eq_true (by omega), Bool.true_or]⟩
    | false => exact ⟨r, h1, by rw [h2, Bool.false_or]⟩
theorem Fk (l : List Hr) (P : Hr → Bool) (p : Int → Int → Option Bool) (hp : ∀ x ∈ l, p x.1 x.2 = some (P x)) (hl : l.length ≤ 140737488355328) : Vf l p = some (l.any P) := by
  obtain ⟨r, h1, h2⟩ := Dy l P p hp hl l.length 0 Zw (by omega) (by omega) (by unfold Zw; omega)
  unfold Vf Vx
  rw [show ((0 : Nat) : Int) = 0 from rfl] at h1
  rw [h1, Option.bind_some, h2, List.drop_zero]
theorem R6 (l : List D5) (P : D5 → Bool) (p : Str → Str → Int → Option Bool) (hp : ∀ x ∈ l, p x.1 x.2.1 x.2.2 = some (P x)) (hl : l.length ≤ 140737488355328) :
    ∀ (d i f : Nat), d = l.length - i → i ≤ l.length → d < f → ∃ r, Qi l p f (i : Int) = some r ∧ decide (r ≥ 0) = (l.drop i).any P := by
  intro d
  induction d with
  | zero =>
    intro i f hd hi hf
    obtain ⟨f, rfl⟩ : ∃ g, f = g + 1 := ⟨f - 1, by omega⟩
    refine ⟨-1, ?_, ?_⟩
    · show Qm (Qi l p f) l p (i : Int) = _
      unfold Qm
      rw [show decide ((i : Int) < ((l.length : Nat) : Int)) = false from decide_eq_false (by omega), cond_false]
    · rw [List.drop_of_length_le (by omega)]
      rfl
  | succ d ih =>
    intro i f hd hi hf
    obtain ⟨f, rfl⟩ : ∃ g, f = g + 1 := ⟨f - 1, by omega⟩
    have hlt : i < l.length := by omega
    obtain ⟨r, h1, h2⟩ := ih (i + 1) f (by omega) (by omega) (by omega)
    rw [List.drop_eq_getElem_cons hlt, List.any_cons]
    have hstep : Qi l p (f + 1) (i : Int) = cond (P l[i]) (some (i : Int)) (Qi l p f ((i + 1 : Nat) : Int)) := by
      show Qm (Qi l p f) l p (i : Int) = _
      unfold Qm
      rw [show decide ((i : Int) < ((l.length : Nat) : Int)) = true from decide_eq_true (by omega), cond_true, Ji hlt, Option.bind_some, hp _ (List.getElem_mem hlt), Option.bind_some, show ((i : Int) + 1) = ((i + 1 : Nat) : Int) by omega, Xu (by omega)]
    rw [hstep]
    cases hP : P l[i] with
    | true => exact ⟨(i : Int), rfl, by rw [decide_eq_true (by omega), Bool.true_or]⟩
    | false => exact ⟨r, h1, by rw [h2, Bool.false_or]⟩
theorem Ct (l : List D5) (P : D5 → Bool) (p : Str → Str → Int → Option Bool) (hp : ∀ x ∈ l, p x.1 x.2.1 x.2.2 = some (P x)) (hl : l.length ≤ 140737488355328) : Q5 l p = some (l.any P) := by
  obtain ⟨r, h1, h2⟩ := R6 l P p hp hl l.length 0 Zw (by omega) (by omega) (by unfold Zw; omega)
  unfold Q5 Q2
  rw [show ((0 : Nat) : Int) = 0 from rfl] at h1
  rw [h1, Option.bind_some, h2, List.drop_zero]
theorem Ro (l : List Qd) (P : Qd → Bool) (p : Str → Int → Int → List Hr → List D5 → Option Bool) (hp : ∀ x ∈ l, p x.1 x.2.1 x.2.2.1 x.2.2.2.1 x.2.2.2.2 = some (P x)) (hl : l.length ≤ 140737488355328) :
    ∀ (d i f : Nat), d = l.length - i → i ≤ l.length → d < f → ∃ r, Qg l p f (i : Int) = some r ∧ decide (r ≥ 0) = (l.drop i).any P := by
  intro d
  induction d with
  | zero =>
    intro i f hd hi hf
    obtain ⟨f, rfl⟩ : ∃ g, f = g + 1 := ⟨f - 1, by omega⟩
    refine ⟨-1, ?_, ?_⟩
    · show Qk (Qg l p f) l p (i : Int) = _
      unfold Qk
      rw [show decide ((i : Int) < ((l.length : Nat) : Int)) = false from decide_eq_false (by omega), cond_false]
    · rw [List.drop_of_length_le (by omega)]
      rfl
  | succ d ih =>
    intro i f hd hi hf
    obtain ⟨f, rfl⟩ : ∃ g, f = g + 1 := ⟨f - 1, by omega⟩
    have hlt : i < l.length := by omega
    obtain ⟨r, h1, h2⟩ := ih (i + 1) f (by omega) (by omega) (by omega)
    rw [List.drop_eq_getElem_cons hlt, List.any_cons]
    have hstep : Qg l p (f + 1) (i : Int) = cond (P l[i]) (some (i : Int)) (Qg l p f ((i + 1 : Nat) : Int)) := by
      show Qk (Qg l p f) l p (i : Int) = _
      unfold Qk
      rw [show decide ((i : Int) < ((l.length : Nat) : Int)) = true from decide_eq_true (by omega), cond_true, Ji hlt, Option.bind_some, hp _ (List.getElem_mem hlt), Option.bind_some, show ((i : Int) + 1) = ((i + 1 : Nat) : Int) by omega, Xu (by omega)]
    rw [hstep]
    cases hP : P l[i] with
    | true => exact ⟨(i : Int), rfl, by rw [decide_eq_true (by omega), Bool.true_or]⟩
    | false => exact ⟨r, h1, by rw [h2, Bool.false_or]⟩
theorem B1 (l : List Qd) (P : Qd → Bool) (p : Str → Int → Int → List Hr → List D5 → Option Bool) (hp : ∀ x ∈ l, p x.1 x.2.1 x.2.2.1 x.2.2.2.1 x.2.2.2.2 = some (P x)) (hl : l.length ≤ 140737488355328) : Q3 l p = some (l.any P) := by
  obtain ⟨r, h1, h2⟩ := Ro l P p hp hl l.length 0 Zw (by omega) (by omega) (by unfold Zw; omega)
  unfold Q3 Qz
  rw [show ((0 : Nat) : Int) = 0 from rfl] at h1
  rw [h1, Option.bind_some, h2, List.drop_zero]
def Fl : List Str → Bool
  | [] => true
  | [_] => true
  | a :: b :: r => Op.bytesLess a b && Fl (b :: r)
theorem Em (l : List Str) (i : Nat) (h : i + 1 < l.length) : Fl (l.drop i) = (Op.bytesLess (l[i]'(by omega)) (l[i + 1]'h) && Fl (l.drop (i + 1))) := by
  rw [List.drop_eq_getElem_cons (by omega : i < l.length), List.drop_eq_getElem_cons h]
  rfl
theorem Cf (l : List Str) (i : Nat) (h : l.length ≤ i + 1) : Fl (l.drop i) = true := by
  by_cases h2 : i < l.length
  · rw [List.drop_eq_getElem_cons h2, List.drop_of_length_le (by omega)]
    rfl
  · rw [List.drop_of_length_le (by omega)]
    rfl
theorem Dz (l : List D5) (p : Str → Str → Int → Option Str) (hp : ∀ x : D5, p x.1 x.2.1 x.2.2 = some x.1) (hl : l.length ≤ 140737488355328) :
    ∀ (d i f : Nat), d = l.length - i → 1 ≤ i → d < f → Vh l p f (i : Int) = some (Fl ((l.map (·.1)).drop (i - 1))) := by
  intro d
  induction d with
  | zero =>
    intro i f hd hi hf
    obtain ⟨f, rfl⟩ : ∃ g, f = g + 1 := ⟨f - 1, by omega⟩
    show Vg (Vh l p f) l p (i : Int) = _
    unfold Vg
    rw [show decide ((i : Int) < ((l.length : Nat) : Int)) = false from decide_eq_false (by omega), cond_false, Cf _ _ (by simp; omega)]
  | succ d ih =>
    intro i f hd hi hf
    obtain ⟨f, rfl⟩ : ∃ g, f = g + 1 := ⟨f - 1, by omega⟩
    have hlt : i < l.length := by omega
    have hlt' : i - 1 < l.length := by omega
    show Vg (Vh l p f) l p (i : Int) = _
    unfold Vg
    rw [show decide ((i : Int) < ((l.length : Nat) : Int)) = true from decide_eq_true (by omega), cond_true, show ((i : Int) - 1) = ((i - 1 : Nat) : Int) by omega, Xu (by omega), Ji hlt', Option.bind_some, hp, Option.bind_some, Ji hlt, Option.bind_some, hp, Option.bind_some,
      show ((i : Int) + 1) = ((i + 1 : Nat) : Int) by omega, Xu (by omega), ih (i + 1) f (by omega) (by omega) (by omega), Em _ (i - 1) (by simp; omega)]
    simp only [show i - 1 + 1 = i by omega, show i + 1 - 1 = i by omega, List.getElem_map]
    cases Op.bytesLess l[i - 1].1 l[i].1 with
    | true => rfl
    | false => rfl
theorem Fm (l : List D5) (p : Str → Str → Int → Option Str) (hp : ∀ x : D5, p x.1 x.2.1 x.2.2 = some x.1) (hl : l.length ≤ 140737488355328) : Ze l p = some (Fl (l.map (·.1))) := by
  have := Dz l p hp hl (l.length - 1) 1 Zw rfl (Nat.le_refl _) (by unfold Zw; omega)
  unfold Ze
  rw [show ((1 : Nat) : Int) = 1 from rfl] at this
  rw [this]
  rfl
theorem Dj (l : List Qd) (p : Str → Int → Int → List Hr → List D5 → Option Str) (hp : ∀ x : Qd, p x.1 x.2.1 x.2.2.1 x.2.2.2.1 x.2.2.2.2 = some x.1) (hl : l.length ≤ 140737488355328) :
    ∀ (d i f : Nat), d = l.length - i → 1 ≤ i → d < f → Vb l p f (i : Int) = some (Fl ((l.map (·.1)).drop (i - 1))) := by
  intro d
  induction d with
  | zero =>
    intro i f hd hi hf
    obtain ⟨f, rfl⟩ : ∃ g, f = g + 1 := ⟨f - 1, by omega⟩
    show Va (Vb l p f) l p (i : Int) = _
    unfold Va
    rw [show decide ((i : Int) < ((l.length : Nat) : Int)) = false from decide_eq_false (by omega), cond_false, Cf _ _ (by simp; omega)]
  | succ d ih =>
    intro i f hd hi hf
    obtain ⟨f, rfl⟩ : ∃ g, f = g + 1 := ⟨f - 1, by omega⟩
    have hlt : i < l.length := by omega
    have hlt' : i - 1 < l.length := by omega
    show Va (Vb l p f) l p (i : Int) = _
    unfold Va
    rw [show decide ((i : Int) < ((l.length : Nat) : Int)) = true from decide_eq_true (by omega), cond_true, show ((i : Int) - 1) = ((i - 1 : Nat) : Int) by omega, Xu (by omega), Ji hlt', Option.bind_some, hp, Option.bind_some, Ji hlt, Option.bind_some, hp, Option.bind_some,
      show ((i : Int) + 1) = ((i + 1 : Nat) : Int) by omega, Xu (by omega), ih (i + 1) f (by omega) (by omega) (by omega), Em _ (i - 1) (by simp; omega)]
    simp only [show i - 1 + 1 = i by omega, show i + 1 - 1 = i by omega, List.getElem_map]
    cases Op.bytesLess l[i - 1].1 l[i].1 with
    | true => rfl
    | false => rfl
theorem En (l : List Qd) (p : Str → Int → Int → List Hr → List D5 → Option Str) (hp : ∀ x : Qd, p x.1 x.2.1 x.2.2.1 x.2.2.2.1 x.2.2.2.2 = some x.1) (hl : l.length ≤ 140737488355328) : Za l p = some (Fl (l.map (·.1))) := by
  have := Dj l p hp hl (l.length - 1) 1 Zw rfl (Nat.le_refl _) (by unfold Zw; omega)
  unfold Za
  rw [show ((1 : Nat) : Int) = 1 from rfl] at this
  rw [this]
  rfl
def netOk (n : Hr) : Bool := R5 n.1.toNat n.2
def Hs (x : D5) : Bool := Bi x.1 && ((decide (1 ≤ x.2.1.length) && decide (x.2.1.length ≤ 32)) && (decide (0 ≤ x.2.2) && decide (x.2.2 ≤ 1099511627776)))
def qOk (n : Int) : Bool := decide (0 ≤ n) && decide (n ≤ 8)
def Eo (t : Qd) : Bool := (t.2.2.2.1.all netOk && t.2.2.2.2.all Hs) && ((Bi t.1 && (decide (t.2.2.2.1.length ≤ 4) && decide (t.2.2.2.2.length ≤ 4))) && ((qOk t.2.1 && qOk t.2.2.1) && Fl (t.2.2.2.2.map (·.1))))
def Ra (n : Int) : Bool := decide (1 ≤ n) && decide (n ≤ 1073741824)
def Ep (w g i e : Int) (l : List Qd) : Bool := (Ra w && (Ra g && (Ra i && Ra e))) && (decide (l.length ≤ 8) && (l.all Eo && Fl (l.map (·.1))))
def TenQ (t : Qd) : Prop := t.1.length ≤ 140737488355328 ∧ t.2.2.2.1.length ≤ 140737488355328 ∧ t.2.2.2.2.length ≤ 140737488355328 ∧ (∀ n ∈ t.2.2.2.1, 0 ≤ n.1 ∧ n.1 < 4294967296) ∧ ∀ x ∈ t.2.2.2.2, x.1.length ≤ 140737488355328 ∧ x.2.1.length ≤ 140737488355328
theorem Bk (n a b : Int) : Zn n a b = some (decide (a ≤ n) && decide (n ≤ b)) := by
  unfold Zn X2
  by_cases h : n ≥ a
  · rw [show decide (n ≥ a) = true from decide_eq_true h]
    rfl
  · rw [show decide (n ≥ a) = false from decide_eq_false h]
    rfl
theorem slash_nil (a : Nat) (b : Int) : (F9 a b == ([] : List UInt8)) = !(R5 a b) := by
  unfold F9
  cases R5 a b with
  | true =>
    simp only [Bool.not_true, beq_eq_false_iff_ne]
    intro h
    have := congrArg List.length h
    simp at this
  | false => rfl
theorem lNetBad {n : Hr} (h : 0 ≤ n.1 ∧ n.1 < 4294967296) : Xq n.1 n.2 = some (!(netOk n)) := by
  unfold Xq netOk
  obtain ⟨a, ha⟩ : ∃ a : Nat, n.1 = (a : Int) := ⟨n.1.toNat, by omega⟩
  rw [ha, lSlash a (by omega), Option.bind_some, slash_nil, Int.toNat_natCast]
theorem lToken {x : D5} (h : x.1.length ≤ 140737488355328) : Jq x.1 x.2.1 x.2.2 = some (Hs x) := by
  unfold Jq Xr Hs
  rw [lNameM _ h, Option.bind_some, Bk, Bk]
  cases Bi x.1 with
  | false => rfl
  | true =>
    rw [cond_true, Option.bind_some, show decide (1 ≤ ((List.length x.2.1 : Nat) : Int)) = decide (1 ≤ x.2.1.length) from decide_eq_decide.2 (by omega), show decide (((List.length x.2.1 : Nat) : Int) ≤ 32) = decide (x.2.1.length ≤ 32) from decide_eq_decide.2 (by omega)]
    cases (decide (1 ≤ x.2.1.length) && decide (x.2.1.length ≤ 32)) <;> rfl
theorem Fn {α : Type} (p : α → Bool) (l : List α) : l.any (fun x => !(p x)) = !(l.all p) := by
  induction l with
  | nil => rfl
  | cons x l ih => rw [List.any_cons, List.all_cons, ih, Bool.not_and]
theorem lTenant {t : Qd} (h : TenQ t) : Y8 t.1 t.2.1 t.2.2.1 t.2.2.2.1 t.2.2.2.2 = some (Eo t) := by
  obtain ⟨h1, h2, h3, h4, h5⟩ := h
  unfold Y8
  rw [Fk t.2.2.2.1 (fun n => !(netOk n)) _ (fun n hn => lNetBad (h4 n hn)) h2, Option.bind_some, Ct t.2.2.2.2 (fun x => !(Hs x)) _ (fun x hx => by unfold Yh; rw [lToken (h5 x hx).1]; rfl) h3, Fn, Fn]
  have k5 : ∀ v, Z7 t.2.1 t.2.2.1 t.2.2.2.2 v = some (!v && ((qOk t.2.1 && qOk t.2.2.1) && Fl (t.2.2.2.2.map (·.1)))) := by
    intro v
    unfold Z7 Z6
    cases v with
    | true => rfl
    | false =>
      rw [cond_false, Bk, Bk, Option.bind_some, Option.bind_some, Fm _ _ (fun x => rfl) h3]
      unfold qOk
      cases (decide (0 ≤ t.2.1) && decide (t.2.1 ≤ 8)) <;> cases (decide (0 ≤ t.2.2.1) && decide (t.2.2.1 ≤ 8)) <;> cases Fl (t.2.2.2.2.map (·.1)) <;> rfl
  have k1 : ∀ v, Z8 t.1 t.2.1 t.2.2.1 t.2.2.2.1 t.2.2.2.2 v = some (!v && ((Bi t.1 && (decide (t.2.2.2.1.length ≤ 4) && decide (t.2.2.2.2.length ≤ 4))) && ((qOk t.2.1 && qOk t.2.2.1) && Fl (t.2.2.2.2.map (·.1))))) := by
    intro v
    unfold Z8 X5 X4
    cases v with
    | true => rw [cond_true, k5]; rfl
    | false =>
      rw [cond_false, lNameM _ h1, Option.bind_some]
      simp only [k5]
      rw [show decide (((List.length t.2.2.2.1 : Nat) : Int) > 4) = !(decide (t.2.2.2.1.length ≤ 4)) by rw [← decide_not]; exact decide_eq_decide.2 (by omega), show decide (((List.length t.2.2.2.2 : Nat) : Int) > 4) = !(decide (t.2.2.2.2.length ≤ 4)) by rw [← decide_not]; exact decide_eq_decide.2 (by omega)]
      cases Bi t.1 <;> cases decide (t.2.2.2.1.length ≤ 4) <;> cases decide (t.2.2.2.2.length ≤ 4) <;> rfl
  unfold Eo
  cases t.2.2.2.1.all netOk with
  | false =>
    rw [show (!false) = true from rfl, cond_true, k1]
    rfl
  | true =>
    rw [show (!true) = false from rfl, cond_false, Option.bind_some, k1]
    cases t.2.2.2.2.all Hs <;> rfl
theorem Ht (w g i e : Int) (l : List Qd) (rec3 : Int → Option Bool) (hl : l.length ≤ 140737488355328) (hq : ∀ t ∈ l, TenQ t) : Zi rec3 w g i e l ((0 + 1 + 1 + 1 + 1 : Nat) : Int) = some (decide (l.length ≤ 8) && (l.all Eo && Fl (l.map (·.1)))) := by
  unfold Zi Xs
  rw [show decide (((0 + 1 + 1 + 1 + 1 : Nat) : Int) < ((List.length ([w, g, i, e] : List Int) : Nat) : Int)) = false from rfl, cond_false, B1 l (fun t => !(Eo t)) _ (fun t ht => by unfold Yz; rw [lTenant (hq t ht)]; rfl) hl, Fn, En _ _ (fun x => rfl) hl,
    show decide (((List.length l : Nat) : Int) ≤ 8) = decide (l.length ≤ 8) from decide_eq_decide.2 (by omega)]
  cases decide (l.length ≤ 8) <;> cases l.all Eo <;> cases Fl (l.map (·.1)) <;> rfl
theorem N7 (w g i e : Int) (l : List Qd) (rec3 : Int → Option Bool) (k : Nat) (x : Int) (hk : k < 4) (hx : [w, g, i, e][k]? = some x) : Zi rec3 w g i e l (k : Int) = cond (Ra x) (rec3 ((k + 1 : Nat) : Int)) (some false) := by
  unfold Zi
  rw [show decide ((k : Int) < ((List.length ([w, g, i, e] : List Int) : Nat) : Int)) = true from decide_eq_true (by simp only [List.length_cons, List.length_nil]; omega), cond_true, show idx ([w, g, i, e] : List Int) (k : Int) = some x by rw [Fg]; exact hx, Option.bind_some, Bk, Option.bind_some, show ((k : Int) + 1) = ((k + 1 : Nat) : Int) by omega, Xu (by omega)]
  unfold Ra
  cases (decide (1 ≤ x) && decide (x ≤ 1073741824)) <;> rfl
theorem lCfg (w g i e : Int) (l : List Qd) (hl : l.length ≤ 140737488355328) (hq : ∀ t ∈ l, TenQ t) : Jr w g i e l = some (Ep w g i e l) := by
  have unf : ∀ f (v : Int), Zy w g i e l (f + 1) v = Zi (Zy w g i e l f) w g i e l v := fun _ _ => rfl
  unfold Jr Ep
  rw [show Zw = 18446744073709551611 + 1 + 1 + 1 + 1 + 1 from rfl]
  rw [unf, show (0 : Int) = ((0 : Nat) : Int) from rfl, N7 w g i e l _ 0 w (by omega) rfl, unf, N7 w g i e l _ (0 + 1) g (by omega) rfl, unf, N7 w g i e l _ (0 + 1 + 1) i (by omega) rfl, unf, N7 w g i e l _ (0 + 1 + 1 + 1) e (by omega) rfl, unf, Ht w g i e l _ hl hq]
  cases Ra w <;> cases Ra g <;> cases Ra i <;> cases Ra e <;> rfl
end Go.Proofs.YtmgfanhcdfobhaaGreatDoor
namespace Go.Proofs.YtmgfanhcdfobhaaGreatDoor
def TenS (t : Qd) : Prop := t.1.length ≤ 9000 ∧ t.2.2.2.1.length ≤ 9000 ∧ t.2.2.2.2.length ≤ 9000 ∧ ∀ x ∈ t.2.2.2.2, x.1.length ≤ 9000 ∧ x.2.1.length ≤ 9000
def pl (l : List Qd) (nm : Str) : Option Nat := l.findIdx? (fun x => x.1 == nm)
def Er : Qd := ([], 0, 0, [], [])
def Es (l : List Qd) (nm : Str) : Str × Int × Int × List Hr × List D5 × Bool := match pl l nm with
  | some k => ((l.getD k Er).1, (l.getD k Er).2.1, (l.getD k Er).2.2.1, (l.getD k Er).2.2.2.1, (l.getD k Er).2.2.2.2, true)
  | none => ([], 0, 0, [], [], false)
theorem Fo (n : Nat) : (if (3000 : Int) < ((n : Nat) : Int) then (3000 : Int) else ((n : Nat) : Int)) = ((min n 3000 : Nat) : Int) := by split <;> omega
theorem great_in (r11 : Int → Int → Option Bool) (i : Int) (t : Qd) (ht : t.2.2.2.2.length ≤ 140737488355328) : ∀ (d k f n : Nat), d = t.2.2.2.2.length - k → k ≤ t.2.2.2.2.length → d < f → n ≤ 562949953421312 →
    ∃ n' : Nat, n ≤ n' ∧ n' ≤ 562949953421312 + 6000 ∧ Vi r11 i t f (n : Int) (k : Int) = r11 (n' : Int) (IntKind.wrap .i64 (i + 1)) ∧ (n' < 3000 → ∀ x ∈ t.2.2.2.2.drop k, x.1.length < 3000 ∧ x.2.1.length < 3000) := by
  intro d
  induction d with
  | zero =>
    intro k f n hd hk hf hn
    obtain ⟨f, rfl⟩ : ∃ g, f = g + 1 := ⟨f - 1, by omega⟩
    refine ⟨n, by omega, by omega, ?_, fun _ x hx => by rw [List.drop_of_length_le (by omega)] at hx; cases hx⟩
    show Vv r11 (Vi r11 i t f) i t (n : Int) (k : Int) = _
    unfold Vv V8
    rw [show decide ((k : Int) < ((t.2.2.2.2.length : Nat) : Int)) = false from decide_eq_false (by omega), cond_false, cond_false]
  | succ d ih =>
    intro k f n hd hk hf hn
    obtain ⟨f, rfl⟩ : ∃ g, f = g + 1 := ⟨f - 1, by omega⟩
    have hlt : k < t.2.2.2.2.length := by omega
    have hstep : Vi r11 i t (f + 1) (n : Int) (k : Int) = Vv r11 (Vi r11 i t f) i t (n : Int) (k : Int) := rfl
    unfold Vv V8 at hstep
    rw [show decide ((k : Int) < ((t.2.2.2.2.length : Nat) : Int)) = true from decide_eq_true (by omega), cond_true] at hstep
    by_cases h3 : n < 3000
    · rw [show decide ((n : Int) < 3000) = true from decide_eq_true (by omega), cond_true, Ji hlt, Option.bind_some, Option.bind_some, Fo, Fo, show ((n : Int) + ((min (t.2.2.2.2[k]).1.length 3000 : Nat) : Int)) = ((n + min (t.2.2.2.2[k]).1.length 3000 : Nat) : Int) by omega, Xu (by omega),
        show (((n + min (t.2.2.2.2[k]).1.length 3000 : Nat) : Int) + ((min (t.2.2.2.2[k]).2.1.length 3000 : Nat) : Int)) = ((n + min (t.2.2.2.2[k]).1.length 3000 + min (t.2.2.2.2[k]).2.1.length 3000 : Nat) : Int) by omega, Xu (by omega), show ((k : Int) + 1) = ((k + 1 : Nat) : Int) by omega, Xu (by omega)] at hstep
      obtain ⟨n', h1, h2, h4, h5⟩ := ih (k + 1) f (n + min (t.2.2.2.2[k]).1.length 3000 + min (t.2.2.2.2[k]).2.1.length 3000) (by omega) (by omega) (by omega) (by omega)
      refine ⟨n', by omega, h2, hstep.trans h4, fun hn' x hx => ?_⟩
      rw [List.drop_eq_getElem_cons hlt] at hx
      rcases List.mem_cons.1 hx with rfl | hx
      · exact ⟨by omega, by omega⟩
      · exact h5 hn' x hx
    · rw [show decide ((n : Int) < 3000) = false from decide_eq_false (by omega), cond_false] at hstep
      exact ⟨n, by omega, by omega, hstep, fun h => absurd h h3⟩
theorem great_out (l : List Qd) (hl : l.length ≤ 140737488355328) (hq : ∀ t ∈ l, TenQ t) : ∀ (d i f n : Nat), d = l.length - i → i ≤ l.length → d < f → n ≤ 562949953421312 + 6000 → l.length ≤ n →
    (n < 3000 → ∀ t ∈ l.take i, TenS t) → ∃ b, Qv l f (n : Int) (i : Int) = some b ∧ (b = false → l.length ≤ 3000 ∧ ∀ t ∈ l, TenS t) := by
  intro d
  induction d with
  | zero =>
    intro i f n hd hi hf hn hln hs
    obtain ⟨f, rfl⟩ : ∃ g, f = g + 1 := ⟨f - 1, by omega⟩
    refine ⟨decide ((n : Int) ≥ 3000), ?_, fun hb => ?_⟩
    · show Vz (Qv l f) l (n : Int) (i : Int) = _
      unfold Vz V9
      rw [show decide ((i : Int) < ((l.length : Nat) : Int)) = false from decide_eq_false (by omega), cond_false, cond_false]
    · have := of_decide_eq_false hb
      rw [List.take_of_length_le (by omega)] at hs
      exact ⟨by omega, hs (by omega)⟩
  | succ d ih =>
    intro i f n hd hi hf hn hln hs
    obtain ⟨f, rfl⟩ : ∃ g, f = g + 1 := ⟨f - 1, by omega⟩
    have hlt : i < l.length := by omega
    have hstep : Qv l (f + 1) (n : Int) (i : Int) = Vz (Qv l f) l (n : Int) (i : Int) := rfl
    unfold Vz V9 at hstep
    rw [show decide ((i : Int) < ((l.length : Nat) : Int)) = true from decide_eq_true (by omega), cond_true] at hstep
    by_cases h3 : n < 3000
    · obtain ⟨q1, q2, q3, q4, q5⟩ := hq _ (List.getElem_mem hlt)
      rw [show decide ((n : Int) < 3000) = true from decide_eq_true (by omega), cond_true, Ji hlt, Option.bind_some, Fo, show ((n : Int) + ((min l[i].1.length 3000 : Nat) : Int)) = ((n + min l[i].1.length 3000 : Nat) : Int) by omega, Xu (by omega),
        show (((n + min l[i].1.length 3000 : Nat) : Int) + ((l[i].2.2.2.1.length : Nat) : Int)) = ((n + min l[i].1.length 3000 + l[i].2.2.2.1.length : Nat) : Int) by omega, Xu (by omega),
        show (((n + min l[i].1.length 3000 + l[i].2.2.2.1.length : Nat) : Int) + ((l[i].2.2.2.2.length : Nat) : Int)) = ((n + min l[i].1.length 3000 + l[i].2.2.2.1.length + l[i].2.2.2.2.length : Nat) : Int) by omega, Xu (by omega)] at hstep
      obtain ⟨n', h1, h2, h4, h5⟩ := great_in (Qv l f) (i : Int) l[i] q3 l[i].2.2.2.2.length 0 Zw (n + min l[i].1.length 3000 + l[i].2.2.2.1.length + l[i].2.2.2.2.length) (by omega) (by omega) (by unfold Zw; omega) (by omega)
      rw [show ((0 : Nat) : Int) = 0 from rfl] at h4
      rw [h4, show ((i : Int) + 1) = ((i + 1 : Nat) : Int) by omega, Xu (by omega)] at hstep
      obtain ⟨b, hb, hb2⟩ := ih (i + 1) f n' (by omega) (by omega) (by omega) (by omega) (by omega) (fun hn' t ht => by
        rw [List.take_add_one, List.getElem?_eq_getElem hlt, List.mem_append] at ht
        rcases ht with ht | ht
        · exact hs h3 t ht
        · simp only [Option.toList_some, List.mem_singleton] at ht
          subst ht
          rw [List.drop_zero] at h5
          exact ⟨by omega, by omega, by omega, fun x hx => ⟨by have := h5 hn' x hx; omega, by have := h5 hn' x hx; omega⟩⟩)
      exact ⟨b, hstep.trans hb, hb2⟩
    · rw [show decide ((n : Int) < 3000) = false from decide_eq_false (by omega), cond_false] at hstep
      exact ⟨_, hstep, fun hb => by have := of_decide_eq_false hb; omega⟩
theorem cfg_great (w g i e : Int) (l : List Qd) (hl : l.length ≤ 140737488355328) (hq : ∀ t ∈ l, TenQ t) : ∃ b, Yo w g i e l = some b ∧ (b = false → l.length ≤ 3000 ∧ ∀ t ∈ l, TenS t) :=
  great_out l hl hq l.length 0 Zw l.length (by omega) (by omega) (by unfold Zw; omega) (by omega) (Nat.le_refl _) (fun _ t ht => by simp at ht)
end Go.Proofs.YtmgfanhcdfobhaaGreatDoor
namespace Go.Proofs.YtmgfanhcdfobhaaGreatDoor
open Go.RowKit
section
variable {α : Type} {e : Enc α} {t t' : TypeId} {g m : Nat} {l : List α} {w w' w0 : World} {S : List Nat} {es : List Ent}
def Vp (t : TypeId) (e : Enc α) (g m : Nat) (l : List α) : Ent :=
  ⟨[g], fun w => l.length = m ∧ m ≤ maxLen ∧ w.heap[g]? = some (.cells (Qa e l).toArray t (0, 0)), fun w w' h hk => ⟨hk.1, hk.2.1, by rw [h g (by simp)]; exact hk.2.2⟩⟩
theorem Vm (h : (Vp t e g m l).ok w) : l.length = m := h.1
theorem Vr (h : (Vp t e g m l).ok w) : RdT e w (some ⟨g, 0, none⟩) m l := by
  obtain ⟨h1, h2, h3⟩ := h
  refine ⟨Q7 e l, by omega, h2, fun _ => ⟨g, 0, rfl, (Array.getElem?_eq_some_iff.1 h3).1, fun j u hu => ?_⟩⟩
  rw [Nat.zero_add, cell_of_row w g j _ t (0, 0) h3]
  simpa using hu
theorem SP.pushArr {cs : Array Value} (h : SP S w0 w es) (hc : cs = (Qa e l).toArray) (hl : l.length = m) (hm : m ≤ maxLen) : SP S w0 (w.alloc (.cells cs t)) (es ++ [Vp t e w.heap.size m l]) := by
  subst hc
  refine h.push ((Below.refl _ _).alloc (Nat.le_refl _) _) ⟨hl, hm, heap_alloc_new w _⟩ fun k hk => ?_
  have : k = w.heap.size := by simpa [Vp] using hk
  subst this
  simp
theorem SP.setArr {i : Nat} {l' : List α} (h : SP S w0 w es) (hi : es[i]? = some (Vp t e g m l)) (hl : l'.length = m) {cs : Array Value} (hc : cs = (Qa e l').toArray) : SP S w0 (w.setRow g cs) (es.set i (Vp t e g m l')) := by
  subst hc
  obtain ⟨h1, h2, h3⟩ := h.get hi
  have hlt : g < w.heap.size := (Array.getElem?_eq_some_iff.1 h3).1
  refine h.set hi (Mod.setRow w g _) (fun k hk => hk) ⟨hl, h2, setRow_heap w g _ _ t (0, 0) h3⟩ fun k hk => ⟨.inl hk, ?_⟩
  have : k = g := by simpa [Vp] using hk
  subst this
  simpa [World.setRow] using hlt
def cpy (l : List α) (lo dl : Nat) (x : List α) : List α := l.take lo ++ x.take dl ++ l.drop (lo + min dl x.length)
theorem G5 {lo dl : Nat} {x : List α} (h : lo + dl ≤ l.length) : (cpy l lo dl x).length = l.length := by
  unfold cpy
  simp only [List.length_append, List.length_take, List.length_drop]
  omega
end
section
variable {P : Program} {n : Nat} {Q : D7} {ρ : Fr} {w w0 : World} {B : Code} {p : List Bool} {k : Nat} {d : Option Nat} {S : List Nat} {es : List Ent} {K : Fr → World → Prop}
variable {α : Type} {e : Enc α} {l : List α} {t t' : TypeId} {g m : Nat}
theorem Vc {z : Value} (ho : U7 (Qe B p) k ρ = some (.alloc t, d)) (hd : Z3 n d = true) (hz : (P.info? t).bind (·.zero) = some z) (hc : z.cells = (Qa e l).toArray) (hl : l.length = m) (hm : Nat.ble m 2147483648 = true) (hs : SP S w0 w es)
    (next : ∀ (g : Nat) (w' : World), SP S w0 w' (es ++ [Vp t e g m l]) → K (Js ρ d (.pointer (some ⟨g, 0, none⟩))) w') : Qj P n B p k K ρ w := by
  refine Qj.val ho hd (v := .pointer (some ⟨w.heap.size, 0, none⟩)) (w' := w.alloc (.cells z.cells t)) (fun o hop => ?_) (next _ _ (hs.pushArr hc hl (B7 hm)))
  unfold execOp; rw [hop]
  cases hi : P.info? t with
  | none => rw [hi] at hz; cases hz
  | some i =>
    rw [hi] at hz
    have hz : i.zero = some z := hz
    have hzv : (zeroValue t).run P w = .ok z w := by simp [zeroValue, typeInfo, hi, hz]
    simp only [Instr.alloc, Sem.run_bind, hzv, Result.andThen_ok]
    rfl
theorem R7 {x : Operand} (ho : U7 (Qe B p) k ρ = some (.box t x, d)) (hd : Z3 n d = true) (hv : opv ρ x = .agg (Qa e l).toArray) (hl : l.length = m) (hm : Nat.ble m 2147483648 = true) (hs : SP S w0 w es)
    (next : ∀ (g : Nat) (w' : World), SP S w0 w' (es ++ [Vp t e g m l]) → K (Js ρ d (.pointer (some ⟨g, 0, none⟩))) w') : Qj P n B p k K ρ w := by
  refine Qj.val ho hd (v := .pointer (some ⟨w.heap.size, 0, none⟩)) (w' := w.alloc (.cells (opv ρ x).cells t)) (fun o hop => ?_) (next _ _ (hs.pushArr (by rw [hv]; rfl) hl (B7 hm)))
  unfold execOp; rw [hop]; rfl
theorem Zd {x : Operand} {i : Nat} (ho : U7 (Qe B p) k ρ = some (.load t x, d)) (hd : Z3 n d = true) (hv : opv ρ x = .pointer (some ⟨g, 0, none⟩)) (hs : SP S w0 w es) (hi : es[i]? = some (Vp t' e g m l))
    (ht : (P.underlying t).map aggD = some true) (hz : (P.info? t).map (·.size) = some (m * e.sz)) (next : K (Js ρ d (.agg (Qa e l).toArray)) w) : Qj P n B p k K ρ w := by
  have hok := hs.get hi
  refine Qj.cells ho hd hv ht (by rw [Q7, Vm hok]; exact hz) (fun j u hu => ?_) next
  rw [Nat.zero_add, cell_of_row w g j _ t' (0, 0) hok.2.2]
  simpa using hu
theorem V6 {x y : Operand} {i : Nat} {l' : List α} (ho : U7 (Qe B p) k ρ = some (.store t x y, d)) (hd : Z3 n d = true) (hx : opv ρ x = .pointer (some ⟨g, 0, none⟩)) (hy : opv ρ y = .agg (Qa e l').toArray)
    (hl : l'.length = m) (hs : SP S w0 w es) (hi : es[i]? = some (Vp t' e g m l)) (hz : (P.info? t).map (·.size) = some (m * e.sz))
    (next : ∀ w' : World, SP S w0 w' (es.set i (Vp t' e g m l')) → K (Js ρ d undef) w') : Qj P n B p k K ρ w := by
  obtain ⟨h1, h2, h3⟩ := hs.get hi
  have hcs : (opv ρ y).cells = (Qa e l').toArray := by rw [hy]; rfl
  refine D3 ho hd (w' := w.setRow g (Qa e l').toArray) (fun o hop => ?_) (next _ (hs.setArr hi hl rfl))
  cases hi' : P.info? t with
  | none => rw [hi'] at hz; cases hz
  | some ii =>
    rw [hi'] at hz
    have hz : ii.size = m * e.sz := by simpa using hz
    have hsz : (sizeOf t).run P w = .ok (m * e.sz) w := by simp [sizeOf, typeInfo, hi', hz]
    have hst := run_storeCells_at P g 0 t' (Qa e l') 0 (Qa e l).toArray w h3 (by simp [Q7, hl, h1]) (Nz e l')
    have hd0 : (Qa e l).drop (0 + 0 + (Qa e l').length) = [] := List.drop_of_length_le (by simp [Q7, hl, h1])
    simp only [hd0, Nat.add_zero, List.take_zero, List.nil_append, List.append_nil] at hst
    unfold execOp; rw [hop]
    have hsize : (opv ρ y).cells.size = m * e.sz := by rw [hcs]; simp [Q7, hl]
    simp only [hx, Instr.storeAt, Instr.sureAddr, Sem.run_bind, Sem.run_pure, Result.andThen_ok, storeVar, hsz, hsize, ne_eq, not_true_eq_false, if_false]
    rw [hcs]
    simp only [hst, Result.andThen_ok]
theorem Qs {T E : TypeId} {x ix : Operand} {ki : IntKind} {iz : Int} {i : Nat} (ho : U7 (Qe B p) k ρ = some (.indexAddr T x ix, d)) (hd : Z3 n d = true)
    (hx : opv ρ x = .pointer (some ⟨g, 0, none⟩)) (hix : opv ρ ix = .int ki iz) (hT : P.underlying T = some (.array m E)) (hE : (P.info? E).map (·.size) = some e.sz) (hs : SP S w0 w es) (hi : es[i]? = some (Vp t' e g m l)) (h0 : 0 ≤ iz) (h1 : iz < (l.length : Int))
    (next : K (Js ρ d (.pointer (some ⟨g, 0 + iz.toNat * e.sz, none⟩))) w) : Qj P n B p k K ρ w := by
  have hl := Vm (hs.get hi)
  refine Qj.val ho hd (fun o hop => ?_) next
  cases hi' : P.info? E with
  | none => rw [hi'] at hE; cases hE
  | some ii =>
    rw [hi'] at hE
    have hE : ii.size = e.sz := by simpa using hE
    have hsz : (sizeOf E).run P w = .ok e.sz w := by simp [sizeOf, typeInfo, hi', hE]
    rw [hl] at h1
    unfold execOp; rw [hop]
    simp only [hx, hix, Sem.run_bind, Instr.indexAt, asIntOf, Sem.run_pure, Result.andThen_ok, run_underlying hT, Instr.sureAddr]
    simp [h0, h1, hsz, Nf]
theorem Zp {x y : Operand} {iz : Int} {v : Value} {x' : α} {i b off : Nat} (ho : U7 (Qe B p) k ρ = some (.store t x y, d)) (hd : Z3 n d = true) (hA : some (⟨g, 0, none⟩ : Addr) = some ⟨b, off, none⟩) (hx : opv ρ x = .pointer (some ⟨b, off + iz.toNat * e.sz, none⟩)) (hy : opv ρ y = v)
    (hs : SP S w0 w es) (hi : es[i]? = some (Vp t' e g m l)) (hz : e.sz = 1) (h1 : iz < (l.length : Int)) (h0 : 0 ≤ iz) (hv : e.enc x' = [v]) (ht : (P.info? t).map (·.size) = some 1)
    (next : ∀ w' : World, SP S w0 w' (es.set i (Vp t' e g m (l.set iz.toNat x'))) → K (Js ρ d undef) w') : Qj P n B p k K ρ w := by
  subst hy
  injection hA with hA
  injection hA with hA1 hA2
  subst hA1 hA2
  obtain ⟨hl, h2, h3⟩ := hs.get hi
  have hlt : iz.toNat < l.length := by omega
  have hlen := Q7 e l
  rw [hz, Nat.mul_one] at hlen
  have hone := e.one x' (opv ρ y) (by rw [hv]; simp)
  have hset : (Qa e l).take iz.toNat ++ [opv ρ y] ++ (Qa e l).drop (iz.toNat + 1) = Qa e (l.set iz.toNat x') := by
    have := Bc e l iz.toNat x' hlt
    rw [hz, Nat.mul_one, hv] at this
    exact this
  have hst := run_storeCells_at P g iz.toNat t' [opv ρ y] 0 (Qa e l).toArray w h3 (by simp; omega) (by intro v hv; simp at hv; subst hv; exact hone)
  refine D3 ho hd (w' := w.setRow g (Qa e (l.set iz.toNat x')).toArray) (fun o hop => ?_) (next _ (hs.setArr hi (by simpa using hl) rfl))
  have hcs : (opv ρ y).cells = #[opv ρ y] := by
    cases hvv : opv ρ y <;> first | rfl | (rw [hvv] at hone; cases hone)
  cases hi' : P.info? t with
  | none => rw [hi'] at ht; cases ht
  | some ii =>
    rw [hi'] at ht
    have ht : ii.size = 1 := by simpa using ht
    have hsz : (sizeOf t).run P w = .ok 1 w := by simp [sizeOf, typeInfo, hi', ht]
    unfold execOp; rw [hop]
    rw [hz, Nat.zero_add, Nat.mul_one] at hx
    simp only [Nat.add_zero, List.length_cons, List.length_nil, Nat.zero_add, hset] at hst
    simp only [hx, Instr.storeAt, Instr.sureAddr, Sem.run_bind, Sem.run_pure, Result.andThen_ok, storeVar, hsz, hcs]
    simp [hst]
theorem Fp {cap : Nat} {lo hi : Option Value} {i j : Nat} (hlo : lo = none ∧ i = 0 ∨ ∃ kk, lo = some (.int kk (i : Int))) (hhi : hi = none ∧ j = cap ∨ ∃ kk, hi = some (.int kk (j : Int))) (hij : i ≤ j) (hj : j ≤ cap) (w : World) :
    (Instr.sliceBounds false cap cap lo hi none).run P w = .ok (i, j, cap) w := Dd hlo hhi hij hj (Nat.le_refl _) w
theorem N8 {T E : TypeId} {x : Operand} {lo hi : Option Operand} {i j : Int} {l' : List α} {q : Nat} (ho : U7 (Qe B p) k ρ = some (.slice T x lo hi none, d)) (hd : Z3 n d = true)
    (hx : opv ρ x = .pointer (some ⟨g, 0, none⟩)) (hT : P.underlying T = some (.array m E)) (hE : (P.info? E).map (·.size) = some e.sz) (hlo : Dq ρ lo i 0) (hhi : Dq ρ hi j l.length) (hs : SP S w0 w es) (hq : es[q]? = some (Vp t' e g m l))
    (h0 : 0 ≤ i) (h1 : i ≤ j) (h2 : j ≤ (l.length : Int)) (hy : (l.take j.toNat).drop i.toNat = l')
    (next : K (Js ρ d (.slice (Do e.sz m i.toNat (some ⟨g, 0, none⟩)) l'.length (m - i.toNat))) w) : Qj P n B p k K ρ w := by
  subst hy
  have hl0 := Vm (hs.get hq)
  have hl : ((l.take j.toNat).drop i.toNat).length = j.toNat - i.toNat := by simp; omega
  rw [hl] at next
  refine Qj.val ho hd (v := .slice (Do e.sz m i.toNat (some ⟨g, 0, none⟩)) (j.toNat - i.toNat) (m - i.toNat)) (fun o hop => ?_) next
  unfold execOp; rw [hop]
  cases hi' : P.info? E with
  | none => rw [hi'] at hE; cases hE
  | some ii =>
    rw [hi'] at hE
    have hE : ii.size = e.sz := by simpa using hE
    have hsz : ∀ w, (sizeOf E).run P w = .ok e.sz w := fun w => by simp [sizeOf, typeInfo, hi', hE]
    have hb := Fp (P := P) (cap := m) (lo := lo.map (opv ρ)) (hi := hi.map (opv ρ)) (i := i.toNat) (j := j.toNat)
      (by
        cases lo with
        | none => exact .inl ⟨rfl, by have : i = 0 := hlo; omega⟩
        | some y => obtain ⟨kk, hh⟩ := hlo; exact .inr ⟨kk, by rw [Option.map_some, hh, Int.toNat_of_nonneg h0]⟩)
      (by
        cases hi with
        | none => exact .inl ⟨rfl, by have : j = (l.length : Int) := hhi; omega⟩
        | some y => obtain ⟨kk, hh⟩ := hhi; exact .inr ⟨kk, by rw [Option.map_some, hh, Int.toNat_of_nonneg (by omega)]⟩)
      (by omega) (by omega) w
    simp only [hx, Instr.sliceAt, Sem.run_bind, run_underlying hT, Result.andThen_ok, Instr.sureAddr, Sem.run_pure, Option.map_none, hb, hsz]
    congr 3
    unfold Do
    split <;> rfl
theorem J1 {T E : TypeId} {x : Operand} {q : Nat} (ho : U7 (Qe B p) k ρ = some (.slice T x none none none, d)) (hd : Z3 n d = true)
    (hx : opv ρ x = .pointer (some ⟨g, 0, none⟩)) (hT : P.underlying T = some (.array m E)) (hE : (P.info? E).map (·.size) = some e.sz) (hs : SP S w0 w es) (hq : es[q]? = some (Vp t' e g m l))
    (next : K (Js ρ d (.slice (some ⟨g, 0, none⟩) l.length m)) w) : Qj P n B p k K ρ w := by
  have hl := Vm (hs.get hq)
  refine N8 (l' := l) ho hd hx hT hE (i := 0) (j := (l.length : Int)) rfl rfl hs hq (by omega) (by omega) (by omega) (by simp) ?_
  have : Do e.sz m (0 : Int).toNat (some ⟨g, 0, none⟩) = some ⟨g, 0, none⟩ := by
    unfold Do
    split
    · rfl
    · simp [Nf]
  rw [this]
  exact next
theorem cut_off {sz c lo : Nat} (h : lo < c) : Do sz c lo (some ⟨g, 0, none⟩) = some ⟨g, lo * sz, none⟩ := by
  unfold Do
  rw [if_neg (by omega)]
  simp [Nf]
theorem Cg {sz dl : Nat} : dl = 0 ∨ some (⟨g, 0, none⟩ : Addr) = some ⟨g, 0 * sz, none⟩ := .inr (by rw [Nat.zero_mul])
theorem cut_hA {i j : Int} {l' : List α} (hl : l.length = m) (h0 : 0 ≤ i) (h1 : i ≤ j) (h2 : j ≤ (l.length : Int)) (hy : (l.take j.toNat).drop i.toNat = l') : l'.length = 0 ∨ Do e.sz m i.toNat (some ⟨g, 0, none⟩) = some ⟨g, i.toNat * e.sz, none⟩ := by
  subst hy
  by_cases h : i.toNat < m
  · exact .inr (cut_off h)
  · left
    simp
    omega
theorem cut_dl {i j : Int} {l' : List α} (h0 : 0 ≤ i) (h1 : i ≤ j) (h2 : j ≤ (l.length : Int)) (hy : (l.take j.toNat).drop i.toNat = l') : i.toNat + l'.length ≤ l.length := by
  subst hy
  simp
  omega
theorem Nb {a : Nat} (h : ρ a = .pointer (some ⟨g, 0, none⟩)) (hok : (Vp t' e g m l).ok w) (ht : (P.underlying t).map aggD = some true) (hz : (P.info? t).map (·.size) = some (m * e.sz)) : (rvS ρ (.cell a t)).run P w = .ok (.agg (Qa e l).toArray) w := by
  simp only [rvS, h, asAddr, Sem.run_bind, Sem.run_pure, Result.andThen_ok]
  cases hu : P.underlying t with
  | none => rw [hu] at ht; cases ht
  | some dd =>
    rw [hu] at ht
    have ht : aggD dd = true := by simpa using ht
    have hagg : (isAgg t).run P w = .ok true w := by
      rw [← ht]
      simp only [isAgg, Sem.run_bind, run_underlying hu, Result.andThen_ok]
      cases dd <;> rfl
    cases hi : P.info? t with
    | none => rw [hi] at hz; cases hz
    | some i =>
      rw [hi] at hz
      have hz : i.size = m * e.sz := by simpa using hz
      have hsz : (sizeOf t).run P w = .ok (Qa e l).length w := by rw [Q7, Vm hok]; simp [sizeOf, typeInfo, hi, hz]
      have hload := run_loadCells_list (P := P) w ⟨g, 0, none⟩ (Qa e l) (fun j u hu => by
        rw [Nf, Nat.zero_add, cell_of_row w g j _ t' (0, 0) hok.2.2]
        simpa using hu)
      simp only [loadVar, Sem.run_bind, hagg, Result.andThen_ok, if_true, hsz, hload, Sem.run_pure]
theorem Dk {T T2 E : TypeId} {x y : Operand} {i lo dl dc c2 : Nat} {A A2 : Option Addr} {y' l' : List α} (ho : U7 (Qe B p) k ρ = some (.call { callee := .builtin .copy, args := #[x, y], argTypes := #[T, T2] }, d)) (hd : Z3 n d = true)
    (hx : opv ρ x = .slice A dl dc) (hy : opv ρ y = .slice A2 y'.length c2) (hT : P.underlying T = some (.slice E)) (hE : (P.info? E).map (·.size) = some 1) (hz : e.sz = 1)
    (hs : SP S w0 w es) (hi : es[i]? = some (Vp t' e g m l)) (hA : dl = 0 ∨ A = some ⟨g, lo * e.sz, none⟩) (hdl : lo + dl ≤ l.length) (hr : RdT e w A2 c2 y') (hq : cpy l lo dl y' = l')
    (next : ∀ w' : World, SP S w0 w' (es.set i (Vp t' e g m l')) → l'.length = l.length → K (Js ρ d (.int .i64 (min (y'.length : Int) (dl : Int)))) w') : Qj P n B p k K ρ w := by
  subst hq
  obtain ⟨hl, h2, h3⟩ := hs.get hi
  have hcl := G5 (l := l) (x := y') hdl
  have hcells : Qa e (cpy l lo dl y') = (Qa e l).take lo ++ (Qa e y').take dl ++ (Qa e l).drop (lo + min dl y'.length) := by
    have h1 := Uo e l lo
    have h2 := Uo e y' dl
    have h3 := Un e l (lo + min dl y'.length)
    rw [hz, Nat.mul_one] at h1 h2 h3
    rw [h1, h2, h3]
    unfold cpy
    rw [Jm, Jm]
  have hlen2 := Q7 e y'
  have hlen1 := Q7 e l
  rw [hz, Nat.mul_one] at hlen1 hlen2
  have hnum : goInt (Nat.min y'.length dl) = .int .i64 (min (y'.length : Int) (dl : Int)) := by
    show Value.int .i64 _ = _
    congr 1
    show ((min y'.length dl : Nat) : Int) = _
    omega
  by_cases h0 : Nat.min y'.length dl = 0
  · have hsame : cpy l lo dl y' = l := by
      unfold cpy
      have h0' : min dl y'.length = 0 := by have : min y'.length dl = 0 := h0; omega
      rw [h0', Nat.add_zero]
      have : y'.take dl = [] := by
        apply List.eq_nil_of_length_eq_zero
        rw [List.length_take]; exact h0'
      rw [this, List.append_nil, List.take_append_drop]
    have hrun := run_copy_none (P := P) w T T2
    refine Qj.val ho hd (v := .int .i64 (min (y'.length : Int) (dl : Int))) (w' := w) (fun o hop => ?_) (next w ?_ hcl)
    · unfold execOp; rw [hop]
      simp only [resolve, Sem.run_bind, Sem.run_pure, Result.andThen_ok, invoke, builtin, List.map_toArray, List.map_cons, List.map_nil, hx, hy]
      rw [hrun o.type E A A2 dl dc y'.length c2 hT hE h0]
      simp [Result.andThen, ← hnum, h0]
    · have : es.set i (Vp t' e g m (cpy l lo dl y')) = es := by
        rw [hsame]
        apply List.ext_getElem?
        intro j
        rw [List.getElem?_set]
        split
        · rename_i hij; subst hij
          split
          · exact hi.symm
          · rename_i hge; rw [List.getElem?_eq_none (by omega)]
        · rfl
      rw [this]
      exact hs
  · have h0' : min y'.length dl ≠ 0 := h0
    rcases hA with hA | hA
    · omega
    · obtain ⟨_, _, _, h4⟩ := hr
      obtain ⟨b, off, hA2, hb, hc⟩ := h4 (by omega)
      subst hA hA2
      have htl : ((Qa e y').take dl).length = Nat.min y'.length dl := by rw [List.length_take, hlen2]; show min dl y'.length = min y'.length dl; omega
      have hrun := fun ty => run_copy_row (P := P) w T T2 ty E g (lo * e.sz) dl dc ⟨b, off, none⟩ y'.length c2 (Qa e l).toArray t' ((Qa e y').take dl) hT hE h3 htl
        (fun j v hj => by
          rw [Nf]
          rw [List.getElem?_take] at hj
          split at hj
          · exact hc j v hj
          · cases hj) (by rw [htl, hz, Nat.mul_one]; simp only [List.size_toArray, hlen1]; show lo + min y'.length dl ≤ l.length; omega) (fun v hv => Nz e y' v (List.mem_of_mem_take hv))
      refine Qj.val ho hd (v := .int .i64 (min (y'.length : Int) (dl : Int))) (w' := w.setRow g (Qa e (cpy l lo dl y')).toArray) (fun o hop => ?_) (next _ (hs.setArr hi (by rw [hcl]; exact hl) rfl) hcl)
      unfold execOp; rw [hop]
      simp only [resolve, Sem.run_bind, Sem.run_pure, Result.andThen_ok, invoke, builtin, List.map_toArray, List.map_cons, List.map_nil, hx, hy]
      rw [hrun o.type, htl, ← hnum, hcells, hz, Nat.mul_one]
      have : min dl y'.length = Nat.min y'.length dl := by show min dl y'.length = min y'.length dl; omega
      rw [this]
      rfl
theorem Et {T TX E : TypeId} {s x : Operand} {b i : Nat} {vx : Value} {y l' : List α} (ho : U7 (Qe B p) k ρ = some (.call { callee := .builtin .append, args := #[s, x], argTypes := #[T, TX] }, d)) (hd : Z3 n d = true)
    (hv : opv ρ s = .slice (some ⟨g, 0, none⟩) l.length m) (hx : opv ρ x = vx) (hT : P.underlying T = some (.slice E)) (hE : (P.info? E).map (fun i => (i.zero.map (·.cells.size), i.size, i.bytes)) = some (some e.sz, e.sz, b)) (hb : (Nat.ble 1 e.sz && Nat.ble b 65536) = true)
    (hs : SP S w0 w es) (hi : es[i]? = some (Vp t' e g m l)) (hsrc : Src P e.sz TX vx y.length (Qa e y) w) (hlen : l.length + y.length ≤ 2147483648) (hq : l ++ y = l')
    (next : ∀ (A' : Option Addr) (c' : Nat) (w' : World), SP S w0 w' es → RdT e w' A' c' l' → K (Js ρ d (.slice A' l'.length c')) w') : Qj P n B p k K ρ w := by
  subst hx hq
  obtain ⟨i0, z, hi0, hz0, hz1, hz2, hz3⟩ := B6 hE
  simp only [Bool.and_eq_true] at hb
  have hb1 := Nat.le_of_ble_eq_true hb.1
  have hb2 := Nat.le_of_ble_eq_true hb.2
  have hbytes : (l.length + y.length) * b ≤ 140737488355328 := Nat.le_trans (Nat.mul_le_mul hlen hb2) (by omega)
  have hok := hs.get hi
  obtain ⟨hl, h2, h3⟩ := hok
  have hrd : RdT e w (some ⟨g, 0, none⟩) m l := Vr ⟨hl, h2, h3⟩
  obtain ⟨o0, ho0, _⟩ := Gp ho
  rcases Nat.eq_zero_or_pos y.length with h0 | h0
  · have : y = [] := List.eq_nil_of_length_eq_zero h0
    subst this
    rw [List.append_nil] at next
    refine Qj.val ho hd (v := .slice (some ⟨g, 0, none⟩) l.length m) (w' := w) (fun o hop => ?_) (next _ _ _ hs hrd)
    have hh1 := hsrc.len w
    have hh2 : (Builtin.firstCells i0.size 0 (opv ρ x)).run P w = .ok #[] w := by rw [hz1]; exact hsrc.cells
    have hh1 : (Builtin.lenOf (opv ρ x)).run P w = .ok 0 w := hh1
    have hrun : ∀ ty, (Builtin.append_ #[T, TX] ty #[.slice (some ⟨g, 0, none⟩) l.length m, opv ρ x]).run P w = .ok (.slice (some ⟨g, 0, none⟩) l.length m) w := by
      intro ty
      rcases hsrc.kind with ⟨e', hk⟩ | hk <;> simp [Builtin.append_, run_underlying hT, run_underlying hk, sizeOf, typeInfo, hi0, hh1, hh2, storeCells, hl, Qa]
    unfold execOp; rw [hop]
    simp [resolve, invoke, builtin, hv, hrun, Result.andThen]
  · have hxs : ∀ j u, (Qa e l)[j]? = some u → w.drew.cell? ((⟨g, 0, none⟩ : Addr).add j) = some u := by
      intro j u hu
      rw [Nf, Nat.zero_add]
      refine (cell_of_row w.drew g j _ t' (0, 0) h3).trans ?_
      simpa using hu
    have hlen1 : (Qa e l).length = l.length * i0.size := by rw [Q7, hz1]
    have hr := fun ty => run_append_grow_src (P := P) w T TX ty E i0 z hT hi0 hz0 (some ⟨g, 0, none⟩) l.length m (Qa e l) (run_firstCells_some w.drew i0.size l.length ⟨g, 0, none⟩ l.length m (Qa e l) hlen1 hxs) (opv ρ x) y.length (Qa e y) (hz1 ▸ hsrc) (by omega) (by omega)
      (growslice_fits (by omega) (by rw [hz2]; exact hbytes))
    refine Qj.val ho hd (v := .slice (some ⟨w.heap.size, 0, none⟩) (l ++ y).length (grownCap w (l.length + y.length) m E)) (w' := w.drew.alloc (.cells ((Qa e l ++ Qa e y).toArray ++ Builtin.zeroCells z.cells (grownCap w (l.length + y.length) m E - (l.length + y.length))) E)) (fun o hop => ?_) (next _ _ _ (hs.below ((Below.refl _ _).drew.alloc (Nat.le_refl _) _)) ?_)
    · unfold execOp; rw [hop, List.length_append]
      simp [resolve, invoke, builtin, hv, hr, Result.andThen]
    · refine ⟨Q7 e _, ?_, grownCap_le_maxLen w _ m E (by unfold maxLen; omega), fun _ => ⟨w.heap.size, 0, rfl, by simp, fun j u hu => ?_⟩⟩
      · rw [List.length_append]; exact grownCap_ge w _ m E
      · rw [Nat.zero_add]
        refine (cell_of_row _ w.heap.size j _ E _ (heap_alloc_new w.drew _)).trans ?_
        rw [Jm] at hu
        rw [Array.getElem?_append_left (by simpa using (List.getElem?_eq_some_iff.1 hu).1)]
        simpa using hu
theorem Hu (e : Enc α) (z : α) (hz : e.sz = 1) (v : Value) (hv : e.enc z = [v]) (q : Nat) : (madeCells #[v] q).toList = Qa e (List.replicate q z) := by
  have h1 : Qa e (List.replicate q z) = List.replicate q v := by
    induction q with
    | zero => rfl
    | succ q ih => rw [List.replicate_succ, X0, ih, hv, List.replicate_succ]; rfl
  rw [h1]
  simp [madeCells]
  apply List.ext_getElem
  · simp
  · intro i h1 h2
    simp [Nat.mod_one]
theorem Qj.make {T E : TypeId} {x y : Operand} {k1 k2 : IntKind} {iz : Int} {b : Nat} {z : α} {v : Value} {l' : List α} (ho : U7 (Qe B p) k ρ = some (.makeSlice T x y, d)) (hd : Z3 n d = true) (hx : opv ρ x = .int k1 iz) (hy : opv ρ y = .int k2 iz)
    (hT : P.underlying T = some (.slice E)) (hE : (P.info? E).map (fun i => (i.zero, i.size, i.bytes)) = some (some v, 1, b)) (hb : Nat.ble b 65536 = true) (hz : e.sz = 1) (hv : e.enc z = [v]) (hc : v.cells = #[v]) (h0 : decide (0 ≤ iz ∧ iz ≤ 2147483648) = true) (hs : SP S w0 w es) (hq : List.replicate iz.toNat z = l')
    (next : ∀ (g : Nat) (w' : World), SP S w0 w' (es ++ [Ut E e (some ⟨g, 0, none⟩) iz.toNat l']) → l'.length = iz.toNat → K (Js ρ d (.slice (some ⟨g, 0, none⟩) l'.length iz.toNat)) w') : Qj P n B p k K ρ w := by
  subst hq
  have h0 := of_decide_eq_true h0
  have hb2 := Nat.le_of_ble_eq_true hb
  cases hi : P.info? E with
  | none => rw [hi] at hE; cases hE
  | some i =>
    rw [hi] at hE
    simp only [Option.map_some, Option.some.injEq, Prod.mk.injEq] at hE
    obtain ⟨hz1, hz2, hz3⟩ := hE
    have hbb : (i.bytes : Int) * iz ≤ 281474976710656 := by
      rw [hz3]
      have h1 : (b : Int) * iz ≤ 65536 * 2147483648 := Int.mul_le_mul (by omega) h0.2 h0.1 (by omega)
      omega
    have hr := run_make (P := P) w T E i v hT hi hz1 k1 k2 iz iz h0.1 (Int.le_refl _) hbb (by omega)
    rw [hz2, Nat.mul_one, hc] at hr
    have hlen : (List.replicate iz.toNat z).length = iz.toNat := by simp
    have hnew := hs.newrow (E := E) (cs := madeCells #[v] iz.toNat) e (List.replicate iz.toNat z) (Hu e z hz v hv iz.toNat) (by rw [hlen]; unfold maxLen; omega) (by omega)
    rw [hlen] at hnew
    refine Qj.val ho hd (v := .slice (some ⟨w.heap.size, 0, none⟩) (List.replicate iz.toNat z).length iz.toNat) (w' := w.alloc (.cells (madeCells #[v] iz.toNat) E)) (fun o hop => ?_) (next _ _ hnew hlen)
    unfold execOp; rw [hop, hlen]
    simp only [hx, hy, Sem.run_bind, hr, Result.andThen_ok]
    rfl
end
end Go.Proofs.YtmgfanhcdfobhaaGreatDoor
