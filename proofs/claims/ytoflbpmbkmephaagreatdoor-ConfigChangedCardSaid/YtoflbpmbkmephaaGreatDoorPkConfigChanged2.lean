import Derived.Test.YtoflbpmbkmephaaGreatDoorPkConfigChanged1
set_option linter.unusedSimpArgs false
set_option linter.unusedVariables false
set_option linter.unusedSectionVars false
set_option maxRecDepth 100000
set_option maxHeartbeats 40000000
namespace Go.Proofs.YtoflbpmbkmephaaGreatDoor
open Go.RowKit
def Xi (v5 : Bool) : Option (Bool) :=
  (some (v5))
def Ze (p1 : Int) (p2 : Int) (p3 : Int) : Option (Bool) :=
  (cond (decide (p1 ≥ p2)) (Xi (decide (p1 ≤ p3))) (Xi false))
set_option maxHeartbeats 40000000 in
theorem Zw  (p1 : Int) (p2 : Int) (p3 : Int) (w0 : World)  (r : (Bool)) (H : Ze p1 p2 p3 = some r) :
  Calls Tryz.prog 48 #[(.int .i64 p1), (.int .i64 p2), (.int .i64 p3)] w0 (fun e w' => e = .returned (.bool r) ∧ SP [] w0 w' []) := by
 unfold Ze at H
 refine Qx (n := 15) Tryz.func48 K K K ?_
 have c := Qz [] w0
 refine aQ ?_
 refine aR ?_
 refine iR 1 1 [(6, (.bool false))] ?_
 refine iF ?_
 refine aQ ?_
 refine At.join (fun ρ w => ∃ (v5 : Bool), V8 ρ [(6, (.bool v5))] ∧ SP [] w0 w [] ∧ Xi v5 = some r) ?_ ?_
 ·refine aR ?_
  refine iR 4 4 [(7, (.int .i64 p1)), (8, (.int .i64 p2)), (9, (.bool (decide (p1 ≥ p2)))), (10, (.bool (decide (p1 ≥ p2))))] ?_
  refine In.guard (t := 10) (b := (decide (p1 ≥ p2))) K (fun a => ?_) (fun a => ?_)
  ·have H := ct H a
   refine iR 5 9 [(11, (.int .i64 p1)), (12, (.int .i64 p3)), (13, (.bool (decide (p1 ≤ p3)))), (14, (.bool (decide (p1 ≤ p3)))), (6, (.bool (decide (p1 ≤ p3))))] ?_
   refine iF ?_
   exact ⟨(decide (p1 ≤ p3)), ⟨K, trivial⟩, SP.sel c [] rfl rfl, H⟩
  ·have H := cf H a
   refine iR 5 9 [(11, undef), (12, undef), (13, undef), (14, (.bool false)), (6, (.bool false))] ?_
   refine iF ?_
   exact ⟨false, ⟨K, trivial⟩, SP.sel c [] rfl rfl, H⟩
 ·rintro ρ w6 ⟨v5, hk, d, H⟩
  unfold Xi at H
  first | refine At.known [(6, (.bool v5))] hk ?_ | rw [← Q0 (l := [(6, (.bool v5))]) hk]
  refine At.ret K ?_
  refine ⟨(.bool v5), K, ?_⟩
  obtain rfl := Qg H
  exact ⟨rfl, SP.sel d [] rfl rfl⟩
def Qy (c : Int → Option (Int)) (p1 : (List (Int × Int))) (p5 : (Int → Int → Option (Bool))) (a : Int) : Option (Int) :=
  (cond (decide (a < ((List.length p1 : Nat) : Int))) ((idx p1 a).bind fun b => ((p5 b.1 b.2).bind fun d => (cond d (some (a)) (c (IntKind.wrap .i64 (a + 1)))))) (some ((-1))))
def Qo (p1 : (List (Int × Int))) (p5 : (Int → Int → Option (Bool))) : Nat → Int → Option (Int)
  | 0, _ => none
  | f + 1, a => Qy  (Qo p1 p5 f) p1 p5 a
def Vw (p1 : (List (Int × Int))) (p5 : (Int → Int → Option (Bool))) : Option (Int) :=
  (Qo p1 p5 Yg 0)
set_option maxHeartbeats 40000000 in
theorem Yn (A2 : Option Addr) (c3 : Nat) (g : FuncId) (h : Array Value) (p1 : (List (Int × Int))) (p5 : (Int → Int → Option (Bool))) (w0 : World) (q : RdT (Qh (Q8 .u32) (Q8 .i64)) w0 A2 c3 p1) (hcf8 : ∀ (args : Array Value) (w : World), (callFunc g args).run Tryz.prog w = .ok (.enter g args) w) (a1 : ∀ (y0 : Int) (y1 : Int) (z : (Bool)) (w : World), Below w0.heap.size w0 w → p5 y0 y1 = some z → Calls Tryz.prog g (([(.agg #[(.int .u32 y0), (.int .i64 y1)])] : List Value) ++ (h).toList).toArray w (fun e w' => e = .returned (.bool z) ∧ SP [] w w' [])) (r : (Int)) (H : Vw p1 p5 = some r) :
  Calls Tryz.prog 147 #[(.slice A2 (List.length p1) c3), (.func (.func g) #[] h)] w0 (fun e w' => e = .returned (.int .i64 r) ∧ SP [] w0 w' []) := by
 unfold Vw at H
 refine Qx (n := 19) Tryz.func147 K K K ?_
 have a2 := Qz [] w0
 refine aQ ?_
 refine aR ?_
 refine iR 1 1 [(4, (.int .i64 0))] ?_
 refine iF ?_
 refine aQ ?_
 refine aQ ?_
 refine aR ?_
 refine iR 3 3 [(6, (.slice A2 (List.length p1) c3)), (7, (.int .i64 ((List.length p1 : Nat) : Int))), (8, (.int .i64 0))] ?_
 refine iF ?_
 refine Yz K (id := 0) K ?_
 refine G1 K (fun f1 ρ w => ∃ (a : Int), V8 ρ [(0, (.slice A2 (List.length p1) c3)), (1, (.func (.func g) #[] h)), (7, (.int .i64 ((List.length p1 : Nat) : Int))), (8, (.int .i64 a))] ∧ SP [] w0 w [] ∧ Qo p1 p5 f1 a = some r) (by rintro ρ w ⟨a, hk, hs, H⟩; cases H) ?_ Yg ?_
 ·rintro f1 ρ a3 ⟨a, hk, j, H⟩
  refine At.known [(0, (.slice A2 (List.length p1) c3)), (1, (.func (.func g) #[] h)), (7, (.int .i64 ((List.length p1 : Nat) : Int))), (8, (.int .i64 a))] hk ?_
  replace H := (show Qy (Qo p1 p5 f1) p1 p5 a = some r from H)
  unfold Qy at H
  refine aQ ?_
  refine aR ?_
  refine iR 1 1 [(9, (.bool (decide (a < ((List.length p1 : Nat) : Int)))))] ?_
  refine iF ?_
  refine aQ ?_
  refine Z3 K (o := (.tmp 9)) K (b := (decide (a < ((List.length p1 : Nat) : Int)))) K (fun m => ?_) (fun m => ?_)
  ·have H := ct H m
   refine At.skip K ?_
   refine aQ ?_
   refine Yz K (id := 1) K ?_
   refine aQ ?_
   refine aR ?_
   refine iR 2 2 [(10, (.int .i64 a)), (5, (.int .i64 a))] ?_
   refine iF ?_
   refine aQ ?_
   refine aR ?_
   refine iR 3 3 [(11, (.func (.func g) #[] h)), (12, (.slice A2 (List.length p1) c3)), (13, (.int .i64 a))] ?_
   obtain ⟨i, s, u, a4, H⟩ := Vl H
   refine iS 4 ?_
   refine Qn (e := (Qh (Q8 .u32) (Q8 .i64))) (l := p1) (A := A2) (c := c3) (T := 30) (E := 102) (x := (.tmp 12)) (ix := (.tmp 13)) (ki := .i64) (iz := a) (d := (some 14)) (k := 3) K rfl K K K K (RdT.sp q j) s u ?_
   intro a5 a6 a7 a9 hc55
   refine iS 5 ?_
   refine Qi.cells (t := 102) (x := (.tmp 14)) (b := a5) (off := (a6 + Int.toNat a * (Qh (Q8 .u32) (Q8 .i64)).sz)) (xs := [(.int .u32 i.1), (.int .i64 i.2)]) (d := (some 15)) (k := 4) K rfl K K K (Vy (e := (Qh (Q8 .u32) (Q8 .i64))) (Ql (RdT.sp q j) a7 s u) a4 rfl) ?_
   obtain ⟨v, a8, H⟩ := Qd H
   refine iS 6 ?_
   refine Z4 (f := g) (fo := (.tmp 11)) (xs := #[(.tmp 15)]) (tys := #[102]) (first := #[]) (captured := h) (args := (([(.agg #[(.int .u32 i.1), (.int .i64 i.2)])] : List Value) ++ (h).toList)) (d := (some 16)) (k := 5) K rfl K K hcf8 (a1 i.1 i.2 v a3  (SP.keeps j)  a8) ?_
   rintro e b0 ⟨rfl, y⟩
   refine ⟨_, rfl, ?_⟩
   have a0 := SP.call j y
   clear y
   refine iF ?_
   refine Z3 K (o := (.tmp 16)) K (b := v) K (fun p => ?_) (fun p => ?_)
   ·have H := ct H p
    refine aQ ?_
    refine aR ?_
    refine iR 2 2 [(17, (.int .i64 a)), (4, (.int .i64 a))] ?_
    refine iF ?_
    refine At.ret K ?_
    refine ⟨(.int .i64 a), K, ?_⟩
    obtain rfl := Qg H
    exact ⟨rfl, SP.sel a0 [] rfl rfl⟩
   ·have H := cf H p
    refine At.skip K ?_
    refine aR ?_
    refine iR 2 2 [(18, (.int .i64 (IntKind.wrap .i64 (a + 1)))), (8, (.int .i64 (IntKind.wrap .i64 (a + 1))))] ?_
    refine iF ?_
    exact ⟨(IntKind.wrap .i64 (a + 1)), ⟨K, K, K, K, trivial⟩, SP.sel a0 [] rfl rfl, H⟩
  ·have H := cf H m
   refine At.exit K (id := 0) K ?_
   refine aQ ?_
   refine aR ?_
   refine iR 1 1 [(4, (.int .i64 (-1)))] ?_
   refine iF ?_
   refine At.ret K ?_
   refine ⟨(.int .i64 (-1)), K, ?_⟩
   obtain rfl := Qg H
   exact ⟨rfl, SP.sel j [] rfl rfl⟩
 ·exact ⟨0, ⟨K, K, K, K, trivial⟩, SP.sel a2 [] rfl rfl, H⟩
def Vg (p1 : (List (Int × Int))) (p5 : (Int → Int → Option (Bool))) : Option (Bool) :=
  ((Vw p1 p5).bind fun a => (some ((decide (a ≥ 0)))))
set_option maxHeartbeats 40000000 in
theorem X7 (A2 : Option Addr) (c3 : Nat) (a : FuncId) (b : Array Value) (p1 : (List (Int × Int))) (p5 : (Int → Int → Option (Bool))) (w0 : World) (g : RdT (Qh (Q8 .u32) (Q8 .i64)) w0 A2 c3 p1) (hcf8 : ∀ (args : Array Value) (w : World), (callFunc a args).run Tryz.prog w = .ok (.enter a args) w) (h : ∀ (y0 : Int) (y1 : Int) (z : (Bool)) (w : World), Below w0.heap.size w0 w → p5 y0 y1 = some z → Calls Tryz.prog a (([(.agg #[(.int .u32 y0), (.int .i64 y1)])] : List Value) ++ (b).toList).toArray w (fun e w' => e = .returned (.bool z) ∧ SP [] w w' [])) (r : (Bool)) (H : Vg p1 p5 = some r) :
  Calls Tryz.prog 96 #[(.slice A2 (List.length p1) c3), (.func (.func a) #[] b)] w0 (fun e w' => e = .returned (.bool r) ∧ SP [] w0 w' []) := by
 unfold Vg at H
 refine Qx (n := 9) Tryz.func96 K K K ?_
 have d := Qz [] w0
 refine aQ ?_
 refine aR ?_
 refine iR 1 1 [(4, (.bool false))] ?_
 refine iF ?_
 refine aQ ?_
 refine aR ?_
 refine iR 2 2 [(5, (.slice A2 (List.length p1) c3)), (6, (.func (.func a) #[] b))] ?_
 obtain ⟨c, i, H⟩ := Qd H
 refine iS 3 ?_
 refine cF 147 #[(.tmp 5), (.tmp 6)] #[30, 154] 7 Tryz.call147 (Yn A2 c3 a b p1 p5 w0 (RdT.sp g d) hcf8 (fun y0 y1 z w  hw  hz => h y0 y1 z w  (Gx d hw)  hz) c i) ?_
 rintro e k ⟨rfl, f⟩
 refine ⟨_, rfl, ?_⟩
 have j := SP.call d f
 clear f
 refine iR 2 5 [(8, (.bool (decide (c ≥ 0)))), (4, (.bool (decide (c ≥ 0))))] ?_
 refine iF ?_
 refine At.ret K ?_
 refine ⟨(.bool (decide (c ≥ 0))), K, ?_⟩
 obtain rfl := Qg H
 exact ⟨rfl, SP.sel j [] rfl rfl⟩
def Qt (c : Int → Option (Int)) (p1 : (List ((List UInt8) × (List UInt8) × Int))) (p5 : ((List UInt8) → (List UInt8) → Int → Option (Bool))) (a : Int) : Option (Int) :=
  (cond (decide (a < ((List.length p1 : Nat) : Int))) ((idx p1 a).bind fun b => ((p5 b.1 b.2.1 b.2.2).bind fun d => (cond d (some (a)) (c (IntKind.wrap .i64 (a + 1)))))) (some ((-1))))
def Qk (p1 : (List ((List UInt8) × (List UInt8) × Int))) (p5 : ((List UInt8) → (List UInt8) → Int → Option (Bool))) : Nat → Int → Option (Int)
  | 0, _ => none
  | f + 1, a => Qt  (Qk p1 p5 f) p1 p5 a
def Vb (p1 : (List ((List UInt8) × (List UInt8) × Int))) (p5 : ((List UInt8) → (List UInt8) → Int → Option (Bool))) : Option (Int) :=
  (Qk p1 p5 Yg 0)
set_option maxHeartbeats 40000000 in
theorem Zf (A2 : Option Addr) (c3 : Nat) (h : FuncId) (i : Array Value) (p1 : (List ((List UInt8) × (List UInt8) × Int))) (p5 : ((List UInt8) → (List UInt8) → Int → Option (Bool))) (w0 : World) (q : RdT (Qh Qm (Qh Qm (Q8 .i64))) w0 A2 c3 p1) (hcf8 : ∀ (args : Array Value) (w : World), (callFunc h args).run Tryz.prog w = .ok (.enter h args) w) (a1 : ∀ (y0 : (List UInt8)) (y1 : (List UInt8)) (y2 : Int) (z : (Bool)) (w : World), Below w0.heap.size w0 w → p5 y0 y1 y2 = some z → Calls Tryz.prog h (([(.agg #[(.string ⟨List.toArray y0⟩), (.string ⟨List.toArray y1⟩), (.int .i64 y2)])] : List Value) ++ (i).toList).toArray w (fun e w' => e = .returned (.bool z) ∧ SP [] w w' [])) (r : (Int)) (H : Vb p1 p5 = some r) :
  Calls Tryz.prog 46 #[(.slice A2 (List.length p1) c3), (.func (.func h) #[] i)] w0 (fun e w' => e = .returned (.int .i64 r) ∧ SP [] w0 w' []) := by
 unfold Vb at H
 refine Qx (n := 19) Tryz.func46 K K K ?_
 have a2 := Qz [] w0
 refine aQ ?_
 refine aR ?_
 refine iR 1 1 [(4, (.int .i64 0))] ?_
 refine iF ?_
 refine aQ ?_
 refine aQ ?_
 refine aR ?_
 refine iR 3 3 [(6, (.slice A2 (List.length p1) c3)), (7, (.int .i64 ((List.length p1 : Nat) : Int))), (8, (.int .i64 0))] ?_
 refine iF ?_
 refine Yz K (id := 0) K ?_
 refine G1 K (fun f1 ρ w => ∃ (a : Int), V8 ρ [(0, (.slice A2 (List.length p1) c3)), (1, (.func (.func h) #[] i)), (7, (.int .i64 ((List.length p1 : Nat) : Int))), (8, (.int .i64 a))] ∧ SP [] w0 w [] ∧ Qk p1 p5 f1 a = some r) (by rintro ρ w ⟨a, hk, hs, H⟩; cases H) ?_ Yg ?_
 ·rintro f1 ρ a3 ⟨a, hk, j, H⟩
  refine At.known [(0, (.slice A2 (List.length p1) c3)), (1, (.func (.func h) #[] i)), (7, (.int .i64 ((List.length p1 : Nat) : Int))), (8, (.int .i64 a))] hk ?_
  replace H := (show Qt (Qk p1 p5 f1) p1 p5 a = some r from H)
  unfold Qt at H
  refine aQ ?_
  refine aR ?_
  refine iR 1 1 [(9, (.bool (decide (a < ((List.length p1 : Nat) : Int)))))] ?_
  refine iF ?_
  refine aQ ?_
  refine Z3 K (o := (.tmp 9)) K (b := (decide (a < ((List.length p1 : Nat) : Int)))) K (fun m => ?_) (fun m => ?_)
  ·have H := ct H m
   refine At.skip K ?_
   refine aQ ?_
   refine Yz K (id := 1) K ?_
   refine aQ ?_
   refine aR ?_
   refine iR 2 2 [(10, (.int .i64 a)), (5, (.int .i64 a))] ?_
   refine iF ?_
   refine aQ ?_
   refine aR ?_
   refine iR 3 3 [(11, (.func (.func h) #[] i)), (12, (.slice A2 (List.length p1) c3)), (13, (.int .i64 a))] ?_
   obtain ⟨g, s, u, a4, H⟩ := Vl H
   refine iS 4 ?_
   refine Qn (e := (Qh Qm (Qh Qm (Q8 .i64)))) (l := p1) (A := A2) (c := c3) (T := 31) (E := 37) (x := (.tmp 12)) (ix := (.tmp 13)) (ki := .i64) (iz := a) (d := (some 14)) (k := 3) K rfl K K K K (RdT.sp q j) s u ?_
   intro a5 a6 a7 a9 hc55
   refine iS 5 ?_
   refine Qi.cells (t := 37) (x := (.tmp 14)) (b := a5) (off := (a6 + Int.toNat a * (Qh Qm (Qh Qm (Q8 .i64))).sz)) (xs := [(.string ⟨List.toArray g.1⟩), (.string ⟨List.toArray g.2.1⟩), (.int .i64 g.2.2)]) (d := (some 15)) (k := 4) K rfl K K K (Vy (e := (Qh Qm (Qh Qm (Q8 .i64)))) (Ql (RdT.sp q j) a7 s u) a4 rfl) ?_
   obtain ⟨v, a8, H⟩ := Qd H
   refine iS 6 ?_
   refine Z4 (f := h) (fo := (.tmp 11)) (xs := #[(.tmp 15)]) (tys := #[37]) (first := #[]) (captured := i) (args := (([(.agg #[(.string ⟨List.toArray g.1⟩), (.string ⟨List.toArray g.2.1⟩), (.int .i64 g.2.2)])] : List Value) ++ (i).toList)) (d := (some 16)) (k := 5) K rfl K K hcf8 (a1 g.1 g.2.1 g.2.2 v a3  (SP.keeps j)  a8) ?_
   rintro e b0 ⟨rfl, y⟩
   refine ⟨_, rfl, ?_⟩
   have a0 := SP.call j y
   clear y
   refine iF ?_
   refine Z3 K (o := (.tmp 16)) K (b := v) K (fun p => ?_) (fun p => ?_)
   ·have H := ct H p
    refine aQ ?_
    refine aR ?_
    refine iR 2 2 [(17, (.int .i64 a)), (4, (.int .i64 a))] ?_
    refine iF ?_
    refine At.ret K ?_
    refine ⟨(.int .i64 a), K, ?_⟩
    obtain rfl := Qg H
    exact ⟨rfl, SP.sel a0 [] rfl rfl⟩
   ·have H := cf H p
    refine At.skip K ?_
    refine aR ?_
    refine iR 2 2 [(18, (.int .i64 (IntKind.wrap .i64 (a + 1)))), (8, (.int .i64 (IntKind.wrap .i64 (a + 1))))] ?_
    refine iF ?_
    exact ⟨(IntKind.wrap .i64 (a + 1)), ⟨K, K, K, K, trivial⟩, SP.sel a0 [] rfl rfl, H⟩
  ·have H := cf H m
   refine At.exit K (id := 0) K ?_
   refine aQ ?_
   refine aR ?_
   refine iR 1 1 [(4, (.int .i64 (-1)))] ?_
   refine iF ?_
   refine At.ret K ?_
   refine ⟨(.int .i64 (-1)), K, ?_⟩
   obtain rfl := Qg H
   exact ⟨rfl, SP.sel j [] rfl rfl⟩
 ·exact ⟨0, ⟨K, K, K, K, trivial⟩, SP.sel a2 [] rfl rfl, H⟩
def Q6 (p1 : (List ((List UInt8) × (List UInt8) × Int))) (p5 : ((List UInt8) → (List UInt8) → Int → Option (Bool))) : Option (Bool) :=
  ((Vb p1 p5).bind fun a => (some ((decide (a ≥ 0)))))
set_option maxHeartbeats 40000000 in
theorem Xw (A2 : Option Addr) (c3 : Nat) (a : FuncId) (b : Array Value) (p1 : (List ((List UInt8) × (List UInt8) × Int))) (p5 : ((List UInt8) → (List UInt8) → Int → Option (Bool))) (w0 : World) (g : RdT (Qh Qm (Qh Qm (Q8 .i64))) w0 A2 c3 p1) (hcf8 : ∀ (args : Array Value) (w : World), (callFunc a args).run Tryz.prog w = .ok (.enter a args) w) (h : ∀ (y0 : (List UInt8)) (y1 : (List UInt8)) (y2 : Int) (z : (Bool)) (w : World), Below w0.heap.size w0 w → p5 y0 y1 y2 = some z → Calls Tryz.prog a (([(.agg #[(.string ⟨List.toArray y0⟩), (.string ⟨List.toArray y1⟩), (.int .i64 y2)])] : List Value) ++ (b).toList).toArray w (fun e w' => e = .returned (.bool z) ∧ SP [] w w' [])) (r : (Bool)) (H : Q6 p1 p5 = some r) :
  Calls Tryz.prog 98 #[(.slice A2 (List.length p1) c3), (.func (.func a) #[] b)] w0 (fun e w' => e = .returned (.bool r) ∧ SP [] w0 w' []) := by
 unfold Q6 at H
 refine Qx (n := 9) Tryz.func98 K K K ?_
 have d := Qz [] w0
 refine aQ ?_
 refine aR ?_
 refine iR 1 1 [(4, (.bool false))] ?_
 refine iF ?_
 refine aQ ?_
 refine aR ?_
 refine iR 2 2 [(5, (.slice A2 (List.length p1) c3)), (6, (.func (.func a) #[] b))] ?_
 obtain ⟨c, i, H⟩ := Qd H
 refine iS 3 ?_
 refine cF 46 #[(.tmp 5), (.tmp 6)] #[31, 84] 7 Tryz.call46 (Zf A2 c3 a b p1 p5 w0 (RdT.sp g d) hcf8 (fun y0 y1 y2 z w  hw  hz => h y0 y1 y2 z w  (Gx d hw)  hz) c i) ?_
 rintro e k ⟨rfl, f⟩
 refine ⟨_, rfl, ?_⟩
 have j := SP.call d f
 clear f
 refine iR 2 5 [(8, (.bool (decide (c ≥ 0)))), (4, (.bool (decide (c ≥ 0))))] ?_
 refine iF ?_
 refine At.ret K ?_
 refine ⟨(.bool (decide (c ≥ 0))), K, ?_⟩
 obtain rfl := Qg H
 exact ⟨rfl, SP.sel j [] rfl rfl⟩
def Qq (c : Int → Option (Int)) (p1 : (List Qc)) (p6 : ((List UInt8) → Int → Int → (List (Int × Int)) → (List ((List UInt8) × (List UInt8) × Int)) → Option (Bool))) (b : Int) : Option (Int) :=
  (cond (decide (b < ((List.length p1 : Nat) : Int))) ((idx p1 b).bind fun a => ((p6 a.1 a.2.1 a.2.2.1 a.2.2.2.1 a.2.2.2.2).bind fun d => (cond d (some (b)) (c (IntKind.wrap .i64 (b + 1)))))) (some ((-1))))
def Qj (p1 : (List Qc)) (p6 : ((List UInt8) → Int → Int → (List (Int × Int)) → (List ((List UInt8) × (List UInt8) × Int)) → Option (Bool))) : Nat → Int → Option (Int)
  | 0, _ => none
  | f + 1, a => Qq  (Qj p1 p6 f) p1 p6 a
def Q9 (p1 : (List Qc)) (p6 : ((List UInt8) → Int → Int → (List (Int × Int)) → (List ((List UInt8) × (List UInt8) × Int)) → Option (Bool))) : Option (Int) :=
  (Qj p1 p6 Yg 0)
set_option maxHeartbeats 40000000 in
theorem Za (A2 : Option Addr) (c3 : Nat) (h : FuncId) (i : Array Value) (d5 : (List Qe)) (p6 : ((List UInt8) → Int → Int → (List (Int × Int)) → (List ((List UInt8) × (List UInt8) × Int)) → Option (Bool))) (w0 : World) (m : (dDS Vr B3).ok w0 (A2, c3, d5)) (hcf9 : ∀ (args : Array Value) (w : World), (callFunc h args).run Tryz.prog w = .ok (.enter h args) w) (a2 : ∀ (y0 : (List UInt8)) (y1 : Int) (y2 : Int) (y3 : (List (Int × Int))) (y4 : (List ((List UInt8) × (List UInt8) × Int))) (z : (Bool)) (w : World) (Ay3 : Option Addr) (cy3 : Nat) (Ay4 : Option Addr) (cy4 : Nat), Below w0.heap.size w0 w → RdT (Qh (Q8 .u32) (Q8 .i64)) w Ay3 cy3 y3 → RdT (Qh Qm (Qh Qm (Q8 .i64))) w Ay4 cy4 y4 → p6 y0 y1 y2 y3 y4 = some z → Calls Tryz.prog h (([(.agg #[(.string ⟨List.toArray y0⟩), (.int .i64 y1), (.int .i64 y2), (.slice Ay3 (List.length y3) cy3), (.slice Ay4 (List.length y4) cy4)])] : List Value) ++ (i).toList).toArray w (fun e w' => e = .returned (.bool z) ∧ SP [] w w' [])) (r : (Int)) (H : Q9 (List.map stT d5) p6 = some r) :
  Calls Tryz.prog 44 #[(.slice A2 (List.length (List.map stT d5)) c3), (.func (.func h) #[] i)] w0 (fun e w' => e = .returned (.int .i64 r) ∧ SP [] w0 w' []) := by
 unfold Q9 at H
 refine Qx (n := 19) Tryz.func44 K K K ?_
 have a3 := Qz [] w0
 refine aQ ?_
 refine aR ?_
 refine iR 1 1 [(4, (.int .i64 0))] ?_
 refine iF ?_
 refine aQ ?_
 refine aQ ?_
 refine aR ?_
 refine iR 3 3 [(6, (.slice A2 (List.length (List.map stT d5)) c3)), (7, (.int .i64 ((List.length (List.map stT d5) : Nat) : Int))), (8, (.int .i64 0))] ?_
 refine iF ?_
 refine Yz K (id := 0) K ?_
 refine G1 K (fun f1 ρ w => ∃ (g : Int), V8 ρ [(0, (.slice A2 (List.length (List.map stT d5)) c3)), (1, (.func (.func h) #[] i)), (7, (.int .i64 ((List.length (List.map stT d5) : Nat) : Int))), (8, (.int .i64 g))] ∧ SP [] w0 w [] ∧ Qj (List.map stT d5) p6 f1 g = some r) (by rintro ρ w ⟨g, hk, hs, H⟩; cases H) ?_ Yg ?_
 ·rintro f1 ρ a4 ⟨g, hk, j, H⟩
  refine At.known [(0, (.slice A2 (List.length (List.map stT d5)) c3)), (1, (.func (.func h) #[] i)), (7, (.int .i64 ((List.length (List.map stT d5) : Nat) : Int))), (8, (.int .i64 g))] hk ?_
  replace H := (show Qq (Qj (List.map stT d5) p6 f1) (List.map stT d5) p6 g = some r from H)
  unfold Qq at H
  refine aQ ?_
  refine aR ?_
  refine iR 1 1 [(9, (.bool (decide (g < ((List.length (List.map stT d5) : Nat) : Int)))))] ?_
  refine iF ?_
  refine aQ ?_
  refine Z3 K (o := (.tmp 9)) K (b := (decide (g < ((List.length (List.map stT d5) : Nat) : Int)))) K (fun p => ?_) (fun p => ?_)
  ·have H := ct H p
   refine At.skip K ?_
   refine aQ ?_
   refine Yz K (id := 1) K ?_
   refine aQ ?_
   refine aR ?_
   refine iR 2 2 [(10, (.int .i64 g)), (5, (.int .i64 g))] ?_
   refine iF ?_
   refine aQ ?_
   refine aR ?_
   refine iR 3 3 [(11, (.func (.func h) #[] i)), (12, (.slice A2 (List.length (List.map stT d5)) c3)), (13, (.int .i64 g))] ?_
   obtain ⟨a, u, v, q, H⟩ := Jm H
   refine iS 4 ?_
   refine Xf stT (e := Vr) (l := d5) (A := A2) (c := c3) (T := 22) (E := 33) (x := (.tmp 12)) (ix := (.tmp 13)) (ki := .i64) (iz := g) (d := (some 14)) (k := 3) K rfl K K K K (RdT.sp (Xu m) j) u v ?_
   intro a5 a6 a7 a9 hc59
   refine iS 5 ?_
   refine Qi.cells (t := 33) (x := (.tmp 14)) (b := a5) (off := (a6 + Int.toNat g * Vr.sz)) (xs := [(.string ⟨List.toArray (stT a).1⟩), (.int .i64 (stT a).2.1), (.int .i64 (stT a).2.2.1), (.slice a.2.2.2.1.1 (List.length (stT a).2.2.2.1) a.2.2.2.1.2.1), (.slice a.2.2.2.2.1 (List.length (stT a).2.2.2.2) a.2.2.2.2.2.1)]) (d := (some 15)) (k := 4) K rfl K K K (Vy (e := Vr) (Ql (RdT.sp (Xu m) j) a7 u v) q rfl) ?_
   obtain ⟨y, a8, H⟩ := Qd H
   refine iS 6 ?_
   refine Z4 (f := h) (fo := (.tmp 11)) (xs := #[(.tmp 15)]) (tys := #[33]) (first := #[]) (captured := i) (args := (([(.agg #[(.string ⟨List.toArray (stT a).1⟩), (.int .i64 (stT a).2.1), (.int .i64 (stT a).2.2.1), (.slice a.2.2.2.1.1 (List.length (stT a).2.2.2.1) a.2.2.2.1.2.1), (.slice a.2.2.2.2.1 (List.length (stT a).2.2.2.2) a.2.2.2.2.2.1)])] : List Value) ++ (i).toList)) (d := (some 16)) (k := 5) K rfl K K hcf9 (a2 (stT a).1 (stT a).2.1 (stT a).2.2.1 (stT a).2.2.2.1 (stT a).2.2.2.2 y a4 a.2.2.2.1.1 a.2.2.2.1.2.1 a.2.2.2.2.1 a.2.2.2.2.2.1 (SP.keeps j) (RdT.sp (Xu (dp1 (dp2 (dp2 (dp2 (Gb m q)))))) j) (RdT.sp (Xu (dp2 (dp2 (dp2 (dp2 (Gb m q)))))) j) a8) ?_
   rintro e b0 ⟨rfl, a0⟩
   refine ⟨_, rfl, ?_⟩
   have a1 := SP.call j a0
   clear a0
   refine iF ?_
   refine Z3 K (o := (.tmp 16)) K (b := y) K (fun s => ?_) (fun s => ?_)
   ·have H := ct H s
    refine aQ ?_
    refine aR ?_
    refine iR 2 2 [(17, (.int .i64 g)), (4, (.int .i64 g))] ?_
    refine iF ?_
    refine At.ret K ?_
    refine ⟨(.int .i64 g), K, ?_⟩
    obtain rfl := Qg H
    exact ⟨rfl, SP.sel a1 [] rfl rfl⟩
   ·have H := cf H s
    refine At.skip K ?_
    refine aR ?_
    refine iR 2 2 [(18, (.int .i64 (IntKind.wrap .i64 (g + 1)))), (8, (.int .i64 (IntKind.wrap .i64 (g + 1))))] ?_
    refine iF ?_
    exact ⟨(IntKind.wrap .i64 (g + 1)), ⟨K, K, K, K, trivial⟩, SP.sel a1 [] rfl rfl, H⟩
  ·have H := cf H p
   refine At.exit K (id := 0) K ?_
   refine aQ ?_
   refine aR ?_
   refine iR 1 1 [(4, (.int .i64 (-1)))] ?_
   refine iF ?_
   refine At.ret K ?_
   refine ⟨(.int .i64 (-1)), K, ?_⟩
   obtain rfl := Qg H
   exact ⟨rfl, SP.sel j [] rfl rfl⟩
 ·exact ⟨0, ⟨K, K, K, K, trivial⟩, SP.sel a3 [] rfl rfl, H⟩
def Q2 (p1 : (List Qc)) (p6 : ((List UInt8) → Int → Int → (List (Int × Int)) → (List ((List UInt8) × (List UInt8) × Int)) → Option (Bool))) : Option (Bool) :=
  ((Q9 p1 p6).bind fun a => (some ((decide (a ≥ 0)))))
set_option maxHeartbeats 40000000 in
theorem Xj (A2 : Option Addr) (c3 : Nat) (a : FuncId) (b : Array Value) (d5 : (List Qe)) (p6 : ((List UInt8) → Int → Int → (List (Int × Int)) → (List ((List UInt8) × (List UInt8) × Int)) → Option (Bool))) (w0 : World) (g : (dDS Vr B3).ok w0 (A2, c3, d5)) (hcf9 : ∀ (args : Array Value) (w : World), (callFunc a args).run Tryz.prog w = .ok (.enter a args) w) (h : ∀ (y0 : (List UInt8)) (y1 : Int) (y2 : Int) (y3 : (List (Int × Int))) (y4 : (List ((List UInt8) × (List UInt8) × Int))) (z : (Bool)) (w : World) (Ay3 : Option Addr) (cy3 : Nat) (Ay4 : Option Addr) (cy4 : Nat), Below w0.heap.size w0 w → RdT (Qh (Q8 .u32) (Q8 .i64)) w Ay3 cy3 y3 → RdT (Qh Qm (Qh Qm (Q8 .i64))) w Ay4 cy4 y4 → p6 y0 y1 y2 y3 y4 = some z → Calls Tryz.prog a (([(.agg #[(.string ⟨List.toArray y0⟩), (.int .i64 y1), (.int .i64 y2), (.slice Ay3 (List.length y3) cy3), (.slice Ay4 (List.length y4) cy4)])] : List Value) ++ (b).toList).toArray w (fun e w' => e = .returned (.bool z) ∧ SP [] w w' [])) (r : (Bool)) (H : Q2 (List.map stT d5) p6 = some r) :
  Calls Tryz.prog 49 #[(.slice A2 (List.length (List.map stT d5)) c3), (.func (.func a) #[] b)] w0 (fun e w' => e = .returned (.bool r) ∧ SP [] w0 w' []) := by
 unfold Q2 at H
 refine Qx (n := 9) Tryz.func49 K K K ?_
 have d := Qz [] w0
 refine aQ ?_
 refine aR ?_
 refine iR 1 1 [(4, (.bool false))] ?_
 refine iF ?_
 refine aQ ?_
 refine aR ?_
 refine iR 2 2 [(5, (.slice A2 (List.length (List.map stT d5)) c3)), (6, (.func (.func a) #[] b))] ?_
 obtain ⟨c, i, H⟩ := Qd H
 refine iS 3 ?_
 refine cF 44 #[(.tmp 5), (.tmp 6)] #[22, 82] 7 Tryz.call44 (Za A2 c3 a b d5 p6 w0 (Dp.sp g d) hcf9 (fun y0 y1 y2 y3 y4 z w Ay3 cy3 Ay4 cy4 hw hy3 hy4 hz => h y0 y1 y2 y3 y4 z w Ay3 cy3 Ay4 cy4 (Gx d hw) hy3 hy4 hz) c i) ?_
 rintro e k ⟨rfl, f⟩
 refine ⟨_, rfl, ?_⟩
 have j := SP.call d f
 clear f
 refine iR 2 5 [(8, (.bool (decide (c ≥ 0)))), (4, (.bool (decide (c ≥ 0))))] ?_
 refine iF ?_
 refine At.ret K ?_
 refine ⟨(.bool (decide (c ≥ 0))), K, ?_⟩
 obtain rfl := Qg H
 exact ⟨rfl, SP.sel j [] rfl rfl⟩
def Z6 (a : Int) (b : Int) : Option (Bool) :=
  ((Yb a b).bind fun z7 => (some ((z7 == ([] : List UInt8)))))
set_option maxHeartbeats 40000000 in
theorem Gc  (c : Int) (f : Int) (w0 : World) (hL : Ub w0)  (r : (Bool)) (H : Z6 c f = some r) :
  Calls Tryz.prog 97 #[(.agg #[(.int .u32 c), (.int .i64 f)])] w0 (fun e w' => e = .returned (.bool r) ∧ SP [] w0 w' []) := by
 unfold Z6 at H
 refine Qx (n := 6) Tryz.func97 K K K ?_
 have i := Qz [] w0
 refine aQ ?_
 refine aR ?_
 refine iS 1 ?_
 refine Zp (t := 102) (x := (.tmp 0)) (v := (.agg #[(.int .u32 c), (.int .i64 f)])) (d := (some 1)) (k := 0) K rfl K i ?_
 intro g3 w4 g
 refine iR 1 2 [(2, (.bool false))] ?_
 refine iF ?_
 refine aQ ?_
 refine aR ?_
 refine iS 1 ?_
 refine sL 102 1 g3 0 0 (.agg #[(.int .u32 c), (.int .i64 f)]) 3 g rfl ?_
 obtain ⟨z7, j, H⟩ := Qd H
 refine iS 2 ?_
 refine cF 60 #[(.tmp 3)] #[102] 4 Tryz.call60 (Un  c f w4 (Qv hL (SP.keeps g)) z7 j) ?_
 rintro e w9 ⟨rfl, h⟩
 refine ⟨_, rfl, ?_⟩
 have l := SP.call g h
 clear h
 refine iS 3 ?_
 refine Xd (op := .eql) (T := 9) (T' := 9) (x := (.tmp 4)) (y := (.const (.string ⟨List.toArray ([] : List UInt8)⟩))) (a := z7) (b := ([] : List UInt8)) (r := (.bool (z7 == ([] : List UInt8)))) (d := (some 5)) (k := 2) K rfl K K rfl ?_
 refine iR 1 4 [(2, (.bool (z7 == ([] : List UInt8))))] ?_
 refine iF ?_
 refine At.ret K ?_
 refine ⟨(.bool (z7 == ([] : List UInt8))), K, ?_⟩
 obtain rfl := Qg H
 exact ⟨rfl, SP.sel l [] rfl rfl⟩
def Z7 (a : Bool) : Option (Bool) :=
  (some (a))
def Y7 (a : (List UInt8)) (b : (List UInt8)) (c : Int) : Option (Bool) :=
  ((Xh a).bind fun d => (cond d ((Ze ((List.length b : Nat) : Int) 1 32).bind fun e => (cond e ((Ze c 0 1099511627776).bind fun f => (Z7 f)) (Z7 false))) (Z7 false)))
set_option maxHeartbeats 40000000 in
theorem Rj  (f : (List UInt8)) (a : (List UInt8)) (g : Int) (w0 : World)  (r : (Bool)) (H : Y7 f a g = some r) :
  Calls Tryz.prog 100 #[(.agg #[(.string ⟨List.toArray f⟩), (.string ⟨List.toArray a⟩), (.int .i64 g)])] w0 (fun e w' => e = .returned (.bool r) ∧ SP [] w0 w' []) := by
 unfold Y7 at H
 refine Qx (n := 17) Tryz.func100 K K K ?_
 have a0 := Qz [] w0
 refine aQ ?_
 refine aR ?_
 refine iS 1 ?_
 refine Zp (t := 37) (x := (.tmp 0)) (v := (.agg #[(.string ⟨List.toArray f⟩), (.string ⟨List.toArray a⟩), (.int .i64 g)])) (d := (some 1)) (k := 0) K rfl K a0 ?_
 intro g4 w5 s
 refine iR 1 2 [(2, (.bool false))] ?_
 refine iF ?_
 refine aQ ?_
 refine At.join (fun ρ w => ∃ (c : Bool), V8 ρ [(2, (.bool c))] ∧ SP [] w0 w [] ∧ Z7 c = some r) ?_ ?_
 ·refine aR ?_
  refine iR 1 1 [(3, (pt g4 0))] ?_
  refine iS 2 ?_
  refine sL 9 3 g4 0 0 (.string ⟨List.toArray f⟩) 4 s rfl ?_
  obtain ⟨j, a1, H⟩ := Qd H
  refine iS 3 ?_
  refine cF 101 #[(.tmp 4)] #[9] 5 Tryz.call101 (U2  f w5  j a1) ?_
  rintro e a2 ⟨rfl, u⟩
  refine ⟨_, rfl, ?_⟩
  have m := SP.call s u
  clear u
  refine iR 1 4 [(6, (.bool j))] ?_
  refine In.guard (t := 6) (b := j) K (fun o => ?_) (fun o => ?_)
  ·have H := ct H o
   refine iR 1 5 [(7, (pt g4 1))] ?_
   refine iS 6 ?_
   refine sL 9 7 g4 1 0 (.string ⟨List.toArray a⟩) 8 m rfl ?_
   refine iR 1 7 [(9, (.int .i64 ((List.length a : Nat) : Int)))] ?_
   obtain ⟨h, a3, H⟩ := Qd H
   refine iS 8 ?_
   refine cF 48 #[(.tmp 9), (.const (.int .i64 (1))), (.const (.int .i64 (32)))] #[2, 2, 2] 10 Tryz.call48 (Zw  ((List.length a : Nat) : Int) 1 32 a2  h a3) ?_
   rintro e a4 ⟨rfl, y⟩
   refine ⟨_, rfl, ?_⟩
   have p := SP.call m y
   clear y
   refine iR 2 10 [(11, (.bool h)), (12, (.bool h))] ?_
   refine In.guard (t := 12) (b := h) K (fun q => ?_) (fun q => ?_)
   ·have H := ct H q
    refine iR 1 11 [(13, (pt g4 2))] ?_
    refine iS 12 ?_
    refine sL 2 13 g4 2 0 (.int .i64 g) 14 p rfl ?_
    obtain ⟨i, a5, H⟩ := Qd H
    refine iS 13 ?_
    refine cF 48 #[(.tmp 14), (.const (.int .i64 (0))), (.const (.int .i64 (1099511627776)))] #[2, 2, 2] 15 Tryz.call48 (Zw  g 0 1099511627776 a4  i a5) ?_
    rintro e a8 ⟨rfl, z⟩
    refine ⟨_, rfl, ?_⟩
    have a6 := SP.call p z
    clear z
    refine iR 2 15 [(16, (.bool i)), (2, (.bool i))] ?_
    refine iF ?_
    exact ⟨i, ⟨K, trivial⟩, SP.sel a6 [] rfl rfl, H⟩
   ·have H := cf H q
    refine iR 5 15 [(13, undef), (14, undef), (15, undef), (16, (.bool false)), (2, (.bool false))] ?_
    refine iF ?_
    exact ⟨false, ⟨K, trivial⟩, SP.sel p [] rfl rfl, H⟩
  ·have H := cf H o
   refine iR 11 15 [(7, undef), (8, undef), (9, undef), (10, undef), (11, (.bool false)), (12, (.bool false)), (13, undef), (14, undef), (15, undef), (16, (.bool false)), (2, (.bool false))] ?_
   refine iF ?_
   exact ⟨false, ⟨K, trivial⟩, SP.sel m [] rfl rfl, H⟩
 ·rintro ρ a9 ⟨c, hk, a7, H⟩
  unfold Z7 at H
  first | refine At.known [(2, (.bool c))] hk ?_ | rw [← Q0 (l := [(2, (.bool c))]) hk]
  refine At.ret K ?_
  refine ⟨(.bool c), K, ?_⟩
  obtain rfl := Qg H
  exact ⟨rfl, SP.sel a7 [] rfl rfl⟩
def Xx (a : (List UInt8)) (b : (List UInt8)) (c : Int) : Option (Bool) :=
  ((Y7 a b c).bind fun z8 => (some ((!z8))))
set_option maxHeartbeats 40000000 in
theorem Gd  (a : (List UInt8)) (b : (List UInt8)) (c : Int) (w0 : World)  (r : (Bool)) (H : Xx a b c = some r) :
  Calls Tryz.prog 99 #[(.agg #[(.string ⟨List.toArray a⟩), (.string ⟨List.toArray b⟩), (.int .i64 c)])] w0 (fun e w' => e = .returned (.bool r) ∧ SP [] w0 w' []) := by
 unfold Xx at H
 refine Qx (n := 6) Tryz.func99 K K K ?_
 have h := Qz [] w0
 refine aQ ?_
 refine aR ?_
 refine iS 1 ?_
 refine Zp (t := 37) (x := (.tmp 0)) (v := (.agg #[(.string ⟨List.toArray a⟩), (.string ⟨List.toArray b⟩), (.int .i64 c)])) (d := (some 1)) (k := 0) K rfl K h ?_
 intro g4 w5 f
 refine iR 1 2 [(2, (.bool false))] ?_
 refine iF ?_
 refine aQ ?_
 refine aR ?_
 refine iS 1 ?_
 refine sL 37 1 g4 0 0 (.agg #[(.string ⟨List.toArray a⟩), (.string ⟨List.toArray b⟩), (.int .i64 c)]) 3 f rfl ?_
 obtain ⟨z8, i, H⟩ := Qd H
 refine iS 2 ?_
 refine cF 100 #[(.tmp 3)] #[37] 4 Tryz.call100 (Rj  a b c w5  z8 i) ?_
 rintro e l ⟨rfl, g⟩
 refine ⟨_, rfl, ?_⟩
 have j := SP.call f g
 clear g
 refine iR 2 4 [(5, (.bool (!z8))), (2, (.bool (!z8)))] ?_
 refine iF ?_
 refine At.ret K ?_
 refine ⟨(.bool (!z8)), K, ?_⟩
 obtain rfl := Qg H
 exact ⟨rfl, SP.sel j [] rfl rfl⟩
def Vh (d : Int → Option (Bool)) (p1 : (List ((List UInt8) × (List UInt8) × Int))) (p5 : ((List UInt8) → (List UInt8) → Int → Option ((List UInt8)))) (a : Int) : Option (Bool) :=
  (cond (decide (a < ((List.length p1 : Nat) : Int))) ((idx p1 (IntKind.wrap .i64 (a - 1))).bind fun b => ((p5 b.1 b.2.1 b.2.2).bind fun e => ((idx p1 a).bind fun c => ((p5 c.1 c.2.1 c.2.2).bind fun f => (cond (!(Op.bytesLess e f)) (some (false)) (d (IntKind.wrap .i64 (a + 1)))))))) (some (true)))
def Vi (p1 : (List ((List UInt8) × (List UInt8) × Int))) (p5 : ((List UInt8) → (List UInt8) → Int → Option ((List UInt8)))) : Nat → Int → Option (Bool)
  | 0, _ => none
  | f + 1, a => Vh  (Vi p1 p5 f) p1 p5 a
def V6 (p1 : (List ((List UInt8) × (List UInt8) × Int))) (p5 : ((List UInt8) → (List UInt8) → Int → Option ((List UInt8)))) : Option (Bool) :=
  (Vi p1 p5 Yg 1)
set_option maxHeartbeats 40000000 in
theorem Uc (A2 : Option Addr) (c3 : Nat) (m : FuncId) (p : Array Value) (p1 : (List ((List UInt8) × (List UInt8) × Int))) (p5 : ((List UInt8) → (List UInt8) → Int → Option ((List UInt8)))) (w0 : World) (a0 : RdT (Qh Qm (Qh Qm (Q8 .i64))) w0 A2 c3 p1) (hcf8 : ∀ (args : Array Value) (w : World), (callFunc m args).run Tryz.prog w = .ok (.enter m args) w) (a7 : ∀ (y0 : (List UInt8)) (y1 : (List UInt8)) (y2 : Int) (z : ((List UInt8))) (w : World), Below w0.heap.size w0 w → p5 y0 y1 y2 = some z → Calls Tryz.prog m (([(.agg #[(.string ⟨List.toArray y0⟩), (.string ⟨List.toArray y1⟩), (.int .i64 y2)])] : List Value) ++ (p).toList).toArray w (fun e w' => e = .returned (.string ⟨List.toArray z⟩) ∧ SP [] w w' [])) (r : (Bool)) (H : V6 p1 p5 = some r) :
  Calls Tryz.prog 102 #[(.slice A2 (List.length p1) c3), (.func (.func m) #[] p)] w0 (fun e w' => e = .returned (.bool r) ∧ SP [] w0 w' []) := by
 unfold V6 at H
 refine Qx (n := 26) Tryz.func102 K K K ?_
 have b6 := Qz [] w0
 refine aQ ?_
 refine aR ?_
 refine iR 1 1 [(4, (.bool false))] ?_
 refine iF ?_
 refine aQ ?_
 refine aQ ?_
 refine aR ?_
 refine iR 1 1 [(5, (.int .i64 1))] ?_
 refine iF ?_
 refine Yz K (id := 0) K ?_
 refine G1 K (fun f1 ρ w => ∃ (g : Int), V8 ρ [(0, (.slice A2 (List.length p1) c3)), (1, (.func (.func m) #[] p)), (5, (.int .i64 g))] ∧ SP [] w0 w [] ∧ Vi p1 p5 f1 g = some r) (by rintro ρ w ⟨g, hk, hs, H⟩; cases H) ?_ Yg ?_
 ·rintro f1 ρ f3 ⟨g, hk, a8, H⟩
  refine At.known [(0, (.slice A2 (List.length p1) c3)), (1, (.func (.func m) #[] p)), (5, (.int .i64 g))] hk ?_
  replace H := (show Vh (Vi p1 p5 f1) p1 p5 g = some r from H)
  unfold Vh at H
  refine aQ ?_
  refine aQ ?_
  refine aR ?_
  refine iR 4 4 [(6, (.int .i64 g)), (7, (.slice A2 (List.length p1) c3)), (8, (.int .i64 ((List.length p1 : Nat) : Int))), (9, (.bool (decide (g < ((List.length p1 : Nat) : Int)))))] ?_
  refine iF ?_
  refine Z3 K (o := (.tmp 9)) K (b := (decide (g < ((List.length p1 : Nat) : Int)))) K (fun a3 => ?_) (fun a3 => ?_)
  ·have H := ct H a3
   refine At.skip K ?_
   refine aQ ?_
   refine Yz K (id := 1) K ?_
   refine aQ ?_
   obtain ⟨s, a9, b0, b7, H⟩ := Vl H
   obtain ⟨u, b8, H⟩ := Qd H
   obtain ⟨q, a1, a2, b1, H⟩ := Vl H
   obtain ⟨v, b9, H⟩ := Qd H
   refine aG [GEq (.func (.func m) #[] p), GEq (.slice A2 (List.length p1) c3), GEq (.int .i64 g), GEq (.int .i64 (IntKind.wrap .i64 (g - 1))), X5 A2 (Qh Qm (Qh Qm (Q8 .i64))).sz (IntKind.wrap .i64 (g - 1)), GEq (.agg #[(.string ⟨List.toArray s.1⟩), (.string ⟨List.toArray s.2.1⟩), (.int .i64 s.2.2)]), GEq (.string ⟨List.toArray u⟩), GEq (.func (.func m) #[] p), GEq (.slice A2 (List.length p1) c3), GEq (.int .i64 g), X5 A2 (Qh Qm (Qh Qm (Q8 .i64))).sz g, GEq (.agg #[(.string ⟨List.toArray q.1⟩), (.string ⟨List.toArray q.2.1⟩), (.int .i64 q.2.2)]), GEq (.string ⟨List.toArray v⟩), GEq (.bool (!(Op.bytesLess u v)))] [6, 12] (tG [] w0 [] [([], []), ([6], [(.string ⟨List.toArray u⟩)]), ([6, 12], [(.string ⟨List.toArray u⟩), (.string ⟨List.toArray v⟩)])]) 14 2 ⟨trivial, SP.drew a8⟩ ?_ ?_
   iterate 14 refine And.intro ?_ ?_
   exact trivial
   ·exact oV (hC (hS 1 (.func (.func m) #[] p)) (h0)) (.func (.func m) #[] p)
   ·exact oV (hC (hS 0 (.slice A2 (List.length p1) c3)) (h0)) (.slice A2 (List.length p1) c3)
   ·exact oV (hC (hS 5 (.int .i64 g)) (h0)) (.int .i64 g)
   ·exact oV (hC (hA 2 14) (h0)) (.int .i64 (IntKind.wrap .i64 (g - 1)))
   ·refine oL 0 ?_
    ·rintro ρ' w' hs i ⟨f4, c0⟩
     refine kM (kc (kA i 1 13) (kc (kA i 3 15) k0)) fun j => ?_
     refine Qn (e := (Qh Qm (Qh Qm (Q8 .i64)))) (l := p1) (A := A2) (c := c3) (T := 31) (E := 37) (x := (.tmp 13)) (ix := (.tmp 15)) (ki := .i64) (iz := (IntKind.wrap .i64 (g - 1))) (d := (some 16)) (k := 4) K rfl K K K K (RdT.sp a0 c0) a9 b0 ?_
     intro c1 c2 c4 f5 hc269
     exact ⟨rfl, _, Qa j, ⟨c1, c2, c4, rfl⟩⟩
   ·refine oL 0 ?_
    ·rintro ρ' w' hs i ⟨f6, c5⟩
     obtain ⟨c6, c7, c8, c9⟩ := i 4 16 K
     refine kM (kc c9 k0) fun j => ?_
     refine Qi.cells (t := 37) (x := (.tmp 16)) (b := c6) (off := (c7 + Int.toNat (IntKind.wrap .i64 (g - 1)) * (Qh Qm (Qh Qm (Q8 .i64))).sz)) (xs := [(.string ⟨List.toArray s.1⟩), (.string ⟨List.toArray s.2.1⟩), (.int .i64 s.2.2)]) (d := (some 17)) (k := 5) K rfl K K K (Vy (e := (Qh Qm (Qh Qm (Q8 .i64)))) (Ql (RdT.sp a0 c5) c8 a9 b0) b7 rfl) ?_
     exact eK j
   ·refine oH 0 1 ?_
    ·rintro ρ' w' hs i ⟨f7, b2⟩
     refine kM (kc (kA i 0 12) (kc (kA i 5 17) k0)) fun j => ?_
     refine Z4 (f := m) (fo := (.tmp 12)) (xs := #[(.tmp 17)]) (tys := #[37]) (first := #[]) (captured := p) (args := (([(.agg #[(.string ⟨List.toArray s.1⟩), (.string ⟨List.toArray s.2.1⟩), (.int .i64 s.2.2)])] : List Value) ++ (p).toList)) (d := (some 18)) (k := 6) K rfl K K hcf8 (a7 s.1 s.2.1 s.2.2 u w'  (SP.keeps b2)  b8) ?_
     rintro e f8 ⟨rfl, b3⟩
     refine ⟨_, rfl, ?_⟩
     have d0 := SP.call b2 b3
     clear b3
     refine ⟨_, Qa j, rfl, ?_⟩
     exact (And.intro (And.intro rfl (trivial)) d0)
   ·exact oV (hC (hS 1 (.func (.func m) #[] p)) (h0)) (.func (.func m) #[] p)
   ·exact oV (hC (hS 0 (.slice A2 (List.length p1) c3)) (h0)) (.slice A2 (List.length p1) c3)
   ·exact oV (hC (hS 5 (.int .i64 g)) (h0)) (.int .i64 g)
   ·refine Owe.light K [0, 1] K (Qb ?_ (Qb ?_ Q1))
    ·rintro ρ' w' hs i ⟨f9, d1⟩
     refine kM (kc (kA i 8 20) (kc (kA i 9 21) k0)) fun j => ?_
     refine Qn (e := (Qh Qm (Qh Qm (Q8 .i64)))) (l := p1) (A := A2) (c := c3) (T := 31) (E := 37) (x := (.tmp 20)) (ix := (.tmp 21)) (ki := .i64) (iz := g) (d := (some 22)) (k := 10) K rfl K K K K (RdT.sp a0 d1) a1 a2 ?_
     intro d2 d3 d4 g0 hc287
     exact ⟨rfl, _, Qa j, ⟨d2, d3, d4, rfl⟩⟩
    ·rintro ρ' w' hs i ⟨⟨g1, -⟩, d5⟩
     refine kM (kc (kA i 8 20) (kc (kA i 9 21) k0)) fun j => ?_
     refine Qn (e := (Qh Qm (Qh Qm (Q8 .i64)))) (l := p1) (A := A2) (c := c3) (T := 31) (E := 37) (x := (.tmp 20)) (ix := (.tmp 21)) (ki := .i64) (iz := g) (d := (some 22)) (k := 10) K rfl K K K K (RdT.sp a0 d5) a1 a2 ?_
     intro d6 d7 d8 g2 hc295
     exact ⟨rfl, _, Qa j, ⟨d6, d7, d8, rfl⟩⟩
   ·refine Owe.light K [0, 1] K (Qb ?_ (Qb ?_ Q1))
    ·rintro ρ' w' hs i ⟨g3, d9⟩
     obtain ⟨e0, e1, e2, a4⟩ := i 10 22 K
     refine kM (kc a4 k0) fun j => ?_
     refine Qi.cells (t := 37) (x := (.tmp 22)) (b := e0) (off := (e1 + Int.toNat g * (Qh Qm (Qh Qm (Q8 .i64))).sz)) (xs := [(.string ⟨List.toArray q.1⟩), (.string ⟨List.toArray q.2.1⟩), (.int .i64 q.2.2)]) (d := (some 23)) (k := 11) K rfl K K K (Vy (e := (Qh Qm (Qh Qm (Q8 .i64)))) (Ql (RdT.sp a0 d9) e2 a1 a2) b1 rfl) ?_
     exact eK j
    ·rintro ρ' w' hs i ⟨⟨g4, -⟩, e3⟩
     obtain ⟨e4, e5, e6, a4⟩ := i 10 22 K
     refine kM (kc a4 k0) fun j => ?_
     refine Qi.cells (t := 37) (x := (.tmp 22)) (b := e4) (off := (e5 + Int.toNat g * (Qh Qm (Qh Qm (Q8 .i64))).sz)) (xs := [(.string ⟨List.toArray q.1⟩), (.string ⟨List.toArray q.2.1⟩), (.int .i64 q.2.2)]) (d := (some 23)) (k := 11) K rfl K K K (Vy (e := (Qh Qm (Qh Qm (Q8 .i64)))) (Ql (RdT.sp a0 e3) e6 a1 a2) b1 rfl) ?_
     exact eK j
   ·refine oH 1 2 ?_
    ·rintro ρ' w' hs i ⟨⟨e7, -⟩, b4⟩
     refine kM (kc (kA i 7 19) (kc (kA i 11 23) k0)) fun j => ?_
     refine Z4 (f := m) (fo := (.tmp 19)) (xs := #[(.tmp 23)]) (tys := #[37]) (first := #[]) (captured := p) (args := (([(.agg #[(.string ⟨List.toArray q.1⟩), (.string ⟨List.toArray q.2.1⟩), (.int .i64 q.2.2)])] : List Value) ++ (p).toList)) (d := (some 24)) (k := 12) K rfl K K hcf8 (a7 q.1 q.2.1 q.2.2 v w'  (SP.keeps b4)  b9) ?_
     rintro e g5 ⟨rfl, b5⟩
     refine ⟨_, rfl, ?_⟩
     have e8 := SP.call b4 b5
     clear b5
     refine ⟨_, Qa j, rfl, ?_⟩
     exact (And.intro (And.intro e7 (And.intro rfl (trivial))) e8)
   ·refine oL 2 ?_
    ·rintro ρ' w' hs i ⟨⟨e9, f0, -⟩, g6⟩
     refine kN [(18, (.string ⟨List.toArray u⟩)), (24, (.string ⟨List.toArray v⟩))] ⟨(Vk (h := 6) K).symm.trans e9, (Vk (h := 12) K).symm.trans f0, trivial⟩ fun j => ?_
     refine Xd (op := .geq) (T := 9) (T' := 9) (x := (.tmp 18)) (y := (.tmp 24)) (a := u) (b := v) (r := (.bool (!(Op.bytesLess u v)))) (d := (some 25)) (k := 13) K rfl K K rfl ?_
     exact eK j
   ·rintro ρ' w' hs hf ⟨⟨g7, g8, -⟩, a5⟩
    refine V1 [(0, (.slice A2 (List.length p1) c3)), (1, (.func (.func m) #[] p)), (5, (.int .i64 g)), (25, (.bool (!(Op.bytesLess u v))))] ⟨(hs 0 K).trans K, (hs 1 K).trans K, (hs 5 K).trans K, hf 13 25 K, trivial⟩ ?_
    obtain ⟨g9, f2⟩ : ∃ x, w' = x := ⟨_, rfl⟩
    rw [f2] at a5 ⊢
    refine Z3 K (o := (.tmp 25)) K (b := (!(Op.bytesLess u v))) K (fun a6 => ?_) (fun a6 => ?_)
    ·have H := ct H a6
     refine aQ ?_
     refine aR ?_
     refine iR 1 1 [(4, (.bool false))] ?_
     refine iF ?_
     refine At.ret K ?_
     refine ⟨(.bool false), K, ?_⟩
     obtain rfl := Qg H
     exact ⟨rfl, SP.sel a5 [] rfl rfl⟩
    ·have H := cf H a6
     refine At.skip K ?_
     refine aR ?_
     refine iR 3 3 [(10, (.int .i64 g)), (11, (.int .i64 (IntKind.wrap .i64 (g + 1)))), (5, (.int .i64 (IntKind.wrap .i64 (g + 1))))] ?_
     refine iF ?_
     exact ⟨(IntKind.wrap .i64 (g + 1)), ⟨K, K, K, trivial⟩, SP.sel a5 [] rfl rfl, H⟩
  ·have H := cf H a3
   refine At.exit K (id := 0) K ?_
   refine aQ ?_
   refine aR ?_
   refine iR 1 1 [(4, (.bool true))] ?_
   refine iF ?_
   refine At.ret K ?_
   refine ⟨(.bool true), K, ?_⟩
   obtain rfl := Qg H
   exact ⟨rfl, SP.sel a8 [] rfl rfl⟩
 ·exact ⟨1, ⟨K, K, K, trivial⟩, SP.sel b6 [] rfl rfl, H⟩
def Yu (a : (List UInt8)) (b : (List UInt8)) (c : Int) : Option ((List UInt8)) :=
  (some (a))
set_option maxHeartbeats 40000000 in
theorem Ge  (a : (List UInt8)) (b : (List UInt8)) (c : Int) (w0 : World)  (r : ((List UInt8))) (H : Yu a b c = some r) :
  Calls Tryz.prog 103 #[(.agg #[(.string ⟨List.toArray a⟩), (.string ⟨List.toArray b⟩), (.int .i64 c)])] w0 (fun e w' => e = .returned (.string ⟨List.toArray r⟩) ∧ SP [] w0 w' []) := by
 unfold Yu at H
 refine Qx (n := 5) Tryz.func103 K K K ?_
 have g := Qz [] w0
 refine aQ ?_
 refine aR ?_
 refine iS 1 ?_
 refine Zp (t := 37) (x := (.tmp 0)) (v := (.agg #[(.string ⟨List.toArray a⟩), (.string ⟨List.toArray b⟩), (.int .i64 c)])) (d := (some 1)) (k := 0) K rfl K g ?_
 intro g4 w5 f
 refine iR 1 2 [(2, (.string ⟨List.toArray ([] : List UInt8)⟩))] ?_
 refine iF ?_
 refine aQ ?_
 refine aR ?_
 refine iR 1 1 [(3, (pt g4 0))] ?_
 refine iS 2 ?_
 refine sL 9 3 g4 0 0 (.string ⟨List.toArray a⟩) 4 f rfl ?_
 refine iR 1 3 [(2, (.string ⟨List.toArray a⟩))] ?_
 refine iF ?_
 refine At.ret K ?_
 refine ⟨(.string ⟨List.toArray a⟩), K, ?_⟩
 obtain rfl := Qg H
 exact ⟨rfl, SP.sel f [] rfl rfl⟩
def Zq (a : Bool) : Option (Bool) :=
  (some (a))
def Zr (a : Int) (b : Int) (c : (List ((List UInt8) × (List UInt8) × Int))) (d : Bool) : Option (Bool) :=
  (cond d (some (false)) ((Ze a 0 8).bind fun e => (cond e ((Ze b 0 8).bind fun f => (cond f ((V6 c (fun y0 y1 y2 => Yu y0 y1 y2)).bind fun g => (Zq g)) (Zq false))) (Zq false))))
def Xk (a : Int) (b : Int) (c : (List ((List UInt8) × (List UInt8) × Int))) (d : Bool) : Option (Bool) :=
  (Zr a b c d)
def Xl (a : Int) (b : Int) (c : (List ((List UInt8) × (List UInt8) × Int))) (d : Bool) : Option (Bool) :=
  (Xk a b c d)
def Zs (g : (List UInt8)) (b : Int) (c : Int) (d : (List (Int × Int))) (a : (List ((List UInt8) × (List UInt8) × Int))) (e : Bool) : Option (Bool) :=
  (cond e (Zr b c a e) ((Xh g).bind fun f => (cond (!f) (Xk b c a (!f)) (cond (decide (((List.length d : Nat) : Int) > 4)) (Xl b c a (decide (((List.length d : Nat) : Int) > 4))) (Xl b c a (decide (((List.length a : Nat) : Int) > 4)))))))
def Yo (c : (List UInt8)) (d : Int) (e : Int) (a : (List (Int × Int))) (b : (List ((List UInt8) × (List UInt8) × Int))) : Option (Bool) :=
  ((Vg a (fun y0 y1 => Z6 y0 y1)).bind fun f => (cond f (Zs c d e a b true) ((Q6 b (fun y0 y1 y2 => Xx y0 y1 y2)).bind fun g => (Zs c d e a b g))))
set_option maxHeartbeats 40000000 in
theorem G2 (A5 : Option Addr) (c6 : Nat) (A9 : Option Addr) (i : Nat) (j : (List UInt8)) (g : Int) (h : Int) (f : (List (Int × Int))) (c : (List ((List UInt8) × (List UInt8) × Int))) (w0 : World) (hL : Ub w0) (c7 : RdT (Qh (Q8 .u32) (Q8 .i64)) w0 A5 c6 f) (b9 : RdT (Qh Qm (Qh Qm (Q8 .i64))) w0 A9 i c) (r : (Bool)) (H : Yo j g h f c = some r) :
  Calls Tryz.prog 51 #[(.agg #[(.string ⟨List.toArray j⟩), (.int .i64 g), (.int .i64 h), (.slice A5 (List.length f) c6), (.slice A9 (List.length c) i)])] w0 (fun e w' => e = .returned (.bool r) ∧ SP [] w0 w' []) := by
 unfold Yo at H
 refine Qx (n := 40) Tryz.func51 K K K ?_
 have c8 := Qz [] w0
 refine aQ ?_
 refine aR ?_
 refine iS 1 ?_
 refine Zp (t := 33) (x := (.tmp 0)) (v := (.agg #[(.string ⟨List.toArray j⟩), (.int .i64 g), (.int .i64 h), (.slice A5 (List.length f) c6), (.slice A9 (List.length c) i)])) (d := (some 1)) (k := 0) K rfl K c8 ?_
 intro a c9 a2
 refine iR 1 2 [(2, (.bool false))] ?_
 refine iF ?_
 refine aQ ?_
 refine aR ?_
 refine iR 1 1 [(4, (pt a 3))] ?_
 refine iS 2 ?_
 refine sL 30 4 a 3 0 (.slice A5 (List.length f) c6) 5 a2 rfl ?_
 obtain ⟨y, d0, H⟩ := Qd H
 refine iS 3 ?_
 refine cF 96 #[(.tmp 5), (.func 97)] #[30, 154] 6 Tryz.call96 (X7 A5 c6 97 #[] f (fun y0 y1 => Z6 y0 y1) c9 (RdT.sp c7 a2) Tryz.call97 (fun y0 y1 z w  hw  hz => Gc  y0 y1 w (Qv (Qv hL (SP.keeps a2)) hw) z hz) y d0) ?_
 rintro e d1 ⟨rfl, c0⟩
 refine ⟨_, rfl, ?_⟩
 have a3 := SP.call a2 c0
 clear c0
 refine iR 1 4 [(3, (.bool y))] ?_
 refine iF ?_
 refine aQ ?_
 refine At.join (fun ρ w => ∃ (m : Bool), V8 ρ [(1, (pt a 0)), (3, (.bool m))] ∧ SP [] w0 w [Qr a 33 #[(.string ⟨List.toArray j⟩), (.int .i64 g), (.int .i64 h), (.slice A5 (List.length f) c6), (.slice A9 (List.length c) i)]] ∧ Zs j g h f c m = some r) ?_ ?_
 ·refine aR ?_
  refine iR 2 2 [(7, (.bool y)), (8, (.bool y))] ?_
  refine In.guard (t := 8) (b := y) K (fun a8 => ?_) (fun a8 => ?_)
  ·have H := ct H a8
   refine iR 5 7 [(9, undef), (10, undef), (11, undef), (12, (.bool true)), (3, (.bool true))] ?_
   refine iF ?_
   exact ⟨true, ⟨K, K, trivial⟩, SP.sel a3 [0] rfl rfl, H⟩
  ·have H := cf H a8
   refine iR 1 3 [(9, (pt a 4))] ?_
   refine iS 4 ?_
   refine sL 31 9 a 4 0 (.slice A9 (List.length c) i) 10 a3 rfl ?_
   obtain ⟨a4, d2, H⟩ := Qd H
   refine iS 5 ?_
   refine cF 98 #[(.tmp 10), (.func 99)] #[31, 84] 11 Tryz.call98 (Xw A9 i 99 #[] c (fun y0 y1 y2 => Xx y0 y1 y2) d1 (RdT.sp b9 a3) Tryz.call99 (fun y0 y1 y2 z w  hw  hz => Gd  y0 y1 y2 w  z hz) a4 d2) ?_
   rintro e e6 ⟨rfl, c1⟩
   refine ⟨_, rfl, ?_⟩
   have d3 := SP.call a3 c1
   clear c1
   refine iR 2 7 [(12, (.bool a4)), (3, (.bool a4))] ?_
   refine iF ?_
   exact ⟨a4, ⟨K, K, trivial⟩, SP.sel d3 [0] rfl rfl, H⟩
 ·rintro ρ d4 ⟨m, hk, a9, H⟩
  unfold Zs at H
  first | refine At.known [(1, (pt a 0)), (3, (.bool m))] hk ?_ | rw [← Q0 (l := [(1, (pt a 0)), (3, (.bool m))]) hk]
  refine aQ ?_
  refine Yz K (id := 0) K ?_
  refine aQ ?_
  refine aQ ?_
  refine aR ?_
  refine iR 2 2 [(14, (.bool m)), (13, (.bool m))] ?_
  refine iF ?_
  refine At.join (fun ρ w => ∃ (p : Bool), V8 ρ [(1, (pt a 0)), (13, (.bool p))] ∧ SP [] w0 w [Qr a 33 #[(.string ⟨List.toArray j⟩), (.int .i64 g), (.int .i64 h), (.slice A5 (List.length f) c6), (.slice A9 (List.length c) i)]] ∧ Zr g h c p = some r) ?_ ?_
  ·refine Z3 K (o := (.tmp 13)) K (b := m) K (fun b0 => ?_) (fun b0 => ?_)
   ·have H := ct H b0
    refine At.skip K ?_
    exact ⟨m, ⟨K, K, trivial⟩, SP.sel a9 [0] rfl rfl, H⟩
   ·have H := cf H b0
    refine aQ ?_
    refine aR ?_
    refine iR 1 1 [(15, (pt a 0))] ?_
    refine iS 2 ?_
    refine sL 9 15 a 0 0 (.string ⟨List.toArray j⟩) 16 a9 rfl ?_
    obtain ⟨a0, d5, H⟩ := Qd H
    refine iS 3 ?_
    refine cF 101 #[(.tmp 16)] #[9] 17 Tryz.call101 (U2  j d4  a0 d5) ?_
    rintro e e7 ⟨rfl, c2⟩
    refine ⟨_, rfl, ?_⟩
    have a1 := SP.call a9 c2
    clear c2
    refine iR 2 5 [(18, (.bool (!a0))), (13, (.bool (!a0)))] ?_
    refine iF ?_
    refine At.join (fun ρ w => ∃ (q : Bool), V8 ρ [(1, (pt a 0)), (13, (.bool q))] ∧ SP [] w0 w [Qr a 33 #[(.string ⟨List.toArray j⟩), (.int .i64 g), (.int .i64 h), (.slice A5 (List.length f) c6), (.slice A9 (List.length c) i)]] ∧ Xk g h c q = some r) ?_ ?_
    ·refine Z3 K (o := (.tmp 13)) K (b := (!a0)) K (fun b1 => ?_) (fun b1 => ?_)
     ·have H := ct H b1
      refine At.skip K ?_
      exact ⟨(!a0), ⟨K, K, trivial⟩, SP.sel a1 [0] rfl rfl, H⟩
     ·have H := cf H b1
      refine aQ ?_
      refine aR ?_
      refine iR 1 1 [(19, (pt a 3))] ?_
      refine iS 2 ?_
      refine sL 30 19 a 3 0 (.slice A5 (List.length f) c6) 20 a1 rfl ?_
      refine iR 3 5 [(21, (.int .i64 ((List.length f : Nat) : Int))), (22, (.bool (decide (((List.length f : Nat) : Int) > 4)))), (13, (.bool (decide (((List.length f : Nat) : Int) > 4))))] ?_
      refine iF ?_
      refine At.join (fun ρ w => ∃ (s : Bool), V8 ρ [(1, (pt a 0)), (13, (.bool s))] ∧ SP [] w0 w [Qr a 33 #[(.string ⟨List.toArray j⟩), (.int .i64 g), (.int .i64 h), (.slice A5 (List.length f) c6), (.slice A9 (List.length c) i)]] ∧ Xl g h c s = some r) ?_ ?_
      ·refine Z3 K (o := (.tmp 13)) K (b := (decide (((List.length f : Nat) : Int) > 4))) K (fun b2 => ?_) (fun b2 => ?_)
       ·have H := ct H b2
        refine At.skip K ?_
        exact ⟨(decide (((List.length f : Nat) : Int) > 4)), ⟨K, K, trivial⟩, SP.sel a1 [0] rfl rfl, H⟩
       ·have H := cf H b2
        refine aR ?_
        refine iR 1 1 [(23, (pt a 4))] ?_
        refine iS 2 ?_
        refine sL 31 23 a 4 0 (.slice A9 (List.length c) i) 24 a1 rfl ?_
        refine iR 3 5 [(25, (.int .i64 ((List.length c : Nat) : Int))), (26, (.bool (decide (((List.length c : Nat) : Int) > 4)))), (13, (.bool (decide (((List.length c : Nat) : Int) > 4))))] ?_
        refine iF ?_
        exact ⟨(decide (((List.length c : Nat) : Int) > 4)), ⟨K, K, trivial⟩, SP.sel a1 [0] rfl rfl, H⟩
      ·rintro ρ e8 ⟨s, hk, d6, H⟩
       unfold Xl at H
       first | refine At.known [(1, (pt a 0)), (13, (.bool s))] hk ?_ | rw [← Q0 (l := [(1, (pt a 0)), (13, (.bool s))]) hk]
       exact ⟨s, ⟨K, K, trivial⟩, SP.sel d6 [0] rfl rfl, H⟩
    ·rintro ρ e9 ⟨q, hk, d7, H⟩
     unfold Xk at H
     first | refine At.known [(1, (pt a 0)), (13, (.bool q))] hk ?_ | rw [← Q0 (l := [(1, (pt a 0)), (13, (.bool q))]) hk]
     exact ⟨q, ⟨K, K, trivial⟩, SP.sel d7 [0] rfl rfl, H⟩
  ·rintro ρ d8 ⟨p, hk, b3, H⟩
   unfold Zr at H
   first | refine At.known [(1, (pt a 0)), (13, (.bool p))] hk ?_ | rw [← Q0 (l := [(1, (pt a 0)), (13, (.bool p))]) hk]
   refine Z3 K (o := (.tmp 13)) K (b := p) K (fun b4 => ?_) (fun b4 => ?_)
   ·have H := ct H b4
    refine aQ ?_
    refine aR ?_
    refine iR 1 1 [(2, (.bool false))] ?_
    refine iF ?_
    refine At.ret K ?_
    refine ⟨(.bool false), K, ?_⟩
    obtain rfl := Qg H
    exact ⟨rfl, SP.sel b3 [] rfl rfl⟩
   ·have H := cf H b4
    refine At.skip K ?_
    refine aQ ?_
    refine At.join (fun ρ w => ∃ (u : Bool), V8 ρ [(2, (.bool u))] ∧ SP [] w0 w [] ∧ Zq u = some r) ?_ ?_
    ·refine aR ?_
     refine iR 1 1 [(27, (pt a 1))] ?_
     refine iS 2 ?_
     refine sL 3 27 a 1 0 (.int .i64 g) 28 b3 rfl ?_
     obtain ⟨b5, d9, H⟩ := Qd H
     refine iS 3 ?_
     refine cF 48 #[(.tmp 28), (.const (.int .i64 (0))), (.const (.int .i64 (8)))] #[2, 2, 2] 29 Tryz.call48 (Zw  g 0 8 d8  b5 d9) ?_
     rintro e e0 ⟨rfl, c3⟩
     refine ⟨_, rfl, ?_⟩
     have b6 := SP.call b3 c3
     clear c3
     refine iR 1 4 [(30, (.bool b5))] ?_
     refine In.guard (t := 30) (b := b5) K (fun b7 => ?_) (fun b7 => ?_)
     ·have H := ct H b7
      refine iR 1 5 [(31, (pt a 2))] ?_
      refine iS 6 ?_
      refine sL 3 31 a 2 0 (.int .i64 h) 32 b6 rfl ?_
      obtain ⟨a5, e1, H⟩ := Qd H
      refine iS 7 ?_
      refine cF 48 #[(.tmp 32), (.const (.int .i64 (0))), (.const (.int .i64 (8)))] #[2, 2, 2] 33 Tryz.call48 (Zw  h 0 8 e0  a5 e1) ?_
      rintro e e2 ⟨rfl, c4⟩
      refine ⟨_, rfl, ?_⟩
      have a6 := SP.call b6 c4
      clear c4
      refine iR 2 9 [(34, (.bool a5)), (35, (.bool a5))] ?_
      refine In.guard (t := 35) (b := a5) K (fun b8 => ?_) (fun b8 => ?_)
      ·have H := ct H b8
       refine iR 1 10 [(36, (pt a 4))] ?_
       refine iS 11 ?_
       refine sL 31 36 a 4 0 (.slice A9 (List.length c) i) 37 a6 rfl ?_
       obtain ⟨a7, e3, H⟩ := Qd H
       refine iS 12 ?_
       refine cF 102 #[(.tmp 37), (.func 103)] #[31, 157] 38 Tryz.call102 (Uc A9 i 103 #[] c (fun y0 y1 y2 => Yu y0 y1 y2) e2 (RdT.sp b9 a6) Tryz.call103 (fun y0 y1 y2 z w  hw  hz => Ge  y0 y1 y2 w  z hz) a7 e3) ?_
       rintro e f0 ⟨rfl, c5⟩
       refine ⟨_, rfl, ?_⟩
       have e4 := SP.call a6 c5
       clear c5
       refine iR 2 14 [(39, (.bool a7)), (2, (.bool a7))] ?_
       refine iF ?_
       exact ⟨a7, ⟨K, trivial⟩, SP.sel e4 [] rfl rfl, H⟩
      ·have H := cf H b8
       refine iR 5 14 [(36, undef), (37, undef), (38, undef), (39, (.bool false)), (2, (.bool false))] ?_
       refine iF ?_
       exact ⟨false, ⟨K, trivial⟩, SP.sel a6 [] rfl rfl, H⟩
     ·have H := cf H b7
      refine iR 10 14 [(31, undef), (32, undef), (33, undef), (34, (.bool false)), (35, (.bool false)), (36, undef), (37, undef), (38, undef), (39, (.bool false)), (2, (.bool false))] ?_
      refine iF ?_
      exact ⟨false, ⟨K, trivial⟩, SP.sel b6 [] rfl rfl, H⟩
    ·rintro ρ f1 ⟨u, hk, e5, H⟩
     unfold Zq at H
     first | refine At.known [(2, (.bool u))] hk ?_ | rw [← Q0 (l := [(2, (.bool u))]) hk]
     refine At.ret K ?_
     refine ⟨(.bool u), K, ?_⟩
     obtain rfl := Qg H
     exact ⟨rfl, SP.sel e5 [] rfl rfl⟩
def X8 (a : (List UInt8)) (b : Int) (c : Int) (d : (List (Int × Int))) (e : (List ((List UInt8) × (List UInt8) × Int))) : Option (Bool) :=
  ((Yo a b c d e).bind fun f => (some ((!f))))
set_option maxHeartbeats 40000000 in
theorem Gm (A5 : Option Addr) (c6 : Nat) (A9 : Option Addr) (c : Nat) (f : (List UInt8)) (g : Int) (h : Int) (a : (List (Int × Int))) (b : (List ((List UInt8) × (List UInt8) × Int))) (w0 : World) (hL : Ub w0) (m : RdT (Qh (Q8 .u32) (Q8 .i64)) w0 A5 c6 a) (o : RdT (Qh Qm (Qh Qm (Q8 .i64))) w0 A9 c b) (r : (Bool)) (H : X8 f g h a b = some r) :
  Calls Tryz.prog 50 #[(.agg #[(.string ⟨List.toArray f⟩), (.int .i64 g), (.int .i64 h), (.slice A5 (List.length a) c6), (.slice A9 (List.length b) c)])] w0 (fun e w' => e = .returned (.bool r) ∧ SP [] w0 w' []) := by
 unfold X8 at H
 refine Qx (n := 6) Tryz.func50 K K K ?_
 have p := Qz [] w0
 refine aQ ?_
 refine aR ?_
 refine iS 1 ?_
 refine Zp (t := 33) (x := (.tmp 0)) (v := (.agg #[(.string ⟨List.toArray f⟩), (.int .i64 g), (.int .i64 h), (.slice A5 (List.length a) c6), (.slice A9 (List.length b) c)])) (d := (some 1)) (k := 0) K rfl K p ?_
 intro q s i
 refine iR 1 2 [(2, (.bool false))] ?_
 refine iF ?_
 refine aQ ?_
 refine aR ?_
 refine iS 1 ?_
 refine sL 33 1 q 0 0 (.agg #[(.string ⟨List.toArray f⟩), (.int .i64 g), (.int .i64 h), (.slice A5 (List.length a) c6), (.slice A9 (List.length b) c)]) 3 i rfl ?_
 obtain ⟨j, u, H⟩ := Qd H
 refine iS 2 ?_
 refine cF 51 #[(.tmp 3)] #[33] 4 Tryz.call51 (G2 A5 c6 A9 c f g h a b s (Qv hL (SP.keeps i)) (RdT.sp m i) (RdT.sp o i) j u) ?_
 rintro e y ⟨rfl, l⟩
 refine ⟨_, rfl, ?_⟩
 have w := SP.call i l
 clear l
 refine iR 2 4 [(5, (.bool (!j))), (2, (.bool (!j)))] ?_
 refine iF ?_
 refine At.ret K ?_
 refine ⟨(.bool (!j)), K, ?_⟩
 obtain rfl := Qg H
 exact ⟨rfl, SP.sel w [] rfl rfl⟩
def Ve (d : Int → Option (Bool)) (p1 : (List Qc)) (p6 : ((List UInt8) → Int → Int → (List (Int × Int)) → (List ((List UInt8) × (List UInt8) × Int)) → Option ((List UInt8)))) (c : Int) : Option (Bool) :=
  (cond (decide (c < ((List.length p1 : Nat) : Int))) ((idx p1 (IntKind.wrap .i64 (c - 1))).bind fun a => ((p6 a.1 a.2.1 a.2.2.1 a.2.2.2.1 a.2.2.2.2).bind fun e => ((idx p1 c).bind fun b => ((p6 b.1 b.2.1 b.2.2.1 b.2.2.2.1 b.2.2.2.2).bind fun f => (cond (!(Op.bytesLess e f)) (some (false)) (d (IntKind.wrap .i64 (c + 1)))))))) (some (true)))
def Vf (p1 : (List Qc)) (p6 : ((List UInt8) → Int → Int → (List (Int × Int)) → (List ((List UInt8) × (List UInt8) × Int)) → Option ((List UInt8)))) : Nat → Int → Option (Bool)
  | 0, _ => none
  | f + 1, a => Ve  (Vf p1 p6 f) p1 p6 a
def V5 (p1 : (List Qc)) (p6 : ((List UInt8) → Int → Int → (List (Int × Int)) → (List ((List UInt8) × (List UInt8) × Int)) → Option ((List UInt8)))) : Option (Bool) :=
  (Vf p1 p6 Yg 1)
set_option maxHeartbeats 40000000 in
theorem J4 (A2 : Option Addr) (c3 : Nat) (q : FuncId) (s : Array Value) (d5 : (List Qe)) (p6 : ((List UInt8) → Int → Int → (List (Int × Int)) → (List ((List UInt8) × (List UInt8) × Int)) → Option ((List UInt8)))) (w0 : World) (u : (dDS Vr B3).ok w0 (A2, c3, d5)) (hcf9 : ∀ (args : Array Value) (w : World), (callFunc q args).run Tryz.prog w = .ok (.enter q args) w) (b1 : ∀ (y0 : (List UInt8)) (y1 : Int) (y2 : Int) (y3 : (List (Int × Int))) (y4 : (List ((List UInt8) × (List UInt8) × Int))) (z : ((List UInt8))) (w : World) (Ay3 : Option Addr) (cy3 : Nat) (Ay4 : Option Addr) (cy4 : Nat), Below w0.heap.size w0 w → RdT (Qh (Q8 .u32) (Q8 .i64)) w Ay3 cy3 y3 → RdT (Qh Qm (Qh Qm (Q8 .i64))) w Ay4 cy4 y4 → p6 y0 y1 y2 y3 y4 = some z → Calls Tryz.prog q (([(.agg #[(.string ⟨List.toArray y0⟩), (.int .i64 y1), (.int .i64 y2), (.slice Ay3 (List.length y3) cy3), (.slice Ay4 (List.length y4) cy4)])] : List Value) ++ (s).toList).toArray w (fun e w' => e = .returned (.string ⟨List.toArray z⟩) ∧ SP [] w w' [])) (r : (Bool)) (H : V5 (List.map stT d5) p6 = some r) :
  Calls Tryz.prog 52 #[(.slice A2 (List.length (List.map stT d5)) c3), (.func (.func q) #[] s)] w0 (fun e w' => e = .returned (.bool r) ∧ SP [] w0 w' []) := by
 unfold V5 at H
 refine Qx (n := 26) Tryz.func52 K K K ?_
 have b7 := Qz [] w0
 refine aQ ?_
 refine aR ?_
 refine iR 1 1 [(4, (.bool false))] ?_
 refine iF ?_
 refine aQ ?_
 refine aQ ?_
 refine aR ?_
 refine iR 1 1 [(5, (.int .i64 1))] ?_
 refine iF ?_
 refine Yz K (id := 0) K ?_
 refine G1 K (fun f1 ρ w => ∃ (j : Int), V8 ρ [(0, (.slice A2 (List.length (List.map stT d5)) c3)), (1, (.func (.func q) #[] s)), (5, (.int .i64 j))] ∧ SP [] w0 w [] ∧ Vf (List.map stT d5) p6 f1 j = some r) (by rintro ρ w ⟨j, hk, hs, H⟩; cases H) ?_ Yg ?_
 ·rintro f1 ρ f4 ⟨j, hk, b2, H⟩
  refine At.known [(0, (.slice A2 (List.length (List.map stT d5)) c3)), (1, (.func (.func q) #[] s)), (5, (.int .i64 j))] hk ?_
  replace H := (show Ve (Vf (List.map stT d5) p6 f1) (List.map stT d5) p6 j = some r from H)
  unfold Ve at H
  refine aQ ?_
  refine aQ ?_
  refine aR ?_
  refine iR 4 4 [(6, (.int .i64 j)), (7, (.slice A2 (List.length (List.map stT d5)) c3)), (8, (.int .i64 ((List.length (List.map stT d5) : Nat) : Int))), (9, (.bool (decide (j < ((List.length (List.map stT d5) : Nat) : Int)))))] ?_
  refine iF ?_
  refine Z3 K (o := (.tmp 9)) K (b := (decide (j < ((List.length (List.map stT d5) : Nat) : Int)))) K (fun a6 => ?_) (fun a6 => ?_)
  ·have H := ct H a6
   refine At.skip K ?_
   refine aQ ?_
   refine Yz K (id := 1) K ?_
   refine aQ ?_
   obtain ⟨i, b3, b4, a7, H⟩ := Jm H
   obtain ⟨v, b8, H⟩ := Qd H
   obtain ⟨g, a1, a2, a3, H⟩ := Jm H
   obtain ⟨a0, b9, H⟩ := Qd H
   refine aG [GEq (.func (.func q) #[] s), GEq (.slice A2 (List.length (List.map stT d5)) c3), GEq (.int .i64 j), GEq (.int .i64 (IntKind.wrap .i64 (j - 1))), X5 A2 Vr.sz (IntKind.wrap .i64 (j - 1)), GEq (.agg #[(.string ⟨List.toArray (stT i).1⟩), (.int .i64 (stT i).2.1), (.int .i64 (stT i).2.2.1), (.slice i.2.2.2.1.1 (List.length (stT i).2.2.2.1) i.2.2.2.1.2.1), (.slice i.2.2.2.2.1 (List.length (stT i).2.2.2.2) i.2.2.2.2.2.1)]), GEq (.string ⟨List.toArray v⟩), GEq (.func (.func q) #[] s), GEq (.slice A2 (List.length (List.map stT d5)) c3), GEq (.int .i64 j), X5 A2 Vr.sz j, GEq (.agg #[(.string ⟨List.toArray (stT g).1⟩), (.int .i64 (stT g).2.1), (.int .i64 (stT g).2.2.1), (.slice g.2.2.2.1.1 (List.length (stT g).2.2.2.1) g.2.2.2.1.2.1), (.slice g.2.2.2.2.1 (List.length (stT g).2.2.2.2) g.2.2.2.2.2.1)]), GEq (.string ⟨List.toArray a0⟩), GEq (.bool (!(Op.bytesLess v a0)))] [6, 12] (tG [] w0 [] [([], []), ([6], [(.string ⟨List.toArray v⟩)]), ([6, 12], [(.string ⟨List.toArray v⟩), (.string ⟨List.toArray a0⟩)])]) 14 2 ⟨trivial, SP.drew b2⟩ ?_ ?_
   iterate 14 refine And.intro ?_ ?_
   exact trivial
   ·exact oV (hC (hS 1 (.func (.func q) #[] s)) (h0)) (.func (.func q) #[] s)
   ·exact oV (hC (hS 0 (.slice A2 (List.length (List.map stT d5)) c3)) (h0)) (.slice A2 (List.length (List.map stT d5)) c3)
   ·exact oV (hC (hS 5 (.int .i64 j)) (h0)) (.int .i64 j)
   ·exact oV (hC (hA 2 14) (h0)) (.int .i64 (IntKind.wrap .i64 (j - 1)))
   ·refine oL 0 ?_
    ·rintro ρ' w' hs m ⟨f5, c0⟩
     refine kM (kc (kA m 1 13) (kc (kA m 3 15) k0)) fun p => ?_
     refine Xf stT (e := Vr) (l := d5) (A := A2) (c := c3) (T := 22) (E := 33) (x := (.tmp 13)) (ix := (.tmp 15)) (ki := .i64) (iz := (IntKind.wrap .i64 (j - 1))) (d := (some 16)) (k := 4) K rfl K K K K (RdT.sp (Xu u) c0) b3 b4 ?_
     intro c1 c2 c4 f6 hc276
     exact ⟨rfl, _, Qa p, ⟨c1, c2, c4, rfl⟩⟩
   ·refine oL 0 ?_
    ·rintro ρ' w' hs m ⟨f7, c5⟩
     obtain ⟨c6, c7, c8, c9⟩ := m 4 16 K
     refine kM (kc c9 k0) fun p => ?_
     refine Qi.cells (t := 33) (x := (.tmp 16)) (b := c6) (off := (c7 + Int.toNat (IntKind.wrap .i64 (j - 1)) * Vr.sz)) (xs := [(.string ⟨List.toArray (stT i).1⟩), (.int .i64 (stT i).2.1), (.int .i64 (stT i).2.2.1), (.slice i.2.2.2.1.1 (List.length (stT i).2.2.2.1) i.2.2.2.1.2.1), (.slice i.2.2.2.2.1 (List.length (stT i).2.2.2.2) i.2.2.2.2.2.1)]) (d := (some 17)) (k := 5) K rfl K K K (Vy (e := Vr) (Ql (RdT.sp (Xu u) c5) c8 b3 b4) a7 rfl) ?_
     exact eK p
   ·refine oH 0 1 ?_
    ·rintro ρ' w' hs m ⟨f8, a4⟩
     refine kM (kc (kA m 0 12) (kc (kA m 5 17) k0)) fun p => ?_
     refine Z4 (f := q) (fo := (.tmp 12)) (xs := #[(.tmp 17)]) (tys := #[33]) (first := #[]) (captured := s) (args := (([(.agg #[(.string ⟨List.toArray (stT i).1⟩), (.int .i64 (stT i).2.1), (.int .i64 (stT i).2.2.1), (.slice i.2.2.2.1.1 (List.length (stT i).2.2.2.1) i.2.2.2.1.2.1), (.slice i.2.2.2.2.1 (List.length (stT i).2.2.2.2) i.2.2.2.2.2.1)])] : List Value) ++ (s).toList)) (d := (some 18)) (k := 6) K rfl K K hcf9 (b1 (stT i).1 (stT i).2.1 (stT i).2.2.1 (stT i).2.2.2.1 (stT i).2.2.2.2 v w' i.2.2.2.1.1 i.2.2.2.1.2.1 i.2.2.2.2.1 i.2.2.2.2.2.1 (SP.keeps a4) (RdT.sp (Xu (dp1 (dp2 (dp2 (dp2 (Gb u a7)))))) a4) (RdT.sp (Xu (dp2 (dp2 (dp2 (dp2 (Gb u a7)))))) a4) b8) ?_
     rintro e f9 ⟨rfl, b5⟩
     refine ⟨_, rfl, ?_⟩
     have d0 := SP.call a4 b5
     clear b5
     refine ⟨_, Qa p, rfl, ?_⟩
     exact (And.intro (And.intro rfl (trivial)) d0)
   ·exact oV (hC (hS 1 (.func (.func q) #[] s)) (h0)) (.func (.func q) #[] s)
   ·exact oV (hC (hS 0 (.slice A2 (List.length (List.map stT d5)) c3)) (h0)) (.slice A2 (List.length (List.map stT d5)) c3)
   ·exact oV (hC (hS 5 (.int .i64 j)) (h0)) (.int .i64 j)
   ·refine Owe.light K [0, 1] K (Qb ?_ (Qb ?_ Q1))
    ·rintro ρ' w' hs m ⟨g0, d1⟩
     refine kM (kc (kA m 8 20) (kc (kA m 9 21) k0)) fun p => ?_
     refine Xf stT (e := Vr) (l := d5) (A := A2) (c := c3) (T := 22) (E := 33) (x := (.tmp 20)) (ix := (.tmp 21)) (ki := .i64) (iz := j) (d := (some 22)) (k := 10) K rfl K K K K (RdT.sp (Xu u) d1) a1 a2 ?_
     intro d2 d3 d4 g1 hc294
     exact ⟨rfl, _, Qa p, ⟨d2, d3, d4, rfl⟩⟩
    ·rintro ρ' w' hs m ⟨⟨g2, -⟩, d6⟩
     refine kM (kc (kA m 8 20) (kc (kA m 9 21) k0)) fun p => ?_
     refine Xf stT (e := Vr) (l := d5) (A := A2) (c := c3) (T := 22) (E := 33) (x := (.tmp 20)) (ix := (.tmp 21)) (ki := .i64) (iz := j) (d := (some 22)) (k := 10) K rfl K K K K (RdT.sp (Xu u) d6) a1 a2 ?_
     intro d7 d8 d9 g3 hc302
     exact ⟨rfl, _, Qa p, ⟨d7, d8, d9, rfl⟩⟩
   ·refine Owe.light K [0, 1] K (Qb ?_ (Qb ?_ Q1))
    ·rintro ρ' w' hs m ⟨g4, e0⟩
     obtain ⟨e1, e2, e3, a8⟩ := m 10 22 K
     refine kM (kc a8 k0) fun p => ?_
     refine Qi.cells (t := 33) (x := (.tmp 22)) (b := e1) (off := (e2 + Int.toNat j * Vr.sz)) (xs := [(.string ⟨List.toArray (stT g).1⟩), (.int .i64 (stT g).2.1), (.int .i64 (stT g).2.2.1), (.slice g.2.2.2.1.1 (List.length (stT g).2.2.2.1) g.2.2.2.1.2.1), (.slice g.2.2.2.2.1 (List.length (stT g).2.2.2.2) g.2.2.2.2.2.1)]) (d := (some 23)) (k := 11) K rfl K K K (Vy (e := Vr) (Ql (RdT.sp (Xu u) e0) e3 a1 a2) a3 rfl) ?_
     exact eK p
    ·rintro ρ' w' hs m ⟨⟨g5, -⟩, e4⟩
     obtain ⟨e5, e6, e7, a8⟩ := m 10 22 K
     refine kM (kc a8 k0) fun p => ?_
     refine Qi.cells (t := 33) (x := (.tmp 22)) (b := e5) (off := (e6 + Int.toNat j * Vr.sz)) (xs := [(.string ⟨List.toArray (stT g).1⟩), (.int .i64 (stT g).2.1), (.int .i64 (stT g).2.2.1), (.slice g.2.2.2.1.1 (List.length (stT g).2.2.2.1) g.2.2.2.1.2.1), (.slice g.2.2.2.2.1 (List.length (stT g).2.2.2.2) g.2.2.2.2.2.1)]) (d := (some 23)) (k := 11) K rfl K K K (Vy (e := Vr) (Ql (RdT.sp (Xu u) e4) e7 a1 a2) a3 rfl) ?_
     exact eK p
   ·refine oH 1 2 ?_
    ·rintro ρ' w' hs m ⟨⟨e8, -⟩, a5⟩
     refine kM (kc (kA m 7 19) (kc (kA m 11 23) k0)) fun p => ?_
     refine Z4 (f := q) (fo := (.tmp 19)) (xs := #[(.tmp 23)]) (tys := #[33]) (first := #[]) (captured := s) (args := (([(.agg #[(.string ⟨List.toArray (stT g).1⟩), (.int .i64 (stT g).2.1), (.int .i64 (stT g).2.2.1), (.slice g.2.2.2.1.1 (List.length (stT g).2.2.2.1) g.2.2.2.1.2.1), (.slice g.2.2.2.2.1 (List.length (stT g).2.2.2.2) g.2.2.2.2.2.1)])] : List Value) ++ (s).toList)) (d := (some 24)) (k := 12) K rfl K K hcf9 (b1 (stT g).1 (stT g).2.1 (stT g).2.2.1 (stT g).2.2.2.1 (stT g).2.2.2.2 a0 w' g.2.2.2.1.1 g.2.2.2.1.2.1 g.2.2.2.2.1 g.2.2.2.2.2.1 (SP.keeps a5) (RdT.sp (Xu (dp1 (dp2 (dp2 (dp2 (Gb u a3)))))) a5) (RdT.sp (Xu (dp2 (dp2 (dp2 (dp2 (Gb u a3)))))) a5) b9) ?_
     rintro e g6 ⟨rfl, b6⟩
     refine ⟨_, rfl, ?_⟩
     have e9 := SP.call a5 b6
     clear b6
     refine ⟨_, Qa p, rfl, ?_⟩
     exact (And.intro (And.intro e8 (And.intro rfl (trivial))) e9)
   ·refine oL 2 ?_
    ·rintro ρ' w' hs m ⟨⟨f0, f2, -⟩, g7⟩
     refine kN [(18, (.string ⟨List.toArray v⟩)), (24, (.string ⟨List.toArray a0⟩))] ⟨(Vk (h := 6) K).symm.trans f0, (Vk (h := 12) K).symm.trans f2, trivial⟩ fun p => ?_
     refine Xd (op := .geq) (T := 9) (T' := 9) (x := (.tmp 18)) (y := (.tmp 24)) (a := v) (b := a0) (r := (.bool (!(Op.bytesLess v a0)))) (d := (some 25)) (k := 13) K rfl K K rfl ?_
     exact eK p
   ·rintro ρ' w' hs hf ⟨⟨g8, g9, -⟩, a9⟩
    refine V1 [(0, (.slice A2 (List.length (List.map stT d5)) c3)), (1, (.func (.func q) #[] s)), (5, (.int .i64 j)), (25, (.bool (!(Op.bytesLess v a0))))] ⟨(hs 0 K).trans K, (hs 1 K).trans K, (hs 5 K).trans K, hf 13 25 K, trivial⟩ ?_
    obtain ⟨h1, f3⟩ : ∃ x, w' = x := ⟨_, rfl⟩
    rw [f3] at a9 ⊢
    refine Z3 K (o := (.tmp 25)) K (b := (!(Op.bytesLess v a0))) K (fun b0 => ?_) (fun b0 => ?_)
    ·have H := ct H b0
     refine aQ ?_
     refine aR ?_
     refine iR 1 1 [(4, (.bool false))] ?_
     refine iF ?_
     refine At.ret K ?_
     refine ⟨(.bool false), K, ?_⟩
     obtain rfl := Qg H
     exact ⟨rfl, SP.sel a9 [] rfl rfl⟩
    ·have H := cf H b0
     refine At.skip K ?_
     refine aR ?_
     refine iR 3 3 [(10, (.int .i64 j)), (11, (.int .i64 (IntKind.wrap .i64 (j + 1)))), (5, (.int .i64 (IntKind.wrap .i64 (j + 1))))] ?_
     refine iF ?_
     exact ⟨(IntKind.wrap .i64 (j + 1)), ⟨K, K, K, trivial⟩, SP.sel a9 [] rfl rfl, H⟩
  ·have H := cf H a6
   refine At.exit K (id := 0) K ?_
   refine aQ ?_
   refine aR ?_
   refine iR 1 1 [(4, (.bool true))] ?_
   refine iF ?_
   refine At.ret K ?_
   refine ⟨(.bool true), K, ?_⟩
   obtain rfl := Qg H
   exact ⟨rfl, SP.sel b2 [] rfl rfl⟩
 ·exact ⟨1, ⟨K, K, K, trivial⟩, SP.sel b7 [] rfl rfl, H⟩
def Ja (a : (List UInt8)) (b : Int) (c : Int) (d : (List (Int × Int))) (e : (List ((List UInt8) × (List UInt8) × Int))) : Option ((List UInt8)) :=
  (some (a))
set_option maxHeartbeats 40000000 in
theorem Gn (A5 : Option Addr) (c6 : Nat) (A9 : Option Addr) (f : Nat) (a : (List UInt8)) (g : Int) (h : Int) (b : (List (Int × Int))) (c : (List ((List UInt8) × (List UInt8) × Int))) (w0 : World) (m : RdT (Qh (Q8 .u32) (Q8 .i64)) w0 A5 c6 b) (o : RdT (Qh Qm (Qh Qm (Q8 .i64))) w0 A9 f c) (r : ((List UInt8))) (H : Ja a g h b c = some r) :
  Calls Tryz.prog 53 #[(.agg #[(.string ⟨List.toArray a⟩), (.int .i64 g), (.int .i64 h), (.slice A5 (List.length b) c6), (.slice A9 (List.length c) f)])] w0 (fun e w' => e = .returned (.string ⟨List.toArray r⟩) ∧ SP [] w0 w' []) := by
 unfold Ja at H
 refine Qx (n := 5) Tryz.func53 K K K ?_
 have l := Qz [] w0
 refine aQ ?_
 refine aR ?_
 refine iS 1 ?_
 refine Zp (t := 33) (x := (.tmp 0)) (v := (.agg #[(.string ⟨List.toArray a⟩), (.int .i64 g), (.int .i64 h), (.slice A5 (List.length b) c6), (.slice A9 (List.length c) f)])) (d := (some 1)) (k := 0) K rfl K l ?_
 intro i p j
 refine iR 1 2 [(2, (.string ⟨List.toArray ([] : List UInt8)⟩))] ?_
 refine iF ?_
 refine aQ ?_
 refine aR ?_
 refine iR 1 1 [(3, (pt i 0))] ?_
 refine iS 2 ?_
 refine sL 9 3 i 0 0 (.string ⟨List.toArray a⟩) 4 j rfl ?_
 refine iR 1 3 [(2, (.string ⟨List.toArray a⟩))] ?_
 refine iF ?_
 refine At.ret K ?_
 refine ⟨(.string ⟨List.toArray a⟩), K, ?_⟩
 obtain rfl := Qg H
 exact ⟨rfl, SP.sel j [] rfl rfl⟩
def Z8 (b : Int → Option (Bool)) (a : Bool) : Option (Bool) :=
  (some (a))
def Zb (a : Int → Option (Bool)) (d : Int) (e : Int) (f : Int) (g : Int) (b : (List Qc)) (c : Int) : Option (Bool) :=
  (cond (decide (c < ((List.length ([d, e, f, g] : List Int) : Nat) : Int))) ((idx ([d, e, f, g] : List Int) c).bind fun h => ((Ze h 1 1073741824).bind fun i => (cond (!i) (some (false)) (a (IntKind.wrap .i64 (c + 1)))))) (cond (decide (((List.length b : Nat) : Int) ≤ 8)) ((Q2 b (fun y0 y1 y2 y3 y4 => X8 y0 y1 y2 y3 y4)).bind fun j => (cond (!j) ((V5 b (fun y0 y1 y2 y3 y4 => Ja y0 y1 y2 y3 y4)).bind fun k => (Z8 a k)) (Z8 a false))) (Z8 a false)))
def Zo (a : Int) (b : Int) (c : Int) (d : Int) (e : (List Qc)) : Nat → Int → Option (Bool)
  | 0, _ => none
  | f + 1, g => Zb  (Zo a b c d e f) a b c d e g
def Q4 (a : Int) (b : Int) (c : Int) (d : Int) (e : (List Qc)) : Option (Bool) :=
  (Zo a b c d e Yg 0)
set_option maxHeartbeats 40000000 in
theorem Vm (A6 : Option Addr) (c7 : Nat) (a : Int) (f : Int) (g : Int) (h : Int) (d9 : (List Qe)) (w0 : World) (hL : Ub w0) (a9 : (dDS Vr B3).ok w0 (A6, c7, d9)) (r : (Bool)) (H : Q4 a f g h (List.map stT d9) = some r) :
  Calls Tryz.prog 22 #[(.agg #[(.int .i64 a), (.int .i64 f), (.int .i64 g), (.int .i64 h), (.slice A6 (List.length (List.map stT d9)) c7)])] w0 (fun e w' => e = .returned (.bool r) ∧ SP [] w0 w' []) := by
 unfold Q4 at H
 refine Qx (n := 38) Tryz.func22 K K K ?_
 have b7 := Qz [] w0
 refine aQ ?_
 refine aR ?_
 refine iS 1 ?_
 refine Zp (t := 24) (x := (.tmp 0)) (v := (.agg #[(.int .i64 a), (.int .i64 f), (.int .i64 g), (.int .i64 h), (.slice A6 (List.length (List.map stT d9)) c7)])) (d := (some 1)) (k := 0) K rfl K b7 ?_
 intro m d0 u
 refine iR 1 2 [(2, (.bool false))] ?_
 refine iF ?_
 refine aQ ?_
 refine aQ ?_
 refine aR ?_
 refine iR 1 1 [(5, (pt m 0))] ?_
 refine iS 2 ?_
 refine sL 2 5 m 0 0 (.int .i64 a) 6 u rfl ?_
 refine iR 1 3 [(7, (pt m 1))] ?_
 refine iS 4 ?_
 refine sL 2 7 m 1 0 (.int .i64 f) 8 u rfl ?_
 refine iR 1 5 [(9, (pt m 2))] ?_
 refine iS 6 ?_
 refine sL 2 9 m 2 0 (.int .i64 g) 10 u rfl ?_
 refine iR 1 7 [(11, (pt m 3))] ?_
 refine iS 8 ?_
 refine sL 2 11 m 3 0 (.int .i64 h) 12 u rfl ?_
 refine iS 9 ?_
 refine Vp (e := (Q8 .i64)) (T := 85) (E := 2) (len := 4) (parts := #[(0, (.tmp 6)), (1, (.tmp 8)), (2, (.tmp 10)), (3, (.tmp 12))]) (cs := #[(.int .i64 a), (.int .i64 f), (.int .i64 g), (.int .i64 h)]) ([a, f, g, h] : List Int) (d := (some 13)) (k := 8) K rfl (fun _ => K) u rfl rfl rfl rfl ?_
 intro a0 d1 b8
 refine iR 2 11 [(14, (.int .i64 ((List.length ([a, f, g, h] : List Int) : Nat) : Int))), (15, (.int .i64 0))] ?_
 refine iF ?_
 refine Yz K (id := 0) K ?_
 refine G1 K (fun f3 ρ w => ∃ (p : Int), V8 ρ [(1, (pt m 0)), (13, (.slice (some ⟨a0, 0, none⟩) (List.length ([a, f, g, h] : List Int)) (List.length ([a, f, g, h] : List Int)))), (14, (.int .i64 ((List.length ([a, f, g, h] : List Int) : Nat) : Int))), (15, (.int .i64 p))] ∧ SP [] w0 w [Qr m 24 #[(.int .i64 a), (.int .i64 f), (.int .i64 g), (.int .i64 h), (.slice A6 (List.length (List.map stT d9)) c7)], Q3 2 (Q8 .i64) (some ⟨a0, 0, none⟩) (List.length ([a, f, g, h] : List Int)) ([a, f, g, h] : List Int)] ∧ Zo a f g h (List.map stT d9) f3 p = some r) (by rintro ρ w ⟨p, hk, hs, H⟩; cases H) ?_ Yg ?_
 ·rintro f3 ρ b0 ⟨p, hk, q, H⟩
  refine At.known [(1, (pt m 0)), (13, (.slice (some ⟨a0, 0, none⟩) (List.length ([a, f, g, h] : List Int)) (List.length ([a, f, g, h] : List Int)))), (14, (.int .i64 ((List.length ([a, f, g, h] : List Int) : Nat) : Int))), (15, (.int .i64 p))] hk ?_
  replace H := (show Zb (Zo a f g h (List.map stT d9) f3) a f g h (List.map stT d9) p = some r from H)
  unfold Zb at H
  refine aQ ?_
  refine aR ?_
  refine iR 1 1 [(16, (.bool (decide (p < ((List.length ([a, f, g, h] : List Int) : Nat) : Int)))))] ?_
  refine iF ?_
  refine aQ ?_
  refine Z3 K (o := (.tmp 16)) K (b := (decide (p < ((List.length ([a, f, g, h] : List Int) : Nat) : Int)))) K (fun a4 => ?_) (fun a4 => ?_)
  ·have H := ct H a4
   refine At.skip K ?_
   refine aQ ?_
   refine Yz K (id := 1) K ?_
   refine aQ ?_
   refine aR ?_
   obtain ⟨a1, b1, b2, b9, H⟩ := Vl H
   refine iS 1 ?_
   refine Qn (e := (Q8 .i64)) (l := ([a, f, g, h] : List Int)) (A := (some ⟨a0, 0, none⟩)) (c := (List.length ([a, f, g, h] : List Int))) (T := 85) (E := 2) (x := (.tmp 13)) (ix := (.tmp 15)) (ki := .i64) (iz := p) (d := (some 17)) (k := 0) K rfl K K K K (Vd (SP.get q (i := 1) rfl)) b1 b2 ?_
   intro c0 c1 c2 d2 hc125
   refine iS 2 ?_
   refine sC 2 17 c0 (c1 + Int.toNat p * (Q8 .i64).sz) (.int .i64 a1) 18 (Qw (e := (Q8 .i64)) (Ql (Vd (SP.get q (i := 1) rfl)) c2 b1 b2) b9 (j := 0) rfl) ?_
   refine iR 1 3 [(4, (.int .i64 a1))] ?_
   refine iF ?_
   refine aQ ?_
   refine aR ?_
   refine iR 1 1 [(19, (.int .i64 a1))] ?_
   obtain ⟨a5, c3, H⟩ := Qd H
   refine iS 2 ?_
   refine cF 48 #[(.tmp 19), (.const (.int .i64 (1))), (.const (.int .i64 (1073741824)))] #[2, 2, 2] 20 Tryz.call48 (Zw  a1 1 1073741824 b0  a5 c3) ?_
   rintro e d3 ⟨rfl, b3⟩
   refine ⟨_, rfl, ?_⟩
   have b4 := SP.call q b3
   clear b3
   refine iR 1 3 [(21, (.bool (!a5)))] ?_
   refine iF ?_
   refine Z3 K (o := (.tmp 21)) K (b := (!a5)) K (fun a6 => ?_) (fun a6 => ?_)
   ·have H := ct H a6
    refine aQ ?_
    refine aR ?_
    refine iR 1 1 [(2, (.bool false))] ?_
    refine iF ?_
    refine At.ret K ?_
    refine ⟨(.bool false), K, ?_⟩
    obtain rfl := Qg H
    exact ⟨rfl, SP.sel b4 [] rfl rfl⟩
   ·have H := cf H a6
    refine At.skip K ?_
    refine aR ?_
    refine iR 2 2 [(22, (.int .i64 (IntKind.wrap .i64 (p + 1)))), (15, (.int .i64 (IntKind.wrap .i64 (p + 1))))] ?_
    refine iF ?_
    exact ⟨(IntKind.wrap .i64 (p + 1)), ⟨K, K, K, K, trivial⟩, SP.sel b4 [0, 1] rfl rfl, H⟩
  ·have H := cf H a4
   refine At.exit K (id := 0) K ?_
   refine aQ ?_
   refine At.join (fun ρ w => ∃ (s : Bool), V8 ρ [(2, (.bool s))] ∧ SP [] w0 w [] ∧ Z8 (Zo a f g h (List.map stT d9) f3) s = some r) ?_ ?_
   ·refine aR ?_
    refine iR 1 1 [(23, (pt m 4))] ?_
    refine iS 2 ?_
    refine sL 22 23 m 4 0 (.slice A6 (List.length (List.map stT d9)) c7) 24 q rfl ?_
    refine iR 3 5 [(25, (.int .i64 ((List.length (List.map stT d9) : Nat) : Int))), (26, (.bool (decide (((List.length (List.map stT d9) : Nat) : Int) ≤ 8)))), (27, (.bool (decide (((List.length (List.map stT d9) : Nat) : Int) ≤ 8))))] ?_
    refine In.guard (t := 27) (b := (decide (((List.length (List.map stT d9) : Nat) : Int) ≤ 8))) K (fun a7 => ?_) (fun a7 => ?_)
    ·have H := ct H a7
     refine iR 1 6 [(28, (pt m 4))] ?_
     refine iS 7 ?_
     refine sL 22 28 m 4 0 (.slice A6 (List.length (List.map stT d9)) c7) 29 q rfl ?_
     obtain ⟨y, c4, H⟩ := Qd H
     refine iS 8 ?_
     refine cF 49 #[(.tmp 29), (.func 50)] #[22, 82] 30 Tryz.call49 (Xj A6 c7 50 #[] d9 (fun y0 y1 y2 y3 y4 => X8 y0 y1 y2 y3 y4) b0 (Dp.sp a9 q) Tryz.call50 (fun y0 y1 y2 y3 y4 z w Ay3 cy3 Ay4 cy4 hw hy3 hy4 hz => Gm Ay3 cy3 Ay4 cy4 y0 y1 y2 y3 y4 w (Qv (Qv hL (SP.keeps q)) hw) hy3 hy4 z hz) y c4) ?_
     rintro e c5 ⟨rfl, b5⟩
     refine ⟨_, rfl, ?_⟩
     have a2 := SP.call q b5
     clear b5
     refine iR 3 11 [(31, (.bool (!y))), (32, (.bool (!y))), (33, (.bool (!y)))] ?_
     refine In.guard (t := 33) (b := (!y)) K (fun a8 => ?_) (fun a8 => ?_)
     ·have H := ct H a8
      refine iR 1 12 [(34, (pt m 4))] ?_
      refine iS 13 ?_
      refine sL 22 34 m 4 0 (.slice A6 (List.length (List.map stT d9)) c7) 35 a2 rfl ?_
      obtain ⟨a3, c6, H⟩ := Qd H
      refine iS 14 ?_
      refine cF 52 #[(.tmp 35), (.func 53)] #[22, 89] 36 Tryz.call52 (J4 A6 c7 53 #[] d9 (fun y0 y1 y2 y3 y4 => Ja y0 y1 y2 y3 y4) c5 (Dp.sp a9 a2) Tryz.call53 (fun y0 y1 y2 y3 y4 z w Ay3 cy3 Ay4 cy4 hw hy3 hy4 hz => Gn Ay3 cy3 Ay4 cy4 y0 y1 y2 y3 y4 w hy3 hy4 z hz) a3 c6) ?_
      rintro e d4 ⟨rfl, b6⟩
      refine ⟨_, rfl, ?_⟩
      have c8 := SP.call a2 b6
      clear b6
      refine iR 2 16 [(37, (.bool a3)), (2, (.bool a3))] ?_
      refine iF ?_
      exact ⟨a3, ⟨K, trivial⟩, SP.sel c8 [] rfl rfl, H⟩
     ·have H := cf H a8
      refine iR 5 16 [(34, undef), (35, undef), (36, undef), (37, (.bool false)), (2, (.bool false))] ?_
      refine iF ?_
      exact ⟨false, ⟨K, trivial⟩, SP.sel a2 [] rfl rfl, H⟩
    ·have H := cf H a7
     refine iR 11 16 [(28, undef), (29, undef), (30, undef), (31, undef), (32, (.bool false)), (33, (.bool false)), (34, undef), (35, undef), (36, undef), (37, (.bool false)), (2, (.bool false))] ?_
     refine iF ?_
     exact ⟨false, ⟨K, trivial⟩, SP.sel q [] rfl rfl, H⟩
   ·rintro ρ d5 ⟨s, hk, c9, H⟩
    unfold Z8 at H
    first | refine At.known [(2, (.bool s))] hk ?_ | rw [← Q0 (l := [(2, (.bool s))]) hk]
    refine At.ret K ?_
    refine ⟨(.bool s), K, ?_⟩
    obtain rfl := Qg H
    exact ⟨rfl, SP.sel c9 [] rfl rfl⟩
 ·exact ⟨0, ⟨K, K, K, K, trivial⟩, SP.sel b8 [0, 1] rfl rfl, H⟩
end Go.Proofs.YtoflbpmbkmephaaGreatDoor
namespace Go.Proofs.YtoflbpmbkmephaaGreatDoor
open Go.RowKit
def V3 (f : Int → Int → Option (Bool)) (g : Int → Int → Option (Bool)) (h : Int) (b : Qc) (c : Int) (a : Int) (i : Bool) : Option (Bool) :=
  (cond i ((idx b.2.2.2.2 a).bind fun d => ((idx b.2.2.2.2 a).bind fun e => (g (IntKind.wrap .i64 ((IntKind.wrap .i64 (c + (if 3000 < ((List.length d.1 : Nat) : Int) then 3000 else ((List.length d.1 : Nat) : Int)))) + (if 3000 < ((List.length e.2.1 : Nat) : Int) then 3000 else ((List.length e.2.1 : Nat) : Int)))) (IntKind.wrap .i64 (a + 1))))) (f c (IntKind.wrap .i64 (h + 1))))
def Vu (d : Int → Int → Option (Bool)) (e : Int → Int → Option (Bool)) (f : Int) (a : Qc) (b : Int) (c : Int) : Option (Bool) :=
  (cond (decide (c < ((List.length a.2.2.2.2 : Nat) : Int))) (V3 d e f a b c (decide (b < 3000))) (V3 d e f a b c false))
def Vj (a : Int → Int → Option (Bool)) (b : Int) (c : Qc) : Nat → Int → Int → Option (Bool)
  | 0, _, _ => none
  | f + 1, d, e => Vu a (Vj a b c f) b c d e
def V4 (d : Int → Int → Option (Bool)) (e : (List Qc)) (b : Int) (c : Int) (f : Bool) : Option (Bool) :=
  (cond f ((idx e c).bind fun a => (Vj d c a Yg (IntKind.wrap .i64 ((IntKind.wrap .i64 ((IntKind.wrap .i64 (b + (if 3000 < ((List.length a.1 : Nat) : Int) then 3000 else ((List.length a.1 : Nat) : Int)))) + ((List.length a.2.2.2.1 : Nat) : Int))) + ((List.length a.2.2.2.2 : Nat) : Int))) 0)) (some ((decide (b ≥ 3000)))))
def Vz (d : Int → Int → Option (Bool)) (a : (List Qc)) (b : Int) (c : Int) : Option (Bool) :=
  (cond (decide (c < ((List.length a : Nat) : Int))) (V4 d a b c (decide (b < 3000))) (V4 d a b c false))
def Qu (a : (List Qc)) : Nat → Int → Int → Option (Bool)
  | 0, _, _ => none
  | f + 1, b, c => Vz  (Qu a f) a b c
def X3 (b : Int) (c : Int) (d : Int) (e : Int) (a : (List Qc)) : Option (Bool) :=
  (Qu a Yg ((List.length a : Nat) : Int) 0)
set_option maxHeartbeats 40000000 in
theorem Ng (A6 : Option Addr) (c7 : Nat) (a4 : Int) (a5 : Int) (a6 : Int) (a7 : Int) (d9 : (List Qe)) (w0 : World) (a8 : (dDS Vr B3).ok w0 (A6, c7, d9)) (r : (Bool)) (H : X3 a4 a5 a6 a7 (List.map stT d9) = some r) :
  Calls Tryz.prog 15 #[(.agg #[(.int .i64 a4), (.int .i64 a5), (.int .i64 a6), (.int .i64 a7), (.slice A6 (List.length (List.map stT d9)) c7)])] w0 (fun e w' => e = .returned (.bool r) ∧ SP [] w0 w' []) := by
 unfold X3 at H
 refine Qx (n := 72) Tryz.func15 K K K ?_
 have d5 := Qz [] w0
 refine aQ ?_
 refine aR ?_
 refine iS 1 ?_
 refine Zp (t := 24) (x := (.tmp 0)) (v := (.agg #[(.int .i64 a4), (.int .i64 a5), (.int .i64 a6), (.int .i64 a7), (.slice A6 (List.length (List.map stT d9)) c7)])) (d := (some 1)) (k := 0) K rfl K d5 ?_
 intro u g8 c1
 refine iR 1 2 [(2, (.bool false))] ?_
 refine iF ?_
 refine aQ ?_
 refine aR ?_
 refine iR 1 1 [(7, (pt u 4))] ?_
 refine iS 2 ?_
 refine sL 22 7 u 4 0 (.slice A6 (List.length (List.map stT d9)) c7) 8 c1 rfl ?_
 refine iR 2 4 [(9, (.int .i64 ((List.length (List.map stT d9) : Nat) : Int))), (3, (.int .i64 ((List.length (List.map stT d9) : Nat) : Int)))] ?_
 refine iF ?_
 refine aQ ?_
 refine aQ ?_
 refine aR ?_
 refine iR 1 1 [(4, (.int .i64 0))] ?_
 refine iF ?_
 refine Yz K (id := 0) K ?_
 refine G1 K (fun a3 ρ w => ∃ (q : Int) (h : Int), V8 ρ [(1, (pt u 0)), (3, (.int .i64 q)), (4, (.int .i64 h))] ∧ SP [] w0 w [Qr u 24 #[(.int .i64 a4), (.int .i64 a5), (.int .i64 a6), (.int .i64 a7), (.slice A6 (List.length (List.map stT d9)) c7)]] ∧ Qu (List.map stT d9) a3 q h = some r) (by rintro ρ w ⟨q, h, hk, hs, H⟩; cases H) ?_ Yg ?_
 ·rintro a3 ρ g9 ⟨q, h, hk, b5, H⟩
  refine At.known [(1, (pt u 0)), (3, (.int .i64 q)), (4, (.int .i64 h))] hk ?_
  replace H := (show Vz (Qu (List.map stT d9) a3) (List.map stT d9) q h = some r from H)
  unfold Vz at H
  refine aQ ?_
  refine aQ ?_
  refine At.join (fun ρ w => ∃ (a9 : Bool), V8 ρ [(1, (pt u 0)), (3, (.int .i64 q)), (4, (.int .i64 h)), (18, (.bool a9))] ∧ SP [] w0 w [Qr u 24 #[(.int .i64 a4), (.int .i64 a5), (.int .i64 a6), (.int .i64 a7), (.slice A6 (List.length (List.map stT d9)) c7)]] ∧ V4 (Qu (List.map stT d9) a3) (List.map stT d9) q h a9 = some r) ?_ ?_
  ·refine aR ?_
   refine iR 2 2 [(10, (.int .i64 h)), (11, (pt u 4))] ?_
   refine iS 3 ?_
   refine sL 22 11 u 4 0 (.slice A6 (List.length (List.map stT d9)) c7) 12 b5 rfl ?_
   refine iR 3 6 [(13, (.int .i64 ((List.length (List.map stT d9) : Nat) : Int))), (14, (.bool (decide (h < ((List.length (List.map stT d9) : Nat) : Int))))), (15, (.bool (decide (h < ((List.length (List.map stT d9) : Nat) : Int)))))] ?_
   refine In.guard (t := 15) (b := (decide (h < ((List.length (List.map stT d9) : Nat) : Int)))) K (fun b6 => ?_) (fun b6 => ?_)
   ·have H := ct H b6
    refine iR 3 9 [(16, (.int .i64 q)), (17, (.bool (decide (q < 3000)))), (18, (.bool (decide (q < 3000))))] ?_
    refine iF ?_
    exact ⟨(decide (q < 3000)), ⟨K, K, K, K, trivial⟩, SP.sel b5 [0] rfl rfl, H⟩
   ·have H := cf H b6
    refine iR 3 9 [(16, undef), (17, undef), (18, (.bool false))] ?_
    refine iF ?_
    exact ⟨false, ⟨K, K, K, K, trivial⟩, SP.sel b5 [0] rfl rfl, H⟩
  ·rintro ρ h1 ⟨a9, hk, b1, H⟩
   unfold V4 at H
   first | refine At.known [(1, (pt u 0)), (3, (.int .i64 q)), (4, (.int .i64 h)), (18, (.bool a9))] hk ?_ | rw [← Q0 (l := [(1, (pt u 0)), (3, (.int .i64 q)), (4, (.int .i64 h)), (18, (.bool a9))]) hk]
   refine Z3 K (o := (.tmp 18)) K (b := a9) K (fun b7 => ?_) (fun b7 => ?_)
   ·have H := ct H b7
    refine At.skip K ?_
    refine aQ ?_
    refine Yz K (id := 1) K ?_
    refine aQ ?_
    refine aR ?_
    refine iR 1 1 [(21, (pt u 4))] ?_
    refine iS 2 ?_
    refine sL 22 21 u 4 0 (.slice A6 (List.length (List.map stT d9)) c7) 22 b1 rfl ?_
    refine iR 1 3 [(23, (.int .i64 h))] ?_
    obtain ⟨a, c2, c3, b2, H⟩ := Jm H
    refine iS 4 ?_
    refine Xf stT (e := Vr) (l := d9) (A := A6) (c := c7) (T := 22) (E := 33) (x := (.tmp 22)) (ix := (.tmp 23)) (ki := .i64) (iz := h) (d := (some 24)) (k := 3) K rfl K K K K (RdT.sp (Xu a8) b1) c2 c3 ?_
    intro d6 d7 d8 h2 hc480
    refine iS 5 ?_
    refine Qi.cells (t := 33) (x := (.tmp 24)) (b := d6) (off := (d7 + Int.toNat h * Vr.sz)) (xs := [(.string ⟨List.toArray (stT a).1⟩), (.int .i64 (stT a).2.1), (.int .i64 (stT a).2.2.1), (.slice a.2.2.2.1.1 (List.length (stT a).2.2.2.1) a.2.2.2.1.2.1), (.slice a.2.2.2.2.1 (List.length (stT a).2.2.2.2) a.2.2.2.2.2.1)]) (d := (some 25)) (k := 4) K rfl K K K (Vy (e := Vr) (Ql (RdT.sp (Xu a8) b1) d8 c2 c3) b2 rfl) ?_
    refine iS 6 ?_
    refine Qi.alloc (t := 33) (z := (.agg #[(.string ⟨List.toArray ([] : List UInt8)⟩), (.int .i64 0), (.int .i64 0), (.slice none (List.length ([] : List (Int × Int))) 0), (.slice none (List.length ([] : List ((List UInt8) × (List UInt8) × Int))) 0)])) (d := (some 5)) (k := 5) K rfl K b1 ?_
    intro m h3 e0
    refine iS 7 ?_
    refine Qi.store (t := 33) (x := (.tmp 5)) (y := (.tmp 25)) (g := m) (off := 0) (i := 1) (v := (.agg #[(.string ⟨List.toArray (stT a).1⟩), (.int .i64 (stT a).2.1), (.int .i64 (stT a).2.2.1), (.slice a.2.2.2.1.1 (List.length (stT a).2.2.2.1) a.2.2.2.1.2.1), (.slice a.2.2.2.2.1 (List.length (stT a).2.2.2.2) a.2.2.2.2.2.1)])) (cs' := #[(.string ⟨List.toArray (stT a).1⟩), (.int .i64 (stT a).2.1), (.int .i64 (stT a).2.2.1), (.slice a.2.2.2.1.1 (List.length (stT a).2.2.2.1) a.2.2.2.1.2.1), (.slice a.2.2.2.2.1 (List.length (stT a).2.2.2.2) a.2.2.2.2.2.1)]) (d := none) (k := 6) K rfl K K e0 rfl K ?_
    intro h4 b3
    refine iF ?_
    refine aQ ?_
    refine aR ?_
    refine iR 2 2 [(26, (.int .i64 q)), (27, (pt m 0))] ?_
    refine iS 3 ?_
    refine sL 9 27 m 0 1 (.string ⟨List.toArray (stT a).1⟩) 28 b3 rfl ?_
    refine iR 4 7 [(29, (.int .i64 ((List.length (stT a).1 : Nat) : Int))), (30, (.int .i64 (if 3000 < ((List.length (stT a).1 : Nat) : Int) then 3000 else ((List.length (stT a).1 : Nat) : Int)))), (31, (.int .i64 (IntKind.wrap .i64 (q + (if 3000 < ((List.length (stT a).1 : Nat) : Int) then 3000 else ((List.length (stT a).1 : Nat) : Int)))))), (32, (pt m 3))] ?_
    refine iS 8 ?_
    refine sL 30 32 m 3 1 (.slice a.2.2.2.1.1 (List.length (stT a).2.2.2.1) a.2.2.2.1.2.1) 33 b3 rfl ?_
    refine iR 3 11 [(34, (.int .i64 ((List.length (stT a).2.2.2.1 : Nat) : Int))), (35, (.int .i64 (IntKind.wrap .i64 ((IntKind.wrap .i64 (q + (if 3000 < ((List.length (stT a).1 : Nat) : Int) then 3000 else ((List.length (stT a).1 : Nat) : Int)))) + ((List.length (stT a).2.2.2.1 : Nat) : Int))))), (36, (pt m 4))] ?_
    refine iS 12 ?_
    refine sL 31 36 m 4 1 (.slice a.2.2.2.2.1 (List.length (stT a).2.2.2.2) a.2.2.2.2.2.1) 37 b3 rfl ?_
    refine iR 3 15 [(38, (.int .i64 ((List.length (stT a).2.2.2.2 : Nat) : Int))), (39, (.int .i64 (IntKind.wrap .i64 ((IntKind.wrap .i64 ((IntKind.wrap .i64 (q + (if 3000 < ((List.length (stT a).1 : Nat) : Int) then 3000 else ((List.length (stT a).1 : Nat) : Int)))) + ((List.length (stT a).2.2.2.1 : Nat) : Int))) + ((List.length (stT a).2.2.2.2 : Nat) : Int))))), (3, (.int .i64 (IntKind.wrap .i64 ((IntKind.wrap .i64 ((IntKind.wrap .i64 (q + (if 3000 < ((List.length (stT a).1 : Nat) : Int) then 3000 else ((List.length (stT a).1 : Nat) : Int)))) + ((List.length (stT a).2.2.2.1 : Nat) : Int))) + ((List.length (stT a).2.2.2.2 : Nat) : Int)))))] ?_
    refine iF ?_
    refine aQ ?_
    refine aR ?_
    refine iR 1 1 [(6, (.int .i64 0))] ?_
    refine iF ?_
    refine Yz K (id := 2) K ?_
    refine G1 K (fun b4 ρ w => ∃ (p : Int) (f : Int), V8 ρ [(1, (pt u 0)), (3, (.int .i64 p)), (4, (.int .i64 h)), (5, (pt m 0)), (6, (.int .i64 f))] ∧ SP [] w0 w [Qr u 24 #[(.int .i64 a4), (.int .i64 a5), (.int .i64 a6), (.int .i64 a7), (.slice A6 (List.length (List.map stT d9)) c7)], Qr m 33 #[(.string ⟨List.toArray (stT a).1⟩), (.int .i64 (stT a).2.1), (.int .i64 (stT a).2.2.1), (.slice a.2.2.2.1.1 (List.length (stT a).2.2.2.1) a.2.2.2.1.2.1), (.slice a.2.2.2.2.1 (List.length (stT a).2.2.2.2) a.2.2.2.2.2.1)]] ∧ Vj (Qu (List.map stT d9) a3) h (stT a) b4 p f = some r) (by rintro ρ w ⟨p, f, hk, hs, H⟩; cases H) ?_ Yg ?_
    ·rintro b4 ρ h5 ⟨p, f, hk, b8, H⟩
     refine At.known [(1, (pt u 0)), (3, (.int .i64 p)), (4, (.int .i64 h)), (5, (pt m 0)), (6, (.int .i64 f))] hk ?_
     replace H := (show Vu (Qu (List.map stT d9) a3) (Vj (Qu (List.map stT d9) a3) h (stT a) b4) h (stT a) p f = some r from H)
     unfold Vu at H
     refine aQ ?_
     refine aQ ?_
     refine At.join (fun ρ w => ∃ (b0 : Bool), V8 ρ [(1, (pt u 0)), (3, (.int .i64 p)), (4, (.int .i64 h)), (5, (pt m 0)), (6, (.int .i64 f)), (48, (.bool b0))] ∧ SP [] w0 w [Qr u 24 #[(.int .i64 a4), (.int .i64 a5), (.int .i64 a6), (.int .i64 a7), (.slice A6 (List.length (List.map stT d9)) c7)], Qr m 33 #[(.string ⟨List.toArray (stT a).1⟩), (.int .i64 (stT a).2.1), (.int .i64 (stT a).2.2.1), (.slice a.2.2.2.1.1 (List.length (stT a).2.2.2.1) a.2.2.2.1.2.1), (.slice a.2.2.2.2.1 (List.length (stT a).2.2.2.2) a.2.2.2.2.2.1)]] ∧ V3 (Qu (List.map stT d9) a3) (Vj (Qu (List.map stT d9) a3) h (stT a) b4) h (stT a) p f b0 = some r) ?_ ?_
     ·refine aR ?_
      refine iR 2 2 [(40, (.int .i64 f)), (41, (pt m 4))] ?_
      refine iS 3 ?_
      refine sL 31 41 m 4 1 (.slice a.2.2.2.2.1 (List.length (stT a).2.2.2.2) a.2.2.2.2.2.1) 42 b8 rfl ?_
      refine iR 3 6 [(43, (.int .i64 ((List.length (stT a).2.2.2.2 : Nat) : Int))), (44, (.bool (decide (f < ((List.length (stT a).2.2.2.2 : Nat) : Int))))), (45, (.bool (decide (f < ((List.length (stT a).2.2.2.2 : Nat) : Int)))))] ?_
      refine In.guard (t := 45) (b := (decide (f < ((List.length (stT a).2.2.2.2 : Nat) : Int)))) K (fun b9 => ?_) (fun b9 => ?_)
      ·have H := ct H b9
       refine iR 3 9 [(46, (.int .i64 p)), (47, (.bool (decide (p < 3000)))), (48, (.bool (decide (p < 3000))))] ?_
       refine iF ?_
       exact ⟨(decide (p < 3000)), ⟨K, K, K, K, K, K, trivial⟩, SP.sel b8 [0, 1] rfl rfl, H⟩
      ·have H := cf H b9
       refine iR 3 9 [(46, undef), (47, undef), (48, (.bool false))] ?_
       refine iF ?_
       exact ⟨false, ⟨K, K, K, K, K, K, trivial⟩, SP.sel b8 [0, 1] rfl rfl, H⟩
     ·rintro ρ h6 ⟨b0, hk, c4, H⟩
      unfold V3 at H
      first | refine At.known [(1, (pt u 0)), (3, (.int .i64 p)), (4, (.int .i64 h)), (5, (pt m 0)), (6, (.int .i64 f)), (48, (.bool b0))] hk ?_ | rw [← Q0 (l := [(1, (pt u 0)), (3, (.int .i64 p)), (4, (.int .i64 h)), (5, (pt m 0)), (6, (.int .i64 f)), (48, (.bool b0))]) hk]
      refine Z3 K (o := (.tmp 48)) K (b := b0) K (fun c0 => ?_) (fun c0 => ?_)
      ·have H := ct H c0
       refine At.skip K ?_
       refine aQ ?_
       refine Yz K (id := 3) K ?_
       obtain ⟨s, c5, c6, e1, H⟩ := Vl H
       obtain ⟨a0, c8, c9, e2, H⟩ := Vl H
       refine aG [GEq (.int .i64 p), GEq (pt m 4), GEq (.slice a.2.2.2.2.1 (List.length (stT a).2.2.2.2) a.2.2.2.2.2.1), GEq (.int .i64 f), X5 a.2.2.2.2.1 (Qh Qm (Qh Qm (Q8 .i64))).sz f, X5 a.2.2.2.2.1 (Qh Qm (Qh Qm (Q8 .i64))).sz f, GEq (.string ⟨List.toArray s.1⟩), GEq (.int .i64 ((List.length s.1 : Nat) : Int)), GEq (.int .i64 (if 3000 < ((List.length s.1 : Nat) : Int) then 3000 else ((List.length s.1 : Nat) : Int))), GEq (.int .i64 (IntKind.wrap .i64 (p + (if 3000 < ((List.length s.1 : Nat) : Int) then 3000 else ((List.length s.1 : Nat) : Int))))), GEq (pt m 4), GEq (.slice a.2.2.2.2.1 (List.length (stT a).2.2.2.2) a.2.2.2.2.2.1), GEq (.int .i64 f), X5 a.2.2.2.2.1 (Qh Qm (Qh Qm (Q8 .i64))).sz f, GElem a.2.2.2.2.1 (Qh Qm (Qh Qm (Q8 .i64))).sz f 1, GEq (.string ⟨List.toArray a0.2.1⟩), GEq (.int .i64 ((List.length a0.2.1 : Nat) : Int)), GEq (.int .i64 (if 3000 < ((List.length a0.2.1 : Nat) : Int) then 3000 else ((List.length a0.2.1 : Nat) : Int))), GEq (.int .i64 (IntKind.wrap .i64 ((IntKind.wrap .i64 (p + (if 3000 < ((List.length s.1 : Nat) : Int) then 3000 else ((List.length s.1 : Nat) : Int)))) + (if 3000 < ((List.length a0.2.1 : Nat) : Int) then 3000 else ((List.length a0.2.1 : Nat) : Int))))), GEq (.int .i64 (IntKind.wrap .i64 ((IntKind.wrap .i64 (p + (if 3000 < ((List.length s.1 : Nat) : Int) then 3000 else ((List.length s.1 : Nat) : Int)))) + (if 3000 < ((List.length a0.2.1 : Nat) : Int) then 3000 else ((List.length a0.2.1 : Nat) : Int)))))] [] (tG [] w0 [Qr u 24 #[(.int .i64 a4), (.int .i64 a5), (.int .i64 a6), (.int .i64 a7), (.slice A6 (List.length (List.map stT d9)) c7)], Qr m 33 #[(.string ⟨List.toArray (stT a).1⟩), (.int .i64 (stT a).2.1), (.int .i64 (stT a).2.2.1), (.slice a.2.2.2.1.1 (List.length (stT a).2.2.2.1) a.2.2.2.1.2.1), (.slice a.2.2.2.2.1 (List.length (stT a).2.2.2.2) a.2.2.2.2.2.1)]] [([], [])]) 20 0 ⟨trivial, SP.drew c4⟩ ?_ ?_
       iterate 20 refine And.intro ?_ ?_
       exact trivial
       ·exact oV (hC (hS 3 (.int .i64 p)) (h0)) (.int .i64 p)
       ·exact oV (hC (hS 5 (pt m 0)) (h0)) (pt m 4)
       ·refine oL 0 ?_
        ·rintro ρ' w' hs a1 ⟨h7, e3⟩
         refine kM (kc (kA a1 1 52) k0) fun a2 => ?_
         refine sL 31 52 m 4 1 (.slice a.2.2.2.2.1 (List.length (stT a).2.2.2.2) a.2.2.2.2.2.1) 53 e3 rfl ?_
         exact eK a2
       ·exact oV (hC (hS 6 (.int .i64 f)) (h0)) (.int .i64 f)
       ·refine oL 0 ?_
        ·rintro ρ' w' hs a1 ⟨h8, e4⟩
         refine kM (kc (kA a1 2 53) (kc (kA a1 3 54) k0)) fun a2 => ?_
         refine Qn (e := (Qh Qm (Qh Qm (Q8 .i64)))) (l := (stT a).2.2.2.2) (A := a.2.2.2.2.1) (c := a.2.2.2.2.2.1) (T := 31) (E := 37) (x := (.tmp 53)) (ix := (.tmp 54)) (ki := .i64) (iz := f) (d := (some 55)) (k := 4) K rfl K K K K (RdT.sp (Xu (dp2 (dp2 (dp2 (dp2 (Gb a8 b2)))))) e4) c5 c6 ?_
         intro e5 e6 e7 h9 hc655
         exact ⟨rfl, _, Qa a2, ⟨e5, e6, e7, rfl⟩⟩
       ·refine oL 0 ?_
        ·rintro ρ' w' hs a1 ⟨i0, i1⟩
         obtain ⟨d0, d1, e8, e9⟩ := a1 4 55 K
         refine kM (kc e9 k0) fun a2 => ?_
         refine Qi.run (k := 5) (v := (.pointer (some ⟨d0, (d1 + Int.toNat f * (Qh Qm (Qh Qm (Q8 .i64))).sz), none⟩))) K ?_
         exact ⟨rfl, _, Qa a2, ⟨d0, d1, e8, rfl⟩⟩
       ·refine oL 0 ?_
        ·rintro ρ' w' hs a1 ⟨i2, f0⟩
         obtain ⟨f1, f2, f3, f4⟩ := a1 5 56 K
         refine kM (kc f4 k0) fun a2 => ?_
         refine sC 9 56 f1 (f2 + Int.toNat f * (Qh Qm (Qh Qm (Q8 .i64))).sz) (.string ⟨List.toArray s.1⟩) 57 (Qw (e := (Qh Qm (Qh Qm (Q8 .i64)))) (Ql (RdT.sp (Xu (dp2 (dp2 (dp2 (dp2 (Gb a8 b2)))))) f0) f3 c5 c6) e1 (j := 0) rfl) ?_
         exact eK a2
       ·exact oV (hC (hA 6 57) (h0)) (.int .i64 ((List.length s.1 : Nat) : Int))
       ·exact oV (hC (hA 7 58) (h0)) (.int .i64 (if 3000 < ((List.length s.1 : Nat) : Int) then 3000 else ((List.length s.1 : Nat) : Int)))
       ·exact oV (hC (hA 0 51) (hC (hA 8 59) (h0))) (.int .i64 (IntKind.wrap .i64 (p + (if 3000 < ((List.length s.1 : Nat) : Int) then 3000 else ((List.length s.1 : Nat) : Int)))))
       ·exact oV (hC (hS 5 (pt m 0)) (h0)) (pt m 4)
       ·refine oL 0 ?_
        ·rintro ρ' w' hs a1 ⟨i3, f5⟩
         refine kM (kc (kA a1 10 61) k0) fun a2 => ?_
         refine sL 31 61 m 4 1 (.slice a.2.2.2.2.1 (List.length (stT a).2.2.2.2) a.2.2.2.2.2.1) 62 f5 rfl ?_
         exact eK a2
       ·exact oV (hC (hS 6 (.int .i64 f)) (h0)) (.int .i64 f)
       ·refine oL 0 ?_
        ·rintro ρ' w' hs a1 ⟨i4, f6⟩
         refine kM (kc (kA a1 11 62) (kc (kA a1 12 63) k0)) fun a2 => ?_
         refine Qn (e := (Qh Qm (Qh Qm (Q8 .i64)))) (l := (stT a).2.2.2.2) (A := a.2.2.2.2.1) (c := a.2.2.2.2.2.1) (T := 31) (E := 37) (x := (.tmp 62)) (ix := (.tmp 63)) (ki := .i64) (iz := f) (d := (some 64)) (k := 13) K rfl K K K K (RdT.sp (Xu (dp2 (dp2 (dp2 (dp2 (Gb a8 b2)))))) f6) c8 c9 ?_
         intro f7 f8 f9 i5 hc674
         exact ⟨rfl, _, Qa a2, ⟨f7, f8, f9, rfl⟩⟩
       ·refine oL 0 ?_
        ·rintro ρ' w' hs a1 ⟨i6, i7⟩
         obtain ⟨d2, d3, g0, g1⟩ := a1 13 64 K
         refine kM (kc g1 k0) fun a2 => ?_
         refine Qi.run (k := 14) (v := (.pointer (some ⟨d2, (d3 + Int.toNat f * (Qh Qm (Qh Qm (Q8 .i64))).sz + 1), none⟩))) K ?_
         exact ⟨rfl, _, Qa a2, ⟨d2, d3, g0, rfl⟩⟩
       ·refine oL 0 ?_
        ·rintro ρ' w' hs a1 ⟨i8, g2⟩
         obtain ⟨g3, g4, g5, g6⟩ := a1 14 65 K
         refine kM (kc g6 k0) fun a2 => ?_
         refine sC 9 65 g3 (g4 + Int.toNat f * (Qh Qm (Qh Qm (Q8 .i64))).sz + 1) (.string ⟨List.toArray a0.2.1⟩) 66 (Qw (e := (Qh Qm (Qh Qm (Q8 .i64)))) (Ql (RdT.sp (Xu (dp2 (dp2 (dp2 (dp2 (Gb a8 b2)))))) g2) g5 c8 c9) e2 (j := 1) rfl) ?_
         exact eK a2
       ·exact oV (hC (hA 15 66) (h0)) (.int .i64 ((List.length a0.2.1 : Nat) : Int))
       ·exact oV (hC (hA 16 67) (h0)) (.int .i64 (if 3000 < ((List.length a0.2.1 : Nat) : Int) then 3000 else ((List.length a0.2.1 : Nat) : Int)))
       ·exact oV (hC (hA 9 60) (hC (hA 17 68) (h0))) (.int .i64 (IntKind.wrap .i64 ((IntKind.wrap .i64 (p + (if 3000 < ((List.length s.1 : Nat) : Int) then 3000 else ((List.length s.1 : Nat) : Int)))) + (if 3000 < ((List.length a0.2.1 : Nat) : Int) then 3000 else ((List.length a0.2.1 : Nat) : Int)))))
       ·exact oV (hC (hA 18 69) (h0)) (.int .i64 (IntKind.wrap .i64 ((IntKind.wrap .i64 (p + (if 3000 < ((List.length s.1 : Nat) : Int) then 3000 else ((List.length s.1 : Nat) : Int)))) + (if 3000 < ((List.length a0.2.1 : Nat) : Int) then 3000 else ((List.length a0.2.1 : Nat) : Int)))))
       ·rintro ρ' w' hs hf ⟨i9, d4⟩
        refine V1 [(1, (pt u 0)), (3, (.int .i64 (IntKind.wrap .i64 ((IntKind.wrap .i64 (p + (if 3000 < ((List.length s.1 : Nat) : Int) then 3000 else ((List.length s.1 : Nat) : Int)))) + (if 3000 < ((List.length a0.2.1 : Nat) : Int) then 3000 else ((List.length a0.2.1 : Nat) : Int)))))), (4, (.int .i64 h)), (5, (pt m 0)), (6, (.int .i64 f))] ⟨(hs 1 K).trans K, hf 19 3 K, (hs 4 K).trans K, (hs 5 K).trans K, (hs 6 K).trans K, trivial⟩ ?_
        obtain ⟨j0, g7⟩ : ∃ x, w' = x := ⟨_, rfl⟩
        rw [g7] at d4 ⊢
        refine aR ?_
        refine iR 3 3 [(49, (.int .i64 f)), (50, (.int .i64 (IntKind.wrap .i64 (f + 1)))), (6, (.int .i64 (IntKind.wrap .i64 (f + 1))))] ?_
        refine iF ?_
        exact ⟨(IntKind.wrap .i64 ((IntKind.wrap .i64 (p + (if 3000 < ((List.length s.1 : Nat) : Int) then 3000 else ((List.length s.1 : Nat) : Int)))) + (if 3000 < ((List.length a0.2.1 : Nat) : Int) then 3000 else ((List.length a0.2.1 : Nat) : Int)))), (IntKind.wrap .i64 (f + 1)), ⟨K, K, K, K, K, trivial⟩, SP.sel d4 [0, 1] rfl rfl, H⟩
      ·have H := cf H c0
       refine At.exit K (id := 2) K ?_
       refine aR ?_
       refine iR 3 3 [(19, (.int .i64 h)), (20, (.int .i64 (IntKind.wrap .i64 (h + 1)))), (4, (.int .i64 (IntKind.wrap .i64 (h + 1))))] ?_
       refine iF ?_
       exact ⟨p, (IntKind.wrap .i64 (h + 1)), ⟨K, K, K, trivial⟩, SP.sel c4 [0] rfl rfl, H⟩
    ·exact ⟨(IntKind.wrap .i64 ((IntKind.wrap .i64 ((IntKind.wrap .i64 (q + (if 3000 < ((List.length (stT a).1 : Nat) : Int) then 3000 else ((List.length (stT a).1 : Nat) : Int)))) + ((List.length (stT a).2.2.2.1 : Nat) : Int))) + ((List.length (stT a).2.2.2.2 : Nat) : Int))), 0, ⟨K, K, K, K, K, trivial⟩, SP.sel b3 [0, 1] rfl rfl, H⟩
   ·have H := cf H b7
    refine At.exit K (id := 0) K ?_
    refine aQ ?_
    refine aR ?_
    refine iR 3 3 [(70, (.int .i64 q)), (71, (.bool (decide (q ≥ 3000)))), (2, (.bool (decide (q ≥ 3000))))] ?_
    refine iF ?_
    refine At.ret K ?_
    refine ⟨(.bool (decide (q ≥ 3000))), K, ?_⟩
    obtain rfl := Qg H
    exact ⟨rfl, SP.sel b1 [] rfl rfl⟩
 ·exact ⟨((List.length (List.map stT d9) : Nat) : Int), 0, ⟨K, K, K, trivial⟩, SP.sel c1 [0] rfl rfl, H⟩
end Go.Proofs.YtoflbpmbkmephaaGreatDoor
namespace Go.Proofs.YtoflbpmbkmephaaGreatDoor
abbrev Str := List UInt8
abbrev NetL := Int × Int
abbrev Fg := Str × Str × Int
theorem lNameM (s : Str) (h : s.length ≤ 140737488355328) : Xh s = some (Bn s) := by
  by_cases h9 : s.length ≤ 9000
  · exact lName s h9
  · unfold Xh V7 Bn
    have hne : (s == ([] : List UInt8)) = false := by rw [beq_eq_false_iff_ne]; intro e; subst e; simp at h9
    rw [hne, show decide (((List.length s : Nat) : Int) ≤ 20) = false from decide_eq_false (by omega), show decide (s.length ≤ 20) = false from decide_eq_false (by omega)]
    simp
theorem Dw (l : List NetL) (P : NetL → Bool) (p : Int → Int → Option Bool) (hp : ∀ x ∈ l, p x.1 x.2 = some (P x)) (hl : l.length ≤ 140737488355328) :
    ∀ (d i f : Nat), d = l.length - i → i ≤ l.length → d < f → ∃ r, Qo l p f (i : Int) = some r ∧ decide (r ≥ 0) = (l.drop i).any P := by
  intro d
  induction d with
  | zero =>
    intro i f hd hi hf
    obtain ⟨f, rfl⟩ : ∃ g, f = g + 1 := ⟨f - 1, by omega⟩
    refine ⟨-1, ?_, ?_⟩
    · show Qy (Qo l p f) l p (i : Int) = _
      unfold Qy
      rw [show decide ((i : Int) < ((l.length : Nat) : Int)) = false from decide_eq_false (by omega), cond_false]
    · rw [List.drop_of_length_le (by omega)]
      rfl
  | succ d ih =>
    intro i f hd hi hf
    obtain ⟨f, rfl⟩ : ∃ g, f = g + 1 := ⟨f - 1, by omega⟩
    have hlt : i < l.length := by omega
    obtain ⟨r, h1, h2⟩ := ih (i + 1) f (by omega) (by omega) (by omega)
    rw [List.drop_eq_getElem_cons hlt, List.any_cons]
    have hstep : Qo l p (f + 1) (i : Int) = cond (P l[i]) (some (i : Int)) (Qo l p f ((i + 1 : Nat) : Int)) := by
      show Qy (Qo l p f) l p (i : Int) = _
      unfold Qy
      rw [show decide ((i : Int) < ((l.length : Nat) : Int)) = true from decide_eq_true (by omega), cond_true, Ud hlt, Option.bind_some, hp _ (List.getElem_mem hlt), Option.bind_some, show ((i : Int) + 1) = ((i + 1 : Nat) : Int) by omega, Ri (by omega)]
    rw [hstep]
    cases hP : P l[i] with
    | true => exact ⟨(i : Int), rfl, by rw [decide_eq_true (by omega), Bool.true_or]⟩
    | false => exact ⟨r, h1, by rw [h2, Bool.false_or]⟩
theorem Ez (l : List NetL) (P : NetL → Bool) (p : Int → Int → Option Bool) (hp : ∀ x ∈ l, p x.1 x.2 = some (P x)) (hl : l.length ≤ 140737488355328) : Vg l p = some (l.any P) := by
  obtain ⟨r, h1, h2⟩ := Dw l P p hp hl l.length 0 Yg (by omega) (by omega) (by unfold Yg; omega)
  unfold Vg Vw
  rw [show ((0 : Nat) : Int) = 0 from rfl] at h1
  rw [h1, Option.bind_some, h2, List.drop_zero]
theorem R2 (l : List Fg) (P : Fg → Bool) (p : Str → Str → Int → Option Bool) (hp : ∀ x ∈ l, p x.1 x.2.1 x.2.2 = some (P x)) (hl : l.length ≤ 140737488355328) :
    ∀ (d i f : Nat), d = l.length - i → i ≤ l.length → d < f → ∃ r, Qk l p f (i : Int) = some r ∧ decide (r ≥ 0) = (l.drop i).any P := by
  intro d
  induction d with
  | zero =>
    intro i f hd hi hf
    obtain ⟨f, rfl⟩ : ∃ g, f = g + 1 := ⟨f - 1, by omega⟩
    refine ⟨-1, ?_, ?_⟩
    · show Qt (Qk l p f) l p (i : Int) = _
      unfold Qt
      rw [show decide ((i : Int) < ((l.length : Nat) : Int)) = false from decide_eq_false (by omega), cond_false]
    · rw [List.drop_of_length_le (by omega)]
      rfl
  | succ d ih =>
    intro i f hd hi hf
    obtain ⟨f, rfl⟩ : ∃ g, f = g + 1 := ⟨f - 1, by omega⟩
    have hlt : i < l.length := by omega
    obtain ⟨r, h1, h2⟩ := ih (i + 1) f (by omega) (by omega) (by omega)
    rw [List.drop_eq_getElem_cons hlt, List.any_cons]
    have hstep : Qk l p (f + 1) (i : Int) = cond (P l[i]) (some (i : Int)) (Qk l p f ((i + 1 : Nat) : Int)) := by
      show Qt (Qk l p f) l p (i : Int) = _
      unfold Qt
      rw [show decide ((i : Int) < ((l.length : Nat) : Int)) = true from decide_eq_true (by omega), cond_true, Ud hlt, Option.bind_some, hp _ (List.getElem_mem hlt), Option.bind_some, show ((i : Int) + 1) = ((i + 1 : Nat) : Int) by omega, Ri (by omega)]
    rw [hstep]
    cases hP : P l[i] with
    | true => exact ⟨(i : Int), rfl, by rw [decide_eq_true (by omega), Bool.true_or]⟩
    | false => exact ⟨r, h1, by rw [h2, Bool.false_or]⟩
theorem Cj (l : List Fg) (P : Fg → Bool) (p : Str → Str → Int → Option Bool) (hp : ∀ x ∈ l, p x.1 x.2.1 x.2.2 = some (P x)) (hl : l.length ≤ 140737488355328) : Q6 l p = some (l.any P) := by
  obtain ⟨r, h1, h2⟩ := R2 l P p hp hl l.length 0 Yg (by omega) (by omega) (by unfold Yg; omega)
  unfold Q6 Vb
  rw [show ((0 : Nat) : Int) = 0 from rfl] at h1
  rw [h1, Option.bind_some, h2, List.drop_zero]
theorem Rk (l : List Qc) (P : Qc → Bool) (p : Str → Int → Int → List NetL → List Fg → Option Bool) (hp : ∀ x ∈ l, p x.1 x.2.1 x.2.2.1 x.2.2.2.1 x.2.2.2.2 = some (P x)) (hl : l.length ≤ 140737488355328) :
    ∀ (d i f : Nat), d = l.length - i → i ≤ l.length → d < f → ∃ r, Qj l p f (i : Int) = some r ∧ decide (r ≥ 0) = (l.drop i).any P := by
  intro d
  induction d with
  | zero =>
    intro i f hd hi hf
    obtain ⟨f, rfl⟩ : ∃ g, f = g + 1 := ⟨f - 1, by omega⟩
    refine ⟨-1, ?_, ?_⟩
    · show Qq (Qj l p f) l p (i : Int) = _
      unfold Qq
      rw [show decide ((i : Int) < ((l.length : Nat) : Int)) = false from decide_eq_false (by omega), cond_false]
    · rw [List.drop_of_length_le (by omega)]
      rfl
  | succ d ih =>
    intro i f hd hi hf
    obtain ⟨f, rfl⟩ : ∃ g, f = g + 1 := ⟨f - 1, by omega⟩
    have hlt : i < l.length := by omega
    obtain ⟨r, h1, h2⟩ := ih (i + 1) f (by omega) (by omega) (by omega)
    rw [List.drop_eq_getElem_cons hlt, List.any_cons]
    have hstep : Qj l p (f + 1) (i : Int) = cond (P l[i]) (some (i : Int)) (Qj l p f ((i + 1 : Nat) : Int)) := by
      show Qq (Qj l p f) l p (i : Int) = _
      unfold Qq
      rw [show decide ((i : Int) < ((l.length : Nat) : Int)) = true from decide_eq_true (by omega), cond_true, Ud hlt, Option.bind_some, hp _ (List.getElem_mem hlt), Option.bind_some, show ((i : Int) + 1) = ((i + 1 : Nat) : Int) by omega, Ri (by omega)]
    rw [hstep]
    cases hP : P l[i] with
    | true => exact ⟨(i : Int), rfl, by rw [decide_eq_true (by omega), Bool.true_or]⟩
    | false => exact ⟨r, h1, by rw [h2, Bool.false_or]⟩
theorem Bo (l : List Qc) (P : Qc → Bool) (p : Str → Int → Int → List NetL → List Fg → Option Bool) (hp : ∀ x ∈ l, p x.1 x.2.1 x.2.2.1 x.2.2.2.1 x.2.2.2.2 = some (P x)) (hl : l.length ≤ 140737488355328) : Q2 l p = some (l.any P) := by
  obtain ⟨r, h1, h2⟩ := Rk l P p hp hl l.length 0 Yg (by omega) (by omega) (by unfold Yg; omega)
  unfold Q2 Q9
  rw [show ((0 : Nat) : Int) = 0 from rfl] at h1
  rw [h1, Option.bind_some, h2, List.drop_zero]
def Dm : List Str → Bool
  | [] => true
  | [_] => true
  | a :: b :: r => Op.bytesLess a b && Dm (b :: r)
theorem Ef (l : List Str) (i : Nat) (h : i + 1 < l.length) : Dm (l.drop i) = (Op.bytesLess (l[i]'(by omega)) (l[i + 1]'h) && Dm (l.drop (i + 1))) := by
  rw [List.drop_eq_getElem_cons (by omega : i < l.length), List.drop_eq_getElem_cons h]
  rfl
theorem B4 (l : List Str) (i : Nat) (h : l.length ≤ i + 1) : Dm (l.drop i) = true := by
  by_cases h2 : i < l.length
  · rw [List.drop_eq_getElem_cons h2, List.drop_of_length_le (by omega)]
    rfl
  · rw [List.drop_of_length_le (by omega)]
    rfl
theorem Dx (l : List Fg) (p : Str → Str → Int → Option Str) (hp : ∀ x : Fg, p x.1 x.2.1 x.2.2 = some x.1) (hl : l.length ≤ 140737488355328) :
    ∀ (d i f : Nat), d = l.length - i → 1 ≤ i → d < f → Vi l p f (i : Int) = some (Dm ((l.map (·.1)).drop (i - 1))) := by
  intro d
  induction d with
  | zero =>
    intro i f hd hi hf
    obtain ⟨f, rfl⟩ : ∃ g, f = g + 1 := ⟨f - 1, by omega⟩
    show Vh (Vi l p f) l p (i : Int) = _
    unfold Vh
    rw [show decide ((i : Int) < ((l.length : Nat) : Int)) = false from decide_eq_false (by omega), cond_false, B4 _ _ (by simp; omega)]
  | succ d ih =>
    intro i f hd hi hf
    obtain ⟨f, rfl⟩ : ∃ g, f = g + 1 := ⟨f - 1, by omega⟩
    have hlt : i < l.length := by omega
    have hlt' : i - 1 < l.length := by omega
    show Vh (Vi l p f) l p (i : Int) = _
    unfold Vh
    rw [show decide ((i : Int) < ((l.length : Nat) : Int)) = true from decide_eq_true (by omega), cond_true, show ((i : Int) - 1) = ((i - 1 : Nat) : Int) by omega, Ri (by omega), Ud hlt', Option.bind_some, hp, Option.bind_some, Ud hlt, Option.bind_some, hp, Option.bind_some,
      show ((i : Int) + 1) = ((i + 1 : Nat) : Int) by omega, Ri (by omega), ih (i + 1) f (by omega) (by omega) (by omega), Ef _ (i - 1) (by simp; omega)]
    simp only [show i - 1 + 1 = i by omega, show i + 1 - 1 = i by omega, List.getElem_map]
    cases Op.bytesLess l[i - 1].1 l[i].1 with
    | true => rfl
    | false => rfl
theorem E0 (l : List Fg) (p : Str → Str → Int → Option Str) (hp : ∀ x : Fg, p x.1 x.2.1 x.2.2 = some x.1) (hl : l.length ≤ 140737488355328) : V6 l p = some (Dm (l.map (·.1))) := by
  have := Dx l p hp hl (l.length - 1) 1 Yg rfl (Nat.le_refl _) (by unfold Yg; omega)
  unfold V6
  rw [show ((1 : Nat) : Int) = 1 from rfl] at this
  rw [this]
  rfl
theorem Dd (l : List Qc) (p : Str → Int → Int → List NetL → List Fg → Option Str) (hp : ∀ x : Qc, p x.1 x.2.1 x.2.2.1 x.2.2.2.1 x.2.2.2.2 = some x.1) (hl : l.length ≤ 140737488355328) :
    ∀ (d i f : Nat), d = l.length - i → 1 ≤ i → d < f → Vf l p f (i : Int) = some (Dm ((l.map (·.1)).drop (i - 1))) := by
  intro d
  induction d with
  | zero =>
    intro i f hd hi hf
    obtain ⟨f, rfl⟩ : ∃ g, f = g + 1 := ⟨f - 1, by omega⟩
    show Ve (Vf l p f) l p (i : Int) = _
    unfold Ve
    rw [show decide ((i : Int) < ((l.length : Nat) : Int)) = false from decide_eq_false (by omega), cond_false, B4 _ _ (by simp; omega)]
  | succ d ih =>
    intro i f hd hi hf
    obtain ⟨f, rfl⟩ : ∃ g, f = g + 1 := ⟨f - 1, by omega⟩
    have hlt : i < l.length := by omega
    have hlt' : i - 1 < l.length := by omega
    show Ve (Vf l p f) l p (i : Int) = _
    unfold Ve
    rw [show decide ((i : Int) < ((l.length : Nat) : Int)) = true from decide_eq_true (by omega), cond_true, show ((i : Int) - 1) = ((i - 1 : Nat) : Int) by omega, Ri (by omega), Ud hlt', Option.bind_some, hp, Option.bind_some, Ud hlt, Option.bind_some, hp, Option.bind_some,
      show ((i : Int) + 1) = ((i + 1 : Nat) : Int) by omega, Ri (by omega), ih (i + 1) f (by omega) (by omega) (by omega), Ef _ (i - 1) (by simp; omega)]
    simp only [show i - 1 + 1 = i by omega, show i + 1 - 1 = i by omega, List.getElem_map]
    cases Op.bytesLess l[i - 1].1 l[i].1 with
    | true => rfl
    | false => rfl
theorem Eg (l : List Qc) (p : Str → Int → Int → List NetL → List Fg → Option Str) (hp : ∀ x : Qc, p x.1 x.2.1 x.2.2.1 x.2.2.2.1 x.2.2.2.2 = some x.1) (hl : l.length ≤ 140737488355328) : V5 l p = some (Dm (l.map (·.1))) := by
  have := Dd l p hp hl (l.length - 1) 1 Yg rfl (Nat.le_refl _) (by unfold Yg; omega)
  unfold V5
  rw [show ((1 : Nat) : Int) = 1 from rfl] at this
  rw [this]
  rfl
def Fy (n : NetL) : Bool := R1 n.1.toNat n.2
def Fz (x : Fg) : Bool := Bn x.1 && ((decide (1 ≤ x.2.1.length) && decide (x.2.1.length ≤ 32)) && (decide (0 ≤ x.2.2) && decide (x.2.2 ≤ 1099511627776)))
def qOk (n : Int) : Bool := decide (0 ≤ n) && decide (n ≤ 8)
def Ba (t : Qc) : Bool := (t.2.2.2.1.all Fy && t.2.2.2.2.all Fz) && ((Bn t.1 && (decide (t.2.2.2.1.length ≤ 4) && decide (t.2.2.2.2.length ≤ 4))) && ((qOk t.2.1 && qOk t.2.2.1) && Dm (t.2.2.2.2.map (·.1))))
def Jy (n : Int) : Bool := decide (1 ≤ n) && decide (n ≤ 1073741824)
def Ck (w g i e : Int) (l : List Qc) : Bool := (Jy w && (Jy g && (Jy i && Jy e))) && (decide (l.length ≤ 8) && (l.all Ba && Dm (l.map (·.1))))
def TenQ (t : Qc) : Prop := t.1.length ≤ 140737488355328 ∧ t.2.2.2.1.length ≤ 140737488355328 ∧ t.2.2.2.2.length ≤ 140737488355328 ∧ (∀ n ∈ t.2.2.2.1, 0 ≤ n.1 ∧ n.1 < 4294967296) ∧ ∀ x ∈ t.2.2.2.2, x.1.length ≤ 140737488355328 ∧ x.2.1.length ≤ 140737488355328
theorem Bb (n a b : Int) : Ze n a b = some (decide (a ≤ n) && decide (n ≤ b)) := by
  unfold Ze Xi
  by_cases h : n ≥ a
  · rw [show decide (n ≥ a) = true from decide_eq_true h]
    rfl
  · rw [show decide (n ≥ a) = false from decide_eq_false h]
    rfl
theorem slash_nil (a : Nat) (b : Int) : (Ff a b == ([] : List UInt8)) = !(R1 a b) := by
  unfold Ff
  cases R1 a b with
  | true =>
    simp only [Bool.not_true, beq_eq_false_iff_ne]
    intro h
    have := congrArg List.length h
    simp at this
  | false => rfl
theorem lNetBad {n : NetL} (h : 0 ≤ n.1 ∧ n.1 < 4294967296) : Z6 n.1 n.2 = some (!(Fy n)) := by
  unfold Z6 Fy
  obtain ⟨a, ha⟩ : ∃ a : Nat, n.1 = (a : Int) := ⟨n.1.toNat, by omega⟩
  rw [ha, lSlash a (by omega), Option.bind_some, slash_nil, Int.toNat_natCast]
theorem lToken {x : Fg} (h : x.1.length ≤ 140737488355328) : Y7 x.1 x.2.1 x.2.2 = some (Fz x) := by
  unfold Y7 Z7 Fz
  rw [lNameM _ h, Option.bind_some, Bb, Bb]
  cases Bn x.1 with
  | false => rfl
  | true =>
    rw [cond_true, Option.bind_some, show decide (1 ≤ ((List.length x.2.1 : Nat) : Int)) = decide (1 ≤ x.2.1.length) from decide_eq_decide.2 (by omega), show decide (((List.length x.2.1 : Nat) : Int) ≤ 32) = decide (x.2.1.length ≤ 32) from decide_eq_decide.2 (by omega)]
    cases (decide (1 ≤ x.2.1.length) && decide (x.2.1.length ≤ 32)) <;> rfl
theorem E1 {α : Type} (p : α → Bool) (l : List α) : l.any (fun x => !(p x)) = !(l.all p) := by
  induction l with
  | nil => rfl
  | cons x l ih => rw [List.any_cons, List.all_cons, ih, Bool.not_and]
theorem lTenant {t : Qc} (h : TenQ t) : Yo t.1 t.2.1 t.2.2.1 t.2.2.2.1 t.2.2.2.2 = some (Ba t) := by
  obtain ⟨h1, h2, h3, h4, h5⟩ := h
  unfold Yo
  rw [Ez t.2.2.2.1 (fun n => !(Fy n)) _ (fun n hn => lNetBad (h4 n hn)) h2, Option.bind_some, Cj t.2.2.2.2 (fun x => !(Fz x)) _ (fun x hx => by unfold Xx; rw [lToken (h5 x hx).1]; rfl) h3, E1, E1]
  have k5 : ∀ v, Zr t.2.1 t.2.2.1 t.2.2.2.2 v = some (!v && ((qOk t.2.1 && qOk t.2.2.1) && Dm (t.2.2.2.2.map (·.1)))) := by
    intro v
    unfold Zr Zq
    cases v with
    | true => rfl
    | false =>
      rw [cond_false, Bb, Bb, Option.bind_some, Option.bind_some, E0 _ _ (fun x => rfl) h3]
      unfold qOk
      cases (decide (0 ≤ t.2.1) && decide (t.2.1 ≤ 8)) <;> cases (decide (0 ≤ t.2.2.1) && decide (t.2.2.1 ≤ 8)) <;> cases Dm (t.2.2.2.2.map (·.1)) <;> rfl
  have k1 : ∀ v, Zs t.1 t.2.1 t.2.2.1 t.2.2.2.1 t.2.2.2.2 v = some (!v && ((Bn t.1 && (decide (t.2.2.2.1.length ≤ 4) && decide (t.2.2.2.2.length ≤ 4))) && ((qOk t.2.1 && qOk t.2.2.1) && Dm (t.2.2.2.2.map (·.1))))) := by
    intro v
    unfold Zs Xl Xk
    cases v with
    | true => rw [cond_true, k5]; rfl
    | false =>
      rw [cond_false, lNameM _ h1, Option.bind_some]
      simp only [k5]
      rw [show decide (((List.length t.2.2.2.1 : Nat) : Int) > 4) = !(decide (t.2.2.2.1.length ≤ 4)) by rw [← decide_not]; exact decide_eq_decide.2 (by omega), show decide (((List.length t.2.2.2.2 : Nat) : Int) > 4) = !(decide (t.2.2.2.2.length ≤ 4)) by rw [← decide_not]; exact decide_eq_decide.2 (by omega)]
      cases Bn t.1 <;> cases decide (t.2.2.2.1.length ≤ 4) <;> cases decide (t.2.2.2.2.length ≤ 4) <;> rfl
  unfold Ba
  cases t.2.2.2.1.all Fy with
  | false =>
    rw [show (!false) = true from rfl, cond_true, k1]
    rfl
  | true =>
    rw [show (!true) = false from rfl, cond_false, Option.bind_some, k1]
    cases t.2.2.2.2.all Fz <;> rfl
theorem F0 (w g i e : Int) (l : List Qc) (rec3 : Int → Option Bool) (hl : l.length ≤ 140737488355328) (hq : ∀ t ∈ l, TenQ t) : Zb rec3 w g i e l ((0 + 1 + 1 + 1 + 1 : Nat) : Int) = some (decide (l.length ≤ 8) && (l.all Ba && Dm (l.map (·.1)))) := by
  unfold Zb Z8
  rw [show decide (((0 + 1 + 1 + 1 + 1 : Nat) : Int) < ((List.length ([w, g, i, e] : List Int) : Nat) : Int)) = false from rfl, cond_false, Bo l (fun t => !(Ba t)) _ (fun t ht => by unfold X8; rw [lTenant (hq t ht)]; rfl) hl, E1, Eg _ _ (fun x => rfl) hl,
    show decide (((List.length l : Nat) : Int) ≤ 8) = decide (l.length ≤ 8) from decide_eq_decide.2 (by omega)]
  cases decide (l.length ≤ 8) <;> cases l.all Ba <;> cases Dm (l.map (·.1)) <;> rfl
theorem Nr (w g i e : Int) (l : List Qc) (rec3 : Int → Option Bool) (k : Nat) (x : Int) (hk : k < 4) (hx : [w, g, i, e][k]? = some x) : Zb rec3 w g i e l (k : Int) = cond (Jy x) (rec3 ((k + 1 : Nat) : Int)) (some false) := by
  unfold Zb
  rw [show decide ((k : Int) < ((List.length ([w, g, i, e] : List Int) : Nat) : Int)) = true from decide_eq_true (by simp only [List.length_cons, List.length_nil]; omega), cond_true, show idx ([w, g, i, e] : List Int) (k : Int) = some x by rw [Ev]; exact hx, Option.bind_some, Bb, Option.bind_some, show ((k : Int) + 1) = ((k + 1 : Nat) : Int) by omega, Ri (by omega)]
  unfold Jy
  cases (decide (1 ≤ x) && decide (x ≤ 1073741824)) <;> rfl
theorem lCfg (w g i e : Int) (l : List Qc) (hl : l.length ≤ 140737488355328) (hq : ∀ t ∈ l, TenQ t) : Q4 w g i e l = some (Ck w g i e l) := by
  have unf : ∀ f (v : Int), Zo w g i e l (f + 1) v = Zb (Zo w g i e l f) w g i e l v := fun _ _ => rfl
  unfold Q4 Ck
  rw [show Yg = 18446744073709551611 + 1 + 1 + 1 + 1 + 1 from rfl]
  rw [unf, show (0 : Int) = ((0 : Nat) : Int) from rfl, Nr w g i e l _ 0 w (by omega) rfl, unf, Nr w g i e l _ (0 + 1) g (by omega) rfl, unf, Nr w g i e l _ (0 + 1 + 1) i (by omega) rfl, unf, Nr w g i e l _ (0 + 1 + 1 + 1) e (by omega) rfl, unf, F0 w g i e l _ hl hq]
  cases Jy w <;> cases Jy g <;> cases Jy i <;> cases Jy e <;> rfl
end Go.Proofs.YtoflbpmbkmephaaGreatDoor
namespace Go.Proofs.YtoflbpmbkmephaaGreatDoor
def TenS (t : Qc) : Prop := t.1.length ≤ 9000 ∧ t.2.2.2.1.length ≤ 9000 ∧ t.2.2.2.2.length ≤ 9000 ∧ ∀ x ∈ t.2.2.2.2, x.1.length ≤ 9000 ∧ x.2.1.length ≤ 9000
theorem E3 (n : Nat) : (if (3000 : Int) < ((n : Nat) : Int) then (3000 : Int) else ((n : Nat) : Int)) = ((min n 3000 : Nat) : Int) := by split <;> omega
theorem great_in (r11 : Int → Int → Option Bool) (i : Int) (t : Qc) (ht : t.2.2.2.2.length ≤ 140737488355328) : ∀ (d k f n : Nat), d = t.2.2.2.2.length - k → k ≤ t.2.2.2.2.length → d < f → n ≤ 562949953421312 →
    ∃ n' : Nat, n ≤ n' ∧ n' ≤ 562949953421312 + 6000 ∧ Vj r11 i t f (n : Int) (k : Int) = r11 (n' : Int) (IntKind.wrap .i64 (i + 1)) ∧ (n' < 3000 → ∀ x ∈ t.2.2.2.2.drop k, x.1.length < 3000 ∧ x.2.1.length < 3000) := by
  intro d
  induction d with
  | zero =>
    intro k f n hd hk hf hn
    obtain ⟨f, rfl⟩ : ∃ g, f = g + 1 := ⟨f - 1, by omega⟩
    refine ⟨n, by omega, by omega, ?_, fun _ x hx => by rw [List.drop_of_length_le (by omega)] at hx; cases hx⟩
    show Vu r11 (Vj r11 i t f) i t (n : Int) (k : Int) = _
    unfold Vu V3
    rw [show decide ((k : Int) < ((t.2.2.2.2.length : Nat) : Int)) = false from decide_eq_false (by omega), cond_false, cond_false]
  | succ d ih =>
    intro k f n hd hk hf hn
    obtain ⟨f, rfl⟩ : ∃ g, f = g + 1 := ⟨f - 1, by omega⟩
    have hlt : k < t.2.2.2.2.length := by omega
    have hstep : Vj r11 i t (f + 1) (n : Int) (k : Int) = Vu r11 (Vj r11 i t f) i t (n : Int) (k : Int) := rfl
    unfold Vu V3 at hstep
    rw [show decide ((k : Int) < ((t.2.2.2.2.length : Nat) : Int)) = true from decide_eq_true (by omega), cond_true] at hstep
    by_cases h3 : n < 3000
    · rw [show decide ((n : Int) < 3000) = true from decide_eq_true (by omega), cond_true, Ud hlt, Option.bind_some, Option.bind_some, E3, E3, show ((n : Int) + ((min (t.2.2.2.2[k]).1.length 3000 : Nat) : Int)) = ((n + min (t.2.2.2.2[k]).1.length 3000 : Nat) : Int) by omega, Ri (by omega),
        show (((n + min (t.2.2.2.2[k]).1.length 3000 : Nat) : Int) + ((min (t.2.2.2.2[k]).2.1.length 3000 : Nat) : Int)) = ((n + min (t.2.2.2.2[k]).1.length 3000 + min (t.2.2.2.2[k]).2.1.length 3000 : Nat) : Int) by omega, Ri (by omega), show ((k : Int) + 1) = ((k + 1 : Nat) : Int) by omega, Ri (by omega)] at hstep
      obtain ⟨n', h1, h2, h4, h5⟩ := ih (k + 1) f (n + min (t.2.2.2.2[k]).1.length 3000 + min (t.2.2.2.2[k]).2.1.length 3000) (by omega) (by omega) (by omega) (by omega)
      refine ⟨n', by omega, h2, hstep.trans h4, fun hn' x hx => ?_⟩
      rw [List.drop_eq_getElem_cons hlt] at hx
      rcases List.mem_cons.1 hx with rfl | hx
      · exact ⟨by omega, by omega⟩
      · exact h5 hn' x hx
    · rw [show decide ((n : Int) < 3000) = false from decide_eq_false (by omega), cond_false] at hstep
      exact ⟨n, by omega, by omega, hstep, fun h => absurd h h3⟩
theorem great_out (l : List Qc) (hl : l.length ≤ 140737488355328) (hq : ∀ t ∈ l, TenQ t) : ∀ (d i f n : Nat), d = l.length - i → i ≤ l.length → d < f → n ≤ 562949953421312 + 6000 → l.length ≤ n →
    (n < 3000 → ∀ t ∈ l.take i, TenS t) → ∃ b, Qu l f (n : Int) (i : Int) = some b ∧ (b = false → l.length ≤ 3000 ∧ ∀ t ∈ l, TenS t) := by
  intro d
  induction d with
  | zero =>
    intro i f n hd hi hf hn hln hs
    obtain ⟨f, rfl⟩ : ∃ g, f = g + 1 := ⟨f - 1, by omega⟩
    refine ⟨decide ((n : Int) ≥ 3000), ?_, fun hb => ?_⟩
    · show Vz (Qu l f) l (n : Int) (i : Int) = _
      unfold Vz V4
      rw [show decide ((i : Int) < ((l.length : Nat) : Int)) = false from decide_eq_false (by omega), cond_false, cond_false]
    · have := of_decide_eq_false hb
      rw [List.take_of_length_le (by omega)] at hs
      exact ⟨by omega, hs (by omega)⟩
  | succ d ih =>
    intro i f n hd hi hf hn hln hs
    obtain ⟨f, rfl⟩ : ∃ g, f = g + 1 := ⟨f - 1, by omega⟩
    have hlt : i < l.length := by omega
    have hstep : Qu l (f + 1) (n : Int) (i : Int) = Vz (Qu l f) l (n : Int) (i : Int) := rfl
    unfold Vz V4 at hstep
    rw [show decide ((i : Int) < ((l.length : Nat) : Int)) = true from decide_eq_true (by omega), cond_true] at hstep
    by_cases h3 : n < 3000
    · obtain ⟨q1, q2, q3, q4, q5⟩ := hq _ (List.getElem_mem hlt)
      rw [show decide ((n : Int) < 3000) = true from decide_eq_true (by omega), cond_true, Ud hlt, Option.bind_some, E3, show ((n : Int) + ((min l[i].1.length 3000 : Nat) : Int)) = ((n + min l[i].1.length 3000 : Nat) : Int) by omega, Ri (by omega),
        show (((n + min l[i].1.length 3000 : Nat) : Int) + ((l[i].2.2.2.1.length : Nat) : Int)) = ((n + min l[i].1.length 3000 + l[i].2.2.2.1.length : Nat) : Int) by omega, Ri (by omega),
        show (((n + min l[i].1.length 3000 + l[i].2.2.2.1.length : Nat) : Int) + ((l[i].2.2.2.2.length : Nat) : Int)) = ((n + min l[i].1.length 3000 + l[i].2.2.2.1.length + l[i].2.2.2.2.length : Nat) : Int) by omega, Ri (by omega)] at hstep
      obtain ⟨n', h1, h2, h4, h5⟩ := great_in (Qu l f) (i : Int) l[i] q3 l[i].2.2.2.2.length 0 Yg (n + min l[i].1.length 3000 + l[i].2.2.2.1.length + l[i].2.2.2.2.length) (by omega) (by omega) (by unfold Yg; omega) (by omega)
      rw [show ((0 : Nat) : Int) = 0 from rfl] at h4
      rw [h4, show ((i : Int) + 1) = ((i + 1 : Nat) : Int) by omega, Ri (by omega)] at hstep
      obtain ⟨b, hb, hb2⟩ := ih (i + 1) f n' (by omega) (by omega) (by omega) (by omega) (by omega) (fun hn' t ht => by
        rw [List.take_add_one, List.getElem?_eq_getElem hlt, List.mem_append] at ht
        rcases ht with ht | ht
        · exact hs h3 t ht
        · simp only [Option.toList_some, List.mem_singleton] at ht
          subst ht
          rw [List.drop_zero] at h5
          exact ⟨by omega, by omega, by omega, fun x hx => ⟨by have := h5 hn' x hx; omega, by have := h5 hn' x hx; omega⟩⟩)
      exact ⟨b, hstep.trans hb, hb2⟩
    · rw [show decide ((n : Int) < 3000) = false from decide_eq_false (by omega), cond_false] at hstep
      exact ⟨_, hstep, fun hb => by have := of_decide_eq_false hb; omega⟩
theorem cfg_great (w g i e : Int) (l : List Qc) (hl : l.length ≤ 140737488355328) (hq : ∀ t ∈ l, TenQ t) : ∃ b, X3 w g i e l = some b ∧ (b = false → l.length ≤ 3000 ∧ ∀ t ∈ l, TenS t) :=
  great_out l hl hq l.length 0 Yg l.length (by omega) (by omega) (by unfold Yg; omega) (by omega) (Nat.le_refl _) (fun _ t ht => by simp at ht)
end Go.Proofs.YtoflbpmbkmephaaGreatDoor
namespace Go.Proofs.YtoflbpmbkmephaaGreatDoor
open Go.RowKit
section
variable {w w0 : World} {es : List Ent} {S : List Nat}
theorem SP.turnE (h : SP S w0 w es) {i : Nat} {e e' : Ent} (hi : es[i]? = some e) (hok : e'.ok w) (hfp : ∀ k ∈ e'.fp, k ∈ e.fp) : SP S w0 w (es.set i e') :=
  h.set hi (T := []) (Mod.refl [] w) (by simp) hok fun k hk => ⟨.inl (hfp k hk), ((h.own.get hi).2 k (hfp k hk)).2⟩
end
section
variable {α : Type} {e : Enc α} {w w0 : World} {A : Option Addr} {c : Nat} {l m : List α} {E : TypeId} {es : List Ent} {S : List Nat} {i : Nat}
theorem cutA_zero {sz c : Nat} {A : Option Addr} (h : ∀ a, A = some a → ∃ b o, a = ⟨b, o, none⟩) : F9 sz c 0 A = A := by
  unfold F9
  split
  · rfl
  · cases A with
    | none => rfl
    | some a =>
      obtain ⟨b, o, rfl⟩ := h _ rfl
      simp [D4]
theorem SP.cutrow {b : Int} (h : SP S w0 w es) (hi : es[i]? = some (Q3 E e A c l)) (h1 : 0 ≤ b) (h2 : b ≤ (l.length : Int)) (hm : List.drop (Int.toNat 0) (List.take b.toNat l) = m) :
    SP S w0 w (es.set i (Q3 E e (F9 e.sz c (Int.toNat 0) A) (c - Int.toNat 0) m)) := by
  have hm' : l.take b.toNat = m := by rw [← hm]; simp
  subst hm'
  have hok : (Q3 E e A c l).ok w := h.get hi
  have hlen : (l.take b.toNat).length = b.toNat := by rw [List.length_take]; omega
  have hz : F9 e.sz c (Int.toNat 0) A = A := by
    refine cutA_zero fun a ha => ?_
    subst ha
    rcases hok.2 with ⟨h3, _⟩ | ⟨g, cap, cur, h3, _⟩
    · cases h3
    · injection h3 with h3 _ _
      injection h3 with h3
      exact ⟨g, 0, h3⟩
  have hc : c - Int.toNat 0 = c := by simp
  rw [hz, hc]
  refine h.turnE hi ?_ fun k hk => by cases A <;> exact hk
  obtain ⟨h3, h4⟩ := hok
  refine ⟨by rw [V2], ?_⟩
  rcases h4 with ⟨h4, h5⟩ | ⟨g, cap, cur, h4, h5, h6, h7, h8, h9, h10⟩
  · left
    injection h4 with h4 h4' h4''
    have : l = [] := List.length_eq_zero_iff.1 h5
    subst this
    subst h4 h4''
    exact ⟨by simp, by simp⟩
  · right
    injection h4 with h4 h4' h4''
    subst h4 h4''
    refine ⟨g, c, cur, rfl, h5, h6, by omega, h8, h9, ?_⟩
    rw [hlen, ← Uz, ← h10, List.take_take]
    congr 1
    rw [Nat.min_eq_left (Nat.mul_le_mul_right _ (by omega))]
end
end Go.Proofs.YtoflbpmbkmephaaGreatDoor
namespace Go.Proofs.YtoflbpmbkmephaaGreatDoor
open Go.RowKit
section
variable {α : Type} {e : Enc α} {t t' : TypeId} {g m : Nat} {l : List α} {w w' w0 : World} {S : List Nat} {es : List Ent}
end
section
variable {P : Program} {n : Nat} {Q : D0} {ρ : Fr} {w w0 : World} {B : Code} {p : List Bool} {k : Nat} {d : Option Nat} {S : List Nat} {es : List Ent} {K : Fr → World → Prop}
variable {α : Type} {e : Enc α} {l : List α} {t t' : TypeId} {g m : Nat}
theorem F1 (e : Enc α) (z : α) (hz : e.sz = 1) (v : Value) (hv : e.enc z = [v]) (q : Nat) : (madeCells #[v] q).toList = Q7 e (List.replicate q z) := by
  have h1 : Q7 e (List.replicate q z) = List.replicate q v := by
    induction q with
    | zero => rfl
    | succ q ih => rw [List.replicate_succ, Xy, ih, hv, List.replicate_succ]; rfl
  rw [h1]
  simp [madeCells]
  apply List.ext_getElem
  · simp
  · intro i h1 h2
    simp [Nat.mod_one]
theorem Bc {T E : TypeId} {x y : Operand} {k1 k2 : IntKind} {iz : Int} {b : Nat} {z : α} {v : Value} {l' : List α} (ho : Nm (Qf B p) k ρ = some (.makeSlice T x y, d)) (hd : Z2 n d = true) (hx : opv ρ x = .int k1 iz) (hy : opv ρ y = .int k2 iz)
    (hT : P.underlying T = some (.slice E)) (hE : (P.info? E).map (fun i => (i.zero, i.size, i.bytes)) = some (some v, 1, b)) (hb : Nat.ble b 65536 = true) (hz : e.sz = 1) (hv : e.enc z = [v]) (hc : v.cells = #[v]) (h0 : decide (0 ≤ iz ∧ iz ≤ 2147483648) = true) (hs : SP S w0 w es) (hq : List.replicate iz.toNat z = l')
    (next : ∀ (g : Nat) (w' : World), SP S w0 w' (es ++ [Q3 E e (some ⟨g, 0, none⟩) iz.toNat l']) → l'.length = iz.toNat → K (Ji ρ d (.slice (some ⟨g, 0, none⟩) l'.length iz.toNat)) w') : Qi P n B p k K ρ w := by
  subst hq
  have h0 := of_decide_eq_true h0
  have hb2 := Nat.le_of_ble_eq_true hb
  cases hi : P.info? E with
  | none => rw [hi] at hE; cases hE
  | some i =>
    rw [hi] at hE
    simp only [Option.map_some, Option.some.injEq, Prod.mk.injEq] at hE
    obtain ⟨hz1, hz2, hz3⟩ := hE
    have hbb : (i.bytes : Int) * iz ≤ 281474976710656 := by
      rw [hz3]
      have h1 : (b : Int) * iz ≤ 65536 * 2147483648 := Int.mul_le_mul (by omega) h0.2 h0.1 (by omega)
      omega
    have hr := run_make (P := P) w T E i v hT hi hz1 k1 k2 iz iz h0.1 (Int.le_refl _) hbb (by omega)
    rw [hz2, Nat.mul_one, hc] at hr
    have hlen : (List.replicate iz.toNat z).length = iz.toNat := by simp
    have hnew := hs.newrow (E := E) (cs := madeCells #[v] iz.toNat) e (List.replicate iz.toNat z) (F1 e z hz v hv iz.toNat) (by rw [hlen]; unfold maxLen; omega) (by omega)
    rw [hlen] at hnew
    refine Qi.val ho hd (v := .slice (some ⟨w.heap.size, 0, none⟩) (List.replicate iz.toNat z).length iz.toNat) (w' := w.alloc (.cells (madeCells #[v] iz.toNat) E)) (fun o hop => ?_) (next _ _ hnew hlen)
    unfold execOp; rw [hop, hlen]
    simp only [hx, hy, Sem.run_bind, hr, Result.andThen_ok]
    rfl
end
end Go.Proofs.YtoflbpmbkmephaaGreatDoor
namespace Go.Proofs.YtoflbpmbkmephaaGreatDoor
open Go.RowKit
def Jc (s : List UInt8) (c : UInt8) : Option Int := some (Lib.indexByte s c)
theorem Nh (s : List UInt8) (c : UInt8) (w0 : World) (r : Int) (H : Jc s c = some r) :
    Calls Tryz.prog 89 #[(.string ⟨List.toArray s⟩), (.int .u8 ((c).toNat : Int))] w0 (fun e w' => e = .returned (.int .i64 r) ∧ SP [] w0 w' []) := by
  unfold Jc at H
  injection H with H
  subst H
  refine (Tryz.strings_IndexByte ⟨s.toArray⟩ ((c.toNat : Nat) : Int) w0).mono ?_
  rintro e w' ⟨rfl, rfl⟩
  refine ⟨?_, Qz [] w'⟩
  rw [show ((c.toNat : Nat) : Int).toNat.toUInt8 = c by simp]
def Up (s sep : List UInt8) : Option Int := match sep with | [c] => some ((Lib.countByte s c : Nat) : Int) | _ => none
theorem G3 (s sep : List UInt8) (w0 : World) (r : Int) (H : Up s sep = some r) :
    Calls Tryz.prog 155 #[(.string ⟨List.toArray s⟩), (.string ⟨List.toArray sep⟩)] w0 (fun e w' => e = .returned (.int .i64 r) ∧ SP [] w0 w' []) := by
  unfold Up at H
  match sep, H with
  | [c], H =>
    injection H with H
    subst H
    refine (Tryz.strings_Count_one ⟨s.toArray⟩ c w0).mono ?_
    rintro e w' ⟨rfl, rfl⟩
    exact ⟨rfl, Qz [] w'⟩
def Ni (s : List UInt8) (n : Int) : Option (List (List UInt8)) := none
theorem Gf (s : List UInt8) (n : Int) (w0 : World) (r : List (List UInt8)) (H : Ni s n = some r) :
    Calls Tryz.prog 154 #[(.string ⟨List.toArray s⟩), (.int .i64 n)] w0 (fun e w' => ∃ (A : Option Addr) (c : Nat), e = .returned (.slice A (List.length r) c) ∧ SP [] w0 w' [Q3 9 Qm A c r]) := by
  cases H
end Go.Proofs.YtoflbpmbkmephaaGreatDoor
namespace Go.Proofs.YtoflbpmbkmephaaGreatDoor
def Yi (c : UInt8) : List UInt8 → List (List UInt8)
  | [] => [[]]
  | x :: r => if x = c then [] :: Yi c r else match Yi c r with | [] => [[x]] | p :: ps => (x :: p) :: ps
theorem splitL_ne (c : UInt8) (s : List UInt8) : Yi c s ≠ [] := by
  cases s with
  | nil => simp [Yi]
  | cons x r =>
    unfold Yi
    split
    · simp
    · split <;> simp
theorem Gy (c : UInt8) : ∀ (s : List UInt8), ∀ p ∈ Yi c s, p.length ≤ s.length
  | [], p, hp => by simp [Yi] at hp; simp [hp]
  | x :: r, p, hp => by
    unfold Yi at hp
    by_cases h : x = c
    · rw [if_pos h] at hp
      rcases List.mem_cons.1 hp with rfl | hp
      · simp
      · have := Gy c r p hp
        simp only [List.length_cons]
        omega
    · rw [if_neg h] at hp
      cases hs : Yi c r with
      | nil => exact absurd hs (splitL_ne c r)
      | cons q qs =>
        rw [hs] at hp
        simp only at hp
        rcases List.mem_cons.1 hp with rfl | hp
        · have := Gy c r q (by rw [hs]; simp)
          simp only [List.length_cons]
          omega
        · have := Gy c r p (by rw [hs]; simp [hp])
          simp only [List.length_cons]
          omega
theorem Bd (c : UInt8) (s : List UInt8) : (Lib.indexByte s c = -1 ∧ Yi c s = [s] ∧ c ∉ s) ∨ ∃ i : Nat, Lib.indexByte s c = (i : Int) ∧ i < s.length ∧ s[i]? = some c ∧ c ∉ s.take i ∧ Yi c s = s.take i :: Yi c (s.drop (i + 1)) := by
  induction s with
  | nil => exact .inl ⟨rfl, rfl, by simp⟩
  | cons x r ih =>
    by_cases h : x = c
    · subst h
      refine .inr ⟨0, ?_, by simp, rfl, by simp, ?_⟩
      · simp [Lib.indexByte]
      · simp [Yi]
    · have hb : (x == c) = false := by simpa using h
      rcases ih with ⟨h1, h2, h3⟩ | ⟨i, h1, h2, h3, h4, h5⟩
      · refine .inl ⟨?_, ?_, ?_⟩
        · simp [Lib.indexByte, hb, h1]
        · unfold Yi; rw [if_neg h, h2]
        · simp [h3]; exact fun e => h e.symm
      · refine .inr ⟨i + 1, ?_, by simpa using h2, by simpa using h3, ?_, ?_⟩
        · have h0 : (Lib.indexByte r c == -1) = false := by rw [h1, beq_eq_false_iff_ne]; omega
          simp only [Lib.indexByte, hb, h0, h1]
          simp
        · simp [h4]; exact fun e => h e.symm
        · rw [List.take_succ_cons, List.drop_succ_cons]
          conv => lhs; unfold Yi
          rw [if_neg h, h5]
end Go.Proofs.YtoflbpmbkmephaaGreatDoor
namespace Go.Proofs.YtoflbpmbkmephaaGreatDoor
open Go.RowKit Go.Shelf
attribute [local go_sem] Oper.semAt_some
structure Y8 (W : World) (bsep bs bv : Nat) (c : UInt8) (r : List UInt8) : Prop where
  sep : W.heap[bsep]? = some (.cells #[.string ⟨#[c]⟩] 9 (0, 0))
  left : W.heap[bs]? = some (.cells #[.string ⟨r.toArray⟩] 9 (0, 0))
  save : W.heap[bv]? = some (.cells #[.int .i64 0] 3 (0, 0))
theorem Y8.same {W W' : World} {bsep bs bv : Nat} {c : UInt8} {r : List UInt8} (h : Y8 W bsep bs bv c r) (h1 : W'.heap[bsep]? = W.heap[bsep]?) (h2 : W'.heap[bs]? = W.heap[bs]?) (h3 : W'.heap[bv]? = W.heap[bv]?) : Y8 W' bsep bs bv c r :=
  ⟨h1.trans h.sep, h2.trans h.left, h3.trans h.save⟩
theorem Uq {W : World} {b : Nat} {v : Value} {t : TypeId} (h : W.heap[b]? = some (.cells #[v] t (0, 0))) : W.cell? ⟨b, 0, none⟩ = some v := by
  rw [cell_of_row W b 0 _ t _ h]
  rfl
theorem U5 {W : World} {b : Nat} {v : Value} {t : TypeId} (h : W.heap[b]? = some (.cells #[v] t (0, 0))) : W.frozen? ⟨b, 0, none⟩ = false := by
  simp [World.frozen?, h]
def De (W : World) (bs : Nat) : Nat := match W.cell? ⟨bs, 0, none⟩ with | some (.string b) => b.size | _ => 0
theorem B5 {W : World} {bsep bs bv : Nat} {c : UInt8} {r : List UInt8} (h : Y8 W bsep bs bv c r) : De W bs = r.length := by
  unfold De
  rw [Uq h.left]
  exact Yf r
theorem Xz {W : World} {b : Nat} {u v : Value} {t : TypeId} (h : W.heap[b]? = some (.cells #[u] t (0, 0))) : (W.setCell ⟨b, 0, none⟩ v).heap[b]? = some (.cells #[v] t (0, 0)) := by
  simp [World.setCell, h, Array.getElem?_modify]
theorem Zx {W : World} {b k : Nat} {v : Value} (h : k ≠ b) : (W.setCell ⟨b, 0, none⟩ v).heap[k]? = W.heap[k]? := by
  simp [World.setCell, Array.getElem?_modify, Ne.symm h]
theorem Y8.turn {W : World} {bsep bs bv : Nat} {c : UInt8} {r : List UInt8} (h : Y8 W bsep bs bv c r) (h1 : bs ≠ bsep) (h2 : bs ≠ bv) (q : List UInt8) : Y8 (W.setCell ⟨bs, 0, none⟩ (.string ⟨q.toArray⟩)) bsep bs bv c q :=
  ⟨(Zx h1.symm).trans h.sep, Xz h.left, (Zx h2.symm).trans h.save⟩
theorem F2 (m : Nat) (l bsep bs bv : Nat) (c : UInt8) (hne1 : bs ≠ bsep) (hne2 : bs ≠ bv) (s : List UInt8) (hs : s.length ≤ maxLen) (J Jx : List (List UInt8) → World → Prop)
    (hJ : ∀ pre W1 (v : Value), J pre W1 → J pre (W1.setCell ⟨bs, 0, none⟩ v))
    (hY : ∀ pre x r W1, J pre W1 → Y8 W1 bsep bs bv c r → (∃ q, pre ++ x :: q = Yi c s) → YieldAt Fence.wide (m - 1) Tryz.prog l #[.string ⟨x.toArray⟩] W1 fun e W' =>
      (e = .returned (.bool true) ∧ J (pre ++ [x]) W' ∧ W'.heap[bsep]? = W1.heap[bsep]? ∧ W'.heap[bs]? = W1.heap[bs]? ∧ W'.heap[bv]? = W1.heap[bv]?) ∨ (e = .returned (.bool false) ∧ Jx (pre ++ [x]) W'))
    (W : World) (hB : Y8 W bsep bs bv c s) (h0 : J [] W) :
    CallsIn Fence.wide m Tryz.prog 202 #[.func (.yield l) #[] #[], .pointer (some ⟨bsep, 0, none⟩), .pointer (some ⟨bs, 0, none⟩), .pointer (some ⟨bv, 0, none⟩)] W fun e W' => (∃ v, e = .returned v) ∧
      (J (Yi c s) W' ∨ (∃ pre, pre <+: Yi c s ∧ Jx pre W')) := by
  have hsz1 : ((⟨#[c]⟩ : ByteArray).size == 0) = false := rfl
  have c1 := Uq hB.sep
  refine callsIn_of_wp Tryz.func202 rfl trivial ?_ rfl
  simp only [Tryz.ntmps202, List.size_toArray, List.length_cons, List.length_nil, Nat.reduceAdd, Nat.reduceSub, Array.replicate_succ, Array.replicate_zero, List.push_toArray, List.append_toArray, List.nil_append, List.cons_append]
  gi_wp2
  gi_loopw [7] (fun p wr => ∃ (pre : List (List UInt8)) (r : List UInt8), Y8 wr bsep bs bv c r ∧ pre ++ Yi c r = Yi c s ∧ r.length ≤ maxLen ∧ J pre wr) (fun p wr => De wr bs)
  case atStart => exact ⟨[], s, hB, rfl, hs, h0⟩
  case round =>
    obtain ⟨pre, r, hb, hp, hr, hj⟩ := hrel
    have c1 := Uq hb.sep
    have c2 := Uq hb.left
    have c3 := Uq hb.save
    have hrs := Yf r
    have hsep1 : (⟨#[c]⟩ : ByteArray).size = 1 := rfl
    unfold maxLen at hr
    rcases Bd c r with ⟨h1, h2, h3⟩ | ⟨i, h1, h2, h3, h4, h5⟩
    · have h1' : Lib.indexByte (⟨r.toArray⟩ : ByteArray).data.toList c = -1 := h1
      obtain ⟨fn, tmps, assign, body, hy, hR⟩ := hY pre r r wr hj hb ⟨[], by rw [← hp, h2]⟩
      gi_wp2_with (refine ⟨trivial, fun hh => (by cases hh), ?_⟩; gi_at_call 156; refine (callsIn_wide.2 (Tryz.strings_Index_one (⟨r.toArray⟩ : ByteArray) c wr)).mono ?_; rintro e W3 ⟨rfl, rfl⟩; rw [h1'])
      refine ⟨fun hh => (by cases hh), ?_⟩
      refine hR.mono ?_
      rintro e W3 (⟨rfl, hJ3, hk⟩ | ⟨rfl, hJx3⟩)
      · gi_wp2
        go_end0
        exact ⟨⟨_, rfl⟩, .inl (by rw [← hp, h2]; exact hJ3)⟩
      · gi_wp2
        go_end0
        exact ⟨⟨_, rfl⟩, .inr ⟨pre ++ [r], by rw [← hp, h2]; exact List.prefix_refl _, hJx3⟩⟩
    · have h1' : Lib.indexByte (⟨r.toArray⟩ : ByteArray).data.toList c = (i : Int) := h1
      have hex := Uk r 0 i (by omega)
      rw [List.drop_zero] at hex
      have hex2 := Uk r (i + 1) r.length (Nat.le_refl _)
      rw [List.take_length] at hex2
      obtain ⟨fn, tmps, assign, body, hy, hR⟩ := hY pre (r.take i) r wr hj hb ⟨Yi c (r.drop (i + 1)), by rw [← hp, h5]⟩
      have hi0 : ¬ ((i : Int) < 0) := by omega
      gi_wp2_with (refine ⟨trivial, fun hh => (by cases hh), ?_⟩; gi_at_call 156; refine (callsIn_wide.2 (Tryz.strings_Index_one (⟨r.toArray⟩ : ByteArray) c wr)).mono ?_; rintro e W3 ⟨rfl, rfl⟩; rw [h1'])
      refine ⟨fun hh => (by cases hh), ?_⟩
      refine hR.mono ?_
      rintro e W3 (⟨rfl, hJ3, k1, k2, k3⟩ | ⟨rfl, hJx3⟩)
      · have hb3 := hb.same k1 k2 k3
        have d1 := Uq hb3.sep
        have d2 := Uq hb3.left
        have d3 := Uq hb3.save
        have f2 := U5 hb3.left
        gi_wp2
        have hb4 := hb3.turn hne1 hne2 (r.drop (i + 1))
        refine ⟨⟨pre ++ [r.take i], r.drop (i + 1), hb4, by rw [← hp, h5]; simp, by unfold maxLen; rw [List.length_drop]; omega, hJ _ _ _ hJ3⟩, ?_⟩
        rw [B5 hb4, B5 hb, List.length_drop]
        omega
      · gi_wp2
        refine bodyPost_ret (results_none rfl _ _ _) rfl ?_
        exact ⟨⟨_, rfl⟩, .inr ⟨pre ++ [r.take i], ⟨Yi c (r.drop (i + 1)), by rw [← hp, h5]; simp⟩, hJx3⟩⟩
end Go.Proofs.YtoflbpmbkmephaaGreatDoor
namespace Go.Proofs.YtoflbpmbkmephaaGreatDoor
open Go.RowKit Go.Shelf
attribute [local go_sem] Oper.semAt_some
def bodyOwn {α : Type} (M : List Nat) (I : List α → World → Prop) (Ix : Code → List α → World → Prop) (xs : List α) (W : World) : Exit → Act → World → Prop
  | .normal, _, W' => Mod M W W' ∧ I xs W'
  | .ret, _, W' => Mod M W W' ∧ Ix .ret xs W'
  | .exit id, _, W' => Mod M W W' ∧ Ix (.exit id) xs W'
  | .goto t, _, W' => Mod M W W' ∧ Ix (.goto t) xs W'
  | _, _, _ => False
theorem Jg (W : World) (r : Nat) (o : Obj) : Mod [r] W (W.putObj r o) := ⟨rfl, rfl, rfl, by simp, fun k _ hk => World.putObj_heap_other (by simpa using hk)⟩
theorem Be (W : World) (b : Nat) (v : Value) : Mod [b] W (W.setCell ⟨b, 0, none⟩ v) := (Mod.refl [b] W).setCell (p := ⟨b, 0, none⟩) (.inl (by simp)) v
def SeqOwn {α : Type} (P : Program) (m gf : Nat) (lb : Array Value) (encs : α → Array Value) (T : List Nat) (S : List α) (w : World) : Prop :=
  ∀ (l : Nat) (J Jx : List α → World → Prop) (W : World),
    (∀ pre W1 k (v : Value), k ∈ T → J pre W1 → J pre (W1.setCell ⟨k, 0, none⟩ v)) →
    (∀ pre x W1, J pre W1 → (∃ q, pre ++ x :: q = S) → YieldAt Fence.wide (m - 1) P l (encs x) W1 fun e W' =>
      (e = .returned (.bool true) ∧ J (pre ++ [x]) W' ∧ ∀ k ∈ T, W'.heap[k]? = W1.heap[k]?) ∨ (e = .returned (.bool false) ∧ Jx (pre ++ [x]) W')) →
    (∀ k ∈ T, W.heap[k]? = w.heap[k]?) → J [] W →
    CallsIn Fence.wide m P gf (#[.func (.yield l) #[] #[]] ++ lb) W fun e W' => (∃ v, e = .returned v) ∧ (J S W' ∨ ∃ pre, pre <+: S ∧ Jx pre W')
theorem range_own {α : Type} {P : Program} {g : Operand} {ps : Array Tmp} {assign body : Code} {Q : Exit → Act → World → Prop} {a : Act} {w : World} {m gf : Nat} {lb : Array Value}
    (hg : a.eval g = .func (.func gf) #[] lb) (eg : ∀ args w, (callFunc gf args).run P w = .ok (.enter gf args) w) {encs : α → Array Value} (hps : ∀ x, (encs x).size = ps.size)
    (T M : List Nat) (hT : ∀ k ∈ T, k < w.heap.size) (hM : ∀ k ∈ M, k < w.heap.size ∧ k ∉ T) {S : List α} (iter : SeqOwn P (m - 1) gf lb encs T S w)
    (I : List α → World → Prop) (Ix : Code → List α → World → Prop) (hI : ∀ xs W W', I xs W → Mod (T ++ [w.heap.size, w.heap.size + 1]) W W' → I xs W') (hIx : ∀ c xs W W', Ix c xs W → Mod (T ++ [w.heap.size, w.heap.size + 1]) W W' → Ix c xs W')
    (h0 : I [] w) (a₁ : α → Act)
    (hassign : ∀ (l : Nat) (x : α) (W : World) (K : Act → World → Prop), K (a₁ x) W →
      assign.wpIn (Fence.wide.inRound l) (m - 1 - 1) P (Exit.then K (fun _ _ _ => False)) { tmps := (ps.zip (encs x)).foldl (fun t (p, v) => t.setIfInBounds p v) a.tmps, defers := [] } W)
    (hbody : ∀ (l : Nat) (pre : List α) (x : α) (W : World), I pre W → w.heap.size ≤ W.heap.size → (∃ q, pre ++ x :: q = S) → body.wpIn (Fence.wide.inRound l) (m - 1 - 1) P (bodyOwn M I Ix (pre ++ [x]) W) (a₁ x) W)
    (hdone : ∀ (W : World), I S W → W.heap[w.heap.size]? = some (.deferred (some [])) → Q .normal { a with defers := { target := .collected w.heap.size, args := #[] } :: a.defers } W)
    (hstop : ∀ (c : Code) (pre : List α) (W : World), pre <+: S → Ix c pre W → W.heap[w.heap.size]? = some (.deferred (some [])) → c.wpIn Fence.wide m P Q { a with defers := { target := .collected w.heap.size, args := #[] } :: a.defers } W) :
    (Code.rangeFunc g ps assign body).wpIn Fence.wide m P Q a w := by
  refine wpIn_rangeFunc fun fn _ => ?_
  have hnT : ∀ j, w.heap.size ≤ j → j ∉ T := fun j hj hm => by have := hT j hm; omega
  have hnM : ∀ j, w.heap.size ≤ j → j ∉ M := fun j hj hm => by have := (hM j hm).1; omega
  generalize hrec : (fun st pe => ({ state := st, pending := pe, fn, tmps := a.tmps, params := ps, assign, body, defers := w.heap.size } : Loop)) = rec
  have hr1 : ∀ st pe, (rec st pe).state = st := fun st pe => by rw [← hrec]
  generalize hW1 : (w.alloc (.deferred (some []))).alloc (.loop (rec .ready none)) = W1
  have hmod1 : Mod (T ++ [w.heap.size, w.heap.size + 1]) w W1 := by rw [← hW1]; exact ((Mod.refl _ w).alloc _).alloc _
  have hL1 : W1.heap[w.heap.size + 1]? = some (.loop (rec .ready none)) := by
    rw [← hW1]
    have := World.alloc_heap_new (w.alloc (.deferred (some []))) (.loop (rec .ready none))
    rwa [World.size_alloc] at this
  have hK1 : W1.heap[w.heap.size]? = some (.deferred (some [])) := by
    rw [← hW1]
    exact (Below.heap_alloc _ _ _ (by simp)).trans (World.alloc_heap_new w _)
  have pb : ∀ (W : World) (o : Obj), Mod (T ++ [w.heap.size, w.heap.size + 1]) W (W.putObj (w.heap.size + 1) o) := fun W o => (Jg W _ o).more (by simp)
  refine ⟨w.heap.size + 1, [{ target := .collected w.heap.size, args := #[] }], W1, { target := .fn (.func gf) lb, args := #[.func (.yield (w.heap.size + 1)) #[] #[]] }, W1, gf, #[.func (.yield (w.heap.size + 1)) #[] #[]] ++ lb, W1, ?_, ?_, fun _ _ => trivial, ?_, fun h => (by cases h), ?_⟩
  · rw [← hW1, ← hrec]
    exact run_enterLoop_outer _ _ _ _ _
  · simp only [resolve, hg]
    simp [go_sem]
  · simp [invoke, go_sem, eg]
  · refine (iter (w.heap.size + 1) (fun pre W => I pre W ∧ W.heap[w.heap.size + 1]? = some (.loop (rec .ready none)) ∧ W.heap[w.heap.size]? = some (.deferred (some [])))
      (fun pre W => ∃ c, Ix c pre W ∧ W.heap[w.heap.size + 1]? = some (.loop (rec .done (some c))) ∧ W.heap[w.heap.size]? = some (.deferred (some []))) W1 ?_ ?_ ?_ ⟨hI _ _ _ h0 hmod1, hL1, hK1⟩).mono ?_
    · rintro pre W k v hk ⟨h1, h2, h3⟩
      have hlt := hT k hk
      exact ⟨hI _ _ _ h1 ((Be W k v).more fun j hj => by
        have : j = k := by simpa using hj
        subst this
        simp [hk]), (Zx (by omega)).trans h2, (Zx (by omega)).trans h3⟩
    · rintro pre x W ⟨hi, hl, hk⟩ hq
      have hlt : w.heap.size + 1 < W.heap.size := (Array.getElem?_eq_some_iff.1 hl).1
      have hy := run_yield (P := P) (args := encs x) hl (by rw [← hrec]; exact hps x)
      rw [← hrec] at hy
      dsimp only at hy
      refine ⟨fn, _, assign, body, hy, ?_⟩
      refine roundIn_of_wpIn trivial ?_
      refine hassign _ x W _ ?_
      refine ⟨_, run_beginRound hl (hr1 _ _), ?_⟩
      generalize hW2 : W.putObj (w.heap.size + 1) (.loop { rec .ready none with state := .busy }) = W2
      have hm2 : Mod (T ++ [w.heap.size, w.heap.size + 1]) W W2 := by rw [← hW2]; exact pb W _
      have hs2 : W2.heap.size = W.heap.size := by rw [← hW2]; simp
      have hl2 : W2.heap[w.heap.size + 1]? = some (.loop { rec .ready none with state := .busy }) := by rw [← hW2]; exact World.putObj_heap_same hlt
      have hk2 : W2.heap[w.heap.size]? = some (.deferred (some [])) := by rw [← hW2]; exact (World.putObj_heap_other (by omega)).trans hk
      have hT2 : ∀ k ∈ T, W2.heap[k]? = W.heap[k]? := fun k hkT => by rw [← hW2]; exact World.putObj_heap_other (by have := hT k hkT; omega)
      refine wpIn_mono (hbody _ pre x W2 (hI _ _ _ hi hm2) (by omega) hq) ?_
      have fin : ∀ (jump : Option Code) (W3 : World), Mod M W2 W3 → ∃ W4, (Instr.endRound (w.heap.size + 1) jump).run P W3 = .ok (.bool jump.isNone) W4 ∧ Mod (T ++ [w.heap.size, w.heap.size + 1]) W3 W4 ∧
          W4.heap[w.heap.size + 1]? = some (.loop (rec (if jump.isNone then .ready else .done) jump)) ∧ W4.heap[w.heap.size]? = some (.deferred (some [])) ∧ ∀ k ∈ T, W4.heap[k]? = W.heap[k]? := fun jump W3 hk3 => by
        have hl3 : W3.heap[w.heap.size + 1]? = some (.loop { rec .ready none with state := .busy }) := (hk3.block _ (by omega) (hnM _ (by omega))).trans hl2
        have hd3 : W3.heap[w.heap.size]? = some (.deferred (some [])) := (hk3.block _ (by omega) (hnM _ (by omega))).trans hk2
        have hrun := run_endRound (P := P) jump hl3
        refine ⟨_, hrun, pb W3 _, ?_, (World.putObj_heap_other (by omega)).trans hd3, fun k hkT => ?_⟩
        · rw [World.putObj_heap_same (Array.getElem?_eq_some_iff.1 hl3).1, ← hrec]
        · have := hT k hkT
          exact (World.putObj_heap_other (by omega)).trans ((hk3.block _ (by omega) fun hm => (hM k hm).2 hkT).trans (hT2 k hkT))
      rintro e a3 W3 hp
      cases e with
      | normal =>
        obtain ⟨W4, h1, h2, h3, h4, h5⟩ := fin none W3 hp.1
        exact ⟨_, _, h1, .inl ⟨rfl, ⟨hI _ _ _ hp.2 h2, h3, h4⟩, h5⟩⟩
      | ret =>
        obtain ⟨W4, h1, h2, h3, h4, h5⟩ := fin (some .ret) W3 hp.1
        exact ⟨_, _, h1, .inr ⟨rfl, .ret, hIx _ _ _ _ hp.2 h2, h3, h4⟩⟩
      | exit id =>
        obtain ⟨W4, h1, h2, h3, h4, h5⟩ := fin (some (.exit id)) W3 hp.1
        exact ⟨_, _, h1, .inr ⟨rfl, .exit id, hIx _ _ _ _ hp.2 h2, h3, h4⟩⟩
      | goto t =>
        obtain ⟨W4, h1, h2, h3, h4, h5⟩ := fin (some (.goto t)) W3 hp.1
        exact ⟨_, _, h1, .inr ⟨rfl, .goto t, hIx _ _ _ _ hp.2 h2, h3, h4⟩⟩
      | panic ch => exact hp.elim
      | outgrown => exact hp.elim
    · intro k hk
      have := hT k hk
      rw [← hW1]
      exact (Below.heap_alloc _ _ _ (by simp; omega)).trans (Below.heap_alloc _ _ _ this)
    · rintro e W2 ⟨⟨v, rfl⟩, (⟨hi, hl, hk⟩ | ⟨pre, hpre, c, hi, hl, hk⟩)⟩
      · have hend := run_endLoop (P := P) hl (by rw [hr1]; simp)
        rw [show (rec .ready none).pending = none by rw [← hrec]] at hend
        exact ⟨none, _, hend, hdone _ (hI _ _ _ hi (pb W2 _)) ((World.putObj_heap_other (by omega)).trans hk)⟩
      · have hend := run_endLoop (P := P) hl (by rw [hr1]; simp)
        rw [show (rec .done (some c)).pending = some c by rw [← hrec]] at hend
        exact ⟨some c, _, hend, hstop c pre _ hpre (hIx _ _ _ _ hi (pb W2 _)) ((World.putObj_heap_other (by omega)).trans hk)⟩
end Go.Proofs.YtoflbpmbkmephaaGreatDoor
namespace Go.Proofs.YtoflbpmbkmephaaGreatDoor
open Go.Lib (decDigits)
theorem digWrap {x : UInt8} (h : 48 ≤ x.toNat) : IntKind.wrap .i64 (IntKind.wrap .u8 (((x).toNat : Int) - 48)) = ((x.toNat - 48 : Nat) : Int) := by
  have := u8_lt x
  rw [Eu (by omega), N8 (by omega)]
  omega
theorem Bf {x : UInt8} (h : x.toNat < 48 ∨ 57 < x.toNat) : Bm x = false := by
  unfold Bm
  rcases h with h | h
  · rw [show decide (48 ≤ x.toNat) = false by simp; omega]; rfl
  · rw [show decide (x.toNat ≤ 57) = false by simp; omega]; simp
theorem F3 {x : UInt8} (h : 48 ≤ x.toNat) (h2 : x.toNat ≤ 57) : Bm x = true := by unfold Bm; simp [h, h2]
theorem E4 (l : List UInt8) (hl : l.length ≤ maxLen) : ∀ (d k f : Nat), d = l.length - k → k ≤ l.length → d < f → (l.take k).all Bm = true → Dl (l.take k) ≤ 10995116277769 →
    Z0 l f ((Dl (l.take k) : Nat) : Int) (k : Int) = some (parseD (Uo l)) := by
  unfold maxLen at hl
  intro d
  induction d with
  | zero =>
    intro k f hd hk hf hall hv
    obtain ⟨f, rfl⟩ : ∃ g, f = g + 1 := ⟨f - 1, by omega⟩
    show Xt (Z0 l f) l _ _ = _
    unfold Xt
    rw [show decide ((k : Int) < ((List.length l : Nat) : Int)) = false by simp; omega, Ch]
    have e : l.take k = l := List.take_of_length_le (by omega)
    rw [e] at hall hv ⊢
    simp only [cond_false, Option.bind_some, decL]
    by_cases hm : Dl l ≤ Ry
    · have hm' := hm
      unfold Ry at hm'
      rw [if_pos (by omega), Int.toNat_natCast]
      by_cases he : decDigits (Dl l) = l
      · have hp : Uo l = some (Dl l) := by unfold Uo; rw [if_pos ⟨hall, hm, he⟩]
        rw [hp, he, beq_self_eq_true]
        rfl
      · have hp : Uo l = none := by unfold Uo; rw [if_neg fun h => he h.2.2]
        rw [hp, show (decDigits (Dl l) == l) = false by simpa using he]
        rfl
    · have hm' := hm
      unfold Ry at hm'
      have hp : Uo l = none := by unfold Uo; rw [if_neg fun h => hm h.2.1]
      rw [if_neg (by omega), hp]
      cases l with
      | nil => exact absurd (show Dl [] ≤ Ry by decide) hm
      | cons c r => rfl
  | succ d ih =>
    intro k f hd hk hf hall hv
    obtain ⟨f, rfl⟩ : ∃ g, f = g + 1 := ⟨f - 1, by omega⟩
    have hlt : k < l.length := by omega
    show Xt (Z0 l f) l _ _ = _
    unfold Xt
    have hx : idx l (k : Int) = some l[k] := Ud hlt
    rw [show decide ((k : Int) < ((List.length l : Nat) : Int)) = true by simp; omega, hx]
    simp only [cond_true, Option.bind_some]
    by_cases h1 : l[k].toNat < 48
    · rw [show decide (((l[k].toNat : Nat) : Int) < 48) = true by simp; omega, Ed hlt (Bf (.inl h1))]
      rfl
    · rw [show decide (((l[k].toNat : Nat) : Int) < 48) = false by simp; omega]
      simp only [cond_false]
      by_cases h2 : 57 < l[k].toNat
      · rw [show decide (((l[k].toNat : Nat) : Int) > 57) = true by simp; omega, Ed hlt (Bf (.inr h2))]
        rfl
      · rw [show decide (((l[k].toNat : Nat) : Int) > 57) = false by simp; omega]
        simp only [cond_false]
        by_cases h3 : Ry < Dl (l.take k)
        · rw [Ew h3]
          unfold Ry at h3
          rw [show decide (((Dl (l.take k) : Nat) : Int) > 1099511627776) = true by simp; omega]
          rfl
        · unfold Ry at h3
          rw [show decide (((Dl (l.take k) : Nat) : Int) > 1099511627776) = false by simp; omega]
          have hst := dval_step hlt
          have w1 : IntKind.wrap .i64 (10 * ((Dl (l.take k) : Nat) : Int)) = ((10 * Dl (l.take k) : Nat) : Int) := by rw [N8 (by omega)]; omega
          have w2 := digWrap (x := l[k]) (by omega)
          have w3 : IntKind.wrap .i64 (((10 * Dl (l.take k) : Nat) : Int) + ((l[k].toNat - 48 : Nat) : Int)) = ((Dl (l.take (k + 1)) : Nat) : Int) := by rw [hst, N8 (by omega)]; omega
          have w4 : IntKind.wrap .i64 ((k : Int) + 1) = ((k + 1 : Nat) : Int) := by rw [N8 (by omega)]; omega
          simp only [X9, cond_false, w1, w2, w3, w4]
          exact ih (k + 1) f (by omega) (by omega) (by omega) (all_step hlt hall (F3 (by omega) (by omega))) (by omega)
theorem lParse (l : List UInt8) (hl : l.length ≤ 2147483648) : J3 l = some (parseD (Uo l)) := by
  unfold J3
  rw [Nat.ble_eq_true_of_le (Nat.le_trans hl (by decide))]
  exact E4 l (by unfold maxLen; omega) l.length 0 Yg (by omega) (by omega) (by rw [fuel_eq]; omega) rfl (show 0 ≤ 10995116277769 by decide)
end Go.Proofs.YtoflbpmbkmephaaGreatDoor
namespace Go.Proofs.YtoflbpmbkmephaaGreatDoor
open Go.RowKit Go.Shelf
attribute [local go_sem] Oper.semAt_some
def Yj (st : Option (Nat × Nat)) (p : List UInt8) : Option (Nat × Nat) :=
  match st with
  | none => none
  | some (a, m) => match Uo p with
    | none => none
    | some n => if 255 < n ∨ 4 ≤ m then none else some (a * 256 + n, m + 1)
def U3 (ps : List (List UInt8)) : Option (Nat × Nat) := ps.foldl Yj (some (0, 0))
def Cl (s : List UInt8) : Option Nat := match U3 (Yi 46 s) with | none => none | some (a, m) => if m = 4 then some a else none
theorem Ns (ps : List (List UInt8)) (p : List UInt8) : U3 (ps ++ [p]) = Yj (U3 ps) p := by simp [U3]
theorem Nt (ps : List (List UInt8)) : ps.foldl Yj none = none := by
  induction ps with
  | nil => rfl
  | cons p ps ih => exact ih
theorem Cm {pre ps : List (List UInt8)} (h : pre <+: ps) (hn : U3 pre = none) : U3 ps = none := by
  obtain ⟨q, rfl⟩ := h
  unfold U3 at *
  rw [List.foldl_append, hn, Nt]
theorem addrSt_le {ps : List (List UInt8)} {a m : Nat} (h : U3 ps = some (a, m)) : m ≤ 4 ∧ a < 256 ^ m := by
  suffices H : ∀ (ps : List (List UInt8)) (a0 m0 : Nat), m0 ≤ 4 → a0 < 256 ^ m0 → ps.foldl Yj (some (a0, m0)) = some (a, m) → m ≤ 4 ∧ a < 256 ^ m by exact H ps 0 0 (by omega) (by decide) h
  intro ps
  induction ps with
  | nil => intro a0 m0 h1 h2 h3; simp at h3; obtain ⟨rfl, rfl⟩ := h3; exact ⟨h1, h2⟩
  | cons p ps ih =>
    intro a0 m0 h1 h2 h3
    rw [List.foldl_cons] at h3
    cases hp : Uo p with
    | none =>
      rw [show Yj (some (a0, m0)) p = none by simp only [Yj, hp], Nt] at h3
      cases h3
    | some n =>
      by_cases hc : 255 < n ∨ 4 ≤ m0
      · rw [show Yj (some (a0, m0)) p = none by simp only [Yj, hp, if_pos hc], Nt] at h3
        cases h3
      · rw [show Yj (some (a0, m0)) p = some (a0 * 256 + n, m0 + 1) by simp only [Yj, hp, if_neg hc]] at h3
        exact ih _ _ (by omega) (by rw [Nat.pow_succ]; omega) h3
theorem u32_join (a n : Nat) (ha : a < 16777216) (hn : n < 256) : bits .or .u32 ((a : Int) * 256 % 4294967296) (n : Int) = ((a * 256 + n : Nat) : Int) := by
  rw [show (a : Int) * 256 % 4294967296 = ((a * 256 : Nat) : Int) by omega]
  have h := Nat.shiftLeft_add_eq_or_of_lt (i := 8) (b := n) (by omega) a
  rw [Nat.shiftLeft_eq] at h
  show IntKind.u32.wrap ((BitVec.ofInt 32 ((a * 256 : Nat) : Int) ||| BitVec.ofInt 32 (n : Int)).toNat : Int) = _
  rw [BitVec.toNat_or, BitVec.ofInt_natCast, BitVec.ofInt_natCast, BitVec.toNat_ofNat, BitVec.toNat_ofNat, Nat.mod_eq_of_lt (by omega), Nat.mod_eq_of_lt (by omega), show a * 256 = a * 2 ^ 8 from rfl, ← h]
  unfold IntKind.wrap
  simp only [IntKind.bits, IntKind.signed]
  simp
  omega
theorem R3 {w : World} {o : Obj} {k : Nat} (h : k = w.heap.size) : (w.alloc o).heap[k]? = some o := by subst h; exact World.alloc_heap_new w o
theorem Dn (s sep : ByteArray) (w : World) : Calls Tryz.prog 183 #[.string s, .string sep] w fun e w' =>
    e = .returned (.func (.func 202) #[] #[.pointer (some ⟨w.heap.size + 1, 0, none⟩), .pointer (some ⟨w.heap.size, 0, none⟩), .pointer (some ⟨w.heap.size + 2, 0, none⟩)]) ∧
      w' = ((w.alloc (.cells #[.string s] 9)).alloc (.cells #[.string sep] 9)).alloc (.cells #[.int .i64 0] 3) := by
  have h1 : Calls Tryz.prog 196 #[.string s, .string sep, .int .i64 0] w fun e w' =>
    e = .returned (.func (.func 202) #[] #[.pointer (some ⟨w.heap.size + 1, 0, none⟩), .pointer (some ⟨w.heap.size, 0, none⟩), .pointer (some ⟨w.heap.size + 2, 0, none⟩)]) ∧
      w' = ((w.alloc (.cells #[.string s] 9)).alloc (.cells #[.string sep] 9)).alloc (.cells #[.int .i64 0] 3) := by
    go_enter Tryz.func196, Tryz.ntmps196
    go_wp2
    go_ret
    exact ⟨by simp, rfl⟩
  go_enter Tryz.func183, Tryz.ntmps183
  go_wp2_with (go_at_call 196; refine h1.mono ?_; rintro e w' ⟨rfl, rfl⟩)
  go_ret
  exact ⟨rfl, rfl⟩
theorem addr_any (s : List UInt8) (hs : s.length ≤ 2147483648) (w : World) (hL : Ub w) :
    Calls Tryz.prog 157 #[.string ⟨s.toArray⟩] w fun e w' => e = .returned (match Cl s with | none => .tuple #[.int .u32 0, .bool false] | some a => .tuple #[.int .u32 (a : Int), .bool true]) ∧ Below w.heap.size w w' := by
  refine (callsIn_wide (n := 3)).1 ?_
  refine callsIn_of_wp_marks Tryz.func157 rfl trivial ?_ rfl
  simp only [Tryz.ntmps157, List.size_toArray, List.length_cons, List.length_nil, Nat.reduceAdd, Nat.reduceSub, Array.replicate_succ, Array.replicate_zero, List.push_toArray, List.append_toArray, List.nil_append, List.cons_append]
  gi_wp2
  refine wpIn_wide.2 (wp_scope_straight ((wpIn_wide (n := 3)).1 ?_))
  gi_wp2_with (refine ⟨trivial, fun hh => (by first | (cases hh; done) | omega), ?_⟩; gi_at_call 183; refine (callsIn_wide.2 (Dn _ _ _)).mono ?_; rintro e w' ⟨rfl, rfl⟩)
  refine wpIn_label ?_
  gi_wp2_with (refine ⟨trivial, ?_⟩; gi_at_call 183; refine (callsIn_wide.2 (Dn _ _ _)).mono ?_; rintro e w' ⟨rfl, rfl⟩)
  have hsl : s.length ≤ maxLen := by unfold maxLen; omega
  generalize hw5 : ((((((w.alloc (Obj.cells #[Value.int IntKind.u32 0] 50)).alloc (Obj.cells #[Value.int IntKind.i64 0] 3)).alloc (Obj.cells #[Value.string { data := s.toArray }] 9)).alloc (Obj.cells #[Value.string { data := #[46] }] 9)).alloc (Obj.cells #[Value.int IntKind.i64 0] 3))) = w5
  have hsz5 : w5.heap.size = w.heap.size + 5 := by rw [← hw5]; simp
  have hb5 : Below w.heap.size w w5 := by
    rw [← hw5]
    exact (((((Below.refl _ _).alloc (Nat.le_refl _) _).alloc (by simp) _).alloc (by simp; omega) _).alloc (by simp; omega) _).alloc (by simp; omega) _
  have g0 : w5.heap[w.heap.size]? = some (.cells #[.int .u32 0] 50 (0, 0)) := by rw [← hw5]; exact (Below.heap_alloc _ _ _ (by simp; try omega)).trans ((Below.heap_alloc _ _ _ (by simp; try omega)).trans ((Below.heap_alloc _ _ _ (by simp; try omega)).trans ((Below.heap_alloc _ _ _ (by simp; try omega)).trans (R3 rfl))))
  have g1 : w5.heap[w.heap.size + 1]? = some (.cells #[.int .i64 0] 3 (0, 0)) := by rw [← hw5]; exact (Below.heap_alloc _ _ _ (by simp; try omega)).trans ((Below.heap_alloc _ _ _ (by simp; try omega)).trans ((Below.heap_alloc _ _ _ (by simp; try omega)).trans (R3 (by simp))))
  have g2 : w5.heap[w.heap.size + 1 + 1]? = some (.cells #[.string ⟨s.toArray⟩] 9 (0, 0)) := by rw [← hw5]; exact (Below.heap_alloc _ _ _ (by simp; try omega)).trans ((Below.heap_alloc _ _ _ (by simp; try omega)).trans (R3 (by simp)))
  have g3 : w5.heap[w.heap.size + 1 + 1 + 1]? = some (.cells #[.string ⟨#[46]⟩] 9 (0, 0)) := by rw [← hw5]; exact (Below.heap_alloc _ _ _ (by simp; try omega)).trans (R3 (by simp))
  have g4 : w5.heap[w.heap.size + 1 + 1 + 2]? = some (.cells #[.int .i64 0] 3 (0, 0)) := by rw [← hw5]; exact R3 (by simp)
  clear hw5
  refine range_own (gf := 202) (lb := #[Value.pointer (some { block := w.heap.size + 1 + 1 + 1, off := 0 }), Value.pointer (some { block := w.heap.size + 1 + 1, off := 0 }), Value.pointer (some { block := w.heap.size + 1 + 1 + 2, off := 0 })])
    rfl (enters_of Tryz.func202 (by kernel_rfl) rfl) (encs := fun x : List UInt8 => #[.string ⟨x.toArray⟩]) (fun _ => rfl) [w.heap.size + 1 + 1 + 1, w.heap.size + 1 + 1, w.heap.size + 1 + 1 + 2] [w.heap.size, w.heap.size + 1]
    (by intro k hk; simp at hk; omega) (by intro k hk; simp at hk ⊢; omega) (S := Yi 46 s) ?iter
    (fun pre W => ∃ a m, U3 pre = some (a, m) ∧ W.heap[w.heap.size]? = some (.cells #[.int .u32 (a : Int)] 50 (0, 0)) ∧ W.heap[w.heap.size + 1]? = some (.cells #[.int .i64 (m : Int)] 3 (0, 0)) ∧ Below w.heap.size w W)
    (fun c pre W => c = .exit 0 ∧ U3 pre = none ∧ (∃ v : Int, v ≠ 4 ∧ W.heap[w.heap.size + 1]? = some (.cells #[.int .i64 v] 3 (0, 0))) ∧ Below w.heap.size w W) ?hI ?hIx ⟨0, 0, rfl, g0, g1, hb5⟩
    (fun x => { tmps := #[.string ⟨s.toArray⟩, undef, .int .u32 0, .bool false, .pointer (some ⟨w.heap.size, 0, none⟩), .pointer (some ⟨w.heap.size + 1, 0, none⟩), .string ⟨x.toArray⟩, undef, undef, .string ⟨s.toArray⟩,
      .func (.func 202) #[] #[.pointer (some ⟨w.heap.size + 1 + 1 + 1, 0, none⟩), .pointer (some ⟨w.heap.size + 1 + 1, 0, none⟩), .pointer (some ⟨w.heap.size + 1 + 1 + 2, 0, none⟩)], .string ⟨x.toArray⟩, undef, undef, undef, undef, undef, undef, undef, undef, undef, undef, undef, undef, undef, undef, undef, undef, undef, undef, undef, undef, undef, undef, undef], defers := [] }) ?assign ?body ?done ?stop
  case iter =>
    intro l J Jx W hJ hY hT hJ0
    refine F2 _ l (w.heap.size + 1 + 1 + 1) (w.heap.size + 1 + 1) (w.heap.size + 1 + 1 + 2) 46 (by omega) (by omega) s hsl J Jx (fun pre W1 v hj => hJ pre W1 _ v (by simp) hj) (fun pre x r W1 hj hb hq => ?_) W ⟨(hT _ (by simp)).trans g3, (hT _ (by simp)).trans g2, (hT _ (by simp)).trans g4⟩ hJ0
    obtain ⟨fn, tmps, assign, body, hy, hR⟩ := hY pre x W1 hj hq
    refine ⟨fn, tmps, assign, body, hy, hR.mono ?_⟩
    rintro e W' (⟨h1, h2, h3⟩ | h)
    · exact .inl ⟨h1, h2, h3 _ (by simp), h3 _ (by simp), h3 _ (by simp)⟩
    · exact .inr h
  case hI =>
    rintro xs W W' ⟨a, m, h1, h2, h3, h4⟩ hm
    have hB : Below w.heap.size W W' := ⟨hm.os, hm.tape, hm.output, hm.size, fun k hk => hm.block k (Nat.lt_of_lt_of_le hk h4.size) (by simp [hsz5]; omega)⟩
    refine ⟨a, m, h1, (hm.block _ (Array.getElem?_eq_some_iff.1 h2).1 (by simp [hsz5]; try omega)).trans h2, (hm.block _ (Array.getElem?_eq_some_iff.1 h3).1 (by simp [hsz5]; try omega)).trans h3, h4.trans hB⟩
  case hIx =>
    rintro c xs W W' ⟨h0, h1, ⟨v, hv, h3⟩, h4⟩ hm
    have hB : Below w.heap.size W W' := ⟨hm.os, hm.tape, hm.output, hm.size, fun k hk => hm.block k (Nat.lt_of_lt_of_le hk h4.size) (by simp [hsz5]; omega)⟩
    exact ⟨h0, h1, ⟨v, hv, (hm.block _ (Array.getElem?_eq_some_iff.1 h3).1 (by simp [hsz5]; try omega)).trans h3⟩, h4.trans hB⟩
  case assign =>
    intro l x W K hK
    gi_wp2
    exact hK
  case body =>
    rintro l pre x W ⟨a, m, hst, hca, hcm, hB⟩ hsz ⟨q, hq⟩
    have hx : x.length ≤ s.length := Gy 46 s x (by rw [← hq]; simp)
    have hle := addrSt_le hst
    have hparse := lParse x (by omega)
    cases hp : Uo x with
    | none =>
      rw [hp] at hparse
      have hnone : U3 (pre ++ [x]) = none := by rw [Ns, hst]; simp only [Yj, hp]
      gi_wp2_with (refine ⟨trivial, ?_⟩; gi_at_call 135; refine (CallsIn.inRound l (callsIn_wide.2 (Xe x W (Qv hL hB) (0, false) hparse))).mono ?_; rintro e w' ⟨rfl, hsp⟩; have hb' := SP.keeps hsp; have hca2 := (hb'.block _ (Array.getElem?_eq_some_iff.1 hca).1).trans hca; have hcm2 := (hb'.block _ (Array.getElem?_eq_some_iff.1 hcm).1).trans hcm; have c1 := Uq hca2; have c2 := Uq hcm2; have f1 := U5 hca2; have f2 := U5 hcm2)
      exact ⟨(Zi hb' _).setCell (p := ⟨w.heap.size + 1, 0, none⟩) (.inl (by simp)) _, rfl, hnone, ⟨0, by decide, Xz hcm2⟩, (hB.trans (hb'.mono hB.size)).setCell (p := ⟨w.heap.size + 1, 0, none⟩) (by simp) _⟩
    | some n =>
      rw [hp] at hparse
      by_cases hn : 255 < n
      · have hnone : U3 (pre ++ [x]) = none := by rw [Ns, hst]; simp only [Yj, hp, if_pos (Or.inl hn : 255 < n ∨ 4 ≤ m)]
        have hn' : (255 : Int) < (n : Int) := by omega
        gi_wp2_with (refine ⟨trivial, ?_⟩; gi_at_call 135; refine (CallsIn.inRound l (callsIn_wide.2 (Xe x W (Qv hL hB) ((n : Int), true) hparse))).mono ?_; rintro e w' ⟨rfl, hsp⟩; have hb' := SP.keeps hsp; have hca2 := (hb'.block _ (Array.getElem?_eq_some_iff.1 hca).1).trans hca; have hcm2 := (hb'.block _ (Array.getElem?_eq_some_iff.1 hcm).1).trans hcm; have c1 := Uq hca2; have c2 := Uq hcm2; have f1 := U5 hca2; have f2 := U5 hcm2)
        exact ⟨(Zi hb' _).setCell (p := ⟨w.heap.size + 1, 0, none⟩) (.inl (by simp)) _, rfl, hnone, ⟨0, by decide, Xz hcm2⟩, (hB.trans (hb'.mono hB.size)).setCell (p := ⟨w.heap.size + 1, 0, none⟩) (by simp) _⟩
      · have hn' : ¬ (255 : Int) < (n : Int) := by omega
        by_cases hm : 4 ≤ m
        · have hnone : U3 (pre ++ [x]) = none := by rw [Ns, hst]; simp only [Yj, hp, if_pos (Or.inr hm : 255 < n ∨ 4 ≤ m)]
          have hm' : (4 : Int) < (m : Int) + 1 := by omega
          gi_wp2_with (refine ⟨trivial, ?_⟩; gi_at_call 135; refine (CallsIn.inRound l (callsIn_wide.2 (Xe x W (Qv hL hB) ((n : Int), true) hparse))).mono ?_; rintro e w' ⟨rfl, hsp⟩; have hb' := SP.keeps hsp; have hca2 := (hb'.block _ (Array.getElem?_eq_some_iff.1 hca).1).trans hca; have hcm2 := (hb'.block _ (Array.getElem?_eq_some_iff.1 hcm).1).trans hcm; have c1 := Uq hca2; have c2 := Uq hcm2; have f1 := U5 hca2; have f2 := U5 hcm2)
          have hcm3 : (w'.setCell ⟨w.heap.size, 0, none⟩ (.int .u32 (bits .or .u32 ((a : Int) * 256 % 4294967296) (n : Int)))).heap[w.heap.size + 1]? = some (.cells #[.int .i64 (m : Int)] 3 (0, 0)) := (Zx (by omega)).trans hcm2
          exact ⟨((Zi hb' _).setCell (p := ⟨w.heap.size, 0, none⟩) (.inl (by simp)) _).setCell (p := ⟨w.heap.size + 1, 0, none⟩) (.inl (by simp)) _, rfl, hnone, ⟨(m : Int) + 1, by omega, Xz hcm3⟩,
            ((hB.trans (hb'.mono hB.size)).setCell (p := ⟨w.heap.size, 0, none⟩) (by simp) _).setCell (p := ⟨w.heap.size + 1, 0, none⟩) (by simp) _⟩
        · have hm' : ¬ (4 : Int) < (m : Int) + 1 := by omega
          gi_wp2_with (refine ⟨trivial, ?_⟩; gi_at_call 135; refine (CallsIn.inRound l (callsIn_wide.2 (Xe x W (Qv hL hB) ((n : Int), true) hparse))).mono ?_; rintro e w' ⟨rfl, hsp⟩; have hb' := SP.keeps hsp; have hca2 := (hb'.block _ (Array.getElem?_eq_some_iff.1 hca).1).trans hca; have hcm2 := (hb'.block _ (Array.getElem?_eq_some_iff.1 hcm).1).trans hcm; have c1 := Uq hca2; have c2 := Uq hcm2; have f1 := U5 hca2; have f2 := U5 hcm2)
          have hstep : U3 (pre ++ [x]) = some (a * 256 + n, m + 1) := by rw [Ns, hst]; simp only [Yj, hp, if_neg (by omega : ¬ (255 < n ∨ 4 ≤ m))]
          have ha : a < 16777216 := by
            have h3 := Nat.pow_le_pow_right (show 0 < 256 by omega) (show m ≤ 3 by omega)
            have h6 : (256 : Nat) ^ 3 = 16777216 := by decide
            omega
          have hj := u32_join a n ha (by omega)
          rw [hj]
          have hca3 : (w'.setCell ⟨w.heap.size, 0, none⟩ (.int .u32 ((a * 256 + n : Nat) : Int))).heap[w.heap.size]? = some (.cells #[.int .u32 ((a * 256 + n : Nat) : Int)] 50 (0, 0)) := Xz hca2
          have hcm3 : (w'.setCell ⟨w.heap.size, 0, none⟩ (.int .u32 ((a * 256 + n : Nat) : Int))).heap[w.heap.size + 1]? = some (.cells #[.int .i64 (m : Int)] 3 (0, 0)) := (Zx (by omega)).trans hcm2
          exact ⟨((Zi hb' _).setCell (p := ⟨w.heap.size, 0, none⟩) (.inl (by simp)) _).setCell (p := ⟨w.heap.size + 1, 0, none⟩) (.inl (by simp)) _, a * 256 + n, m + 1, hstep, (Zx (by omega)).trans hca3, Xz hcm3,
            ((hB.trans (hb'.mono hB.size)).setCell (p := ⟨w.heap.size, 0, none⟩) (by simp) _).setCell (p := ⟨w.heap.size + 1, 0, none⟩) (by simp) _⟩
  case done =>
    rintro W ⟨a, m, hst, hca, hcm, hB⟩ hK
    have c1 := Uq hca
    have c2 := Uq hcm
    by_cases h4 : m = 4
    · subst h4
      have hres : Cl s = some a := by unfold Cl; rw [hst]; rfl
      gi_wp2
      refine ⟨by simp, .inl ⟨_, _, rfl, run_takeDeferred hK, ?_⟩⟩
      exact ⟨_, results_tmp2 rfl _ _ _, by rw [hres]; rfl, hB.trans ((Jg W _ _).below hB.size (by simp [hsz5]))⟩
    · have hm : ((m : Int) != 4) = true := by rw [bne_iff_ne]; omega
      have hres : Cl s = none := by unfold Cl; rw [hst]; exact if_neg h4
      gi_wp2
      refine ⟨by simp, .inl ⟨_, _, rfl, run_takeDeferred hK, ?_⟩⟩
      exact ⟨_, results_tmp2 rfl _ _ _, by rw [hres]; rfl, hB.trans ((Jg W _ _).below hB.size (by simp [hsz5]))⟩
  case stop =>
    rintro c pre W hpre ⟨rfl, hst, ⟨v, hv, hcv⟩, hB⟩ hK
    have c2 := Uq hcv
    have hm : (v != 4) = true := by rw [bne_iff_ne]; exact hv
    have hres : Cl s = none := by unfold Cl; rw [Cm hpre hst]
    gi_wp2
    refine ⟨by simp, .inl ⟨_, _, rfl, run_takeDeferred hK, ?_⟩⟩
    exact ⟨_, results_tmp2 rfl _ _ _, by rw [hres]; rfl, hB.trans ((Jg W _ _).below hB.size (by simp [hsz5]))⟩
end Go.Proofs.YtoflbpmbkmephaaGreatDoor
namespace Go.Proofs.YtoflbpmbkmephaaGreatDoor
open Go.RowKit
def Zc (s sep : List UInt8) : Option Int := match sep with | [c] => some (Lib.indexByte s c) | _ => none
theorem Xm (s sep : List UInt8) (w0 : World) (r : Int) (H : Zc s sep = some r) :
    Calls Tryz.prog 182 #[(.string ⟨List.toArray s⟩), (.string ⟨List.toArray sep⟩)] w0 (fun e w' => e = .returned (.int .i64 r) ∧ SP [] w0 w' []) := by
  unfold Zc at H
  match sep, H with
  | [c], H =>
    injection H with H
    subst H
    refine (Tryz.stringslite_Index_one ⟨s.toArray⟩ c w0).mono ?_
    rintro e w' ⟨rfl, rfl⟩
    exact ⟨rfl, Qz [] w'⟩
def addrD (x : Option Nat) : Int × Bool := match x with | none => (0, false) | some a => ((a : Int), true)
def Nu (s : List UInt8) : Option (Int × Bool) := cond (Nat.ble s.length 2147483648) (some (addrD (Cl s))) none
theorem R4 (s : List UInt8) (w0 : World) (hL : Ub w0) (r : Int × Bool) (H : Nu s = some r) :
    Calls Tryz.prog 157 #[(.string ⟨List.toArray s⟩)] w0 (fun e w' => e = .returned (.tuple #[(.int .u32 r.1), (.bool r.2)]) ∧ SP [] w0 w' []) := by
  unfold Nu at H
  cases hs : Nat.ble s.length 2147483648 <;> rw [hs] at H
  · cases H
  injection H with H
  subst H
  refine (addr_any s (Nat.le_of_ble_eq_true hs) w0 hL).mono ?_
  rintro e w' ⟨rfl, hbel⟩
  refine ⟨?_, D9 hbel⟩
  cases Cl s with
  | none => rfl
  | some a => rfl
end Go.Proofs.YtoflbpmbkmephaaGreatDoor
namespace Go.Proofs.YtoflbpmbkmephaaGreatDoor
open Go.RowKit
def Ur (p1 : (List UInt8)) (p2 : (List UInt8)) : Option (Int) :=
  ((Zc p1 p2).bind fun z3 => (some (z3)))
set_option maxHeartbeats 40000000 in
theorem G4  (p1 : (List UInt8)) (p2 : (List UInt8)) (w0 : World)  (r : (Int)) (H : Ur p1 p2 = some r) :
  Calls Tryz.prog 156 #[(.string ⟨List.toArray p1⟩), (.string ⟨List.toArray p2⟩)] w0 (fun e w' => e = .returned (.int .i64 r) ∧ SP [] w0 w' []) := by
 unfold Ur at H
 refine Qx (n := 8) Tryz.func156 K K K ?_
 have b := Qz [] w0
 refine aQ ?_
 refine aR ?_
 refine iR 1 1 [(4, (.int .i64 0))] ?_
 refine iF ?_
 refine aQ ?_
 refine aR ?_
 refine iR 2 2 [(5, (.string ⟨List.toArray p1⟩)), (6, (.string ⟨List.toArray p2⟩))] ?_
 obtain ⟨z3, c, H⟩ := Qd H
 refine iS 3 ?_
 refine cF 182 #[(.tmp 5), (.tmp 6)] #[9, 9] 7 Tryz.call182 (Xm  p1 p2 w0  z3 c) ?_
 rintro e w5 ⟨rfl, a⟩
 refine ⟨_, rfl, ?_⟩
 have d := SP.call b a
 clear a
 refine iR 1 4 [(4, (.int .i64 z3))] ?_
 refine iF ?_
 refine At.ret K ?_
 refine ⟨(.int .i64 z3), K, ?_⟩
 obtain rfl := Qg H
 exact ⟨rfl, SP.sel d [] rfl rfl⟩
def Xn (c : (List UInt8)) (b : (List (List UInt8))) (a : Int) : Option ((List (List UInt8))) :=
  ((idx b a).bind fun f => ((some (List.set b (Int.toNat a) c)).bind fun d => ((sub d 0 (IntKind.wrap .i64 (a + 1))).bind fun e => (some (e)))))
def Yp (f : (List UInt8) → (List (List UInt8)) → Int → Option ((List (List UInt8)))) (p1 : (List UInt8)) (p2 : (List UInt8)) (p3 : Int) (e : Int) (a : (List UInt8)) (c : (List (List UInt8))) (b : Int) : Option ((List (List UInt8))) :=
  (cond (decide (b < (IntKind.wrap .i64 ((if (IntKind.wrap .i64 (((List.length p1 : Nat) : Int) + 1)) < e then (IntKind.wrap .i64 (((List.length p1 : Nat) : Int) + 1)) else e) - 1)))) ((Ur a p2).bind fun d => (cond (decide (d < 0)) (Xn a c b) ((sub a 0 (IntKind.wrap .i64 (d + p3))).bind fun g => ((idx c b).bind fun j => ((some (List.set c (Int.toNat b) g)).bind fun h => ((sub a (IntKind.wrap .i64 (d + ((List.length p2 : Nat) : Int))) ((List.length a : Nat) : Int)).bind fun i => (f i h (IntKind.wrap .i64 (b + 1))))))))) (Xn a c b))
def Xo (p1 : (List UInt8)) (p2 : (List UInt8)) (p3 : Int) (a : Int) : Nat → (List UInt8) → (List (List UInt8)) → Int → Option ((List (List UInt8)))
  | 0, _, _, _ => none
  | f + 1, b, c, d => Yp  (Xo p1 p2 p3 a f) p1 p2 p3 a b c d
def Xp (p1 : (List UInt8)) (p2 : (List UInt8)) (p3 : Int) (a : Int) : Option ((List (List UInt8))) :=
  ((chk (decide (0 ≤ (if (IntKind.wrap .i64 (((List.length p1 : Nat) : Int) + 1)) < a then (IntKind.wrap .i64 (((List.length p1 : Nat) : Int) + 1)) else a) ∧ (if (IntKind.wrap .i64 (((List.length p1 : Nat) : Int) + 1)) < a then (IntKind.wrap .i64 (((List.length p1 : Nat) : Int) + 1)) else a) ≤ 2147483648))).bind fun _ => ((some (List.replicate (Int.toNat (if (IntKind.wrap .i64 (((List.length p1 : Nat) : Int) + 1)) < a then (IntKind.wrap .i64 (((List.length p1 : Nat) : Int) + 1)) else a)) (([] : List UInt8) : (List UInt8)))).bind fun b => (Xo p1 p2 p3 a Yg p1 b 0)))
def Jn (p1 : (List UInt8)) (p2 : (List UInt8)) (p3 : Int) (p4 : Int) : Option ((List (List UInt8))) :=
  (cond (p4 == 0) (some (([] : List (List UInt8)))) (cond (p2 == ([] : List UInt8)) ((Ni p1 p4).bind fun a => (some (a))) (cond (decide (p4 < 0)) ((Up p1 p2).bind fun b => (Xp p1 p2 p3 (IntKind.wrap .i64 (b + 1)))) (Xp p1 p2 p3 p4))))
set_option maxHeartbeats 40000000 in
theorem Nv  (p1 : (List UInt8)) (p2 : (List UInt8)) (p3 : Int) (p4 : Int) (w0 : World)  (r : ((List (List UInt8)))) (H : Jn p1 p2 p3 p4 = some r) :
  Calls Tryz.prog 111 #[(.string ⟨List.toArray p1⟩), (.string ⟨List.toArray p2⟩), (.int .i64 p3), (.int .i64 p4)] w0 (fun e w' => ∃ (A5 : Option Addr) (c6 : Nat), e = .returned (.slice A5 (List.length r) c6) ∧ SP [] w0 w' [Q3 9 Qm A5 c6 r]) := by
 unfold Jn at H
 refine Qx (n := 66) Tryz.func111 K K K ?_
 have a6 := Qz [] w0
 refine aQ ?_
 refine aR ?_
 refine iR 1 1 [(8, (.slice none (List.length ([] : List (List UInt8))) 0))] ?_
 refine iF ?_
 refine aQ ?_
 refine aQ ?_
 refine aR ?_
 refine iR 2 2 [(12, (.int .i64 p4)), (13, (.bool (p4 == 0)))] ?_
 refine iF ?_
 refine Z3 K (o := (.tmp 13)) K (b := (p4 == 0)) K (fun b1 => ?_) (fun b1 => ?_)
 ·have H := ct H b1
  refine aQ ?_
  refine aR ?_
  refine iR 1 1 [(8, (.slice none (List.length ([] : List (List UInt8))) 0))] ?_
  refine iF ?_
  refine At.ret K ?_
  have d7 : SP [] w0 w0 [Q3 9 Qm none 0 ([] : List (List UInt8))] := Uj a6 9 Qm
  refine ⟨(.slice none (List.length ([] : List (List UInt8))) 0), K, ?_⟩
  obtain rfl := Qg H
  exact ⟨none, 0, rfl, SP.sel d7 [0] rfl rfl⟩
 ·have H := cf H b1
  refine At.skip K ?_
  refine aQ ?_
  refine aQ ?_
  refine aR ?_
  refine iR 1 1 [(14, (.string ⟨List.toArray p2⟩))] ?_
  refine iS 2 ?_
  refine Xd (op := .eql) (T := 9) (T' := 9) (x := (.tmp 14)) (y := (.const (.string ⟨List.toArray ([] : List UInt8)⟩))) (a := p2) (b := ([] : List UInt8)) (r := (.bool (p2 == ([] : List UInt8)))) (d := (some 15)) (k := 1) K rfl K K rfl ?_
  refine iF ?_
  refine Z3 K (o := (.tmp 15)) K (b := (p2 == ([] : List UInt8))) K (fun b2 => ?_) (fun b2 => ?_)
  ·have H := ct H b2
   refine aQ ?_
   refine aR ?_
   refine iR 2 2 [(16, (.string ⟨List.toArray p1⟩)), (17, (.int .i64 p4))] ?_
   obtain ⟨b3, d8, H⟩ := Qd H
   refine iS 3 ?_
   refine cF 154 #[(.tmp 16), (.tmp 17)] #[9, 3] 18 Tryz.call154 (Gf  p1 p4 w0  b3 d8) ?_
   rintro e g3 ⟨b4, b5, rfl, c1⟩
   refine ⟨_, rfl, ?_⟩
   have d9 := SP.call a6 c1
   clear c1
   refine iR 1 4 [(8, (.slice b4 (List.length b3) b5))] ?_
   refine iF ?_
   refine At.ret K ?_
   refine ⟨(.slice b4 (List.length b3) b5), K, ?_⟩
   obtain rfl := Qg H
   exact ⟨b4, b5, rfl, SP.sel d9 [0] rfl rfl⟩
  ·have H := cf H b2
   refine At.skip K ?_
   refine aQ ?_
   refine aQ ?_
   refine aR ?_
   refine iR 2 2 [(19, (.int .i64 p4)), (20, (.bool (decide (p4 < 0))))] ?_
   refine iF ?_
   refine At.join (fun ρ w => ∃ (f : Int), V8 ρ [(0, (.string ⟨List.toArray p1⟩)), (1, (.string ⟨List.toArray p2⟩)), (2, (.int .i64 p3)), (3, (.int .i64 f))] ∧ SP [] w0 w [] ∧ Xp p1 p2 p3 f = some r) ?_ ?_
   ·refine Z3 K (o := (.tmp 20)) K (b := (decide (p4 < 0))) K (fun b6 => ?_) (fun b6 => ?_)
    ·have H := ct H b6
     refine aR ?_
     refine iR 2 2 [(21, (.string ⟨List.toArray p1⟩)), (22, (.string ⟨List.toArray p2⟩))] ?_
     obtain ⟨a7, e0, H⟩ := Qd H
     refine iS 3 ?_
     refine cF 155 #[(.tmp 21), (.tmp 22)] #[9, 9] 23 Tryz.call155 (G3  p1 p2 w0  a7 e0) ?_
     rintro e g4 ⟨rfl, c2⟩
     refine ⟨_, rfl, ?_⟩
     have e1 := SP.call a6 c2
     clear c2
     refine iR 2 5 [(24, (.int .i64 (IntKind.wrap .i64 (a7 + 1)))), (3, (.int .i64 (IntKind.wrap .i64 (a7 + 1))))] ?_
     refine iF ?_
     exact ⟨(IntKind.wrap .i64 (a7 + 1)), ⟨K, K, K, K, trivial⟩, SP.sel e1 [] rfl rfl, H⟩
    ·have H := cf H b6
     refine At.skip K ?_
     exact ⟨p4, ⟨K, K, K, K, trivial⟩, SP.sel a6 [] rfl rfl, H⟩
   ·rintro ρ g5 ⟨f, hk, e2, H⟩
    unfold Xp at H
    first | refine At.known [(0, (.string ⟨List.toArray p1⟩)), (1, (.string ⟨List.toArray p2⟩)), (2, (.int .i64 p3)), (3, (.int .i64 f))] hk ?_ | rw [← Q0 (l := [(0, (.string ⟨List.toArray p1⟩)), (1, (.string ⟨List.toArray p2⟩)), (2, (.int .i64 p3)), (3, (.int .i64 f))]) hk]
    refine aQ ?_
    refine aR ?_
    refine iR 6 6 [(25, (.int .i64 f)), (26, (.string ⟨List.toArray p1⟩)), (27, (.int .i64 ((List.length p1 : Nat) : Int))), (28, (.int .i64 (IntKind.wrap .i64 (((List.length p1 : Nat) : Int) + 1)))), (29, (.int .i64 (if (IntKind.wrap .i64 (((List.length p1 : Nat) : Int) + 1)) < f then (IntKind.wrap .i64 (((List.length p1 : Nat) : Int) + 1)) else f))), (3, (.int .i64 (if (IntKind.wrap .i64 (((List.length p1 : Nat) : Int) + 1)) < f then (IntKind.wrap .i64 (((List.length p1 : Nat) : Int) + 1)) else f)))] ?_
    refine iF ?_
    refine aQ ?_
    refine aR ?_
    refine iR 1 1 [(30, (.int .i64 (if (IntKind.wrap .i64 (((List.length p1 : Nat) : Int) + 1)) < f then (IntKind.wrap .i64 (((List.length p1 : Nat) : Int) + 1)) else f)))] ?_
    obtain ⟨hl30, H⟩ := U0 H
    obtain ⟨a8, hyl29, H⟩ := V9 H
    refine iS 2 ?_
    refine Bc (e := Qm) (l' := a8) (z := ([] : List UInt8)) (v := (.string ⟨List.toArray ([] : List UInt8)⟩)) (b := 16) (T := 79) (E := 9) (x := (.tmp 30)) (y := (.tmp 30)) (k1 := .i64) (k2 := .i64) (iz := (if (IntKind.wrap .i64 (((List.length p1 : Nat) : Int) + 1)) < f then (IntKind.wrap .i64 (((List.length p1 : Nat) : Int) + 1)) else f)) (d := (some 31)) (k := 1) K rfl K K K K K rfl rfl rfl hl30 e2 hyl29 ?_
    intro b7 w32 c3 g6
    have e3 : SP [] w0 w32 [Q3 9 Qm (some ⟨b7, 0, none⟩) (Int.toNat (if (IntKind.wrap .i64 (((List.length p1 : Nat) : Int) + 1)) < f then (IntKind.wrap .i64 (((List.length p1 : Nat) : Int) + 1)) else f)) a8] := c3
    clear c3
    refine iR 1 3 [(9, (.slice (some ⟨b7, 0, none⟩) (List.length a8) (Int.toNat (if (IntKind.wrap .i64 (((List.length p1 : Nat) : Int) + 1)) < f then (IntKind.wrap .i64 (((List.length p1 : Nat) : Int) + 1)) else f))))] ?_
    refine iF ?_
    refine aQ ?_
    refine aR ?_
    refine iR 3 3 [(32, (.int .i64 (if (IntKind.wrap .i64 (((List.length p1 : Nat) : Int) + 1)) < f then (IntKind.wrap .i64 (((List.length p1 : Nat) : Int) + 1)) else f))), (33, (.int .i64 (IntKind.wrap .i64 ((if (IntKind.wrap .i64 (((List.length p1 : Nat) : Int) + 1)) < f then (IntKind.wrap .i64 (((List.length p1 : Nat) : Int) + 1)) else f) - 1)))), (3, (.int .i64 (IntKind.wrap .i64 ((if (IntKind.wrap .i64 (((List.length p1 : Nat) : Int) + 1)) < f then (IntKind.wrap .i64 (((List.length p1 : Nat) : Int) + 1)) else f) - 1))))] ?_
    refine iF ?_
    refine aQ ?_
    refine aR ?_
    refine iR 1 1 [(10, (.int .i64 0))] ?_
    refine iF ?_
    refine aQ ?_
    refine At.join (fun ρ w => ∃ (a4 : (List UInt8)) (a3 : (List (List UInt8))) (a2 : Int) (q : Option Addr) (g : Nat), V8 ρ [(0, (.string ⟨List.toArray a4⟩)), (9, (.slice q (List.length a3) g)), (10, (.int .i64 a2))] ∧ SP [] w0 w [Q3 9 Qm q g a3] ∧ Xn a4 a3 a2 = some r) ?_ ?_
    ·refine Yz K (id := 0) K ?_
     refine G1 K (fun f4 ρ w => ∃ (h : (List UInt8)) (s : (List (List UInt8))) (p : Int) (u : Option Addr) (a0 : Nat), V8 ρ [(0, (.string ⟨List.toArray h⟩)), (1, (.string ⟨List.toArray p2⟩)), (2, (.int .i64 p3)), (3, (.int .i64 (IntKind.wrap .i64 ((if (IntKind.wrap .i64 (((List.length p1 : Nat) : Int) + 1)) < f then (IntKind.wrap .i64 (((List.length p1 : Nat) : Int) + 1)) else f) - 1)))), (9, (.slice u (List.length s) a0)), (10, (.int .i64 p))] ∧ SP [] w0 w [Q3 9 Qm u a0 s] ∧ Xo p1 p2 p3 f f4 h s p = some r) (by rintro ρ w ⟨h, s, p, u, a0, hk, hs, H⟩; cases H) ?_ Yg ?_
     ·rintro f4 ρ e4 ⟨h, s, p, u, a0, hk, c4, H⟩
      refine At.known [(0, (.string ⟨List.toArray h⟩)), (1, (.string ⟨List.toArray p2⟩)), (2, (.int .i64 p3)), (3, (.int .i64 (IntKind.wrap .i64 ((if (IntKind.wrap .i64 (((List.length p1 : Nat) : Int) + 1)) < f then (IntKind.wrap .i64 (((List.length p1 : Nat) : Int) + 1)) else f) - 1)))), (9, (.slice u (List.length s) a0)), (10, (.int .i64 p))] hk ?_
      replace H := (show Yp (Xo p1 p2 p3 f f4) p1 p2 p3 f h s p = some r from H)
      unfold Yp at H
      refine aQ ?_
      refine aQ ?_
      refine aR ?_
      refine iR 3 3 [(34, (.int .i64 p)), (35, (.int .i64 (IntKind.wrap .i64 ((if (IntKind.wrap .i64 (((List.length p1 : Nat) : Int) + 1)) < f then (IntKind.wrap .i64 (((List.length p1 : Nat) : Int) + 1)) else f) - 1)))), (36, (.bool (decide (p < (IntKind.wrap .i64 ((if (IntKind.wrap .i64 (((List.length p1 : Nat) : Int) + 1)) < f then (IntKind.wrap .i64 (((List.length p1 : Nat) : Int) + 1)) else f) - 1))))))] ?_
      refine iF ?_
      refine Z3 K (o := (.tmp 36)) K (b := (decide (p < (IntKind.wrap .i64 ((if (IntKind.wrap .i64 (((List.length p1 : Nat) : Int) + 1)) < f then (IntKind.wrap .i64 (((List.length p1 : Nat) : Int) + 1)) else f) - 1))))) K (fun b8 => ?_) (fun b8 => ?_)
      ·have H := ct H b8
       refine At.skip K ?_
       refine Yz K (id := 1) K ?_
       refine aQ ?_
       refine aR ?_
       refine iR 2 2 [(37, (.string ⟨List.toArray h⟩)), (38, (.string ⟨List.toArray p2⟩))] ?_
       obtain ⟨a1, e5, H⟩ := Qd H
       refine iS 3 ?_
       refine cF 156 #[(.tmp 37), (.tmp 38)] #[9, 9] 39 Tryz.call156 (G4  h p2 e4  a1 e5) ?_
       rintro e g7 ⟨rfl, c5⟩
       refine ⟨_, rfl, ?_⟩
       have b9 := SP.call c4 c5
       clear c5
       refine iR 1 4 [(11, (.int .i64 a1))] ?_
       refine iF ?_
       refine aQ ?_
       refine aQ ?_
       refine aR ?_
       refine iR 2 2 [(40, (.int .i64 a1)), (41, (.bool (decide (a1 < 0))))] ?_
       refine iF ?_
       refine Z3 K (o := (.tmp 41)) K (b := (decide (a1 < 0))) K (fun c0 => ?_) (fun c0 => ?_)
       ·have H := ct H c0
        refine At.exit K (id := 0) K ?_
        exact ⟨h, s, p, u, a0, ⟨K, K, K, trivial⟩, SP.sel b9 [0] rfl rfl, H⟩
       ·have H := cf H c0
        refine At.skip K ?_
        refine aQ ?_
        refine aR ?_
        refine iR 6 6 [(42, (.slice u (List.length s) a0)), (43, (.int .i64 p)), (44, (.string ⟨List.toArray h⟩)), (45, (.int .i64 a1)), (46, (.int .i64 p3)), (47, (.int .i64 (IntKind.wrap .i64 (a1 + p3))))] ?_
        obtain ⟨e6, e7, e8, H⟩ := Nn H
        obtain ⟨c7, hyl303⟩ : ∃ y, (List.drop (Int.toNat 0) (List.take (Int.toNat (IntKind.wrap .i64 (a1 + p3))) h)) = y := ⟨_, rfl⟩
        rw [hyl303] at H
        refine iS 7 ?_
        refine Yt (a := h) (T := 9) (x := (.tmp 44)) (lo := none) (hi := (some (.tmp 47))) (i := 0) (j := (IntKind.wrap .i64 (a1 + p3))) (d := (some 48)) (k := 6) K rfl K K rfl ⟨.i64, K⟩ e6 e7 e8 ?_
        rw [hyl303]
        obtain ⟨g8, c8, c9, g9, H⟩ := Vl H
        refine iS 8 ?_
        refine Qn (e := Qm) (l := s) (A := u) (c := a0) (T := 79) (E := 9) (x := (.tmp 42)) (ix := (.tmp 43)) (ki := .i64) (iz := p) (d := (some 49)) (k := 7) K rfl K K K K (Vd (SP.get b9 (i := 0) rfl)) c8 c9 ?_
        intro e9 f0 f1 h1 hc310
        obtain ⟨a9, hyl313, H⟩ := V9 H
        have hnl313 : List.length a9 = List.length s := by rw [← hyl313, List.length_set]
        refine iS 9 ?_
        refine Y4 (e := Qm) (t := 9) (E := 9) (x := (.tmp 49)) (y := (.tmp 48)) (A := u) (c := a0) (l := s) (iz := p) (b := e9) (off := f0) (i := 0) (v := (.string ⟨List.toArray c7⟩)) (x' := c7) (d := none) (k := 8) K rfl K K b9 rfl f1 rfl c9 c8 rfl K ?_
        rw [hyl313]
        intro h2 f2
        refine In.known [(9, (.slice u (List.length a9) a0)), (42, (.slice u (List.length a9) a0))] ⟨(by rw [hnl313]; kernel_rfl), (by rw [hnl313]; kernel_rfl), trivial⟩ ?_
        refine iF ?_
        refine aQ ?_
        refine aR ?_
        refine iR 5 5 [(50, (.string ⟨List.toArray h⟩)), (51, (.int .i64 a1)), (52, (.string ⟨List.toArray p2⟩)), (53, (.int .i64 ((List.length p2 : Nat) : Int))), (54, (.int .i64 (IntKind.wrap .i64 (a1 + ((List.length p2 : Nat) : Int)))))] ?_
        obtain ⟨f3, f5, f6, H⟩ := Nn H
        obtain ⟨d0, hyl320⟩ : ∃ y, (List.drop (Int.toNat (IntKind.wrap .i64 (a1 + ((List.length p2 : Nat) : Int)))) (List.take (Int.toNat ((List.length h : Nat) : Int)) h)) = y := ⟨_, rfl⟩
        rw [hyl320] at H
        refine iS 6 ?_
        refine Yt (a := h) (T := 9) (x := (.tmp 50)) (lo := (some (.tmp 54))) (hi := none) (i := (IntKind.wrap .i64 (a1 + ((List.length p2 : Nat) : Int)))) (j := ((List.length h : Nat) : Int)) (d := (some 55)) (k := 5) K rfl K K ⟨.i64, K⟩ rfl f3 f5 f6 ?_
        rw [hyl320]
        refine iR 1 7 [(0, (.string ⟨List.toArray d0⟩))] ?_
        refine iF ?_
        refine aR ?_
        refine iR 3 3 [(56, (.int .i64 p)), (57, (.int .i64 (IntKind.wrap .i64 (p + 1)))), (10, (.int .i64 (IntKind.wrap .i64 (p + 1))))] ?_
        refine iF ?_
        exact ⟨d0, a9, (IntKind.wrap .i64 (p + 1)), u, a0, ⟨K, K, K, K, K, K, trivial⟩, SP.sel f2 [0] rfl rfl, H⟩
      ·have H := cf H b8
       refine At.exit K (id := 0) K ?_
       exact ⟨h, s, p, u, a0, ⟨K, K, K, trivial⟩, SP.sel c4 [0] rfl rfl, H⟩
     ·exact ⟨p1, a8, 0, (some ⟨b7, 0, none⟩), (Int.toNat (if (IntKind.wrap .i64 (((List.length p1 : Nat) : Int) + 1)) < f then (IntKind.wrap .i64 (((List.length p1 : Nat) : Int) + 1)) else f)), ⟨K, K, K, K, K, K, trivial⟩, SP.sel e3 [0] rfl rfl, H⟩
    ·rintro ρ h3 ⟨a4, a3, a2, q, g, hk, d1, H⟩
     unfold Xn at H
     first | refine At.known [(0, (.string ⟨List.toArray a4⟩)), (9, (.slice q (List.length a3) g)), (10, (.int .i64 a2))] hk ?_ | rw [← Q0 (l := [(0, (.string ⟨List.toArray a4⟩)), (9, (.slice q (List.length a3) g)), (10, (.int .i64 a2))]) hk]
     refine aQ ?_
     refine aR ?_
     refine iR 3 3 [(58, (.slice q (List.length a3) g)), (59, (.int .i64 a2)), (60, (.string ⟨List.toArray a4⟩))] ?_
     obtain ⟨h4, d2, d3, h5, H⟩ := Vl H
     refine iS 4 ?_
     refine Qn (e := Qm) (l := a3) (A := q) (c := g) (T := 79) (E := 9) (x := (.tmp 58)) (ix := (.tmp 59)) (ki := .i64) (iz := a2) (d := (some 61)) (k := 3) K rfl K K K K (Vd (SP.get d1 (i := 0) rfl)) d2 d3 ?_
     intro f7 f8 f9 h6 hc179
     obtain ⟨a5, hyl182, H⟩ := V9 H
     have hnl182 : List.length a5 = List.length a3 := by rw [← hyl182, List.length_set]
     refine iS 5 ?_
     refine Y4 (e := Qm) (t := 9) (E := 9) (x := (.tmp 61)) (y := (.tmp 60)) (A := q) (c := g) (l := a3) (iz := a2) (b := f7) (off := f8) (i := 0) (v := (.string ⟨List.toArray a4⟩)) (x' := a4) (d := none) (k := 4) K rfl K K d1 rfl f9 rfl d3 d2 rfl K ?_
     rw [hyl182]
     intro g0 d4
     refine In.known [(9, (.slice q (List.length a5) g)), (58, (.slice q (List.length a5) g))] ⟨(by rw [hnl182]; kernel_rfl), (by rw [hnl182]; kernel_rfl), trivial⟩ ?_
     refine iF ?_
     refine aQ ?_
     refine aR ?_
     refine iR 3 3 [(62, (.slice q (List.length a5) g)), (63, (.int .i64 a2)), (64, (.int .i64 (IntKind.wrap .i64 (a2 + 1))))] ?_
     obtain ⟨g1, d5, d6, H⟩ := Nn H
     obtain ⟨b0, hyl189⟩ : ∃ y, (List.drop (Int.toNat 0) (List.take (Int.toNat (IntKind.wrap .i64 (a2 + 1))) a5)) = y := ⟨_, rfl⟩
     rw [hyl189] at H
     refine iS 4 ?_
     refine Es (e := Qm) (l := a5) (m := b0) (A := q) (c := g) (T := 79) (E := 9) (x := (.tmp 62)) (lo := none) (hi := (some (.tmp 64))) (i := 0) (j := (IntKind.wrap .i64 (a2 + 1))) (d := (some 65)) (k := 3) K rfl K K K rfl ⟨.i64, K⟩ (RdX.le (Vd (SP.get d4 (i := 0) rfl))) g1 d5 d6 hyl189 ?_
     refine iR 1 5 [(8, (.slice (F9 Qm.sz g (Int.toNat 0) q) (List.length b0) (g - Int.toNat 0)))] ?_
     refine iF ?_
     refine At.ret K ?_
     have g2 : SP [] w0 g0 [Q3 9 Qm (F9 Qm.sz g (Int.toNat 0) q) (g - Int.toNat 0) b0] := SP.cutrow d4 (i := 0) rfl d5 d6 hyl189
     refine ⟨(.slice (F9 Qm.sz g (Int.toNat 0) q) (List.length b0) (g - Int.toNat 0)), K, ?_⟩
     obtain rfl := Qg H
     exact ⟨(F9 Qm.sz g (Int.toNat 0) q), (g - Int.toNat 0), rfl, SP.sel g2 [0] rfl rfl⟩
def Us (p1 : (List UInt8)) (p2 : (List UInt8)) : Option ((List (List UInt8))) :=
  ((Jn p1 p2 0 (-1)).bind fun z5 => (some (z5)))
set_option maxHeartbeats 40000000 in
theorem G5  (p1 : (List UInt8)) (p2 : (List UInt8)) (w0 : World)  (r : ((List (List UInt8)))) (H : Us p1 p2 = some r) :
  Calls Tryz.prog 67 #[(.string ⟨List.toArray p1⟩), (.string ⟨List.toArray p2⟩)] w0 (fun e w' => ∃ (A3 : Option Addr) (c4 : Nat), e = .returned (.slice A3 (List.length r) c4) ∧ SP [] w0 w' [Q3 9 Qm A3 c4 r]) := by
 unfold Us at H
 refine Qx (n := 8) Tryz.func67 K K K ?_
 have c := Qz [] w0
 refine aQ ?_
 refine aR ?_
 refine iR 1 1 [(4, (.slice none (List.length ([] : List (List UInt8))) 0))] ?_
 refine iF ?_
 refine aQ ?_
 refine aR ?_
 refine iR 2 2 [(5, (.string ⟨List.toArray p1⟩)), (6, (.string ⟨List.toArray p2⟩))] ?_
 obtain ⟨z5, d, H⟩ := Qd H
 refine iS 3 ?_
 refine cF 111 #[(.tmp 5), (.tmp 6), (.const (.int .i64 (0))), (.const (.int .i64 (-1)))] #[9, 9, 3, 3] 7 Tryz.call111 (Nv  p1 p2 0 (-1) w0  z5 d) ?_
 rintro e w7 ⟨A9, a, rfl, b⟩
 refine ⟨_, rfl, ?_⟩
 have f := SP.call c b
 clear b
 refine iR 1 4 [(4, (.slice A9 (List.length z5) a))] ?_
 refine iF ?_
 refine At.ret K ?_
 refine ⟨(.slice A9 (List.length z5) a), K, ?_⟩
 obtain rfl := Qg H
 exact ⟨A9, a, rfl, SP.sel f [0] rfl rfl⟩
def Vv (v8 : Bool) : Option (Bool) :=
  (some (v8))
def Zk (p1 : (List UInt8)) (p2 : (List UInt8)) : Option (Bool) :=
  (cond (decide (((List.length p1 : Nat) : Int) ≥ ((List.length p2 : Nat) : Int))) ((sub p1 (IntKind.wrap .i64 (((List.length p1 : Nat) : Int) - ((List.length p2 : Nat) : Int))) ((List.length p1 : Nat) : Int)).bind fun a => (Vv (a == p2))) (Vv false))
set_option maxHeartbeats 40000000 in
theorem Y0  (p1 : (List UInt8)) (p2 : (List UInt8)) (w0 : World)  (r : (Bool)) (H : Zk p1 p2 = some r) :
  Calls Tryz.prog 163 #[(.string ⟨List.toArray p1⟩), (.string ⟨List.toArray p2⟩)] w0 (fun e w' => e = .returned (.bool r) ∧ SP [] w0 w' []) := by
 unfold Zk at H
 refine Qx (n := 21) Tryz.func163 K K K ?_
 have g := Qz [] w0
 refine aQ ?_
 refine aR ?_
 refine iR 1 1 [(4, (.bool false))] ?_
 refine iF ?_
 refine aQ ?_
 refine At.join (fun ρ w => ∃ (v8 : Bool), V8 ρ [(4, (.bool v8))] ∧ SP [] w0 w [] ∧ Vv v8 = some r) ?_ ?_
 ·refine aR ?_
  refine iR 6 6 [(5, (.string ⟨List.toArray p1⟩)), (6, (.int .i64 ((List.length p1 : Nat) : Int))), (7, (.string ⟨List.toArray p2⟩)), (8, (.int .i64 ((List.length p2 : Nat) : Int))), (9, (.bool (decide (((List.length p1 : Nat) : Int) ≥ ((List.length p2 : Nat) : Int))))), (10, (.bool (decide (((List.length p1 : Nat) : Int) ≥ ((List.length p2 : Nat) : Int)))))] ?_
  refine In.guard (t := 10) (b := (decide (((List.length p1 : Nat) : Int) ≥ ((List.length p2 : Nat) : Int)))) K (fun f => ?_) (fun f => ?_)
  ·have H := ct H f
   refine iR 6 12 [(11, (.string ⟨List.toArray p1⟩)), (12, (.string ⟨List.toArray p1⟩)), (13, (.int .i64 ((List.length p1 : Nat) : Int))), (14, (.string ⟨List.toArray p2⟩)), (15, (.int .i64 ((List.length p2 : Nat) : Int))), (16, (.int .i64 (IntKind.wrap .i64 (((List.length p1 : Nat) : Int) - ((List.length p2 : Nat) : Int)))))] ?_
   obtain ⟨h, m, o, H⟩ := Nn H
   obtain ⟨c, hyl15⟩ : ∃ y, (List.drop (Int.toNat (IntKind.wrap .i64 (((List.length p1 : Nat) : Int) - ((List.length p2 : Nat) : Int)))) (List.take (Int.toNat ((List.length p1 : Nat) : Int)) p1)) = y := ⟨_, rfl⟩
   rw [hyl15] at H
   refine iS 13 ?_
   refine Yt (a := p1) (T := 9) (x := (.tmp 11)) (lo := (some (.tmp 16))) (hi := none) (i := (IntKind.wrap .i64 (((List.length p1 : Nat) : Int) - ((List.length p2 : Nat) : Int)))) (j := ((List.length p1 : Nat) : Int)) (d := (some 17)) (k := 12) K rfl K K ⟨.i64, K⟩ rfl h m o ?_
   rw [hyl15]
   refine iR 1 14 [(18, (.string ⟨List.toArray p2⟩))] ?_
   refine iS 15 ?_
   refine Xd (op := .eql) (T := 9) (T' := 9) (x := (.tmp 17)) (y := (.tmp 18)) (a := c) (b := p2) (r := (.bool (c == p2))) (d := (some 19)) (k := 14) K rfl K K rfl ?_
   refine iR 2 17 [(20, (.bool (c == p2))), (4, (.bool (c == p2)))] ?_
   refine iF ?_
   exact ⟨(c == p2), ⟨K, trivial⟩, SP.sel g [] rfl rfl, H⟩
  ·have H := cf H f
   refine iR 11 17 [(11, undef), (12, undef), (13, undef), (14, undef), (15, undef), (16, undef), (17, undef), (18, undef), (19, undef), (20, (.bool false)), (4, (.bool false))] ?_
   refine iF ?_
   exact ⟨false, ⟨K, trivial⟩, SP.sel g [] rfl rfl, H⟩
 ·rintro ρ w9 ⟨v8, hk, p, H⟩
  unfold Vv at H
  first | refine At.known [(4, (.bool v8))] hk ?_ | rw [← Q0 (l := [(4, (.bool v8))]) hk]
  refine At.ret K ?_
  refine ⟨(.bool v8), K, ?_⟩
  obtain rfl := Qg H
  exact ⟨rfl, SP.sel p [] rfl rfl⟩
def Zl (p1 : (List UInt8)) (p2 : (List UInt8)) : Option ((List UInt8) × Bool) :=
  ((Zk p1 p2).bind fun z3 => (cond (!z3) (some (p1, false)) ((sub p1 0 (IntKind.wrap .i64 (((List.length p1 : Nat) : Int) - ((List.length p2 : Nat) : Int)))).bind fun a => (some (a, true)))))
set_option maxHeartbeats 40000000 in
theorem Y1  (p1 : (List UInt8)) (p2 : (List UInt8)) (w0 : World)  (r : ((List UInt8) × Bool)) (H : Zl p1 p2 = some r) :
  Calls Tryz.prog 141 #[(.string ⟨List.toArray p1⟩), (.string ⟨List.toArray p2⟩)] w0 (fun e w' => e = .returned (.tuple #[(.string ⟨List.toArray r.1⟩), (.bool r.2)]) ∧ SP [] w0 w' []) := by
 unfold Zl at H
 refine Qx (n := 18) Tryz.func141 K K K ?_
 have l := Qz [] w0
 refine aQ ?_
 refine aR ?_
 refine iR 2 2 [(4, (.string ⟨List.toArray ([] : List UInt8)⟩)), (5, (.bool false))] ?_
 refine iF ?_
 refine aQ ?_
 refine aQ ?_
 refine aR ?_
 refine iR 2 2 [(6, (.string ⟨List.toArray p1⟩)), (7, (.string ⟨List.toArray p2⟩))] ?_
 obtain ⟨z3, m, H⟩ := Qd H
 refine iS 3 ?_
 refine cF 163 #[(.tmp 6), (.tmp 7)] #[9, 9] 8 Tryz.call163 (Y0  p1 p2 w0  z3 m) ?_
 rintro e w5 ⟨rfl, f⟩
 refine ⟨_, rfl, ?_⟩
 have g := SP.call l f
 clear f
 refine iR 1 4 [(9, (.bool (!z3)))] ?_
 refine iF ?_
 refine Z3 K (o := (.tmp 9)) K (b := (!z3)) K (fun c => ?_) (fun c => ?_)
 ·have H := ct H c
  refine aQ ?_
  refine aR ?_
  refine iR 3 3 [(10, (.string ⟨List.toArray p1⟩)), (4, (.string ⟨List.toArray p1⟩)), (5, (.bool false))] ?_
  refine iF ?_
  refine At.ret K ?_
  refine ⟨(.tuple #[(.string ⟨List.toArray p1⟩), (.bool false)]), K, ?_⟩
  obtain rfl := Qg H
  exact ⟨rfl, SP.sel g [] rfl rfl⟩
 ·have H := cf H c
  refine At.skip K ?_
  refine aQ ?_
  refine aR ?_
  refine iR 6 6 [(11, (.string ⟨List.toArray p1⟩)), (12, (.string ⟨List.toArray p1⟩)), (13, (.int .i64 ((List.length p1 : Nat) : Int))), (14, (.string ⟨List.toArray p2⟩)), (15, (.int .i64 ((List.length p2 : Nat) : Int))), (16, (.int .i64 (IntKind.wrap .i64 (((List.length p1 : Nat) : Int) - ((List.length p2 : Nat) : Int)))))] ?_
  obtain ⟨p, q, s, H⟩ := Nn H
  obtain ⟨h, hyl13⟩ : ∃ y, (List.drop (Int.toNat 0) (List.take (Int.toNat (IntKind.wrap .i64 (((List.length p1 : Nat) : Int) - ((List.length p2 : Nat) : Int)))) p1)) = y := ⟨_, rfl⟩
  rw [hyl13] at H
  refine iS 7 ?_
  refine Yt (a := p1) (T := 9) (x := (.tmp 11)) (lo := none) (hi := (some (.tmp 16))) (i := 0) (j := (IntKind.wrap .i64 (((List.length p1 : Nat) : Int) - ((List.length p2 : Nat) : Int)))) (d := (some 17)) (k := 6) K rfl K K rfl ⟨.i64, K⟩ p q s ?_
  rw [hyl13]
  refine iR 2 9 [(4, (.string ⟨List.toArray h⟩)), (5, (.bool true))] ?_
  refine iF ?_
  refine At.ret K ?_
  refine ⟨(.tuple #[(.string ⟨List.toArray h⟩), (.bool true)]), K, ?_⟩
  obtain rfl := Qg H
  exact ⟨rfl, SP.sel g [] rfl rfl⟩
def Jd (p1 : (List UInt8)) (p2 : (List UInt8)) : Option ((List UInt8) × Bool) :=
  ((Zl p1 p2).bind fun z3 => (some (z3.1, z3.2)))
set_option maxHeartbeats 40000000 in
theorem Nj  (p1 : (List UInt8)) (p2 : (List UInt8)) (w0 : World)  (r : ((List UInt8) × Bool)) (H : Jd p1 p2 = some r) :
  Calls Tryz.prog 90 #[(.string ⟨List.toArray p1⟩), (.string ⟨List.toArray p2⟩)] w0 (fun e w' => e = .returned (.tuple #[(.string ⟨List.toArray r.1⟩), (.bool r.2)]) ∧ SP [] w0 w' []) := by
 unfold Jd at H
 refine Qx (n := 11) Tryz.func90 K K K ?_
 have b := Qz [] w0
 refine aQ ?_
 refine aR ?_
 refine iR 2 2 [(4, (.string ⟨List.toArray ([] : List UInt8)⟩)), (5, (.bool false))] ?_
 refine iF ?_
 refine aQ ?_
 refine aR ?_
 refine iR 2 2 [(6, (.string ⟨List.toArray p1⟩)), (7, (.string ⟨List.toArray p2⟩))] ?_
 obtain ⟨z3, c, H⟩ := Qd H
 refine iS 3 ?_
 refine cF 141 #[(.tmp 6), (.tmp 7)] #[9, 9] 8 Tryz.call141 (Y1  p1 p2 w0  z3 c) ?_
 rintro e w5 ⟨rfl, a⟩
 refine ⟨_, rfl, ?_⟩
 have d := SP.call b a
 clear a
 refine iR 4 7 [(9, (.string ⟨List.toArray z3.1⟩)), (10, (.bool z3.2)), (4, (.string ⟨List.toArray z3.1⟩)), (5, (.bool z3.2))] ?_
 refine iF ?_
 refine At.ret K ?_
 refine ⟨(.tuple #[(.string ⟨List.toArray z3.1⟩), (.bool z3.2)]), K, ?_⟩
 obtain rfl := Qg H
 exact ⟨rfl, SP.sel d [] rfl rfl⟩
end Go.Proofs.YtoflbpmbkmephaaGreatDoor
namespace Go.Proofs.YtoflbpmbkmephaaGreatDoor
open Go.RowKit
def Xc (p1 : (List UInt8)) (p2 : (List UInt8)) : Option ((List UInt8) × (List UInt8) × Bool) :=
  ((Zc p1 p2).bind fun z3 => (cond (decide (z3 ≥ 0)) ((sub p1 0 z3).bind fun a => ((sub p1 (IntKind.wrap .i64 (z3 + ((List.length p2 : Nat) : Int))) ((List.length p1 : Nat) : Int)).bind fun b => (some (a, b, true)))) (some (p1, ([] : List UInt8), false))))
set_option maxHeartbeats 40000000 in
theorem J5  (p1 : (List UInt8)) (p2 : (List UInt8)) (w0 : World)  (r : ((List UInt8) × (List UInt8) × Bool)) (H : Xc p1 p2 = some r) :
  Calls Tryz.prog 160 #[(.string ⟨List.toArray p1⟩), (.string ⟨List.toArray p2⟩)] w0 (fun e w' => e = .returned (.tuple #[(.string ⟨List.toArray r.1⟩), (.string ⟨List.toArray r.2.1⟩), (.bool r.2.2)]) ∧ SP [] w0 w' []) := by
 unfold Xc at H
 refine Qx (n := 23) Tryz.func160 K K K ?_
 have s := Qz [] w0
 refine aQ ?_
 refine aR ?_
 refine iR 3 3 [(4, (.string ⟨List.toArray ([] : List UInt8)⟩)), (5, (.string ⟨List.toArray ([] : List UInt8)⟩)), (6, (.bool false))] ?_
 refine iF ?_
 refine aQ ?_
 refine aQ ?_
 refine aR ?_
 refine iR 2 2 [(8, (.string ⟨List.toArray p1⟩)), (9, (.string ⟨List.toArray p2⟩))] ?_
 obtain ⟨z3, t, H⟩ := Qd H
 refine iS 3 ?_
 refine cF 182 #[(.tmp 8), (.tmp 9)] #[9, 9] 10 Tryz.call182 (Xm  p1 p2 w0  z3 t) ?_
 rintro e w5 ⟨rfl, m⟩
 refine ⟨_, rfl, ?_⟩
 have p := SP.call s m
 clear m
 refine iR 1 4 [(7, (.int .i64 z3))] ?_
 refine iF ?_
 refine aQ ?_
 refine aR ?_
 refine iR 2 2 [(11, (.int .i64 z3)), (12, (.bool (decide (z3 ≥ 0))))] ?_
 refine iF ?_
 refine Z3 K (o := (.tmp 12)) K (b := (decide (z3 ≥ 0))) K (fun h => ?_) (fun h => ?_)
 ·have H := ct H h
  refine aQ ?_
  obtain ⟨u, v, w, H⟩ := Nn H
  obtain ⟨c, hyl13⟩ : ∃ y, (List.drop (Int.toNat 0) (List.take (Int.toNat z3) p1)) = y := ⟨_, rfl⟩
  rw [hyl13] at H
  obtain ⟨z, a0, a1, H⟩ := Nn H
  obtain ⟨f, hyl17⟩ : ∃ y, (List.drop (Int.toNat (IntKind.wrap .i64 (z3 + ((List.length p2 : Nat) : Int)))) (List.take (Int.toNat ((List.length p1 : Nat) : Int)) p1)) = y := ⟨_, rfl⟩
  rw [hyl17] at H
  refine aG [GEq (.string ⟨List.toArray p1⟩), GEq (.int .i64 z3), GEq (.string ⟨List.toArray c⟩), GEq (.string ⟨List.toArray p1⟩), GEq (.int .i64 z3), GEq (.string ⟨List.toArray p2⟩), GEq (.int .i64 ((List.length p2 : Nat) : Int)), GEq (.int .i64 (IntKind.wrap .i64 (z3 + ((List.length p2 : Nat) : Int)))), GEq (.string ⟨List.toArray f⟩), GEq (.string ⟨List.toArray c⟩), GEq (.string ⟨List.toArray f⟩), GEq (.bool true)] [] (tG [] w0 [] [([], [])]) 12 0 ⟨trivial, SP.drew p⟩ ?_ ?_
  iterate 12 refine And.intro ?_ ?_
  exact trivial
  ·exact oV (hC (hS 0 (.string ⟨List.toArray p1⟩)) (h0)) (.string ⟨List.toArray p1⟩)
  ·exact oV (hC (hS 7 (.int .i64 z3)) (h0)) (.int .i64 z3)
  ·refine oL 0 ?_
   ·rintro ρ' w' hs g ⟨a3, a4⟩
    refine kM (kc (kA g 0 13) (kc (kA g 1 14) k0)) fun l => ?_
    refine Yt (a := p1) (T := 9) (x := (.tmp 13)) (lo := none) (hi := (some (.tmp 14))) (i := 0) (j := z3) (d := (some 15)) (k := 2) K rfl K K rfl ⟨.i64, K⟩ u v w ?_
    rw [hyl13]
    exact eK l
  ·exact oV (hC (hS 0 (.string ⟨List.toArray p1⟩)) (h0)) (.string ⟨List.toArray p1⟩)
  ·exact oV (hC (hS 7 (.int .i64 z3)) (h0)) (.int .i64 z3)
  ·exact oV (hC (hS 1 (.string ⟨List.toArray p2⟩)) (h0)) (.string ⟨List.toArray p2⟩)
  ·exact oV (hC (hA 5 18) (h0)) (.int .i64 ((List.length p2 : Nat) : Int))
  ·exact oV (hC (hA 4 17) (hC (hA 6 19) (h0))) (.int .i64 (IntKind.wrap .i64 (z3 + ((List.length p2 : Nat) : Int))))
  ·refine oL 0 ?_
   ·rintro ρ' w' hs g ⟨a5, a6⟩
    refine kM (kc (kA g 3 16) (kc (kA g 7 20) k0)) fun l => ?_
    refine Yt (a := p1) (T := 9) (x := (.tmp 16)) (lo := (some (.tmp 20))) (hi := none) (i := (IntKind.wrap .i64 (z3 + ((List.length p2 : Nat) : Int)))) (j := ((List.length p1 : Nat) : Int)) (d := (some 21)) (k := 8) K rfl K K ⟨.i64, K⟩ rfl z a0 a1 ?_
    rw [hyl17]
    exact eK l
  ·exact oV (hC (hA 2 15) (h0)) (.string ⟨List.toArray c⟩)
  ·exact oV (hC (hA 8 21) (h0)) (.string ⟨List.toArray f⟩)
  ·exact Owe.run K [] trivial (.bool true) (fun _ _ => K) rfl
  ·rintro ρ' w' hs hf ⟨a7, q⟩
   refine V1 [(4, (.string ⟨List.toArray c⟩)), (5, (.string ⟨List.toArray f⟩)), (6, (.bool true))] ⟨hf 9 4 K, hf 10 5 K, hf 11 6 K, trivial⟩ ?_
   obtain ⟨a8, a2⟩ : ∃ x, w' = x := ⟨_, rfl⟩
   rw [a2] at q ⊢
   refine At.ret K ?_
   refine ⟨(.tuple #[(.string ⟨List.toArray c⟩), (.string ⟨List.toArray f⟩), (.bool true)]), K, ?_⟩
   obtain rfl := Qg H
   exact ⟨rfl, SP.sel q [] rfl rfl⟩
 ·have H := cf H h
  refine At.skip K ?_
  refine aQ ?_
  refine aR ?_
  refine iR 4 4 [(22, (.string ⟨List.toArray p1⟩)), (4, (.string ⟨List.toArray p1⟩)), (5, (.string ⟨List.toArray ([] : List UInt8)⟩)), (6, (.bool false))] ?_
  refine iF ?_
  refine At.ret K ?_
  refine ⟨(.tuple #[(.string ⟨List.toArray p1⟩), (.string ⟨List.toArray ([] : List UInt8)⟩), (.bool false)]), K, ?_⟩
  obtain rfl := Qg H
  exact ⟨rfl, SP.sel p [] rfl rfl⟩
def Nw (p1 : (List UInt8)) (p2 : (List UInt8)) : Option ((List UInt8) × (List UInt8) × Bool) :=
  ((Xc p1 p2).bind fun z3 => (some (z3.1, z3.2.1, z3.2.2)))
set_option maxHeartbeats 40000000 in
theorem R5  (p1 : (List UInt8)) (p2 : (List UInt8)) (w0 : World)  (r : ((List UInt8) × (List UInt8) × Bool)) (H : Nw p1 p2 = some r) :
  Calls Tryz.prog 137 #[(.string ⟨List.toArray p1⟩), (.string ⟨List.toArray p2⟩)] w0 (fun e w' => e = .returned (.tuple #[(.string ⟨List.toArray r.1⟩), (.string ⟨List.toArray r.2.1⟩), (.bool r.2.2)]) ∧ SP [] w0 w' []) := by
 unfold Nw at H
 refine Qx (n := 13) Tryz.func137 K K K ?_
 have b := Qz [] w0
 refine aQ ?_
 refine aR ?_
 refine iR 3 3 [(4, (.string ⟨List.toArray ([] : List UInt8)⟩)), (5, (.string ⟨List.toArray ([] : List UInt8)⟩)), (6, (.bool false))] ?_
 refine iF ?_
 refine aQ ?_
 refine aR ?_
 refine iR 2 2 [(7, (.string ⟨List.toArray p1⟩)), (8, (.string ⟨List.toArray p2⟩))] ?_
 obtain ⟨z3, c, H⟩ := Qd H
 refine iS 3 ?_
 refine cF 160 #[(.tmp 7), (.tmp 8)] #[9, 9] 9 Tryz.call160 (J5  p1 p2 w0  z3 c) ?_
 rintro e w5 ⟨rfl, a⟩
 refine ⟨_, rfl, ?_⟩
 have d := SP.call b a
 clear a
 refine iR 6 9 [(10, (.string ⟨List.toArray z3.1⟩)), (11, (.string ⟨List.toArray z3.2.1⟩)), (12, (.bool z3.2.2)), (4, (.string ⟨List.toArray z3.1⟩)), (5, (.string ⟨List.toArray z3.2.1⟩)), (6, (.bool z3.2.2))] ?_
 refine iF ?_
 refine At.ret K ?_
 refine ⟨(.tuple #[(.string ⟨List.toArray z3.1⟩), (.string ⟨List.toArray z3.2.1⟩), (.bool z3.2.2)]), K, ?_⟩
 obtain rfl := Qg H
 exact ⟨rfl, SP.sel d [] rfl rfl⟩
def Z9 (a : (Int × Bool)) (b : (Int × Bool)) (c : Bool) : Option (Int × Int × Bool) :=
  (cond c (some (0, 0, false)) (some (a.1, b.1, true)))
def Gp (p1 : (List UInt8)) : Option (Int × Int × Bool) :=
  ((Nw p1 ([47] : List UInt8)).bind fun z6 => ((Nu z6.1).bind fun b => ((J3 z6.2.1).bind fun a => (cond (!z6.2.2) (Z9 b a true) (cond (!b.2) (Z9 b a true) (cond (!a.2) (Z9 b a true) (cond (decide (a.1 > 32)) (Z9 b a true) ((Ya b.1 a.1).bind fun c => (Z9 b a (!c))))))))))
set_option maxHeartbeats 40000000 in
theorem Df  (p1 : (List UInt8)) (w0 : World) (hL : Ub w0)  (r : (Int × Int × Bool)) (H : Gp p1 = some r) :
  Calls Tryz.prog 165 #[(.string ⟨List.toArray p1⟩)] w0 (fun e w' => e = .returned (.tuple #[(.agg #[(.int .u32 r.1), (.int .i64 r.2.1)]), (.bool r.2.2)]) ∧ SP [] w0 w' []) := by
 unfold Gp at H
 refine Qx (n := 52) Tryz.func165 K K K ?_
 have b0 := Qz [] w0
 refine aQ ?_
 refine aR ?_
 refine iS 1 ?_
 refine Qi.alloc (t := 102) (z := (.agg #[(.int .u32 0), (.int .i64 0)])) (d := (some 2)) (k := 0) K rfl K b0 ?_
 intro g2 w3 b1
 refine iR 1 2 [(3, (.bool false))] ?_
 refine iF ?_
 refine aQ ?_
 refine aR ?_
 refine iR 1 1 [(12, (.string ⟨List.toArray p1⟩))] ?_
 obtain ⟨z6, b2, H⟩ := Qd H
 refine iS 2 ?_
 refine cF 137 #[(.tmp 12), (.const (.string ⟨List.toArray ([47] : List UInt8)⟩))] #[9, 9] 13 Tryz.call137 (R5  p1 ([47] : List UInt8) w3  z6 b2) ?_
 rintro e w8 ⟨rfl, a1⟩
 refine ⟨_, rfl, ?_⟩
 have a2 := SP.call b1 a1
 clear a1
 refine iR 7 9 [(11, (.tuple #[(.string ⟨List.toArray z6.1⟩), (.string ⟨List.toArray z6.2.1⟩), (.bool z6.2.2)])), (14, (.string ⟨List.toArray z6.1⟩)), (15, (.string ⟨List.toArray z6.2.1⟩)), (16, (.bool z6.2.2)), (4, (.string ⟨List.toArray z6.1⟩)), (5, (.string ⟨List.toArray z6.2.1⟩)), (6, (.bool z6.2.2))] ?_
 refine iF ?_
 refine aQ ?_
 refine aR ?_
 refine iR 1 1 [(18, (.string ⟨List.toArray z6.1⟩))] ?_
 obtain ⟨f, b3, H⟩ := Qd H
 refine iS 2 ?_
 refine cF 157 #[(.tmp 18)] #[9] 19 Tryz.call157 (R4  z6.1 w8 (Qv hL (SP.keeps a2)) f b3) ?_
 rintro e b4 ⟨rfl, a3⟩
 refine ⟨_, rfl, ?_⟩
 have a4 := SP.call a2 a3
 clear a3
 refine iR 5 7 [(17, (.tuple #[(.int .u32 f.1), (.bool f.2)])), (20, (.int .u32 f.1)), (21, (.bool f.2)), (7, (.int .u32 f.1)), (8, (.bool f.2))] ?_
 refine iF ?_
 refine aQ ?_
 refine aR ?_
 refine iR 1 1 [(23, (.string ⟨List.toArray z6.2.1⟩))] ?_
 obtain ⟨c, b5, H⟩ := Qd H
 refine iS 2 ?_
 refine cF 135 #[(.tmp 23)] #[9] 24 Tryz.call135 (Xe  z6.2.1 b4 (Qv hL (SP.keeps a4)) c b5) ?_
 rintro e b6 ⟨rfl, a5⟩
 refine ⟨_, rfl, ?_⟩
 have j := SP.call a4 a5
 clear a5
 refine iR 5 7 [(22, (.tuple #[(.int .i64 c.1), (.bool c.2)])), (25, (.int .i64 c.1)), (26, (.bool c.2)), (9, (.int .i64 c.1)), (10, (.bool c.2))] ?_
 refine iF ?_
 refine aQ ?_
 refine aQ ?_
 refine At.join (fun ρ w => ∃ (h : Bool), V8 ρ [(2, (pt g2 0)), (7, (.int .u32 f.1)), (9, (.int .i64 c.1)), (47, (.bool h))] ∧ SP [] w0 w [Qr g2 102 #[(.int .u32 0), (.int .i64 0)]] ∧ Z9 f c h = some r) ?_ ?_
 ·refine aR ?_
  refine iR 3 3 [(27, (.bool z6.2.2)), (28, (.bool (!z6.2.2))), (29, (.bool (!z6.2.2)))] ?_
  refine In.guard (t := 29) (b := (!z6.2.2)) K (fun p => ?_) (fun p => ?_)
  ·have H := ct H p
   refine iR 18 21 [(30, undef), (31, undef), (32, (.bool true)), (33, (.bool true)), (34, undef), (35, undef), (36, (.bool true)), (37, (.bool true)), (38, undef), (39, undef), (40, (.bool true)), (41, (.bool true)), (42, undef), (43, undef), (44, undef), (45, undef), (46, undef), (47, (.bool true))] ?_
   refine iF ?_
   exact ⟨true, ⟨K, K, K, K, trivial⟩, SP.sel j [0] rfl rfl, H⟩
  ·have H := cf H p
   refine iR 4 7 [(30, (.bool f.2)), (31, (.bool (!f.2))), (32, (.bool (!f.2))), (33, (.bool (!f.2)))] ?_
   refine In.guard (t := 33) (b := (!f.2)) K (fun q => ?_) (fun q => ?_)
   ·have H := ct H q
    refine iR 14 21 [(34, undef), (35, undef), (36, (.bool true)), (37, (.bool true)), (38, undef), (39, undef), (40, (.bool true)), (41, (.bool true)), (42, undef), (43, undef), (44, undef), (45, undef), (46, undef), (47, (.bool true))] ?_
    refine iF ?_
    exact ⟨true, ⟨K, K, K, K, trivial⟩, SP.sel j [0] rfl rfl, H⟩
   ·have H := cf H q
    refine iR 4 11 [(34, (.bool c.2)), (35, (.bool (!c.2))), (36, (.bool (!c.2))), (37, (.bool (!c.2)))] ?_
    refine In.guard (t := 37) (b := (!c.2)) K (fun s => ?_) (fun s => ?_)
    ·have H := ct H s
     refine iR 10 21 [(38, undef), (39, undef), (40, (.bool true)), (41, (.bool true)), (42, undef), (43, undef), (44, undef), (45, undef), (46, undef), (47, (.bool true))] ?_
     refine iF ?_
     exact ⟨true, ⟨K, K, K, K, trivial⟩, SP.sel j [0] rfl rfl, H⟩
    ·have H := cf H s
     refine iR 4 15 [(38, (.int .i64 c.1)), (39, (.bool (decide (c.1 > 32)))), (40, (.bool (decide (c.1 > 32)))), (41, (.bool (decide (c.1 > 32))))] ?_
     refine In.guard (t := 41) (b := (decide (c.1 > 32))) K (fun u => ?_) (fun u => ?_)
     ·have H := ct H u
      refine iR 6 21 [(42, undef), (43, undef), (44, undef), (45, undef), (46, undef), (47, (.bool true))] ?_
      refine iF ?_
      exact ⟨true, ⟨K, K, K, K, trivial⟩, SP.sel j [0] rfl rfl, H⟩
     ·have H := cf H u
      refine iR 3 18 [(42, (.int .u32 f.1)), (43, (.int .i64 c.1)), (44, (.agg #[(.int .u32 f.1), (.int .i64 c.1)]))] ?_
      obtain ⟨m, b7, H⟩ := Qd H
      refine iS 19 ?_
      refine cF 108 #[(.tmp 44)] #[102] 45 Tryz.call108 (Um  f.1 c.1 b6  m b7) ?_
      rintro e b9 ⟨rfl, a6⟩
      refine ⟨_, rfl, ?_⟩
      have b8 := SP.call j a6
      clear a6
      refine iR 2 21 [(46, (.bool (!m))), (47, (.bool (!m)))] ?_
      refine iF ?_
      exact ⟨(!m), ⟨K, K, K, K, trivial⟩, SP.sel b8 [0] rfl rfl, H⟩
 ·rintro ρ c0 ⟨h, hk, a7, H⟩
  unfold Z9 at H
  first | refine At.known [(2, (pt g2 0)), (7, (.int .u32 f.1)), (9, (.int .i64 c.1)), (47, (.bool h))] hk ?_ | rw [← Q0 (l := [(2, (pt g2 0)), (7, (.int .u32 f.1)), (9, (.int .i64 c.1)), (47, (.bool h))]) hk]
  refine Z3 K (o := (.tmp 47)) K (b := h) K (fun a0 => ?_) (fun a0 => ?_)
  ·have H := ct H a0
   refine aQ ?_
   refine aR ?_
   refine iR 1 1 [(48, (.agg #[(.int .u32 0), (.int .i64 0)]))] ?_
   refine iS 2 ?_
   refine Qi.store (t := 102) (x := (.tmp 2)) (y := (.tmp 48)) (g := g2) (off := 0) (i := 0) (v := (.agg #[(.int .u32 0), (.int .i64 0)])) (cs' := #[(.int .u32 0), (.int .i64 0)]) (d := none) (k := 1) K rfl K K a7 rfl K ?_
   intro c1 a8
   refine iR 1 3 [(3, (.bool false))] ?_
   refine iF ?_
   refine At.ret K ?_
   refine ⟨(.tuple #[(.agg #[(.int .u32 0), (.int .i64 0)]), (.bool false)]), Fv K (Da (a := 2) (t := 102) (g := g2) (off := 0) K (SP.get a8 (i := 0) rfl) K) (Bz (t := 3) K), ?_⟩
   obtain rfl := Qg H
   exact ⟨rfl, SP.sel a8 [] rfl rfl⟩
  ·have H := cf H a0
   refine At.skip K ?_
   refine aQ ?_
   refine aR ?_
   refine iR 3 3 [(49, (.int .u32 f.1)), (50, (.int .i64 c.1)), (51, (.agg #[(.int .u32 f.1), (.int .i64 c.1)]))] ?_
   refine iS 4 ?_
   refine Qi.store (t := 102) (x := (.tmp 2)) (y := (.tmp 51)) (g := g2) (off := 0) (i := 0) (v := (.agg #[(.int .u32 f.1), (.int .i64 c.1)])) (cs' := #[(.int .u32 f.1), (.int .i64 c.1)]) (d := none) (k := 3) K rfl K K a7 rfl K ?_
   intro c2 a9
   refine iR 1 5 [(3, (.bool true))] ?_
   refine iF ?_
   refine At.ret K ?_
   refine ⟨(.tuple #[(.agg #[(.int .u32 f.1), (.int .i64 c.1)]), (.bool true)]), Fv K (Da (a := 2) (t := 102) (g := g2) (off := 0) K (SP.get a9 (i := 0) rfl) K) (Bz (t := 3) K), ?_⟩
   obtain rfl := Qg H
   exact ⟨rfl, SP.sel a9 [] rfl rfl⟩
end Go.Proofs.YtoflbpmbkmephaaGreatDoor
namespace Go.Proofs.YtoflbpmbkmephaaGreatDoor
open Go.RowKit
def Ut (e : (List UInt8) → Int → Option ((List UInt8))) (p1 : (List UInt8)) (b : (List UInt8)) (a : Int) : Option ((List UInt8)) :=
  (cond (decide (a < ((List.length p1 : Nat) : Int))) ((idx p1 a).bind fun c => ((idx ([48, 49, 50, 51, 52, 53, 54, 55, 56, 57, 97, 98, 99, 100, 101, 102] : List UInt8) (Fu .u8 ((c).toNat : Int) 4)).bind fun f => ((idx ([48, 49, 50, 51, 52, 53, 54, 55, 56, 57, 97, 98, 99, 100, 101, 102] : List UInt8) (bAnd .u8 ((c).toNat : Int) 15)).bind fun g => ((idx b (IntKind.wrap .i64 (2 * a))).bind fun i => ((some (List.set b (Int.toNat (IntKind.wrap .i64 (2 * a))) f)).bind fun d => ((idx d (IntKind.wrap .i64 ((IntKind.wrap .i64 (2 * a)) + 1))).bind fun j => ((some (List.set d (Int.toNat (IntKind.wrap .i64 ((IntKind.wrap .i64 (2 * a)) + 1))) g)).bind fun h => (e h (IntKind.wrap .i64 (a + 1)))))))))) (some (b)))
def Jo (p1 : (List UInt8)) : Nat → (List UInt8) → Int → Option ((List UInt8))
  | 0, _, _ => none
  | f + 1, a, b => Ut  (Jo p1 f) p1 a b
def Gq (p1 : (List UInt8)) : Option ((List UInt8)) :=
  ((chk (decide (0 ≤ (IntKind.wrap .i64 (2 * ((List.length p1 : Nat) : Int))) ∧ (IntKind.wrap .i64 (2 * ((List.length p1 : Nat) : Int))) ≤ 2147483648))).bind fun _ => ((some (List.replicate (Int.toNat (IntKind.wrap .i64 (2 * ((List.length p1 : Nat) : Int)))) ((0 : UInt8) : UInt8))).bind fun l5 => (Jo p1 Yg l5 0)))
set_option maxHeartbeats 40000000 in
theorem Dg (A2 : Option Addr) (c3 : Nat) (p1 : (List UInt8)) (w0 : World) (a7 : RdT eU8 w0 A2 c3 p1) (r : ((List UInt8))) (H : Gq p1 = some r) :
  Calls Tryz.prog 61 #[(.slice A2 (List.length p1) c3)] w0 (fun e w' => e = .returned (.string ⟨List.toArray r⟩) ∧ SP [] w0 w' []) := by
 unfold Gq at H
 refine Qx (n := 35) Tryz.func61 K K K ?_
 have b8 := Qz [] w0
 refine aQ ?_
 refine aR ?_
 refine iR 1 1 [(2, (.string ⟨List.toArray ([] : List UInt8)⟩))] ?_
 refine iF ?_
 refine aQ ?_
 refine aR ?_
 refine iR 3 3 [(6, (.slice A2 (List.length p1) c3)), (7, (.int .i64 ((List.length p1 : Nat) : Int))), (8, (.int .i64 (IntKind.wrap .i64 (2 * ((List.length p1 : Nat) : Int)))))] ?_
 obtain ⟨hl6, H⟩ := U0 H
 obtain ⟨l5, hyl5, H⟩ := V9 H
 refine iS 4 ?_
 refine Bc (e := eU8) (l' := l5) (z := (0 : UInt8)) (v := (.int .u8 0)) (b := 1) (T := 48) (E := 5) (x := (.tmp 8)) (y := (.tmp 8)) (k1 := .i64) (k2 := .i64) (iz := (IntKind.wrap .i64 (2 * ((List.length p1 : Nat) : Int)))) (d := (some 9)) (k := 3) K rfl K K K K K rfl rfl rfl hl6 b8 hyl5 ?_
 intro g7 w8 a8 f0
 have b9 : SP [] w0 w8 [Q3 5 eU8 (some ⟨g7, 0, none⟩) (Int.toNat (IntKind.wrap .i64 (2 * ((List.length p1 : Nat) : Int)))) l5] := a8
 clear a8
 refine iR 1 5 [(3, (.slice (some ⟨g7, 0, none⟩) (List.length l5) (Int.toNat (IntKind.wrap .i64 (2 * ((List.length p1 : Nat) : Int))))))] ?_
 refine iF ?_
 refine aQ ?_
 refine aQ ?_
 refine aR ?_
 refine iR 3 3 [(10, (.slice A2 (List.length p1) c3)), (11, (.int .i64 ((List.length p1 : Nat) : Int))), (12, (.int .i64 0))] ?_
 refine iF ?_
 refine Yz K (id := 0) K ?_
 refine G1 K (fun f1 ρ w => ∃ (m : (List UInt8)) (f : Int) (g : Option Addr) (h : Nat), V8 ρ [(3, (.slice g (List.length m) h)), (10, (.slice A2 (List.length p1) c3)), (11, (.int .i64 ((List.length p1 : Nat) : Int))), (12, (.int .i64 f))] ∧ SP [] w0 w [Q3 5 eU8 g h m] ∧ Jo p1 f1 m f = some r) (by rintro ρ w ⟨m, f, g, h, hk, hs, H⟩; cases H) ?_ Yg ?_
 ·rintro f1 ρ f2 ⟨m, f, g, h, hk, a1, H⟩
  refine At.known [(3, (.slice g (List.length m) h)), (10, (.slice A2 (List.length p1) c3)), (11, (.int .i64 ((List.length p1 : Nat) : Int))), (12, (.int .i64 f))] hk ?_
  replace H := (show Ut (Jo p1 f1) p1 m f = some r from H)
  unfold Ut at H
  refine aQ ?_
  refine aR ?_
  refine iR 1 1 [(13, (.bool (decide (f < ((List.length p1 : Nat) : Int)))))] ?_
  refine iF ?_
  refine aQ ?_
  refine Z3 K (o := (.tmp 13)) K (b := (decide (f < ((List.length p1 : Nat) : Int)))) K (fun a5 => ?_) (fun a5 => ?_)
  ·have H := ct H a5
   refine At.skip K ?_
   refine aQ ?_
   refine Yz K (id := 1) K ?_
   refine aQ ?_
   refine aR ?_
   refine iR 1 1 [(14, (.int .i64 f))] ?_
   obtain ⟨q, a9, b0, c0, H⟩ := Vl H
   refine iS 2 ?_
   refine Qn (e := eU8) (l := p1) (A := A2) (c := c3) (T := 48) (E := 5) (x := (.tmp 10)) (ix := (.tmp 12)) (ki := .i64) (iz := f) (d := (some 15)) (k := 1) K rfl K K K K (RdT.sp a7 a1) a9 b0 ?_
   intro c1 c2 c4 f3 hc321
   refine iS 3 ?_
   refine sC 5 15 c1 (c2 + Int.toNat f * eU8.sz) (.int .u8 ((q).toNat : Int)) 16 (Qw (e := eU8) (Ql (RdT.sp a7 a1) c4 a9 b0) c0 (j := 0) rfl) ?_
   refine iR 2 5 [(4, (.int .i64 f)), (5, (.int .u8 ((q).toNat : Int)))] ?_
   refine iF ?_
   obtain ⟨a4, c5, f4, c6, H⟩ := Vl H
   obtain ⟨a2, b1, f5, b2, H⟩ := Vl H
   obtain ⟨f6, b3, b4, f7, H⟩ := Vl H
   obtain ⟨a0, hyl341, H⟩ := V9 H
   have hnl341 : List.length a0 = List.length m := by rw [← hyl341, List.length_set]
   obtain ⟨f8, b5, b6, f9, H⟩ := Vl H
   obtain ⟨a3, hyl354, H⟩ := V9 H
   have hnl354 : List.length a3 = List.length a0 := by rw [← hyl354, List.length_set]
   refine aG [GEq (.slice g (List.length m) h), GEq (.int .i64 f), GEq (.int .i64 (IntKind.wrap .i64 (2 * f))), GEq (.slice g (List.length m) h), GEq (.int .i64 f), GEq (.int .i64 (IntKind.wrap .i64 (2 * f))), GEq (.int .i64 (IntKind.wrap .i64 ((IntKind.wrap .i64 (2 * f)) + 1))), GEq (.int .u8 ((q).toNat : Int)), GEq (.int .u8 (Fu .u8 ((q).toNat : Int) 4)), GEq (.int .u8 ((a4).toNat : Int)), GEq (.int .u8 ((q).toNat : Int)), GEq (.int .u8 (bAnd .u8 ((q).toNat : Int) 15)), GEq (.int .u8 ((a2).toNat : Int)), X5 g eU8.sz (IntKind.wrap .i64 (2 * f)), N5, X5 g eU8.sz (IntKind.wrap .i64 ((IntKind.wrap .i64 (2 * f)) + 1)), N5] [14, 16] [sG [] [] [] w0 [Q3 5 eU8 g h m], sG [14] [undef] [] w0 [Q3 5 eU8 g h a0], sG [14, 16] [undef, undef] [] w0 [Q3 5 eU8 g h a3]] 17 2 ⟨trivial, SP.drew a1⟩ ?_ ?_
   iterate 17 refine And.intro ?_ ?_
   exact trivial
   ·exact oV (hC (hS 3 (.slice g (List.length m) h)) (h0)) (.slice g (List.length m) h)
   ·exact oV (hC (hS 4 (.int .i64 f)) (h0)) (.int .i64 f)
   ·exact oV (hC (hA 1 18) (h0)) (.int .i64 (IntKind.wrap .i64 (2 * f)))
   ·exact oV (hC (hS 3 (.slice g (List.length m) h)) (h0)) (.slice g (List.length m) h)
   ·exact oV (hC (hS 4 (.int .i64 f)) (h0)) (.int .i64 f)
   ·exact oV (hC (hA 4 21) (h0)) (.int .i64 (IntKind.wrap .i64 (2 * f)))
   ·exact oV (hC (hA 5 22) (h0)) (.int .i64 (IntKind.wrap .i64 ((IntKind.wrap .i64 (2 * f)) + 1)))
   ·exact oV (hC (hS 5 (.int .u8 ((q).toNat : Int))) (h0)) (.int .u8 ((q).toNat : Int))
   ·exact oV (hC (hA 7 24) (h0)) (.int .u8 (Fu .u8 ((q).toNat : Int) 4))
   ·refine oL 0 ?_
    ·rintro ρ' w' hs p ⟨g0, g1⟩
     refine kM (kc (kA p 8 25) k0) fun s => ?_
     refine J1 (a := ([48, 49, 50, 51, 52, 53, 54, 55, 56, 57, 97, 98, 99, 100, 101, 102] : List UInt8)) (u := a4) (T := 9) (x := (.const (.string ⟨List.toArray ([48, 49, 50, 51, 52, 53, 54, 55, 56, 57, 97, 98, 99, 100, 101, 102] : List UInt8)⟩))) (ix := (.tmp 25)) (ki := .u8) (iz := (Fu .u8 ((q).toNat : Int) 4)) (d := (some 26)) (k := 9) K rfl K K K c5 c6 ?_
     exact eK s
   ·exact oV (hC (hS 5 (.int .u8 ((q).toNat : Int))) (h0)) (.int .u8 ((q).toNat : Int))
   ·exact oV (hC (hA 10 27) (h0)) (.int .u8 (bAnd .u8 ((q).toNat : Int) 15))
   ·refine Owe.light K [0, 1] K (Qb ?_ (Qb ?_ Q1))
    ·rintro ρ' w' hs p ⟨g2, g3⟩
     refine kM (kc (kA p 11 28) k0) fun s => ?_
     refine J1 (a := ([48, 49, 50, 51, 52, 53, 54, 55, 56, 57, 97, 98, 99, 100, 101, 102] : List UInt8)) (u := a2) (T := 9) (x := (.const (.string ⟨List.toArray ([48, 49, 50, 51, 52, 53, 54, 55, 56, 57, 97, 98, 99, 100, 101, 102] : List UInt8)⟩))) (ix := (.tmp 28)) (ki := .u8) (iz := (bAnd .u8 ((q).toNat : Int) 15)) (d := (some 29)) (k := 12) K rfl K K K b1 b2 ?_
     exact eK s
    ·rintro ρ' w' hs p ⟨⟨g4, -⟩, g5⟩
     refine kM (kc (kA p 11 28) k0) fun s => ?_
     refine J1 (a := ([48, 49, 50, 51, 52, 53, 54, 55, 56, 57, 97, 98, 99, 100, 101, 102] : List UInt8)) (u := a2) (T := 9) (x := (.const (.string ⟨List.toArray ([48, 49, 50, 51, 52, 53, 54, 55, 56, 57, 97, 98, 99, 100, 101, 102] : List UInt8)⟩))) (ix := (.tmp 28)) (ki := .u8) (iz := (bAnd .u8 ((q).toNat : Int) 15)) (d := (some 29)) (k := 12) K rfl K K K b1 b2 ?_
     exact eK s
   ·refine oL 0 ?_
    ·rintro ρ' w' hs p ⟨g6, c7⟩
     refine kM (kc (kA p 0 17) (kc (kA p 2 19) k0)) fun s => ?_
     refine Qn (e := eU8) (l := m) (A := g) (c := h) (T := 48) (E := 5) (x := (.tmp 17)) (ix := (.tmp 19)) (ki := .i64) (iz := (IntKind.wrap .i64 (2 * f))) (d := (some 30)) (k := 13) K rfl K K K K (Vd (SP.get c7 (i := 0) rfl)) b3 b4 ?_
     intro c8 c9 d0 g8 hc378
     exact ⟨rfl, _, Qa s, ⟨c8, c9, d0, rfl⟩⟩
   ·refine oH 0 1 ?_
    ·rintro ρ' w' hs p ⟨g9, d1⟩
     obtain ⟨d2, d3, d4, d5⟩ := p 13 30 K
     refine kM (kc d5 (kc (kA p 9 26) k0)) fun s => ?_
     refine Y4 (e := eU8) (t := 5) (E := 5) (x := (.tmp 30)) (y := (.tmp 26)) (A := g) (c := h) (l := m) (iz := (IntKind.wrap .i64 (2 * f))) (b := d2) (off := d3) (i := 0) (v := (.int .u8 ((a4).toNat : Int))) (x' := a4) (d := none) (k := 14) K rfl K K d1 rfl d4 rfl b4 b3 rfl K ?_
     rw [hyl341]
     intro h1 d6
     refine ⟨_, Qa s, trivial, ?_⟩
     exact (And.intro (And.intro rfl (trivial)) d6)
   ·refine oL 1 ?_
    ·rintro ρ' w' hs p ⟨⟨h2, -⟩, d7⟩
     have a6 := p 3 20 K
     replace a6 : ρ' 20 = (.slice g (List.length a0) h) := by rw [hnl341]; exact a6
     refine kM (kc a6 (kc (kA p 6 23) k0)) fun s => ?_
     refine Qn (e := eU8) (l := a0) (A := g) (c := h) (T := 48) (E := 5) (x := (.tmp 20)) (ix := (.tmp 23)) (ki := .i64) (iz := (IntKind.wrap .i64 ((IntKind.wrap .i64 (2 * f)) + 1))) (d := (some 31)) (k := 15) K rfl K K K K (Vd (SP.get d7 (i := 0) rfl)) b5 b6 ?_
     intro d8 d9 e0 h3 hc394
     exact ⟨rfl, _, Qa s, ⟨d8, d9, e0, rfl⟩⟩
   ·refine oH 1 2 ?_
    ·rintro ρ' w' hs p ⟨⟨e1, -⟩, e2⟩
     obtain ⟨e4, e5, e6, e7⟩ := p 15 31 K
     refine kM (kc e7 (kc (kA p 12 29) k0)) fun s => ?_
     refine Y4 (e := eU8) (t := 5) (E := 5) (x := (.tmp 31)) (y := (.tmp 29)) (A := g) (c := h) (l := a0) (iz := (IntKind.wrap .i64 ((IntKind.wrap .i64 (2 * f)) + 1))) (b := e4) (off := e5) (i := 0) (v := (.int .u8 ((a2).toNat : Int))) (x' := a2) (d := none) (k := 16) K rfl K K e2 rfl e6 rfl b6 b5 rfl K ?_
     rw [hyl354]
     intro h4 e8
     refine ⟨_, Qa s, trivial, ?_⟩
     exact (And.intro (And.intro e1 (And.intro rfl (trivial))) e8)
   ·rintro ρ' w' hs hf ⟨⟨h5, h6, -⟩, b7⟩
    have e3 : ρ' 3 = (.slice g (List.length m) h) := (hs 3 K).trans K
    replace e3 : ρ' 3 = (.slice g (List.length a3) h) := by rw [hnl354, hnl341]; exact e3
    refine V1 [(3, (.slice g (List.length a3) h)), (10, (.slice A2 (List.length p1) c3)), (11, (.int .i64 ((List.length p1 : Nat) : Int))), (12, (.int .i64 f))] ⟨e3, (hs 10 K).trans K, (hs 11 K).trans K, (hs 12 K).trans K, trivial⟩ ?_
    obtain ⟨h7, e9⟩ : ∃ x, w' = x := ⟨_, rfl⟩
    rw [e9] at b7 ⊢
    refine aR ?_
    refine iR 2 2 [(32, (.int .i64 (IntKind.wrap .i64 (f + 1)))), (12, (.int .i64 (IntKind.wrap .i64 (f + 1))))] ?_
    refine iF ?_
    exact ⟨a3, (IntKind.wrap .i64 (f + 1)), g, h, ⟨K, K, K, K, trivial⟩, SP.sel b7 [0] rfl rfl, H⟩
  ·have H := cf H a5
   refine At.exit K (id := 0) K ?_
   refine aQ ?_
   refine aR ?_
   refine iR 1 1 [(33, (.slice g (List.length m) h))] ?_
   refine iS 2 ?_
   refine Nc (T := 48) (S' := 9) (E := 5) (x := (.tmp 33)) (A := g) (c := h) (l := m) (d := (some 34)) (k := 1) K rfl K K K K (Vd (SP.get a1 (i := 0) rfl)) ?_
   refine iR 1 3 [(2, (.string ⟨List.toArray m⟩))] ?_
   refine iF ?_
   refine At.ret K ?_
   refine ⟨(.string ⟨List.toArray m⟩), K, ?_⟩
   obtain rfl := Qg H
   exact ⟨rfl, SP.sel a1 [] rfl rfl⟩
 ·exact ⟨l5, 0, (some ⟨g7, 0, none⟩), (Int.toNat (IntKind.wrap .i64 (2 * ((List.length p1 : Nat) : Int)))), ⟨K, K, K, K, trivial⟩, SP.sel b9 [0] rfl rfl, H⟩
def J6 (d : (List UInt8) → Int → Option ((List UInt8) × Bool)) (p1 : (List UInt8)) (b : (List UInt8)) (a : Int) : Option ((List UInt8) × Bool) :=
  (cond (decide (a < ((List.length p1 : Nat) : Int))) ((idx p1 a).bind fun e => ((Jc ([48, 49, 50, 51, 52, 53, 54, 55, 56, 57, 97, 98, 99, 100, 101, 102] : List UInt8) e).bind fun c => (cond (decide (c < 0)) (some (([] : List UInt8), false)) ((idx b (IntKind.wrap .i64 (Int.tdiv a 2))).bind fun f => ((idx b (IntKind.wrap .i64 (Int.tdiv a 2))).bind fun h => ((some (List.set b (Int.toNat (IntKind.wrap .i64 (Int.tdiv a 2))) (toU8 (bOr .u8 (Fd .u8 ((f).toNat : Int) 4) (IntKind.wrap .u8 c))))).bind fun g => (d g (IntKind.wrap .i64 (a + 1))))))))) (some (b, true)))
def Yv (p1 : (List UInt8)) : Nat → (List UInt8) → Int → Option ((List UInt8) × Bool)
  | 0, _, _ => none
  | f + 1, a, b => J6  (Yv p1 f) p1 a b
def U6 (p1 : (List UInt8)) : Option ((List UInt8) × Bool) :=
  (cond (decide ((Int.tmod ((List.length p1 : Nat) : Int) 2) > 0)) (some (([] : List UInt8), false)) ((chk (decide (0 ≤ (IntKind.wrap .i64 (Int.tdiv ((List.length p1 : Nat) : Int) 2)) ∧ (IntKind.wrap .i64 (Int.tdiv ((List.length p1 : Nat) : Int) 2)) ≤ 2147483648))).bind fun _ => ((some (List.replicate (Int.toNat (IntKind.wrap .i64 (Int.tdiv ((List.length p1 : Nat) : Int) 2))) ((0 : UInt8) : UInt8))).bind fun l7 => (Yv p1 Yg l7 0))))
set_option maxHeartbeats 40000000 in
theorem Rm  (p1 : (List UInt8)) (w0 : World)  (r : ((List UInt8) × Bool)) (H : U6 p1 = some r) :
  Calls Tryz.prog 161 #[(.string ⟨List.toArray p1⟩)] w0 (fun e w' => ∃ (A2 : Option Addr) (c3 : Nat), e = .returned (.tuple #[(.slice A2 (List.length r.1) c3), (.bool r.2)]) ∧ SP [] w0 w' [Q3 5 eU8 A2 c3 r.1]) := by
 unfold U6 at H
 refine Qx (n := 41) Tryz.func161 K K K ?_
 have a4 := Qz [] w0
 refine aQ ?_
 refine aR ?_
 refine iR 2 2 [(2, (.slice none (List.length ([] : List UInt8)) 0)), (3, (.bool false))] ?_
 refine iF ?_
 refine aQ ?_
 refine aQ ?_
 refine aR ?_
 refine iR 4 4 [(7, (.string ⟨List.toArray p1⟩)), (8, (.int .i64 ((List.length p1 : Nat) : Int))), (9, (.int .i64 (Int.tmod ((List.length p1 : Nat) : Int) 2))), (10, (.bool (decide ((Int.tmod ((List.length p1 : Nat) : Int) 2) > 0))))] ?_
 refine iF ?_
 refine Z3 K (o := (.tmp 10)) K (b := (decide ((Int.tmod ((List.length p1 : Nat) : Int) 2) > 0))) K (fun a1 => ?_) (fun a1 => ?_)
 ·have H := ct H a1
  refine aQ ?_
  refine aR ?_
  refine iR 2 2 [(2, (.slice none (List.length ([] : List UInt8)) 0)), (3, (.bool false))] ?_
  refine iF ?_
  refine At.ret K ?_
  have b3 : SP [] w0 w0 [Q3 5 eU8 none 0 ([] : List UInt8)] := Uj a4 5 eU8
  refine ⟨(.tuple #[(.slice none (List.length ([] : List UInt8)) 0), (.bool false)]), K, ?_⟩
  obtain rfl := Qg H
  exact ⟨none, 0, rfl, SP.sel b3 [0] rfl rfl⟩
 ·have H := cf H a1
  refine At.skip K ?_
  refine aQ ?_
  refine aR ?_
  refine iR 3 3 [(11, (.string ⟨List.toArray p1⟩)), (12, (.int .i64 ((List.length p1 : Nat) : Int))), (13, (.int .i64 (IntKind.wrap .i64 (Int.tdiv ((List.length p1 : Nat) : Int) 2))))] ?_
  obtain ⟨hl8, H⟩ := U0 H
  obtain ⟨l7, hyl7, H⟩ := V9 H
  refine iS 4 ?_
  refine Bc (e := eU8) (l' := l7) (z := (0 : UInt8)) (v := (.int .u8 0)) (b := 1) (T := 48) (E := 5) (x := (.tmp 13)) (y := (.tmp 13)) (k1 := .i64) (k2 := .i64) (iz := (IntKind.wrap .i64 (Int.tdiv ((List.length p1 : Nat) : Int) 2))) (d := (some 14)) (k := 3) K rfl K K K K K rfl rfl rfl hl8 a4 hyl7 ?_
  intro g9 b4 a5 d1
  have b5 : SP [] w0 b4 [Q3 5 eU8 (some ⟨g9, 0, none⟩) (Int.toNat (IntKind.wrap .i64 (Int.tdiv ((List.length p1 : Nat) : Int) 2))) l7] := a5
  clear a5
  refine iR 1 5 [(4, (.slice (some ⟨g9, 0, none⟩) (List.length l7) (Int.toNat (IntKind.wrap .i64 (Int.tdiv ((List.length p1 : Nat) : Int) 2)))))] ?_
  refine iF ?_
  refine aQ ?_
  refine aQ ?_
  refine aR ?_
  refine iR 3 3 [(15, (.string ⟨List.toArray p1⟩)), (16, (.int .i64 ((List.length p1 : Nat) : Int))), (17, (.int .i64 0))] ?_
  refine iF ?_
  refine Yz K (id := 0) K ?_
  refine G1 K (fun f1 ρ w => ∃ (m : (List UInt8)) (f : Int) (g : Option Addr) (h : Nat), V8 ρ [(0, (.string ⟨List.toArray p1⟩)), (4, (.slice g (List.length m) h)), (16, (.int .i64 ((List.length p1 : Nat) : Int))), (17, (.int .i64 f))] ∧ SP [] w0 w [Q3 5 eU8 g h m] ∧ Yv p1 f1 m f = some r) (by rintro ρ w ⟨m, f, g, h, hk, hs, H⟩; cases H) ?_ Yg ?_
  ·rintro f1 ρ b6 ⟨m, f, g, h, hk, a6, H⟩
   refine At.known [(0, (.string ⟨List.toArray p1⟩)), (4, (.slice g (List.length m) h)), (16, (.int .i64 ((List.length p1 : Nat) : Int))), (17, (.int .i64 f))] hk ?_
   replace H := (show J6 (Yv p1 f1) p1 m f = some r from H)
   unfold J6 at H
   refine aQ ?_
   refine aR ?_
   refine iR 1 1 [(18, (.bool (decide (f < ((List.length p1 : Nat) : Int)))))] ?_
   refine iF ?_
   refine aQ ?_
   refine Z3 K (o := (.tmp 18)) K (b := (decide (f < ((List.length p1 : Nat) : Int)))) K (fun a2 => ?_) (fun a2 => ?_)
   ·have H := ct H a2
    refine At.skip K ?_
    refine aQ ?_
    refine Yz K (id := 1) K ?_
    refine aQ ?_
    refine aR ?_
    refine iR 2 2 [(19, (.int .i64 f)), (5, (.int .i64 f))] ?_
    refine iF ?_
    refine aQ ?_
    refine aR ?_
    refine iR 2 2 [(20, (.string ⟨List.toArray p1⟩)), (21, (.int .i64 f))] ?_
    obtain ⟨a7, b7, d2, b8, H⟩ := Vl H
    refine iS 3 ?_
    refine J1 (a := p1) (u := a7) (T := 9) (x := (.tmp 20)) (ix := (.tmp 21)) (ki := .i64) (iz := f) (d := (some 22)) (k := 2) K rfl K K K b7 b8 ?_
    obtain ⟨p, b9, H⟩ := Qd H
    refine iS 4 ?_
    refine cF 89 #[(.const (.string ⟨List.toArray ([48, 49, 50, 51, 52, 53, 54, 55, 56, 57, 97, 98, 99, 100, 101, 102] : List UInt8)⟩)), (.tmp 22)] #[9, 5] 23 Tryz.call89 (Nh  ([48, 49, 50, 51, 52, 53, 54, 55, 56, 57, 97, 98, 99, 100, 101, 102] : List UInt8) a7 b6  p b9) ?_
    rintro e c0 ⟨rfl, a8⟩
    refine ⟨_, rfl, ?_⟩
    have s := SP.call a6 a8
    clear a8
    refine iR 1 5 [(6, (.int .i64 p))] ?_
    refine iF ?_
    refine aQ ?_
    refine aQ ?_
    refine aR ?_
    refine iR 2 2 [(24, (.int .i64 p)), (25, (.bool (decide (p < 0))))] ?_
    refine iF ?_
    refine Z3 K (o := (.tmp 25)) K (b := (decide (p < 0))) K (fun a3 => ?_) (fun a3 => ?_)
    ·have H := ct H a3
     refine aQ ?_
     refine aR ?_
     refine iR 2 2 [(2, (.slice none (List.length ([] : List UInt8)) 0)), (3, (.bool false))] ?_
     refine iF ?_
     refine At.ret K ?_
     have c1 : SP [] w0 c0 [Q3 5 eU8 g h m, Q3 5 eU8 none 0 ([] : List UInt8)] := Uj s 5 eU8
     refine ⟨(.tuple #[(.slice none (List.length ([] : List UInt8)) 0), (.bool false)]), K, ?_⟩
     obtain rfl := Qg H
     exact ⟨none, 0, rfl, SP.sel c1 [1] rfl rfl⟩
    ·have H := cf H a3
     refine At.skip K ?_
     refine aR ?_
     refine iR 6 6 [(26, (.slice g (List.length m) h)), (27, (.int .i64 f)), (28, (.int .i64 (IntKind.wrap .i64 (Int.tdiv f 2)))), (29, (.slice g (List.length m) h)), (30, (.int .i64 f)), (31, (.int .i64 (IntKind.wrap .i64 (Int.tdiv f 2))))] ?_
     obtain ⟨q, a9, b0, c2, H⟩ := Vl H
     refine iS 7 ?_
     refine Qn (e := eU8) (l := m) (A := g) (c := h) (T := 48) (E := 5) (x := (.tmp 29)) (ix := (.tmp 31)) (ki := .i64) (iz := (IntKind.wrap .i64 (Int.tdiv f 2))) (d := (some 32)) (k := 6) K rfl K K K K (Vd (SP.get s (i := 0) rfl)) a9 b0 ?_
     intro c4 c5 c6 d3 hc153
     refine iS 8 ?_
     refine sC 5 32 c4 (c5 + Int.toNat (IntKind.wrap .i64 (Int.tdiv f 2)) * eU8.sz) (.int .u8 ((q).toNat : Int)) 33 (Qw (e := eU8) (Ql (Vd (SP.get s (i := 0) rfl)) c6 a9 b0) c2 (j := 0) rfl) ?_
     refine iR 4 12 [(34, (.int .u8 (Fd .u8 ((q).toNat : Int) 4))), (35, (.int .i64 p)), (36, (.int .u8 (IntKind.wrap .u8 p))), (37, (.int .u8 (bOr .u8 (Fd .u8 ((q).toNat : Int) 4) (IntKind.wrap .u8 p))))] ?_
     obtain ⟨d4, b1, b2, d5, H⟩ := Vl H
     refine iS 13 ?_
     refine Qn (e := eU8) (l := m) (A := g) (c := h) (T := 48) (E := 5) (x := (.tmp 26)) (ix := (.tmp 28)) (ki := .i64) (iz := (IntKind.wrap .i64 (Int.tdiv f 2))) (d := (some 38)) (k := 12) K rfl K K K K (Vd (SP.get s (i := 0) rfl)) b1 b2 ?_
     intro c7 c8 c9 d6 hc162
     obtain ⟨a0, hyl165, H⟩ := V9 H
     have hnl165 : List.length a0 = List.length m := by rw [← hyl165, List.length_set]
     refine iS 14 ?_
     refine Y4 (e := eU8) (t := 5) (E := 5) (x := (.tmp 38)) (y := (.tmp 37)) (A := g) (c := h) (l := m) (iz := (IntKind.wrap .i64 (Int.tdiv f 2))) (b := c7) (off := c8) (i := 0) (v := (.int .u8 (bOr .u8 (Fd .u8 ((q).toNat : Int) 4) (IntKind.wrap .u8 p)))) (x' := (toU8 (bOr .u8 (Fd .u8 ((q).toNat : Int) 4) (IntKind.wrap .u8 p)))) (d := none) (k := 13) K rfl K K s rfl c9 rfl b2 b1 (by show [Value.int .u8 (((toU8 (bOr .u8 (Fd .u8 ((q).toNat : Int) 4) (IntKind.wrap .u8 p)))).toNat : Int)] = _; rw [u8_back (u8_or _ _)]) K ?_
     rw [hyl165]
     intro d7 d0
     refine In.known [(4, (.slice g (List.length a0) h)), (26, (.slice g (List.length a0) h)), (29, (.slice g (List.length a0) h))] ⟨(by rw [hnl165]; kernel_rfl), (by rw [hnl165]; kernel_rfl), (by rw [hnl165]; kernel_rfl), trivial⟩ ?_
     refine iF ?_
     refine aR ?_
     refine iR 2 2 [(39, (.int .i64 (IntKind.wrap .i64 (f + 1)))), (17, (.int .i64 (IntKind.wrap .i64 (f + 1))))] ?_
     refine iF ?_
     exact ⟨a0, (IntKind.wrap .i64 (f + 1)), g, h, ⟨K, K, K, K, trivial⟩, SP.sel d0 [0] rfl rfl, H⟩
   ·have H := cf H a2
    refine At.exit K (id := 0) K ?_
    refine aQ ?_
    refine aR ?_
    refine iR 3 3 [(40, (.slice g (List.length m) h)), (2, (.slice g (List.length m) h)), (3, (.bool true))] ?_
    refine iF ?_
    refine At.ret K ?_
    refine ⟨(.tuple #[(.slice g (List.length m) h), (.bool true)]), K, ?_⟩
    obtain rfl := Qg H
    exact ⟨g, h, rfl, SP.sel a6 [0] rfl rfl⟩
  ·exact ⟨l7, 0, (some ⟨g9, 0, none⟩), (Int.toNat (IntKind.wrap .i64 (Int.tdiv ((List.length p1 : Nat) : Int) 2))), ⟨K, K, K, K, trivial⟩, SP.sel b5 [0] rfl rfl, H⟩
end Go.Proofs.YtoflbpmbkmephaaGreatDoor
namespace Go.Proofs.YtoflbpmbkmephaaGreatDoor
open Go.RowKit
open Go.MapKept (findNow_spec run_findKey run_checkKey IsKey Stamped stamped_push stamped_empty)
open Go.ChangeMaps (setBlock)
abbrev KV := List (Value × Value)
structure TabOk (m : Nat) (L : KV) (es : Array MapEntry) (clock : Nat) (w : World) : Prop where
  heap : w.heap[m]? = some (.map es clock)
  ents : es.toList.map (fun e => (e.key, e.val)) = L
  st : Stamped es clock
def F4 (m : Nat) (L : KV) : Ent := ⟨[m], fun w => ∃ es clock, TabOk m L es clock w, fun w w' hk ⟨es, clock, h⟩ => ⟨es, clock, (hk m (by simp)).trans h.heap, h.ents, h.st⟩⟩
def Nx (d : TypeDesc) (k : Value) : KV → Nat → Option (Option (Nat × Value))
  | [], _ => some none
  | x :: l, i => match Instr.sameNow d k x.1 with
    | some true => some (some (i, x.2))
    | some false => Nx d k l (i + 1)
    | none => none
theorem Ny {d : TypeDesc} {k : Value} : ∀ (es : List MapEntry) (L : KV) (i : Nat), es.map (fun e => (e.key, e.val)) = L → Instr.findNow d k es i = Nx d k L i
  | [], L, i, h => by simp at h; subst h; rfl
  | e :: es, L, i, h => by
    cases L with
    | nil => simp at h
    | cons x L =>
      simp only [List.map_cons, List.cons.injEq] at h
      obtain ⟨rfl, h⟩ := h
      simp only [Instr.findNow, Nx]
      cases Instr.sameNow d k e.key with
      | none => rfl
      | some b => cases b with
        | true => rfl
        | false => exact Ny es L (i + 1) h
def keyB : TypeDesc → Value → Bool
  | .int k, .int k' _ => decide (k' = k)
  | .string, .string _ => true
  | _, _ => false
theorem Bg {d : TypeDesc} {v : Value} (h : keyB d v = true) : IsKey d v := by
  cases d <;> cases v <;> simp_all [keyB, IsKey]
section
variable {P : Program} {n : Nat} {B : Code} {p : List Bool} {o : Nat} {K : Fr → World → Prop} {ρ : Fr} {w w0 : World} {ens : List Ent} {S : List Nat} {m b : Nat} {L : KV} {dst : Option Nat} {k v : Value} {i : Nat} {kt et : TypeId} {d : TypeDesc}
theorem F5 {T : TypeId} (ho : Nm (Qf B p) o ρ = some (.makeMap T none, dst)) (hd : Z2 n dst = true) (hs : SP S w0 w ens)
    (next : ∀ (m : Nat) (w' : World), SP S w0 w' (ens ++ [F4 m []]) → K (Ji ρ dst (.map (some m))) w') : Qi P n B p o K ρ w := by
  refine Qi.val ho hd (w' := w.alloc (.map #[] 0)) (v := .map (some w.heap.size)) (fun o hop => ?_) (next w.heap.size _ (hs.push ((Below.refl _ _).alloc (Nat.le_refl _) _) ⟨#[], 0, heap_alloc_new w _, rfl, stamped_empty 0⟩ fun k hk => ?_))
  · unfold execOp; rw [hop]
    simp only [Instr.makeMap, Sem.run_bind, Sem.run_pure, run_newObj, Result.andThen_ok]
    rfl
  · have : k = w.heap.size := by simpa [F4] using hk
    subst this
    simp
theorem R6 {T : TypeId} {x ix y : Operand} (ho : Nm (Qf B p) o ρ = some (.insert T x ix y, dst)) (hd : Z2 n dst = true) (hx : opv ρ x = .map (some m)) (hix : opv ρ ix = k) (hy : opv ρ y = v)
    (hT : P.underlying T = some (.map kt et)) (hkt : P.underlying kt = some d) (hk : keyB d k = true) (hL : L.all (fun x => keyB d x.1) = true) (hf : Nx d k L 0 = some none)
    (hs : SP S w0 w ens) (hi : ens[i]? = some (F4 m L)) (next : ∀ (w' : World), SP S w0 w' (ens.set i (F4 m (L ++ [(k, v)]))) → K (Ji ρ dst undef) w') : Qi P n B p o K ρ w := by
  obtain ⟨es, clock, h⟩ := hs.get hi
  have hck := run_checkKey (P := P) (w := w) hkt (Bg hk) false 9999
  have hfn : Instr.findNow d k es.toList 0 = some none := (Ny es.toList L 0 h.ents).trans hf
  have hfk := run_findKey (P := P) (w := w) hkt hfn
  have hne : ∀ e ∈ es.toList, e.key ≠ k := by
    have hall : ∀ e ∈ es.toList, IsKey d e.key := fun e he => by
      rw [List.all_eq_true] at hL
      exact Bg (hL (e.key, e.val) (by rw [← h.ents]; exact List.mem_map.2 ⟨e, he, rfl⟩))
    rcases findNow_spec (Bg hk) es.toList 0 hall with ⟨_, h2⟩ | ⟨j, e, h1, _⟩
    · exact h2
    · rw [hfn] at h1; cases h1
  have hset := (Go.MapKept.heap_set (o' := .map (es.push { key := k, val := v, born := clock }) (clock + 1)) h.heap)
  refine Dy ho hd (w' := { w with heap := w.heap.setIfInBounds m (.map (es.push { key := k, val := v, born := clock }) (clock + 1)) }) (fun o hop => ?_) (next _ ?_)
  · unfold execOp; rw [hop]
    simp only [hx, hix, hy, Instr.mapUpdate, Sem.run_bind, run_underlying hT, Go.MapKept.run_getObj_map h.heap, hck, hfk, Go.MapKept.run_setObj_map _ h.heap, Result.andThen_ok]
    rfl
  · refine hs.set hi (T := [m]) ⟨rfl, rfl, rfl, by simp, fun q _ hq => hset.2 q (by simpa using hq)⟩ (fun k hk => hk) ⟨_, _, hset.1, by rw [Array.toList_push, List.map_append, h.ents]; rfl, stamped_push h.st hne⟩ fun q hq => ⟨.inl hq, ?_⟩
    have := ((hs.own.get hi).2 q hq).2
    simpa using this
theorem Bh {T : TypeId} {x ix : Operand} (ho : Nm (Qf B p) o ρ = some (.lookup T x ix true, dst)) (hd : Z2 n dst = true) (hx : opv ρ x = .map (some m)) (hix : opv ρ ix = k)
    (hT : P.underlying T = some (.map kt et)) (hkt : P.underlying kt = some d) (hk : keyB d k = true) (hf : ∃ j, Nx d k L 0 = some (some (j, v))) (h : (F4 m L).ok w)
    (next : K (Ji ρ dst (.tuple #[v, .bool true])) w) : Qi P n B p o K ρ w := by
  obtain ⟨es, clock, h⟩ := h
  obtain ⟨j, hf⟩ := hf
  have hck := run_checkKey (P := P) (w := w) hkt (Bg hk) es.isEmpty 9999
  have hfk := run_findKey (P := P) (w := w) hkt ((Ny es.toList L 0 h.ents).trans hf)
  refine Qi.val ho hd (fun o hop => ?_) next
  unfold execOp; rw [hop]
  simp only [hx, hix, Instr.lookup, Sem.run_bind, run_underlying hT, Go.MapKept.run_getObj_map h.heap, hck, hfk, Result.andThen_ok, Sem.run_pure]
  rfl
theorem Bi {T : TypeId} {x ix : Operand} (ho : Nm (Qf B p) o ρ = some (.lookup T x ix true, dst)) (hd : Z2 n dst = true) (hx : opv ρ x = .map (some m)) (hix : opv ρ ix = k)
    (hT : P.underlying T = some (.map kt et)) (hkt : P.underlying kt = some d) (hz : ∀ w, (zeroValue et).run P w = .ok v w) (hk : keyB d k = true) (hf : Nx d k L 0 = some none) (h : (F4 m L).ok w)
    (next : K (Ji ρ dst (.tuple #[v, .bool false])) w) : Qi P n B p o K ρ w := by
  obtain ⟨es, clock, h⟩ := h
  have hck := run_checkKey (P := P) (w := w) hkt (Bg hk) es.isEmpty 9999
  have hfk := run_findKey (P := P) (w := w) hkt ((Ny es.toList L 0 h.ents).trans hf)
  refine Qi.val ho hd (fun o hop => ?_) next
  unfold execOp; rw [hop]
  simp only [hx, hix, Instr.lookup, Sem.run_bind, run_underlying hT, Go.MapKept.run_getObj_map h.heap, hck, hfk, hz, Result.andThen_ok, Sem.run_pure]
  rfl
end
section
variable {P : Program} {n : Nat} {B : Code} {p : List Bool} {o : Nat} {K : Fr → World → Prop} {ρ : Fr} {w w0 : World} {ens : List Ent} {S : List Nat} {m b q : Nat} {L : KV} {dst : Option Nat} {i : Nat} {kt et : TypeId} {φ : Value × Value → Prop}
end
end Go.Proofs.YtoflbpmbkmephaaGreatDoor
namespace Go.Proofs.YtoflbpmbkmephaaGreatDoor
open Go.RowKit
section
variable {S : List Nat} {B : Nat} {w w' w0 : World} {es es' : List Ent}
theorem HL.mk : ∀ {es : List Ent}, (∀ (i : Nat) (e : Ent), es[i]? = some e → e.ok w ∧ ∀ k ∈ e.fp, (B ≤ k ∨ k ∈ S) ∧ k < w.heap.size) → (∀ (i j : Nat) (e e' : Ent), i < j → es[i]? = some e → es[j]? = some e' → ∀ k ∈ e.fp, k ∉ e'.fp) → HL S B w es
  | [], _, _ => trivial
  | e :: es, h1, h2 => ⟨(h1 0 e rfl).1, fun k hk => ⟨((h1 0 e rfl).2 k hk).1, ((h1 0 e rfl).2 k hk).2, fun e' he' => by
      obtain ⟨j, hj⟩ := List.mem_iff_getElem?.1 he'
      exact h2 0 (j + 1) e e' (by omega) rfl (by simpa using hj) k hk⟩, HL.mk (fun i e' hi => h1 (i + 1) e' (by simpa using hi)) fun i j e1 e2 hij h3 h4 => h2 (i + 1) (j + 1) e1 e2 (by omega) (by simpa using h3) (by simpa using h4)⟩
theorem SP.turn2 (h : SP S w0 w es) {i : Nat} {e e1 e2 : Ent} (hi : es[i]? = some e) (h1 : e1.ok w) (h2 : e2.ok w) (hf1 : ∀ k ∈ e1.fp, k ∈ e.fp ∧ k ∉ e2.fp) (hf2 : ∀ k ∈ e2.fp, k ∈ e.fp) (he : es' = es.set i e1 ++ [e2]) : SP S w0 w es' := by
  subst he
  have hg := h.own.get hi
  have ht := h.turnE hi h1 fun k hk => (hf1 k hk).1
  refine ⟨ht.mod, ht.own.append ⟨h2, fun k hk => ⟨(hg.2 k (hf2 k hk)).1, (hg.2 k (hf2 k hk)).2, by simp⟩, trivial⟩ ?_⟩
  intro f hf k hk f' hf' hk'
  simp only [List.mem_singleton] at hf'
  subst hf'
  obtain ⟨j, hj⟩ := List.mem_iff_getElem?.1 hf
  rw [List.getElem?_set] at hj
  split at hj
  · split at hj
    · injection hj with hj
      subst hj
      exact (hf1 k hk).2 hk'
    · cases hj
  · exact h.own.apart hj hi (by omega) k hk (hf2 k hk')
theorem SP.join2 (h : SP S w0 w es) {i j : Nat} {e e1 e2 : Ent} (hi : es[i]? = some e1) (hj : es[j]? = some e2) (hij : i ≠ j) (hok : e.ok w) (hfp : ∀ k ∈ e.fp, k ∈ e1.fp ∨ k ∈ e2.fp) (he : es' = (es.set i e).eraseIdx j) : SP S w0 w es' := by
  subst he
  have g1 := h.own.get hi
  have g2 := h.own.get hj
  have hset : ∀ n x, (es.set i e)[n]? = some x → (n = i ∧ x = e) ∨ (n ≠ i ∧ es[n]? = some x) := by
    intro n x hx
    rw [List.getElem?_set] at hx
    split at hx
    · split at hx
      · injection hx with hx
        exact .inl ⟨by omega, hx.symm⟩
      · cases hx
    · exact .inr ⟨by omega, hx⟩
  have hget : ∀ n x, ((es.set i e).eraseIdx j)[n]? = some x → ∃ m, m ≠ j ∧ m = (if n < j then n else n + 1) ∧ ((m = i ∧ x = e) ∨ (m ≠ i ∧ es[m]? = some x)) := by
    intro n x hx
    rw [List.getElem?_eraseIdx] at hx
    split at hx
    · rename_i hlt
      exact ⟨n, by omega, by rw [if_pos hlt], hset n x hx⟩
    · rename_i hlt
      exact ⟨n + 1, by omega, by rw [if_neg hlt], hset (n + 1) x hx⟩
  refine ⟨h.mod, HL.mk ?_ ?_⟩
  · intro n x hx
    obtain ⟨m, hm, _, hc⟩ := hget n x hx
    rcases hc with ⟨_, rfl⟩ | ⟨_, hc⟩
    · refine ⟨hok, fun k hk => ?_⟩
      rcases hfp k hk with h1 | h1
      · exact g1.2 k h1
      · exact g2.2 k h1
    · exact h.own.get hc
  · intro n1 n2 x1 x2 hlt hx1 hx2 k hk1 hk2
    obtain ⟨m1, hm1, hq1, hc1⟩ := hget n1 x1 hx1
    obtain ⟨m2, hm2, hq2, hc2⟩ := hget n2 x2 hx2
    have hne : m1 ≠ m2 := by
      rw [hq1, hq2]
      split <;> split <;> omega
    rcases hc1 with ⟨e1', rfl⟩ | ⟨e1', hc1⟩
    · rcases hc2 with ⟨e2', rfl⟩ | ⟨e2', hc2⟩
      · omega
      · rcases hfp k hk1 with h1 | h1
        · exact h.own.apart hi hc2 (by omega) k h1 hk2
        · exact h.own.apart hj hc2 (by omega) k h1 hk2
    · rcases hc2 with ⟨e2', rfl⟩ | ⟨e2', hc2⟩
      · rcases hfp k hk2 with h1 | h1
        · exact h.own.apart hc1 hi (by omega) k hk1 h1
        · exact h.own.apart hc1 hj (by omega) k hk1 h1
      · exact h.own.apart hc1 hc2 hne k hk1 hk2
end
def blkA (A : Option Addr) : List Nat := match A with | some a => [a.block] | none => []
def Bp (y : Qe) : List Nat := blkA y.2.2.2.1.1 ++ blkA y.2.2.2.2.1
theorem Xv {α : Type} {E : TypeId} {e : Enc α} {A : Option Addr} {c : Nat} {l : List α} : (Q3 E e A c l).fp = blkA A := by cases A <;> rfl
abbrev Bq (y : Qe) : Ent := Q3 102 eNet y.2.2.2.1.1 y.2.2.2.1.2.1 y.2.2.2.1.2.2
abbrev Br (y : Qe) : Ent := Q3 37 eTok y.2.2.2.2.1 y.2.2.2.2.2.1 y.2.2.2.2.2.2
def E5 (d : List Qe) (w : World) : Prop := (∀ y ∈ d, (Bq y).ok w ∧ (Br y).ok w) ∧ (d.flatMap Bp).Nodup
def G6 (d : List Qe) : Ent := ⟨d.flatMap Bp, E5 d, fun w w' hk h => ⟨fun y hy => by
    have hs : ∀ k ∈ Bp y, w'.heap[k]? = w.heap[k]? := fun k hm => hk k (List.mem_flatMap.2 ⟨y, hy, hm⟩)
    refine ⟨(Bq y).loc w w' (fun k hm => hs k ?_) (h.1 y hy).1, (Br y).loc w w' (fun k hm => hs k ?_) (h.1 y hy).2⟩
    · rw [Xv] at hm; exact List.mem_append_left _ hm
    · rw [Xv] at hm; exact List.mem_append_right _ hm, h.2⟩⟩
def TenOk (A : Option Addr) (c : Nat) (d : List Qe) (w : World) : Prop := (Q3 33 Vr A c d).ok w ∧ E5 d w ∧ (blkA A ++ d.flatMap Bp).Nodup
def Yd (A : Option Addr) (c : Nat) (d : List Qe) : Ent := ⟨blkA A ++ d.flatMap Bp, TenOk A c d, fun w w' hk h => ⟨(Q3 33 Vr A c d).loc w w' (fun k hm => hk k (List.mem_append_left _ (by rw [Xv] at hm; exact hm))) h.1, (G6 d).loc w w' (fun k hm => hk k (List.mem_append_right _ hm)) h.2.1, h.2.2⟩⟩
section
variable {S : List Nat} {w w' w0 : World} {es es' : List Ent} {A : Option Addr} {c : Nat} {d d0 : List Qe} {y : Qe} {F : List Nat} {l : List Qc} {i j k : Nat}
theorem TenOk.rd (h : TenOk A c d w) : (dDS Vr B3).ok w (A, c, d) := ⟨Vd h.1, fun y hy => ⟨trivial, trivial, trivial, ⟨Vd (h.2.1.1 y hy).1, fun _ _ => trivial⟩, ⟨Vd (h.2.1.1 y hy).2, fun _ _ => trivial⟩⟩⟩
theorem Gr (h : (Yd A c d).ok w) : (dDS Vr B3).ok w (A, c, d) := TenOk.rd h
theorem SP.openT (h : SP S w0 w es) (hi : es[i]? = some (Yd A c d)) (he : es' = es.set i (Q3 33 Vr A c d) ++ [G6 d]) : SP S w0 w es' := by
  obtain ⟨h1, h2, h3⟩ := h.get hi
  refine h.turn2 hi h1 h2 (fun k hk => ?_) (fun k hk => List.mem_append_right _ hk) he
  rw [Xv] at hk
  refine ⟨List.mem_append_left _ hk, fun hk' => ?_⟩
  exact (List.nodup_append.1 h3).2.2 k hk k hk' rfl
theorem SP.closeT (h : SP S w0 w es) (hi : es[i]? = some (Q3 33 Vr A c d)) (hj : es[j]? = some (G6 d)) (hij : i ≠ j) (he : es' = (es.set i (Yd A c d)).eraseIdx j) : SP S w0 w es' := by
  have h1 := h.get hi
  have h2 : E5 d w := h.get hj
  have h3 := h.own.apart hi hj hij
  rw [Xv] at h3
  refine h.join2 (e := Yd A c d) hi hj hij ⟨h1, h2, ?_⟩ (fun k hk => ?_) he
  · refine List.nodup_append.2 ⟨?_, h2.2, fun a ha b hb hab => h3 a ha (hab ▸ hb)⟩
    cases A <;> simp [blkA]
  · rw [Xv]
    exact List.mem_append.1 hk
theorem SP.innMore (h : SP S w0 w es) (hj : es[j]? = some (G6 d)) (hy : y.2.2.2 = ((none, 0, []), (none, 0, []))) : SP S w0 w (es.set j (G6 (d ++ [y]))) := by
  obtain ⟨nm, a, b, x⟩ := y
  have hy : x = ((none, 0, []), (none, 0, [])) := hy
  subst hy
  have hok : E5 d w := h.get hj
  have hfm : (d ++ [(nm, a, b, (none, 0, []), (none, 0, []))]).flatMap Bp = d.flatMap Bp := by simp [List.flatMap_append, Bp, blkA]
  refine h.turnE hj ⟨fun z hz => ?_, by rw [hfm]; exact hok.2⟩ fun k hk => ?_
  · rcases List.mem_append.1 hz with hz | hz
    · exact hok.1 z hz
    · rw [List.mem_singleton] at hz
      subst hz
      exact ⟨World.ownsRow_nil w 0 _ _, World.ownsRow_nil w 0 _ _⟩
  · have hk : k ∈ (d ++ [(nm, a, b, (none, 0, []), (none, 0, []))]).flatMap Bp := hk
    rw [hfm] at hk
    exact hk
theorem SP.splitI (h : SP S w0 w es) (hj : es[j]? = some (G6 (d0 ++ [y]))) (he : es' = es.set j (G6 d0) ++ [Bq y] ++ [Br y]) : SP S w0 w es' := by
  have hok : E5 (d0 ++ [y]) w := h.get hj
  obtain ⟨h1, h2⟩ := hok
  have hfm : (d0 ++ [y]).flatMap Bp = d0.flatMap Bp ++ Bp y := by simp [List.flatMap_append]
  rw [hfm] at h2
  obtain ⟨n1, n2, n3⟩ := List.nodup_append.1 h2
  obtain ⟨m1, m2, m3⟩ := List.nodup_append.1 n2
  have hlt : j < es.length := (List.getElem?_eq_some_iff.1 hj).1
  have hy := h1 y (by simp)
  have hfp : (G6 (d0 ++ [y])).fp = d0.flatMap Bp ++ Bp y := hfm
  let eL : Ent := ⟨d0.flatMap Bp ++ blkA y.2.2.2.1.1, fun w => (G6 d0).ok w ∧ (Bq y).ok w, fun w w' hk hh => ⟨(G6 d0).loc w w' (fun k hm => hk k (List.mem_append_left _ hm)) hh.1, (Bq y).loc w w' (fun k hm => hk k (List.mem_append_right _ (by rw [Xv] at hm; exact hm))) hh.2⟩⟩
  have hI : E5 d0 w := ⟨fun z hz => h1 z (List.mem_append_left _ hz), n1⟩
  have s1 : SP S w0 w (es.set j eL ++ [Br y]) := h.turn2 hj (e1 := eL) ⟨hI, hy.1⟩ hy.2
    (fun k hk => by
      rw [Xv, hfp]
      rcases List.mem_append.1 hk with hk | hk
      · exact ⟨List.mem_append_left _ hk, fun hk' => n3 k hk k (List.mem_append_right _ hk') rfl⟩
      · exact ⟨List.mem_append_right _ (List.mem_append_left _ hk), fun hk' => m3 k hk k hk' rfl⟩)
    (fun k hk => by rw [Xv] at hk; rw [hfp]; exact List.mem_append_right _ (List.mem_append_right _ hk)) rfl
  have s2 : SP S w0 w (es.set j eL ++ [Br y]).dropLast := s1.erase (es.length) (by simp [List.eraseIdx_append_of_length_le])
  rw [List.dropLast_concat] at s2
  have hjL : (es.set j eL)[j]? = some eL := by simp [hlt]
  have s3 : SP S w0 w (es.set j (G6 d0) ++ [Bq y]) := by
    refine s2.turn2 hjL hI hy.1 (fun k hk => ⟨List.mem_append_left _ hk, fun hk' => ?_⟩) (fun k hk => ?_) (by rw [List.set_set])
    · rw [Xv] at hk'
      exact n3 k hk k (List.mem_append_left _ hk') rfl
    · rw [Xv] at hk
      exact List.mem_append_right _ hk
  subst he
  refine ⟨s3.mod, s3.own.append ⟨hy.2, fun k hk => ?_, trivial⟩ ?_⟩
  · have := (h.own.get hj).2 k (by rw [Xv] at hk; rw [hfp]; exact List.mem_append_right _ (List.mem_append_right _ hk))
    exact ⟨this.1, this.2, by simp⟩
  · intro f hf k hk f' hf' hk'
    simp only [List.mem_singleton] at hf'
    subst hf'
    have hk2 := hk'
    rw [Xv] at hk'
    have hmem : k ∈ (G6 (d0 ++ [y])).fp := by rw [hfp]; exact List.mem_append_right _ (List.mem_append_right _ hk')
    rcases List.mem_append.1 hf with hf | hf
    · obtain ⟨n, hn⟩ := List.mem_iff_getElem?.1 hf
      rw [List.getElem?_set] at hn
      split at hn
      · rename_i hjn
        subst hjn
        injection hn with hn
        subst hn
        exact n3 k hk k (List.mem_append_right _ hk') rfl
      · exact h.own.apart hn hj (by omega) k hk hmem
    · simp only [List.mem_singleton] at hf
      subst hf
      rw [Xv] at hk
      exact m3 k hk k hk' rfl
theorem SP.joinI (h : SP S w0 w es) (hi : es[i]? = some (G6 d0)) (hj : es[j]? = some (Bq y)) (hk : es[k]? = some (Br y)) (hij : i < j) (hjk : j < k) (he : es' = ((es.set i (G6 (d0 ++ [y]))).eraseIdx k).eraseIdx j) : SP S w0 w es' := by
  have hik : i < k := by omega
  have h1 : E5 d0 w := h.get hi
  have h2 := h.get hj
  have h3 := h.get hk
  have a1 := h.own.apart hi hj (by omega)
  have a2 := h.own.apart hi hk (by omega)
  have a3 := h.own.apart hj hk (by omega)
  rw [Xv] at a3
  let eL : Ent := ⟨d0.flatMap Bp ++ blkA y.2.2.2.2.1, fun w => (G6 d0).ok w ∧ (Br y).ok w, fun w w' hk hh => ⟨(G6 d0).loc w w' (fun k hm => hk k (List.mem_append_left _ hm)) hh.1, (Br y).loc w w' (fun k hm => hk k (List.mem_append_right _ (by rw [Xv] at hm; exact hm))) hh.2⟩⟩
  have s1 : SP S w0 w ((es.set i eL).eraseIdx k) := h.join2 hi hk (by omega) (e := eL) ⟨h1, h3⟩ (fun q hq => by
    rw [Xv]
    exact List.mem_append.1 hq) rfl
  have hlt : i < es.length := (List.getElem?_eq_some_iff.1 hi).1
  have hj' : ((es.set i eL).eraseIdx k)[j]? = some (Bq y) := by
    rw [List.getElem?_eraseIdx, if_pos hjk, List.getElem?_set, if_neg (by omega)]
    exact hj
  have hi' : ((es.set i eL).eraseIdx k)[i]? = some eL := by
    rw [List.getElem?_eraseIdx, if_pos hik, List.getElem?_set, if_pos rfl, if_pos hlt]
  refine s1.join2 hi' hj' (by omega) (e := G6 (d0 ++ [y])) ⟨fun z hz => ?_, ?_⟩ (fun q hq => ?_) ?_
  · rcases List.mem_append.1 hz with hz | hz
    · exact h1.1 z hz
    · rw [List.mem_singleton] at hz
      subst hz
      exact ⟨h2, h3⟩
  · have hfm : (d0 ++ [y]).flatMap Bp = d0.flatMap Bp ++ Bp y := by simp [List.flatMap_append]
    rw [hfm]
    refine List.nodup_append.2 ⟨h1.2, List.nodup_append.2 ⟨?_, ?_, fun a ha b hb hab => a3 a ha (by rw [Xv]; exact hab ▸ hb)⟩, fun a ha b hb hab => ?_⟩
    · cases y.2.2.2.1.1 <;> simp [blkA]
    · cases y.2.2.2.2.1 <;> simp [blkA]
    · subst hab
      rcases List.mem_append.1 hb with hb | hb
      · exact a1 a ha (by rw [Xv]; exact hb)
      · exact a2 a ha (by rw [Xv]; exact hb)
  · have hq : q ∈ (d0 ++ [y]).flatMap Bp := hq
    rw [Xv]
    simp only [List.flatMap_append, List.mem_append, List.flatMap_cons, List.flatMap_nil, Bp, List.append_nil] at hq
    rcases hq with hq | hq | hq
    · exact .inl (List.mem_append_left _ hq)
    · exact .inr hq
    · exact .inl (List.mem_append_right _ hq)
  · rw [he, List.eraseIdx_set_gt hik, List.eraseIdx_set_gt hik, List.set_set]
end
section
variable {P : Program} {n : Nat} {ρ : Fr} {w w0 : World} {B : Code} {p : List Bool} {k : Nat} {K : Fr → World → Prop}
theorem Rb {α : Type} {e : Enc α} {S : List Nat} {w0 : World} {es : List Ent} {i b off c f q : Nat} {d : Option Nat} {t E : TypeId} {x y : Operand} {A : Option Addr} {l : List α} {v : Value} {x0 x' : α}
    (ho : Nm (Qf B p) k ρ = some (.store t x y, d)) (hd : Z2 n d = true) (hA : A = some ⟨b, off, none⟩) (hx : opv ρ x = .pointer (some ⟨b, off + q * e.sz + f, none⟩)) (hy : opv ρ y = v)
    (hs : SP S w0 w es) (hi : es[i]? = some (Q3 E e A c l)) (hl : l[q]? = some x0) (hf : f < e.sz) (hv : e.enc x' = (e.enc x0).set f v) (ht : (P.info? t).map (·.size) = some 1)
    (next : ∀ w' : World, SP S w0 w' (es.set i (Q3 E e A c (l.set q x'))) → K (Ji ρ d undef) w') : Qi P n B p k K ρ w := by
  subst hy hA
  have hown : w.ownsRow 0 E e.sz (.slice (some ⟨b, off, none⟩) l.length c) l.length (Q7 e l) := hs.get hi
  have hoff : off = 0 := by
    rcases hown.2 with ⟨hn, _⟩ | ⟨g, cap, cur, hn, _⟩
    · cases hn
    · injection hn with h1 _ _
      injection h1 with h1
      injection h1
  subst hoff
  have hlt : q < l.length := (List.getElem?_eq_some_iff.1 hl).1
  have hqf : q * e.sz + f < l.length * e.sz := by
    have : (q + 1) * e.sz ≤ l.length * e.sz := Nat.mul_le_mul_right _ hlt
    rw [Nat.succ_mul] at this
    omega
  have hcellx : ∃ u, w.cell? ⟨b, q * e.sz + f, none⟩ = some u := by
    have := World.ownsRow.cellAt (g := b) (cap := c) hown (q * e.sz + f) hqf
    rw [this]
    have hlen := V2 e l
    exact ⟨_, List.getElem?_eq_getElem (by rw [hlen]; exact hqf)⟩
  obtain ⟨u0, hu0⟩ := hcellx
  have hfr := World.ownsRow.frozenAt (g := b) (cap := c) hown (q * e.sz + f)
  obtain ⟨h2, h3⟩ := World.ownsRow.stored (g := b) (cap := c) hown (q * e.sz + f) (opv ρ y)
  have hlen0 := e.len x0
  have hone := e.one x' (opv ρ y) (by rw [hv]; exact List.mem_iff_getElem.2 ⟨f, by rw [List.length_set]; omega, by simp⟩)
  have hset : (Q7 e l).set (q * e.sz + f) (opv ρ y) = Q7 e (l.set q x') := by
    have hs1 := Rf e l q x' hlt
    have hs0 := Rf e l q x0 hlt
    have hl0 : l.set q x0 = l := by
      obtain ⟨hq1, hq2⟩ := List.getElem?_eq_some_iff.1 hl
      rw [← hq2, List.set_getElem_self]
    rw [hl0] at hs0
    have htl : ((Q7 e l).take (q * e.sz)).length = q * e.sz := by rw [List.length_take, V2]; omega
    rw [← hs1, hv]
    conv => lhs; rw [← hs0]
    rw [List.append_assoc, List.set_append_right _ _ (by rw [htl]; omega), htl, List.set_append_left _ _ (by rw [hlen0]; omega), List.append_assoc]
    rw [show q * e.sz + f - q * e.sz = f by omega]
  have h2' : (Q3 E e (some ⟨b, 0, none⟩) c (l.set q x')).ok (w.setCell ⟨b, q * e.sz + f, none⟩ (opv ρ y)) := by
    show World.ownsRow _ 0 E e.sz (.slice (some ⟨b, 0, none⟩) (l.set q x').length c) (l.set q x').length (Q7 e (l.set q x'))
    rw [List.length_set, ← hset]
    exact h2
  refine Dy ho hd (w' := w.setCell ⟨b, q * e.sz + f, none⟩ (opv ρ y)) (fun o hop => ?_) (next _ (hs.set hi (T := [b]) (Gi h3 (fun q hq => by injection hq with hq; simp [hq])) (fun q hq => ?_) h2' fun q hq => ?_))
  · have hcs : (opv ρ y).cells = #[opv ρ y] := by
      cases hvv : opv ρ y <;> first | rfl | (rw [hvv] at hone; cases hone)
    cases hi' : P.info? t with
    | none => rw [hi'] at ht; cases ht
    | some ii =>
      rw [hi'] at ht
      have ht : ii.size = 1 := by simpa using ht
      have hsz : (sizeOf t).run P w = .ok 1 w := by simp [sizeOf, typeInfo, hi', ht]
      have hst : (Go.store ⟨b, q * e.sz + f, none⟩ (opv ρ y)).run P w = .ok () (w.setCell ⟨b, q * e.sz + f, none⟩ (opv ρ y)) := by
        cases hvv : opv ρ y <;> first | (rw [hvv] at hone; cases hone; done) | (simp [Go.store, Sem.run, hu0, hfr])
      unfold execOp; rw [hop]
      rw [Nat.zero_add] at hx
      have hadd : (⟨b, q * e.sz + f, none⟩ : Addr).add 0 = ⟨b, q * e.sz + f, none⟩ := by simp [Addr.add]
      simp only [hx, Instr.storeAt, Instr.sureAddr, Sem.run_bind, Sem.run_pure, Result.andThen_ok, storeVar, hsz, hcs]
      simp [storeCells, hadd, hst, Sem.run_bind]
  · simpa [Q3, row, Value.ownBlock] using hq
  · have hq' : q = b := by simpa [Q3, row, Value.ownBlock] using hq
    subst hq'
    refine ⟨.inl (by simp [Q3, row, Value.ownBlock]), ?_⟩
    have := (World.ownsRow.lt hown q (by simp [Value.ownBlock])).2
    simpa [World.setCell] using this
theorem Bs {S : List Nat} {w0 : World} {es : List Ent} {dst : Option Nat} {A : Option Addr} {c : Nat} {d m : List Qe} {y : Qe} {T TX : TypeId} {s x : Operand} {b i : Nat} {vx : Value} (ho : Nm (Qf B p) k ρ = some (.call { callee := .builtin .append, args := #[s, x], argTypes := #[T, TX] }, dst)) (hd : Z2 n dst = true)
    (hv : opv ρ s = .slice A (List.length (List.map stT d)) c) (hx : opv ρ x = vx) (hT : P.underlying T = some (.slice 33)) (hE : (P.info? 33).map (fun i => (i.zero.map (·.cells.size), i.size, i.bytes)) = some (some Vr.sz, Vr.sz, b)) (hb : (Nat.ble 1 Vr.sz && Nat.ble b 65536) = true)
    (hs : SP S w0 w es) (hi : es[i]? = some (Yd A c d)) (hsrc : Src P Vr.sz TX vx m.length (Q7 Vr m) w) (hm : m = [y]) (hy : y.2.2.2 = ((none, 0, []), (none, 0, []))) {lm : List Qc} (hlen : (List.map stT d).length + lm.length ≤ 2147483648) (hlm : lm = [stT y])
    (next : ∀ (A' : Option Addr) (c' : Nat) (w' : World), SP S w0 w' (es.set i (Yd A' c' (d ++ [y]))) → K (Ji ρ dst (.slice A' (List.length (List.map stT (d ++ [y]))) c')) w') : Qi P n B p k K ρ w := by
  subst hm hlm
  rw [List.length_map] at hv hlen
  have hlt : i < es.length := (List.getElem?_eq_some_iff.1 hi).1
  refine Qi.append (m := [y]) ho hd hv hx hT hE hb (hs.openT hi rfl) (i := i) (by rw [List.getElem?_append_left (by simpa using hlt), List.getElem?_set, if_pos rfl, if_pos hlt]) hsrc (by simpa using hlen) fun A' c' w' hs' => ?_
  have := next A' c' w' ?_
  · rw [List.length_map] at this; exact this
  rw [List.set_append_left _ _ (by simpa using hlt), List.set_set] at hs'
  have h2 := hs'.innMore (j := es.length) (d := d) (y := y) (by rw [List.getElem?_append_right (by simp)]; simp) hy
  refine h2.closeT (i := i) (j := es.length) (A := A') (c := c') (d := d ++ [y]) ?_ ?_ (by omega) ?_
  · rw [List.getElem?_set, if_neg (by omega), List.getElem?_append_left (by simpa using hlt), List.getElem?_set, if_pos rfl, if_pos hlt]
  · rw [List.getElem?_set, if_pos rfl, if_pos (by simp)]
  · rw [List.set_append_right _ _ (by simp), List.set_append_left _ _ (by simpa using hlt), List.set_set, List.eraseIdx_append_of_length_le (by simp)]
    simp
end
theorem last_idx {α β : Type} {f : α → β} {d : List α} (hm : d.length ≤ maxLen) (h0 : 0 ≤ IntKind.wrap .i64 (((List.length (List.map f d) : Nat) : Int) - 1)) (h1 : IntKind.wrap .i64 (((List.length (List.map f d) : Nat) : Int) - 1) < (d.length : Int)) : Int.toNat (IntKind.wrap .i64 (((List.length (List.map f d) : Nat) : Int) - 1)) = List.length (List.map f d) - 1 := by
  rw [List.length_map] at *
  have hm' : d.length ≤ 9223372036854775807 := hm
  have hw : IntKind.wrap .i64 ((d.length : Int) - 1) = (d.length : Int) - 1 := IntWalk.i64_in _ (by omega)
  rw [hw] at h0 ⊢
  omega
def lastT (l : List Qc) : Qc := l.getLast?.getD ([], 0, 0, [], [])
def lastB {β : Type} (l : List Qc) (f : List Qc → Qc → List Qc → Option β) : Option β := f l.dropLast (lastT l) l
section
variable {β : Type} {d d0 : List Qe} {y : Qe} {f : List Qc → Qc → List Qc → Option β} {r : β}
theorem B6 (h : List.isEmpty (List.map stT d) = false) : ∃ d0 y, d = d0 ++ [y] := by
  rcases List.eq_nil_or_concat d with rfl | ⟨d0, y, rfl⟩
  · cases h
  · exact ⟨d0, y, by simp⟩
theorem B7 (hd : d = d0 ++ [y]) (h : lastB (List.map stT d) f = some r) : f (List.map stT d0) (stT y) (List.map stT (d0 ++ [y])) = some r := by
  subst hd
  unfold lastB lastT at h
  simpa using h
theorem Fh (y' : Qe) : List.length (List.map stT (d0 ++ [y])) = List.length (List.map stT (d0 ++ [y'])) := by simp
theorem Cn : List.map stT d0 ++ [stT y] = List.map stT (d0 ++ [y]) := by simp
end
section
variable {P : Program} {n : Nat} {ρ : Fr} {w w0 : World} {B : Code} {p : List Bool} {k : Nat} {K : Fr → World → Prop} {S : List Nat} {es es' : List Ent} {dst : Option Nat} {A : Option Addr} {c i : Nat} {d0 : List Qe} {y y' : Qe} {b off : Nat}
theorem Bj (h : SP S w0 w es) (hi : es[i]? = some (Yd A c (d0 ++ [y]))) (he : es' = es.set i (Q3 33 Vr A c (d0 ++ [y])) ++ [G6 d0] ++ [Bq y] ++ [Br y]) : SP S w0 w es' := by
  have h1 := h.openT hi rfl
  refine h1.splitI (j := es.length) (d0 := d0) (y := y) (by rw [List.getElem?_append_right (by simp)]; simp) ?_
  rw [he, List.set_append_right _ _ (by simp)]
  simp
theorem Do (h : SP S w0 w es) {q j m : Nat} (hi : es[i]? = some (Q3 33 Vr A c (d0 ++ [y]))) (hq : es[q]? = some (G6 d0)) (hj : es[j]? = some (Bq y)) (hm : es[m]? = some (Br y)) (h1 : i < q) (h2 : q < j) (h3 : j < m) (he : es' = ((((es.set q (G6 (d0 ++ [y]))).eraseIdx m).eraseIdx j).set i (Yd A c (d0 ++ [y]))).eraseIdx q) : SP S w0 w es' := by
  have s1 := h.joinI hq hj hm h2 h3 rfl
  have hlt : i < es.length := (List.getElem?_eq_some_iff.1 hi).1
  have hlq : q < es.length := (List.getElem?_eq_some_iff.1 hq).1
  refine s1.closeT (i := i) (j := q) (A := A) (c := c) (d := d0 ++ [y]) ?_ ?_ (by omega) he
  · rw [List.getElem?_eraseIdx, if_pos (by omega), List.getElem?_eraseIdx, if_pos (by omega), List.getElem?_set, if_neg (by omega)]
    exact hi
  · rw [List.getElem?_eraseIdx, if_pos (by omega), List.getElem?_eraseIdx, if_pos (by omega), List.getElem?_set, if_pos rfl, if_pos hlq]
theorem Nk (h : (Q3 33 Vr A c (d0 ++ [y])).ok w) (hA : A = some ⟨b, off, none⟩) {f : Nat} {v : Value} (hv : (Vr.enc y)[f]? = some v) : w.cell? ⟨b, off + List.length d0 * Vr.sz + f, none⟩ = some v := by
  obtain ⟨_, _, _, h4⟩ := Vd h
  obtain ⟨b', off', hA', _, hc⟩ := h4 (by simp)
  rw [hA] at hA'
  injection hA' with hA'
  injection hA' with h5 h6
  subst h5 h6
  have := Ui Vr (l := d0 ++ [y]) (i := d0.length) (x := y) (by simp) hv
  rw [Nat.add_assoc]
  exact hc _ _ this
theorem set_last : (d0 ++ [y]).set d0.length y' = d0 ++ [y'] := by simp
theorem Rc {f : Nat} {t : TypeId} {x z : Operand} {v : Value} (ho : Nm (Qf B p) k ρ = some (.store t x z, dst)) (hd : Z2 n dst = true) (hA : A = some ⟨b, off, none⟩) (hx : opv ρ x = .pointer (some ⟨b, off + List.length d0 * Vr.sz + f, none⟩)) (hz : opv ρ z = v)
    (hs : SP S w0 w es) (hi : es[i]? = some (Q3 33 Vr A c (d0 ++ [y]))) (hf : Nat.ble (f + 1) Vr.sz = true) (hv : Vr.enc y' = (Vr.enc y).set f v) (ht : (P.info? t).map (·.size) = some 1)
    (next : ∀ w' : World, SP S w0 w' (es.set i (Q3 33 Vr A c (d0 ++ [y']))) → K (Ji ρ dst undef) w') : Qi P n B p k K ρ w := by
  refine Rb (x0 := y) (x' := y') (q := d0.length) ho hd hA hx hz hs hi (by simp) (Nat.le_of_ble_eq_true hf) hv ht fun w' hs' => ?_
  rw [set_last] at hs'
  exact next w' hs'
end
end Go.Proofs.YtoflbpmbkmephaaGreatDoor
