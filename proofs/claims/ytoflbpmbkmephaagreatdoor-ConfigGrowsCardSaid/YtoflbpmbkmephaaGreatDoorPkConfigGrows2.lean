import Derived.Test.YtoflbpmbkmephaaGreatDoorPkConfigGrows1
set_option linter.unusedSimpArgs false
set_option linter.unusedVariables false
set_option linter.unusedSectionVars false
set_option maxRecDepth 100000
set_option maxHeartbeats 40000000
namespace Go.Proofs.YtoflbpmbkmephaaGreatDoor
open Go.RowKit
def Yi (v5 : Bool) : Option (Bool) :=
  (some (v5))
def Z3 (p1 : Int) (p2 : Int) (p3 : Int) : Option (Bool) :=
  (cond (decide (p1 ≥ p2)) (Yi (decide (p1 ≤ p3))) (Yi false))
set_option maxHeartbeats 40000000 in
theorem Xv  (p1 : Int) (p2 : Int) (p3 : Int) (w0 : World)  (r : (Bool)) (H : Z3 p1 p2 p3 = some r) :
  Calls Tryz.prog 48 #[(.int .i64 p1), (.int .i64 p2), (.int .i64 p3)] w0 (fun e w' => e = .returned (.bool r) ∧ SP [] w0 w' []) := by
 unfold Z3 at H
 refine Qv (n := 15) Tryz.func48 K K K ?_
 have c := Q1 [] w0
 refine aQ ?_
 refine aR ?_
 refine iR 1 1 [(6, (.bool false))] ?_
 refine iF ?_
 refine aQ ?_
 refine At.join (fun ρ w => ∃ (v5 : Bool), Zm ρ [(6, (.bool v5))] ∧ SP [] w0 w [] ∧ Yi v5 = some r) ?_ ?_
 ·refine aR ?_
  refine iR 4 4 [(7, (.int .i64 p1)), (8, (.int .i64 p2)), (9, (.bool (decide (p1 ≥ p2)))), (10, (.bool (decide (p1 ≥ p2))))] ?_
  refine In.guard (t := 10) (b := (decide (p1 ≥ p2))) K (fun a => ?_) (fun a => ?_)
  ·have H := ct H a
   refine iR 5 9 [(11, (.int .i64 p1)), (12, (.int .i64 p3)), (13, (.bool (decide (p1 ≤ p3)))), (14, (.bool (decide (p1 ≤ p3)))), (6, (.bool (decide (p1 ≤ p3))))] ?_
   refine iF ?_
   exact ⟨(decide (p1 ≤ p3)), ⟨K, trivial⟩, SP.sel c [] rfl rfl, H⟩
  ·have H := cf H a
   refine iR 5 9 [(11, undef), (12, undef), (13, undef), (14, (.bool false)), (6, (.bool false))] ?_
   refine iF ?_
   exact ⟨false, ⟨K, trivial⟩, SP.sel c [] rfl rfl, H⟩
 ·rintro ρ w6 ⟨v5, hk, d, H⟩
  unfold Yi at H
  first | refine At.known [(6, (.bool v5))] hk ?_ | rw [← Q3 (l := [(6, (.bool v5))]) hk]
  refine At.ret K ?_
  refine ⟨(.bool v5), K, ?_⟩
  obtain rfl := Qg H
  exact ⟨rfl, SP.sel d [] rfl rfl⟩
def Qy (c : Int → Option (Int)) (p1 : (List (Int × Int))) (p5 : (Int → Int → Option (Bool))) (a : Int) : Option (Int) :=
  (cond (decide (a < ((List.length p1 : Nat) : Int))) ((idx p1 a).bind fun b => ((p5 b.1 b.2).bind fun d => (cond d (some (a)) (c (IntKind.wrap .i64 (a + 1)))))) (some ((-1))))
def Qo (p1 : (List (Int × Int))) (p5 : (Int → Int → Option (Bool))) : Nat → Int → Option (Int)
  | 0, _ => none
  | f + 1, a => Qy  (Qo p1 p5 f) p1 p5 a
def V5 (p1 : (List (Int × Int))) (p5 : (Int → Int → Option (Bool))) : Option (Int) :=
  (Qo p1 p5 Xx 0)
set_option maxHeartbeats 40000000 in
theorem Jo (A2 : Option Addr) (c3 : Nat) (g : FuncId) (h : Array Value) (p1 : (List (Int × Int))) (p5 : (Int → Int → Option (Bool))) (w0 : World) (q : RdT (Qf (Q4 .u32) (Q4 .i64)) w0 A2 c3 p1) (hcf8 : ∀ (args : Array Value) (w : World), (callFunc g args).run Tryz.prog w = .ok (.enter g args) w) (a1 : ∀ (y0 : Int) (y1 : Int) (z : (Bool)) (w : World), Below w0.heap.size w0 w → p5 y0 y1 = some z → Calls Tryz.prog g (([(.agg #[(.int .u32 y0), (.int .i64 y1)])] : List Value) ++ (h).toList).toArray w (fun e w' => e = .returned (.bool z) ∧ SP [] w w' [])) (r : (Int)) (H : V5 p1 p5 = some r) :
  Calls Tryz.prog 147 #[(.slice A2 (List.length p1) c3), (.func (.func g) #[] h)] w0 (fun e w' => e = .returned (.int .i64 r) ∧ SP [] w0 w' []) := by
 unfold V5 at H
 refine Qv (n := 19) Tryz.func147 K K K ?_
 have a2 := Q1 [] w0
 refine aQ ?_
 refine aR ?_
 refine iR 1 1 [(4, (.int .i64 0))] ?_
 refine iF ?_
 refine aQ ?_
 refine aQ ?_
 refine aR ?_
 refine iR 3 3 [(6, (.slice A2 (List.length p1) c3)), (7, (.int .i64 ((List.length p1 : Nat) : Int))), (8, (.int .i64 0))] ?_
 refine iF ?_
 refine Y0 K (id := 0) K ?_
 refine G3 K (fun f1 ρ w => ∃ (a : Int), Zm ρ [(0, (.slice A2 (List.length p1) c3)), (1, (.func (.func g) #[] h)), (7, (.int .i64 ((List.length p1 : Nat) : Int))), (8, (.int .i64 a))] ∧ SP [] w0 w [] ∧ Qo p1 p5 f1 a = some r) (by rintro ρ w ⟨a, hk, hs, H⟩; cases H) ?_ Xx ?_
 ·rintro f1 ρ a3 ⟨a, hk, j, H⟩
  refine At.known [(0, (.slice A2 (List.length p1) c3)), (1, (.func (.func g) #[] h)), (7, (.int .i64 ((List.length p1 : Nat) : Int))), (8, (.int .i64 a))] hk ?_
  replace H := (show Qy (Qo p1 p5 f1) p1 p5 a = some r from H)
  unfold Qy at H
  refine aQ ?_
  refine aR ?_
  refine iR 1 1 [(9, (.bool (decide (a < ((List.length p1 : Nat) : Int)))))] ?_
  refine iF ?_
  refine aQ ?_
  refine Xe K (o := (.tmp 9)) K (b := (decide (a < ((List.length p1 : Nat) : Int)))) K (fun m => ?_) (fun m => ?_)
  ·have H := ct H m
   refine At.skip K ?_
   refine aQ ?_
   refine Y0 K (id := 1) K ?_
   refine aQ ?_
   refine aR ?_
   refine iR 2 2 [(10, (.int .i64 a)), (5, (.int .i64 a))] ?_
   refine iF ?_
   refine aQ ?_
   refine aR ?_
   refine iR 3 3 [(11, (.func (.func g) #[] h)), (12, (.slice A2 (List.length p1) c3)), (13, (.int .i64 a))] ?_
   obtain ⟨i, s, u, a4, H⟩ := Ve H
   refine iS 4 ?_
   refine Qn (e := (Qf (Q4 .u32) (Q4 .i64))) (l := p1) (A := A2) (c := c3) (T := 30) (E := 102) (x := (.tmp 12)) (ix := (.tmp 13)) (ki := .i64) (iz := a) (d := (some 14)) (k := 3) K rfl K K K K (RdT.sp q j) s u ?_
   intro a5 a6 a7 a9 hc55
   refine iS 5 ?_
   refine Qi.cells (t := 102) (x := (.tmp 14)) (b := a5) (off := (a6 + Int.toNat a * (Qf (Q4 .u32) (Q4 .i64)).sz)) (xs := [(.int .u32 i.1), (.int .i64 i.2)]) (d := (some 15)) (k := 4) K rfl K K K (Vv (e := (Qf (Q4 .u32) (Q4 .i64))) (Qj (RdT.sp q j) a7 s u) a4 rfl) ?_
   obtain ⟨v, a8, H⟩ := Qd H
   refine iS 6 ?_
   refine X0 (f := g) (fo := (.tmp 11)) (xs := #[(.tmp 15)]) (tys := #[102]) (first := #[]) (captured := h) (args := (([(.agg #[(.int .u32 i.1), (.int .i64 i.2)])] : List Value) ++ (h).toList)) (d := (some 16)) (k := 5) K rfl K K hcf8 (a1 i.1 i.2 v a3  (SP.keeps j)  a8) ?_
   rintro e b0 ⟨rfl, y⟩
   refine ⟨_, rfl, ?_⟩
   have a0 := SP.call j y
   clear y
   refine iF ?_
   refine Xe K (o := (.tmp 16)) K (b := v) K (fun p => ?_) (fun p => ?_)
   ·have H := ct H p
    refine aQ ?_
    refine aR ?_
    refine iR 2 2 [(17, (.int .i64 a)), (4, (.int .i64 a))] ?_
    refine iF ?_
    refine At.ret K ?_
    refine ⟨(.int .i64 a), K, ?_⟩
    obtain rfl := Qg H
    exact ⟨rfl, SP.sel a0 [] rfl rfl⟩
   ·have H := cf H p
    refine At.skip K ?_
    refine aR ?_
    refine iR 2 2 [(18, (.int .i64 (IntKind.wrap .i64 (a + 1)))), (8, (.int .i64 (IntKind.wrap .i64 (a + 1))))] ?_
    refine iF ?_
    exact ⟨(IntKind.wrap .i64 (a + 1)), ⟨K, K, K, K, trivial⟩, SP.sel a0 [] rfl rfl, H⟩
  ·have H := cf H m
   refine At.exit K (id := 0) K ?_
   refine aQ ?_
   refine aR ?_
   refine iR 1 1 [(4, (.int .i64 (-1)))] ?_
   refine iF ?_
   refine At.ret K ?_
   refine ⟨(.int .i64 (-1)), K, ?_⟩
   obtain rfl := Qg H
   exact ⟨rfl, SP.sel j [] rfl rfl⟩
 ·exact ⟨0, ⟨K, K, K, K, trivial⟩, SP.sel a2 [] rfl rfl, H⟩
def Vk (p1 : (List (Int × Int))) (p5 : (Int → Int → Option (Bool))) : Option (Bool) :=
  ((V5 p1 p5).bind fun a => (some ((decide (a ≥ 0)))))
set_option maxHeartbeats 40000000 in
theorem Y9 (A2 : Option Addr) (c3 : Nat) (a : FuncId) (b : Array Value) (p1 : (List (Int × Int))) (p5 : (Int → Int → Option (Bool))) (w0 : World) (g : RdT (Qf (Q4 .u32) (Q4 .i64)) w0 A2 c3 p1) (hcf8 : ∀ (args : Array Value) (w : World), (callFunc a args).run Tryz.prog w = .ok (.enter a args) w) (h : ∀ (y0 : Int) (y1 : Int) (z : (Bool)) (w : World), Below w0.heap.size w0 w → p5 y0 y1 = some z → Calls Tryz.prog a (([(.agg #[(.int .u32 y0), (.int .i64 y1)])] : List Value) ++ (b).toList).toArray w (fun e w' => e = .returned (.bool z) ∧ SP [] w w' [])) (r : (Bool)) (H : Vk p1 p5 = some r) :
  Calls Tryz.prog 96 #[(.slice A2 (List.length p1) c3), (.func (.func a) #[] b)] w0 (fun e w' => e = .returned (.bool r) ∧ SP [] w0 w' []) := by
 unfold Vk at H
 refine Qv (n := 9) Tryz.func96 K K K ?_
 have d := Q1 [] w0
 refine aQ ?_
 refine aR ?_
 refine iR 1 1 [(4, (.bool false))] ?_
 refine iF ?_
 refine aQ ?_
 refine aR ?_
 refine iR 2 2 [(5, (.slice A2 (List.length p1) c3)), (6, (.func (.func a) #[] b))] ?_
 obtain ⟨c, i, H⟩ := Qd H
 refine iS 3 ?_
 refine cF 147 #[(.tmp 5), (.tmp 6)] #[30, 154] 7 Tryz.call147 (Jo A2 c3 a b p1 p5 w0 (RdT.sp g d) hcf8 (fun y0 y1 z w  hw  hz => h y0 y1 z w  (Dd d hw)  hz) c i) ?_
 rintro e k ⟨rfl, f⟩
 refine ⟨_, rfl, ?_⟩
 have j := SP.call d f
 clear f
 refine iR 2 5 [(8, (.bool (decide (c ≥ 0)))), (4, (.bool (decide (c ≥ 0))))] ?_
 refine iF ?_
 refine At.ret K ?_
 refine ⟨(.bool (decide (c ≥ 0))), K, ?_⟩
 obtain rfl := Qg H
 exact ⟨rfl, SP.sel j [] rfl rfl⟩
def Qt (c : Int → Option (Int)) (p1 : (List ((List UInt8) × (List UInt8) × Int))) (p5 : ((List UInt8) → (List UInt8) → Int → Option (Bool))) (a : Int) : Option (Int) :=
  (cond (decide (a < ((List.length p1 : Nat) : Int))) ((idx p1 a).bind fun b => ((p5 b.1 b.2.1 b.2.2).bind fun d => (cond d (some (a)) (c (IntKind.wrap .i64 (a + 1)))))) (some ((-1))))
def Qm (p1 : (List ((List UInt8) × (List UInt8) × Int))) (p5 : ((List UInt8) → (List UInt8) → Int → Option (Bool))) : Nat → Int → Option (Int)
  | 0, _ => none
  | f + 1, a => Qt  (Qm p1 p5 f) p1 p5 a
def Vf (p1 : (List ((List UInt8) × (List UInt8) × Int))) (p5 : ((List UInt8) → (List UInt8) → Int → Option (Bool))) : Option (Int) :=
  (Qm p1 p5 Xx 0)
set_option maxHeartbeats 40000000 in
theorem Z4 (A2 : Option Addr) (c3 : Nat) (h : FuncId) (i : Array Value) (p1 : (List ((List UInt8) × (List UInt8) × Int))) (p5 : ((List UInt8) → (List UInt8) → Int → Option (Bool))) (w0 : World) (q : RdT (Qf Ql (Qf Ql (Q4 .i64))) w0 A2 c3 p1) (hcf8 : ∀ (args : Array Value) (w : World), (callFunc h args).run Tryz.prog w = .ok (.enter h args) w) (a1 : ∀ (y0 : (List UInt8)) (y1 : (List UInt8)) (y2 : Int) (z : (Bool)) (w : World), Below w0.heap.size w0 w → p5 y0 y1 y2 = some z → Calls Tryz.prog h (([(.agg #[(.string ⟨List.toArray y0⟩), (.string ⟨List.toArray y1⟩), (.int .i64 y2)])] : List Value) ++ (i).toList).toArray w (fun e w' => e = .returned (.bool z) ∧ SP [] w w' [])) (r : (Int)) (H : Vf p1 p5 = some r) :
  Calls Tryz.prog 46 #[(.slice A2 (List.length p1) c3), (.func (.func h) #[] i)] w0 (fun e w' => e = .returned (.int .i64 r) ∧ SP [] w0 w' []) := by
 unfold Vf at H
 refine Qv (n := 19) Tryz.func46 K K K ?_
 have a2 := Q1 [] w0
 refine aQ ?_
 refine aR ?_
 refine iR 1 1 [(4, (.int .i64 0))] ?_
 refine iF ?_
 refine aQ ?_
 refine aQ ?_
 refine aR ?_
 refine iR 3 3 [(6, (.slice A2 (List.length p1) c3)), (7, (.int .i64 ((List.length p1 : Nat) : Int))), (8, (.int .i64 0))] ?_
 refine iF ?_
 refine Y0 K (id := 0) K ?_
 refine G3 K (fun f1 ρ w => ∃ (a : Int), Zm ρ [(0, (.slice A2 (List.length p1) c3)), (1, (.func (.func h) #[] i)), (7, (.int .i64 ((List.length p1 : Nat) : Int))), (8, (.int .i64 a))] ∧ SP [] w0 w [] ∧ Qm p1 p5 f1 a = some r) (by rintro ρ w ⟨a, hk, hs, H⟩; cases H) ?_ Xx ?_
 ·rintro f1 ρ a3 ⟨a, hk, j, H⟩
  refine At.known [(0, (.slice A2 (List.length p1) c3)), (1, (.func (.func h) #[] i)), (7, (.int .i64 ((List.length p1 : Nat) : Int))), (8, (.int .i64 a))] hk ?_
  replace H := (show Qt (Qm p1 p5 f1) p1 p5 a = some r from H)
  unfold Qt at H
  refine aQ ?_
  refine aR ?_
  refine iR 1 1 [(9, (.bool (decide (a < ((List.length p1 : Nat) : Int)))))] ?_
  refine iF ?_
  refine aQ ?_
  refine Xe K (o := (.tmp 9)) K (b := (decide (a < ((List.length p1 : Nat) : Int)))) K (fun m => ?_) (fun m => ?_)
  ·have H := ct H m
   refine At.skip K ?_
   refine aQ ?_
   refine Y0 K (id := 1) K ?_
   refine aQ ?_
   refine aR ?_
   refine iR 2 2 [(10, (.int .i64 a)), (5, (.int .i64 a))] ?_
   refine iF ?_
   refine aQ ?_
   refine aR ?_
   refine iR 3 3 [(11, (.func (.func h) #[] i)), (12, (.slice A2 (List.length p1) c3)), (13, (.int .i64 a))] ?_
   obtain ⟨g, s, u, a4, H⟩ := Ve H
   refine iS 4 ?_
   refine Qn (e := (Qf Ql (Qf Ql (Q4 .i64)))) (l := p1) (A := A2) (c := c3) (T := 31) (E := 37) (x := (.tmp 12)) (ix := (.tmp 13)) (ki := .i64) (iz := a) (d := (some 14)) (k := 3) K rfl K K K K (RdT.sp q j) s u ?_
   intro a5 a6 a7 a9 hc55
   refine iS 5 ?_
   refine Qi.cells (t := 37) (x := (.tmp 14)) (b := a5) (off := (a6 + Int.toNat a * (Qf Ql (Qf Ql (Q4 .i64))).sz)) (xs := [(.string ⟨List.toArray g.1⟩), (.string ⟨List.toArray g.2.1⟩), (.int .i64 g.2.2)]) (d := (some 15)) (k := 4) K rfl K K K (Vv (e := (Qf Ql (Qf Ql (Q4 .i64)))) (Qj (RdT.sp q j) a7 s u) a4 rfl) ?_
   obtain ⟨v, a8, H⟩ := Qd H
   refine iS 6 ?_
   refine X0 (f := h) (fo := (.tmp 11)) (xs := #[(.tmp 15)]) (tys := #[37]) (first := #[]) (captured := i) (args := (([(.agg #[(.string ⟨List.toArray g.1⟩), (.string ⟨List.toArray g.2.1⟩), (.int .i64 g.2.2)])] : List Value) ++ (i).toList)) (d := (some 16)) (k := 5) K rfl K K hcf8 (a1 g.1 g.2.1 g.2.2 v a3  (SP.keeps j)  a8) ?_
   rintro e b0 ⟨rfl, y⟩
   refine ⟨_, rfl, ?_⟩
   have a0 := SP.call j y
   clear y
   refine iF ?_
   refine Xe K (o := (.tmp 16)) K (b := v) K (fun p => ?_) (fun p => ?_)
   ·have H := ct H p
    refine aQ ?_
    refine aR ?_
    refine iR 2 2 [(17, (.int .i64 a)), (4, (.int .i64 a))] ?_
    refine iF ?_
    refine At.ret K ?_
    refine ⟨(.int .i64 a), K, ?_⟩
    obtain rfl := Qg H
    exact ⟨rfl, SP.sel a0 [] rfl rfl⟩
   ·have H := cf H p
    refine At.skip K ?_
    refine aR ?_
    refine iR 2 2 [(18, (.int .i64 (IntKind.wrap .i64 (a + 1)))), (8, (.int .i64 (IntKind.wrap .i64 (a + 1))))] ?_
    refine iF ?_
    exact ⟨(IntKind.wrap .i64 (a + 1)), ⟨K, K, K, K, trivial⟩, SP.sel a0 [] rfl rfl, H⟩
  ·have H := cf H m
   refine At.exit K (id := 0) K ?_
   refine aQ ?_
   refine aR ?_
   refine iR 1 1 [(4, (.int .i64 (-1)))] ?_
   refine iF ?_
   refine At.ret K ?_
   refine ⟨(.int .i64 (-1)), K, ?_⟩
   obtain rfl := Qg H
   exact ⟨rfl, SP.sel j [] rfl rfl⟩
 ·exact ⟨0, ⟨K, K, K, K, trivial⟩, SP.sel a2 [] rfl rfl, H⟩
def Vb (p1 : (List ((List UInt8) × (List UInt8) × Int))) (p5 : ((List UInt8) → (List UInt8) → Int → Option (Bool))) : Option (Bool) :=
  ((Vf p1 p5).bind fun a => (some ((decide (a ≥ 0)))))
set_option maxHeartbeats 40000000 in
theorem Yt (A2 : Option Addr) (c3 : Nat) (a : FuncId) (b : Array Value) (p1 : (List ((List UInt8) × (List UInt8) × Int))) (p5 : ((List UInt8) → (List UInt8) → Int → Option (Bool))) (w0 : World) (g : RdT (Qf Ql (Qf Ql (Q4 .i64))) w0 A2 c3 p1) (hcf8 : ∀ (args : Array Value) (w : World), (callFunc a args).run Tryz.prog w = .ok (.enter a args) w) (h : ∀ (y0 : (List UInt8)) (y1 : (List UInt8)) (y2 : Int) (z : (Bool)) (w : World), Below w0.heap.size w0 w → p5 y0 y1 y2 = some z → Calls Tryz.prog a (([(.agg #[(.string ⟨List.toArray y0⟩), (.string ⟨List.toArray y1⟩), (.int .i64 y2)])] : List Value) ++ (b).toList).toArray w (fun e w' => e = .returned (.bool z) ∧ SP [] w w' [])) (r : (Bool)) (H : Vb p1 p5 = some r) :
  Calls Tryz.prog 98 #[(.slice A2 (List.length p1) c3), (.func (.func a) #[] b)] w0 (fun e w' => e = .returned (.bool r) ∧ SP [] w0 w' []) := by
 unfold Vb at H
 refine Qv (n := 9) Tryz.func98 K K K ?_
 have d := Q1 [] w0
 refine aQ ?_
 refine aR ?_
 refine iR 1 1 [(4, (.bool false))] ?_
 refine iF ?_
 refine aQ ?_
 refine aR ?_
 refine iR 2 2 [(5, (.slice A2 (List.length p1) c3)), (6, (.func (.func a) #[] b))] ?_
 obtain ⟨c, i, H⟩ := Qd H
 refine iS 3 ?_
 refine cF 46 #[(.tmp 5), (.tmp 6)] #[31, 84] 7 Tryz.call46 (Z4 A2 c3 a b p1 p5 w0 (RdT.sp g d) hcf8 (fun y0 y1 y2 z w  hw  hz => h y0 y1 y2 z w  (Dd d hw)  hz) c i) ?_
 rintro e k ⟨rfl, f⟩
 refine ⟨_, rfl, ?_⟩
 have j := SP.call d f
 clear f
 refine iR 2 5 [(8, (.bool (decide (c ≥ 0)))), (4, (.bool (decide (c ≥ 0))))] ?_
 refine iF ?_
 refine At.ret K ?_
 refine ⟨(.bool (decide (c ≥ 0))), K, ?_⟩
 obtain rfl := Qg H
 exact ⟨rfl, SP.sel j [] rfl rfl⟩
def Qr (c : Int → Option (Int)) (p1 : (List Qb)) (p6 : ((List UInt8) → Int → Int → (List (Int × Int)) → (List ((List UInt8) × (List UInt8) × Int)) → Option (Bool))) (b : Int) : Option (Int) :=
  (cond (decide (b < ((List.length p1 : Nat) : Int))) ((idx p1 b).bind fun a => ((p6 a.1 a.2.1 a.2.2.1 a.2.2.2.1 a.2.2.2.2).bind fun d => (cond d (some (b)) (c (IntKind.wrap .i64 (b + 1)))))) (some ((-1))))
def Qk (p1 : (List Qb)) (p6 : ((List UInt8) → Int → Int → (List (Int × Int)) → (List ((List UInt8) × (List UInt8) × Int)) → Option (Bool))) : Nat → Int → Option (Int)
  | 0, _ => none
  | f + 1, a => Qr  (Qk p1 p6 f) p1 p6 a
def Vc (p1 : (List Qb)) (p6 : ((List UInt8) → Int → Int → (List (Int × Int)) → (List ((List UInt8) × (List UInt8) × Int)) → Option (Bool))) : Option (Int) :=
  (Qk p1 p6 Xx 0)
set_option maxHeartbeats 40000000 in
theorem Zt (A2 : Option Addr) (c3 : Nat) (h : FuncId) (i : Array Value) (d5 : (List Qh)) (p6 : ((List UInt8) → Int → Int → (List (Int × Int)) → (List ((List UInt8) × (List UInt8) × Int)) → Option (Bool))) (w0 : World) (m : (dDS V1 Fc).ok w0 (A2, c3, d5)) (hcf9 : ∀ (args : Array Value) (w : World), (callFunc h args).run Tryz.prog w = .ok (.enter h args) w) (a2 : ∀ (y0 : (List UInt8)) (y1 : Int) (y2 : Int) (y3 : (List (Int × Int))) (y4 : (List ((List UInt8) × (List UInt8) × Int))) (z : (Bool)) (w : World) (Ay3 : Option Addr) (cy3 : Nat) (Ay4 : Option Addr) (cy4 : Nat), Below w0.heap.size w0 w → RdT (Qf (Q4 .u32) (Q4 .i64)) w Ay3 cy3 y3 → RdT (Qf Ql (Qf Ql (Q4 .i64))) w Ay4 cy4 y4 → p6 y0 y1 y2 y3 y4 = some z → Calls Tryz.prog h (([(.agg #[(.string ⟨List.toArray y0⟩), (.int .i64 y1), (.int .i64 y2), (.slice Ay3 (List.length y3) cy3), (.slice Ay4 (List.length y4) cy4)])] : List Value) ++ (i).toList).toArray w (fun e w' => e = .returned (.bool z) ∧ SP [] w w' [])) (r : (Int)) (H : Vc (List.map stT d5) p6 = some r) :
  Calls Tryz.prog 44 #[(.slice A2 (List.length (List.map stT d5)) c3), (.func (.func h) #[] i)] w0 (fun e w' => e = .returned (.int .i64 r) ∧ SP [] w0 w' []) := by
 unfold Vc at H
 refine Qv (n := 19) Tryz.func44 K K K ?_
 have a3 := Q1 [] w0
 refine aQ ?_
 refine aR ?_
 refine iR 1 1 [(4, (.int .i64 0))] ?_
 refine iF ?_
 refine aQ ?_
 refine aQ ?_
 refine aR ?_
 refine iR 3 3 [(6, (.slice A2 (List.length (List.map stT d5)) c3)), (7, (.int .i64 ((List.length (List.map stT d5) : Nat) : Int))), (8, (.int .i64 0))] ?_
 refine iF ?_
 refine Y0 K (id := 0) K ?_
 refine G3 K (fun f1 ρ w => ∃ (g : Int), Zm ρ [(0, (.slice A2 (List.length (List.map stT d5)) c3)), (1, (.func (.func h) #[] i)), (7, (.int .i64 ((List.length (List.map stT d5) : Nat) : Int))), (8, (.int .i64 g))] ∧ SP [] w0 w [] ∧ Qk (List.map stT d5) p6 f1 g = some r) (by rintro ρ w ⟨g, hk, hs, H⟩; cases H) ?_ Xx ?_
 ·rintro f1 ρ a4 ⟨g, hk, j, H⟩
  refine At.known [(0, (.slice A2 (List.length (List.map stT d5)) c3)), (1, (.func (.func h) #[] i)), (7, (.int .i64 ((List.length (List.map stT d5) : Nat) : Int))), (8, (.int .i64 g))] hk ?_
  replace H := (show Qr (Qk (List.map stT d5) p6 f1) (List.map stT d5) p6 g = some r from H)
  unfold Qr at H
  refine aQ ?_
  refine aR ?_
  refine iR 1 1 [(9, (.bool (decide (g < ((List.length (List.map stT d5) : Nat) : Int)))))] ?_
  refine iF ?_
  refine aQ ?_
  refine Xe K (o := (.tmp 9)) K (b := (decide (g < ((List.length (List.map stT d5) : Nat) : Int)))) K (fun p => ?_) (fun p => ?_)
  ·have H := ct H p
   refine At.skip K ?_
   refine aQ ?_
   refine Y0 K (id := 1) K ?_
   refine aQ ?_
   refine aR ?_
   refine iR 2 2 [(10, (.int .i64 g)), (5, (.int .i64 g))] ?_
   refine iF ?_
   refine aQ ?_
   refine aR ?_
   refine iR 3 3 [(11, (.func (.func h) #[] i)), (12, (.slice A2 (List.length (List.map stT d5)) c3)), (13, (.int .i64 g))] ?_
   obtain ⟨a, u, v, q, H⟩ := J6 H
   refine iS 4 ?_
   refine Yu stT (e := V1) (l := d5) (A := A2) (c := c3) (T := 22) (E := 33) (x := (.tmp 12)) (ix := (.tmp 13)) (ki := .i64) (iz := g) (d := (some 14)) (k := 3) K rfl K K K K (RdT.sp (Yh m) j) u v ?_
   intro a5 a6 a7 a9 hc59
   refine iS 5 ?_
   refine Qi.cells (t := 33) (x := (.tmp 14)) (b := a5) (off := (a6 + Int.toNat g * V1.sz)) (xs := [(.string ⟨List.toArray (stT a).1⟩), (.int .i64 (stT a).2.1), (.int .i64 (stT a).2.2.1), (.slice a.2.2.2.1.1 (List.length (stT a).2.2.2.1) a.2.2.2.1.2.1), (.slice a.2.2.2.2.1 (List.length (stT a).2.2.2.2) a.2.2.2.2.2.1)]) (d := (some 15)) (k := 4) K rfl K K K (Vv (e := V1) (Qj (RdT.sp (Yh m) j) a7 u v) q rfl) ?_
   obtain ⟨y, a8, H⟩ := Qd H
   refine iS 6 ?_
   refine X0 (f := h) (fo := (.tmp 11)) (xs := #[(.tmp 15)]) (tys := #[33]) (first := #[]) (captured := i) (args := (([(.agg #[(.string ⟨List.toArray (stT a).1⟩), (.int .i64 (stT a).2.1), (.int .i64 (stT a).2.2.1), (.slice a.2.2.2.1.1 (List.length (stT a).2.2.2.1) a.2.2.2.1.2.1), (.slice a.2.2.2.2.1 (List.length (stT a).2.2.2.2) a.2.2.2.2.2.1)])] : List Value) ++ (i).toList)) (d := (some 16)) (k := 5) K rfl K K hcf9 (a2 (stT a).1 (stT a).2.1 (stT a).2.2.1 (stT a).2.2.2.1 (stT a).2.2.2.2 y a4 a.2.2.2.1.1 a.2.2.2.1.2.1 a.2.2.2.2.1 a.2.2.2.2.2.1 (SP.keeps j) (RdT.sp (Yh (dp1 (dp2 (dp2 (dp2 (Gr m q)))))) j) (RdT.sp (Yh (dp2 (dp2 (dp2 (dp2 (Gr m q)))))) j) a8) ?_
   rintro e b0 ⟨rfl, a0⟩
   refine ⟨_, rfl, ?_⟩
   have a1 := SP.call j a0
   clear a0
   refine iF ?_
   refine Xe K (o := (.tmp 16)) K (b := y) K (fun s => ?_) (fun s => ?_)
   ·have H := ct H s
    refine aQ ?_
    refine aR ?_
    refine iR 2 2 [(17, (.int .i64 g)), (4, (.int .i64 g))] ?_
    refine iF ?_
    refine At.ret K ?_
    refine ⟨(.int .i64 g), K, ?_⟩
    obtain rfl := Qg H
    exact ⟨rfl, SP.sel a1 [] rfl rfl⟩
   ·have H := cf H s
    refine At.skip K ?_
    refine aR ?_
    refine iR 2 2 [(18, (.int .i64 (IntKind.wrap .i64 (g + 1)))), (8, (.int .i64 (IntKind.wrap .i64 (g + 1))))] ?_
    refine iF ?_
    exact ⟨(IntKind.wrap .i64 (g + 1)), ⟨K, K, K, K, trivial⟩, SP.sel a1 [] rfl rfl, H⟩
  ·have H := cf H p
   refine At.exit K (id := 0) K ?_
   refine aQ ?_
   refine aR ?_
   refine iR 1 1 [(4, (.int .i64 (-1)))] ?_
   refine iF ?_
   refine At.ret K ?_
   refine ⟨(.int .i64 (-1)), K, ?_⟩
   obtain rfl := Qg H
   exact ⟨rfl, SP.sel j [] rfl rfl⟩
 ·exact ⟨0, ⟨K, K, K, K, trivial⟩, SP.sel a3 [] rfl rfl, H⟩
def Q7 (p1 : (List Qb)) (p6 : ((List UInt8) → Int → Int → (List (Int × Int)) → (List ((List UInt8) × (List UInt8) × Int)) → Option (Bool))) : Option (Bool) :=
  ((Vc p1 p6).bind fun a => (some ((decide (a ≥ 0)))))
set_option maxHeartbeats 40000000 in
theorem Yj (A2 : Option Addr) (c3 : Nat) (a : FuncId) (b : Array Value) (d5 : (List Qh)) (p6 : ((List UInt8) → Int → Int → (List (Int × Int)) → (List ((List UInt8) × (List UInt8) × Int)) → Option (Bool))) (w0 : World) (g : (dDS V1 Fc).ok w0 (A2, c3, d5)) (hcf9 : ∀ (args : Array Value) (w : World), (callFunc a args).run Tryz.prog w = .ok (.enter a args) w) (h : ∀ (y0 : (List UInt8)) (y1 : Int) (y2 : Int) (y3 : (List (Int × Int))) (y4 : (List ((List UInt8) × (List UInt8) × Int))) (z : (Bool)) (w : World) (Ay3 : Option Addr) (cy3 : Nat) (Ay4 : Option Addr) (cy4 : Nat), Below w0.heap.size w0 w → RdT (Qf (Q4 .u32) (Q4 .i64)) w Ay3 cy3 y3 → RdT (Qf Ql (Qf Ql (Q4 .i64))) w Ay4 cy4 y4 → p6 y0 y1 y2 y3 y4 = some z → Calls Tryz.prog a (([(.agg #[(.string ⟨List.toArray y0⟩), (.int .i64 y1), (.int .i64 y2), (.slice Ay3 (List.length y3) cy3), (.slice Ay4 (List.length y4) cy4)])] : List Value) ++ (b).toList).toArray w (fun e w' => e = .returned (.bool z) ∧ SP [] w w' [])) (r : (Bool)) (H : Q7 (List.map stT d5) p6 = some r) :
  Calls Tryz.prog 49 #[(.slice A2 (List.length (List.map stT d5)) c3), (.func (.func a) #[] b)] w0 (fun e w' => e = .returned (.bool r) ∧ SP [] w0 w' []) := by
 unfold Q7 at H
 refine Qv (n := 9) Tryz.func49 K K K ?_
 have d := Q1 [] w0
 refine aQ ?_
 refine aR ?_
 refine iR 1 1 [(4, (.bool false))] ?_
 refine iF ?_
 refine aQ ?_
 refine aR ?_
 refine iR 2 2 [(5, (.slice A2 (List.length (List.map stT d5)) c3)), (6, (.func (.func a) #[] b))] ?_
 obtain ⟨c, i, H⟩ := Qd H
 refine iS 3 ?_
 refine cF 44 #[(.tmp 5), (.tmp 6)] #[22, 82] 7 Tryz.call44 (Zt A2 c3 a b d5 p6 w0 (Dp.sp g d) hcf9 (fun y0 y1 y2 y3 y4 z w Ay3 cy3 Ay4 cy4 hw hy3 hy4 hz => h y0 y1 y2 y3 y4 z w Ay3 cy3 Ay4 cy4 (Dd d hw) hy3 hy4 hz) c i) ?_
 rintro e k ⟨rfl, f⟩
 refine ⟨_, rfl, ?_⟩
 have j := SP.call d f
 clear f
 refine iR 2 5 [(8, (.bool (decide (c ≥ 0)))), (4, (.bool (decide (c ≥ 0))))] ?_
 refine iF ?_
 refine At.ret K ?_
 refine ⟨(.bool (decide (c ≥ 0))), K, ?_⟩
 obtain rfl := Qg H
 exact ⟨rfl, SP.sel j [] rfl rfl⟩
def X2 (a : Int) (b : Int) : Option (Bool) :=
  ((Je a b).bind fun z7 => (some ((z7 == ([] : List UInt8)))))
set_option maxHeartbeats 40000000 in
theorem Ru  (c : Int) (f : Int) (w0 : World) (hL : U9 w0)  (r : (Bool)) (H : X2 c f = some r) :
  Calls Tryz.prog 97 #[(.agg #[(.int .u32 c), (.int .i64 f)])] w0 (fun e w' => e = .returned (.bool r) ∧ SP [] w0 w' []) := by
 unfold X2 at H
 refine Qv (n := 6) Tryz.func97 K K K ?_
 have i := Q1 [] w0
 refine aQ ?_
 refine aR ?_
 refine iS 1 ?_
 refine Z0 (t := 102) (x := (.tmp 0)) (v := (.agg #[(.int .u32 c), (.int .i64 f)])) (d := (some 1)) (k := 0) K rfl K i ?_
 intro g3 w4 g
 refine iR 1 2 [(2, (.bool false))] ?_
 refine iF ?_
 refine aQ ?_
 refine aR ?_
 refine iS 1 ?_
 refine sL 102 1 g3 0 0 (.agg #[(.int .u32 c), (.int .i64 f)]) 3 g rfl ?_
 obtain ⟨z7, j, H⟩ := Qd H
 refine iS 2 ?_
 refine cF 60 #[(.tmp 3)] #[102] 4 Tryz.call60 (N1  c f w4 (Q0 hL (SP.keeps g)) z7 j) ?_
 rintro e w9 ⟨rfl, h⟩
 refine ⟨_, rfl, ?_⟩
 have l := SP.call g h
 clear h
 refine iS 3 ?_
 refine Xp (op := .eql) (T := 9) (T' := 9) (x := (.tmp 4)) (y := (.const (.string ⟨List.toArray ([] : List UInt8)⟩))) (a := z7) (b := ([] : List UInt8)) (r := (.bool (z7 == ([] : List UInt8)))) (d := (some 5)) (k := 2) K rfl K K rfl ?_
 refine iR 1 4 [(2, (.bool (z7 == ([] : List UInt8))))] ?_
 refine iF ?_
 refine At.ret K ?_
 refine ⟨(.bool (z7 == ([] : List UInt8))), K, ?_⟩
 obtain rfl := Qg H
 exact ⟨rfl, SP.sel l [] rfl rfl⟩
def X3 (a : Bool) : Option (Bool) :=
  (some (a))
def J7 (a : (List UInt8)) (b : (List UInt8)) (c : Int) : Option (Bool) :=
  ((Yg a).bind fun d => (cond d ((Z3 ((List.length b : Nat) : Int) 1 32).bind fun e => (cond e ((Z3 c 0 1099511627776).bind fun f => (X3 f)) (X3 false))) (X3 false)))
set_option maxHeartbeats 40000000 in
theorem D0  (f : (List UInt8)) (a : (List UInt8)) (g : Int) (w0 : World)  (r : (Bool)) (H : J7 f a g = some r) :
  Calls Tryz.prog 100 #[(.agg #[(.string ⟨List.toArray f⟩), (.string ⟨List.toArray a⟩), (.int .i64 g)])] w0 (fun e w' => e = .returned (.bool r) ∧ SP [] w0 w' []) := by
 unfold J7 at H
 refine Qv (n := 17) Tryz.func100 K K K ?_
 have a0 := Q1 [] w0
 refine aQ ?_
 refine aR ?_
 refine iS 1 ?_
 refine Z0 (t := 37) (x := (.tmp 0)) (v := (.agg #[(.string ⟨List.toArray f⟩), (.string ⟨List.toArray a⟩), (.int .i64 g)])) (d := (some 1)) (k := 0) K rfl K a0 ?_
 intro g4 w5 s
 refine iR 1 2 [(2, (.bool false))] ?_
 refine iF ?_
 refine aQ ?_
 refine At.join (fun ρ w => ∃ (c : Bool), Zm ρ [(2, (.bool c))] ∧ SP [] w0 w [] ∧ X3 c = some r) ?_ ?_
 ·refine aR ?_
  refine iR 1 1 [(3, (pt g4 0))] ?_
  refine iS 2 ?_
  refine sL 9 3 g4 0 0 (.string ⟨List.toArray f⟩) 4 s rfl ?_
  obtain ⟨j, a1, H⟩ := Qd H
  refine iS 3 ?_
  refine cF 101 #[(.tmp 4)] #[9] 5 Tryz.call101 (Gf  f w5  j a1) ?_
  rintro e a2 ⟨rfl, u⟩
  refine ⟨_, rfl, ?_⟩
  have m := SP.call s u
  clear u
  refine iR 1 4 [(6, (.bool j))] ?_
  refine In.guard (t := 6) (b := j) K (fun o => ?_) (fun o => ?_)
  ·have H := ct H o
   refine iR 1 5 [(7, (pt g4 1))] ?_
   refine iS 6 ?_
   refine sL 9 7 g4 1 0 (.string ⟨List.toArray a⟩) 8 m rfl ?_
   refine iR 1 7 [(9, (.int .i64 ((List.length a : Nat) : Int)))] ?_
   obtain ⟨h, a3, H⟩ := Qd H
   refine iS 8 ?_
   refine cF 48 #[(.tmp 9), (.const (.int .i64 (1))), (.const (.int .i64 (32)))] #[2, 2, 2] 10 Tryz.call48 (Xv  ((List.length a : Nat) : Int) 1 32 a2  h a3) ?_
   rintro e a4 ⟨rfl, y⟩
   refine ⟨_, rfl, ?_⟩
   have p := SP.call m y
   clear y
   refine iR 2 10 [(11, (.bool h)), (12, (.bool h))] ?_
   refine In.guard (t := 12) (b := h) K (fun q => ?_) (fun q => ?_)
   ·have H := ct H q
    refine iR 1 11 [(13, (pt g4 2))] ?_
    refine iS 12 ?_
    refine sL 2 13 g4 2 0 (.int .i64 g) 14 p rfl ?_
    obtain ⟨i, a5, H⟩ := Qd H
    refine iS 13 ?_
    refine cF 48 #[(.tmp 14), (.const (.int .i64 (0))), (.const (.int .i64 (1099511627776)))] #[2, 2, 2] 15 Tryz.call48 (Xv  g 0 1099511627776 a4  i a5) ?_
    rintro e a8 ⟨rfl, z⟩
    refine ⟨_, rfl, ?_⟩
    have a6 := SP.call p z
    clear z
    refine iR 2 15 [(16, (.bool i)), (2, (.bool i))] ?_
    refine iF ?_
    exact ⟨i, ⟨K, trivial⟩, SP.sel a6 [] rfl rfl, H⟩
   ·have H := cf H q
    refine iR 5 15 [(13, undef), (14, undef), (15, undef), (16, (.bool false)), (2, (.bool false))] ?_
    refine iF ?_
    exact ⟨false, ⟨K, trivial⟩, SP.sel p [] rfl rfl, H⟩
  ·have H := cf H o
   refine iR 11 15 [(7, undef), (8, undef), (9, undef), (10, undef), (11, (.bool false)), (12, (.bool false)), (13, undef), (14, undef), (15, undef), (16, (.bool false)), (2, (.bool false))] ?_
   refine iF ?_
   exact ⟨false, ⟨K, trivial⟩, SP.sel m [] rfl rfl, H⟩
 ·rintro ρ a9 ⟨c, hk, a7, H⟩
  unfold X3 at H
  first | refine At.known [(2, (.bool c))] hk ?_ | rw [← Q3 (l := [(2, (.bool c))]) hk]
  refine At.ret K ?_
  refine ⟨(.bool c), K, ?_⟩
  obtain rfl := Qg H
  exact ⟨rfl, SP.sel a7 [] rfl rfl⟩
def Yv (a : (List UInt8)) (b : (List UInt8)) (c : Int) : Option (Bool) :=
  ((J7 a b c).bind fun z8 => (some ((!z8))))
set_option maxHeartbeats 40000000 in
theorem Rv  (a : (List UInt8)) (b : (List UInt8)) (c : Int) (w0 : World)  (r : (Bool)) (H : Yv a b c = some r) :
  Calls Tryz.prog 99 #[(.agg #[(.string ⟨List.toArray a⟩), (.string ⟨List.toArray b⟩), (.int .i64 c)])] w0 (fun e w' => e = .returned (.bool r) ∧ SP [] w0 w' []) := by
 unfold Yv at H
 refine Qv (n := 6) Tryz.func99 K K K ?_
 have h := Q1 [] w0
 refine aQ ?_
 refine aR ?_
 refine iS 1 ?_
 refine Z0 (t := 37) (x := (.tmp 0)) (v := (.agg #[(.string ⟨List.toArray a⟩), (.string ⟨List.toArray b⟩), (.int .i64 c)])) (d := (some 1)) (k := 0) K rfl K h ?_
 intro g4 w5 f
 refine iR 1 2 [(2, (.bool false))] ?_
 refine iF ?_
 refine aQ ?_
 refine aR ?_
 refine iS 1 ?_
 refine sL 37 1 g4 0 0 (.agg #[(.string ⟨List.toArray a⟩), (.string ⟨List.toArray b⟩), (.int .i64 c)]) 3 f rfl ?_
 obtain ⟨z8, i, H⟩ := Qd H
 refine iS 2 ?_
 refine cF 100 #[(.tmp 3)] #[37] 4 Tryz.call100 (D0  a b c w5  z8 i) ?_
 rintro e l ⟨rfl, g⟩
 refine ⟨_, rfl, ?_⟩
 have j := SP.call f g
 clear g
 refine iR 2 4 [(5, (.bool (!z8))), (2, (.bool (!z8)))] ?_
 refine iF ?_
 refine At.ret K ?_
 refine ⟨(.bool (!z8)), K, ?_⟩
 obtain rfl := Qg H
 exact ⟨rfl, SP.sel j [] rfl rfl⟩
def Vl (d : Int → Option (Bool)) (p1 : (List ((List UInt8) × (List UInt8) × Int))) (p5 : ((List UInt8) → (List UInt8) → Int → Option ((List UInt8)))) (a : Int) : Option (Bool) :=
  (cond (decide (a < ((List.length p1 : Nat) : Int))) ((idx p1 (IntKind.wrap .i64 (a - 1))).bind fun b => ((p5 b.1 b.2.1 b.2.2).bind fun e => ((idx p1 a).bind fun c => ((p5 c.1 c.2.1 c.2.2).bind fun f => (cond (!(Op.bytesLess e f)) (some (false)) (d (IntKind.wrap .i64 (a + 1)))))))) (some (true)))
def Vm (p1 : (List ((List UInt8) × (List UInt8) × Int))) (p5 : ((List UInt8) → (List UInt8) → Int → Option ((List UInt8)))) : Nat → Int → Option (Bool)
  | 0, _ => none
  | f + 1, a => Vl  (Vm p1 p5 f) p1 p5 a
def Zo (p1 : (List ((List UInt8) × (List UInt8) × Int))) (p5 : ((List UInt8) → (List UInt8) → Int → Option ((List UInt8)))) : Option (Bool) :=
  (Vm p1 p5 Xx 1)
set_option maxHeartbeats 40000000 in
theorem Na (A2 : Option Addr) (c3 : Nat) (m : FuncId) (p : Array Value) (p1 : (List ((List UInt8) × (List UInt8) × Int))) (p5 : ((List UInt8) → (List UInt8) → Int → Option ((List UInt8)))) (w0 : World) (a0 : RdT (Qf Ql (Qf Ql (Q4 .i64))) w0 A2 c3 p1) (hcf8 : ∀ (args : Array Value) (w : World), (callFunc m args).run Tryz.prog w = .ok (.enter m args) w) (a7 : ∀ (y0 : (List UInt8)) (y1 : (List UInt8)) (y2 : Int) (z : ((List UInt8))) (w : World), Below w0.heap.size w0 w → p5 y0 y1 y2 = some z → Calls Tryz.prog m (([(.agg #[(.string ⟨List.toArray y0⟩), (.string ⟨List.toArray y1⟩), (.int .i64 y2)])] : List Value) ++ (p).toList).toArray w (fun e w' => e = .returned (.string ⟨List.toArray z⟩) ∧ SP [] w w' [])) (r : (Bool)) (H : Zo p1 p5 = some r) :
  Calls Tryz.prog 102 #[(.slice A2 (List.length p1) c3), (.func (.func m) #[] p)] w0 (fun e w' => e = .returned (.bool r) ∧ SP [] w0 w' []) := by
 unfold Zo at H
 refine Qv (n := 26) Tryz.func102 K K K ?_
 have b6 := Q1 [] w0
 refine aQ ?_
 refine aR ?_
 refine iR 1 1 [(4, (.bool false))] ?_
 refine iF ?_
 refine aQ ?_
 refine aQ ?_
 refine aR ?_
 refine iR 1 1 [(5, (.int .i64 1))] ?_
 refine iF ?_
 refine Y0 K (id := 0) K ?_
 refine G3 K (fun f1 ρ w => ∃ (g : Int), Zm ρ [(0, (.slice A2 (List.length p1) c3)), (1, (.func (.func m) #[] p)), (5, (.int .i64 g))] ∧ SP [] w0 w [] ∧ Vm p1 p5 f1 g = some r) (by rintro ρ w ⟨g, hk, hs, H⟩; cases H) ?_ Xx ?_
 ·rintro f1 ρ f3 ⟨g, hk, a8, H⟩
  refine At.known [(0, (.slice A2 (List.length p1) c3)), (1, (.func (.func m) #[] p)), (5, (.int .i64 g))] hk ?_
  replace H := (show Vl (Vm p1 p5 f1) p1 p5 g = some r from H)
  unfold Vl at H
  refine aQ ?_
  refine aQ ?_
  refine aR ?_
  refine iR 4 4 [(6, (.int .i64 g)), (7, (.slice A2 (List.length p1) c3)), (8, (.int .i64 ((List.length p1 : Nat) : Int))), (9, (.bool (decide (g < ((List.length p1 : Nat) : Int)))))] ?_
  refine iF ?_
  refine Xe K (o := (.tmp 9)) K (b := (decide (g < ((List.length p1 : Nat) : Int)))) K (fun a3 => ?_) (fun a3 => ?_)
  ·have H := ct H a3
   refine At.skip K ?_
   refine aQ ?_
   refine Y0 K (id := 1) K ?_
   refine aQ ?_
   obtain ⟨s, a9, b0, b7, H⟩ := Ve H
   obtain ⟨u, b8, H⟩ := Qd H
   obtain ⟨q, a1, a2, b1, H⟩ := Ve H
   obtain ⟨v, b9, H⟩ := Qd H
   refine aG [GEq (.func (.func m) #[] p), GEq (.slice A2 (List.length p1) c3), GEq (.int .i64 g), GEq (.int .i64 (IntKind.wrap .i64 (g - 1))), Yb A2 (Qf Ql (Qf Ql (Q4 .i64))).sz (IntKind.wrap .i64 (g - 1)), GEq (.agg #[(.string ⟨List.toArray s.1⟩), (.string ⟨List.toArray s.2.1⟩), (.int .i64 s.2.2)]), GEq (.string ⟨List.toArray u⟩), GEq (.func (.func m) #[] p), GEq (.slice A2 (List.length p1) c3), GEq (.int .i64 g), Yb A2 (Qf Ql (Qf Ql (Q4 .i64))).sz g, GEq (.agg #[(.string ⟨List.toArray q.1⟩), (.string ⟨List.toArray q.2.1⟩), (.int .i64 q.2.2)]), GEq (.string ⟨List.toArray v⟩), GEq (.bool (!(Op.bytesLess u v)))] [6, 12] (tG [] w0 [] [([], []), ([6], [(.string ⟨List.toArray u⟩)]), ([6, 12], [(.string ⟨List.toArray u⟩), (.string ⟨List.toArray v⟩)])]) 14 2 ⟨trivial, SP.drew a8⟩ ?_ ?_
   iterate 14 refine And.intro ?_ ?_
   exact trivial
   ·exact oV (hC (hS 1 (.func (.func m) #[] p)) (h0)) (.func (.func m) #[] p)
   ·exact oV (hC (hS 0 (.slice A2 (List.length p1) c3)) (h0)) (.slice A2 (List.length p1) c3)
   ·exact oV (hC (hS 5 (.int .i64 g)) (h0)) (.int .i64 g)
   ·exact oV (hC (hA 2 14) (h0)) (.int .i64 (IntKind.wrap .i64 (g - 1)))
   ·refine oL 0 ?_
    ·rintro ρ' w' hs i ⟨f4, c0⟩
     refine kM (kc (kA i 1 13) (kc (kA i 3 15) k0)) fun j => ?_
     refine Qn (e := (Qf Ql (Qf Ql (Q4 .i64)))) (l := p1) (A := A2) (c := c3) (T := 31) (E := 37) (x := (.tmp 13)) (ix := (.tmp 15)) (ki := .i64) (iz := (IntKind.wrap .i64 (g - 1))) (d := (some 16)) (k := 4) K rfl K K K K (RdT.sp a0 c0) a9 b0 ?_
     intro c1 c2 c4 f5 hc269
     exact ⟨rfl, _, Qa j, ⟨c1, c2, c4, rfl⟩⟩
   ·refine oL 0 ?_
    ·rintro ρ' w' hs i ⟨f6, c5⟩
     obtain ⟨c6, c7, c8, c9⟩ := i 4 16 K
     refine kM (kc c9 k0) fun j => ?_
     refine Qi.cells (t := 37) (x := (.tmp 16)) (b := c6) (off := (c7 + Int.toNat (IntKind.wrap .i64 (g - 1)) * (Qf Ql (Qf Ql (Q4 .i64))).sz)) (xs := [(.string ⟨List.toArray s.1⟩), (.string ⟨List.toArray s.2.1⟩), (.int .i64 s.2.2)]) (d := (some 17)) (k := 5) K rfl K K K (Vv (e := (Qf Ql (Qf Ql (Q4 .i64)))) (Qj (RdT.sp a0 c5) c8 a9 b0) b7 rfl) ?_
     exact eK j
   ·refine oH 0 1 ?_
    ·rintro ρ' w' hs i ⟨f7, b2⟩
     refine kM (kc (kA i 0 12) (kc (kA i 5 17) k0)) fun j => ?_
     refine X0 (f := m) (fo := (.tmp 12)) (xs := #[(.tmp 17)]) (tys := #[37]) (first := #[]) (captured := p) (args := (([(.agg #[(.string ⟨List.toArray s.1⟩), (.string ⟨List.toArray s.2.1⟩), (.int .i64 s.2.2)])] : List Value) ++ (p).toList)) (d := (some 18)) (k := 6) K rfl K K hcf8 (a7 s.1 s.2.1 s.2.2 u w'  (SP.keeps b2)  b8) ?_
     rintro e f8 ⟨rfl, b3⟩
     refine ⟨_, rfl, ?_⟩
     have d0 := SP.call b2 b3
     clear b3
     refine ⟨_, Qa j, rfl, ?_⟩
     exact (And.intro (And.intro rfl (trivial)) d0)
   ·exact oV (hC (hS 1 (.func (.func m) #[] p)) (h0)) (.func (.func m) #[] p)
   ·exact oV (hC (hS 0 (.slice A2 (List.length p1) c3)) (h0)) (.slice A2 (List.length p1) c3)
   ·exact oV (hC (hS 5 (.int .i64 g)) (h0)) (.int .i64 g)
   ·refine Owe.light K [0, 1] K (Qc ?_ (Qc ?_ Q8))
    ·rintro ρ' w' hs i ⟨f9, d1⟩
     refine kM (kc (kA i 8 20) (kc (kA i 9 21) k0)) fun j => ?_
     refine Qn (e := (Qf Ql (Qf Ql (Q4 .i64)))) (l := p1) (A := A2) (c := c3) (T := 31) (E := 37) (x := (.tmp 20)) (ix := (.tmp 21)) (ki := .i64) (iz := g) (d := (some 22)) (k := 10) K rfl K K K K (RdT.sp a0 d1) a1 a2 ?_
     intro d2 d3 d4 g0 hc287
     exact ⟨rfl, _, Qa j, ⟨d2, d3, d4, rfl⟩⟩
    ·rintro ρ' w' hs i ⟨⟨g1, -⟩, d5⟩
     refine kM (kc (kA i 8 20) (kc (kA i 9 21) k0)) fun j => ?_
     refine Qn (e := (Qf Ql (Qf Ql (Q4 .i64)))) (l := p1) (A := A2) (c := c3) (T := 31) (E := 37) (x := (.tmp 20)) (ix := (.tmp 21)) (ki := .i64) (iz := g) (d := (some 22)) (k := 10) K rfl K K K K (RdT.sp a0 d5) a1 a2 ?_
     intro d6 d7 d8 g2 hc295
     exact ⟨rfl, _, Qa j, ⟨d6, d7, d8, rfl⟩⟩
   ·refine Owe.light K [0, 1] K (Qc ?_ (Qc ?_ Q8))
    ·rintro ρ' w' hs i ⟨g3, d9⟩
     obtain ⟨e0, e1, e2, a4⟩ := i 10 22 K
     refine kM (kc a4 k0) fun j => ?_
     refine Qi.cells (t := 37) (x := (.tmp 22)) (b := e0) (off := (e1 + Int.toNat g * (Qf Ql (Qf Ql (Q4 .i64))).sz)) (xs := [(.string ⟨List.toArray q.1⟩), (.string ⟨List.toArray q.2.1⟩), (.int .i64 q.2.2)]) (d := (some 23)) (k := 11) K rfl K K K (Vv (e := (Qf Ql (Qf Ql (Q4 .i64)))) (Qj (RdT.sp a0 d9) e2 a1 a2) b1 rfl) ?_
     exact eK j
    ·rintro ρ' w' hs i ⟨⟨g4, -⟩, e3⟩
     obtain ⟨e4, e5, e6, a4⟩ := i 10 22 K
     refine kM (kc a4 k0) fun j => ?_
     refine Qi.cells (t := 37) (x := (.tmp 22)) (b := e4) (off := (e5 + Int.toNat g * (Qf Ql (Qf Ql (Q4 .i64))).sz)) (xs := [(.string ⟨List.toArray q.1⟩), (.string ⟨List.toArray q.2.1⟩), (.int .i64 q.2.2)]) (d := (some 23)) (k := 11) K rfl K K K (Vv (e := (Qf Ql (Qf Ql (Q4 .i64)))) (Qj (RdT.sp a0 e3) e6 a1 a2) b1 rfl) ?_
     exact eK j
   ·refine oH 1 2 ?_
    ·rintro ρ' w' hs i ⟨⟨e7, -⟩, b4⟩
     refine kM (kc (kA i 7 19) (kc (kA i 11 23) k0)) fun j => ?_
     refine X0 (f := m) (fo := (.tmp 19)) (xs := #[(.tmp 23)]) (tys := #[37]) (first := #[]) (captured := p) (args := (([(.agg #[(.string ⟨List.toArray q.1⟩), (.string ⟨List.toArray q.2.1⟩), (.int .i64 q.2.2)])] : List Value) ++ (p).toList)) (d := (some 24)) (k := 12) K rfl K K hcf8 (a7 q.1 q.2.1 q.2.2 v w'  (SP.keeps b4)  b9) ?_
     rintro e g5 ⟨rfl, b5⟩
     refine ⟨_, rfl, ?_⟩
     have e8 := SP.call b4 b5
     clear b5
     refine ⟨_, Qa j, rfl, ?_⟩
     exact (And.intro (And.intro e7 (And.intro rfl (trivial))) e8)
   ·refine oL 2 ?_
    ·rintro ρ' w' hs i ⟨⟨e9, f0, -⟩, g6⟩
     refine kN [(18, (.string ⟨List.toArray u⟩)), (24, (.string ⟨List.toArray v⟩))] ⟨(Vo (h := 6) K).symm.trans e9, (Vo (h := 12) K).symm.trans f0, trivial⟩ fun j => ?_
     refine Xp (op := .geq) (T := 9) (T' := 9) (x := (.tmp 18)) (y := (.tmp 24)) (a := u) (b := v) (r := (.bool (!(Op.bytesLess u v)))) (d := (some 25)) (k := 13) K rfl K K rfl ?_
     exact eK j
   ·rintro ρ' w' hs hf ⟨⟨g7, g8, -⟩, a5⟩
    refine V2 [(0, (.slice A2 (List.length p1) c3)), (1, (.func (.func m) #[] p)), (5, (.int .i64 g)), (25, (.bool (!(Op.bytesLess u v))))] ⟨(hs 0 K).trans K, (hs 1 K).trans K, (hs 5 K).trans K, hf 13 25 K, trivial⟩ ?_
    obtain ⟨g9, f2⟩ : ∃ x, w' = x := ⟨_, rfl⟩
    rw [f2] at a5 ⊢
    refine Xe K (o := (.tmp 25)) K (b := (!(Op.bytesLess u v))) K (fun a6 => ?_) (fun a6 => ?_)
    ·have H := ct H a6
     refine aQ ?_
     refine aR ?_
     refine iR 1 1 [(4, (.bool false))] ?_
     refine iF ?_
     refine At.ret K ?_
     refine ⟨(.bool false), K, ?_⟩
     obtain rfl := Qg H
     exact ⟨rfl, SP.sel a5 [] rfl rfl⟩
    ·have H := cf H a6
     refine At.skip K ?_
     refine aR ?_
     refine iR 3 3 [(10, (.int .i64 g)), (11, (.int .i64 (IntKind.wrap .i64 (g + 1)))), (5, (.int .i64 (IntKind.wrap .i64 (g + 1))))] ?_
     refine iF ?_
     exact ⟨(IntKind.wrap .i64 (g + 1)), ⟨K, K, K, trivial⟩, SP.sel a5 [] rfl rfl, H⟩
  ·have H := cf H a3
   refine At.exit K (id := 0) K ?_
   refine aQ ?_
   refine aR ?_
   refine iR 1 1 [(4, (.bool true))] ?_
   refine iF ?_
   refine At.ret K ?_
   refine ⟨(.bool true), K, ?_⟩
   obtain rfl := Qg H
   exact ⟨rfl, SP.sel a8 [] rfl rfl⟩
 ·exact ⟨1, ⟨K, K, K, trivial⟩, SP.sel b6 [] rfl rfl, H⟩
def Jv (a : (List UInt8)) (b : (List UInt8)) (c : Int) : Option ((List UInt8)) :=
  (some (a))
set_option maxHeartbeats 40000000 in
theorem Rw  (a : (List UInt8)) (b : (List UInt8)) (c : Int) (w0 : World)  (r : ((List UInt8))) (H : Jv a b c = some r) :
  Calls Tryz.prog 103 #[(.agg #[(.string ⟨List.toArray a⟩), (.string ⟨List.toArray b⟩), (.int .i64 c)])] w0 (fun e w' => e = .returned (.string ⟨List.toArray r⟩) ∧ SP [] w0 w' []) := by
 unfold Jv at H
 refine Qv (n := 5) Tryz.func103 K K K ?_
 have g := Q1 [] w0
 refine aQ ?_
 refine aR ?_
 refine iS 1 ?_
 refine Z0 (t := 37) (x := (.tmp 0)) (v := (.agg #[(.string ⟨List.toArray a⟩), (.string ⟨List.toArray b⟩), (.int .i64 c)])) (d := (some 1)) (k := 0) K rfl K g ?_
 intro g4 w5 f
 refine iR 1 2 [(2, (.string ⟨List.toArray ([] : List UInt8)⟩))] ?_
 refine iF ?_
 refine aQ ?_
 refine aR ?_
 refine iR 1 1 [(3, (pt g4 0))] ?_
 refine iS 2 ?_
 refine sL 9 3 g4 0 0 (.string ⟨List.toArray a⟩) 4 f rfl ?_
 refine iR 1 3 [(2, (.string ⟨List.toArray a⟩))] ?_
 refine iF ?_
 refine At.ret K ?_
 refine ⟨(.string ⟨List.toArray a⟩), K, ?_⟩
 obtain rfl := Qg H
 exact ⟨rfl, SP.sel f [] rfl rfl⟩
def Xq (a : Bool) : Option (Bool) :=
  (some (a))
def Xr (a : Int) (b : Int) (c : (List ((List UInt8) × (List UInt8) × Int))) (d : Bool) : Option (Bool) :=
  (cond d (some (false)) ((Z3 a 0 8).bind fun e => (cond e ((Z3 b 0 8).bind fun f => (cond f ((Zo c (fun y0 y1 y2 => Jv y0 y1 y2)).bind fun g => (Xq g)) (Xq false))) (Xq false))))
def Yk (a : Int) (b : Int) (c : (List ((List UInt8) × (List UInt8) × Int))) (d : Bool) : Option (Bool) :=
  (Xr a b c d)
def Yl (a : Int) (b : Int) (c : (List ((List UInt8) × (List UInt8) × Int))) (d : Bool) : Option (Bool) :=
  (Yk a b c d)
def Xs (g : (List UInt8)) (b : Int) (c : Int) (d : (List (Int × Int))) (a : (List ((List UInt8) × (List UInt8) × Int))) (e : Bool) : Option (Bool) :=
  (cond e (Xr b c a e) ((Yg g).bind fun f => (cond (!f) (Yk b c a (!f)) (cond (decide (((List.length d : Nat) : Int) > 4)) (Yl b c a (decide (((List.length d : Nat) : Int) > 4))) (Yl b c a (decide (((List.length a : Nat) : Int) > 4)))))))
def Jp (c : (List UInt8)) (d : Int) (e : Int) (a : (List (Int × Int))) (b : (List ((List UInt8) × (List UInt8) × Int))) : Option (Bool) :=
  ((Vk a (fun y0 y1 => X2 y0 y1)).bind fun f => (cond f (Xs c d e a b true) ((Vb b (fun y0 y1 y2 => Yv y0 y1 y2)).bind fun g => (Xs c d e a b g))))
set_option maxHeartbeats 40000000 in
theorem Di (A5 : Option Addr) (c6 : Nat) (A9 : Option Addr) (i : Nat) (j : (List UInt8)) (g : Int) (h : Int) (f : (List (Int × Int))) (c : (List ((List UInt8) × (List UInt8) × Int))) (w0 : World) (hL : U9 w0) (c7 : RdT (Qf (Q4 .u32) (Q4 .i64)) w0 A5 c6 f) (b9 : RdT (Qf Ql (Qf Ql (Q4 .i64))) w0 A9 i c) (r : (Bool)) (H : Jp j g h f c = some r) :
  Calls Tryz.prog 51 #[(.agg #[(.string ⟨List.toArray j⟩), (.int .i64 g), (.int .i64 h), (.slice A5 (List.length f) c6), (.slice A9 (List.length c) i)])] w0 (fun e w' => e = .returned (.bool r) ∧ SP [] w0 w' []) := by
 unfold Jp at H
 refine Qv (n := 40) Tryz.func51 K K K ?_
 have c8 := Q1 [] w0
 refine aQ ?_
 refine aR ?_
 refine iS 1 ?_
 refine Z0 (t := 33) (x := (.tmp 0)) (v := (.agg #[(.string ⟨List.toArray j⟩), (.int .i64 g), (.int .i64 h), (.slice A5 (List.length f) c6), (.slice A9 (List.length c) i)])) (d := (some 1)) (k := 0) K rfl K c8 ?_
 intro a c9 a2
 refine iR 1 2 [(2, (.bool false))] ?_
 refine iF ?_
 refine aQ ?_
 refine aR ?_
 refine iR 1 1 [(4, (pt a 3))] ?_
 refine iS 2 ?_
 refine sL 30 4 a 3 0 (.slice A5 (List.length f) c6) 5 a2 rfl ?_
 obtain ⟨y, d0, H⟩ := Qd H
 refine iS 3 ?_
 refine cF 96 #[(.tmp 5), (.func 97)] #[30, 154] 6 Tryz.call96 (Y9 A5 c6 97 #[] f (fun y0 y1 => X2 y0 y1) c9 (RdT.sp c7 a2) Tryz.call97 (fun y0 y1 z w  hw  hz => Ru  y0 y1 w (Q0 (Q0 hL (SP.keeps a2)) hw) z hz) y d0) ?_
 rintro e d1 ⟨rfl, c0⟩
 refine ⟨_, rfl, ?_⟩
 have a3 := SP.call a2 c0
 clear c0
 refine iR 1 4 [(3, (.bool y))] ?_
 refine iF ?_
 refine aQ ?_
 refine At.join (fun ρ w => ∃ (m : Bool), Zm ρ [(1, (pt a 0)), (3, (.bool m))] ∧ SP [] w0 w [Qq a 33 #[(.string ⟨List.toArray j⟩), (.int .i64 g), (.int .i64 h), (.slice A5 (List.length f) c6), (.slice A9 (List.length c) i)]] ∧ Xs j g h f c m = some r) ?_ ?_
 ·refine aR ?_
  refine iR 2 2 [(7, (.bool y)), (8, (.bool y))] ?_
  refine In.guard (t := 8) (b := y) K (fun a8 => ?_) (fun a8 => ?_)
  ·have H := ct H a8
   refine iR 5 7 [(9, undef), (10, undef), (11, undef), (12, (.bool true)), (3, (.bool true))] ?_
   refine iF ?_
   exact ⟨true, ⟨K, K, trivial⟩, SP.sel a3 [0] rfl rfl, H⟩
  ·have H := cf H a8
   refine iR 1 3 [(9, (pt a 4))] ?_
   refine iS 4 ?_
   refine sL 31 9 a 4 0 (.slice A9 (List.length c) i) 10 a3 rfl ?_
   obtain ⟨a4, d2, H⟩ := Qd H
   refine iS 5 ?_
   refine cF 98 #[(.tmp 10), (.func 99)] #[31, 84] 11 Tryz.call98 (Yt A9 i 99 #[] c (fun y0 y1 y2 => Yv y0 y1 y2) d1 (RdT.sp b9 a3) Tryz.call99 (fun y0 y1 y2 z w  hw  hz => Rv  y0 y1 y2 w  z hz) a4 d2) ?_
   rintro e e6 ⟨rfl, c1⟩
   refine ⟨_, rfl, ?_⟩
   have d3 := SP.call a3 c1
   clear c1
   refine iR 2 7 [(12, (.bool a4)), (3, (.bool a4))] ?_
   refine iF ?_
   exact ⟨a4, ⟨K, K, trivial⟩, SP.sel d3 [0] rfl rfl, H⟩
 ·rintro ρ d4 ⟨m, hk, a9, H⟩
  unfold Xs at H
  first | refine At.known [(1, (pt a 0)), (3, (.bool m))] hk ?_ | rw [← Q3 (l := [(1, (pt a 0)), (3, (.bool m))]) hk]
  refine aQ ?_
  refine Y0 K (id := 0) K ?_
  refine aQ ?_
  refine aQ ?_
  refine aR ?_
  refine iR 2 2 [(14, (.bool m)), (13, (.bool m))] ?_
  refine iF ?_
  refine At.join (fun ρ w => ∃ (p : Bool), Zm ρ [(1, (pt a 0)), (13, (.bool p))] ∧ SP [] w0 w [Qq a 33 #[(.string ⟨List.toArray j⟩), (.int .i64 g), (.int .i64 h), (.slice A5 (List.length f) c6), (.slice A9 (List.length c) i)]] ∧ Xr g h c p = some r) ?_ ?_
  ·refine Xe K (o := (.tmp 13)) K (b := m) K (fun b0 => ?_) (fun b0 => ?_)
   ·have H := ct H b0
    refine At.skip K ?_
    exact ⟨m, ⟨K, K, trivial⟩, SP.sel a9 [0] rfl rfl, H⟩
   ·have H := cf H b0
    refine aQ ?_
    refine aR ?_
    refine iR 1 1 [(15, (pt a 0))] ?_
    refine iS 2 ?_
    refine sL 9 15 a 0 0 (.string ⟨List.toArray j⟩) 16 a9 rfl ?_
    obtain ⟨a0, d5, H⟩ := Qd H
    refine iS 3 ?_
    refine cF 101 #[(.tmp 16)] #[9] 17 Tryz.call101 (Gf  j d4  a0 d5) ?_
    rintro e e7 ⟨rfl, c2⟩
    refine ⟨_, rfl, ?_⟩
    have a1 := SP.call a9 c2
    clear c2
    refine iR 2 5 [(18, (.bool (!a0))), (13, (.bool (!a0)))] ?_
    refine iF ?_
    refine At.join (fun ρ w => ∃ (q : Bool), Zm ρ [(1, (pt a 0)), (13, (.bool q))] ∧ SP [] w0 w [Qq a 33 #[(.string ⟨List.toArray j⟩), (.int .i64 g), (.int .i64 h), (.slice A5 (List.length f) c6), (.slice A9 (List.length c) i)]] ∧ Yk g h c q = some r) ?_ ?_
    ·refine Xe K (o := (.tmp 13)) K (b := (!a0)) K (fun b1 => ?_) (fun b1 => ?_)
     ·have H := ct H b1
      refine At.skip K ?_
      exact ⟨(!a0), ⟨K, K, trivial⟩, SP.sel a1 [0] rfl rfl, H⟩
     ·have H := cf H b1
      refine aQ ?_
      refine aR ?_
      refine iR 1 1 [(19, (pt a 3))] ?_
      refine iS 2 ?_
      refine sL 30 19 a 3 0 (.slice A5 (List.length f) c6) 20 a1 rfl ?_
      refine iR 3 5 [(21, (.int .i64 ((List.length f : Nat) : Int))), (22, (.bool (decide (((List.length f : Nat) : Int) > 4)))), (13, (.bool (decide (((List.length f : Nat) : Int) > 4))))] ?_
      refine iF ?_
      refine At.join (fun ρ w => ∃ (s : Bool), Zm ρ [(1, (pt a 0)), (13, (.bool s))] ∧ SP [] w0 w [Qq a 33 #[(.string ⟨List.toArray j⟩), (.int .i64 g), (.int .i64 h), (.slice A5 (List.length f) c6), (.slice A9 (List.length c) i)]] ∧ Yl g h c s = some r) ?_ ?_
      ·refine Xe K (o := (.tmp 13)) K (b := (decide (((List.length f : Nat) : Int) > 4))) K (fun b2 => ?_) (fun b2 => ?_)
       ·have H := ct H b2
        refine At.skip K ?_
        exact ⟨(decide (((List.length f : Nat) : Int) > 4)), ⟨K, K, trivial⟩, SP.sel a1 [0] rfl rfl, H⟩
       ·have H := cf H b2
        refine aR ?_
        refine iR 1 1 [(23, (pt a 4))] ?_
        refine iS 2 ?_
        refine sL 31 23 a 4 0 (.slice A9 (List.length c) i) 24 a1 rfl ?_
        refine iR 3 5 [(25, (.int .i64 ((List.length c : Nat) : Int))), (26, (.bool (decide (((List.length c : Nat) : Int) > 4)))), (13, (.bool (decide (((List.length c : Nat) : Int) > 4))))] ?_
        refine iF ?_
        exact ⟨(decide (((List.length c : Nat) : Int) > 4)), ⟨K, K, trivial⟩, SP.sel a1 [0] rfl rfl, H⟩
      ·rintro ρ e8 ⟨s, hk, d6, H⟩
       unfold Yl at H
       first | refine At.known [(1, (pt a 0)), (13, (.bool s))] hk ?_ | rw [← Q3 (l := [(1, (pt a 0)), (13, (.bool s))]) hk]
       exact ⟨s, ⟨K, K, trivial⟩, SP.sel d6 [0] rfl rfl, H⟩
    ·rintro ρ e9 ⟨q, hk, d7, H⟩
     unfold Yk at H
     first | refine At.known [(1, (pt a 0)), (13, (.bool q))] hk ?_ | rw [← Q3 (l := [(1, (pt a 0)), (13, (.bool q))]) hk]
     exact ⟨q, ⟨K, K, trivial⟩, SP.sel d7 [0] rfl rfl, H⟩
  ·rintro ρ d8 ⟨p, hk, b3, H⟩
   unfold Xr at H
   first | refine At.known [(1, (pt a 0)), (13, (.bool p))] hk ?_ | rw [← Q3 (l := [(1, (pt a 0)), (13, (.bool p))]) hk]
   refine Xe K (o := (.tmp 13)) K (b := p) K (fun b4 => ?_) (fun b4 => ?_)
   ·have H := ct H b4
    refine aQ ?_
    refine aR ?_
    refine iR 1 1 [(2, (.bool false))] ?_
    refine iF ?_
    refine At.ret K ?_
    refine ⟨(.bool false), K, ?_⟩
    obtain rfl := Qg H
    exact ⟨rfl, SP.sel b3 [] rfl rfl⟩
   ·have H := cf H b4
    refine At.skip K ?_
    refine aQ ?_
    refine At.join (fun ρ w => ∃ (u : Bool), Zm ρ [(2, (.bool u))] ∧ SP [] w0 w [] ∧ Xq u = some r) ?_ ?_
    ·refine aR ?_
     refine iR 1 1 [(27, (pt a 1))] ?_
     refine iS 2 ?_
     refine sL 3 27 a 1 0 (.int .i64 g) 28 b3 rfl ?_
     obtain ⟨b5, d9, H⟩ := Qd H
     refine iS 3 ?_
     refine cF 48 #[(.tmp 28), (.const (.int .i64 (0))), (.const (.int .i64 (8)))] #[2, 2, 2] 29 Tryz.call48 (Xv  g 0 8 d8  b5 d9) ?_
     rintro e e0 ⟨rfl, c3⟩
     refine ⟨_, rfl, ?_⟩
     have b6 := SP.call b3 c3
     clear c3
     refine iR 1 4 [(30, (.bool b5))] ?_
     refine In.guard (t := 30) (b := b5) K (fun b7 => ?_) (fun b7 => ?_)
     ·have H := ct H b7
      refine iR 1 5 [(31, (pt a 2))] ?_
      refine iS 6 ?_
      refine sL 3 31 a 2 0 (.int .i64 h) 32 b6 rfl ?_
      obtain ⟨a5, e1, H⟩ := Qd H
      refine iS 7 ?_
      refine cF 48 #[(.tmp 32), (.const (.int .i64 (0))), (.const (.int .i64 (8)))] #[2, 2, 2] 33 Tryz.call48 (Xv  h 0 8 e0  a5 e1) ?_
      rintro e e2 ⟨rfl, c4⟩
      refine ⟨_, rfl, ?_⟩
      have a6 := SP.call b6 c4
      clear c4
      refine iR 2 9 [(34, (.bool a5)), (35, (.bool a5))] ?_
      refine In.guard (t := 35) (b := a5) K (fun b8 => ?_) (fun b8 => ?_)
      ·have H := ct H b8
       refine iR 1 10 [(36, (pt a 4))] ?_
       refine iS 11 ?_
       refine sL 31 36 a 4 0 (.slice A9 (List.length c) i) 37 a6 rfl ?_
       obtain ⟨a7, e3, H⟩ := Qd H
       refine iS 12 ?_
       refine cF 102 #[(.tmp 37), (.func 103)] #[31, 157] 38 Tryz.call102 (Na A9 i 103 #[] c (fun y0 y1 y2 => Jv y0 y1 y2) e2 (RdT.sp b9 a6) Tryz.call103 (fun y0 y1 y2 z w  hw  hz => Rw  y0 y1 y2 w  z hz) a7 e3) ?_
       rintro e f0 ⟨rfl, c5⟩
       refine ⟨_, rfl, ?_⟩
       have e4 := SP.call a6 c5
       clear c5
       refine iR 2 14 [(39, (.bool a7)), (2, (.bool a7))] ?_
       refine iF ?_
       exact ⟨a7, ⟨K, trivial⟩, SP.sel e4 [] rfl rfl, H⟩
      ·have H := cf H b8
       refine iR 5 14 [(36, undef), (37, undef), (38, undef), (39, (.bool false)), (2, (.bool false))] ?_
       refine iF ?_
       exact ⟨false, ⟨K, trivial⟩, SP.sel a6 [] rfl rfl, H⟩
     ·have H := cf H b7
      refine iR 10 14 [(31, undef), (32, undef), (33, undef), (34, (.bool false)), (35, (.bool false)), (36, undef), (37, undef), (38, undef), (39, (.bool false)), (2, (.bool false))] ?_
      refine iF ?_
      exact ⟨false, ⟨K, trivial⟩, SP.sel b6 [] rfl rfl, H⟩
    ·rintro ρ f1 ⟨u, hk, e5, H⟩
     unfold Xq at H
     first | refine At.known [(2, (.bool u))] hk ?_ | rw [← Q3 (l := [(2, (.bool u))]) hk]
     refine At.ret K ?_
     refine ⟨(.bool u), K, ?_⟩
     obtain rfl := Qg H
     exact ⟨rfl, SP.sel e5 [] rfl rfl⟩
def Ja (a : (List UInt8)) (b : Int) (c : Int) (d : (List (Int × Int))) (e : (List ((List UInt8) × (List UInt8) × Int))) : Option (Bool) :=
  ((Jp a b c d e).bind fun f => (some ((!f))))
set_option maxHeartbeats 40000000 in
theorem R4 (A5 : Option Addr) (c6 : Nat) (A9 : Option Addr) (c : Nat) (f : (List UInt8)) (g : Int) (h : Int) (a : (List (Int × Int))) (b : (List ((List UInt8) × (List UInt8) × Int))) (w0 : World) (hL : U9 w0) (m : RdT (Qf (Q4 .u32) (Q4 .i64)) w0 A5 c6 a) (o : RdT (Qf Ql (Qf Ql (Q4 .i64))) w0 A9 c b) (r : (Bool)) (H : Ja f g h a b = some r) :
  Calls Tryz.prog 50 #[(.agg #[(.string ⟨List.toArray f⟩), (.int .i64 g), (.int .i64 h), (.slice A5 (List.length a) c6), (.slice A9 (List.length b) c)])] w0 (fun e w' => e = .returned (.bool r) ∧ SP [] w0 w' []) := by
 unfold Ja at H
 refine Qv (n := 6) Tryz.func50 K K K ?_
 have p := Q1 [] w0
 refine aQ ?_
 refine aR ?_
 refine iS 1 ?_
 refine Z0 (t := 33) (x := (.tmp 0)) (v := (.agg #[(.string ⟨List.toArray f⟩), (.int .i64 g), (.int .i64 h), (.slice A5 (List.length a) c6), (.slice A9 (List.length b) c)])) (d := (some 1)) (k := 0) K rfl K p ?_
 intro q s i
 refine iR 1 2 [(2, (.bool false))] ?_
 refine iF ?_
 refine aQ ?_
 refine aR ?_
 refine iS 1 ?_
 refine sL 33 1 q 0 0 (.agg #[(.string ⟨List.toArray f⟩), (.int .i64 g), (.int .i64 h), (.slice A5 (List.length a) c6), (.slice A9 (List.length b) c)]) 3 i rfl ?_
 obtain ⟨j, u, H⟩ := Qd H
 refine iS 2 ?_
 refine cF 51 #[(.tmp 3)] #[33] 4 Tryz.call51 (Di A5 c6 A9 c f g h a b s (Q0 hL (SP.keeps i)) (RdT.sp m i) (RdT.sp o i) j u) ?_
 rintro e y ⟨rfl, l⟩
 refine ⟨_, rfl, ?_⟩
 have w := SP.call i l
 clear l
 refine iR 2 4 [(5, (.bool (!j))), (2, (.bool (!j)))] ?_
 refine iF ?_
 refine At.ret K ?_
 refine ⟨(.bool (!j)), K, ?_⟩
 obtain rfl := Qg H
 exact ⟨rfl, SP.sel w [] rfl rfl⟩
def Vh (d : Int → Option (Bool)) (p1 : (List Qb)) (p6 : ((List UInt8) → Int → Int → (List (Int × Int)) → (List ((List UInt8) × (List UInt8) × Int)) → Option ((List UInt8)))) (c : Int) : Option (Bool) :=
  (cond (decide (c < ((List.length p1 : Nat) : Int))) ((idx p1 (IntKind.wrap .i64 (c - 1))).bind fun a => ((p6 a.1 a.2.1 a.2.2.1 a.2.2.2.1 a.2.2.2.2).bind fun e => ((idx p1 c).bind fun b => ((p6 b.1 b.2.1 b.2.2.1 b.2.2.2.1 b.2.2.2.2).bind fun f => (cond (!(Op.bytesLess e f)) (some (false)) (d (IntKind.wrap .i64 (c + 1)))))))) (some (true)))
def Vi (p1 : (List Qb)) (p6 : ((List UInt8) → Int → Int → (List (Int × Int)) → (List ((List UInt8) × (List UInt8) × Int)) → Option ((List UInt8)))) : Nat → Int → Option (Bool)
  | 0, _ => none
  | f + 1, a => Vh  (Vi p1 p6 f) p1 p6 a
def Zk (p1 : (List Qb)) (p6 : ((List UInt8) → Int → Int → (List (Int × Int)) → (List ((List UInt8) × (List UInt8) × Int)) → Option ((List UInt8)))) : Option (Bool) :=
  (Vi p1 p6 Xx 1)
set_option maxHeartbeats 40000000 in
theorem U1 (A2 : Option Addr) (c3 : Nat) (q : FuncId) (s : Array Value) (d5 : (List Qh)) (p6 : ((List UInt8) → Int → Int → (List (Int × Int)) → (List ((List UInt8) × (List UInt8) × Int)) → Option ((List UInt8)))) (w0 : World) (u : (dDS V1 Fc).ok w0 (A2, c3, d5)) (hcf9 : ∀ (args : Array Value) (w : World), (callFunc q args).run Tryz.prog w = .ok (.enter q args) w) (b1 : ∀ (y0 : (List UInt8)) (y1 : Int) (y2 : Int) (y3 : (List (Int × Int))) (y4 : (List ((List UInt8) × (List UInt8) × Int))) (z : ((List UInt8))) (w : World) (Ay3 : Option Addr) (cy3 : Nat) (Ay4 : Option Addr) (cy4 : Nat), Below w0.heap.size w0 w → RdT (Qf (Q4 .u32) (Q4 .i64)) w Ay3 cy3 y3 → RdT (Qf Ql (Qf Ql (Q4 .i64))) w Ay4 cy4 y4 → p6 y0 y1 y2 y3 y4 = some z → Calls Tryz.prog q (([(.agg #[(.string ⟨List.toArray y0⟩), (.int .i64 y1), (.int .i64 y2), (.slice Ay3 (List.length y3) cy3), (.slice Ay4 (List.length y4) cy4)])] : List Value) ++ (s).toList).toArray w (fun e w' => e = .returned (.string ⟨List.toArray z⟩) ∧ SP [] w w' [])) (r : (Bool)) (H : Zk (List.map stT d5) p6 = some r) :
  Calls Tryz.prog 52 #[(.slice A2 (List.length (List.map stT d5)) c3), (.func (.func q) #[] s)] w0 (fun e w' => e = .returned (.bool r) ∧ SP [] w0 w' []) := by
 unfold Zk at H
 refine Qv (n := 26) Tryz.func52 K K K ?_
 have b7 := Q1 [] w0
 refine aQ ?_
 refine aR ?_
 refine iR 1 1 [(4, (.bool false))] ?_
 refine iF ?_
 refine aQ ?_
 refine aQ ?_
 refine aR ?_
 refine iR 1 1 [(5, (.int .i64 1))] ?_
 refine iF ?_
 refine Y0 K (id := 0) K ?_
 refine G3 K (fun f1 ρ w => ∃ (j : Int), Zm ρ [(0, (.slice A2 (List.length (List.map stT d5)) c3)), (1, (.func (.func q) #[] s)), (5, (.int .i64 j))] ∧ SP [] w0 w [] ∧ Vi (List.map stT d5) p6 f1 j = some r) (by rintro ρ w ⟨j, hk, hs, H⟩; cases H) ?_ Xx ?_
 ·rintro f1 ρ f4 ⟨j, hk, b2, H⟩
  refine At.known [(0, (.slice A2 (List.length (List.map stT d5)) c3)), (1, (.func (.func q) #[] s)), (5, (.int .i64 j))] hk ?_
  replace H := (show Vh (Vi (List.map stT d5) p6 f1) (List.map stT d5) p6 j = some r from H)
  unfold Vh at H
  refine aQ ?_
  refine aQ ?_
  refine aR ?_
  refine iR 4 4 [(6, (.int .i64 j)), (7, (.slice A2 (List.length (List.map stT d5)) c3)), (8, (.int .i64 ((List.length (List.map stT d5) : Nat) : Int))), (9, (.bool (decide (j < ((List.length (List.map stT d5) : Nat) : Int)))))] ?_
  refine iF ?_
  refine Xe K (o := (.tmp 9)) K (b := (decide (j < ((List.length (List.map stT d5) : Nat) : Int)))) K (fun a6 => ?_) (fun a6 => ?_)
  ·have H := ct H a6
   refine At.skip K ?_
   refine aQ ?_
   refine Y0 K (id := 1) K ?_
   refine aQ ?_
   obtain ⟨i, b3, b4, a7, H⟩ := J6 H
   obtain ⟨v, b8, H⟩ := Qd H
   obtain ⟨g, a1, a2, a3, H⟩ := J6 H
   obtain ⟨a0, b9, H⟩ := Qd H
   refine aG [GEq (.func (.func q) #[] s), GEq (.slice A2 (List.length (List.map stT d5)) c3), GEq (.int .i64 j), GEq (.int .i64 (IntKind.wrap .i64 (j - 1))), Yb A2 V1.sz (IntKind.wrap .i64 (j - 1)), GEq (.agg #[(.string ⟨List.toArray (stT i).1⟩), (.int .i64 (stT i).2.1), (.int .i64 (stT i).2.2.1), (.slice i.2.2.2.1.1 (List.length (stT i).2.2.2.1) i.2.2.2.1.2.1), (.slice i.2.2.2.2.1 (List.length (stT i).2.2.2.2) i.2.2.2.2.2.1)]), GEq (.string ⟨List.toArray v⟩), GEq (.func (.func q) #[] s), GEq (.slice A2 (List.length (List.map stT d5)) c3), GEq (.int .i64 j), Yb A2 V1.sz j, GEq (.agg #[(.string ⟨List.toArray (stT g).1⟩), (.int .i64 (stT g).2.1), (.int .i64 (stT g).2.2.1), (.slice g.2.2.2.1.1 (List.length (stT g).2.2.2.1) g.2.2.2.1.2.1), (.slice g.2.2.2.2.1 (List.length (stT g).2.2.2.2) g.2.2.2.2.2.1)]), GEq (.string ⟨List.toArray a0⟩), GEq (.bool (!(Op.bytesLess v a0)))] [6, 12] (tG [] w0 [] [([], []), ([6], [(.string ⟨List.toArray v⟩)]), ([6, 12], [(.string ⟨List.toArray v⟩), (.string ⟨List.toArray a0⟩)])]) 14 2 ⟨trivial, SP.drew b2⟩ ?_ ?_
   iterate 14 refine And.intro ?_ ?_
   exact trivial
   ·exact oV (hC (hS 1 (.func (.func q) #[] s)) (h0)) (.func (.func q) #[] s)
   ·exact oV (hC (hS 0 (.slice A2 (List.length (List.map stT d5)) c3)) (h0)) (.slice A2 (List.length (List.map stT d5)) c3)
   ·exact oV (hC (hS 5 (.int .i64 j)) (h0)) (.int .i64 j)
   ·exact oV (hC (hA 2 14) (h0)) (.int .i64 (IntKind.wrap .i64 (j - 1)))
   ·refine oL 0 ?_
    ·rintro ρ' w' hs m ⟨f5, c0⟩
     refine kM (kc (kA m 1 13) (kc (kA m 3 15) k0)) fun p => ?_
     refine Yu stT (e := V1) (l := d5) (A := A2) (c := c3) (T := 22) (E := 33) (x := (.tmp 13)) (ix := (.tmp 15)) (ki := .i64) (iz := (IntKind.wrap .i64 (j - 1))) (d := (some 16)) (k := 4) K rfl K K K K (RdT.sp (Yh u) c0) b3 b4 ?_
     intro c1 c2 c4 f6 hc276
     exact ⟨rfl, _, Qa p, ⟨c1, c2, c4, rfl⟩⟩
   ·refine oL 0 ?_
    ·rintro ρ' w' hs m ⟨f7, c5⟩
     obtain ⟨c6, c7, c8, c9⟩ := m 4 16 K
     refine kM (kc c9 k0) fun p => ?_
     refine Qi.cells (t := 33) (x := (.tmp 16)) (b := c6) (off := (c7 + Int.toNat (IntKind.wrap .i64 (j - 1)) * V1.sz)) (xs := [(.string ⟨List.toArray (stT i).1⟩), (.int .i64 (stT i).2.1), (.int .i64 (stT i).2.2.1), (.slice i.2.2.2.1.1 (List.length (stT i).2.2.2.1) i.2.2.2.1.2.1), (.slice i.2.2.2.2.1 (List.length (stT i).2.2.2.2) i.2.2.2.2.2.1)]) (d := (some 17)) (k := 5) K rfl K K K (Vv (e := V1) (Qj (RdT.sp (Yh u) c5) c8 b3 b4) a7 rfl) ?_
     exact eK p
   ·refine oH 0 1 ?_
    ·rintro ρ' w' hs m ⟨f8, a4⟩
     refine kM (kc (kA m 0 12) (kc (kA m 5 17) k0)) fun p => ?_
     refine X0 (f := q) (fo := (.tmp 12)) (xs := #[(.tmp 17)]) (tys := #[33]) (first := #[]) (captured := s) (args := (([(.agg #[(.string ⟨List.toArray (stT i).1⟩), (.int .i64 (stT i).2.1), (.int .i64 (stT i).2.2.1), (.slice i.2.2.2.1.1 (List.length (stT i).2.2.2.1) i.2.2.2.1.2.1), (.slice i.2.2.2.2.1 (List.length (stT i).2.2.2.2) i.2.2.2.2.2.1)])] : List Value) ++ (s).toList)) (d := (some 18)) (k := 6) K rfl K K hcf9 (b1 (stT i).1 (stT i).2.1 (stT i).2.2.1 (stT i).2.2.2.1 (stT i).2.2.2.2 v w' i.2.2.2.1.1 i.2.2.2.1.2.1 i.2.2.2.2.1 i.2.2.2.2.2.1 (SP.keeps a4) (RdT.sp (Yh (dp1 (dp2 (dp2 (dp2 (Gr u a7)))))) a4) (RdT.sp (Yh (dp2 (dp2 (dp2 (dp2 (Gr u a7)))))) a4) b8) ?_
     rintro e f9 ⟨rfl, b5⟩
     refine ⟨_, rfl, ?_⟩
     have d0 := SP.call a4 b5
     clear b5
     refine ⟨_, Qa p, rfl, ?_⟩
     exact (And.intro (And.intro rfl (trivial)) d0)
   ·exact oV (hC (hS 1 (.func (.func q) #[] s)) (h0)) (.func (.func q) #[] s)
   ·exact oV (hC (hS 0 (.slice A2 (List.length (List.map stT d5)) c3)) (h0)) (.slice A2 (List.length (List.map stT d5)) c3)
   ·exact oV (hC (hS 5 (.int .i64 j)) (h0)) (.int .i64 j)
   ·refine Owe.light K [0, 1] K (Qc ?_ (Qc ?_ Q8))
    ·rintro ρ' w' hs m ⟨g0, d1⟩
     refine kM (kc (kA m 8 20) (kc (kA m 9 21) k0)) fun p => ?_
     refine Yu stT (e := V1) (l := d5) (A := A2) (c := c3) (T := 22) (E := 33) (x := (.tmp 20)) (ix := (.tmp 21)) (ki := .i64) (iz := j) (d := (some 22)) (k := 10) K rfl K K K K (RdT.sp (Yh u) d1) a1 a2 ?_
     intro d2 d3 d4 g1 hc294
     exact ⟨rfl, _, Qa p, ⟨d2, d3, d4, rfl⟩⟩
    ·rintro ρ' w' hs m ⟨⟨g2, -⟩, d6⟩
     refine kM (kc (kA m 8 20) (kc (kA m 9 21) k0)) fun p => ?_
     refine Yu stT (e := V1) (l := d5) (A := A2) (c := c3) (T := 22) (E := 33) (x := (.tmp 20)) (ix := (.tmp 21)) (ki := .i64) (iz := j) (d := (some 22)) (k := 10) K rfl K K K K (RdT.sp (Yh u) d6) a1 a2 ?_
     intro d7 d8 d9 g3 hc302
     exact ⟨rfl, _, Qa p, ⟨d7, d8, d9, rfl⟩⟩
   ·refine Owe.light K [0, 1] K (Qc ?_ (Qc ?_ Q8))
    ·rintro ρ' w' hs m ⟨g4, e0⟩
     obtain ⟨e1, e2, e3, a8⟩ := m 10 22 K
     refine kM (kc a8 k0) fun p => ?_
     refine Qi.cells (t := 33) (x := (.tmp 22)) (b := e1) (off := (e2 + Int.toNat j * V1.sz)) (xs := [(.string ⟨List.toArray (stT g).1⟩), (.int .i64 (stT g).2.1), (.int .i64 (stT g).2.2.1), (.slice g.2.2.2.1.1 (List.length (stT g).2.2.2.1) g.2.2.2.1.2.1), (.slice g.2.2.2.2.1 (List.length (stT g).2.2.2.2) g.2.2.2.2.2.1)]) (d := (some 23)) (k := 11) K rfl K K K (Vv (e := V1) (Qj (RdT.sp (Yh u) e0) e3 a1 a2) a3 rfl) ?_
     exact eK p
    ·rintro ρ' w' hs m ⟨⟨g5, -⟩, e4⟩
     obtain ⟨e5, e6, e7, a8⟩ := m 10 22 K
     refine kM (kc a8 k0) fun p => ?_
     refine Qi.cells (t := 33) (x := (.tmp 22)) (b := e5) (off := (e6 + Int.toNat j * V1.sz)) (xs := [(.string ⟨List.toArray (stT g).1⟩), (.int .i64 (stT g).2.1), (.int .i64 (stT g).2.2.1), (.slice g.2.2.2.1.1 (List.length (stT g).2.2.2.1) g.2.2.2.1.2.1), (.slice g.2.2.2.2.1 (List.length (stT g).2.2.2.2) g.2.2.2.2.2.1)]) (d := (some 23)) (k := 11) K rfl K K K (Vv (e := V1) (Qj (RdT.sp (Yh u) e4) e7 a1 a2) a3 rfl) ?_
     exact eK p
   ·refine oH 1 2 ?_
    ·rintro ρ' w' hs m ⟨⟨e8, -⟩, a5⟩
     refine kM (kc (kA m 7 19) (kc (kA m 11 23) k0)) fun p => ?_
     refine X0 (f := q) (fo := (.tmp 19)) (xs := #[(.tmp 23)]) (tys := #[33]) (first := #[]) (captured := s) (args := (([(.agg #[(.string ⟨List.toArray (stT g).1⟩), (.int .i64 (stT g).2.1), (.int .i64 (stT g).2.2.1), (.slice g.2.2.2.1.1 (List.length (stT g).2.2.2.1) g.2.2.2.1.2.1), (.slice g.2.2.2.2.1 (List.length (stT g).2.2.2.2) g.2.2.2.2.2.1)])] : List Value) ++ (s).toList)) (d := (some 24)) (k := 12) K rfl K K hcf9 (b1 (stT g).1 (stT g).2.1 (stT g).2.2.1 (stT g).2.2.2.1 (stT g).2.2.2.2 a0 w' g.2.2.2.1.1 g.2.2.2.1.2.1 g.2.2.2.2.1 g.2.2.2.2.2.1 (SP.keeps a5) (RdT.sp (Yh (dp1 (dp2 (dp2 (dp2 (Gr u a3)))))) a5) (RdT.sp (Yh (dp2 (dp2 (dp2 (dp2 (Gr u a3)))))) a5) b9) ?_
     rintro e g6 ⟨rfl, b6⟩
     refine ⟨_, rfl, ?_⟩
     have e9 := SP.call a5 b6
     clear b6
     refine ⟨_, Qa p, rfl, ?_⟩
     exact (And.intro (And.intro e8 (And.intro rfl (trivial))) e9)
   ·refine oL 2 ?_
    ·rintro ρ' w' hs m ⟨⟨f0, f2, -⟩, g7⟩
     refine kN [(18, (.string ⟨List.toArray v⟩)), (24, (.string ⟨List.toArray a0⟩))] ⟨(Vo (h := 6) K).symm.trans f0, (Vo (h := 12) K).symm.trans f2, trivial⟩ fun p => ?_
     refine Xp (op := .geq) (T := 9) (T' := 9) (x := (.tmp 18)) (y := (.tmp 24)) (a := v) (b := a0) (r := (.bool (!(Op.bytesLess v a0)))) (d := (some 25)) (k := 13) K rfl K K rfl ?_
     exact eK p
   ·rintro ρ' w' hs hf ⟨⟨g8, g9, -⟩, a9⟩
    refine V2 [(0, (.slice A2 (List.length (List.map stT d5)) c3)), (1, (.func (.func q) #[] s)), (5, (.int .i64 j)), (25, (.bool (!(Op.bytesLess v a0))))] ⟨(hs 0 K).trans K, (hs 1 K).trans K, (hs 5 K).trans K, hf 13 25 K, trivial⟩ ?_
    obtain ⟨h1, f3⟩ : ∃ x, w' = x := ⟨_, rfl⟩
    rw [f3] at a9 ⊢
    refine Xe K (o := (.tmp 25)) K (b := (!(Op.bytesLess v a0))) K (fun b0 => ?_) (fun b0 => ?_)
    ·have H := ct H b0
     refine aQ ?_
     refine aR ?_
     refine iR 1 1 [(4, (.bool false))] ?_
     refine iF ?_
     refine At.ret K ?_
     refine ⟨(.bool false), K, ?_⟩
     obtain rfl := Qg H
     exact ⟨rfl, SP.sel a9 [] rfl rfl⟩
    ·have H := cf H b0
     refine At.skip K ?_
     refine aR ?_
     refine iR 3 3 [(10, (.int .i64 j)), (11, (.int .i64 (IntKind.wrap .i64 (j + 1)))), (5, (.int .i64 (IntKind.wrap .i64 (j + 1))))] ?_
     refine iF ?_
     exact ⟨(IntKind.wrap .i64 (j + 1)), ⟨K, K, K, trivial⟩, SP.sel a9 [] rfl rfl, H⟩
  ·have H := cf H a6
   refine At.exit K (id := 0) K ?_
   refine aQ ?_
   refine aR ?_
   refine iR 1 1 [(4, (.bool true))] ?_
   refine iF ?_
   refine At.ret K ?_
   refine ⟨(.bool true), K, ?_⟩
   obtain rfl := Qg H
   exact ⟨rfl, SP.sel b2 [] rfl rfl⟩
 ·exact ⟨1, ⟨K, K, K, trivial⟩, SP.sel b7 [] rfl rfl, H⟩
def Uc (a : (List UInt8)) (b : Int) (c : Int) (d : (List (Int × Int))) (e : (List ((List UInt8) × (List UInt8) × Int))) : Option ((List UInt8)) :=
  (some (a))
set_option maxHeartbeats 40000000 in
theorem R5 (A5 : Option Addr) (c6 : Nat) (A9 : Option Addr) (f : Nat) (a : (List UInt8)) (g : Int) (h : Int) (b : (List (Int × Int))) (c : (List ((List UInt8) × (List UInt8) × Int))) (w0 : World) (m : RdT (Qf (Q4 .u32) (Q4 .i64)) w0 A5 c6 b) (o : RdT (Qf Ql (Qf Ql (Q4 .i64))) w0 A9 f c) (r : ((List UInt8))) (H : Uc a g h b c = some r) :
  Calls Tryz.prog 53 #[(.agg #[(.string ⟨List.toArray a⟩), (.int .i64 g), (.int .i64 h), (.slice A5 (List.length b) c6), (.slice A9 (List.length c) f)])] w0 (fun e w' => e = .returned (.string ⟨List.toArray r⟩) ∧ SP [] w0 w' []) := by
 unfold Uc at H
 refine Qv (n := 5) Tryz.func53 K K K ?_
 have l := Q1 [] w0
 refine aQ ?_
 refine aR ?_
 refine iS 1 ?_
 refine Z0 (t := 33) (x := (.tmp 0)) (v := (.agg #[(.string ⟨List.toArray a⟩), (.int .i64 g), (.int .i64 h), (.slice A5 (List.length b) c6), (.slice A9 (List.length c) f)])) (d := (some 1)) (k := 0) K rfl K l ?_
 intro i p j
 refine iR 1 2 [(2, (.string ⟨List.toArray ([] : List UInt8)⟩))] ?_
 refine iF ?_
 refine aQ ?_
 refine aR ?_
 refine iR 1 1 [(3, (pt i 0))] ?_
 refine iS 2 ?_
 refine sL 9 3 i 0 0 (.string ⟨List.toArray a⟩) 4 j rfl ?_
 refine iR 1 3 [(2, (.string ⟨List.toArray a⟩))] ?_
 refine iF ?_
 refine At.ret K ?_
 refine ⟨(.string ⟨List.toArray a⟩), K, ?_⟩
 obtain rfl := Qg H
 exact ⟨rfl, SP.sel j [] rfl rfl⟩
def X4 (b : Int → Option (Bool)) (a : Bool) : Option (Bool) :=
  (some (a))
def Zu (a : Int → Option (Bool)) (d : Int) (e : Int) (f : Int) (g : Int) (b : (List Qb)) (c : Int) : Option (Bool) :=
  (cond (decide (c < ((List.length ([d, e, f, g] : List Int) : Nat) : Int))) ((idx ([d, e, f, g] : List Int) c).bind fun h => ((Z3 h 1 1073741824).bind fun i => (cond (!i) (some (false)) (a (IntKind.wrap .i64 (c + 1)))))) (cond (decide (((List.length b : Nat) : Int) ≤ 8)) ((Q7 b (fun y0 y1 y2 y3 y4 => Ja y0 y1 y2 y3 y4)).bind fun j => (cond (!j) ((Zk b (fun y0 y1 y2 y3 y4 => Uc y0 y1 y2 y3 y4)).bind fun k => (X4 a k)) (X4 a false))) (X4 a false)))
def Xj (a : Int) (b : Int) (c : Int) (d : Int) (e : (List Qb)) : Nat → Int → Option (Bool)
  | 0, _ => none
  | f + 1, g => Zu  (Xj a b c d e f) a b c d e g
def Z1 (a : Int) (b : Int) (c : Int) (d : Int) (e : (List Qb)) : Option (Bool) :=
  (Xj a b c d e Xx 0)
set_option maxHeartbeats 40000000 in
theorem X5 (A6 : Option Addr) (c7 : Nat) (a : Int) (f : Int) (g : Int) (h : Int) (d9 : (List Qh)) (w0 : World) (hL : U9 w0) (a9 : (dDS V1 Fc).ok w0 (A6, c7, d9)) (r : (Bool)) (H : Z1 a f g h (List.map stT d9) = some r) :
  Calls Tryz.prog 22 #[(.agg #[(.int .i64 a), (.int .i64 f), (.int .i64 g), (.int .i64 h), (.slice A6 (List.length (List.map stT d9)) c7)])] w0 (fun e w' => e = .returned (.bool r) ∧ SP [] w0 w' []) := by
 unfold Z1 at H
 refine Qv (n := 38) Tryz.func22 K K K ?_
 have b7 := Q1 [] w0
 refine aQ ?_
 refine aR ?_
 refine iS 1 ?_
 refine Z0 (t := 24) (x := (.tmp 0)) (v := (.agg #[(.int .i64 a), (.int .i64 f), (.int .i64 g), (.int .i64 h), (.slice A6 (List.length (List.map stT d9)) c7)])) (d := (some 1)) (k := 0) K rfl K b7 ?_
 intro m d0 u
 refine iR 1 2 [(2, (.bool false))] ?_
 refine iF ?_
 refine aQ ?_
 refine aQ ?_
 refine aR ?_
 refine iR 1 1 [(5, (pt m 0))] ?_
 refine iS 2 ?_
 refine sL 2 5 m 0 0 (.int .i64 a) 6 u rfl ?_
 refine iR 1 3 [(7, (pt m 1))] ?_
 refine iS 4 ?_
 refine sL 2 7 m 1 0 (.int .i64 f) 8 u rfl ?_
 refine iR 1 5 [(9, (pt m 2))] ?_
 refine iS 6 ?_
 refine sL 2 9 m 2 0 (.int .i64 g) 10 u rfl ?_
 refine iR 1 7 [(11, (pt m 3))] ?_
 refine iS 8 ?_
 refine sL 2 11 m 3 0 (.int .i64 h) 12 u rfl ?_
 refine iS 9 ?_
 refine Vt (e := (Q4 .i64)) (T := 85) (E := 2) (len := 4) (parts := #[(0, (.tmp 6)), (1, (.tmp 8)), (2, (.tmp 10)), (3, (.tmp 12))]) (cs := #[(.int .i64 a), (.int .i64 f), (.int .i64 g), (.int .i64 h)]) ([a, f, g, h] : List Int) (d := (some 13)) (k := 8) K rfl (fun _ => K) u rfl rfl rfl rfl ?_
 intro a0 d1 b8
 refine iR 2 11 [(14, (.int .i64 ((List.length ([a, f, g, h] : List Int) : Nat) : Int))), (15, (.int .i64 0))] ?_
 refine iF ?_
 refine Y0 K (id := 0) K ?_
 refine G3 K (fun f3 ρ w => ∃ (p : Int), Zm ρ [(1, (pt m 0)), (13, (.slice (some ⟨a0, 0, none⟩) (List.length ([a, f, g, h] : List Int)) (List.length ([a, f, g, h] : List Int)))), (14, (.int .i64 ((List.length ([a, f, g, h] : List Int) : Nat) : Int))), (15, (.int .i64 p))] ∧ SP [] w0 w [Qq m 24 #[(.int .i64 a), (.int .i64 f), (.int .i64 g), (.int .i64 h), (.slice A6 (List.length (List.map stT d9)) c7)], Q6 2 (Q4 .i64) (some ⟨a0, 0, none⟩) (List.length ([a, f, g, h] : List Int)) ([a, f, g, h] : List Int)] ∧ Xj a f g h (List.map stT d9) f3 p = some r) (by rintro ρ w ⟨p, hk, hs, H⟩; cases H) ?_ Xx ?_
 ·rintro f3 ρ b0 ⟨p, hk, q, H⟩
  refine At.known [(1, (pt m 0)), (13, (.slice (some ⟨a0, 0, none⟩) (List.length ([a, f, g, h] : List Int)) (List.length ([a, f, g, h] : List Int)))), (14, (.int .i64 ((List.length ([a, f, g, h] : List Int) : Nat) : Int))), (15, (.int .i64 p))] hk ?_
  replace H := (show Zu (Xj a f g h (List.map stT d9) f3) a f g h (List.map stT d9) p = some r from H)
  unfold Zu at H
  refine aQ ?_
  refine aR ?_
  refine iR 1 1 [(16, (.bool (decide (p < ((List.length ([a, f, g, h] : List Int) : Nat) : Int)))))] ?_
  refine iF ?_
  refine aQ ?_
  refine Xe K (o := (.tmp 16)) K (b := (decide (p < ((List.length ([a, f, g, h] : List Int) : Nat) : Int)))) K (fun a4 => ?_) (fun a4 => ?_)
  ·have H := ct H a4
   refine At.skip K ?_
   refine aQ ?_
   refine Y0 K (id := 1) K ?_
   refine aQ ?_
   refine aR ?_
   obtain ⟨a1, b1, b2, b9, H⟩ := Ve H
   refine iS 1 ?_
   refine Qn (e := (Q4 .i64)) (l := ([a, f, g, h] : List Int)) (A := (some ⟨a0, 0, none⟩)) (c := (List.length ([a, f, g, h] : List Int))) (T := 85) (E := 2) (x := (.tmp 13)) (ix := (.tmp 15)) (ki := .i64) (iz := p) (d := (some 17)) (k := 0) K rfl K K K K (Vg (SP.get q (i := 1) rfl)) b1 b2 ?_
   intro c0 c1 c2 d2 hc125
   refine iS 2 ?_
   refine sC 2 17 c0 (c1 + Int.toNat p * (Q4 .i64).sz) (.int .i64 a1) 18 (Qw (e := (Q4 .i64)) (Qj (Vg (SP.get q (i := 1) rfl)) c2 b1 b2) b9 (j := 0) rfl) ?_
   refine iR 1 3 [(4, (.int .i64 a1))] ?_
   refine iF ?_
   refine aQ ?_
   refine aR ?_
   refine iR 1 1 [(19, (.int .i64 a1))] ?_
   obtain ⟨a5, c3, H⟩ := Qd H
   refine iS 2 ?_
   refine cF 48 #[(.tmp 19), (.const (.int .i64 (1))), (.const (.int .i64 (1073741824)))] #[2, 2, 2] 20 Tryz.call48 (Xv  a1 1 1073741824 b0  a5 c3) ?_
   rintro e d3 ⟨rfl, b3⟩
   refine ⟨_, rfl, ?_⟩
   have b4 := SP.call q b3
   clear b3
   refine iR 1 3 [(21, (.bool (!a5)))] ?_
   refine iF ?_
   refine Xe K (o := (.tmp 21)) K (b := (!a5)) K (fun a6 => ?_) (fun a6 => ?_)
   ·have H := ct H a6
    refine aQ ?_
    refine aR ?_
    refine iR 1 1 [(2, (.bool false))] ?_
    refine iF ?_
    refine At.ret K ?_
    refine ⟨(.bool false), K, ?_⟩
    obtain rfl := Qg H
    exact ⟨rfl, SP.sel b4 [] rfl rfl⟩
   ·have H := cf H a6
    refine At.skip K ?_
    refine aR ?_
    refine iR 2 2 [(22, (.int .i64 (IntKind.wrap .i64 (p + 1)))), (15, (.int .i64 (IntKind.wrap .i64 (p + 1))))] ?_
    refine iF ?_
    exact ⟨(IntKind.wrap .i64 (p + 1)), ⟨K, K, K, K, trivial⟩, SP.sel b4 [0, 1] rfl rfl, H⟩
  ·have H := cf H a4
   refine At.exit K (id := 0) K ?_
   refine aQ ?_
   refine At.join (fun ρ w => ∃ (s : Bool), Zm ρ [(2, (.bool s))] ∧ SP [] w0 w [] ∧ X4 (Xj a f g h (List.map stT d9) f3) s = some r) ?_ ?_
   ·refine aR ?_
    refine iR 1 1 [(23, (pt m 4))] ?_
    refine iS 2 ?_
    refine sL 22 23 m 4 0 (.slice A6 (List.length (List.map stT d9)) c7) 24 q rfl ?_
    refine iR 3 5 [(25, (.int .i64 ((List.length (List.map stT d9) : Nat) : Int))), (26, (.bool (decide (((List.length (List.map stT d9) : Nat) : Int) ≤ 8)))), (27, (.bool (decide (((List.length (List.map stT d9) : Nat) : Int) ≤ 8))))] ?_
    refine In.guard (t := 27) (b := (decide (((List.length (List.map stT d9) : Nat) : Int) ≤ 8))) K (fun a7 => ?_) (fun a7 => ?_)
    ·have H := ct H a7
     refine iR 1 6 [(28, (pt m 4))] ?_
     refine iS 7 ?_
     refine sL 22 28 m 4 0 (.slice A6 (List.length (List.map stT d9)) c7) 29 q rfl ?_
     obtain ⟨y, c4, H⟩ := Qd H
     refine iS 8 ?_
     refine cF 49 #[(.tmp 29), (.func 50)] #[22, 82] 30 Tryz.call49 (Yj A6 c7 50 #[] d9 (fun y0 y1 y2 y3 y4 => Ja y0 y1 y2 y3 y4) b0 (Dp.sp a9 q) Tryz.call50 (fun y0 y1 y2 y3 y4 z w Ay3 cy3 Ay4 cy4 hw hy3 hy4 hz => R4 Ay3 cy3 Ay4 cy4 y0 y1 y2 y3 y4 w (Q0 (Q0 hL (SP.keeps q)) hw) hy3 hy4 z hz) y c4) ?_
     rintro e c5 ⟨rfl, b5⟩
     refine ⟨_, rfl, ?_⟩
     have a2 := SP.call q b5
     clear b5
     refine iR 3 11 [(31, (.bool (!y))), (32, (.bool (!y))), (33, (.bool (!y)))] ?_
     refine In.guard (t := 33) (b := (!y)) K (fun a8 => ?_) (fun a8 => ?_)
     ·have H := ct H a8
      refine iR 1 12 [(34, (pt m 4))] ?_
      refine iS 13 ?_
      refine sL 22 34 m 4 0 (.slice A6 (List.length (List.map stT d9)) c7) 35 a2 rfl ?_
      obtain ⟨a3, c6, H⟩ := Qd H
      refine iS 14 ?_
      refine cF 52 #[(.tmp 35), (.func 53)] #[22, 89] 36 Tryz.call52 (U1 A6 c7 53 #[] d9 (fun y0 y1 y2 y3 y4 => Uc y0 y1 y2 y3 y4) c5 (Dp.sp a9 a2) Tryz.call53 (fun y0 y1 y2 y3 y4 z w Ay3 cy3 Ay4 cy4 hw hy3 hy4 hz => R5 Ay3 cy3 Ay4 cy4 y0 y1 y2 y3 y4 w hy3 hy4 z hz) a3 c6) ?_
      rintro e d4 ⟨rfl, b6⟩
      refine ⟨_, rfl, ?_⟩
      have c8 := SP.call a2 b6
      clear b6
      refine iR 2 16 [(37, (.bool a3)), (2, (.bool a3))] ?_
      refine iF ?_
      exact ⟨a3, ⟨K, trivial⟩, SP.sel c8 [] rfl rfl, H⟩
     ·have H := cf H a8
      refine iR 5 16 [(34, undef), (35, undef), (36, undef), (37, (.bool false)), (2, (.bool false))] ?_
      refine iF ?_
      exact ⟨false, ⟨K, trivial⟩, SP.sel a2 [] rfl rfl, H⟩
    ·have H := cf H a7
     refine iR 11 16 [(28, undef), (29, undef), (30, undef), (31, undef), (32, (.bool false)), (33, (.bool false)), (34, undef), (35, undef), (36, undef), (37, (.bool false)), (2, (.bool false))] ?_
     refine iF ?_
     exact ⟨false, ⟨K, trivial⟩, SP.sel q [] rfl rfl, H⟩
   ·rintro ρ d5 ⟨s, hk, c9, H⟩
    unfold X4 at H
    first | refine At.known [(2, (.bool s))] hk ?_ | rw [← Q3 (l := [(2, (.bool s))]) hk]
    refine At.ret K ?_
    refine ⟨(.bool s), K, ?_⟩
    obtain rfl := Qg H
    exact ⟨rfl, SP.sel c9 [] rfl rfl⟩
 ·exact ⟨0, ⟨K, K, K, K, trivial⟩, SP.sel b8 [0, 1] rfl rfl, H⟩
end Go.Proofs.YtoflbpmbkmephaaGreatDoor
namespace Go.Proofs.YtoflbpmbkmephaaGreatDoor
open Go.RowKit
def Zh (f : Int → Int → Option (Bool)) (g : Int → Int → Option (Bool)) (h : Int) (b : Qb) (c : Int) (a : Int) (i : Bool) : Option (Bool) :=
  (cond i ((idx b.2.2.2.2 a).bind fun d => ((idx b.2.2.2.2 a).bind fun e => (g (IntKind.wrap .i64 ((IntKind.wrap .i64 (c + (if 3000 < ((List.length d.1 : Nat) : Int) then 3000 else ((List.length d.1 : Nat) : Int)))) + (if 3000 < ((List.length e.2.1 : Nat) : Int) then 3000 else ((List.length e.2.1 : Nat) : Int)))) (IntKind.wrap .i64 (a + 1))))) (f c (IntKind.wrap .i64 (h + 1))))
def V4 (d : Int → Int → Option (Bool)) (e : Int → Int → Option (Bool)) (f : Int) (a : Qb) (b : Int) (c : Int) : Option (Bool) :=
  (cond (decide (c < ((List.length a.2.2.2.2 : Nat) : Int))) (Zh d e f a b c (decide (b < 3000))) (Zh d e f a b c false))
def Vn (a : Int → Int → Option (Bool)) (b : Int) (c : Qb) : Nat → Int → Int → Option (Bool)
  | 0, _, _ => none
  | f + 1, d, e => V4 a (Vn a b c f) b c d e
def Zi (d : Int → Int → Option (Bool)) (e : (List Qb)) (b : Int) (c : Int) (f : Bool) : Option (Bool) :=
  (cond f ((idx e c).bind fun a => (Vn d c a Xx (IntKind.wrap .i64 ((IntKind.wrap .i64 ((IntKind.wrap .i64 (b + (if 3000 < ((List.length a.1 : Nat) : Int) then 3000 else ((List.length a.1 : Nat) : Int)))) + ((List.length a.2.2.2.1 : Nat) : Int))) + ((List.length a.2.2.2.2 : Nat) : Int))) 0)) (some ((decide (b ≥ 3000)))))
def V7 (d : Int → Int → Option (Bool)) (a : (List Qb)) (b : Int) (c : Int) : Option (Bool) :=
  (cond (decide (c < ((List.length a : Nat) : Int))) (Zi d a b c (decide (b < 3000))) (Zi d a b c false))
def Qu (a : (List Qb)) : Nat → Int → Int → Option (Bool)
  | 0, _, _ => none
  | f + 1, b, c => V7  (Qu a f) a b c
def Y4 (b : Int) (c : Int) (d : Int) (e : Int) (a : (List Qb)) : Option (Bool) :=
  (Qu a Xx ((List.length a : Nat) : Int) 0)
set_option maxHeartbeats 40000000 in
theorem Gs (A6 : Option Addr) (c7 : Nat) (a4 : Int) (a5 : Int) (a6 : Int) (a7 : Int) (d9 : (List Qh)) (w0 : World) (a8 : (dDS V1 Fc).ok w0 (A6, c7, d9)) (r : (Bool)) (H : Y4 a4 a5 a6 a7 (List.map stT d9) = some r) :
  Calls Tryz.prog 15 #[(.agg #[(.int .i64 a4), (.int .i64 a5), (.int .i64 a6), (.int .i64 a7), (.slice A6 (List.length (List.map stT d9)) c7)])] w0 (fun e w' => e = .returned (.bool r) ∧ SP [] w0 w' []) := by
 unfold Y4 at H
 refine Qv (n := 72) Tryz.func15 K K K ?_
 have d5 := Q1 [] w0
 refine aQ ?_
 refine aR ?_
 refine iS 1 ?_
 refine Z0 (t := 24) (x := (.tmp 0)) (v := (.agg #[(.int .i64 a4), (.int .i64 a5), (.int .i64 a6), (.int .i64 a7), (.slice A6 (List.length (List.map stT d9)) c7)])) (d := (some 1)) (k := 0) K rfl K d5 ?_
 intro u g8 c1
 refine iR 1 2 [(2, (.bool false))] ?_
 refine iF ?_
 refine aQ ?_
 refine aR ?_
 refine iR 1 1 [(7, (pt u 4))] ?_
 refine iS 2 ?_
 refine sL 22 7 u 4 0 (.slice A6 (List.length (List.map stT d9)) c7) 8 c1 rfl ?_
 refine iR 2 4 [(9, (.int .i64 ((List.length (List.map stT d9) : Nat) : Int))), (3, (.int .i64 ((List.length (List.map stT d9) : Nat) : Int)))] ?_
 refine iF ?_
 refine aQ ?_
 refine aQ ?_
 refine aR ?_
 refine iR 1 1 [(4, (.int .i64 0))] ?_
 refine iF ?_
 refine Y0 K (id := 0) K ?_
 refine G3 K (fun a3 ρ w => ∃ (q : Int) (h : Int), Zm ρ [(1, (pt u 0)), (3, (.int .i64 q)), (4, (.int .i64 h))] ∧ SP [] w0 w [Qq u 24 #[(.int .i64 a4), (.int .i64 a5), (.int .i64 a6), (.int .i64 a7), (.slice A6 (List.length (List.map stT d9)) c7)]] ∧ Qu (List.map stT d9) a3 q h = some r) (by rintro ρ w ⟨q, h, hk, hs, H⟩; cases H) ?_ Xx ?_
 ·rintro a3 ρ g9 ⟨q, h, hk, b5, H⟩
  refine At.known [(1, (pt u 0)), (3, (.int .i64 q)), (4, (.int .i64 h))] hk ?_
  replace H := (show V7 (Qu (List.map stT d9) a3) (List.map stT d9) q h = some r from H)
  unfold V7 at H
  refine aQ ?_
  refine aQ ?_
  refine At.join (fun ρ w => ∃ (a9 : Bool), Zm ρ [(1, (pt u 0)), (3, (.int .i64 q)), (4, (.int .i64 h)), (18, (.bool a9))] ∧ SP [] w0 w [Qq u 24 #[(.int .i64 a4), (.int .i64 a5), (.int .i64 a6), (.int .i64 a7), (.slice A6 (List.length (List.map stT d9)) c7)]] ∧ Zi (Qu (List.map stT d9) a3) (List.map stT d9) q h a9 = some r) ?_ ?_
  ·refine aR ?_
   refine iR 2 2 [(10, (.int .i64 h)), (11, (pt u 4))] ?_
   refine iS 3 ?_
   refine sL 22 11 u 4 0 (.slice A6 (List.length (List.map stT d9)) c7) 12 b5 rfl ?_
   refine iR 3 6 [(13, (.int .i64 ((List.length (List.map stT d9) : Nat) : Int))), (14, (.bool (decide (h < ((List.length (List.map stT d9) : Nat) : Int))))), (15, (.bool (decide (h < ((List.length (List.map stT d9) : Nat) : Int)))))] ?_
   refine In.guard (t := 15) (b := (decide (h < ((List.length (List.map stT d9) : Nat) : Int)))) K (fun b6 => ?_) (fun b6 => ?_)
   ·have H := ct H b6
    refine iR 3 9 [(16, (.int .i64 q)), (17, (.bool (decide (q < 3000)))), (18, (.bool (decide (q < 3000))))] ?_
    refine iF ?_
    exact ⟨(decide (q < 3000)), ⟨K, K, K, K, trivial⟩, SP.sel b5 [0] rfl rfl, H⟩
   ·have H := cf H b6
    refine iR 3 9 [(16, undef), (17, undef), (18, (.bool false))] ?_
    refine iF ?_
    exact ⟨false, ⟨K, K, K, K, trivial⟩, SP.sel b5 [0] rfl rfl, H⟩
  ·rintro ρ h1 ⟨a9, hk, b1, H⟩
   unfold Zi at H
   first | refine At.known [(1, (pt u 0)), (3, (.int .i64 q)), (4, (.int .i64 h)), (18, (.bool a9))] hk ?_ | rw [← Q3 (l := [(1, (pt u 0)), (3, (.int .i64 q)), (4, (.int .i64 h)), (18, (.bool a9))]) hk]
   refine Xe K (o := (.tmp 18)) K (b := a9) K (fun b7 => ?_) (fun b7 => ?_)
   ·have H := ct H b7
    refine At.skip K ?_
    refine aQ ?_
    refine Y0 K (id := 1) K ?_
    refine aQ ?_
    refine aR ?_
    refine iR 1 1 [(21, (pt u 4))] ?_
    refine iS 2 ?_
    refine sL 22 21 u 4 0 (.slice A6 (List.length (List.map stT d9)) c7) 22 b1 rfl ?_
    refine iR 1 3 [(23, (.int .i64 h))] ?_
    obtain ⟨a, c2, c3, b2, H⟩ := J6 H
    refine iS 4 ?_
    refine Yu stT (e := V1) (l := d9) (A := A6) (c := c7) (T := 22) (E := 33) (x := (.tmp 22)) (ix := (.tmp 23)) (ki := .i64) (iz := h) (d := (some 24)) (k := 3) K rfl K K K K (RdT.sp (Yh a8) b1) c2 c3 ?_
    intro d6 d7 d8 h2 hc480
    refine iS 5 ?_
    refine Qi.cells (t := 33) (x := (.tmp 24)) (b := d6) (off := (d7 + Int.toNat h * V1.sz)) (xs := [(.string ⟨List.toArray (stT a).1⟩), (.int .i64 (stT a).2.1), (.int .i64 (stT a).2.2.1), (.slice a.2.2.2.1.1 (List.length (stT a).2.2.2.1) a.2.2.2.1.2.1), (.slice a.2.2.2.2.1 (List.length (stT a).2.2.2.2) a.2.2.2.2.2.1)]) (d := (some 25)) (k := 4) K rfl K K K (Vv (e := V1) (Qj (RdT.sp (Yh a8) b1) d8 c2 c3) b2 rfl) ?_
    refine iS 6 ?_
    refine Qi.alloc (t := 33) (z := (.agg #[(.string ⟨List.toArray ([] : List UInt8)⟩), (.int .i64 0), (.int .i64 0), (.slice none (List.length ([] : List (Int × Int))) 0), (.slice none (List.length ([] : List ((List UInt8) × (List UInt8) × Int))) 0)])) (d := (some 5)) (k := 5) K rfl K b1 ?_
    intro m h3 e0
    refine iS 7 ?_
    refine Qi.store (t := 33) (x := (.tmp 5)) (y := (.tmp 25)) (g := m) (off := 0) (i := 1) (v := (.agg #[(.string ⟨List.toArray (stT a).1⟩), (.int .i64 (stT a).2.1), (.int .i64 (stT a).2.2.1), (.slice a.2.2.2.1.1 (List.length (stT a).2.2.2.1) a.2.2.2.1.2.1), (.slice a.2.2.2.2.1 (List.length (stT a).2.2.2.2) a.2.2.2.2.2.1)])) (cs' := #[(.string ⟨List.toArray (stT a).1⟩), (.int .i64 (stT a).2.1), (.int .i64 (stT a).2.2.1), (.slice a.2.2.2.1.1 (List.length (stT a).2.2.2.1) a.2.2.2.1.2.1), (.slice a.2.2.2.2.1 (List.length (stT a).2.2.2.2) a.2.2.2.2.2.1)]) (d := none) (k := 6) K rfl K K e0 rfl K ?_
    intro h4 b3
    refine iF ?_
    refine aQ ?_
    refine aR ?_
    refine iR 2 2 [(26, (.int .i64 q)), (27, (pt m 0))] ?_
    refine iS 3 ?_
    refine sL 9 27 m 0 1 (.string ⟨List.toArray (stT a).1⟩) 28 b3 rfl ?_
    refine iR 4 7 [(29, (.int .i64 ((List.length (stT a).1 : Nat) : Int))), (30, (.int .i64 (if 3000 < ((List.length (stT a).1 : Nat) : Int) then 3000 else ((List.length (stT a).1 : Nat) : Int)))), (31, (.int .i64 (IntKind.wrap .i64 (q + (if 3000 < ((List.length (stT a).1 : Nat) : Int) then 3000 else ((List.length (stT a).1 : Nat) : Int)))))), (32, (pt m 3))] ?_
    refine iS 8 ?_
    refine sL 30 32 m 3 1 (.slice a.2.2.2.1.1 (List.length (stT a).2.2.2.1) a.2.2.2.1.2.1) 33 b3 rfl ?_
    refine iR 3 11 [(34, (.int .i64 ((List.length (stT a).2.2.2.1 : Nat) : Int))), (35, (.int .i64 (IntKind.wrap .i64 ((IntKind.wrap .i64 (q + (if 3000 < ((List.length (stT a).1 : Nat) : Int) then 3000 else ((List.length (stT a).1 : Nat) : Int)))) + ((List.length (stT a).2.2.2.1 : Nat) : Int))))), (36, (pt m 4))] ?_
    refine iS 12 ?_
    refine sL 31 36 m 4 1 (.slice a.2.2.2.2.1 (List.length (stT a).2.2.2.2) a.2.2.2.2.2.1) 37 b3 rfl ?_
    refine iR 3 15 [(38, (.int .i64 ((List.length (stT a).2.2.2.2 : Nat) : Int))), (39, (.int .i64 (IntKind.wrap .i64 ((IntKind.wrap .i64 ((IntKind.wrap .i64 (q + (if 3000 < ((List.length (stT a).1 : Nat) : Int) then 3000 else ((List.length (stT a).1 : Nat) : Int)))) + ((List.length (stT a).2.2.2.1 : Nat) : Int))) + ((List.length (stT a).2.2.2.2 : Nat) : Int))))), (3, (.int .i64 (IntKind.wrap .i64 ((IntKind.wrap .i64 ((IntKind.wrap .i64 (q + (if 3000 < ((List.length (stT a).1 : Nat) : Int) then 3000 else ((List.length (stT a).1 : Nat) : Int)))) + ((List.length (stT a).2.2.2.1 : Nat) : Int))) + ((List.length (stT a).2.2.2.2 : Nat) : Int)))))] ?_
    refine iF ?_
    refine aQ ?_
    refine aR ?_
    refine iR 1 1 [(6, (.int .i64 0))] ?_
    refine iF ?_
    refine Y0 K (id := 2) K ?_
    refine G3 K (fun b4 ρ w => ∃ (p : Int) (f : Int), Zm ρ [(1, (pt u 0)), (3, (.int .i64 p)), (4, (.int .i64 h)), (5, (pt m 0)), (6, (.int .i64 f))] ∧ SP [] w0 w [Qq u 24 #[(.int .i64 a4), (.int .i64 a5), (.int .i64 a6), (.int .i64 a7), (.slice A6 (List.length (List.map stT d9)) c7)], Qq m 33 #[(.string ⟨List.toArray (stT a).1⟩), (.int .i64 (stT a).2.1), (.int .i64 (stT a).2.2.1), (.slice a.2.2.2.1.1 (List.length (stT a).2.2.2.1) a.2.2.2.1.2.1), (.slice a.2.2.2.2.1 (List.length (stT a).2.2.2.2) a.2.2.2.2.2.1)]] ∧ Vn (Qu (List.map stT d9) a3) h (stT a) b4 p f = some r) (by rintro ρ w ⟨p, f, hk, hs, H⟩; cases H) ?_ Xx ?_
    ·rintro b4 ρ h5 ⟨p, f, hk, b8, H⟩
     refine At.known [(1, (pt u 0)), (3, (.int .i64 p)), (4, (.int .i64 h)), (5, (pt m 0)), (6, (.int .i64 f))] hk ?_
     replace H := (show V4 (Qu (List.map stT d9) a3) (Vn (Qu (List.map stT d9) a3) h (stT a) b4) h (stT a) p f = some r from H)
     unfold V4 at H
     refine aQ ?_
     refine aQ ?_
     refine At.join (fun ρ w => ∃ (b0 : Bool), Zm ρ [(1, (pt u 0)), (3, (.int .i64 p)), (4, (.int .i64 h)), (5, (pt m 0)), (6, (.int .i64 f)), (48, (.bool b0))] ∧ SP [] w0 w [Qq u 24 #[(.int .i64 a4), (.int .i64 a5), (.int .i64 a6), (.int .i64 a7), (.slice A6 (List.length (List.map stT d9)) c7)], Qq m 33 #[(.string ⟨List.toArray (stT a).1⟩), (.int .i64 (stT a).2.1), (.int .i64 (stT a).2.2.1), (.slice a.2.2.2.1.1 (List.length (stT a).2.2.2.1) a.2.2.2.1.2.1), (.slice a.2.2.2.2.1 (List.length (stT a).2.2.2.2) a.2.2.2.2.2.1)]] ∧ Zh (Qu (List.map stT d9) a3) (Vn (Qu (List.map stT d9) a3) h (stT a) b4) h (stT a) p f b0 = some r) ?_ ?_
     ·refine aR ?_
      refine iR 2 2 [(40, (.int .i64 f)), (41, (pt m 4))] ?_
      refine iS 3 ?_
      refine sL 31 41 m 4 1 (.slice a.2.2.2.2.1 (List.length (stT a).2.2.2.2) a.2.2.2.2.2.1) 42 b8 rfl ?_
      refine iR 3 6 [(43, (.int .i64 ((List.length (stT a).2.2.2.2 : Nat) : Int))), (44, (.bool (decide (f < ((List.length (stT a).2.2.2.2 : Nat) : Int))))), (45, (.bool (decide (f < ((List.length (stT a).2.2.2.2 : Nat) : Int)))))] ?_
      refine In.guard (t := 45) (b := (decide (f < ((List.length (stT a).2.2.2.2 : Nat) : Int)))) K (fun b9 => ?_) (fun b9 => ?_)
      ·have H := ct H b9
       refine iR 3 9 [(46, (.int .i64 p)), (47, (.bool (decide (p < 3000)))), (48, (.bool (decide (p < 3000))))] ?_
       refine iF ?_
       exact ⟨(decide (p < 3000)), ⟨K, K, K, K, K, K, trivial⟩, SP.sel b8 [0, 1] rfl rfl, H⟩
      ·have H := cf H b9
       refine iR 3 9 [(46, undef), (47, undef), (48, (.bool false))] ?_
       refine iF ?_
       exact ⟨false, ⟨K, K, K, K, K, K, trivial⟩, SP.sel b8 [0, 1] rfl rfl, H⟩
     ·rintro ρ h6 ⟨b0, hk, c4, H⟩
      unfold Zh at H
      first | refine At.known [(1, (pt u 0)), (3, (.int .i64 p)), (4, (.int .i64 h)), (5, (pt m 0)), (6, (.int .i64 f)), (48, (.bool b0))] hk ?_ | rw [← Q3 (l := [(1, (pt u 0)), (3, (.int .i64 p)), (4, (.int .i64 h)), (5, (pt m 0)), (6, (.int .i64 f)), (48, (.bool b0))]) hk]
      refine Xe K (o := (.tmp 48)) K (b := b0) K (fun c0 => ?_) (fun c0 => ?_)
      ·have H := ct H c0
       refine At.skip K ?_
       refine aQ ?_
       refine Y0 K (id := 3) K ?_
       obtain ⟨s, c5, c6, e1, H⟩ := Ve H
       obtain ⟨a0, c8, c9, e2, H⟩ := Ve H
       refine aG [GEq (.int .i64 p), GEq (pt m 4), GEq (.slice a.2.2.2.2.1 (List.length (stT a).2.2.2.2) a.2.2.2.2.2.1), GEq (.int .i64 f), Yb a.2.2.2.2.1 (Qf Ql (Qf Ql (Q4 .i64))).sz f, Yb a.2.2.2.2.1 (Qf Ql (Qf Ql (Q4 .i64))).sz f, GEq (.string ⟨List.toArray s.1⟩), GEq (.int .i64 ((List.length s.1 : Nat) : Int)), GEq (.int .i64 (if 3000 < ((List.length s.1 : Nat) : Int) then 3000 else ((List.length s.1 : Nat) : Int))), GEq (.int .i64 (IntKind.wrap .i64 (p + (if 3000 < ((List.length s.1 : Nat) : Int) then 3000 else ((List.length s.1 : Nat) : Int))))), GEq (pt m 4), GEq (.slice a.2.2.2.2.1 (List.length (stT a).2.2.2.2) a.2.2.2.2.2.1), GEq (.int .i64 f), Yb a.2.2.2.2.1 (Qf Ql (Qf Ql (Q4 .i64))).sz f, GElem a.2.2.2.2.1 (Qf Ql (Qf Ql (Q4 .i64))).sz f 1, GEq (.string ⟨List.toArray a0.2.1⟩), GEq (.int .i64 ((List.length a0.2.1 : Nat) : Int)), GEq (.int .i64 (if 3000 < ((List.length a0.2.1 : Nat) : Int) then 3000 else ((List.length a0.2.1 : Nat) : Int))), GEq (.int .i64 (IntKind.wrap .i64 ((IntKind.wrap .i64 (p + (if 3000 < ((List.length s.1 : Nat) : Int) then 3000 else ((List.length s.1 : Nat) : Int)))) + (if 3000 < ((List.length a0.2.1 : Nat) : Int) then 3000 else ((List.length a0.2.1 : Nat) : Int))))), GEq (.int .i64 (IntKind.wrap .i64 ((IntKind.wrap .i64 (p + (if 3000 < ((List.length s.1 : Nat) : Int) then 3000 else ((List.length s.1 : Nat) : Int)))) + (if 3000 < ((List.length a0.2.1 : Nat) : Int) then 3000 else ((List.length a0.2.1 : Nat) : Int)))))] [] (tG [] w0 [Qq u 24 #[(.int .i64 a4), (.int .i64 a5), (.int .i64 a6), (.int .i64 a7), (.slice A6 (List.length (List.map stT d9)) c7)], Qq m 33 #[(.string ⟨List.toArray (stT a).1⟩), (.int .i64 (stT a).2.1), (.int .i64 (stT a).2.2.1), (.slice a.2.2.2.1.1 (List.length (stT a).2.2.2.1) a.2.2.2.1.2.1), (.slice a.2.2.2.2.1 (List.length (stT a).2.2.2.2) a.2.2.2.2.2.1)]] [([], [])]) 20 0 ⟨trivial, SP.drew c4⟩ ?_ ?_
       iterate 20 refine And.intro ?_ ?_
       exact trivial
       ·exact oV (hC (hS 3 (.int .i64 p)) (h0)) (.int .i64 p)
       ·exact oV (hC (hS 5 (pt m 0)) (h0)) (pt m 4)
       ·refine oL 0 ?_
        ·rintro ρ' w' hs a1 ⟨h7, e3⟩
         refine kM (kc (kA a1 1 52) k0) fun a2 => ?_
         refine sL 31 52 m 4 1 (.slice a.2.2.2.2.1 (List.length (stT a).2.2.2.2) a.2.2.2.2.2.1) 53 e3 rfl ?_
         exact eK a2
       ·exact oV (hC (hS 6 (.int .i64 f)) (h0)) (.int .i64 f)
       ·refine oL 0 ?_
        ·rintro ρ' w' hs a1 ⟨h8, e4⟩
         refine kM (kc (kA a1 2 53) (kc (kA a1 3 54) k0)) fun a2 => ?_
         refine Qn (e := (Qf Ql (Qf Ql (Q4 .i64)))) (l := (stT a).2.2.2.2) (A := a.2.2.2.2.1) (c := a.2.2.2.2.2.1) (T := 31) (E := 37) (x := (.tmp 53)) (ix := (.tmp 54)) (ki := .i64) (iz := f) (d := (some 55)) (k := 4) K rfl K K K K (RdT.sp (Yh (dp2 (dp2 (dp2 (dp2 (Gr a8 b2)))))) e4) c5 c6 ?_
         intro e5 e6 e7 h9 hc655
         exact ⟨rfl, _, Qa a2, ⟨e5, e6, e7, rfl⟩⟩
       ·refine oL 0 ?_
        ·rintro ρ' w' hs a1 ⟨i0, i1⟩
         obtain ⟨d0, d1, e8, e9⟩ := a1 4 55 K
         refine kM (kc e9 k0) fun a2 => ?_
         refine Qi.run (k := 5) (v := (.pointer (some ⟨d0, (d1 + Int.toNat f * (Qf Ql (Qf Ql (Q4 .i64))).sz), none⟩))) K ?_
         exact ⟨rfl, _, Qa a2, ⟨d0, d1, e8, rfl⟩⟩
       ·refine oL 0 ?_
        ·rintro ρ' w' hs a1 ⟨i2, f0⟩
         obtain ⟨f1, f2, f3, f4⟩ := a1 5 56 K
         refine kM (kc f4 k0) fun a2 => ?_
         refine sC 9 56 f1 (f2 + Int.toNat f * (Qf Ql (Qf Ql (Q4 .i64))).sz) (.string ⟨List.toArray s.1⟩) 57 (Qw (e := (Qf Ql (Qf Ql (Q4 .i64)))) (Qj (RdT.sp (Yh (dp2 (dp2 (dp2 (dp2 (Gr a8 b2)))))) f0) f3 c5 c6) e1 (j := 0) rfl) ?_
         exact eK a2
       ·exact oV (hC (hA 6 57) (h0)) (.int .i64 ((List.length s.1 : Nat) : Int))
       ·exact oV (hC (hA 7 58) (h0)) (.int .i64 (if 3000 < ((List.length s.1 : Nat) : Int) then 3000 else ((List.length s.1 : Nat) : Int)))
       ·exact oV (hC (hA 0 51) (hC (hA 8 59) (h0))) (.int .i64 (IntKind.wrap .i64 (p + (if 3000 < ((List.length s.1 : Nat) : Int) then 3000 else ((List.length s.1 : Nat) : Int)))))
       ·exact oV (hC (hS 5 (pt m 0)) (h0)) (pt m 4)
       ·refine oL 0 ?_
        ·rintro ρ' w' hs a1 ⟨i3, f5⟩
         refine kM (kc (kA a1 10 61) k0) fun a2 => ?_
         refine sL 31 61 m 4 1 (.slice a.2.2.2.2.1 (List.length (stT a).2.2.2.2) a.2.2.2.2.2.1) 62 f5 rfl ?_
         exact eK a2
       ·exact oV (hC (hS 6 (.int .i64 f)) (h0)) (.int .i64 f)
       ·refine oL 0 ?_
        ·rintro ρ' w' hs a1 ⟨i4, f6⟩
         refine kM (kc (kA a1 11 62) (kc (kA a1 12 63) k0)) fun a2 => ?_
         refine Qn (e := (Qf Ql (Qf Ql (Q4 .i64)))) (l := (stT a).2.2.2.2) (A := a.2.2.2.2.1) (c := a.2.2.2.2.2.1) (T := 31) (E := 37) (x := (.tmp 62)) (ix := (.tmp 63)) (ki := .i64) (iz := f) (d := (some 64)) (k := 13) K rfl K K K K (RdT.sp (Yh (dp2 (dp2 (dp2 (dp2 (Gr a8 b2)))))) f6) c8 c9 ?_
         intro f7 f8 f9 i5 hc674
         exact ⟨rfl, _, Qa a2, ⟨f7, f8, f9, rfl⟩⟩
       ·refine oL 0 ?_
        ·rintro ρ' w' hs a1 ⟨i6, i7⟩
         obtain ⟨d2, d3, g0, g1⟩ := a1 13 64 K
         refine kM (kc g1 k0) fun a2 => ?_
         refine Qi.run (k := 14) (v := (.pointer (some ⟨d2, (d3 + Int.toNat f * (Qf Ql (Qf Ql (Q4 .i64))).sz + 1), none⟩))) K ?_
         exact ⟨rfl, _, Qa a2, ⟨d2, d3, g0, rfl⟩⟩
       ·refine oL 0 ?_
        ·rintro ρ' w' hs a1 ⟨i8, g2⟩
         obtain ⟨g3, g4, g5, g6⟩ := a1 14 65 K
         refine kM (kc g6 k0) fun a2 => ?_
         refine sC 9 65 g3 (g4 + Int.toNat f * (Qf Ql (Qf Ql (Q4 .i64))).sz + 1) (.string ⟨List.toArray a0.2.1⟩) 66 (Qw (e := (Qf Ql (Qf Ql (Q4 .i64)))) (Qj (RdT.sp (Yh (dp2 (dp2 (dp2 (dp2 (Gr a8 b2)))))) g2) g5 c8 c9) e2 (j := 1) rfl) ?_
         exact eK a2
       ·exact oV (hC (hA 15 66) (h0)) (.int .i64 ((List.length a0.2.1 : Nat) : Int))
       ·exact oV (hC (hA 16 67) (h0)) (.int .i64 (if 3000 < ((List.length a0.2.1 : Nat) : Int) then 3000 else ((List.length a0.2.1 : Nat) : Int)))
       ·exact oV (hC (hA 9 60) (hC (hA 17 68) (h0))) (.int .i64 (IntKind.wrap .i64 ((IntKind.wrap .i64 (p + (if 3000 < ((List.length s.1 : Nat) : Int) then 3000 else ((List.length s.1 : Nat) : Int)))) + (if 3000 < ((List.length a0.2.1 : Nat) : Int) then 3000 else ((List.length a0.2.1 : Nat) : Int)))))
       ·exact oV (hC (hA 18 69) (h0)) (.int .i64 (IntKind.wrap .i64 ((IntKind.wrap .i64 (p + (if 3000 < ((List.length s.1 : Nat) : Int) then 3000 else ((List.length s.1 : Nat) : Int)))) + (if 3000 < ((List.length a0.2.1 : Nat) : Int) then 3000 else ((List.length a0.2.1 : Nat) : Int)))))
       ·rintro ρ' w' hs hf ⟨i9, d4⟩
        refine V2 [(1, (pt u 0)), (3, (.int .i64 (IntKind.wrap .i64 ((IntKind.wrap .i64 (p + (if 3000 < ((List.length s.1 : Nat) : Int) then 3000 else ((List.length s.1 : Nat) : Int)))) + (if 3000 < ((List.length a0.2.1 : Nat) : Int) then 3000 else ((List.length a0.2.1 : Nat) : Int)))))), (4, (.int .i64 h)), (5, (pt m 0)), (6, (.int .i64 f))] ⟨(hs 1 K).trans K, hf 19 3 K, (hs 4 K).trans K, (hs 5 K).trans K, (hs 6 K).trans K, trivial⟩ ?_
        obtain ⟨j0, g7⟩ : ∃ x, w' = x := ⟨_, rfl⟩
        rw [g7] at d4 ⊢
        refine aR ?_
        refine iR 3 3 [(49, (.int .i64 f)), (50, (.int .i64 (IntKind.wrap .i64 (f + 1)))), (6, (.int .i64 (IntKind.wrap .i64 (f + 1))))] ?_
        refine iF ?_
        exact ⟨(IntKind.wrap .i64 ((IntKind.wrap .i64 (p + (if 3000 < ((List.length s.1 : Nat) : Int) then 3000 else ((List.length s.1 : Nat) : Int)))) + (if 3000 < ((List.length a0.2.1 : Nat) : Int) then 3000 else ((List.length a0.2.1 : Nat) : Int)))), (IntKind.wrap .i64 (f + 1)), ⟨K, K, K, K, K, trivial⟩, SP.sel d4 [0, 1] rfl rfl, H⟩
      ·have H := cf H c0
       refine At.exit K (id := 2) K ?_
       refine aR ?_
       refine iR 3 3 [(19, (.int .i64 h)), (20, (.int .i64 (IntKind.wrap .i64 (h + 1)))), (4, (.int .i64 (IntKind.wrap .i64 (h + 1))))] ?_
       refine iF ?_
       exact ⟨p, (IntKind.wrap .i64 (h + 1)), ⟨K, K, K, trivial⟩, SP.sel c4 [0] rfl rfl, H⟩
    ·exact ⟨(IntKind.wrap .i64 ((IntKind.wrap .i64 ((IntKind.wrap .i64 (q + (if 3000 < ((List.length (stT a).1 : Nat) : Int) then 3000 else ((List.length (stT a).1 : Nat) : Int)))) + ((List.length (stT a).2.2.2.1 : Nat) : Int))) + ((List.length (stT a).2.2.2.2 : Nat) : Int))), 0, ⟨K, K, K, K, K, trivial⟩, SP.sel b3 [0, 1] rfl rfl, H⟩
   ·have H := cf H b7
    refine At.exit K (id := 0) K ?_
    refine aQ ?_
    refine aR ?_
    refine iR 3 3 [(70, (.int .i64 q)), (71, (.bool (decide (q ≥ 3000)))), (2, (.bool (decide (q ≥ 3000))))] ?_
    refine iF ?_
    refine At.ret K ?_
    refine ⟨(.bool (decide (q ≥ 3000))), K, ?_⟩
    obtain rfl := Qg H
    exact ⟨rfl, SP.sel b1 [] rfl rfl⟩
 ·exact ⟨((List.length (List.map stT d9) : Nat) : Int), 0, ⟨K, K, K, trivial⟩, SP.sel c1 [0] rfl rfl, H⟩
end Go.Proofs.YtoflbpmbkmephaaGreatDoor
namespace Go.Proofs.YtoflbpmbkmephaaGreatDoor
abbrev Str := List UInt8
abbrev H0 := Int × Int
abbrev C6 := Str × Str × Int
theorem lNameM (s : Str) (h : s.length ≤ 140737488355328) : Yg s = some (R2 s) := by
  by_cases h9 : s.length ≤ 9000
  · exact lName s h9
  · unfold Yg Zq R2
    have hne : (s == ([] : List UInt8)) = false := by rw [beq_eq_false_iff_ne]; intro e; subst e; simp at h9
    rw [hne, show decide (((List.length s : Nat) : Int) ≤ 20) = false from decide_eq_false (by omega), show decide (s.length ≤ 20) = false from decide_eq_false (by omega)]
    simp
theorem Cj (l : List H0) (P : H0 → Bool) (p : Int → Int → Option Bool) (hp : ∀ x ∈ l, p x.1 x.2 = some (P x)) (hl : l.length ≤ 140737488355328) :
    ∀ (d i f : Nat), d = l.length - i → i ≤ l.length → d < f → ∃ r, Qo l p f (i : Int) = some r ∧ decide (r ≥ 0) = (l.drop i).any P := by
  intro d
  induction d with
  | zero =>
    intro i f hd hi hf
    obtain ⟨f, rfl⟩ : ∃ g, f = g + 1 := ⟨f - 1, by omega⟩
    refine ⟨-1, ?_, ?_⟩
    · show Qy (Qo l p f) l p (i : Int) = _
      unfold Qy
      rw [show decide ((i : Int) < ((l.length : Nat) : Int)) = false from decide_eq_false (by omega), cond_false]
    · rw [List.drop_of_length_le (by omega)]
      rfl
  | succ d ih =>
    intro i f hd hi hf
    obtain ⟨f, rfl⟩ : ∃ g, f = g + 1 := ⟨f - 1, by omega⟩
    have hlt : i < l.length := by omega
    obtain ⟨r, h1, h2⟩ := ih (i + 1) f (by omega) (by omega) (by omega)
    rw [List.drop_eq_getElem_cons hlt, List.any_cons]
    have hstep : Qo l p (f + 1) (i : Int) = cond (P l[i]) (some (i : Int)) (Qo l p f ((i + 1 : Nat) : Int)) := by
      show Qy (Qo l p f) l p (i : Int) = _
      unfold Qy
      rw [show decide ((i : Int) < ((l.length : Nat) : Int)) = true from decide_eq_true (by omega), cond_true, Y3 hlt, Option.bind_some, hp _ (List.getElem_mem hlt), Option.bind_some, show ((i : Int) + 1) = ((i + 1 : Nat) : Int) by omega, J5 (by omega)]
    rw [hstep]
    cases hP : P l[i] with
    | true => exact ⟨(i : Int), rfl, by rw [decide_eq_true (by omega), Bool.true_or]⟩
    | false => exact ⟨r, h1, by rw [h2, Bool.false_or]⟩
theorem I1 (l : List H0) (P : H0 → Bool) (p : Int → Int → Option Bool) (hp : ∀ x ∈ l, p x.1 x.2 = some (P x)) (hl : l.length ≤ 140737488355328) : Vk l p = some (l.any P) := by
  obtain ⟨r, h1, h2⟩ := Cj l P p hp hl l.length 0 Xx (by omega) (by omega) (by unfold Xx; omega)
  unfold Vk V5
  rw [show ((0 : Nat) : Int) = 0 from rfl] at h1
  rw [h1, Option.bind_some, h2, List.drop_zero]
theorem Bf (l : List C6) (P : C6 → Bool) (p : Str → Str → Int → Option Bool) (hp : ∀ x ∈ l, p x.1 x.2.1 x.2.2 = some (P x)) (hl : l.length ≤ 140737488355328) :
    ∀ (d i f : Nat), d = l.length - i → i ≤ l.length → d < f → ∃ r, Qm l p f (i : Int) = some r ∧ decide (r ≥ 0) = (l.drop i).any P := by
  intro d
  induction d with
  | zero =>
    intro i f hd hi hf
    obtain ⟨f, rfl⟩ : ∃ g, f = g + 1 := ⟨f - 1, by omega⟩
    refine ⟨-1, ?_, ?_⟩
    · show Qt (Qm l p f) l p (i : Int) = _
      unfold Qt
      rw [show decide ((i : Int) < ((l.length : Nat) : Int)) = false from decide_eq_false (by omega), cond_false]
    · rw [List.drop_of_length_le (by omega)]
      rfl
  | succ d ih =>
    intro i f hd hi hf
    obtain ⟨f, rfl⟩ : ∃ g, f = g + 1 := ⟨f - 1, by omega⟩
    have hlt : i < l.length := by omega
    obtain ⟨r, h1, h2⟩ := ih (i + 1) f (by omega) (by omega) (by omega)
    rw [List.drop_eq_getElem_cons hlt, List.any_cons]
    have hstep : Qm l p (f + 1) (i : Int) = cond (P l[i]) (some (i : Int)) (Qm l p f ((i + 1 : Nat) : Int)) := by
      show Qt (Qm l p f) l p (i : Int) = _
      unfold Qt
      rw [show decide ((i : Int) < ((l.length : Nat) : Int)) = true from decide_eq_true (by omega), cond_true, Y3 hlt, Option.bind_some, hp _ (List.getElem_mem hlt), Option.bind_some, show ((i : Int) + 1) = ((i + 1 : Nat) : Int) by omega, J5 (by omega)]
    rw [hstep]
    cases hP : P l[i] with
    | true => exact ⟨(i : Int), rfl, by rw [decide_eq_true (by omega), Bool.true_or]⟩
    | false => exact ⟨r, h1, by rw [h2, Bool.false_or]⟩
theorem F3 (l : List C6) (P : C6 → Bool) (p : Str → Str → Int → Option Bool) (hp : ∀ x ∈ l, p x.1 x.2.1 x.2.2 = some (P x)) (hl : l.length ≤ 140737488355328) : Vb l p = some (l.any P) := by
  obtain ⟨r, h1, h2⟩ := Bf l P p hp hl l.length 0 Xx (by omega) (by omega) (by unfold Xx; omega)
  unfold Vb Vf
  rw [show ((0 : Nat) : Int) = 0 from rfl] at h1
  rw [h1, Option.bind_some, h2, List.drop_zero]
theorem D1 (l : List Qb) (P : Qb → Bool) (p : Str → Int → Int → List H0 → List C6 → Option Bool) (hp : ∀ x ∈ l, p x.1 x.2.1 x.2.2.1 x.2.2.2.1 x.2.2.2.2 = some (P x)) (hl : l.length ≤ 140737488355328) :
    ∀ (d i f : Nat), d = l.length - i → i ≤ l.length → d < f → ∃ r, Qk l p f (i : Int) = some r ∧ decide (r ≥ 0) = (l.drop i).any P := by
  intro d
  induction d with
  | zero =>
    intro i f hd hi hf
    obtain ⟨f, rfl⟩ : ∃ g, f = g + 1 := ⟨f - 1, by omega⟩
    refine ⟨-1, ?_, ?_⟩
    · show Qr (Qk l p f) l p (i : Int) = _
      unfold Qr
      rw [show decide ((i : Int) < ((l.length : Nat) : Int)) = false from decide_eq_false (by omega), cond_false]
    · rw [List.drop_of_length_le (by omega)]
      rfl
  | succ d ih =>
    intro i f hd hi hf
    obtain ⟨f, rfl⟩ : ∃ g, f = g + 1 := ⟨f - 1, by omega⟩
    have hlt : i < l.length := by omega
    obtain ⟨r, h1, h2⟩ := ih (i + 1) f (by omega) (by omega) (by omega)
    rw [List.drop_eq_getElem_cons hlt, List.any_cons]
    have hstep : Qk l p (f + 1) (i : Int) = cond (P l[i]) (some (i : Int)) (Qk l p f ((i + 1 : Nat) : Int)) := by
      show Qr (Qk l p f) l p (i : Int) = _
      unfold Qr
      rw [show decide ((i : Int) < ((l.length : Nat) : Int)) = true from decide_eq_true (by omega), cond_true, Y3 hlt, Option.bind_some, hp _ (List.getElem_mem hlt), Option.bind_some, show ((i : Int) + 1) = ((i + 1 : Nat) : Int) by omega, J5 (by omega)]
    rw [hstep]
    cases hP : P l[i] with
    | true => exact ⟨(i : Int), rfl, by rw [decide_eq_true (by omega), Bool.true_or]⟩
    | false => exact ⟨r, h1, by rw [h2, Bool.false_or]⟩
theorem Eu (l : List Qb) (P : Qb → Bool) (p : Str → Int → Int → List H0 → List C6 → Option Bool) (hp : ∀ x ∈ l, p x.1 x.2.1 x.2.2.1 x.2.2.2.1 x.2.2.2.2 = some (P x)) (hl : l.length ≤ 140737488355328) : Q7 l p = some (l.any P) := by
  obtain ⟨r, h1, h2⟩ := D1 l P p hp hl l.length 0 Xx (by omega) (by omega) (by unfold Xx; omega)
  unfold Q7 Vc
  rw [show ((0 : Nat) : Int) = 0 from rfl] at h1
  rw [h1, Option.bind_some, h2, List.drop_zero]
def Br : List Str → Bool
  | [] => true
  | [_] => true
  | a :: b :: r => Op.bytesLess a b && Br (b :: r)
theorem H1 (l : List Str) (i : Nat) (h : i + 1 < l.length) : Br (l.drop i) = (Op.bytesLess (l[i]'(by omega)) (l[i + 1]'h) && Br (l.drop (i + 1))) := by
  rw [List.drop_eq_getElem_cons (by omega : i < l.length), List.drop_eq_getElem_cons h]
  rfl
theorem Fd (l : List Str) (i : Nat) (h : l.length ≤ i + 1) : Br (l.drop i) = true := by
  by_cases h2 : i < l.length
  · rw [List.drop_eq_getElem_cons h2, List.drop_of_length_le (by omega)]
    rfl
  · rw [List.drop_of_length_le (by omega)]
    rfl
theorem Ck (l : List C6) (p : Str → Str → Int → Option Str) (hp : ∀ x : C6, p x.1 x.2.1 x.2.2 = some x.1) (hl : l.length ≤ 140737488355328) :
    ∀ (d i f : Nat), d = l.length - i → 1 ≤ i → d < f → Vm l p f (i : Int) = some (Br ((l.map (·.1)).drop (i - 1))) := by
  intro d
  induction d with
  | zero =>
    intro i f hd hi hf
    obtain ⟨f, rfl⟩ : ∃ g, f = g + 1 := ⟨f - 1, by omega⟩
    show Vl (Vm l p f) l p (i : Int) = _
    unfold Vl
    rw [show decide ((i : Int) < ((l.length : Nat) : Int)) = false from decide_eq_false (by omega), cond_false, Fd _ _ (by simp; omega)]
  | succ d ih =>
    intro i f hd hi hf
    obtain ⟨f, rfl⟩ : ∃ g, f = g + 1 := ⟨f - 1, by omega⟩
    have hlt : i < l.length := by omega
    have hlt' : i - 1 < l.length := by omega
    show Vl (Vm l p f) l p (i : Int) = _
    unfold Vl
    rw [show decide ((i : Int) < ((l.length : Nat) : Int)) = true from decide_eq_true (by omega), cond_true, show ((i : Int) - 1) = ((i - 1 : Nat) : Int) by omega, J5 (by omega), Y3 hlt', Option.bind_some, hp, Option.bind_some, Y3 hlt, Option.bind_some, hp, Option.bind_some,
      show ((i : Int) + 1) = ((i + 1 : Nat) : Int) by omega, J5 (by omega), ih (i + 1) f (by omega) (by omega) (by omega), H1 _ (i - 1) (by simp; omega)]
    simp only [show i - 1 + 1 = i by omega, show i + 1 - 1 = i by omega, List.getElem_map]
    cases Op.bytesLess l[i - 1].1 l[i].1 with
    | true => rfl
    | false => rfl
theorem I2 (l : List C6) (p : Str → Str → Int → Option Str) (hp : ∀ x : C6, p x.1 x.2.1 x.2.2 = some x.1) (hl : l.length ≤ 140737488355328) : Zo l p = some (Br (l.map (·.1))) := by
  have := Ck l p hp hl (l.length - 1) 1 Xx rfl (Nat.le_refl _) (by unfold Xx; omega)
  unfold Zo
  rw [show ((1 : Nat) : Int) = 1 from rfl] at this
  rw [this]
  rfl
theorem Bw (l : List Qb) (p : Str → Int → Int → List H0 → List C6 → Option Str) (hp : ∀ x : Qb, p x.1 x.2.1 x.2.2.1 x.2.2.2.1 x.2.2.2.2 = some x.1) (hl : l.length ≤ 140737488355328) :
    ∀ (d i f : Nat), d = l.length - i → 1 ≤ i → d < f → Vi l p f (i : Int) = some (Br ((l.map (·.1)).drop (i - 1))) := by
  intro d
  induction d with
  | zero =>
    intro i f hd hi hf
    obtain ⟨f, rfl⟩ : ∃ g, f = g + 1 := ⟨f - 1, by omega⟩
    show Vh (Vi l p f) l p (i : Int) = _
    unfold Vh
    rw [show decide ((i : Int) < ((l.length : Nat) : Int)) = false from decide_eq_false (by omega), cond_false, Fd _ _ (by simp; omega)]
  | succ d ih =>
    intro i f hd hi hf
    obtain ⟨f, rfl⟩ : ∃ g, f = g + 1 := ⟨f - 1, by omega⟩
    have hlt : i < l.length := by omega
    have hlt' : i - 1 < l.length := by omega
    show Vh (Vi l p f) l p (i : Int) = _
    unfold Vh
    rw [show decide ((i : Int) < ((l.length : Nat) : Int)) = true from decide_eq_true (by omega), cond_true, show ((i : Int) - 1) = ((i - 1 : Nat) : Int) by omega, J5 (by omega), Y3 hlt', Option.bind_some, hp, Option.bind_some, Y3 hlt, Option.bind_some, hp, Option.bind_some,
      show ((i : Int) + 1) = ((i + 1 : Nat) : Int) by omega, J5 (by omega), ih (i + 1) f (by omega) (by omega) (by omega), H1 _ (i - 1) (by simp; omega)]
    simp only [show i - 1 + 1 = i by omega, show i + 1 - 1 = i by omega, List.getElem_map]
    cases Op.bytesLess l[i - 1].1 l[i].1 with
    | true => rfl
    | false => rfl
theorem H2 (l : List Qb) (p : Str → Int → Int → List H0 → List C6 → Option Str) (hp : ∀ x : Qb, p x.1 x.2.1 x.2.2.1 x.2.2.2.1 x.2.2.2.2 = some x.1) (hl : l.length ≤ 140737488355328) : Zk l p = some (Br (l.map (·.1))) := by
  have := Bw l p hp hl (l.length - 1) 1 Xx rfl (Nat.le_refl _) (by unfold Xx; omega)
  unfold Zk
  rw [show ((1 : Nat) : Int) = 1 from rfl] at this
  rw [this]
  rfl
def I3 (n : H0) : Bool := Nn n.1.toNat n.2
def C7 (x : C6) : Bool := R2 x.1 && ((decide (1 ≤ x.2.1.length) && decide (x.2.1.length ≤ 32)) && (decide (0 ≤ x.2.2) && decide (x.2.2 ≤ 1099511627776)))
def qOk (n : Int) : Bool := decide (0 ≤ n) && decide (n ≤ 8)
def D2 (t : Qb) : Bool := (t.2.2.2.1.all I3 && t.2.2.2.2.all C7) && ((R2 t.1 && (decide (t.2.2.2.1.length ≤ 4) && decide (t.2.2.2.2.length ≤ 4))) && ((qOk t.2.1 && qOk t.2.2.1) && Br (t.2.2.2.2.map (·.1))))
def Nb (n : Int) : Bool := decide (1 ≤ n) && decide (n ≤ 1073741824)
def H3 (w g i e : Int) (l : List Qb) : Bool := (Nb w && (Nb g && (Nb i && Nb e))) && (decide (l.length ≤ 8) && (l.all D2 && Br (l.map (·.1))))
def TenQ (t : Qb) : Prop := t.1.length ≤ 140737488355328 ∧ t.2.2.2.1.length ≤ 140737488355328 ∧ t.2.2.2.2.length ≤ 140737488355328 ∧ (∀ n ∈ t.2.2.2.1, 0 ≤ n.1 ∧ n.1 < 4294967296) ∧ ∀ x ∈ t.2.2.2.2, x.1.length ≤ 140737488355328 ∧ x.2.1.length ≤ 140737488355328
theorem C8 (n a b : Int) : Z3 n a b = some (decide (a ≤ n) && decide (n ≤ b)) := by
  unfold Z3 Yi
  by_cases h : n ≥ a
  · rw [show decide (n ≥ a) = true from decide_eq_true h]
    rfl
  · rw [show decide (n ≥ a) = false from decide_eq_false h]
    rfl
theorem slash_nil (a : Nat) (b : Int) : (Gg a b == ([] : List UInt8)) = !(Nn a b) := by
  unfold Gg
  cases Nn a b with
  | true =>
    simp only [Bool.not_true, beq_eq_false_iff_ne]
    intro h
    have := congrArg List.length h
    simp at this
  | false => rfl
theorem lNetBad {n : H0} (h : 0 ≤ n.1 ∧ n.1 < 4294967296) : X2 n.1 n.2 = some (!(I3 n)) := by
  unfold X2 I3
  obtain ⟨a, ha⟩ : ∃ a : Nat, n.1 = (a : Int) := ⟨n.1.toNat, by omega⟩
  rw [ha, lSlash a (by omega), Option.bind_some, slash_nil, Int.toNat_natCast]
theorem lToken {x : C6} (h : x.1.length ≤ 140737488355328) : J7 x.1 x.2.1 x.2.2 = some (C7 x) := by
  unfold J7 X3 C7
  rw [lNameM _ h, Option.bind_some, C8, C8]
  cases R2 x.1 with
  | false => rfl
  | true =>
    rw [cond_true, Option.bind_some, show decide (1 ≤ ((List.length x.2.1 : Nat) : Int)) = decide (1 ≤ x.2.1.length) from decide_eq_decide.2 (by omega), show decide (((List.length x.2.1 : Nat) : Int) ≤ 32) = decide (x.2.1.length ≤ 32) from decide_eq_decide.2 (by omega)]
    cases (decide (1 ≤ x.2.1.length) && decide (x.2.1.length ≤ 32)) <;> rfl
theorem I4 {α : Type} (p : α → Bool) (l : List α) : l.any (fun x => !(p x)) = !(l.all p) := by
  induction l with
  | nil => rfl
  | cons x l ih => rw [List.any_cons, List.all_cons, ih, Bool.not_and]
theorem lTenant {t : Qb} (h : TenQ t) : Jp t.1 t.2.1 t.2.2.1 t.2.2.2.1 t.2.2.2.2 = some (D2 t) := by
  obtain ⟨h1, h2, h3, h4, h5⟩ := h
  unfold Jp
  rw [I1 t.2.2.2.1 (fun n => !(I3 n)) _ (fun n hn => lNetBad (h4 n hn)) h2, Option.bind_some, F3 t.2.2.2.2 (fun x => !(C7 x)) _ (fun x hx => by unfold Yv; rw [lToken (h5 x hx).1]; rfl) h3, I4, I4]
  have k5 : ∀ v, Xr t.2.1 t.2.2.1 t.2.2.2.2 v = some (!v && ((qOk t.2.1 && qOk t.2.2.1) && Br (t.2.2.2.2.map (·.1)))) := by
    intro v
    unfold Xr Xq
    cases v with
    | true => rfl
    | false =>
      rw [cond_false, C8, C8, Option.bind_some, Option.bind_some, I2 _ _ (fun x => rfl) h3]
      unfold qOk
      cases (decide (0 ≤ t.2.1) && decide (t.2.1 ≤ 8)) <;> cases (decide (0 ≤ t.2.2.1) && decide (t.2.2.1 ≤ 8)) <;> cases Br (t.2.2.2.2.map (·.1)) <;> rfl
  have k1 : ∀ v, Xs t.1 t.2.1 t.2.2.1 t.2.2.2.1 t.2.2.2.2 v = some (!v && ((R2 t.1 && (decide (t.2.2.2.1.length ≤ 4) && decide (t.2.2.2.2.length ≤ 4))) && ((qOk t.2.1 && qOk t.2.2.1) && Br (t.2.2.2.2.map (·.1))))) := by
    intro v
    unfold Xs Yl Yk
    cases v with
    | true => rw [cond_true, k5]; rfl
    | false =>
      rw [cond_false, lNameM _ h1, Option.bind_some]
      simp only [k5]
      rw [show decide (((List.length t.2.2.2.1 : Nat) : Int) > 4) = !(decide (t.2.2.2.1.length ≤ 4)) by rw [← decide_not]; exact decide_eq_decide.2 (by omega), show decide (((List.length t.2.2.2.2 : Nat) : Int) > 4) = !(decide (t.2.2.2.2.length ≤ 4)) by rw [← decide_not]; exact decide_eq_decide.2 (by omega)]
      cases R2 t.1 <;> cases decide (t.2.2.2.1.length ≤ 4) <;> cases decide (t.2.2.2.2.length ≤ 4) <;> rfl
  unfold D2
  cases t.2.2.2.1.all I3 with
  | false =>
    rw [show (!false) = true from rfl, cond_true, k1]
    rfl
  | true =>
    rw [show (!true) = false from rfl, cond_false, Option.bind_some, k1]
    cases t.2.2.2.2.all C7 <;> rfl
theorem Ld (w g i e : Int) (l : List Qb) (rec3 : Int → Option Bool) (hl : l.length ≤ 140737488355328) (hq : ∀ t ∈ l, TenQ t) : Zu rec3 w g i e l ((0 + 1 + 1 + 1 + 1 : Nat) : Int) = some (decide (l.length ≤ 8) && (l.all D2 && Br (l.map (·.1)))) := by
  unfold Zu X4
  rw [show decide (((0 + 1 + 1 + 1 + 1 : Nat) : Int) < ((List.length ([w, g, i, e] : List Int) : Nat) : Int)) = false from rfl, cond_false, Eu l (fun t => !(D2 t)) _ (fun t ht => by unfold Ja; rw [lTenant (hq t ht)]; rfl) hl, I4, H2 _ _ (fun x => rfl) hl,
    show decide (((List.length l : Nat) : Int) ≤ 8) = decide (l.length ≤ 8) from decide_eq_decide.2 (by omega)]
  cases decide (l.length ≤ 8) <;> cases l.all D2 <;> cases Br (l.map (·.1)) <;> rfl
theorem G9 (w g i e : Int) (l : List Qb) (rec3 : Int → Option Bool) (k : Nat) (x : Int) (hk : k < 4) (hx : [w, g, i, e][k]? = some x) : Zu rec3 w g i e l (k : Int) = cond (Nb x) (rec3 ((k + 1 : Nat) : Int)) (some false) := by
  unfold Zu
  rw [show decide ((k : Int) < ((List.length ([w, g, i, e] : List Int) : Nat) : Int)) = true from decide_eq_true (by simp only [List.length_cons, List.length_nil]; omega), cond_true, show idx ([w, g, i, e] : List Int) (k : Int) = some x by rw [Dy]; exact hx, Option.bind_some, C8, Option.bind_some, show ((k : Int) + 1) = ((k + 1 : Nat) : Int) by omega, J5 (by omega)]
  unfold Nb
  cases (decide (1 ≤ x) && decide (x ≤ 1073741824)) <;> rfl
theorem lCfg (w g i e : Int) (l : List Qb) (hl : l.length ≤ 140737488355328) (hq : ∀ t ∈ l, TenQ t) : Z1 w g i e l = some (H3 w g i e l) := by
  have unf : ∀ f (v : Int), Xj w g i e l (f + 1) v = Zu (Xj w g i e l f) w g i e l v := fun _ _ => rfl
  unfold Z1 H3
  rw [show Xx = 18446744073709551611 + 1 + 1 + 1 + 1 + 1 from rfl]
  rw [unf, show (0 : Int) = ((0 : Nat) : Int) from rfl, G9 w g i e l _ 0 w (by omega) rfl, unf, G9 w g i e l _ (0 + 1) g (by omega) rfl, unf, G9 w g i e l _ (0 + 1 + 1) i (by omega) rfl, unf, G9 w g i e l _ (0 + 1 + 1 + 1) e (by omega) rfl, unf, Ld w g i e l _ hl hq]
  cases Nb w <;> cases Nb g <;> cases Nb i <;> cases Nb e <;> rfl
end Go.Proofs.YtoflbpmbkmephaaGreatDoor
namespace Go.Proofs.YtoflbpmbkmephaaGreatDoor
def TenS (t : Qb) : Prop := t.1.length ≤ 9000 ∧ t.2.2.2.1.length ≤ 9000 ∧ t.2.2.2.2.length ≤ 9000 ∧ ∀ x ∈ t.2.2.2.2, x.1.length ≤ 9000 ∧ x.2.1.length ≤ 9000
theorem I5 (n : Nat) : (if (3000 : Int) < ((n : Nat) : Int) then (3000 : Int) else ((n : Nat) : Int)) = ((min n 3000 : Nat) : Int) := by split <;> omega
theorem great_in (r11 : Int → Int → Option Bool) (i : Int) (t : Qb) (ht : t.2.2.2.2.length ≤ 140737488355328) : ∀ (d k f n : Nat), d = t.2.2.2.2.length - k → k ≤ t.2.2.2.2.length → d < f → n ≤ 562949953421312 →
    ∃ n' : Nat, n ≤ n' ∧ n' ≤ 562949953421312 + 6000 ∧ Vn r11 i t f (n : Int) (k : Int) = r11 (n' : Int) (IntKind.wrap .i64 (i + 1)) ∧ (n' < 3000 → ∀ x ∈ t.2.2.2.2.drop k, x.1.length < 3000 ∧ x.2.1.length < 3000) := by
  intro d
  induction d with
  | zero =>
    intro k f n hd hk hf hn
    obtain ⟨f, rfl⟩ : ∃ g, f = g + 1 := ⟨f - 1, by omega⟩
    refine ⟨n, by omega, by omega, ?_, fun _ x hx => by rw [List.drop_of_length_le (by omega)] at hx; cases hx⟩
    show V4 r11 (Vn r11 i t f) i t (n : Int) (k : Int) = _
    unfold V4 Zh
    rw [show decide ((k : Int) < ((t.2.2.2.2.length : Nat) : Int)) = false from decide_eq_false (by omega), cond_false, cond_false]
  | succ d ih =>
    intro k f n hd hk hf hn
    obtain ⟨f, rfl⟩ : ∃ g, f = g + 1 := ⟨f - 1, by omega⟩
    have hlt : k < t.2.2.2.2.length := by omega
    have hstep : Vn r11 i t (f + 1) (n : Int) (k : Int) = V4 r11 (Vn r11 i t f) i t (n : Int) (k : Int) := rfl
    unfold V4 Zh at hstep
    rw [show decide ((k : Int) < ((t.2.2.2.2.length : Nat) : Int)) = true from decide_eq_true (by omega), cond_true] at hstep
    by_cases h3 : n < 3000
    · rw [show decide ((n : Int) < 3000) = true from decide_eq_true (by omega), cond_true, Y3 hlt, Option.bind_some, Option.bind_some, I5, I5, show ((n : Int) + ((min (t.2.2.2.2[k]).1.length 3000 : Nat) : Int)) = ((n + min (t.2.2.2.2[k]).1.length 3000 : Nat) : Int) by omega, J5 (by omega),
        show (((n + min (t.2.2.2.2[k]).1.length 3000 : Nat) : Int) + ((min (t.2.2.2.2[k]).2.1.length 3000 : Nat) : Int)) = ((n + min (t.2.2.2.2[k]).1.length 3000 + min (t.2.2.2.2[k]).2.1.length 3000 : Nat) : Int) by omega, J5 (by omega), show ((k : Int) + 1) = ((k + 1 : Nat) : Int) by omega, J5 (by omega)] at hstep
      obtain ⟨n', h1, h2, h4, h5⟩ := ih (k + 1) f (n + min (t.2.2.2.2[k]).1.length 3000 + min (t.2.2.2.2[k]).2.1.length 3000) (by omega) (by omega) (by omega) (by omega)
      refine ⟨n', by omega, h2, hstep.trans h4, fun hn' x hx => ?_⟩
      rw [List.drop_eq_getElem_cons hlt] at hx
      rcases List.mem_cons.1 hx with rfl | hx
      · exact ⟨by omega, by omega⟩
      · exact h5 hn' x hx
    · rw [show decide ((n : Int) < 3000) = false from decide_eq_false (by omega), cond_false] at hstep
      exact ⟨n, by omega, by omega, hstep, fun h => absurd h h3⟩
theorem great_out (l : List Qb) (hl : l.length ≤ 140737488355328) (hq : ∀ t ∈ l, TenQ t) : ∀ (d i f n : Nat), d = l.length - i → i ≤ l.length → d < f → n ≤ 562949953421312 + 6000 → l.length ≤ n →
    (n < 3000 → ∀ t ∈ l.take i, TenS t) → ∃ b, Qu l f (n : Int) (i : Int) = some b ∧ (b = false → l.length ≤ 3000 ∧ ∀ t ∈ l, TenS t) := by
  intro d
  induction d with
  | zero =>
    intro i f n hd hi hf hn hln hs
    obtain ⟨f, rfl⟩ : ∃ g, f = g + 1 := ⟨f - 1, by omega⟩
    refine ⟨decide ((n : Int) ≥ 3000), ?_, fun hb => ?_⟩
    · show V7 (Qu l f) l (n : Int) (i : Int) = _
      unfold V7 Zi
      rw [show decide ((i : Int) < ((l.length : Nat) : Int)) = false from decide_eq_false (by omega), cond_false, cond_false]
    · have := of_decide_eq_false hb
      rw [List.take_of_length_le (by omega)] at hs
      exact ⟨by omega, hs (by omega)⟩
  | succ d ih =>
    intro i f n hd hi hf hn hln hs
    obtain ⟨f, rfl⟩ : ∃ g, f = g + 1 := ⟨f - 1, by omega⟩
    have hlt : i < l.length := by omega
    have hstep : Qu l (f + 1) (n : Int) (i : Int) = V7 (Qu l f) l (n : Int) (i : Int) := rfl
    unfold V7 Zi at hstep
    rw [show decide ((i : Int) < ((l.length : Nat) : Int)) = true from decide_eq_true (by omega), cond_true] at hstep
    by_cases h3 : n < 3000
    · obtain ⟨q1, q2, q3, q4, q5⟩ := hq _ (List.getElem_mem hlt)
      rw [show decide ((n : Int) < 3000) = true from decide_eq_true (by omega), cond_true, Y3 hlt, Option.bind_some, I5, show ((n : Int) + ((min l[i].1.length 3000 : Nat) : Int)) = ((n + min l[i].1.length 3000 : Nat) : Int) by omega, J5 (by omega),
        show (((n + min l[i].1.length 3000 : Nat) : Int) + ((l[i].2.2.2.1.length : Nat) : Int)) = ((n + min l[i].1.length 3000 + l[i].2.2.2.1.length : Nat) : Int) by omega, J5 (by omega),
        show (((n + min l[i].1.length 3000 + l[i].2.2.2.1.length : Nat) : Int) + ((l[i].2.2.2.2.length : Nat) : Int)) = ((n + min l[i].1.length 3000 + l[i].2.2.2.1.length + l[i].2.2.2.2.length : Nat) : Int) by omega, J5 (by omega)] at hstep
      obtain ⟨n', h1, h2, h4, h5⟩ := great_in (Qu l f) (i : Int) l[i] q3 l[i].2.2.2.2.length 0 Xx (n + min l[i].1.length 3000 + l[i].2.2.2.1.length + l[i].2.2.2.2.length) (by omega) (by omega) (by unfold Xx; omega) (by omega)
      rw [show ((0 : Nat) : Int) = 0 from rfl] at h4
      rw [h4, show ((i : Int) + 1) = ((i + 1 : Nat) : Int) by omega, J5 (by omega)] at hstep
      obtain ⟨b, hb, hb2⟩ := ih (i + 1) f n' (by omega) (by omega) (by omega) (by omega) (by omega) (fun hn' t ht => by
        rw [List.take_add_one, List.getElem?_eq_getElem hlt, List.mem_append] at ht
        rcases ht with ht | ht
        · exact hs h3 t ht
        · simp only [Option.toList_some, List.mem_singleton] at ht
          subst ht
          rw [List.drop_zero] at h5
          exact ⟨by omega, by omega, by omega, fun x hx => ⟨by have := h5 hn' x hx; omega, by have := h5 hn' x hx; omega⟩⟩)
      exact ⟨b, hstep.trans hb, hb2⟩
    · rw [show decide ((n : Int) < 3000) = false from decide_eq_false (by omega), cond_false] at hstep
      exact ⟨_, hstep, fun hb => by have := of_decide_eq_false hb; omega⟩
theorem cfg_great (w g i e : Int) (l : List Qb) (hl : l.length ≤ 140737488355328) (hq : ∀ t ∈ l, TenQ t) : ∃ b, Y4 w g i e l = some b ∧ (b = false → l.length ≤ 3000 ∧ ∀ t ∈ l, TenS t) :=
  great_out l hl hq l.length 0 Xx l.length (by omega) (by omega) (by unfold Xx; omega) (by omega) (Nat.le_refl _) (fun _ t ht => by simp at ht)
end Go.Proofs.YtoflbpmbkmephaaGreatDoor
namespace Go.Proofs.YtoflbpmbkmephaaGreatDoor
open Go.RowKit
section
variable {w w0 : World} {es : List Ent} {S : List Nat}
theorem SP.turnE (h : SP S w0 w es) {i : Nat} {e e' : Ent} (hi : es[i]? = some e) (hok : e'.ok w) (hfp : ∀ k ∈ e'.fp, k ∈ e.fp) : SP S w0 w (es.set i e') :=
  h.set hi (T := []) (Mod.refl [] w) (by simp) hok fun k hk => ⟨.inl (hfp k hk), ((h.own.get hi).2 k (hfp k hk)).2⟩
end
section
variable {α : Type} {e : Enc α} {w w0 : World} {A : Option Addr} {c : Nat} {l m : List α} {E : TypeId} {es : List Ent} {S : List Nat} {i : Nat}
theorem cutA_zero {sz c : Nat} {A : Option Addr} (h : ∀ a, A = some a → ∃ b o, a = ⟨b, o, none⟩) : Ly sz c 0 A = A := by
  unfold Ly
  split
  · rfl
  · cases A with
    | none => rfl
    | some a =>
      obtain ⟨b, o, rfl⟩ := h _ rfl
      simp [Cu]
theorem SP.cutrow {b : Int} (h : SP S w0 w es) (hi : es[i]? = some (Q6 E e A c l)) (h1 : 0 ≤ b) (h2 : b ≤ (l.length : Int)) (hm : List.drop (Int.toNat 0) (List.take b.toNat l) = m) :
    SP S w0 w (es.set i (Q6 E e (Ly e.sz c (Int.toNat 0) A) (c - Int.toNat 0) m)) := by
  have hm' : l.take b.toNat = m := by rw [← hm]; simp
  subst hm'
  have hok : (Q6 E e A c l).ok w := h.get hi
  have hlen : (l.take b.toNat).length = b.toNat := by rw [List.length_take]; omega
  have hz : Ly e.sz c (Int.toNat 0) A = A := by
    refine cutA_zero fun a ha => ?_
    subst ha
    rcases hok.2 with ⟨h3, _⟩ | ⟨g, cap, cur, h3, _⟩
    · cases h3
    · injection h3 with h3 _ _
      injection h3 with h3
      exact ⟨g, 0, h3⟩
  have hc : c - Int.toNat 0 = c := by simp
  rw [hz, hc]
  refine h.turnE hi ?_ fun k hk => by cases A <;> exact hk
  obtain ⟨h3, h4⟩ := hok
  refine ⟨by rw [Zg], ?_⟩
  rcases h4 with ⟨h4, h5⟩ | ⟨g, cap, cur, h4, h5, h6, h7, h8, h9, h10⟩
  · left
    injection h4 with h4 h4' h4''
    have : l = [] := List.length_eq_zero_iff.1 h5
    subst this
    subst h4 h4''
    exact ⟨by simp, by simp⟩
  · right
    injection h4 with h4 h4' h4''
    subst h4 h4''
    refine ⟨g, c, cur, rfl, h5, h6, by omega, h8, h9, ?_⟩
    rw [hlen, ← Gd, ← h10, List.take_take]
    congr 1
    rw [Nat.min_eq_left (Nat.mul_le_mul_right _ (by omega))]
end
end Go.Proofs.YtoflbpmbkmephaaGreatDoor
namespace Go.Proofs.YtoflbpmbkmephaaGreatDoor
open Go.RowKit
section
variable {α : Type} {e : Enc α} {t t' : TypeId} {g m : Nat} {l : List α} {w w' w0 : World} {S : List Nat} {es : List Ent}
end
section
variable {P : Program} {n : Nat} {Q : Cq} {ρ : Fr} {w w0 : World} {B : Code} {p : List Bool} {k : Nat} {d : Option Nat} {S : List Nat} {es : List Ent} {K : Fr → World → Prop}
variable {α : Type} {e : Enc α} {l : List α} {t t' : TypeId} {g m : Nat}
theorem Le (e : Enc α) (z : α) (hz : e.sz = 1) (v : Value) (hv : e.enc z = [v]) (q : Nat) : (madeCells #[v] q).toList = Q9 e (List.replicate q z) := by
  have h1 : Q9 e (List.replicate q z) = List.replicate q v := by
    induction q with
    | zero => rfl
    | succ q ih => rw [List.replicate_succ, Ye, ih, hv, List.replicate_succ]; rfl
  rw [h1]
  simp [madeCells]
  apply List.ext_getElem
  · simp
  · intro i h1 h2
    simp [Nat.mod_one]
theorem C9 {T E : TypeId} {x y : Operand} {k1 k2 : IntKind} {iz : Int} {b : Nat} {z : α} {v : Value} {l' : List α} (ho : G2 (Qe B p) k ρ = some (.makeSlice T x y, d)) (hd : Xz n d = true) (hx : opv ρ x = .int k1 iz) (hy : opv ρ y = .int k2 iz)
    (hT : P.underlying T = some (.slice E)) (hE : (P.info? E).map (fun i => (i.zero, i.size, i.bytes)) = some (some v, 1, b)) (hb : Nat.ble b 65536 = true) (hz : e.sz = 1) (hv : e.enc z = [v]) (hc : v.cells = #[v]) (h0 : decide (0 ≤ iz ∧ iz ≤ 2147483648) = true) (hs : SP S w0 w es) (hq : List.replicate iz.toNat z = l')
    (next : ∀ (g : Nat) (w' : World), SP S w0 w' (es ++ [Q6 E e (some ⟨g, 0, none⟩) iz.toNat l']) → l'.length = iz.toNat → K (Ui ρ d (.slice (some ⟨g, 0, none⟩) l'.length iz.toNat)) w') : Qi P n B p k K ρ w := by
  subst hq
  have h0 := of_decide_eq_true h0
  have hb2 := Nat.le_of_ble_eq_true hb
  cases hi : P.info? E with
  | none => rw [hi] at hE; cases hE
  | some i =>
    rw [hi] at hE
    simp only [Option.map_some, Option.some.injEq, Prod.mk.injEq] at hE
    obtain ⟨hz1, hz2, hz3⟩ := hE
    have hbb : (i.bytes : Int) * iz ≤ 281474976710656 := by
      rw [hz3]
      have h1 : (b : Int) * iz ≤ 65536 * 2147483648 := Int.mul_le_mul (by omega) h0.2 h0.1 (by omega)
      omega
    have hr := run_make (P := P) w T E i v hT hi hz1 k1 k2 iz iz h0.1 (Int.le_refl _) hbb (by omega)
    rw [hz2, Nat.mul_one, hc] at hr
    have hlen : (List.replicate iz.toNat z).length = iz.toNat := by simp
    have hnew := hs.newrow (E := E) (cs := madeCells #[v] iz.toNat) e (List.replicate iz.toNat z) (Le e z hz v hv iz.toNat) (by rw [hlen]; unfold maxLen; omega) (by omega)
    rw [hlen] at hnew
    refine Qi.val ho hd (v := .slice (some ⟨w.heap.size, 0, none⟩) (List.replicate iz.toNat z).length iz.toNat) (w' := w.alloc (.cells (madeCells #[v] iz.toNat) E)) (fun o hop => ?_) (next _ _ hnew hlen)
    unfold execOp; rw [hop, hlen]
    simp only [hx, hy, Sem.run_bind, hr, Result.andThen_ok]
    rfl
end
end Go.Proofs.YtoflbpmbkmephaaGreatDoor
namespace Go.Proofs.YtoflbpmbkmephaaGreatDoor
open Go.RowKit
def X6 (s : List UInt8) (c : UInt8) : Option Int := some (Lib.indexByte s c)
theorem Gt (s : List UInt8) (c : UInt8) (w0 : World) (r : Int) (H : X6 s c = some r) :
    Calls Tryz.prog 89 #[(.string ⟨List.toArray s⟩), (.int .u8 ((c).toNat : Int))] w0 (fun e w' => e = .returned (.int .i64 r) ∧ SP [] w0 w' []) := by
  unfold X6 at H
  injection H with H
  subst H
  refine (Tryz.strings_IndexByte ⟨s.toArray⟩ ((c.toNat : Nat) : Int) w0).mono ?_
  rintro e w' ⟨rfl, rfl⟩
  refine ⟨?_, Q1 [] w'⟩
  rw [show ((c.toNat : Nat) : Int).toNat.toUInt8 = c by simp]
def Um (s sep : List UInt8) : Option Int := match sep with | [c] => some ((Lib.countByte s c : Nat) : Int) | _ => none
theorem Dj (s sep : List UInt8) (w0 : World) (r : Int) (H : Um s sep = some r) :
    Calls Tryz.prog 155 #[(.string ⟨List.toArray s⟩), (.string ⟨List.toArray sep⟩)] w0 (fun e w' => e = .returned (.int .i64 r) ∧ SP [] w0 w' []) := by
  unfold Um at H
  match sep, H with
  | [c], H =>
    injection H with H
    subst H
    refine (Tryz.strings_Count_one ⟨s.toArray⟩ c w0).mono ?_
    rintro e w' ⟨rfl, rfl⟩
    exact ⟨rfl, Q1 [] w'⟩
def Gu (s : List UInt8) (n : Int) : Option (List (List UInt8)) := none
theorem Rx (s : List UInt8) (n : Int) (w0 : World) (r : List (List UInt8)) (H : Gu s n = some r) :
    Calls Tryz.prog 154 #[(.string ⟨List.toArray s⟩), (.int .i64 n)] w0 (fun e w' => ∃ (A : Option Addr) (c : Nat), e = .returned (.slice A (List.length r) c) ∧ SP [] w0 w' [Q6 9 Ql A c r]) := by
  cases H
end Go.Proofs.YtoflbpmbkmephaaGreatDoor
namespace Go.Proofs.YtoflbpmbkmephaaGreatDoor
def Qx (c : UInt8) : List UInt8 → List (List UInt8)
  | [] => [[]]
  | x :: r => if x = c then [] :: Qx c r else match Qx c r with | [] => [[x]] | p :: ps => (x :: p) :: ps
theorem Yw (c : UInt8) (s : List UInt8) : Qx c s ≠ [] := by
  cases s with
  | nil => simp [Qx]
  | cons x r =>
    unfold Qx
    split
    · simp
    · split <;> simp
theorem U2 (c : UInt8) : ∀ (s : List UInt8), ∀ p ∈ Qx c s, p.length ≤ s.length
  | [], p, hp => by simp [Qx] at hp; simp [hp]
  | x :: r, p, hp => by
    unfold Qx at hp
    by_cases h : x = c
    · rw [if_pos h] at hp
      rcases List.mem_cons.1 hp with rfl | hp
      · simp
      · have := U2 c r p hp
        simp only [List.length_cons]
        omega
    · rw [if_neg h] at hp
      cases hs : Qx c r with
      | nil => exact absurd hs (Yw c r)
      | cons q qs =>
        rw [hs] at hp
        simp only at hp
        rcases List.mem_cons.1 hp with rfl | hp
        · have := U2 c r q (by rw [hs]; simp)
          simp only [List.length_cons]
          omega
        · have := U2 c r p (by rw [hs]; simp [hp])
          simp only [List.length_cons]
          omega
theorem Jq (c : UInt8) (s : List UInt8) : (Lib.indexByte s c = -1 ∧ Qx c s = [s] ∧ c ∉ s) ∨ ∃ i : Nat, Lib.indexByte s c = (i : Int) ∧ i < s.length ∧ s[i]? = some c ∧ c ∉ s.take i ∧ Qx c s = s.take i :: Qx c (s.drop (i + 1)) := by
  induction s with
  | nil => exact .inl ⟨rfl, rfl, by simp⟩
  | cons x r ih =>
    by_cases h : x = c
    · subst h
      refine .inr ⟨0, ?_, by simp, rfl, by simp, ?_⟩
      · simp [Lib.indexByte]
      · simp [Qx]
    · have hb : (x == c) = false := by simpa using h
      rcases ih with ⟨h1, h2, h3⟩ | ⟨i, h1, h2, h3, h4, h5⟩
      · refine .inl ⟨?_, ?_, ?_⟩
        · simp [Lib.indexByte, hb, h1]
        · unfold Qx; rw [if_neg h, h2]
        · simp [h3]; exact fun e => h e.symm
      · refine .inr ⟨i + 1, ?_, by simpa using h2, by simpa using h3, ?_, ?_⟩
        · have h0 : (Lib.indexByte r c == -1) = false := by rw [h1, beq_eq_false_iff_ne]; omega
          simp only [Lib.indexByte, hb, h0, h1]
          simp
        · simp [h4]; exact fun e => h e.symm
        · rw [List.take_succ_cons, List.drop_succ_cons]
          conv => lhs; unfold Qx
          rw [if_neg h, h5]
end Go.Proofs.YtoflbpmbkmephaaGreatDoor
namespace Go.Proofs.YtoflbpmbkmephaaGreatDoor
open Go.RowKit Go.Shelf
attribute [local go_sem] Oper.semAt_some
structure J8 (W : World) (bsep bs bv : Nat) (c : UInt8) (r : List UInt8) : Prop where
  sep : W.heap[bsep]? = some (.cells #[.string ⟨#[c]⟩] 9 (0, 0))
  left : W.heap[bs]? = some (.cells #[.string ⟨r.toArray⟩] 9 (0, 0))
  save : W.heap[bv]? = some (.cells #[.int .i64 0] 3 (0, 0))
theorem J8.same {W W' : World} {bsep bs bv : Nat} {c : UInt8} {r : List UInt8} (h : J8 W bsep bs bv c r) (h1 : W'.heap[bsep]? = W.heap[bsep]?) (h2 : W'.heap[bs]? = W.heap[bs]?) (h3 : W'.heap[bv]? = W.heap[bv]?) : J8 W' bsep bs bv c r :=
  ⟨h1.trans h.sep, h2.trans h.left, h3.trans h.save⟩
theorem N3 {W : World} {b : Nat} {v : Value} {t : TypeId} (h : W.heap[b]? = some (.cells #[v] t (0, 0))) : W.cell? ⟨b, 0, none⟩ = some v := by
  rw [cell_of_row W b 0 _ t _ h]
  rfl
theorem Gi {W : World} {b : Nat} {v : Value} {t : TypeId} (h : W.heap[b]? = some (.cells #[v] t (0, 0))) : W.frozen? ⟨b, 0, none⟩ = false := by
  simp [World.frozen?, h]
def Bx (W : World) (bs : Nat) : Nat := match W.cell? ⟨bs, 0, none⟩ with | some (.string b) => b.size | _ => 0
theorem Fe {W : World} {bsep bs bv : Nat} {c : UInt8} {r : List UInt8} (h : J8 W bsep bs bv c r) : Bx W bs = r.length := by
  unfold Bx
  rw [N3 h.left]
  exact Ji r
theorem Yy {W : World} {b : Nat} {u v : Value} {t : TypeId} (h : W.heap[b]? = some (.cells #[u] t (0, 0))) : (W.setCell ⟨b, 0, none⟩ v).heap[b]? = some (.cells #[v] t (0, 0)) := by
  simp [World.setCell, h, Array.getElem?_modify]
theorem Xw {W : World} {b k : Nat} {v : Value} (h : k ≠ b) : (W.setCell ⟨b, 0, none⟩ v).heap[k]? = W.heap[k]? := by
  simp [World.setCell, Array.getElem?_modify, Ne.symm h]
theorem J8.turn {W : World} {bsep bs bv : Nat} {c : UInt8} {r : List UInt8} (h : J8 W bsep bs bv c r) (h1 : bs ≠ bsep) (h2 : bs ≠ bv) (q : List UInt8) : J8 (W.setCell ⟨bs, 0, none⟩ (.string ⟨q.toArray⟩)) bsep bs bv c q :=
  ⟨(Xw h1.symm).trans h.sep, Yy h.left, (Xw h2.symm).trans h.save⟩
theorem Lf (m : Nat) (l bsep bs bv : Nat) (c : UInt8) (hne1 : bs ≠ bsep) (hne2 : bs ≠ bv) (s : List UInt8) (hs : s.length ≤ maxLen) (J Jx : List (List UInt8) → World → Prop)
    (hJ : ∀ pre W1 (v : Value), J pre W1 → J pre (W1.setCell ⟨bs, 0, none⟩ v))
    (hY : ∀ pre x r W1, J pre W1 → J8 W1 bsep bs bv c r → (∃ q, pre ++ x :: q = Qx c s) → YieldAt Fence.wide (m - 1) Tryz.prog l #[.string ⟨x.toArray⟩] W1 fun e W' =>
      (e = .returned (.bool true) ∧ J (pre ++ [x]) W' ∧ W'.heap[bsep]? = W1.heap[bsep]? ∧ W'.heap[bs]? = W1.heap[bs]? ∧ W'.heap[bv]? = W1.heap[bv]?) ∨ (e = .returned (.bool false) ∧ Jx (pre ++ [x]) W'))
    (W : World) (hB : J8 W bsep bs bv c s) (h0 : J [] W) :
    CallsIn Fence.wide m Tryz.prog 202 #[.func (.yield l) #[] #[], .pointer (some ⟨bsep, 0, none⟩), .pointer (some ⟨bs, 0, none⟩), .pointer (some ⟨bv, 0, none⟩)] W fun e W' => (∃ v, e = .returned v) ∧
      (J (Qx c s) W' ∨ (∃ pre, pre <+: Qx c s ∧ Jx pre W')) := by
  have hsz1 : ((⟨#[c]⟩ : ByteArray).size == 0) = false := rfl
  have c1 := N3 hB.sep
  refine callsIn_of_wp Tryz.func202 rfl trivial ?_ rfl
  simp only [Tryz.ntmps202, List.size_toArray, List.length_cons, List.length_nil, Nat.reduceAdd, Nat.reduceSub, Array.replicate_succ, Array.replicate_zero, List.push_toArray, List.append_toArray, List.nil_append, List.cons_append]
  gi_wp2
  gi_loopw [7] (fun p wr => ∃ (pre : List (List UInt8)) (r : List UInt8), J8 wr bsep bs bv c r ∧ pre ++ Qx c r = Qx c s ∧ r.length ≤ maxLen ∧ J pre wr) (fun p wr => Bx wr bs)
  case atStart => exact ⟨[], s, hB, rfl, hs, h0⟩
  case round =>
    obtain ⟨pre, r, hb, hp, hr, hj⟩ := hrel
    have c1 := N3 hb.sep
    have c2 := N3 hb.left
    have c3 := N3 hb.save
    have hrs := Ji r
    have hsep1 : (⟨#[c]⟩ : ByteArray).size = 1 := rfl
    unfold maxLen at hr
    rcases Jq c r with ⟨h1, h2, h3⟩ | ⟨i, h1, h2, h3, h4, h5⟩
    · have h1' : Lib.indexByte (⟨r.toArray⟩ : ByteArray).data.toList c = -1 := h1
      obtain ⟨fn, tmps, assign, body, hy, hR⟩ := hY pre r r wr hj hb ⟨[], by rw [← hp, h2]⟩
      gi_wp2_with (refine ⟨trivial, fun hh => (by cases hh), ?_⟩; gi_at_call 156; refine (callsIn_wide.2 (Tryz.strings_Index_one (⟨r.toArray⟩ : ByteArray) c wr)).mono ?_; rintro e W3 ⟨rfl, rfl⟩; rw [h1'])
      refine ⟨fun hh => (by cases hh), ?_⟩
      refine hR.mono ?_
      rintro e W3 (⟨rfl, hJ3, hk⟩ | ⟨rfl, hJx3⟩)
      · gi_wp2
        go_end0
        exact ⟨⟨_, rfl⟩, .inl (by rw [← hp, h2]; exact hJ3)⟩
      · gi_wp2
        go_end0
        exact ⟨⟨_, rfl⟩, .inr ⟨pre ++ [r], by rw [← hp, h2]; exact List.prefix_refl _, hJx3⟩⟩
    · have h1' : Lib.indexByte (⟨r.toArray⟩ : ByteArray).data.toList c = (i : Int) := h1
      have hex := Ny r 0 i (by omega)
      rw [List.drop_zero] at hex
      have hex2 := Ny r (i + 1) r.length (Nat.le_refl _)
      rw [List.take_length] at hex2
      obtain ⟨fn, tmps, assign, body, hy, hR⟩ := hY pre (r.take i) r wr hj hb ⟨Qx c (r.drop (i + 1)), by rw [← hp, h5]⟩
      have hi0 : ¬ ((i : Int) < 0) := by omega
      gi_wp2_with (refine ⟨trivial, fun hh => (by cases hh), ?_⟩; gi_at_call 156; refine (callsIn_wide.2 (Tryz.strings_Index_one (⟨r.toArray⟩ : ByteArray) c wr)).mono ?_; rintro e W3 ⟨rfl, rfl⟩; rw [h1'])
      refine ⟨fun hh => (by cases hh), ?_⟩
      refine hR.mono ?_
      rintro e W3 (⟨rfl, hJ3, k1, k2, k3⟩ | ⟨rfl, hJx3⟩)
      · have hb3 := hb.same k1 k2 k3
        have d1 := N3 hb3.sep
        have d2 := N3 hb3.left
        have d3 := N3 hb3.save
        have f2 := Gi hb3.left
        gi_wp2
        have hb4 := hb3.turn hne1 hne2 (r.drop (i + 1))
        refine ⟨⟨pre ++ [r.take i], r.drop (i + 1), hb4, by rw [← hp, h5]; simp, by unfold maxLen; rw [List.length_drop]; omega, hJ _ _ _ hJ3⟩, ?_⟩
        rw [Fe hb4, Fe hb, List.length_drop]
        omega
      · gi_wp2
        refine bodyPost_ret (results_none rfl _ _ _) rfl ?_
        exact ⟨⟨_, rfl⟩, .inr ⟨pre ++ [r.take i], ⟨Qx c (r.drop (i + 1)), by rw [← hp, h5]; simp⟩, hJx3⟩⟩
end Go.Proofs.YtoflbpmbkmephaaGreatDoor
namespace Go.Proofs.YtoflbpmbkmephaaGreatDoor
open Go.RowKit Go.Shelf
attribute [local go_sem] Oper.semAt_some
def bodyOwn {α : Type} (M : List Nat) (I : List α → World → Prop) (Ix : Code → List α → World → Prop) (xs : List α) (W : World) : Exit → Act → World → Prop
  | .normal, _, W' => Mod M W W' ∧ I xs W'
  | .ret, _, W' => Mod M W W' ∧ Ix .ret xs W'
  | .exit id, _, W' => Mod M W W' ∧ Ix (.exit id) xs W'
  | .goto t, _, W' => Mod M W W' ∧ Ix (.goto t) xs W'
  | _, _, _ => False
theorem Ue (W : World) (r : Nat) (o : Obj) : Mod [r] W (W.putObj r o) := ⟨rfl, rfl, rfl, by simp, fun k _ hk => World.putObj_heap_other (by simpa using hk)⟩
theorem Ea (W : World) (b : Nat) (v : Value) : Mod [b] W (W.setCell ⟨b, 0, none⟩ v) := (Mod.refl [b] W).setCell (p := ⟨b, 0, none⟩) (.inl (by simp)) v
def SeqOwn {α : Type} (P : Program) (m gf : Nat) (lb : Array Value) (encs : α → Array Value) (T : List Nat) (S : List α) (w : World) : Prop :=
  ∀ (l : Nat) (J Jx : List α → World → Prop) (W : World),
    (∀ pre W1 k (v : Value), k ∈ T → J pre W1 → J pre (W1.setCell ⟨k, 0, none⟩ v)) →
    (∀ pre x W1, J pre W1 → (∃ q, pre ++ x :: q = S) → YieldAt Fence.wide (m - 1) P l (encs x) W1 fun e W' =>
      (e = .returned (.bool true) ∧ J (pre ++ [x]) W' ∧ ∀ k ∈ T, W'.heap[k]? = W1.heap[k]?) ∨ (e = .returned (.bool false) ∧ Jx (pre ++ [x]) W')) →
    (∀ k ∈ T, W.heap[k]? = w.heap[k]?) → J [] W →
    CallsIn Fence.wide m P gf (#[.func (.yield l) #[] #[]] ++ lb) W fun e W' => (∃ v, e = .returned v) ∧ (J S W' ∨ ∃ pre, pre <+: S ∧ Jx pre W')
theorem range_own {α : Type} {P : Program} {g : Operand} {ps : Array Tmp} {assign body : Code} {Q : Exit → Act → World → Prop} {a : Act} {w : World} {m gf : Nat} {lb : Array Value}
    (hg : a.eval g = .func (.func gf) #[] lb) (eg : ∀ args w, (callFunc gf args).run P w = .ok (.enter gf args) w) {encs : α → Array Value} (hps : ∀ x, (encs x).size = ps.size)
    (T M : List Nat) (hT : ∀ k ∈ T, k < w.heap.size) (hM : ∀ k ∈ M, k < w.heap.size ∧ k ∉ T) {S : List α} (iter : SeqOwn P (m - 1) gf lb encs T S w)
    (I : List α → World → Prop) (Ix : Code → List α → World → Prop) (hI : ∀ xs W W', I xs W → Mod (T ++ [w.heap.size, w.heap.size + 1]) W W' → I xs W') (hIx : ∀ c xs W W', Ix c xs W → Mod (T ++ [w.heap.size, w.heap.size + 1]) W W' → Ix c xs W')
    (h0 : I [] w) (a₁ : α → Act)
    (hassign : ∀ (l : Nat) (x : α) (W : World) (K : Act → World → Prop), K (a₁ x) W →
      assign.wpIn (Fence.wide.inRound l) (m - 1 - 1) P (Exit.then K (fun _ _ _ => False)) { tmps := (ps.zip (encs x)).foldl (fun t (p, v) => t.setIfInBounds p v) a.tmps, defers := [] } W)
    (hbody : ∀ (l : Nat) (pre : List α) (x : α) (W : World), I pre W → w.heap.size ≤ W.heap.size → (∃ q, pre ++ x :: q = S) → body.wpIn (Fence.wide.inRound l) (m - 1 - 1) P (bodyOwn M I Ix (pre ++ [x]) W) (a₁ x) W)
    (hdone : ∀ (W : World), I S W → W.heap[w.heap.size]? = some (.deferred (some [])) → Q .normal { a with defers := { target := .collected w.heap.size, args := #[] } :: a.defers } W)
    (hstop : ∀ (c : Code) (pre : List α) (W : World), pre <+: S → Ix c pre W → W.heap[w.heap.size]? = some (.deferred (some [])) → c.wpIn Fence.wide m P Q { a with defers := { target := .collected w.heap.size, args := #[] } :: a.defers } W) :
    (Code.rangeFunc g ps assign body).wpIn Fence.wide m P Q a w := by
  refine wpIn_rangeFunc fun fn _ => ?_
  have hnT : ∀ j, w.heap.size ≤ j → j ∉ T := fun j hj hm => by have := hT j hm; omega
  have hnM : ∀ j, w.heap.size ≤ j → j ∉ M := fun j hj hm => by have := (hM j hm).1; omega
  generalize hrec : (fun st pe => ({ state := st, pending := pe, fn, tmps := a.tmps, params := ps, assign, body, defers := w.heap.size } : Loop)) = rec
  have hr1 : ∀ st pe, (rec st pe).state = st := fun st pe => by rw [← hrec]
  generalize hW1 : (w.alloc (.deferred (some []))).alloc (.loop (rec .ready none)) = W1
  have hmod1 : Mod (T ++ [w.heap.size, w.heap.size + 1]) w W1 := by rw [← hW1]; exact ((Mod.refl _ w).alloc _).alloc _
  have hL1 : W1.heap[w.heap.size + 1]? = some (.loop (rec .ready none)) := by
    rw [← hW1]
    have := World.alloc_heap_new (w.alloc (.deferred (some []))) (.loop (rec .ready none))
    rwa [World.size_alloc] at this
  have hK1 : W1.heap[w.heap.size]? = some (.deferred (some [])) := by
    rw [← hW1]
    exact (Below.heap_alloc _ _ _ (by simp)).trans (World.alloc_heap_new w _)
  have pb : ∀ (W : World) (o : Obj), Mod (T ++ [w.heap.size, w.heap.size + 1]) W (W.putObj (w.heap.size + 1) o) := fun W o => (Ue W _ o).more (by simp)
  refine ⟨w.heap.size + 1, [{ target := .collected w.heap.size, args := #[] }], W1, { target := .fn (.func gf) lb, args := #[.func (.yield (w.heap.size + 1)) #[] #[]] }, W1, gf, #[.func (.yield (w.heap.size + 1)) #[] #[]] ++ lb, W1, ?_, ?_, fun _ _ => trivial, ?_, fun h => (by cases h), ?_⟩
  · rw [← hW1, ← hrec]
    exact run_enterLoop_outer _ _ _ _ _
  · simp only [resolve, hg]
    simp [go_sem]
  · simp [invoke, go_sem, eg]
  · refine (iter (w.heap.size + 1) (fun pre W => I pre W ∧ W.heap[w.heap.size + 1]? = some (.loop (rec .ready none)) ∧ W.heap[w.heap.size]? = some (.deferred (some [])))
      (fun pre W => ∃ c, Ix c pre W ∧ W.heap[w.heap.size + 1]? = some (.loop (rec .done (some c))) ∧ W.heap[w.heap.size]? = some (.deferred (some []))) W1 ?_ ?_ ?_ ⟨hI _ _ _ h0 hmod1, hL1, hK1⟩).mono ?_
    · rintro pre W k v hk ⟨h1, h2, h3⟩
      have hlt := hT k hk
      exact ⟨hI _ _ _ h1 ((Ea W k v).more fun j hj => by
        have : j = k := by simpa using hj
        subst this
        simp [hk]), (Xw (by omega)).trans h2, (Xw (by omega)).trans h3⟩
    · rintro pre x W ⟨hi, hl, hk⟩ hq
      have hlt : w.heap.size + 1 < W.heap.size := (Array.getElem?_eq_some_iff.1 hl).1
      have hy := run_yield (P := P) (args := encs x) hl (by rw [← hrec]; exact hps x)
      rw [← hrec] at hy
      dsimp only at hy
      refine ⟨fn, _, assign, body, hy, ?_⟩
      refine roundIn_of_wpIn trivial ?_
      refine hassign _ x W _ ?_
      refine ⟨_, run_beginRound hl (hr1 _ _), ?_⟩
      generalize hW2 : W.putObj (w.heap.size + 1) (.loop { rec .ready none with state := .busy }) = W2
      have hm2 : Mod (T ++ [w.heap.size, w.heap.size + 1]) W W2 := by rw [← hW2]; exact pb W _
      have hs2 : W2.heap.size = W.heap.size := by rw [← hW2]; simp
      have hl2 : W2.heap[w.heap.size + 1]? = some (.loop { rec .ready none with state := .busy }) := by rw [← hW2]; exact World.putObj_heap_same hlt
      have hk2 : W2.heap[w.heap.size]? = some (.deferred (some [])) := by rw [← hW2]; exact (World.putObj_heap_other (by omega)).trans hk
      have hT2 : ∀ k ∈ T, W2.heap[k]? = W.heap[k]? := fun k hkT => by rw [← hW2]; exact World.putObj_heap_other (by have := hT k hkT; omega)
      refine wpIn_mono (hbody _ pre x W2 (hI _ _ _ hi hm2) (by omega) hq) ?_
      have fin : ∀ (jump : Option Code) (W3 : World), Mod M W2 W3 → ∃ W4, (Instr.endRound (w.heap.size + 1) jump).run P W3 = .ok (.bool jump.isNone) W4 ∧ Mod (T ++ [w.heap.size, w.heap.size + 1]) W3 W4 ∧
          W4.heap[w.heap.size + 1]? = some (.loop (rec (if jump.isNone then .ready else .done) jump)) ∧ W4.heap[w.heap.size]? = some (.deferred (some [])) ∧ ∀ k ∈ T, W4.heap[k]? = W.heap[k]? := fun jump W3 hk3 => by
        have hl3 : W3.heap[w.heap.size + 1]? = some (.loop { rec .ready none with state := .busy }) := (hk3.block _ (by omega) (hnM _ (by omega))).trans hl2
        have hd3 : W3.heap[w.heap.size]? = some (.deferred (some [])) := (hk3.block _ (by omega) (hnM _ (by omega))).trans hk2
        have hrun := run_endRound (P := P) jump hl3
        refine ⟨_, hrun, pb W3 _, ?_, (World.putObj_heap_other (by omega)).trans hd3, fun k hkT => ?_⟩
        · rw [World.putObj_heap_same (Array.getElem?_eq_some_iff.1 hl3).1, ← hrec]
        · have := hT k hkT
          exact (World.putObj_heap_other (by omega)).trans ((hk3.block _ (by omega) fun hm => (hM k hm).2 hkT).trans (hT2 k hkT))
      rintro e a3 W3 hp
      cases e with
      | normal =>
        obtain ⟨W4, h1, h2, h3, h4, h5⟩ := fin none W3 hp.1
        exact ⟨_, _, h1, .inl ⟨rfl, ⟨hI _ _ _ hp.2 h2, h3, h4⟩, h5⟩⟩
      | ret =>
        obtain ⟨W4, h1, h2, h3, h4, h5⟩ := fin (some .ret) W3 hp.1
        exact ⟨_, _, h1, .inr ⟨rfl, .ret, hIx _ _ _ _ hp.2 h2, h3, h4⟩⟩
      | exit id =>
        obtain ⟨W4, h1, h2, h3, h4, h5⟩ := fin (some (.exit id)) W3 hp.1
        exact ⟨_, _, h1, .inr ⟨rfl, .exit id, hIx _ _ _ _ hp.2 h2, h3, h4⟩⟩
      | goto t =>
        obtain ⟨W4, h1, h2, h3, h4, h5⟩ := fin (some (.goto t)) W3 hp.1
        exact ⟨_, _, h1, .inr ⟨rfl, .goto t, hIx _ _ _ _ hp.2 h2, h3, h4⟩⟩
      | panic ch => exact hp.elim
      | outgrown => exact hp.elim
    · intro k hk
      have := hT k hk
      rw [← hW1]
      exact (Below.heap_alloc _ _ _ (by simp; omega)).trans (Below.heap_alloc _ _ _ this)
    · rintro e W2 ⟨⟨v, rfl⟩, (⟨hi, hl, hk⟩ | ⟨pre, hpre, c, hi, hl, hk⟩)⟩
      · have hend := run_endLoop (P := P) hl (by rw [hr1]; simp)
        rw [show (rec .ready none).pending = none by rw [← hrec]] at hend
        exact ⟨none, _, hend, hdone _ (hI _ _ _ hi (pb W2 _)) ((World.putObj_heap_other (by omega)).trans hk)⟩
      · have hend := run_endLoop (P := P) hl (by rw [hr1]; simp)
        rw [show (rec .done (some c)).pending = some c by rw [← hrec]] at hend
        exact ⟨some c, _, hend, hstop c pre _ hpre (hIx _ _ _ _ hi (pb W2 _)) ((World.putObj_heap_other (by omega)).trans hk)⟩
end Go.Proofs.YtoflbpmbkmephaaGreatDoor
namespace Go.Proofs.YtoflbpmbkmephaaGreatDoor
open Go.Lib (decDigits)
theorem digWrap {x : UInt8} (h : 48 ≤ x.toNat) : IntKind.wrap .i64 (IntKind.wrap .u8 (((x).toNat : Int) - 48)) = ((x.toNat - 48 : Nat) : Int) := by
  have := u8_lt x
  rw [Iw (by omega), Jk (by omega)]
  omega
theorem Eb {x : UInt8} (h : x.toNat < 48 ∨ 57 < x.toNat) : Dh x = false := by
  unfold Dh
  rcases h with h | h
  · rw [show decide (48 ≤ x.toNat) = false by simp; omega]; rfl
  · rw [show decide (x.toNat ≤ 57) = false by simp; omega]; simp
theorem Lg {x : UInt8} (h : 48 ≤ x.toNat) (h2 : x.toNat ≤ 57) : Dh x = true := by unfold Dh; simp [h, h2]
theorem I6 (l : List UInt8) (hl : l.length ≤ maxLen) : ∀ (d k f : Nat), d = l.length - k → k ≤ l.length → d < f → (l.take k).all Dh = true → Bv (l.take k) ≤ 10995116277769 →
    Xy l f ((Bv (l.take k) : Nat) : Int) (k : Int) = some (N2 (V0 l)) := by
  unfold maxLen at hl
  intro d
  induction d with
  | zero =>
    intro k f hd hk hf hall hv
    obtain ⟨f, rfl⟩ : ∃ g, f = g + 1 := ⟨f - 1, by omega⟩
    show Yq (Xy l f) l _ _ = _
    unfold Yq
    rw [show decide ((k : Int) < ((List.length l : Nat) : Int)) = false by simp; omega, U6]
    have e : l.take k = l := List.take_of_length_le (by omega)
    rw [e] at hall hv ⊢
    simp only [cond_false, Option.bind_some, G7]
    by_cases hm : Bv l ≤ Ut
    · have hm' := hm
      unfold Ut at hm'
      rw [if_pos (by omega), Int.toNat_natCast]
      by_cases he : decDigits (Bv l) = l
      · have hp : V0 l = some (Bv l) := by unfold V0; rw [if_pos ⟨hall, hm, he⟩]
        rw [hp, he, beq_self_eq_true]
        rfl
      · have hp : V0 l = none := by unfold V0; rw [if_neg fun h => he h.2.2]
        rw [hp, show (decDigits (Bv l) == l) = false by simpa using he]
        rfl
    · have hm' := hm
      unfold Ut at hm'
      have hp : V0 l = none := by unfold V0; rw [if_neg fun h => hm h.2.1]
      rw [if_neg (by omega), hp]
      cases l with
      | nil => exact absurd (show Bv [] ≤ Ut by decide) hm
      | cons c r => rfl
  | succ d ih =>
    intro k f hd hk hf hall hv
    obtain ⟨f, rfl⟩ : ∃ g, f = g + 1 := ⟨f - 1, by omega⟩
    have hlt : k < l.length := by omega
    show Yq (Xy l f) l _ _ = _
    unfold Yq
    have hx : idx l (k : Int) = some l[k] := Y3 hlt
    rw [show decide ((k : Int) < ((List.length l : Nat) : Int)) = true by simp; omega, hx]
    simp only [cond_true, Option.bind_some]
    by_cases h1 : l[k].toNat < 48
    · rw [show decide (((l[k].toNat : Nat) : Int) < 48) = true by simp; omega, Hz hlt (Eb (.inl h1))]
      rfl
    · rw [show decide (((l[k].toNat : Nat) : Int) < 48) = false by simp; omega]
      simp only [cond_false]
      by_cases h2 : 57 < l[k].toNat
      · rw [show decide (((l[k].toNat : Nat) : Int) > 57) = true by simp; omega, Hz hlt (Eb (.inr h2))]
        rfl
      · rw [show decide (((l[k].toNat : Nat) : Int) > 57) = false by simp; omega]
        simp only [cond_false]
        by_cases h3 : Ut < Bv (l.take k)
        · rw [Iz h3]
          unfold Ut at h3
          rw [show decide (((Bv (l.take k) : Nat) : Int) > 1099511627776) = true by simp; omega]
          rfl
        · unfold Ut at h3
          rw [show decide (((Bv (l.take k) : Nat) : Int) > 1099511627776) = false by simp; omega]
          have hst := dval_step hlt
          have w1 : IntKind.wrap .i64 (10 * ((Bv (l.take k) : Nat) : Int)) = ((10 * Bv (l.take k) : Nat) : Int) := by rw [Jk (by omega)]; omega
          have w2 := digWrap (x := l[k]) (by omega)
          have w3 : IntKind.wrap .i64 (((10 * Bv (l.take k) : Nat) : Int) + ((l[k].toNat - 48 : Nat) : Int)) = ((Bv (l.take (k + 1)) : Nat) : Int) := by rw [hst, Jk (by omega)]; omega
          have w4 : IntKind.wrap .i64 ((k : Int) + 1) = ((k + 1 : Nat) : Int) := by rw [Jk (by omega)]; omega
          simp only [Jc, cond_false, w1, w2, w3, w4]
          exact ih (k + 1) f (by omega) (by omega) (by omega) (all_step hlt hall (Lg (by omega) (by omega))) (by omega)
theorem lParse (l : List UInt8) (hl : l.length ≤ 2147483648) : U0 l = some (N2 (V0 l)) := by
  unfold U0
  rw [Nat.ble_eq_true_of_le (Nat.le_trans hl (by decide))]
  exact I6 l (by unfold maxLen; omega) l.length 0 Xx (by omega) (by omega) (by rw [fuel_eq]; omega) rfl (show 0 ≤ 10995116277769 by decide)
end Go.Proofs.YtoflbpmbkmephaaGreatDoor
namespace Go.Proofs.YtoflbpmbkmephaaGreatDoor
open Go.RowKit Go.Shelf
attribute [local go_sem] Oper.semAt_some
def Xf (st : Option (Nat × Nat)) (p : List UInt8) : Option (Nat × Nat) :=
  match st with
  | none => none
  | some (a, m) => match V0 p with
    | none => none
    | some n => if 255 < n ∨ 4 ≤ m then none else some (a * 256 + n, m + 1)
def N4 (ps : List (List UInt8)) : Option (Nat × Nat) := ps.foldl Xf (some (0, 0))
def Gj (s : List UInt8) : Option Nat := match N4 (Qx 46 s) with | none => none | some (a, m) => if m = 4 then some a else none
theorem Ra (ps : List (List UInt8)) (p : List UInt8) : N4 (ps ++ [p]) = Xf (N4 ps) p := by simp [N4]
theorem Nq (ps : List (List UInt8)) : ps.foldl Xf none = none := by
  induction ps with
  | nil => rfl
  | cons p ps ih => exact ih
theorem F4 {pre ps : List (List UInt8)} (h : pre <+: ps) (hn : N4 pre = none) : N4 ps = none := by
  obtain ⟨q, rfl⟩ := h
  unfold N4 at *
  rw [List.foldl_append, hn, Nq]
theorem H4 {ps : List (List UInt8)} {a m : Nat} (h : N4 ps = some (a, m)) : m ≤ 4 ∧ a < 256 ^ m := by
  suffices H : ∀ (ps : List (List UInt8)) (a0 m0 : Nat), m0 ≤ 4 → a0 < 256 ^ m0 → ps.foldl Xf (some (a0, m0)) = some (a, m) → m ≤ 4 ∧ a < 256 ^ m by exact H ps 0 0 (by omega) (by decide) h
  intro ps
  induction ps with
  | nil => intro a0 m0 h1 h2 h3; simp at h3; obtain ⟨rfl, rfl⟩ := h3; exact ⟨h1, h2⟩
  | cons p ps ih =>
    intro a0 m0 h1 h2 h3
    rw [List.foldl_cons] at h3
    cases hp : V0 p with
    | none =>
      rw [show Xf (some (a0, m0)) p = none by simp only [Xf, hp], Nq] at h3
      cases h3
    | some n =>
      by_cases hc : 255 < n ∨ 4 ≤ m0
      · rw [show Xf (some (a0, m0)) p = none by simp only [Xf, hp, if_pos hc], Nq] at h3
        cases h3
      · rw [show Xf (some (a0, m0)) p = some (a0 * 256 + n, m0 + 1) by simp only [Xf, hp, if_neg hc]] at h3
        exact ih _ _ (by omega) (by rw [Nat.pow_succ]; omega) h3
theorem u32_join (a n : Nat) (ha : a < 16777216) (hn : n < 256) : bits .or .u32 ((a : Int) * 256 % 4294967296) (n : Int) = ((a * 256 + n : Nat) : Int) := by
  rw [show (a : Int) * 256 % 4294967296 = ((a * 256 : Nat) : Int) by omega]
  have h := Nat.shiftLeft_add_eq_or_of_lt (i := 8) (b := n) (by omega) a
  rw [Nat.shiftLeft_eq] at h
  show IntKind.u32.wrap ((BitVec.ofInt 32 ((a * 256 : Nat) : Int) ||| BitVec.ofInt 32 (n : Int)).toNat : Int) = _
  rw [BitVec.toNat_or, BitVec.ofInt_natCast, BitVec.ofInt_natCast, BitVec.toNat_ofNat, BitVec.toNat_ofNat, Nat.mod_eq_of_lt (by omega), Nat.mod_eq_of_lt (by omega), show a * 256 = a * 2 ^ 8 from rfl, ← h]
  unfold IntKind.wrap
  simp only [IntKind.bits, IntKind.signed]
  simp
  omega
theorem Bg {w : World} {o : Obj} {k : Nat} (h : k = w.heap.size) : (w.alloc o).heap[k]? = some o := by subst h; exact World.alloc_heap_new w o
theorem Ca (s sep : ByteArray) (w : World) : Calls Tryz.prog 183 #[.string s, .string sep] w fun e w' =>
    e = .returned (.func (.func 202) #[] #[.pointer (some ⟨w.heap.size + 1, 0, none⟩), .pointer (some ⟨w.heap.size, 0, none⟩), .pointer (some ⟨w.heap.size + 2, 0, none⟩)]) ∧
      w' = ((w.alloc (.cells #[.string s] 9)).alloc (.cells #[.string sep] 9)).alloc (.cells #[.int .i64 0] 3) := by
  have h1 : Calls Tryz.prog 196 #[.string s, .string sep, .int .i64 0] w fun e w' =>
    e = .returned (.func (.func 202) #[] #[.pointer (some ⟨w.heap.size + 1, 0, none⟩), .pointer (some ⟨w.heap.size, 0, none⟩), .pointer (some ⟨w.heap.size + 2, 0, none⟩)]) ∧
      w' = ((w.alloc (.cells #[.string s] 9)).alloc (.cells #[.string sep] 9)).alloc (.cells #[.int .i64 0] 3) := by
    go_enter Tryz.func196, Tryz.ntmps196
    go_wp2
    go_ret
    exact ⟨by simp, rfl⟩
  go_enter Tryz.func183, Tryz.ntmps183
  go_wp2_with (go_at_call 196; refine h1.mono ?_; rintro e w' ⟨rfl, rfl⟩)
  go_ret
  exact ⟨rfl, rfl⟩
theorem addr_any (s : List UInt8) (hs : s.length ≤ 2147483648) (w : World) (hL : U9 w) :
    Calls Tryz.prog 157 #[.string ⟨s.toArray⟩] w fun e w' => e = .returned (match Gj s with | none => .tuple #[.int .u32 0, .bool false] | some a => .tuple #[.int .u32 (a : Int), .bool true]) ∧ Below w.heap.size w w' := by
  refine (callsIn_wide (n := 3)).1 ?_
  refine callsIn_of_wp_marks Tryz.func157 rfl trivial ?_ rfl
  simp only [Tryz.ntmps157, List.size_toArray, List.length_cons, List.length_nil, Nat.reduceAdd, Nat.reduceSub, Array.replicate_succ, Array.replicate_zero, List.push_toArray, List.append_toArray, List.nil_append, List.cons_append]
  gi_wp2
  refine wpIn_wide.2 (wp_scope_straight ((wpIn_wide (n := 3)).1 ?_))
  gi_wp2_with (refine ⟨trivial, fun hh => (by first | (cases hh; done) | omega), ?_⟩; gi_at_call 183; refine (callsIn_wide.2 (Ca _ _ _)).mono ?_; rintro e w' ⟨rfl, rfl⟩)
  refine wpIn_label ?_
  gi_wp2_with (refine ⟨trivial, ?_⟩; gi_at_call 183; refine (callsIn_wide.2 (Ca _ _ _)).mono ?_; rintro e w' ⟨rfl, rfl⟩)
  have hsl : s.length ≤ maxLen := by unfold maxLen; omega
  generalize hw5 : ((((((w.alloc (Obj.cells #[Value.int IntKind.u32 0] 50)).alloc (Obj.cells #[Value.int IntKind.i64 0] 3)).alloc (Obj.cells #[Value.string { data := s.toArray }] 9)).alloc (Obj.cells #[Value.string { data := #[46] }] 9)).alloc (Obj.cells #[Value.int IntKind.i64 0] 3))) = w5
  have hsz5 : w5.heap.size = w.heap.size + 5 := by rw [← hw5]; simp
  have hb5 : Below w.heap.size w w5 := by
    rw [← hw5]
    exact (((((Below.refl _ _).alloc (Nat.le_refl _) _).alloc (by simp) _).alloc (by simp; omega) _).alloc (by simp; omega) _).alloc (by simp; omega) _
  have g0 : w5.heap[w.heap.size]? = some (.cells #[.int .u32 0] 50 (0, 0)) := by rw [← hw5]; exact (Below.heap_alloc _ _ _ (by simp; try omega)).trans ((Below.heap_alloc _ _ _ (by simp; try omega)).trans ((Below.heap_alloc _ _ _ (by simp; try omega)).trans ((Below.heap_alloc _ _ _ (by simp; try omega)).trans (Bg rfl))))
  have g1 : w5.heap[w.heap.size + 1]? = some (.cells #[.int .i64 0] 3 (0, 0)) := by rw [← hw5]; exact (Below.heap_alloc _ _ _ (by simp; try omega)).trans ((Below.heap_alloc _ _ _ (by simp; try omega)).trans ((Below.heap_alloc _ _ _ (by simp; try omega)).trans (Bg (by simp))))
  have g2 : w5.heap[w.heap.size + 1 + 1]? = some (.cells #[.string ⟨s.toArray⟩] 9 (0, 0)) := by rw [← hw5]; exact (Below.heap_alloc _ _ _ (by simp; try omega)).trans ((Below.heap_alloc _ _ _ (by simp; try omega)).trans (Bg (by simp)))
  have g3 : w5.heap[w.heap.size + 1 + 1 + 1]? = some (.cells #[.string ⟨#[46]⟩] 9 (0, 0)) := by rw [← hw5]; exact (Below.heap_alloc _ _ _ (by simp; try omega)).trans (Bg (by simp))
  have g4 : w5.heap[w.heap.size + 1 + 1 + 2]? = some (.cells #[.int .i64 0] 3 (0, 0)) := by rw [← hw5]; exact Bg (by simp)
  clear hw5
  refine range_own (gf := 202) (lb := #[Value.pointer (some { block := w.heap.size + 1 + 1 + 1, off := 0 }), Value.pointer (some { block := w.heap.size + 1 + 1, off := 0 }), Value.pointer (some { block := w.heap.size + 1 + 1 + 2, off := 0 })])
    rfl (enters_of Tryz.func202 (by kernel_rfl) rfl) (encs := fun x : List UInt8 => #[.string ⟨x.toArray⟩]) (fun _ => rfl) [w.heap.size + 1 + 1 + 1, w.heap.size + 1 + 1, w.heap.size + 1 + 1 + 2] [w.heap.size, w.heap.size + 1]
    (by intro k hk; simp at hk; omega) (by intro k hk; simp at hk ⊢; omega) (S := Qx 46 s) ?iter
    (fun pre W => ∃ a m, N4 pre = some (a, m) ∧ W.heap[w.heap.size]? = some (.cells #[.int .u32 (a : Int)] 50 (0, 0)) ∧ W.heap[w.heap.size + 1]? = some (.cells #[.int .i64 (m : Int)] 3 (0, 0)) ∧ Below w.heap.size w W)
    (fun c pre W => c = .exit 0 ∧ N4 pre = none ∧ (∃ v : Int, v ≠ 4 ∧ W.heap[w.heap.size + 1]? = some (.cells #[.int .i64 v] 3 (0, 0))) ∧ Below w.heap.size w W) ?hI ?hIx ⟨0, 0, rfl, g0, g1, hb5⟩
    (fun x => { tmps := #[.string ⟨s.toArray⟩, undef, .int .u32 0, .bool false, .pointer (some ⟨w.heap.size, 0, none⟩), .pointer (some ⟨w.heap.size + 1, 0, none⟩), .string ⟨x.toArray⟩, undef, undef, .string ⟨s.toArray⟩,
      .func (.func 202) #[] #[.pointer (some ⟨w.heap.size + 1 + 1 + 1, 0, none⟩), .pointer (some ⟨w.heap.size + 1 + 1, 0, none⟩), .pointer (some ⟨w.heap.size + 1 + 1 + 2, 0, none⟩)], .string ⟨x.toArray⟩, undef, undef, undef, undef, undef, undef, undef, undef, undef, undef, undef, undef, undef, undef, undef, undef, undef, undef, undef, undef, undef, undef, undef], defers := [] }) ?assign ?body ?done ?stop
  case iter =>
    intro l J Jx W hJ hY hT hJ0
    refine Lf _ l (w.heap.size + 1 + 1 + 1) (w.heap.size + 1 + 1) (w.heap.size + 1 + 1 + 2) 46 (by omega) (by omega) s hsl J Jx (fun pre W1 v hj => hJ pre W1 _ v (by simp) hj) (fun pre x r W1 hj hb hq => ?_) W ⟨(hT _ (by simp)).trans g3, (hT _ (by simp)).trans g2, (hT _ (by simp)).trans g4⟩ hJ0
    obtain ⟨fn, tmps, assign, body, hy, hR⟩ := hY pre x W1 hj hq
    refine ⟨fn, tmps, assign, body, hy, hR.mono ?_⟩
    rintro e W' (⟨h1, h2, h3⟩ | h)
    · exact .inl ⟨h1, h2, h3 _ (by simp), h3 _ (by simp), h3 _ (by simp)⟩
    · exact .inr h
  case hI =>
    rintro xs W W' ⟨a, m, h1, h2, h3, h4⟩ hm
    have hB : Below w.heap.size W W' := ⟨hm.os, hm.tape, hm.output, hm.size, fun k hk => hm.block k (Nat.lt_of_lt_of_le hk h4.size) (by simp [hsz5]; omega)⟩
    refine ⟨a, m, h1, (hm.block _ (Array.getElem?_eq_some_iff.1 h2).1 (by simp [hsz5]; try omega)).trans h2, (hm.block _ (Array.getElem?_eq_some_iff.1 h3).1 (by simp [hsz5]; try omega)).trans h3, h4.trans hB⟩
  case hIx =>
    rintro c xs W W' ⟨h0, h1, ⟨v, hv, h3⟩, h4⟩ hm
    have hB : Below w.heap.size W W' := ⟨hm.os, hm.tape, hm.output, hm.size, fun k hk => hm.block k (Nat.lt_of_lt_of_le hk h4.size) (by simp [hsz5]; omega)⟩
    exact ⟨h0, h1, ⟨v, hv, (hm.block _ (Array.getElem?_eq_some_iff.1 h3).1 (by simp [hsz5]; try omega)).trans h3⟩, h4.trans hB⟩
  case assign =>
    intro l x W K hK
    gi_wp2
    exact hK
  case body =>
    rintro l pre x W ⟨a, m, hst, hca, hcm, hB⟩ hsz ⟨q, hq⟩
    have hx : x.length ≤ s.length := U2 46 s x (by rw [← hq]; simp)
    have hle := H4 hst
    have hparse := lParse x (by omega)
    cases hp : V0 x with
    | none =>
      rw [hp] at hparse
      have hnone : N4 (pre ++ [x]) = none := by rw [Ra, hst]; simp only [Xf, hp]
      gi_wp2_with (refine ⟨trivial, ?_⟩; gi_at_call 135; refine (CallsIn.inRound l (callsIn_wide.2 (Yd x W (Q0 hL hB) (0, false) hparse))).mono ?_; rintro e w' ⟨rfl, hsp⟩; have hb' := SP.keeps hsp; have hca2 := (hb'.block _ (Array.getElem?_eq_some_iff.1 hca).1).trans hca; have hcm2 := (hb'.block _ (Array.getElem?_eq_some_iff.1 hcm).1).trans hcm; have c1 := N3 hca2; have c2 := N3 hcm2; have f1 := Gi hca2; have f2 := Gi hcm2)
      exact ⟨(Xb hb' _).setCell (p := ⟨w.heap.size + 1, 0, none⟩) (.inl (by simp)) _, rfl, hnone, ⟨0, by decide, Yy hcm2⟩, (hB.trans (hb'.mono hB.size)).setCell (p := ⟨w.heap.size + 1, 0, none⟩) (by simp) _⟩
    | some n =>
      rw [hp] at hparse
      by_cases hn : 255 < n
      · have hnone : N4 (pre ++ [x]) = none := by rw [Ra, hst]; simp only [Xf, hp, if_pos (Or.inl hn : 255 < n ∨ 4 ≤ m)]
        have hn' : (255 : Int) < (n : Int) := by omega
        gi_wp2_with (refine ⟨trivial, ?_⟩; gi_at_call 135; refine (CallsIn.inRound l (callsIn_wide.2 (Yd x W (Q0 hL hB) ((n : Int), true) hparse))).mono ?_; rintro e w' ⟨rfl, hsp⟩; have hb' := SP.keeps hsp; have hca2 := (hb'.block _ (Array.getElem?_eq_some_iff.1 hca).1).trans hca; have hcm2 := (hb'.block _ (Array.getElem?_eq_some_iff.1 hcm).1).trans hcm; have c1 := N3 hca2; have c2 := N3 hcm2; have f1 := Gi hca2; have f2 := Gi hcm2)
        exact ⟨(Xb hb' _).setCell (p := ⟨w.heap.size + 1, 0, none⟩) (.inl (by simp)) _, rfl, hnone, ⟨0, by decide, Yy hcm2⟩, (hB.trans (hb'.mono hB.size)).setCell (p := ⟨w.heap.size + 1, 0, none⟩) (by simp) _⟩
      · have hn' : ¬ (255 : Int) < (n : Int) := by omega
        by_cases hm : 4 ≤ m
        · have hnone : N4 (pre ++ [x]) = none := by rw [Ra, hst]; simp only [Xf, hp, if_pos (Or.inr hm : 255 < n ∨ 4 ≤ m)]
          have hm' : (4 : Int) < (m : Int) + 1 := by omega
          gi_wp2_with (refine ⟨trivial, ?_⟩; gi_at_call 135; refine (CallsIn.inRound l (callsIn_wide.2 (Yd x W (Q0 hL hB) ((n : Int), true) hparse))).mono ?_; rintro e w' ⟨rfl, hsp⟩; have hb' := SP.keeps hsp; have hca2 := (hb'.block _ (Array.getElem?_eq_some_iff.1 hca).1).trans hca; have hcm2 := (hb'.block _ (Array.getElem?_eq_some_iff.1 hcm).1).trans hcm; have c1 := N3 hca2; have c2 := N3 hcm2; have f1 := Gi hca2; have f2 := Gi hcm2)
          have hcm3 : (w'.setCell ⟨w.heap.size, 0, none⟩ (.int .u32 (bits .or .u32 ((a : Int) * 256 % 4294967296) (n : Int)))).heap[w.heap.size + 1]? = some (.cells #[.int .i64 (m : Int)] 3 (0, 0)) := (Xw (by omega)).trans hcm2
          exact ⟨((Xb hb' _).setCell (p := ⟨w.heap.size, 0, none⟩) (.inl (by simp)) _).setCell (p := ⟨w.heap.size + 1, 0, none⟩) (.inl (by simp)) _, rfl, hnone, ⟨(m : Int) + 1, by omega, Yy hcm3⟩,
            ((hB.trans (hb'.mono hB.size)).setCell (p := ⟨w.heap.size, 0, none⟩) (by simp) _).setCell (p := ⟨w.heap.size + 1, 0, none⟩) (by simp) _⟩
        · have hm' : ¬ (4 : Int) < (m : Int) + 1 := by omega
          gi_wp2_with (refine ⟨trivial, ?_⟩; gi_at_call 135; refine (CallsIn.inRound l (callsIn_wide.2 (Yd x W (Q0 hL hB) ((n : Int), true) hparse))).mono ?_; rintro e w' ⟨rfl, hsp⟩; have hb' := SP.keeps hsp; have hca2 := (hb'.block _ (Array.getElem?_eq_some_iff.1 hca).1).trans hca; have hcm2 := (hb'.block _ (Array.getElem?_eq_some_iff.1 hcm).1).trans hcm; have c1 := N3 hca2; have c2 := N3 hcm2; have f1 := Gi hca2; have f2 := Gi hcm2)
          have hstep : N4 (pre ++ [x]) = some (a * 256 + n, m + 1) := by rw [Ra, hst]; simp only [Xf, hp, if_neg (by omega : ¬ (255 < n ∨ 4 ≤ m))]
          have ha : a < 16777216 := by
            have h3 := Nat.pow_le_pow_right (show 0 < 256 by omega) (show m ≤ 3 by omega)
            have h6 : (256 : Nat) ^ 3 = 16777216 := by decide
            omega
          have hj := u32_join a n ha (by omega)
          rw [hj]
          have hca3 : (w'.setCell ⟨w.heap.size, 0, none⟩ (.int .u32 ((a * 256 + n : Nat) : Int))).heap[w.heap.size]? = some (.cells #[.int .u32 ((a * 256 + n : Nat) : Int)] 50 (0, 0)) := Yy hca2
          have hcm3 : (w'.setCell ⟨w.heap.size, 0, none⟩ (.int .u32 ((a * 256 + n : Nat) : Int))).heap[w.heap.size + 1]? = some (.cells #[.int .i64 (m : Int)] 3 (0, 0)) := (Xw (by omega)).trans hcm2
          exact ⟨((Xb hb' _).setCell (p := ⟨w.heap.size, 0, none⟩) (.inl (by simp)) _).setCell (p := ⟨w.heap.size + 1, 0, none⟩) (.inl (by simp)) _, a * 256 + n, m + 1, hstep, (Xw (by omega)).trans hca3, Yy hcm3,
            ((hB.trans (hb'.mono hB.size)).setCell (p := ⟨w.heap.size, 0, none⟩) (by simp) _).setCell (p := ⟨w.heap.size + 1, 0, none⟩) (by simp) _⟩
  case done =>
    rintro W ⟨a, m, hst, hca, hcm, hB⟩ hK
    have c1 := N3 hca
    have c2 := N3 hcm
    by_cases h4 : m = 4
    · subst h4
      have hres : Gj s = some a := by unfold Gj; rw [hst]; rfl
      gi_wp2
      refine ⟨by simp, .inl ⟨_, _, rfl, run_takeDeferred hK, ?_⟩⟩
      exact ⟨_, results_tmp2 rfl _ _ _, by rw [hres]; rfl, hB.trans ((Ue W _ _).below hB.size (by simp [hsz5]))⟩
    · have hm : ((m : Int) != 4) = true := by rw [bne_iff_ne]; omega
      have hres : Gj s = none := by unfold Gj; rw [hst]; exact if_neg h4
      gi_wp2
      refine ⟨by simp, .inl ⟨_, _, rfl, run_takeDeferred hK, ?_⟩⟩
      exact ⟨_, results_tmp2 rfl _ _ _, by rw [hres]; rfl, hB.trans ((Ue W _ _).below hB.size (by simp [hsz5]))⟩
  case stop =>
    rintro c pre W hpre ⟨rfl, hst, ⟨v, hv, hcv⟩, hB⟩ hK
    have c2 := N3 hcv
    have hm : (v != 4) = true := by rw [bne_iff_ne]; exact hv
    have hres : Gj s = none := by unfold Gj; rw [F4 hpre hst]
    gi_wp2
    refine ⟨by simp, .inl ⟨_, _, rfl, run_takeDeferred hK, ?_⟩⟩
    exact ⟨_, results_tmp2 rfl _ _ _, by rw [hres]; rfl, hB.trans ((Ue W _ _).below hB.size (by simp [hsz5]))⟩
end Go.Proofs.YtoflbpmbkmephaaGreatDoor
namespace Go.Proofs.YtoflbpmbkmephaaGreatDoor
open Go.RowKit
def V9 (s sep : List UInt8) : Option Int := match sep with | [c] => some (Lib.indexByte s c) | _ => none
theorem Ym (s sep : List UInt8) (w0 : World) (r : Int) (H : V9 s sep = some r) :
    Calls Tryz.prog 182 #[(.string ⟨List.toArray s⟩), (.string ⟨List.toArray sep⟩)] w0 (fun e w' => e = .returned (.int .i64 r) ∧ SP [] w0 w' []) := by
  unfold V9 at H
  match sep, H with
  | [c], H =>
    injection H with H
    subst H
    refine (Tryz.stringslite_Index_one ⟨s.toArray⟩ c w0).mono ?_
    rintro e w' ⟨rfl, rfl⟩
    exact ⟨rfl, Q1 [] w'⟩
def addrD (x : Option Nat) : Int × Bool := match x with | none => (0, false) | some a => ((a : Int), true)
def Un (s : List UInt8) : Option (Int × Bool) := cond (Nat.ble s.length 2147483648) (some (addrD (Gj s))) none
theorem Bh (s : List UInt8) (w0 : World) (hL : U9 w0) (r : Int × Bool) (H : Un s = some r) :
    Calls Tryz.prog 157 #[(.string ⟨List.toArray s⟩)] w0 (fun e w' => e = .returned (.tuple #[(.int .u32 r.1), (.bool r.2)]) ∧ SP [] w0 w' []) := by
  unfold Un at H
  cases hs : Nat.ble s.length 2147483648 <;> rw [hs] at H
  · cases H
  injection H with H
  subst H
  refine (addr_any s (Nat.le_of_ble_eq_true hs) w0 hL).mono ?_
  rintro e w' ⟨rfl, hbel⟩
  refine ⟨?_, C1 hbel⟩
  cases Gj s with
  | none => rfl
  | some a => rfl
end Go.Proofs.YtoflbpmbkmephaaGreatDoor
namespace Go.Proofs.YtoflbpmbkmephaaGreatDoor
open Go.RowKit
def Uo (p1 : (List UInt8)) (p2 : (List UInt8)) : Option (Int) :=
  ((V9 p1 p2).bind fun z3 => (some (z3)))
set_option maxHeartbeats 40000000 in
theorem Dk  (p1 : (List UInt8)) (p2 : (List UInt8)) (w0 : World)  (r : (Int)) (H : Uo p1 p2 = some r) :
  Calls Tryz.prog 156 #[(.string ⟨List.toArray p1⟩), (.string ⟨List.toArray p2⟩)] w0 (fun e w' => e = .returned (.int .i64 r) ∧ SP [] w0 w' []) := by
 unfold Uo at H
 refine Qv (n := 8) Tryz.func156 K K K ?_
 have b := Q1 [] w0
 refine aQ ?_
 refine aR ?_
 refine iR 1 1 [(4, (.int .i64 0))] ?_
 refine iF ?_
 refine aQ ?_
 refine aR ?_
 refine iR 2 2 [(5, (.string ⟨List.toArray p1⟩)), (6, (.string ⟨List.toArray p2⟩))] ?_
 obtain ⟨z3, c, H⟩ := Qd H
 refine iS 3 ?_
 refine cF 182 #[(.tmp 5), (.tmp 6)] #[9, 9] 7 Tryz.call182 (Ym  p1 p2 w0  z3 c) ?_
 rintro e w5 ⟨rfl, a⟩
 refine ⟨_, rfl, ?_⟩
 have d := SP.call b a
 clear a
 refine iR 1 4 [(4, (.int .i64 z3))] ?_
 refine iF ?_
 refine At.ret K ?_
 refine ⟨(.int .i64 z3), K, ?_⟩
 obtain rfl := Qg H
 exact ⟨rfl, SP.sel d [] rfl rfl⟩
def Zv (c : (List UInt8)) (b : (List (List UInt8))) (a : Int) : Option ((List (List UInt8))) :=
  ((idx b a).bind fun f => ((some (List.set b (Int.toNat a) c)).bind fun d => ((sub d 0 (IntKind.wrap .i64 (a + 1))).bind fun e => (some (e)))))
def Xl (f : (List UInt8) → (List (List UInt8)) → Int → Option ((List (List UInt8)))) (p1 : (List UInt8)) (p2 : (List UInt8)) (p3 : Int) (e : Int) (a : (List UInt8)) (c : (List (List UInt8))) (b : Int) : Option ((List (List UInt8))) :=
  (cond (decide (b < (IntKind.wrap .i64 ((if (IntKind.wrap .i64 (((List.length p1 : Nat) : Int) + 1)) < e then (IntKind.wrap .i64 (((List.length p1 : Nat) : Int) + 1)) else e) - 1)))) ((Uo a p2).bind fun d => (cond (decide (d < 0)) (Zv a c b) ((sub a 0 (IntKind.wrap .i64 (d + p3))).bind fun g => ((idx c b).bind fun j => ((some (List.set c (Int.toNat b) g)).bind fun h => ((sub a (IntKind.wrap .i64 (d + ((List.length p2 : Nat) : Int))) ((List.length a : Nat) : Int)).bind fun i => (f i h (IntKind.wrap .i64 (b + 1))))))))) (Zv a c b))
def Zw (p1 : (List UInt8)) (p2 : (List UInt8)) (p3 : Int) (a : Int) : Nat → (List UInt8) → (List (List UInt8)) → Int → Option ((List (List UInt8)))
  | 0, _, _, _ => none
  | f + 1, b, c, d => Xl  (Zw p1 p2 p3 a f) p1 p2 p3 a b c d
def Xm (p1 : (List UInt8)) (p2 : (List UInt8)) (p3 : Int) (a : Int) : Option ((List (List UInt8))) :=
  ((chk (decide (0 ≤ (if (IntKind.wrap .i64 (((List.length p1 : Nat) : Int) + 1)) < a then (IntKind.wrap .i64 (((List.length p1 : Nat) : Int) + 1)) else a) ∧ (if (IntKind.wrap .i64 (((List.length p1 : Nat) : Int) + 1)) < a then (IntKind.wrap .i64 (((List.length p1 : Nat) : Int) + 1)) else a) ≤ 2147483648))).bind fun _ => ((some (List.replicate (Int.toNat (if (IntKind.wrap .i64 (((List.length p1 : Nat) : Int) + 1)) < a then (IntKind.wrap .i64 (((List.length p1 : Nat) : Int) + 1)) else a)) (([] : List UInt8) : (List UInt8)))).bind fun b => (Zw p1 p2 p3 a Xx p1 b 0)))
def Jl (p1 : (List UInt8)) (p2 : (List UInt8)) (p3 : Int) (p4 : Int) : Option ((List (List UInt8))) :=
  (cond (p4 == 0) (some (([] : List (List UInt8)))) (cond (p2 == ([] : List UInt8)) ((Gu p1 p4).bind fun a => (some (a))) (cond (decide (p4 < 0)) ((Um p1 p2).bind fun b => (Xm p1 p2 p3 (IntKind.wrap .i64 (b + 1)))) (Xm p1 p2 p3 p4))))
set_option maxHeartbeats 40000000 in
theorem Rb  (p1 : (List UInt8)) (p2 : (List UInt8)) (p3 : Int) (p4 : Int) (w0 : World)  (r : ((List (List UInt8)))) (H : Jl p1 p2 p3 p4 = some r) :
  Calls Tryz.prog 111 #[(.string ⟨List.toArray p1⟩), (.string ⟨List.toArray p2⟩), (.int .i64 p3), (.int .i64 p4)] w0 (fun e w' => ∃ (A5 : Option Addr) (c6 : Nat), e = .returned (.slice A5 (List.length r) c6) ∧ SP [] w0 w' [Q6 9 Ql A5 c6 r]) := by
 unfold Jl at H
 refine Qv (n := 66) Tryz.func111 K K K ?_
 have a6 := Q1 [] w0
 refine aQ ?_
 refine aR ?_
 refine iR 1 1 [(8, (.slice none (List.length ([] : List (List UInt8))) 0))] ?_
 refine iF ?_
 refine aQ ?_
 refine aQ ?_
 refine aR ?_
 refine iR 2 2 [(12, (.int .i64 p4)), (13, (.bool (p4 == 0)))] ?_
 refine iF ?_
 refine Xe K (o := (.tmp 13)) K (b := (p4 == 0)) K (fun b1 => ?_) (fun b1 => ?_)
 ·have H := ct H b1
  refine aQ ?_
  refine aR ?_
  refine iR 1 1 [(8, (.slice none (List.length ([] : List (List UInt8))) 0))] ?_
  refine iF ?_
  refine At.ret K ?_
  have d7 : SP [] w0 w0 [Q6 9 Ql none 0 ([] : List (List UInt8))] := Nx a6 9 Ql
  refine ⟨(.slice none (List.length ([] : List (List UInt8))) 0), K, ?_⟩
  obtain rfl := Qg H
  exact ⟨none, 0, rfl, SP.sel d7 [0] rfl rfl⟩
 ·have H := cf H b1
  refine At.skip K ?_
  refine aQ ?_
  refine aQ ?_
  refine aR ?_
  refine iR 1 1 [(14, (.string ⟨List.toArray p2⟩))] ?_
  refine iS 2 ?_
  refine Xp (op := .eql) (T := 9) (T' := 9) (x := (.tmp 14)) (y := (.const (.string ⟨List.toArray ([] : List UInt8)⟩))) (a := p2) (b := ([] : List UInt8)) (r := (.bool (p2 == ([] : List UInt8)))) (d := (some 15)) (k := 1) K rfl K K rfl ?_
  refine iF ?_
  refine Xe K (o := (.tmp 15)) K (b := (p2 == ([] : List UInt8))) K (fun b2 => ?_) (fun b2 => ?_)
  ·have H := ct H b2
   refine aQ ?_
   refine aR ?_
   refine iR 2 2 [(16, (.string ⟨List.toArray p1⟩)), (17, (.int .i64 p4))] ?_
   obtain ⟨b3, d8, H⟩ := Qd H
   refine iS 3 ?_
   refine cF 154 #[(.tmp 16), (.tmp 17)] #[9, 3] 18 Tryz.call154 (Rx  p1 p4 w0  b3 d8) ?_
   rintro e g3 ⟨b4, b5, rfl, c1⟩
   refine ⟨_, rfl, ?_⟩
   have d9 := SP.call a6 c1
   clear c1
   refine iR 1 4 [(8, (.slice b4 (List.length b3) b5))] ?_
   refine iF ?_
   refine At.ret K ?_
   refine ⟨(.slice b4 (List.length b3) b5), K, ?_⟩
   obtain rfl := Qg H
   exact ⟨b4, b5, rfl, SP.sel d9 [0] rfl rfl⟩
  ·have H := cf H b2
   refine At.skip K ?_
   refine aQ ?_
   refine aQ ?_
   refine aR ?_
   refine iR 2 2 [(19, (.int .i64 p4)), (20, (.bool (decide (p4 < 0))))] ?_
   refine iF ?_
   refine At.join (fun ρ w => ∃ (f : Int), Zm ρ [(0, (.string ⟨List.toArray p1⟩)), (1, (.string ⟨List.toArray p2⟩)), (2, (.int .i64 p3)), (3, (.int .i64 f))] ∧ SP [] w0 w [] ∧ Xm p1 p2 p3 f = some r) ?_ ?_
   ·refine Xe K (o := (.tmp 20)) K (b := (decide (p4 < 0))) K (fun b6 => ?_) (fun b6 => ?_)
    ·have H := ct H b6
     refine aR ?_
     refine iR 2 2 [(21, (.string ⟨List.toArray p1⟩)), (22, (.string ⟨List.toArray p2⟩))] ?_
     obtain ⟨a7, e0, H⟩ := Qd H
     refine iS 3 ?_
     refine cF 155 #[(.tmp 21), (.tmp 22)] #[9, 9] 23 Tryz.call155 (Dj  p1 p2 w0  a7 e0) ?_
     rintro e g4 ⟨rfl, c2⟩
     refine ⟨_, rfl, ?_⟩
     have e1 := SP.call a6 c2
     clear c2
     refine iR 2 5 [(24, (.int .i64 (IntKind.wrap .i64 (a7 + 1)))), (3, (.int .i64 (IntKind.wrap .i64 (a7 + 1))))] ?_
     refine iF ?_
     exact ⟨(IntKind.wrap .i64 (a7 + 1)), ⟨K, K, K, K, trivial⟩, SP.sel e1 [] rfl rfl, H⟩
    ·have H := cf H b6
     refine At.skip K ?_
     exact ⟨p4, ⟨K, K, K, K, trivial⟩, SP.sel a6 [] rfl rfl, H⟩
   ·rintro ρ g5 ⟨f, hk, e2, H⟩
    unfold Xm at H
    first | refine At.known [(0, (.string ⟨List.toArray p1⟩)), (1, (.string ⟨List.toArray p2⟩)), (2, (.int .i64 p3)), (3, (.int .i64 f))] hk ?_ | rw [← Q3 (l := [(0, (.string ⟨List.toArray p1⟩)), (1, (.string ⟨List.toArray p2⟩)), (2, (.int .i64 p3)), (3, (.int .i64 f))]) hk]
    refine aQ ?_
    refine aR ?_
    refine iR 6 6 [(25, (.int .i64 f)), (26, (.string ⟨List.toArray p1⟩)), (27, (.int .i64 ((List.length p1 : Nat) : Int))), (28, (.int .i64 (IntKind.wrap .i64 (((List.length p1 : Nat) : Int) + 1)))), (29, (.int .i64 (if (IntKind.wrap .i64 (((List.length p1 : Nat) : Int) + 1)) < f then (IntKind.wrap .i64 (((List.length p1 : Nat) : Int) + 1)) else f))), (3, (.int .i64 (if (IntKind.wrap .i64 (((List.length p1 : Nat) : Int) + 1)) < f then (IntKind.wrap .i64 (((List.length p1 : Nat) : Int) + 1)) else f)))] ?_
    refine iF ?_
    refine aQ ?_
    refine aR ?_
    refine iR 1 1 [(30, (.int .i64 (if (IntKind.wrap .i64 (((List.length p1 : Nat) : Int) + 1)) < f then (IntKind.wrap .i64 (((List.length p1 : Nat) : Int) + 1)) else f)))] ?_
    obtain ⟨hl30, H⟩ := G5 H
    obtain ⟨a8, hyl29, H⟩ := Zs H
    refine iS 2 ?_
    refine C9 (e := Ql) (l' := a8) (z := ([] : List UInt8)) (v := (.string ⟨List.toArray ([] : List UInt8)⟩)) (b := 16) (T := 79) (E := 9) (x := (.tmp 30)) (y := (.tmp 30)) (k1 := .i64) (k2 := .i64) (iz := (if (IntKind.wrap .i64 (((List.length p1 : Nat) : Int) + 1)) < f then (IntKind.wrap .i64 (((List.length p1 : Nat) : Int) + 1)) else f)) (d := (some 31)) (k := 1) K rfl K K K K K rfl rfl rfl hl30 e2 hyl29 ?_
    intro b7 w32 c3 g6
    have e3 : SP [] w0 w32 [Q6 9 Ql (some ⟨b7, 0, none⟩) (Int.toNat (if (IntKind.wrap .i64 (((List.length p1 : Nat) : Int) + 1)) < f then (IntKind.wrap .i64 (((List.length p1 : Nat) : Int) + 1)) else f)) a8] := c3
    clear c3
    refine iR 1 3 [(9, (.slice (some ⟨b7, 0, none⟩) (List.length a8) (Int.toNat (if (IntKind.wrap .i64 (((List.length p1 : Nat) : Int) + 1)) < f then (IntKind.wrap .i64 (((List.length p1 : Nat) : Int) + 1)) else f))))] ?_
    refine iF ?_
    refine aQ ?_
    refine aR ?_
    refine iR 3 3 [(32, (.int .i64 (if (IntKind.wrap .i64 (((List.length p1 : Nat) : Int) + 1)) < f then (IntKind.wrap .i64 (((List.length p1 : Nat) : Int) + 1)) else f))), (33, (.int .i64 (IntKind.wrap .i64 ((if (IntKind.wrap .i64 (((List.length p1 : Nat) : Int) + 1)) < f then (IntKind.wrap .i64 (((List.length p1 : Nat) : Int) + 1)) else f) - 1)))), (3, (.int .i64 (IntKind.wrap .i64 ((if (IntKind.wrap .i64 (((List.length p1 : Nat) : Int) + 1)) < f then (IntKind.wrap .i64 (((List.length p1 : Nat) : Int) + 1)) else f) - 1))))] ?_
    refine iF ?_
    refine aQ ?_
    refine aR ?_
    refine iR 1 1 [(10, (.int .i64 0))] ?_
    refine iF ?_
    refine aQ ?_
    refine At.join (fun ρ w => ∃ (a4 : (List UInt8)) (a3 : (List (List UInt8))) (a2 : Int) (q : Option Addr) (g : Nat), Zm ρ [(0, (.string ⟨List.toArray a4⟩)), (9, (.slice q (List.length a3) g)), (10, (.int .i64 a2))] ∧ SP [] w0 w [Q6 9 Ql q g a3] ∧ Zv a4 a3 a2 = some r) ?_ ?_
    ·refine Y0 K (id := 0) K ?_
     refine G3 K (fun f4 ρ w => ∃ (h : (List UInt8)) (s : (List (List UInt8))) (p : Int) (u : Option Addr) (a0 : Nat), Zm ρ [(0, (.string ⟨List.toArray h⟩)), (1, (.string ⟨List.toArray p2⟩)), (2, (.int .i64 p3)), (3, (.int .i64 (IntKind.wrap .i64 ((if (IntKind.wrap .i64 (((List.length p1 : Nat) : Int) + 1)) < f then (IntKind.wrap .i64 (((List.length p1 : Nat) : Int) + 1)) else f) - 1)))), (9, (.slice u (List.length s) a0)), (10, (.int .i64 p))] ∧ SP [] w0 w [Q6 9 Ql u a0 s] ∧ Zw p1 p2 p3 f f4 h s p = some r) (by rintro ρ w ⟨h, s, p, u, a0, hk, hs, H⟩; cases H) ?_ Xx ?_
     ·rintro f4 ρ e4 ⟨h, s, p, u, a0, hk, c4, H⟩
      refine At.known [(0, (.string ⟨List.toArray h⟩)), (1, (.string ⟨List.toArray p2⟩)), (2, (.int .i64 p3)), (3, (.int .i64 (IntKind.wrap .i64 ((if (IntKind.wrap .i64 (((List.length p1 : Nat) : Int) + 1)) < f then (IntKind.wrap .i64 (((List.length p1 : Nat) : Int) + 1)) else f) - 1)))), (9, (.slice u (List.length s) a0)), (10, (.int .i64 p))] hk ?_
      replace H := (show Xl (Zw p1 p2 p3 f f4) p1 p2 p3 f h s p = some r from H)
      unfold Xl at H
      refine aQ ?_
      refine aQ ?_
      refine aR ?_
      refine iR 3 3 [(34, (.int .i64 p)), (35, (.int .i64 (IntKind.wrap .i64 ((if (IntKind.wrap .i64 (((List.length p1 : Nat) : Int) + 1)) < f then (IntKind.wrap .i64 (((List.length p1 : Nat) : Int) + 1)) else f) - 1)))), (36, (.bool (decide (p < (IntKind.wrap .i64 ((if (IntKind.wrap .i64 (((List.length p1 : Nat) : Int) + 1)) < f then (IntKind.wrap .i64 (((List.length p1 : Nat) : Int) + 1)) else f) - 1))))))] ?_
      refine iF ?_
      refine Xe K (o := (.tmp 36)) K (b := (decide (p < (IntKind.wrap .i64 ((if (IntKind.wrap .i64 (((List.length p1 : Nat) : Int) + 1)) < f then (IntKind.wrap .i64 (((List.length p1 : Nat) : Int) + 1)) else f) - 1))))) K (fun b8 => ?_) (fun b8 => ?_)
      ·have H := ct H b8
       refine At.skip K ?_
       refine Y0 K (id := 1) K ?_
       refine aQ ?_
       refine aR ?_
       refine iR 2 2 [(37, (.string ⟨List.toArray h⟩)), (38, (.string ⟨List.toArray p2⟩))] ?_
       obtain ⟨a1, e5, H⟩ := Qd H
       refine iS 3 ?_
       refine cF 156 #[(.tmp 37), (.tmp 38)] #[9, 9] 39 Tryz.call156 (Dk  h p2 e4  a1 e5) ?_
       rintro e g7 ⟨rfl, c5⟩
       refine ⟨_, rfl, ?_⟩
       have b9 := SP.call c4 c5
       clear c5
       refine iR 1 4 [(11, (.int .i64 a1))] ?_
       refine iF ?_
       refine aQ ?_
       refine aQ ?_
       refine aR ?_
       refine iR 2 2 [(40, (.int .i64 a1)), (41, (.bool (decide (a1 < 0))))] ?_
       refine iF ?_
       refine Xe K (o := (.tmp 41)) K (b := (decide (a1 < 0))) K (fun c0 => ?_) (fun c0 => ?_)
       ·have H := ct H c0
        refine At.exit K (id := 0) K ?_
        exact ⟨h, s, p, u, a0, ⟨K, K, K, trivial⟩, SP.sel b9 [0] rfl rfl, H⟩
       ·have H := cf H c0
        refine At.skip K ?_
        refine aQ ?_
        refine aR ?_
        refine iR 6 6 [(42, (.slice u (List.length s) a0)), (43, (.int .i64 p)), (44, (.string ⟨List.toArray h⟩)), (45, (.int .i64 a1)), (46, (.int .i64 p3)), (47, (.int .i64 (IntKind.wrap .i64 (a1 + p3))))] ?_
        obtain ⟨e6, e7, e8, H⟩ := G4 H
        obtain ⟨c7, hyl303⟩ : ∃ y, (List.drop (Int.toNat 0) (List.take (Int.toNat (IntKind.wrap .i64 (a1 + p3))) h)) = y := ⟨_, rfl⟩
        rw [hyl303] at H
        refine iS 7 ?_
        refine Ju (a := h) (T := 9) (x := (.tmp 44)) (lo := none) (hi := (some (.tmp 47))) (i := 0) (j := (IntKind.wrap .i64 (a1 + p3))) (d := (some 48)) (k := 6) K rfl K K rfl ⟨.i64, K⟩ e6 e7 e8 ?_
        rw [hyl303]
        obtain ⟨g8, c8, c9, g9, H⟩ := Ve H
        refine iS 8 ?_
        refine Qn (e := Ql) (l := s) (A := u) (c := a0) (T := 79) (E := 9) (x := (.tmp 42)) (ix := (.tmp 43)) (ki := .i64) (iz := p) (d := (some 49)) (k := 7) K rfl K K K K (Vg (SP.get b9 (i := 0) rfl)) c8 c9 ?_
        intro e9 f0 f1 h1 hc310
        obtain ⟨a9, hyl313, H⟩ := Zs H
        have hnl313 : List.length a9 = List.length s := by rw [← hyl313, List.length_set]
        refine iS 9 ?_
        refine J3 (e := Ql) (t := 9) (E := 9) (x := (.tmp 49)) (y := (.tmp 48)) (A := u) (c := a0) (l := s) (iz := p) (b := e9) (off := f0) (i := 0) (v := (.string ⟨List.toArray c7⟩)) (x' := c7) (d := none) (k := 8) K rfl K K b9 rfl f1 rfl c9 c8 rfl K ?_
        rw [hyl313]
        intro h2 f2
        refine In.known [(9, (.slice u (List.length a9) a0)), (42, (.slice u (List.length a9) a0))] ⟨(by rw [hnl313]; kernel_rfl), (by rw [hnl313]; kernel_rfl), trivial⟩ ?_
        refine iF ?_
        refine aQ ?_
        refine aR ?_
        refine iR 5 5 [(50, (.string ⟨List.toArray h⟩)), (51, (.int .i64 a1)), (52, (.string ⟨List.toArray p2⟩)), (53, (.int .i64 ((List.length p2 : Nat) : Int))), (54, (.int .i64 (IntKind.wrap .i64 (a1 + ((List.length p2 : Nat) : Int)))))] ?_
        obtain ⟨f3, f5, f6, H⟩ := G4 H
        obtain ⟨d0, hyl320⟩ : ∃ y, (List.drop (Int.toNat (IntKind.wrap .i64 (a1 + ((List.length p2 : Nat) : Int)))) (List.take (Int.toNat ((List.length h : Nat) : Int)) h)) = y := ⟨_, rfl⟩
        rw [hyl320] at H
        refine iS 6 ?_
        refine Ju (a := h) (T := 9) (x := (.tmp 50)) (lo := (some (.tmp 54))) (hi := none) (i := (IntKind.wrap .i64 (a1 + ((List.length p2 : Nat) : Int)))) (j := ((List.length h : Nat) : Int)) (d := (some 55)) (k := 5) K rfl K K ⟨.i64, K⟩ rfl f3 f5 f6 ?_
        rw [hyl320]
        refine iR 1 7 [(0, (.string ⟨List.toArray d0⟩))] ?_
        refine iF ?_
        refine aR ?_
        refine iR 3 3 [(56, (.int .i64 p)), (57, (.int .i64 (IntKind.wrap .i64 (p + 1)))), (10, (.int .i64 (IntKind.wrap .i64 (p + 1))))] ?_
        refine iF ?_
        exact ⟨d0, a9, (IntKind.wrap .i64 (p + 1)), u, a0, ⟨K, K, K, K, K, K, trivial⟩, SP.sel f2 [0] rfl rfl, H⟩
      ·have H := cf H b8
       refine At.exit K (id := 0) K ?_
       exact ⟨h, s, p, u, a0, ⟨K, K, K, trivial⟩, SP.sel c4 [0] rfl rfl, H⟩
     ·exact ⟨p1, a8, 0, (some ⟨b7, 0, none⟩), (Int.toNat (if (IntKind.wrap .i64 (((List.length p1 : Nat) : Int) + 1)) < f then (IntKind.wrap .i64 (((List.length p1 : Nat) : Int) + 1)) else f)), ⟨K, K, K, K, K, K, trivial⟩, SP.sel e3 [0] rfl rfl, H⟩
    ·rintro ρ h3 ⟨a4, a3, a2, q, g, hk, d1, H⟩
     unfold Zv at H
     first | refine At.known [(0, (.string ⟨List.toArray a4⟩)), (9, (.slice q (List.length a3) g)), (10, (.int .i64 a2))] hk ?_ | rw [← Q3 (l := [(0, (.string ⟨List.toArray a4⟩)), (9, (.slice q (List.length a3) g)), (10, (.int .i64 a2))]) hk]
     refine aQ ?_
     refine aR ?_
     refine iR 3 3 [(58, (.slice q (List.length a3) g)), (59, (.int .i64 a2)), (60, (.string ⟨List.toArray a4⟩))] ?_
     obtain ⟨h4, d2, d3, h5, H⟩ := Ve H
     refine iS 4 ?_
     refine Qn (e := Ql) (l := a3) (A := q) (c := g) (T := 79) (E := 9) (x := (.tmp 58)) (ix := (.tmp 59)) (ki := .i64) (iz := a2) (d := (some 61)) (k := 3) K rfl K K K K (Vg (SP.get d1 (i := 0) rfl)) d2 d3 ?_
     intro f7 f8 f9 h6 hc179
     obtain ⟨a5, hyl182, H⟩ := Zs H
     have hnl182 : List.length a5 = List.length a3 := by rw [← hyl182, List.length_set]
     refine iS 5 ?_
     refine J3 (e := Ql) (t := 9) (E := 9) (x := (.tmp 61)) (y := (.tmp 60)) (A := q) (c := g) (l := a3) (iz := a2) (b := f7) (off := f8) (i := 0) (v := (.string ⟨List.toArray a4⟩)) (x' := a4) (d := none) (k := 4) K rfl K K d1 rfl f9 rfl d3 d2 rfl K ?_
     rw [hyl182]
     intro g0 d4
     refine In.known [(9, (.slice q (List.length a5) g)), (58, (.slice q (List.length a5) g))] ⟨(by rw [hnl182]; kernel_rfl), (by rw [hnl182]; kernel_rfl), trivial⟩ ?_
     refine iF ?_
     refine aQ ?_
     refine aR ?_
     refine iR 3 3 [(62, (.slice q (List.length a5) g)), (63, (.int .i64 a2)), (64, (.int .i64 (IntKind.wrap .i64 (a2 + 1))))] ?_
     obtain ⟨g1, d5, d6, H⟩ := G4 H
     obtain ⟨b0, hyl189⟩ : ∃ y, (List.drop (Int.toNat 0) (List.take (Int.toNat (IntKind.wrap .i64 (a2 + 1))) a5)) = y := ⟨_, rfl⟩
     rw [hyl189] at H
     refine iS 4 ?_
     refine Iu (e := Ql) (l := a5) (m := b0) (A := q) (c := g) (T := 79) (E := 9) (x := (.tmp 62)) (lo := none) (hi := (some (.tmp 64))) (i := 0) (j := (IntKind.wrap .i64 (a2 + 1))) (d := (some 65)) (k := 3) K rfl K K K rfl ⟨.i64, K⟩ (RdX.le (Vg (SP.get d4 (i := 0) rfl))) g1 d5 d6 hyl189 ?_
     refine iR 1 5 [(8, (.slice (Ly Ql.sz g (Int.toNat 0) q) (List.length b0) (g - Int.toNat 0)))] ?_
     refine iF ?_
     refine At.ret K ?_
     have g2 : SP [] w0 g0 [Q6 9 Ql (Ly Ql.sz g (Int.toNat 0) q) (g - Int.toNat 0) b0] := SP.cutrow d4 (i := 0) rfl d5 d6 hyl189
     refine ⟨(.slice (Ly Ql.sz g (Int.toNat 0) q) (List.length b0) (g - Int.toNat 0)), K, ?_⟩
     obtain rfl := Qg H
     exact ⟨(Ly Ql.sz g (Int.toNat 0) q), (g - Int.toNat 0), rfl, SP.sel g2 [0] rfl rfl⟩
def Jr (p1 : (List UInt8)) (p2 : (List UInt8)) : Option ((List (List UInt8))) :=
  ((Jl p1 p2 0 (-1)).bind fun z5 => (some (z5)))
set_option maxHeartbeats 40000000 in
theorem Dl  (p1 : (List UInt8)) (p2 : (List UInt8)) (w0 : World)  (r : ((List (List UInt8)))) (H : Jr p1 p2 = some r) :
  Calls Tryz.prog 67 #[(.string ⟨List.toArray p1⟩), (.string ⟨List.toArray p2⟩)] w0 (fun e w' => ∃ (A3 : Option Addr) (c4 : Nat), e = .returned (.slice A3 (List.length r) c4) ∧ SP [] w0 w' [Q6 9 Ql A3 c4 r]) := by
 unfold Jr at H
 refine Qv (n := 8) Tryz.func67 K K K ?_
 have c := Q1 [] w0
 refine aQ ?_
 refine aR ?_
 refine iR 1 1 [(4, (.slice none (List.length ([] : List (List UInt8))) 0))] ?_
 refine iF ?_
 refine aQ ?_
 refine aR ?_
 refine iR 2 2 [(5, (.string ⟨List.toArray p1⟩)), (6, (.string ⟨List.toArray p2⟩))] ?_
 obtain ⟨z5, d, H⟩ := Qd H
 refine iS 3 ?_
 refine cF 111 #[(.tmp 5), (.tmp 6), (.const (.int .i64 (0))), (.const (.int .i64 (-1)))] #[9, 9, 3, 3] 7 Tryz.call111 (Rb  p1 p2 0 (-1) w0  z5 d) ?_
 rintro e w7 ⟨A9, a, rfl, b⟩
 refine ⟨_, rfl, ?_⟩
 have f := SP.call c b
 clear b
 refine iR 1 4 [(4, (.slice A9 (List.length z5) a))] ?_
 refine iF ?_
 refine At.ret K ?_
 refine ⟨(.slice A9 (List.length z5) a), K, ?_⟩
 obtain rfl := Qg H
 exact ⟨A9, a, rfl, SP.sel f [0] rfl rfl⟩
def Vp (v8 : Bool) : Option (Bool) :=
  (some (v8))
def Vy (p1 : (List UInt8)) (p2 : (List UInt8)) : Option (Bool) :=
  (cond (decide (((List.length p1 : Nat) : Int) ≥ ((List.length p2 : Nat) : Int))) ((sub p1 (IntKind.wrap .i64 (((List.length p1 : Nat) : Int) - ((List.length p2 : Nat) : Int))) ((List.length p1 : Nat) : Int)).bind fun a => (Vp (a == p2))) (Vp false))
set_option maxHeartbeats 40000000 in
theorem J0  (p1 : (List UInt8)) (p2 : (List UInt8)) (w0 : World)  (r : (Bool)) (H : Vy p1 p2 = some r) :
  Calls Tryz.prog 163 #[(.string ⟨List.toArray p1⟩), (.string ⟨List.toArray p2⟩)] w0 (fun e w' => e = .returned (.bool r) ∧ SP [] w0 w' []) := by
 unfold Vy at H
 refine Qv (n := 21) Tryz.func163 K K K ?_
 have g := Q1 [] w0
 refine aQ ?_
 refine aR ?_
 refine iR 1 1 [(4, (.bool false))] ?_
 refine iF ?_
 refine aQ ?_
 refine At.join (fun ρ w => ∃ (v8 : Bool), Zm ρ [(4, (.bool v8))] ∧ SP [] w0 w [] ∧ Vp v8 = some r) ?_ ?_
 ·refine aR ?_
  refine iR 6 6 [(5, (.string ⟨List.toArray p1⟩)), (6, (.int .i64 ((List.length p1 : Nat) : Int))), (7, (.string ⟨List.toArray p2⟩)), (8, (.int .i64 ((List.length p2 : Nat) : Int))), (9, (.bool (decide (((List.length p1 : Nat) : Int) ≥ ((List.length p2 : Nat) : Int))))), (10, (.bool (decide (((List.length p1 : Nat) : Int) ≥ ((List.length p2 : Nat) : Int)))))] ?_
  refine In.guard (t := 10) (b := (decide (((List.length p1 : Nat) : Int) ≥ ((List.length p2 : Nat) : Int)))) K (fun f => ?_) (fun f => ?_)
  ·have H := ct H f
   refine iR 6 12 [(11, (.string ⟨List.toArray p1⟩)), (12, (.string ⟨List.toArray p1⟩)), (13, (.int .i64 ((List.length p1 : Nat) : Int))), (14, (.string ⟨List.toArray p2⟩)), (15, (.int .i64 ((List.length p2 : Nat) : Int))), (16, (.int .i64 (IntKind.wrap .i64 (((List.length p1 : Nat) : Int) - ((List.length p2 : Nat) : Int)))))] ?_
   obtain ⟨h, m, o, H⟩ := G4 H
   obtain ⟨c, hyl15⟩ : ∃ y, (List.drop (Int.toNat (IntKind.wrap .i64 (((List.length p1 : Nat) : Int) - ((List.length p2 : Nat) : Int)))) (List.take (Int.toNat ((List.length p1 : Nat) : Int)) p1)) = y := ⟨_, rfl⟩
   rw [hyl15] at H
   refine iS 13 ?_
   refine Ju (a := p1) (T := 9) (x := (.tmp 11)) (lo := (some (.tmp 16))) (hi := none) (i := (IntKind.wrap .i64 (((List.length p1 : Nat) : Int) - ((List.length p2 : Nat) : Int)))) (j := ((List.length p1 : Nat) : Int)) (d := (some 17)) (k := 12) K rfl K K ⟨.i64, K⟩ rfl h m o ?_
   rw [hyl15]
   refine iR 1 14 [(18, (.string ⟨List.toArray p2⟩))] ?_
   refine iS 15 ?_
   refine Xp (op := .eql) (T := 9) (T' := 9) (x := (.tmp 17)) (y := (.tmp 18)) (a := c) (b := p2) (r := (.bool (c == p2))) (d := (some 19)) (k := 14) K rfl K K rfl ?_
   refine iR 2 17 [(20, (.bool (c == p2))), (4, (.bool (c == p2)))] ?_
   refine iF ?_
   exact ⟨(c == p2), ⟨K, trivial⟩, SP.sel g [] rfl rfl, H⟩
  ·have H := cf H f
   refine iR 11 17 [(11, undef), (12, undef), (13, undef), (14, undef), (15, undef), (16, undef), (17, undef), (18, undef), (19, undef), (20, (.bool false)), (4, (.bool false))] ?_
   refine iF ?_
   exact ⟨false, ⟨K, trivial⟩, SP.sel g [] rfl rfl, H⟩
 ·rintro ρ w9 ⟨v8, hk, p, H⟩
  unfold Vp at H
  first | refine At.known [(4, (.bool v8))] hk ?_ | rw [← Q3 (l := [(4, (.bool v8))]) hk]
  refine At.ret K ?_
  refine ⟨(.bool v8), K, ?_⟩
  obtain rfl := Qg H
  exact ⟨rfl, SP.sel p [] rfl rfl⟩
def Zc (p1 : (List UInt8)) (p2 : (List UInt8)) : Option ((List UInt8) × Bool) :=
  ((Vy p1 p2).bind fun z3 => (cond (!z3) (some (p1, false)) ((sub p1 0 (IntKind.wrap .i64 (((List.length p1 : Nat) : Int) - ((List.length p2 : Nat) : Int)))).bind fun a => (some (a, true)))))
set_option maxHeartbeats 40000000 in
theorem J1  (p1 : (List UInt8)) (p2 : (List UInt8)) (w0 : World)  (r : ((List UInt8) × Bool)) (H : Zc p1 p2 = some r) :
  Calls Tryz.prog 141 #[(.string ⟨List.toArray p1⟩), (.string ⟨List.toArray p2⟩)] w0 (fun e w' => e = .returned (.tuple #[(.string ⟨List.toArray r.1⟩), (.bool r.2)]) ∧ SP [] w0 w' []) := by
 unfold Zc at H
 refine Qv (n := 18) Tryz.func141 K K K ?_
 have l := Q1 [] w0
 refine aQ ?_
 refine aR ?_
 refine iR 2 2 [(4, (.string ⟨List.toArray ([] : List UInt8)⟩)), (5, (.bool false))] ?_
 refine iF ?_
 refine aQ ?_
 refine aQ ?_
 refine aR ?_
 refine iR 2 2 [(6, (.string ⟨List.toArray p1⟩)), (7, (.string ⟨List.toArray p2⟩))] ?_
 obtain ⟨z3, m, H⟩ := Qd H
 refine iS 3 ?_
 refine cF 163 #[(.tmp 6), (.tmp 7)] #[9, 9] 8 Tryz.call163 (J0  p1 p2 w0  z3 m) ?_
 rintro e w5 ⟨rfl, f⟩
 refine ⟨_, rfl, ?_⟩
 have g := SP.call l f
 clear f
 refine iR 1 4 [(9, (.bool (!z3)))] ?_
 refine iF ?_
 refine Xe K (o := (.tmp 9)) K (b := (!z3)) K (fun c => ?_) (fun c => ?_)
 ·have H := ct H c
  refine aQ ?_
  refine aR ?_
  refine iR 3 3 [(10, (.string ⟨List.toArray p1⟩)), (4, (.string ⟨List.toArray p1⟩)), (5, (.bool false))] ?_
  refine iF ?_
  refine At.ret K ?_
  refine ⟨(.tuple #[(.string ⟨List.toArray p1⟩), (.bool false)]), K, ?_⟩
  obtain rfl := Qg H
  exact ⟨rfl, SP.sel g [] rfl rfl⟩
 ·have H := cf H c
  refine At.skip K ?_
  refine aQ ?_
  refine aR ?_
  refine iR 6 6 [(11, (.string ⟨List.toArray p1⟩)), (12, (.string ⟨List.toArray p1⟩)), (13, (.int .i64 ((List.length p1 : Nat) : Int))), (14, (.string ⟨List.toArray p2⟩)), (15, (.int .i64 ((List.length p2 : Nat) : Int))), (16, (.int .i64 (IntKind.wrap .i64 (((List.length p1 : Nat) : Int) - ((List.length p2 : Nat) : Int)))))] ?_
  obtain ⟨p, q, s, H⟩ := G4 H
  obtain ⟨h, hyl13⟩ : ∃ y, (List.drop (Int.toNat 0) (List.take (Int.toNat (IntKind.wrap .i64 (((List.length p1 : Nat) : Int) - ((List.length p2 : Nat) : Int)))) p1)) = y := ⟨_, rfl⟩
  rw [hyl13] at H
  refine iS 7 ?_
  refine Ju (a := p1) (T := 9) (x := (.tmp 11)) (lo := none) (hi := (some (.tmp 16))) (i := 0) (j := (IntKind.wrap .i64 (((List.length p1 : Nat) : Int) - ((List.length p2 : Nat) : Int)))) (d := (some 17)) (k := 6) K rfl K K rfl ⟨.i64, K⟩ p q s ?_
  rw [hyl13]
  refine iR 2 9 [(4, (.string ⟨List.toArray h⟩)), (5, (.bool true))] ?_
  refine iF ?_
  refine At.ret K ?_
  refine ⟨(.tuple #[(.string ⟨List.toArray h⟩), (.bool true)]), K, ?_⟩
  obtain rfl := Qg H
  exact ⟨rfl, SP.sel g [] rfl rfl⟩
def X7 (p1 : (List UInt8)) (p2 : (List UInt8)) : Option ((List UInt8) × Bool) :=
  ((Zc p1 p2).bind fun z3 => (some (z3.1, z3.2)))
set_option maxHeartbeats 40000000 in
theorem Gv  (p1 : (List UInt8)) (p2 : (List UInt8)) (w0 : World)  (r : ((List UInt8) × Bool)) (H : X7 p1 p2 = some r) :
  Calls Tryz.prog 90 #[(.string ⟨List.toArray p1⟩), (.string ⟨List.toArray p2⟩)] w0 (fun e w' => e = .returned (.tuple #[(.string ⟨List.toArray r.1⟩), (.bool r.2)]) ∧ SP [] w0 w' []) := by
 unfold X7 at H
 refine Qv (n := 11) Tryz.func90 K K K ?_
 have b := Q1 [] w0
 refine aQ ?_
 refine aR ?_
 refine iR 2 2 [(4, (.string ⟨List.toArray ([] : List UInt8)⟩)), (5, (.bool false))] ?_
 refine iF ?_
 refine aQ ?_
 refine aR ?_
 refine iR 2 2 [(6, (.string ⟨List.toArray p1⟩)), (7, (.string ⟨List.toArray p2⟩))] ?_
 obtain ⟨z3, c, H⟩ := Qd H
 refine iS 3 ?_
 refine cF 141 #[(.tmp 6), (.tmp 7)] #[9, 9] 8 Tryz.call141 (J1  p1 p2 w0  z3 c) ?_
 rintro e w5 ⟨rfl, a⟩
 refine ⟨_, rfl, ?_⟩
 have d := SP.call b a
 clear a
 refine iR 4 7 [(9, (.string ⟨List.toArray z3.1⟩)), (10, (.bool z3.2)), (4, (.string ⟨List.toArray z3.1⟩)), (5, (.bool z3.2))] ?_
 refine iF ?_
 refine At.ret K ?_
 refine ⟨(.tuple #[(.string ⟨List.toArray z3.1⟩), (.bool z3.2)]), K, ?_⟩
 obtain rfl := Qg H
 exact ⟨rfl, SP.sel d [] rfl rfl⟩
end Go.Proofs.YtoflbpmbkmephaaGreatDoor
namespace Go.Proofs.YtoflbpmbkmephaaGreatDoor
open Go.RowKit
theorem D3 (c : UInt8) : ∀ s : List UInt8, (Qx c s).length = s.count c + 1
  | [] => rfl
  | x :: r => by
    have ih := D3 c r
    unfold Qx
    by_cases h : x = c
    · subst h
      rw [if_pos rfl, List.length_cons, ih, List.count_cons_self]
    · rw [if_neg h, List.count_cons_of_ne h]
      cases hs : Qx c r with
      | nil => exact absurd hs (Yw c r)
      | cons p ps => rw [hs] at ih; simpa using ih
theorem lIndex (s : List UInt8) (c : UInt8) : Uo s [c] = some (Lib.indexByte s c) := rfl
theorem Kl {α : Type} (l : List α) (n : Nat) (x z : α) (h : 0 < n) : (l ++ List.replicate n z).set l.length x = l ++ x :: List.replicate (n - 1) z := by
  obtain ⟨m, rfl⟩ : ∃ m, n = m + 1 := ⟨n - 1, by omega⟩
  simp [List.replicate_succ]
theorem Km {α : Type} (l : List α) (n : Nat) (z : α) (h : 0 < n) : (l ++ List.replicate n z)[l.length]? = some z := by
  obtain ⟨m, rfl⟩ : ∃ m, n = m + 1 := ⟨n - 1, by omega⟩
  simp [List.replicate_succ]
theorem split_end (done : List (List UInt8)) (r : List UInt8) (m : Nat) (hm : 0 < m) (hl : done.length + m ≤ 2000000) :
    Zv r (done ++ List.replicate m []) ((done.length : Nat) : Int) = some (done ++ [r]) := by
  unfold Zv
  rw [Dy, Km done m [] hm]
  simp only [Option.bind_some, Int.toNat_natCast]
  rw [Kl done m r [] hm, show IntKind.wrap .i64 (((done.length : Nat) : Int) + 1) = ((done.length + 1 : Nat) : Int) by rw [Jk (by omega)]; omega]
  have := Dz (done ++ r :: List.replicate (m - 1) []) (i := 0) (j := done.length + 1) (by omega) (by simp)
  rw [show ((0 : Nat) : Int) = 0 from rfl] at this
  rw [this, List.drop_zero, show done ++ r :: List.replicate (m - 1) [] = (done ++ [r]) ++ List.replicate (m - 1) [] by simp, List.take_left' (by simp)]
  rfl
theorem Lh (s : List UInt8) (c : UInt8) (M : Int) (hs : s.length ≤ 1000000) : ∀ (m : Nat) (r : List UInt8) (done : List (List UInt8)) (f : Nat), r.length ≤ 1000000 → (Qx c r).length = m → m < f → done.length + m ≤ 2000000 → M = ((done.length + m : Nat) : Int) →
    Zw s [c] 0 M f r (done ++ List.replicate m []) ((done.length : Nat) : Int) = some (done ++ Qx c r) ∨ ¬ (M ≤ ((s.length : Nat) : Int) + 1) := by
  intro m
  induction m with
  | zero =>
    intro r done f hr hm
    have := Yw c r
    simp at hm
    exact absurd hm this
  | succ m ih =>
    intro r done f hr hm hf hd hM
    by_cases hle : M ≤ ((s.length : Nat) : Int) + 1
    · left
      obtain ⟨f, rfl⟩ : ∃ g, f = g + 1 := ⟨f - 1, by omega⟩
      show Xl (Zw s [c] 0 M f) s [c] 0 M _ _ _ = _
      unfold Xl
      have hif : (if IntKind.wrap .i64 (((s.length : Nat) : Int) + 1) < M then IntKind.wrap .i64 (((s.length : Nat) : Int) + 1) else M) = M := by
        rw [Jk (by omega), if_neg (by omega)]
      rw [hif, hM, show IntKind.wrap .i64 (((done.length + (m + 1) : Nat) : Int) - 1) = ((done.length + m : Nat) : Int) by rw [Jk (by omega)]; omega]
      rcases Jq c r with ⟨h1, h2, h3⟩ | ⟨i, h1, h2, h3, h4, h5⟩
      · rw [h2] at hm
        have : m = 0 := by simpa using hm.symm
        subst this
        rw [show decide (((done.length : Nat) : Int) < ((done.length + 0 : Nat) : Int)) = false by rw [decide_eq_false_iff_not]; omega, h2]
        exact split_end done r 1 (by omega) (by omega)
      · rw [h5, List.length_cons] at hm
        have hm' : (Qx c (r.drop (i + 1))).length = m := by omega
        have hpos : 0 < m := by
          have := Yw c (r.drop (i + 1))
          have : 0 < (Qx c (r.drop (i + 1))).length := List.length_pos_iff.2 this
          omega
        rw [show decide (((done.length : Nat) : Int) < ((done.length + m : Nat) : Int)) = true by rw [decide_eq_true_eq]; omega, lIndex, h1]
        simp only [cond_true, Option.bind_some]
        rw [show decide ((i : Int) < 0) = false by rw [decide_eq_false_iff_not]; omega, Int.add_zero, J5 (by omega)]
        have s1 := Dz r (i := 0) (j := i) (by omega) (by omega)
        rw [show ((0 : Nat) : Int) = 0 from rfl] at s1
        have s2 := Dz r (i := i + 1) (j := r.length) (by omega) (by omega)
        rw [s1, Dy, Km done (m + 1) [] (by omega), show IntKind.wrap .i64 ((i : Int) + ((([c] : List UInt8).length : Nat) : Int)) = ((i + 1 : Nat) : Int) by rw [Jk (by simp; omega)]; simp, s2]
        simp only [cond_false, Option.bind_some, Int.toNat_natCast, List.drop_zero, List.take_length]
        rw [Kl done (m + 1) _ [] (by omega), show IntKind.wrap .i64 (((done.length : Nat) : Int) + 1) = ((done.length + 1 : Nat) : Int) by rw [Jk (by omega)]; omega]
        have := ih (r.drop (i + 1)) (done ++ [r.take i]) f (by rw [List.length_drop]; omega) hm' (by omega) (by simp; omega) (by rw [hM]; simp; omega)
        rcases this with this | this
        · rw [List.length_append, List.append_assoc] at this
          rw [show m + 1 - 1 = m by omega, h5, ← hM]
          refine Eq.trans ?_ (this.trans ?_)
          · rfl
          · simp
        · exact absurd hle this
    · exact .inr hle
theorem lSplit (s : List UInt8) (c : UInt8) (hs : s.length ≤ 1000000) : Jr s [c] = some (Qx c s) := by
  unfold Jr Jl
  have hc := D3 c s
  have hcl : s.count c ≤ s.length := List.count_le_length
  simp only [Um, Lib.countByte]
  rw [show ((-1 : Int) == 0) = false from rfl, show (([c] : List UInt8) == []) = false from rfl, show decide ((-1 : Int) < 0) = true from rfl]
  simp only [cond_false, cond_true, Option.bind_some]
  rw [show IntKind.wrap .i64 (((s.count c : Nat) : Int) + 1) = (((Qx c s).length : Nat) : Int) by rw [Jk (by omega), hc]; omega]
  unfold Xm
  have hif : (if IntKind.wrap .i64 (((s.length : Nat) : Int) + 1) < (((Qx c s).length : Nat) : Int) then IntKind.wrap .i64 (((s.length : Nat) : Int) + 1) else (((Qx c s).length : Nat) : Int)) = (((Qx c s).length : Nat) : Int) := by
    rw [Jk (by omega), if_neg (by omega)]
  rw [hif, show decide (0 ≤ (((Qx c s).length : Nat) : Int) ∧ (((Qx c s).length : Nat) : Int) ≤ 2147483648) = true by rw [decide_eq_true_eq]; omega]
  simp only [chk, Option.bind_some, Int.toNat_natCast]
  have := Lh s c (((Qx c s).length : Nat) : Int) hs (Qx c s).length s [] Xx (by omega) rfl (by unfold Xx; omega) (by simp; omega) (by simp)
  rcases this with this | this
  · rw [List.nil_append, List.nil_append] at this
    rw [show ((([] : List (List UInt8)).length : Nat) : Int) = 0 from rfl] at this
    rw [this]
    rfl
  · omega
end Go.Proofs.YtoflbpmbkmephaaGreatDoor
namespace Go.Proofs.YtoflbpmbkmephaaGreatDoor
open Go.RowKit
def Xg (p1 : (List UInt8)) (p2 : (List UInt8)) : Option ((List UInt8) × (List UInt8) × Bool) :=
  ((V9 p1 p2).bind fun z3 => (cond (decide (z3 ≥ 0)) ((sub p1 0 z3).bind fun a => ((sub p1 (IntKind.wrap .i64 (z3 + ((List.length p2 : Nat) : Int))) ((List.length p1 : Nat) : Int)).bind fun b => (some (a, b, true)))) (some (p1, ([] : List UInt8), false))))
set_option maxHeartbeats 40000000 in
theorem U3  (p1 : (List UInt8)) (p2 : (List UInt8)) (w0 : World)  (r : ((List UInt8) × (List UInt8) × Bool)) (H : Xg p1 p2 = some r) :
  Calls Tryz.prog 160 #[(.string ⟨List.toArray p1⟩), (.string ⟨List.toArray p2⟩)] w0 (fun e w' => e = .returned (.tuple #[(.string ⟨List.toArray r.1⟩), (.string ⟨List.toArray r.2.1⟩), (.bool r.2.2)]) ∧ SP [] w0 w' []) := by
 unfold Xg at H
 refine Qv (n := 23) Tryz.func160 K K K ?_
 have s := Q1 [] w0
 refine aQ ?_
 refine aR ?_
 refine iR 3 3 [(4, (.string ⟨List.toArray ([] : List UInt8)⟩)), (5, (.string ⟨List.toArray ([] : List UInt8)⟩)), (6, (.bool false))] ?_
 refine iF ?_
 refine aQ ?_
 refine aQ ?_
 refine aR ?_
 refine iR 2 2 [(8, (.string ⟨List.toArray p1⟩)), (9, (.string ⟨List.toArray p2⟩))] ?_
 obtain ⟨z3, t, H⟩ := Qd H
 refine iS 3 ?_
 refine cF 182 #[(.tmp 8), (.tmp 9)] #[9, 9] 10 Tryz.call182 (Ym  p1 p2 w0  z3 t) ?_
 rintro e w5 ⟨rfl, m⟩
 refine ⟨_, rfl, ?_⟩
 have p := SP.call s m
 clear m
 refine iR 1 4 [(7, (.int .i64 z3))] ?_
 refine iF ?_
 refine aQ ?_
 refine aR ?_
 refine iR 2 2 [(11, (.int .i64 z3)), (12, (.bool (decide (z3 ≥ 0))))] ?_
 refine iF ?_
 refine Xe K (o := (.tmp 12)) K (b := (decide (z3 ≥ 0))) K (fun h => ?_) (fun h => ?_)
 ·have H := ct H h
  refine aQ ?_
  obtain ⟨u, v, w, H⟩ := G4 H
  obtain ⟨c, hyl13⟩ : ∃ y, (List.drop (Int.toNat 0) (List.take (Int.toNat z3) p1)) = y := ⟨_, rfl⟩
  rw [hyl13] at H
  obtain ⟨z, a0, a1, H⟩ := G4 H
  obtain ⟨f, hyl17⟩ : ∃ y, (List.drop (Int.toNat (IntKind.wrap .i64 (z3 + ((List.length p2 : Nat) : Int)))) (List.take (Int.toNat ((List.length p1 : Nat) : Int)) p1)) = y := ⟨_, rfl⟩
  rw [hyl17] at H
  refine aG [GEq (.string ⟨List.toArray p1⟩), GEq (.int .i64 z3), GEq (.string ⟨List.toArray c⟩), GEq (.string ⟨List.toArray p1⟩), GEq (.int .i64 z3), GEq (.string ⟨List.toArray p2⟩), GEq (.int .i64 ((List.length p2 : Nat) : Int)), GEq (.int .i64 (IntKind.wrap .i64 (z3 + ((List.length p2 : Nat) : Int)))), GEq (.string ⟨List.toArray f⟩), GEq (.string ⟨List.toArray c⟩), GEq (.string ⟨List.toArray f⟩), GEq (.bool true)] [] (tG [] w0 [] [([], [])]) 12 0 ⟨trivial, SP.drew p⟩ ?_ ?_
  iterate 12 refine And.intro ?_ ?_
  exact trivial
  ·exact oV (hC (hS 0 (.string ⟨List.toArray p1⟩)) (h0)) (.string ⟨List.toArray p1⟩)
  ·exact oV (hC (hS 7 (.int .i64 z3)) (h0)) (.int .i64 z3)
  ·refine oL 0 ?_
   ·rintro ρ' w' hs g ⟨a3, a4⟩
    refine kM (kc (kA g 0 13) (kc (kA g 1 14) k0)) fun l => ?_
    refine Ju (a := p1) (T := 9) (x := (.tmp 13)) (lo := none) (hi := (some (.tmp 14))) (i := 0) (j := z3) (d := (some 15)) (k := 2) K rfl K K rfl ⟨.i64, K⟩ u v w ?_
    rw [hyl13]
    exact eK l
  ·exact oV (hC (hS 0 (.string ⟨List.toArray p1⟩)) (h0)) (.string ⟨List.toArray p1⟩)
  ·exact oV (hC (hS 7 (.int .i64 z3)) (h0)) (.int .i64 z3)
  ·exact oV (hC (hS 1 (.string ⟨List.toArray p2⟩)) (h0)) (.string ⟨List.toArray p2⟩)
  ·exact oV (hC (hA 5 18) (h0)) (.int .i64 ((List.length p2 : Nat) : Int))
  ·exact oV (hC (hA 4 17) (hC (hA 6 19) (h0))) (.int .i64 (IntKind.wrap .i64 (z3 + ((List.length p2 : Nat) : Int))))
  ·refine oL 0 ?_
   ·rintro ρ' w' hs g ⟨a5, a6⟩
    refine kM (kc (kA g 3 16) (kc (kA g 7 20) k0)) fun l => ?_
    refine Ju (a := p1) (T := 9) (x := (.tmp 16)) (lo := (some (.tmp 20))) (hi := none) (i := (IntKind.wrap .i64 (z3 + ((List.length p2 : Nat) : Int)))) (j := ((List.length p1 : Nat) : Int)) (d := (some 21)) (k := 8) K rfl K K ⟨.i64, K⟩ rfl z a0 a1 ?_
    rw [hyl17]
    exact eK l
  ·exact oV (hC (hA 2 15) (h0)) (.string ⟨List.toArray c⟩)
  ·exact oV (hC (hA 8 21) (h0)) (.string ⟨List.toArray f⟩)
  ·exact Owe.run K [] trivial (.bool true) (fun _ _ => K) rfl
  ·rintro ρ' w' hs hf ⟨a7, q⟩
   refine V2 [(4, (.string ⟨List.toArray c⟩)), (5, (.string ⟨List.toArray f⟩)), (6, (.bool true))] ⟨hf 9 4 K, hf 10 5 K, hf 11 6 K, trivial⟩ ?_
   obtain ⟨a8, a2⟩ : ∃ x, w' = x := ⟨_, rfl⟩
   rw [a2] at q ⊢
   refine At.ret K ?_
   refine ⟨(.tuple #[(.string ⟨List.toArray c⟩), (.string ⟨List.toArray f⟩), (.bool true)]), K, ?_⟩
   obtain rfl := Qg H
   exact ⟨rfl, SP.sel q [] rfl rfl⟩
 ·have H := cf H h
  refine At.skip K ?_
  refine aQ ?_
  refine aR ?_
  refine iR 4 4 [(22, (.string ⟨List.toArray p1⟩)), (4, (.string ⟨List.toArray p1⟩)), (5, (.string ⟨List.toArray ([] : List UInt8)⟩)), (6, (.bool false))] ?_
  refine iF ?_
  refine At.ret K ?_
  refine ⟨(.tuple #[(.string ⟨List.toArray p1⟩), (.string ⟨List.toArray ([] : List UInt8)⟩), (.bool false)]), K, ?_⟩
  obtain rfl := Qg H
  exact ⟨rfl, SP.sel p [] rfl rfl⟩
def Up (p1 : (List UInt8)) (p2 : (List UInt8)) : Option ((List UInt8) × (List UInt8) × Bool) :=
  ((Xg p1 p2).bind fun z3 => (some (z3.1, z3.2.1, z3.2.2)))
set_option maxHeartbeats 40000000 in
theorem Bi  (p1 : (List UInt8)) (p2 : (List UInt8)) (w0 : World)  (r : ((List UInt8) × (List UInt8) × Bool)) (H : Up p1 p2 = some r) :
  Calls Tryz.prog 137 #[(.string ⟨List.toArray p1⟩), (.string ⟨List.toArray p2⟩)] w0 (fun e w' => e = .returned (.tuple #[(.string ⟨List.toArray r.1⟩), (.string ⟨List.toArray r.2.1⟩), (.bool r.2.2)]) ∧ SP [] w0 w' []) := by
 unfold Up at H
 refine Qv (n := 13) Tryz.func137 K K K ?_
 have b := Q1 [] w0
 refine aQ ?_
 refine aR ?_
 refine iR 3 3 [(4, (.string ⟨List.toArray ([] : List UInt8)⟩)), (5, (.string ⟨List.toArray ([] : List UInt8)⟩)), (6, (.bool false))] ?_
 refine iF ?_
 refine aQ ?_
 refine aR ?_
 refine iR 2 2 [(7, (.string ⟨List.toArray p1⟩)), (8, (.string ⟨List.toArray p2⟩))] ?_
 obtain ⟨z3, c, H⟩ := Qd H
 refine iS 3 ?_
 refine cF 160 #[(.tmp 7), (.tmp 8)] #[9, 9] 9 Tryz.call160 (U3  p1 p2 w0  z3 c) ?_
 rintro e w5 ⟨rfl, a⟩
 refine ⟨_, rfl, ?_⟩
 have d := SP.call b a
 clear a
 refine iR 6 9 [(10, (.string ⟨List.toArray z3.1⟩)), (11, (.string ⟨List.toArray z3.2.1⟩)), (12, (.bool z3.2.2)), (4, (.string ⟨List.toArray z3.1⟩)), (5, (.string ⟨List.toArray z3.2.1⟩)), (6, (.bool z3.2.2))] ?_
 refine iF ?_
 refine At.ret K ?_
 refine ⟨(.tuple #[(.string ⟨List.toArray z3.1⟩), (.string ⟨List.toArray z3.2.1⟩), (.bool z3.2.2)]), K, ?_⟩
 obtain rfl := Qg H
 exact ⟨rfl, SP.sel d [] rfl rfl⟩
def Xn (a : (Int × Bool)) (b : (Int × Bool)) (c : Bool) : Option (Int × Int × Bool) :=
  (cond c (some (0, 0, false)) (some (a.1, b.1, true)))
def Nc (p1 : (List UInt8)) : Option (Int × Int × Bool) :=
  ((Up p1 ([47] : List UInt8)).bind fun z6 => ((Un z6.1).bind fun b => ((U0 z6.2.1).bind fun a => (cond (!z6.2.2) (Xn b a true) (cond (!b.2) (Xn b a true) (cond (!a.2) (Xn b a true) (cond (decide (a.1 > 32)) (Xn b a true) ((Jd b.1 a.1).bind fun c => (Xn b a (!c))))))))))
set_option maxHeartbeats 40000000 in
theorem By  (p1 : (List UInt8)) (w0 : World) (hL : U9 w0)  (r : (Int × Int × Bool)) (H : Nc p1 = some r) :
  Calls Tryz.prog 165 #[(.string ⟨List.toArray p1⟩)] w0 (fun e w' => e = .returned (.tuple #[(.agg #[(.int .u32 r.1), (.int .i64 r.2.1)]), (.bool r.2.2)]) ∧ SP [] w0 w' []) := by
 unfold Nc at H
 refine Qv (n := 52) Tryz.func165 K K K ?_
 have b0 := Q1 [] w0
 refine aQ ?_
 refine aR ?_
 refine iS 1 ?_
 refine Qi.alloc (t := 102) (z := (.agg #[(.int .u32 0), (.int .i64 0)])) (d := (some 2)) (k := 0) K rfl K b0 ?_
 intro g2 w3 b1
 refine iR 1 2 [(3, (.bool false))] ?_
 refine iF ?_
 refine aQ ?_
 refine aR ?_
 refine iR 1 1 [(12, (.string ⟨List.toArray p1⟩))] ?_
 obtain ⟨z6, b2, H⟩ := Qd H
 refine iS 2 ?_
 refine cF 137 #[(.tmp 12), (.const (.string ⟨List.toArray ([47] : List UInt8)⟩))] #[9, 9] 13 Tryz.call137 (Bi  p1 ([47] : List UInt8) w3  z6 b2) ?_
 rintro e w8 ⟨rfl, a1⟩
 refine ⟨_, rfl, ?_⟩
 have a2 := SP.call b1 a1
 clear a1
 refine iR 7 9 [(11, (.tuple #[(.string ⟨List.toArray z6.1⟩), (.string ⟨List.toArray z6.2.1⟩), (.bool z6.2.2)])), (14, (.string ⟨List.toArray z6.1⟩)), (15, (.string ⟨List.toArray z6.2.1⟩)), (16, (.bool z6.2.2)), (4, (.string ⟨List.toArray z6.1⟩)), (5, (.string ⟨List.toArray z6.2.1⟩)), (6, (.bool z6.2.2))] ?_
 refine iF ?_
 refine aQ ?_
 refine aR ?_
 refine iR 1 1 [(18, (.string ⟨List.toArray z6.1⟩))] ?_
 obtain ⟨f, b3, H⟩ := Qd H
 refine iS 2 ?_
 refine cF 157 #[(.tmp 18)] #[9] 19 Tryz.call157 (Bh  z6.1 w8 (Q0 hL (SP.keeps a2)) f b3) ?_
 rintro e b4 ⟨rfl, a3⟩
 refine ⟨_, rfl, ?_⟩
 have a4 := SP.call a2 a3
 clear a3
 refine iR 5 7 [(17, (.tuple #[(.int .u32 f.1), (.bool f.2)])), (20, (.int .u32 f.1)), (21, (.bool f.2)), (7, (.int .u32 f.1)), (8, (.bool f.2))] ?_
 refine iF ?_
 refine aQ ?_
 refine aR ?_
 refine iR 1 1 [(23, (.string ⟨List.toArray z6.2.1⟩))] ?_
 obtain ⟨c, b5, H⟩ := Qd H
 refine iS 2 ?_
 refine cF 135 #[(.tmp 23)] #[9] 24 Tryz.call135 (Yd  z6.2.1 b4 (Q0 hL (SP.keeps a4)) c b5) ?_
 rintro e b6 ⟨rfl, a5⟩
 refine ⟨_, rfl, ?_⟩
 have j := SP.call a4 a5
 clear a5
 refine iR 5 7 [(22, (.tuple #[(.int .i64 c.1), (.bool c.2)])), (25, (.int .i64 c.1)), (26, (.bool c.2)), (9, (.int .i64 c.1)), (10, (.bool c.2))] ?_
 refine iF ?_
 refine aQ ?_
 refine aQ ?_
 refine At.join (fun ρ w => ∃ (h : Bool), Zm ρ [(2, (pt g2 0)), (7, (.int .u32 f.1)), (9, (.int .i64 c.1)), (47, (.bool h))] ∧ SP [] w0 w [Qq g2 102 #[(.int .u32 0), (.int .i64 0)]] ∧ Xn f c h = some r) ?_ ?_
 ·refine aR ?_
  refine iR 3 3 [(27, (.bool z6.2.2)), (28, (.bool (!z6.2.2))), (29, (.bool (!z6.2.2)))] ?_
  refine In.guard (t := 29) (b := (!z6.2.2)) K (fun p => ?_) (fun p => ?_)
  ·have H := ct H p
   refine iR 18 21 [(30, undef), (31, undef), (32, (.bool true)), (33, (.bool true)), (34, undef), (35, undef), (36, (.bool true)), (37, (.bool true)), (38, undef), (39, undef), (40, (.bool true)), (41, (.bool true)), (42, undef), (43, undef), (44, undef), (45, undef), (46, undef), (47, (.bool true))] ?_
   refine iF ?_
   exact ⟨true, ⟨K, K, K, K, trivial⟩, SP.sel j [0] rfl rfl, H⟩
  ·have H := cf H p
   refine iR 4 7 [(30, (.bool f.2)), (31, (.bool (!f.2))), (32, (.bool (!f.2))), (33, (.bool (!f.2)))] ?_
   refine In.guard (t := 33) (b := (!f.2)) K (fun q => ?_) (fun q => ?_)
   ·have H := ct H q
    refine iR 14 21 [(34, undef), (35, undef), (36, (.bool true)), (37, (.bool true)), (38, undef), (39, undef), (40, (.bool true)), (41, (.bool true)), (42, undef), (43, undef), (44, undef), (45, undef), (46, undef), (47, (.bool true))] ?_
    refine iF ?_
    exact ⟨true, ⟨K, K, K, K, trivial⟩, SP.sel j [0] rfl rfl, H⟩
   ·have H := cf H q
    refine iR 4 11 [(34, (.bool c.2)), (35, (.bool (!c.2))), (36, (.bool (!c.2))), (37, (.bool (!c.2)))] ?_
    refine In.guard (t := 37) (b := (!c.2)) K (fun s => ?_) (fun s => ?_)
    ·have H := ct H s
     refine iR 10 21 [(38, undef), (39, undef), (40, (.bool true)), (41, (.bool true)), (42, undef), (43, undef), (44, undef), (45, undef), (46, undef), (47, (.bool true))] ?_
     refine iF ?_
     exact ⟨true, ⟨K, K, K, K, trivial⟩, SP.sel j [0] rfl rfl, H⟩
    ·have H := cf H s
     refine iR 4 15 [(38, (.int .i64 c.1)), (39, (.bool (decide (c.1 > 32)))), (40, (.bool (decide (c.1 > 32)))), (41, (.bool (decide (c.1 > 32))))] ?_
     refine In.guard (t := 41) (b := (decide (c.1 > 32))) K (fun u => ?_) (fun u => ?_)
     ·have H := ct H u
      refine iR 6 21 [(42, undef), (43, undef), (44, undef), (45, undef), (46, undef), (47, (.bool true))] ?_
      refine iF ?_
      exact ⟨true, ⟨K, K, K, K, trivial⟩, SP.sel j [0] rfl rfl, H⟩
     ·have H := cf H u
      refine iR 3 18 [(42, (.int .u32 f.1)), (43, (.int .i64 c.1)), (44, (.agg #[(.int .u32 f.1), (.int .i64 c.1)]))] ?_
      obtain ⟨m, b7, H⟩ := Qd H
      refine iS 19 ?_
      refine cF 108 #[(.tmp 44)] #[102] 45 Tryz.call108 (N0  f.1 c.1 b6  m b7) ?_
      rintro e b9 ⟨rfl, a6⟩
      refine ⟨_, rfl, ?_⟩
      have b8 := SP.call j a6
      clear a6
      refine iR 2 21 [(46, (.bool (!m))), (47, (.bool (!m)))] ?_
      refine iF ?_
      exact ⟨(!m), ⟨K, K, K, K, trivial⟩, SP.sel b8 [0] rfl rfl, H⟩
 ·rintro ρ c0 ⟨h, hk, a7, H⟩
  unfold Xn at H
  first | refine At.known [(2, (pt g2 0)), (7, (.int .u32 f.1)), (9, (.int .i64 c.1)), (47, (.bool h))] hk ?_ | rw [← Q3 (l := [(2, (pt g2 0)), (7, (.int .u32 f.1)), (9, (.int .i64 c.1)), (47, (.bool h))]) hk]
  refine Xe K (o := (.tmp 47)) K (b := h) K (fun a0 => ?_) (fun a0 => ?_)
  ·have H := ct H a0
   refine aQ ?_
   refine aR ?_
   refine iR 1 1 [(48, (.agg #[(.int .u32 0), (.int .i64 0)]))] ?_
   refine iS 2 ?_
   refine Qi.store (t := 102) (x := (.tmp 2)) (y := (.tmp 48)) (g := g2) (off := 0) (i := 0) (v := (.agg #[(.int .u32 0), (.int .i64 0)])) (cs' := #[(.int .u32 0), (.int .i64 0)]) (d := none) (k := 1) K rfl K K a7 rfl K ?_
   intro c1 a8
   refine iR 1 3 [(3, (.bool false))] ?_
   refine iF ?_
   refine At.ret K ?_
   refine ⟨(.tuple #[(.agg #[(.int .u32 0), (.int .i64 0)]), (.bool false)]), La K (Bs (a := 2) (t := 102) (g := g2) (off := 0) K (SP.get a8 (i := 0) rfl) K) (E8 (t := 3) K), ?_⟩
   obtain rfl := Qg H
   exact ⟨rfl, SP.sel a8 [] rfl rfl⟩
  ·have H := cf H a0
   refine At.skip K ?_
   refine aQ ?_
   refine aR ?_
   refine iR 3 3 [(49, (.int .u32 f.1)), (50, (.int .i64 c.1)), (51, (.agg #[(.int .u32 f.1), (.int .i64 c.1)]))] ?_
   refine iS 4 ?_
   refine Qi.store (t := 102) (x := (.tmp 2)) (y := (.tmp 51)) (g := g2) (off := 0) (i := 0) (v := (.agg #[(.int .u32 f.1), (.int .i64 c.1)])) (cs' := #[(.int .u32 f.1), (.int .i64 c.1)]) (d := none) (k := 3) K rfl K K a7 rfl K ?_
   intro c2 a9
   refine iR 1 5 [(3, (.bool true))] ?_
   refine iF ?_
   refine At.ret K ?_
   refine ⟨(.tuple #[(.agg #[(.int .u32 f.1), (.int .i64 c.1)]), (.bool true)]), La K (Bs (a := 2) (t := 102) (g := g2) (off := 0) K (SP.get a9 (i := 0) rfl) K) (E8 (t := 3) K), ?_⟩
   obtain rfl := Qg H
   exact ⟨rfl, SP.sel a9 [] rfl rfl⟩
end Go.Proofs.YtoflbpmbkmephaaGreatDoor
namespace Go.Proofs.YtoflbpmbkmephaaGreatDoor
open Go.Lib (decDigits)
def Kn (c : UInt8) (s : List UInt8) : List UInt8 × List UInt8 × Bool := if Lib.indexByte s c < 0 then (s, [], false) else (s.take (Lib.indexByte s c).toNat, s.drop ((Lib.indexByte s c).toNat + 1), true)
theorem lCut (c : UInt8) (s : List UInt8) (hs : s.length ≤ 9000) : Up s [c] = some (Kn c s) := by
  unfold Up Xg V9 Kn
  simp only [Option.bind_some]
  rcases Jq c s with ⟨h1, _, _⟩ | ⟨i, h1, h2, _, _, _⟩
  · rw [h1]; rfl
  · rw [h1, show decide ((i : Int) ≥ 0) = true by simp, if_neg (by omega), Int.toNat_natCast]
    have w : IntKind.wrap .i64 ((i : Int) + ((List.length [c] : Nat) : Int)) = ((i + 1 : Nat) : Int) := by simp only [List.length_cons, List.length_nil]; rw [Jk (by omega)]; omega
    have s1 : sub s 0 ((i : Nat) : Int) = some (s.take i) := Dz s (i := 0) (j := i) (by omega) (by omega)
    have s2 : sub s ((i + 1 : Nat) : Int) ((s.length : Nat) : Int) = some (s.drop (i + 1)) := by rw [Dz s (by omega) (Nat.le_refl _), List.take_length]
    rw [w]
    simp only [cond_true, s1, s2, Option.bind_some]
def finA (st : Option (Nat × Nat)) : Option Nat := match st with | none => none | some (a, m) => if m = 4 then some a else none
theorem H5 (s : List UInt8) : Gj s = finA ((Qx 46 s).foldl Xf (some (0, 0))) := rfl
theorem Bj {a m n : Nat} {p : List UInt8} (h : V0 p = some n) (hn : n ≤ 255) (hm : m < 4) : Xf (some (a, m)) p = some (a * 256 + n, m + 1) := by simp only [Xf, h, if_neg (by omega : ¬ (255 < n ∨ 4 ≤ m))]
theorem lAddr (s : List UInt8) (hs : s.length ≤ 9000) : Un s = some (addrD (Gj s)) := by
  unfold Un
  rw [Nat.ble_eq_true_of_le (by omega)]
  rfl
theorem Ko {s : List UInt8} {a : Nat} (h : Gj s = some a) : a < 4294967296 := by
  unfold Gj at h
  cases hst : N4 (Qx 46 s) with
  | none => rw [hst] at h; cases h
  | some x =>
    obtain ⟨b, m⟩ := x
    rw [hst] at h
    simp only at h
    by_cases hm : m = 4
    · rw [if_pos hm] at h
      injection h with h
      subst h
      have := (H4 hst).2
      rw [hm] at this
      have h6 : (256 : Nat) ^ 4 = 4294967296 := by decide
      omega
    · rw [if_neg hm] at h; cases h
def netL (s : List UInt8) : Option (Nat × Nat) :=
  match (Kn 47 s).2.2, Gj (Kn 47 s).1, V0 (Kn 47 s).2.1 with
  | true, some a, some n => if n ≤ 32 ∧ Nn a (n : Int) = true then some (a, n) else none
  | _, _, _ => none
def netD (x : Option (Nat × Nat)) : Int × Int × Bool := match x with | none => (0, 0, false) | some (a, n) => ((a : Int), (n : Int), true)
theorem cutL_len (c : UInt8) (s : List UInt8) : (Kn c s).1.length ≤ s.length ∧ (Kn c s).2.1.length ≤ s.length := by
  unfold Kn
  split
  · simp
  · simp only [List.length_take, List.length_drop]; omega
theorem lNet (s : List UInt8) (hs : s.length ≤ 9000) : Nc s = some (netD (netL s)) := by
  have hl := cutL_len 47 s
  unfold Nc netL Xn
  rw [lCut 47 s hs]
  simp only [Option.bind_some]
  generalize Kn 47 s = z at hl ⊢
  obtain ⟨x, y, b⟩ := z
  simp only at hl
  rw [lAddr x (by omega), lParse y (by omega)]
  simp only [Option.bind_some]
  cases b with
  | false => rfl
  | true =>
    rcases Option.eq_none_or_eq_some (Gj x) with hx | ⟨a, hx⟩
    · rw [show (addrD (Gj x)).2 = false by rw [hx]; rfl, hx]; rfl
    · rw [show (addrD (Gj x)).2 = true by rw [hx]; rfl, show (addrD (Gj x)).1 = (a : Int) by rw [hx]; rfl, hx]
      rcases Option.eq_none_or_eq_some (V0 y) with hy | ⟨n, hy⟩
      · rw [show (N2 (V0 y)).2 = false by rw [hy]; rfl, hy]; rfl
      · rw [show decide ((N2 (V0 y)).1 > 32) = decide (32 < n) by rw [decide_eq_decide, hy]; show ((n : Int) > 32) ↔ _; omega, show (N2 (V0 y)).2 = true by rw [hy]; rfl, show (N2 (V0 y)).1 = (n : Int) by rw [hy]; rfl, hy]
        simp only [Bool.not_true, cond_false]
        by_cases hn : n ≤ 32
        · rw [decide_eq_false (by omega : ¬ 32 < n), lRight a (Ko hx)]
          simp only [cond_false, Option.bind_some]
          cases hr : Nn a (n : Int) with
          | true => rw [if_pos ⟨hn, rfl⟩]; rfl
          | false => rw [if_neg (by rintro ⟨_, h⟩; cases h)]; rfl
        · rw [decide_eq_true (by omega : 32 < n), if_neg (fun h => hn h.1)]
          rfl
theorem Nu (c : UInt8) : ∀ (x r : List UInt8), c ∉ x → Qx c (x ++ c :: r) = x :: Qx c r
  | [], r, _ => by simp [Qx]
  | y :: x, r, h => by
    have hy : y ≠ c := fun e => h (by simp [e])
    have ih := Nu c x r (fun hm => h (by simp [hm]))
    rw [List.cons_append]
    conv => lhs; unfold Qx
    rw [if_neg hy, ih]
theorem Bz (c : UInt8) : ∀ (x : List UInt8), c ∉ x → Qx c x = [x]
  | [], _ => rfl
  | y :: x, h => by
    have hy : y ≠ c := fun e => h (by simp [e])
    have ih := Bz c x (fun hm => h (by simp [hm]))
    unfold Qx
    rw [if_neg hy, ih]
def Nr (c : UInt8) : List (List UInt8) → List UInt8
  | [] => []
  | [p] => p
  | p :: q :: ps => p ++ c :: Nr c (q :: ps)
theorem Ff (c : UInt8) : ∀ s : List UInt8, Nr c (Qx c s) = s
  | [] => rfl
  | x :: r => by
    have ih := Ff c r
    unfold Qx
    by_cases h : x = c
    · rw [if_pos h]
      cases hs : Qx c r with
      | nil => exact absurd hs (Yw c r)
      | cons p ps => rw [hs] at ih; show [] ++ c :: Nr c (p :: ps) = _; rw [ih, h]; rfl
    · rw [if_neg h]
      cases hs : Qx c r with
      | nil => exact absurd hs (Yw c r)
      | cons p ps =>
        rw [hs] at ih
        simp only
        cases ps with
        | nil => rw [← ih]; rfl
        | cons q qs => rw [← ih]; rfl
theorem Bk {n : Nat} {c : UInt8} (hc : Dh c = false) : c ∉ decDigits n := fun h => by
  have := dec_all n
  rw [List.all_eq_true] at this
  rw [this c h] at hc
  cases hc
theorem Li (a : Nat) : Qx 46 (R3 a) = [decDigits (a / 16777216 % 256), decDigits (a / 65536 % 256), decDigits (a / 256 % 256), decDigits (a % 256)] := by
  unfold R3
  rw [Nu 46 _ _ (Bk (by decide)), Nu 46 _ _ (Bk (by decide)), Nu 46 _ _ (Bk (by decide)), Bz 46 _ (Bk (by decide))]
theorem addr_dots {a : Nat} (ha : a < 4294967296) : Gj (R3 a) = some a := by
  rw [H5, Li]
  have p : ∀ n : Nat, n < 256 → V0 (decDigits n) = some n := fun n hn => C4 (by unfold Ut; omega)
  simp only [List.foldl_cons, List.foldl_nil]
  rw [Bj (p (a / 16777216 % 256) (by omega)) (by omega) (by omega), Bj (p (a / 65536 % 256) (by omega)) (by omega) (by omega), Bj (p (a / 256 % 256) (by omega)) (by omega) (by omega), Bj (p (a % 256) (by omega)) (by omega) (by omega)]
  simp only [finA, if_true]
  congr 1
  omega
theorem Bl {st : Option (Nat × Nat)} {p : List UInt8} {a m : Nat} (h : Xf st p = some (a, m)) : ∃ a0 n, st = some (a0, m - 1) ∧ 1 ≤ m ∧ V0 p = some n ∧ n ≤ 255 ∧ a = a0 * 256 + n := by
  unfold Xf at h
  cases st with
  | none => cases h
  | some x =>
    obtain ⟨a0, m0⟩ := x
    simp only at h
    cases hp : V0 p with
    | none => rw [hp] at h; cases h
    | some n =>
      rw [hp] at h
      simp only at h
      by_cases hc : 255 < n ∨ 4 ≤ m0
      · rw [if_pos hc] at h; cases h
      · rw [if_neg hc] at h
        injection h with h
        injection h with h1 h2
        exact ⟨a0, n, by rw [← h2]; rfl, by omega, rfl, by omega, h1.symm⟩
theorem Fg : ∀ (ps : List (List UInt8)) (a0 m0 a m : Nat), ps.foldl Xf (some (a0, m0)) = some (a, m) → m = m0 + ps.length
  | [], a0, m0, a, m, h => by simp only [List.foldl_nil, Option.some.injEq, Prod.mk.injEq] at h; rw [List.length_nil]; omega
  | p :: ps, a0, m0, a, m, h => by
    rw [List.foldl_cons] at h
    cases hs : Xf (some (a0, m0)) p with
    | none => rw [hs, Nq] at h; cases h
    | some x =>
      obtain ⟨a1, m1⟩ := x
      rw [hs] at h
      have := Fg ps a1 m1 a m h
      obtain ⟨a2, n, h1, h2, _⟩ := Bl hs
      injection h1 with h1
      injection h1 with _ h1
      rw [List.length_cons]
      omega
theorem dots_addr {s : List UInt8} {a : Nat} (h : Gj s = some a) : R3 a = s := by
  rw [H5] at h
  cases hst : (Qx 46 s).foldl Xf (some (0, 0)) with
  | none => rw [hst] at h; cases h
  | some x =>
    obtain ⟨b, m⟩ := x
    rw [hst] at h
    simp only [finA] at h
    by_cases hm : m = 4
    · rw [if_pos hm] at h
      injection h with h
      subst h hm
      have hlen := Fg _ _ _ _ _ hst
      have hj := Ff 46 s
      generalize Qx 46 s = ps at hst hlen hj
      match ps, hlen with
      | [p0, p1, p2, p3], _ =>
        simp only [List.foldl_cons, List.foldl_nil] at hst
        obtain ⟨a3, n3, h3, _, e3, l3, v3⟩ := Bl hst
        obtain ⟨a2, n2, h2, _, e2, l2, v2⟩ := Bl h3
        obtain ⟨a1, n1, h1, _, e1, l1, v1⟩ := Bl h2
        obtain ⟨a0, n0, h0, _, e0, l0, v0⟩ := Bl h1
        injection h0 with h0
        injection h0 with h0 _
        have q0 := (R1 e0).1
        have q1 := (R1 e1).1
        have q2 := (R1 e2).1
        have q3 := (R1 e3).1
        rw [← hj]
        show R3 b = p0 ++ 46 :: (p1 ++ 46 :: (p2 ++ 46 :: p3))
        unfold R3
        rw [show b / 16777216 % 256 = n0 by omega, show b / 65536 % 256 = n1 by omega, show b / 256 % 256 = n2 by omega, show b % 256 = n3 by omega, q0, q1, q2, q3]
    · rw [if_neg hm] at h; cases h
theorem no47_dots (a : Nat) : (47 : UInt8) ∉ R3 a := by
  unfold R3
  have d : ∀ n, (47 : UInt8) ∉ decDigits n := fun n => Bk (by decide)
  simp [d]
theorem cutL_app (c : UInt8) (x y : List UInt8) (h : c ∉ x) : Kn c (x ++ c :: y) = (x, y, true) := by
  unfold Kn
  rcases Jq c (x ++ c :: y) with ⟨_, _, h3⟩ | ⟨i, h1, h2, h3, h4, _⟩
  · exact absurd (by simp) h3
  · have hi : i = x.length := by
      rcases Nat.lt_trichotomy i x.length with h' | h' | h'
      · rw [List.getElem?_append_left h'] at h3
        exact absurd (List.mem_of_getElem? h3) h
      · exact h'
      · exfalso
        refine h4 (List.mem_of_getElem? (i := x.length) ?_)
        rw [List.getElem?_take, if_pos h']
        simp
    subst hi
    rw [h1, if_neg (by omega), Int.toNat_natCast]
    simp
theorem cutL_true {c : UInt8} {s x y : List UInt8} (h : Kn c s = (x, y, true)) : s = x ++ c :: y := by
  unfold Kn at h
  rcases Jq c s with ⟨h1, _, _⟩ | ⟨i, h1, h2, h3, _, _⟩
  · rw [h1, if_pos (by omega)] at h
    simp at h
  · rw [h1, if_neg (by omega), Int.toNat_natCast] at h
    injection h with hx h
    injection h with hy _
    subst hx hy
    have hc : s[i] = c := by rw [List.getElem?_eq_getElem h2] at h3; exact Option.some.inj h3
    rw [← hc, ← List.drop_eq_getElem_cons h2, List.take_append_drop]
theorem net_slash {a : Nat} (ha : a < 4294967296) (b : Int) : netL (Gg a b) = match Nn a b with | true => some (a, b.toNat) | false => none := by
  unfold Gg
  cases hr : Nn a b with
  | false => rfl
  | true =>
    obtain ⟨h0, h1⟩ := Np hr
    have hb : ((b.toNat : Nat) : Int) = b := Int.toNat_of_nonneg h0
    unfold netL
    rw [cutL_app 47 _ _ (no47_dots a)]
    simp only [addr_dots ha, C4 (show b.toNat ≤ Ut by unfold Ut; omega), hb, hr]
    rw [if_pos ⟨by omega, trivial⟩]
theorem slash_net {s : List UInt8} {a n : Nat} (h : netL s = some (a, n)) : Gg a (n : Int) = s ∧ (47 : UInt8) ∈ s ∧ a < 4294967296 := by
  unfold netL at h
  cases hz : Kn 47 s with
  | mk x yb =>
    obtain ⟨y, b⟩ := yb
    rw [hz] at h
    simp only at h
    cases b with
    | false => cases h
    | true =>
      have hs := cutL_true hz
      cases hx : Gj x with
      | none => rw [hx] at h; cases h
      | some a' =>
        cases hy : V0 y with
        | none => rw [hx, hy] at h; cases h
        | some n' =>
          rw [hx, hy] at h
          simp only at h
          by_cases hc : n' ≤ 32 ∧ Nn a' (n' : Int) = true
          · rw [if_pos hc] at h
            injection h with h
            injection h with h1 h2
            subst h1 h2
            refine ⟨?_, by rw [hs]; simp, Ko hx⟩
            unfold Gg
            rw [hc.2, Int.toNat_natCast, dots_addr hx, (R1 hy).1, ← hs]
          · rw [if_neg hc] at h; cases h
end Go.Proofs.YtoflbpmbkmephaaGreatDoor
namespace Go.Proofs.YtoflbpmbkmephaaGreatDoor
open Go.RowKit
def X8 (e : (List UInt8) → Int → Option ((List UInt8))) (p1 : (List UInt8)) (b : (List UInt8)) (a : Int) : Option ((List UInt8)) :=
  (cond (decide (a < ((List.length p1 : Nat) : Int))) ((idx p1 a).bind fun c => ((idx ([48, 49, 50, 51, 52, 53, 54, 55, 56, 57, 97, 98, 99, 100, 101, 102] : List UInt8) (Ih .u8 ((c).toNat : Int) 4)).bind fun f => ((idx ([48, 49, 50, 51, 52, 53, 54, 55, 56, 57, 97, 98, 99, 100, 101, 102] : List UInt8) (bAnd .u8 ((c).toNat : Int) 15)).bind fun g => ((idx b (IntKind.wrap .i64 (2 * a))).bind fun i => ((some (List.set b (Int.toNat (IntKind.wrap .i64 (2 * a))) f)).bind fun d => ((idx d (IntKind.wrap .i64 ((IntKind.wrap .i64 (2 * a)) + 1))).bind fun j => ((some (List.set d (Int.toNat (IntKind.wrap .i64 ((IntKind.wrap .i64 (2 * a)) + 1))) g)).bind fun h => (e h (IntKind.wrap .i64 (a + 1)))))))))) (some (b)))
def X9 (p1 : (List UInt8)) : Nat → (List UInt8) → Int → Option ((List UInt8))
  | 0, _, _ => none
  | f + 1, a, b => X8  (X9 p1 f) p1 a b
def Nd (p1 : (List UInt8)) : Option ((List UInt8)) :=
  ((chk (decide (0 ≤ (IntKind.wrap .i64 (2 * ((List.length p1 : Nat) : Int))) ∧ (IntKind.wrap .i64 (2 * ((List.length p1 : Nat) : Int))) ≤ 2147483648))).bind fun _ => ((some (List.replicate (Int.toNat (IntKind.wrap .i64 (2 * ((List.length p1 : Nat) : Int)))) ((0 : UInt8) : UInt8))).bind fun l5 => (X9 p1 Xx l5 0)))
set_option maxHeartbeats 40000000 in
theorem B0 (A2 : Option Addr) (c3 : Nat) (p1 : (List UInt8)) (w0 : World) (a7 : RdT eU8 w0 A2 c3 p1) (r : ((List UInt8))) (H : Nd p1 = some r) :
  Calls Tryz.prog 61 #[(.slice A2 (List.length p1) c3)] w0 (fun e w' => e = .returned (.string ⟨List.toArray r⟩) ∧ SP [] w0 w' []) := by
 unfold Nd at H
 refine Qv (n := 35) Tryz.func61 K K K ?_
 have b8 := Q1 [] w0
 refine aQ ?_
 refine aR ?_
 refine iR 1 1 [(2, (.string ⟨List.toArray ([] : List UInt8)⟩))] ?_
 refine iF ?_
 refine aQ ?_
 refine aR ?_
 refine iR 3 3 [(6, (.slice A2 (List.length p1) c3)), (7, (.int .i64 ((List.length p1 : Nat) : Int))), (8, (.int .i64 (IntKind.wrap .i64 (2 * ((List.length p1 : Nat) : Int)))))] ?_
 obtain ⟨hl6, H⟩ := G5 H
 obtain ⟨l5, hyl5, H⟩ := Zs H
 refine iS 4 ?_
 refine C9 (e := eU8) (l' := l5) (z := (0 : UInt8)) (v := (.int .u8 0)) (b := 1) (T := 48) (E := 5) (x := (.tmp 8)) (y := (.tmp 8)) (k1 := .i64) (k2 := .i64) (iz := (IntKind.wrap .i64 (2 * ((List.length p1 : Nat) : Int)))) (d := (some 9)) (k := 3) K rfl K K K K K rfl rfl rfl hl6 b8 hyl5 ?_
 intro g7 w8 a8 f0
 have b9 : SP [] w0 w8 [Q6 5 eU8 (some ⟨g7, 0, none⟩) (Int.toNat (IntKind.wrap .i64 (2 * ((List.length p1 : Nat) : Int)))) l5] := a8
 clear a8
 refine iR 1 5 [(3, (.slice (some ⟨g7, 0, none⟩) (List.length l5) (Int.toNat (IntKind.wrap .i64 (2 * ((List.length p1 : Nat) : Int))))))] ?_
 refine iF ?_
 refine aQ ?_
 refine aQ ?_
 refine aR ?_
 refine iR 3 3 [(10, (.slice A2 (List.length p1) c3)), (11, (.int .i64 ((List.length p1 : Nat) : Int))), (12, (.int .i64 0))] ?_
 refine iF ?_
 refine Y0 K (id := 0) K ?_
 refine G3 K (fun f1 ρ w => ∃ (m : (List UInt8)) (f : Int) (g : Option Addr) (h : Nat), Zm ρ [(3, (.slice g (List.length m) h)), (10, (.slice A2 (List.length p1) c3)), (11, (.int .i64 ((List.length p1 : Nat) : Int))), (12, (.int .i64 f))] ∧ SP [] w0 w [Q6 5 eU8 g h m] ∧ X9 p1 f1 m f = some r) (by rintro ρ w ⟨m, f, g, h, hk, hs, H⟩; cases H) ?_ Xx ?_
 ·rintro f1 ρ f2 ⟨m, f, g, h, hk, a1, H⟩
  refine At.known [(3, (.slice g (List.length m) h)), (10, (.slice A2 (List.length p1) c3)), (11, (.int .i64 ((List.length p1 : Nat) : Int))), (12, (.int .i64 f))] hk ?_
  replace H := (show X8 (X9 p1 f1) p1 m f = some r from H)
  unfold X8 at H
  refine aQ ?_
  refine aR ?_
  refine iR 1 1 [(13, (.bool (decide (f < ((List.length p1 : Nat) : Int)))))] ?_
  refine iF ?_
  refine aQ ?_
  refine Xe K (o := (.tmp 13)) K (b := (decide (f < ((List.length p1 : Nat) : Int)))) K (fun a5 => ?_) (fun a5 => ?_)
  ·have H := ct H a5
   refine At.skip K ?_
   refine aQ ?_
   refine Y0 K (id := 1) K ?_
   refine aQ ?_
   refine aR ?_
   refine iR 1 1 [(14, (.int .i64 f))] ?_
   obtain ⟨q, a9, b0, c0, H⟩ := Ve H
   refine iS 2 ?_
   refine Qn (e := eU8) (l := p1) (A := A2) (c := c3) (T := 48) (E := 5) (x := (.tmp 10)) (ix := (.tmp 12)) (ki := .i64) (iz := f) (d := (some 15)) (k := 1) K rfl K K K K (RdT.sp a7 a1) a9 b0 ?_
   intro c1 c2 c4 f3 hc321
   refine iS 3 ?_
   refine sC 5 15 c1 (c2 + Int.toNat f * eU8.sz) (.int .u8 ((q).toNat : Int)) 16 (Qw (e := eU8) (Qj (RdT.sp a7 a1) c4 a9 b0) c0 (j := 0) rfl) ?_
   refine iR 2 5 [(4, (.int .i64 f)), (5, (.int .u8 ((q).toNat : Int)))] ?_
   refine iF ?_
   obtain ⟨a4, c5, f4, c6, H⟩ := Ve H
   obtain ⟨a2, b1, f5, b2, H⟩ := Ve H
   obtain ⟨f6, b3, b4, f7, H⟩ := Ve H
   obtain ⟨a0, hyl341, H⟩ := Zs H
   have hnl341 : List.length a0 = List.length m := by rw [← hyl341, List.length_set]
   obtain ⟨f8, b5, b6, f9, H⟩ := Ve H
   obtain ⟨a3, hyl354, H⟩ := Zs H
   have hnl354 : List.length a3 = List.length a0 := by rw [← hyl354, List.length_set]
   refine aG [GEq (.slice g (List.length m) h), GEq (.int .i64 f), GEq (.int .i64 (IntKind.wrap .i64 (2 * f))), GEq (.slice g (List.length m) h), GEq (.int .i64 f), GEq (.int .i64 (IntKind.wrap .i64 (2 * f))), GEq (.int .i64 (IntKind.wrap .i64 ((IntKind.wrap .i64 (2 * f)) + 1))), GEq (.int .u8 ((q).toNat : Int)), GEq (.int .u8 (Ih .u8 ((q).toNat : Int) 4)), GEq (.int .u8 ((a4).toNat : Int)), GEq (.int .u8 ((q).toNat : Int)), GEq (.int .u8 (bAnd .u8 ((q).toNat : Int) 15)), GEq (.int .u8 ((a2).toNat : Int)), Yb g eU8.sz (IntKind.wrap .i64 (2 * f)), Rp, Yb g eU8.sz (IntKind.wrap .i64 ((IntKind.wrap .i64 (2 * f)) + 1)), Rp] [14, 16] [sG [] [] [] w0 [Q6 5 eU8 g h m], sG [14] [undef] [] w0 [Q6 5 eU8 g h a0], sG [14, 16] [undef, undef] [] w0 [Q6 5 eU8 g h a3]] 17 2 ⟨trivial, SP.drew a1⟩ ?_ ?_
   iterate 17 refine And.intro ?_ ?_
   exact trivial
   ·exact oV (hC (hS 3 (.slice g (List.length m) h)) (h0)) (.slice g (List.length m) h)
   ·exact oV (hC (hS 4 (.int .i64 f)) (h0)) (.int .i64 f)
   ·exact oV (hC (hA 1 18) (h0)) (.int .i64 (IntKind.wrap .i64 (2 * f)))
   ·exact oV (hC (hS 3 (.slice g (List.length m) h)) (h0)) (.slice g (List.length m) h)
   ·exact oV (hC (hS 4 (.int .i64 f)) (h0)) (.int .i64 f)
   ·exact oV (hC (hA 4 21) (h0)) (.int .i64 (IntKind.wrap .i64 (2 * f)))
   ·exact oV (hC (hA 5 22) (h0)) (.int .i64 (IntKind.wrap .i64 ((IntKind.wrap .i64 (2 * f)) + 1)))
   ·exact oV (hC (hS 5 (.int .u8 ((q).toNat : Int))) (h0)) (.int .u8 ((q).toNat : Int))
   ·exact oV (hC (hA 7 24) (h0)) (.int .u8 (Ih .u8 ((q).toNat : Int) 4))
   ·refine oL 0 ?_
    ·rintro ρ' w' hs p ⟨g0, g1⟩
     refine kM (kc (kA p 8 25) k0) fun s => ?_
     refine Ux (a := ([48, 49, 50, 51, 52, 53, 54, 55, 56, 57, 97, 98, 99, 100, 101, 102] : List UInt8)) (u := a4) (T := 9) (x := (.const (.string ⟨List.toArray ([48, 49, 50, 51, 52, 53, 54, 55, 56, 57, 97, 98, 99, 100, 101, 102] : List UInt8)⟩))) (ix := (.tmp 25)) (ki := .u8) (iz := (Ih .u8 ((q).toNat : Int) 4)) (d := (some 26)) (k := 9) K rfl K K K c5 c6 ?_
     exact eK s
   ·exact oV (hC (hS 5 (.int .u8 ((q).toNat : Int))) (h0)) (.int .u8 ((q).toNat : Int))
   ·exact oV (hC (hA 10 27) (h0)) (.int .u8 (bAnd .u8 ((q).toNat : Int) 15))
   ·refine Owe.light K [0, 1] K (Qc ?_ (Qc ?_ Q8))
    ·rintro ρ' w' hs p ⟨g2, g3⟩
     refine kM (kc (kA p 11 28) k0) fun s => ?_
     refine Ux (a := ([48, 49, 50, 51, 52, 53, 54, 55, 56, 57, 97, 98, 99, 100, 101, 102] : List UInt8)) (u := a2) (T := 9) (x := (.const (.string ⟨List.toArray ([48, 49, 50, 51, 52, 53, 54, 55, 56, 57, 97, 98, 99, 100, 101, 102] : List UInt8)⟩))) (ix := (.tmp 28)) (ki := .u8) (iz := (bAnd .u8 ((q).toNat : Int) 15)) (d := (some 29)) (k := 12) K rfl K K K b1 b2 ?_
     exact eK s
    ·rintro ρ' w' hs p ⟨⟨g4, -⟩, g5⟩
     refine kM (kc (kA p 11 28) k0) fun s => ?_
     refine Ux (a := ([48, 49, 50, 51, 52, 53, 54, 55, 56, 57, 97, 98, 99, 100, 101, 102] : List UInt8)) (u := a2) (T := 9) (x := (.const (.string ⟨List.toArray ([48, 49, 50, 51, 52, 53, 54, 55, 56, 57, 97, 98, 99, 100, 101, 102] : List UInt8)⟩))) (ix := (.tmp 28)) (ki := .u8) (iz := (bAnd .u8 ((q).toNat : Int) 15)) (d := (some 29)) (k := 12) K rfl K K K b1 b2 ?_
     exact eK s
   ·refine oL 0 ?_
    ·rintro ρ' w' hs p ⟨g6, c7⟩
     refine kM (kc (kA p 0 17) (kc (kA p 2 19) k0)) fun s => ?_
     refine Qn (e := eU8) (l := m) (A := g) (c := h) (T := 48) (E := 5) (x := (.tmp 17)) (ix := (.tmp 19)) (ki := .i64) (iz := (IntKind.wrap .i64 (2 * f))) (d := (some 30)) (k := 13) K rfl K K K K (Vg (SP.get c7 (i := 0) rfl)) b3 b4 ?_
     intro c8 c9 d0 g8 hc378
     exact ⟨rfl, _, Qa s, ⟨c8, c9, d0, rfl⟩⟩
   ·refine oH 0 1 ?_
    ·rintro ρ' w' hs p ⟨g9, d1⟩
     obtain ⟨d2, d3, d4, d5⟩ := p 13 30 K
     refine kM (kc d5 (kc (kA p 9 26) k0)) fun s => ?_
     refine J3 (e := eU8) (t := 5) (E := 5) (x := (.tmp 30)) (y := (.tmp 26)) (A := g) (c := h) (l := m) (iz := (IntKind.wrap .i64 (2 * f))) (b := d2) (off := d3) (i := 0) (v := (.int .u8 ((a4).toNat : Int))) (x' := a4) (d := none) (k := 14) K rfl K K d1 rfl d4 rfl b4 b3 rfl K ?_
     rw [hyl341]
     intro h1 d6
     refine ⟨_, Qa s, trivial, ?_⟩
     exact (And.intro (And.intro rfl (trivial)) d6)
   ·refine oL 1 ?_
    ·rintro ρ' w' hs p ⟨⟨h2, -⟩, d7⟩
     have a6 := p 3 20 K
     replace a6 : ρ' 20 = (.slice g (List.length a0) h) := by rw [hnl341]; exact a6
     refine kM (kc a6 (kc (kA p 6 23) k0)) fun s => ?_
     refine Qn (e := eU8) (l := a0) (A := g) (c := h) (T := 48) (E := 5) (x := (.tmp 20)) (ix := (.tmp 23)) (ki := .i64) (iz := (IntKind.wrap .i64 ((IntKind.wrap .i64 (2 * f)) + 1))) (d := (some 31)) (k := 15) K rfl K K K K (Vg (SP.get d7 (i := 0) rfl)) b5 b6 ?_
     intro d8 d9 e0 h3 hc394
     exact ⟨rfl, _, Qa s, ⟨d8, d9, e0, rfl⟩⟩
   ·refine oH 1 2 ?_
    ·rintro ρ' w' hs p ⟨⟨e1, -⟩, e2⟩
     obtain ⟨e4, e5, e6, e7⟩ := p 15 31 K
     refine kM (kc e7 (kc (kA p 12 29) k0)) fun s => ?_
     refine J3 (e := eU8) (t := 5) (E := 5) (x := (.tmp 31)) (y := (.tmp 29)) (A := g) (c := h) (l := a0) (iz := (IntKind.wrap .i64 ((IntKind.wrap .i64 (2 * f)) + 1))) (b := e4) (off := e5) (i := 0) (v := (.int .u8 ((a2).toNat : Int))) (x' := a2) (d := none) (k := 16) K rfl K K e2 rfl e6 rfl b6 b5 rfl K ?_
     rw [hyl354]
     intro h4 e8
     refine ⟨_, Qa s, trivial, ?_⟩
     exact (And.intro (And.intro e1 (And.intro rfl (trivial))) e8)
   ·rintro ρ' w' hs hf ⟨⟨h5, h6, -⟩, b7⟩
    have e3 : ρ' 3 = (.slice g (List.length m) h) := (hs 3 K).trans K
    replace e3 : ρ' 3 = (.slice g (List.length a3) h) := by rw [hnl354, hnl341]; exact e3
    refine V2 [(3, (.slice g (List.length a3) h)), (10, (.slice A2 (List.length p1) c3)), (11, (.int .i64 ((List.length p1 : Nat) : Int))), (12, (.int .i64 f))] ⟨e3, (hs 10 K).trans K, (hs 11 K).trans K, (hs 12 K).trans K, trivial⟩ ?_
    obtain ⟨h7, e9⟩ : ∃ x, w' = x := ⟨_, rfl⟩
    rw [e9] at b7 ⊢
    refine aR ?_
    refine iR 2 2 [(32, (.int .i64 (IntKind.wrap .i64 (f + 1)))), (12, (.int .i64 (IntKind.wrap .i64 (f + 1))))] ?_
    refine iF ?_
    exact ⟨a3, (IntKind.wrap .i64 (f + 1)), g, h, ⟨K, K, K, K, trivial⟩, SP.sel b7 [0] rfl rfl, H⟩
  ·have H := cf H a5
   refine At.exit K (id := 0) K ?_
   refine aQ ?_
   refine aR ?_
   refine iR 1 1 [(33, (.slice g (List.length m) h))] ?_
   refine iS 2 ?_
   refine Uy (T := 48) (S' := 9) (E := 5) (x := (.tmp 33)) (A := g) (c := h) (l := m) (d := (some 34)) (k := 1) K rfl K K K K (Vg (SP.get a1 (i := 0) rfl)) ?_
   refine iR 1 3 [(2, (.string ⟨List.toArray m⟩))] ?_
   refine iF ?_
   refine At.ret K ?_
   refine ⟨(.string ⟨List.toArray m⟩), K, ?_⟩
   obtain rfl := Qg H
   exact ⟨rfl, SP.sel a1 [] rfl rfl⟩
 ·exact ⟨l5, 0, (some ⟨g7, 0, none⟩), (Int.toNat (IntKind.wrap .i64 (2 * ((List.length p1 : Nat) : Int)))), ⟨K, K, K, K, trivial⟩, SP.sel b9 [0] rfl rfl, H⟩
def Zj (d : (List UInt8) → Int → Option ((List UInt8) × Bool)) (p1 : (List UInt8)) (b : (List UInt8)) (a : Int) : Option ((List UInt8) × Bool) :=
  (cond (decide (a < ((List.length p1 : Nat) : Int))) ((idx p1 a).bind fun e => ((X6 ([48, 49, 50, 51, 52, 53, 54, 55, 56, 57, 97, 98, 99, 100, 101, 102] : List UInt8) e).bind fun c => (cond (decide (c < 0)) (some (([] : List UInt8), false)) ((idx b (IntKind.wrap .i64 (Int.tdiv a 2))).bind fun f => ((idx b (IntKind.wrap .i64 (Int.tdiv a 2))).bind fun h => ((some (List.set b (Int.toNat (IntKind.wrap .i64 (Int.tdiv a 2))) (Ug (bOr .u8 (Hc .u8 ((f).toNat : Int) 4) (IntKind.wrap .u8 c))))).bind fun g => (d g (IntKind.wrap .i64 (a + 1))))))))) (some (b, true)))
def Zx (p1 : (List UInt8)) : Nat → (List UInt8) → Int → Option ((List UInt8) × Bool)
  | 0, _, _ => none
  | f + 1, a, b => Zj  (Zx p1 f) p1 a b
def J9 (p1 : (List UInt8)) : Option ((List UInt8) × Bool) :=
  (cond (decide ((Int.tmod ((List.length p1 : Nat) : Int) 2) > 0)) (some (([] : List UInt8), false)) ((chk (decide (0 ≤ (IntKind.wrap .i64 (Int.tdiv ((List.length p1 : Nat) : Int) 2)) ∧ (IntKind.wrap .i64 (Int.tdiv ((List.length p1 : Nat) : Int) 2)) ≤ 2147483648))).bind fun _ => ((some (List.replicate (Int.toNat (IntKind.wrap .i64 (Int.tdiv ((List.length p1 : Nat) : Int) 2))) ((0 : UInt8) : UInt8))).bind fun l7 => (Zx p1 Xx l7 0))))
set_option maxHeartbeats 40000000 in
theorem D4  (p1 : (List UInt8)) (w0 : World)  (r : ((List UInt8) × Bool)) (H : J9 p1 = some r) :
  Calls Tryz.prog 161 #[(.string ⟨List.toArray p1⟩)] w0 (fun e w' => ∃ (A2 : Option Addr) (c3 : Nat), e = .returned (.tuple #[(.slice A2 (List.length r.1) c3), (.bool r.2)]) ∧ SP [] w0 w' [Q6 5 eU8 A2 c3 r.1]) := by
 unfold J9 at H
 refine Qv (n := 41) Tryz.func161 K K K ?_
 have a4 := Q1 [] w0
 refine aQ ?_
 refine aR ?_
 refine iR 2 2 [(2, (.slice none (List.length ([] : List UInt8)) 0)), (3, (.bool false))] ?_
 refine iF ?_
 refine aQ ?_
 refine aQ ?_
 refine aR ?_
 refine iR 4 4 [(7, (.string ⟨List.toArray p1⟩)), (8, (.int .i64 ((List.length p1 : Nat) : Int))), (9, (.int .i64 (Int.tmod ((List.length p1 : Nat) : Int) 2))), (10, (.bool (decide ((Int.tmod ((List.length p1 : Nat) : Int) 2) > 0))))] ?_
 refine iF ?_
 refine Xe K (o := (.tmp 10)) K (b := (decide ((Int.tmod ((List.length p1 : Nat) : Int) 2) > 0))) K (fun a1 => ?_) (fun a1 => ?_)
 ·have H := ct H a1
  refine aQ ?_
  refine aR ?_
  refine iR 2 2 [(2, (.slice none (List.length ([] : List UInt8)) 0)), (3, (.bool false))] ?_
  refine iF ?_
  refine At.ret K ?_
  have b3 : SP [] w0 w0 [Q6 5 eU8 none 0 ([] : List UInt8)] := Nx a4 5 eU8
  refine ⟨(.tuple #[(.slice none (List.length ([] : List UInt8)) 0), (.bool false)]), K, ?_⟩
  obtain rfl := Qg H
  exact ⟨none, 0, rfl, SP.sel b3 [0] rfl rfl⟩
 ·have H := cf H a1
  refine At.skip K ?_
  refine aQ ?_
  refine aR ?_
  refine iR 3 3 [(11, (.string ⟨List.toArray p1⟩)), (12, (.int .i64 ((List.length p1 : Nat) : Int))), (13, (.int .i64 (IntKind.wrap .i64 (Int.tdiv ((List.length p1 : Nat) : Int) 2))))] ?_
  obtain ⟨hl8, H⟩ := G5 H
  obtain ⟨l7, hyl7, H⟩ := Zs H
  refine iS 4 ?_
  refine C9 (e := eU8) (l' := l7) (z := (0 : UInt8)) (v := (.int .u8 0)) (b := 1) (T := 48) (E := 5) (x := (.tmp 13)) (y := (.tmp 13)) (k1 := .i64) (k2 := .i64) (iz := (IntKind.wrap .i64 (Int.tdiv ((List.length p1 : Nat) : Int) 2))) (d := (some 14)) (k := 3) K rfl K K K K K rfl rfl rfl hl8 a4 hyl7 ?_
  intro g9 b4 a5 d1
  have b5 : SP [] w0 b4 [Q6 5 eU8 (some ⟨g9, 0, none⟩) (Int.toNat (IntKind.wrap .i64 (Int.tdiv ((List.length p1 : Nat) : Int) 2))) l7] := a5
  clear a5
  refine iR 1 5 [(4, (.slice (some ⟨g9, 0, none⟩) (List.length l7) (Int.toNat (IntKind.wrap .i64 (Int.tdiv ((List.length p1 : Nat) : Int) 2)))))] ?_
  refine iF ?_
  refine aQ ?_
  refine aQ ?_
  refine aR ?_
  refine iR 3 3 [(15, (.string ⟨List.toArray p1⟩)), (16, (.int .i64 ((List.length p1 : Nat) : Int))), (17, (.int .i64 0))] ?_
  refine iF ?_
  refine Y0 K (id := 0) K ?_
  refine G3 K (fun f1 ρ w => ∃ (m : (List UInt8)) (f : Int) (g : Option Addr) (h : Nat), Zm ρ [(0, (.string ⟨List.toArray p1⟩)), (4, (.slice g (List.length m) h)), (16, (.int .i64 ((List.length p1 : Nat) : Int))), (17, (.int .i64 f))] ∧ SP [] w0 w [Q6 5 eU8 g h m] ∧ Zx p1 f1 m f = some r) (by rintro ρ w ⟨m, f, g, h, hk, hs, H⟩; cases H) ?_ Xx ?_
  ·rintro f1 ρ b6 ⟨m, f, g, h, hk, a6, H⟩
   refine At.known [(0, (.string ⟨List.toArray p1⟩)), (4, (.slice g (List.length m) h)), (16, (.int .i64 ((List.length p1 : Nat) : Int))), (17, (.int .i64 f))] hk ?_
   replace H := (show Zj (Zx p1 f1) p1 m f = some r from H)
   unfold Zj at H
   refine aQ ?_
   refine aR ?_
   refine iR 1 1 [(18, (.bool (decide (f < ((List.length p1 : Nat) : Int)))))] ?_
   refine iF ?_
   refine aQ ?_
   refine Xe K (o := (.tmp 18)) K (b := (decide (f < ((List.length p1 : Nat) : Int)))) K (fun a2 => ?_) (fun a2 => ?_)
   ·have H := ct H a2
    refine At.skip K ?_
    refine aQ ?_
    refine Y0 K (id := 1) K ?_
    refine aQ ?_
    refine aR ?_
    refine iR 2 2 [(19, (.int .i64 f)), (5, (.int .i64 f))] ?_
    refine iF ?_
    refine aQ ?_
    refine aR ?_
    refine iR 2 2 [(20, (.string ⟨List.toArray p1⟩)), (21, (.int .i64 f))] ?_
    obtain ⟨a7, b7, d2, b8, H⟩ := Ve H
    refine iS 3 ?_
    refine Ux (a := p1) (u := a7) (T := 9) (x := (.tmp 20)) (ix := (.tmp 21)) (ki := .i64) (iz := f) (d := (some 22)) (k := 2) K rfl K K K b7 b8 ?_
    obtain ⟨p, b9, H⟩ := Qd H
    refine iS 4 ?_
    refine cF 89 #[(.const (.string ⟨List.toArray ([48, 49, 50, 51, 52, 53, 54, 55, 56, 57, 97, 98, 99, 100, 101, 102] : List UInt8)⟩)), (.tmp 22)] #[9, 5] 23 Tryz.call89 (Gt  ([48, 49, 50, 51, 52, 53, 54, 55, 56, 57, 97, 98, 99, 100, 101, 102] : List UInt8) a7 b6  p b9) ?_
    rintro e c0 ⟨rfl, a8⟩
    refine ⟨_, rfl, ?_⟩
    have s := SP.call a6 a8
    clear a8
    refine iR 1 5 [(6, (.int .i64 p))] ?_
    refine iF ?_
    refine aQ ?_
    refine aQ ?_
    refine aR ?_
    refine iR 2 2 [(24, (.int .i64 p)), (25, (.bool (decide (p < 0))))] ?_
    refine iF ?_
    refine Xe K (o := (.tmp 25)) K (b := (decide (p < 0))) K (fun a3 => ?_) (fun a3 => ?_)
    ·have H := ct H a3
     refine aQ ?_
     refine aR ?_
     refine iR 2 2 [(2, (.slice none (List.length ([] : List UInt8)) 0)), (3, (.bool false))] ?_
     refine iF ?_
     refine At.ret K ?_
     have c1 : SP [] w0 c0 [Q6 5 eU8 g h m, Q6 5 eU8 none 0 ([] : List UInt8)] := Nx s 5 eU8
     refine ⟨(.tuple #[(.slice none (List.length ([] : List UInt8)) 0), (.bool false)]), K, ?_⟩
     obtain rfl := Qg H
     exact ⟨none, 0, rfl, SP.sel c1 [1] rfl rfl⟩
    ·have H := cf H a3
     refine At.skip K ?_
     refine aR ?_
     refine iR 6 6 [(26, (.slice g (List.length m) h)), (27, (.int .i64 f)), (28, (.int .i64 (IntKind.wrap .i64 (Int.tdiv f 2)))), (29, (.slice g (List.length m) h)), (30, (.int .i64 f)), (31, (.int .i64 (IntKind.wrap .i64 (Int.tdiv f 2))))] ?_
     obtain ⟨q, a9, b0, c2, H⟩ := Ve H
     refine iS 7 ?_
     refine Qn (e := eU8) (l := m) (A := g) (c := h) (T := 48) (E := 5) (x := (.tmp 29)) (ix := (.tmp 31)) (ki := .i64) (iz := (IntKind.wrap .i64 (Int.tdiv f 2))) (d := (some 32)) (k := 6) K rfl K K K K (Vg (SP.get s (i := 0) rfl)) a9 b0 ?_
     intro c4 c5 c6 d3 hc153
     refine iS 8 ?_
     refine sC 5 32 c4 (c5 + Int.toNat (IntKind.wrap .i64 (Int.tdiv f 2)) * eU8.sz) (.int .u8 ((q).toNat : Int)) 33 (Qw (e := eU8) (Qj (Vg (SP.get s (i := 0) rfl)) c6 a9 b0) c2 (j := 0) rfl) ?_
     refine iR 4 12 [(34, (.int .u8 (Hc .u8 ((q).toNat : Int) 4))), (35, (.int .i64 p)), (36, (.int .u8 (IntKind.wrap .u8 p))), (37, (.int .u8 (bOr .u8 (Hc .u8 ((q).toNat : Int) 4) (IntKind.wrap .u8 p))))] ?_
     obtain ⟨d4, b1, b2, d5, H⟩ := Ve H
     refine iS 13 ?_
     refine Qn (e := eU8) (l := m) (A := g) (c := h) (T := 48) (E := 5) (x := (.tmp 26)) (ix := (.tmp 28)) (ki := .i64) (iz := (IntKind.wrap .i64 (Int.tdiv f 2))) (d := (some 38)) (k := 12) K rfl K K K K (Vg (SP.get s (i := 0) rfl)) b1 b2 ?_
     intro c7 c8 c9 d6 hc162
     obtain ⟨a0, hyl165, H⟩ := Zs H
     have hnl165 : List.length a0 = List.length m := by rw [← hyl165, List.length_set]
     refine iS 14 ?_
     refine J3 (e := eU8) (t := 5) (E := 5) (x := (.tmp 38)) (y := (.tmp 37)) (A := g) (c := h) (l := m) (iz := (IntKind.wrap .i64 (Int.tdiv f 2))) (b := c7) (off := c8) (i := 0) (v := (.int .u8 (bOr .u8 (Hc .u8 ((q).toNat : Int) 4) (IntKind.wrap .u8 p)))) (x' := (Ug (bOr .u8 (Hc .u8 ((q).toNat : Int) 4) (IntKind.wrap .u8 p)))) (d := none) (k := 13) K rfl K K s rfl c9 rfl b2 b1 (by show [Value.int .u8 (((Ug (bOr .u8 (Hc .u8 ((q).toNat : Int) 4) (IntKind.wrap .u8 p)))).toNat : Int)] = _; rw [Fw (u8_or _ _)]) K ?_
     rw [hyl165]
     intro d7 d0
     refine In.known [(4, (.slice g (List.length a0) h)), (26, (.slice g (List.length a0) h)), (29, (.slice g (List.length a0) h))] ⟨(by rw [hnl165]; kernel_rfl), (by rw [hnl165]; kernel_rfl), (by rw [hnl165]; kernel_rfl), trivial⟩ ?_
     refine iF ?_
     refine aR ?_
     refine iR 2 2 [(39, (.int .i64 (IntKind.wrap .i64 (f + 1)))), (17, (.int .i64 (IntKind.wrap .i64 (f + 1))))] ?_
     refine iF ?_
     exact ⟨a0, (IntKind.wrap .i64 (f + 1)), g, h, ⟨K, K, K, K, trivial⟩, SP.sel d0 [0] rfl rfl, H⟩
   ·have H := cf H a2
    refine At.exit K (id := 0) K ?_
    refine aQ ?_
    refine aR ?_
    refine iR 3 3 [(40, (.slice g (List.length m) h)), (2, (.slice g (List.length m) h)), (3, (.bool true))] ?_
    refine iF ?_
    refine At.ret K ?_
    refine ⟨(.tuple #[(.slice g (List.length m) h), (.bool true)]), K, ?_⟩
    obtain rfl := Qg H
    exact ⟨g, h, rfl, SP.sel a6 [0] rfl rfl⟩
  ·exact ⟨l7, 0, (some ⟨g9, 0, none⟩), (Int.toNat (IntKind.wrap .i64 (Int.tdiv ((List.length p1 : Nat) : Int) 2))), ⟨K, K, K, K, trivial⟩, SP.sel b5 [0] rfl rfl, H⟩
end Go.Proofs.YtoflbpmbkmephaaGreatDoor
namespace Go.Proofs.YtoflbpmbkmephaaGreatDoor
open Go.RowKit
theorem bShr_nat (k : IntKind) (a b : Nat) (hb : b ≤ k.bits) : Ih k (a : Int) (b : Int) = ((a / 2 ^ b : Nat) : Int) := by
  unfold Ih
  rw [Int.toNat_natCast, Nat.min_eq_left hb, Int.fdiv_eq_ediv_of_nonneg _ (by exact Int.le_of_lt (Int.pow_pos (by omega)))]
  have : ((2 : Int) ^ b) = ((2 ^ b : Nat) : Int) := by push_cast; rfl
  rw [this]
  rfl
theorem Bm {α : Type} (l : List α) (i : Nat) (d : α) (h : i < l.length) : idx l (i : Int) = some (l.getD i d) := by rw [Y3 h]; simp [List.getD, h]
def N5 : List UInt8 := [48, 49, 50, 51, 52, 53, 54, 55, 56, 57, 97, 98, 99, 100, 101, 102]
def hexC (c : UInt8) : List UInt8 := [N5.getD (c.toNat / 16) 0, N5.getD (c.toNat % 16) 0]
def Fh (b : List UInt8) : List UInt8 := b.flatMap hexC
theorem N6 : ∀ b : List UInt8, (Fh b).length = 2 * b.length
  | [] => rfl
  | c :: b => by
    have := N6 b
    simp [Fh, hexC] at *
    omega
theorem hexL_snoc (b : List UInt8) (c : UInt8) : Fh (b ++ [c]) = Fh b ++ hexC c := by simp [Fh]
theorem take_snoc {α : Type} (l : List α) (i : Nat) (d : α) (h : i < l.length) : l.take (i + 1) = l.take i ++ [l.getD i d] := by
  rw [List.take_add_one, List.getElem?_eq_getElem h]
  simp [List.getD, h]
theorem hi_prog (c : UInt8) : Ih .u8 ((c.toNat : Nat) : Int) 4 = ((c.toNat / 16 : Nat) : Int) := bShr_nat .u8 c.toNat 4 (by decide)
theorem lo_prog (c : UInt8) : bAnd .u8 ((c.toNat : Nat) : Int) 15 = ((c.toNat % 16 : Nat) : Int) := by
  have h := c.toNat_lt
  unfold bAnd
  have : (BitVec.ofInt 8 ((c.toNat : Nat) : Int) &&& BitVec.ofInt 8 15).toNat = c.toNat % 16 := by
    rw [BitVec.toNat_and, BitVec.ofInt_natCast, BitVec.toNat_ofNat, Nat.mod_eq_of_lt (by omega)]
    show c.toNat &&& 15 = _
    exact Nat.and_two_pow_sub_one_eq_mod c.toNat 4
  show IntKind.wrap .u8 ((BitVec.ofInt 8 ((c.toNat : Nat) : Int) &&& BitVec.ofInt 8 15).toNat : Int) = _
  rw [this, wrap8]
  omega
theorem H6 : N5.length = 16 := rfl
def hexS (b : List UInt8) (i : Nat) : List UInt8 := Fh (b.take i) ++ List.replicate (2 * b.length - 2 * i) 0
theorem I7 (b : List UInt8) (i : Nat) (h : i ≤ b.length) : (hexS b i).length = 2 * b.length := by
  simp [hexS, N6]
  omega
theorem hexS_next (b : List UInt8) (i : Nat) (h : i < b.length) : ((hexS b i).set (2 * i) (N5.getD ((b.getD i 0).toNat / 16) 0)).set (2 * i + 1) (N5.getD ((b.getD i 0).toNat % 16) 0) = hexS b (i + 1) := by
  have hl : (Fh (b.take i)).length = 2 * i := by rw [N6, List.length_take]; omega
  unfold hexS
  rw [show 2 * b.length - 2 * i = (2 * b.length - 2 * (i + 1)) + 1 + 1 by omega, List.replicate_succ, List.replicate_succ]
  rw [List.set_append_right _ _ (by omega), List.set_append_right _ _ (by omega), hl, Nat.sub_self, show 2 * i + 1 - 2 * i = 1 by omega]
  rw [take_snoc b i 0 h, hexL_snoc]
  simp [hexC]
theorem F5 (b : List UInt8) (hb : b.length ≤ 1000000) : ∀ (d i f : Nat), d = b.length - i → i ≤ b.length → d < f → X9 b f (hexS b i) (i : Int) = some (Fh b) := by
  intro d
  induction d with
  | zero =>
    intro i f hd hi hf
    obtain ⟨f, rfl⟩ : ∃ g, f = g + 1 := ⟨f - 1, by omega⟩
    have : i = b.length := by omega
    subst this
    show X8 (X9 b f) b (hexS b b.length) ((b.length : Nat) : Int) = _
    unfold X8
    rw [show decide (((b.length : Nat) : Int) < ((b.length : Nat) : Int)) = false by simp, cond_false]
    unfold hexS
    rw [List.take_length, Nat.sub_self]
    simp
  | succ d ih =>
    intro i f hd hi hf
    obtain ⟨f, rfl⟩ : ∃ g, f = g + 1 := ⟨f - 1, by omega⟩
    show X8 (X9 b f) b (hexS b i) (i : Int) = _
    unfold X8
    have hl := I7 b i (by omega)
    rw [show decide ((i : Int) < ((b.length : Nat) : Int)) = true by simp; omega, cond_true, Bm b i 0 (by omega)]
    have hlt := (b.getD i 0).toNat_lt
    have e1 : idx ([48, 49, 50, 51, 52, 53, 54, 55, 56, 57, 97, 98, 99, 100, 101, 102] : List UInt8) (((b.getD i 0).toNat / 16 : Nat) : Int) = some (N5.getD ((b.getD i 0).toNat / 16) 0) := Bm N5 _ 0 (by rw [H6]; omega)
    have e2 : idx ([48, 49, 50, 51, 52, 53, 54, 55, 56, 57, 97, 98, 99, 100, 101, 102] : List UInt8) (((b.getD i 0).toNat % 16 : Nat) : Int) = some (N5.getD ((b.getD i 0).toNat % 16) 0) := Bm N5 _ 0 (by rw [H6]; omega)
    have w2 : IntKind.wrap .i64 (2 * (i : Int)) = ((2 * i : Nat) : Int) := by rw [show (2 * (i : Int)) = ((2 * i : Nat) : Int) by omega, J5 (by omega)]
    have w3 : IntKind.wrap .i64 (((2 * i : Nat) : Int) + 1) = ((2 * i + 1 : Nat) : Int) := by rw [show (((2 * i : Nat) : Int) + 1) = ((2 * i + 1 : Nat) : Int) by omega, J5 (by omega)]
    have w4 : IntKind.wrap .i64 ((i : Int) + 1) = ((i + 1 : Nat) : Int) := by rw [show ((i : Int) + 1) = ((i + 1 : Nat) : Int) by omega, J5 (by omega)]
    simp only [Option.bind_some, hi_prog, lo_prog, e1, e2, w2, w3, w4]
    rw [Bm _ (2 * i) 0 (by omega), Option.bind_some, Bm _ (2 * i + 1) 0 (by simp; omega), Option.bind_some, Int.toNat_natCast, Int.toNat_natCast, hexS_next b i (by omega)]
    exact ih (i + 1) f (by omega) (by omega) (by omega)
theorem prog_hex (b : List UInt8) (hb : b.length ≤ 1000000) : Nd b = some (Fh b) := by
  unfold Nd
  rw [show (2 * ((b.length : Nat) : Int)) = ((2 * b.length : Nat) : Int) by omega, J5 (by omega), show decide (0 ≤ ((2 * b.length : Nat) : Int) ∧ ((2 * b.length : Nat) : Int) ≤ 2147483648) = true from decide_eq_true ⟨by omega, by omega⟩]
  simp only [chk, Option.bind_some, Int.toNat_natCast]
  have := F5 b hb b.length 0 Xx (by omega) (by omega) (by unfold Xx; omega)
  have h0 : hexS b 0 = List.replicate (2 * b.length) 0 := by simp [hexS, Fh]
  rw [h0] at this
  exact this
def Ii (c : UInt8) : Option Nat := if 48 ≤ c.toNat ∧ c.toNat ≤ 57 then some (c.toNat - 48) else if 97 ≤ c.toNat ∧ c.toNat ≤ 102 then some (c.toNat - 87) else none
def Uf : List UInt8 → Option (List UInt8)
  | [] => some []
  | [_] => none
  | a :: b :: r => match Ii a, Ii b with
    | some x, some y => (Uf r).map fun l => UInt8.ofNat (16 * x + y) :: l
    | _, _ => none
def unhexD (x : Option (List UInt8)) : List UInt8 × Bool := match x with | none => ([], false) | some l => (l, true)
theorem of_fin {p : UInt8 → Prop} (h : ∀ n : Fin 256, p (UInt8.ofNat n.val)) (c : UInt8) : p c := by
  have e := h ⟨c.toNat, c.toNat_lt⟩
  have : UInt8.ofNat c.toNat = c := by simp
  rwa [this] at e
theorem F6 {c : UInt8} {x : Nat} (h : Ii c = some x) : x < 16 := by
  unfold Ii at h
  split at h
  · injection h with h; omega
  · split at h
    · injection h with h; omega
    · cases h
theorem ix_dig (c : UInt8) : Lib.indexByte N5 c = match Ii c with | some x => (x : Int) | none => -1 :=
  of_fin (p := fun c => Lib.indexByte N5 c = match Ii c with | some x => (x : Int) | none => -1) (by decide +kernel) c
theorem F7 {x : Nat} (h : x < 16) : Ii (N5.getD x 0) = some x := (by decide +kernel : ∀ n : Fin 16, Ii (N5.getD n.val 0) = some n.val) ⟨x, h⟩
theorem hex_dig (c : UInt8) : ∀ x, Ii c = some x → N5.getD x 0 = c :=
  fun x h => by
    have := of_fin (p := fun c => ((Ii c).map fun x => N5.getD x 0) = (Ii c).map fun _ => c) (by decide +kernel) c
    rw [h] at this
    exact Option.some.inj this
theorem hex_pair {x y : Nat} (hx : x < 16) (hy : y < 16) : hexC (UInt8.ofNat (16 * x + y)) = [N5.getD x 0, N5.getD y 0] :=
  (by decide +kernel : ∀ n m : Fin 16, hexC (UInt8.ofNat (16 * n.val + m.val)) = [N5.getD n.val 0, N5.getD m.val 0]) ⟨x, hx⟩ ⟨y, hy⟩
theorem pair_hex (c : UInt8) : UInt8.ofNat (16 * (c.toNat / 16) + c.toNat % 16) = c := by
  rw [Nat.div_add_mod]
  simp
theorem H7 : ∀ b : List UInt8, Uf (Fh b) = some b
  | [] => rfl
  | c :: b => by
    have hl := c.toNat_lt
    show Uf (N5.getD (c.toNat / 16) 0 :: N5.getD (c.toNat % 16) 0 :: Fh b) = _
    simp only [Uf, F7 (show c.toNat / 16 < 16 by omega), F7 (show c.toNat % 16 < 16 by omega), H7 b, Option.map_some, pair_hex]
theorem Fi : ∀ {s b : List UInt8}, Uf s = some b → Fh b = s
  | [], b, h => by injection h with h; subst h; rfl
  | [_], b, h => by cases h
  | a :: c :: r, b, h => by
    simp only [Uf] at h
    cases hx : Ii a with
    | none => rw [hx] at h; cases h
    | some x =>
      cases hy : Ii c with
      | none => rw [hx, hy] at h; cases h
      | some y =>
        rw [hx, hy] at h
        simp only [Option.map_eq_some_iff] at h
        obtain ⟨l, hl, rfl⟩ := h
        show hexC _ ++ Fh l = _
        rw [hex_pair (F6 hx) (F6 hy), Fi hl, hex_dig a x hx, hex_dig c y hy]
        rfl
theorem Fj {s b : List UInt8} (h : Uf s = some b) : s.length = 2 * b.length := by rw [← Fi h, N6]
theorem Lj {s : List UInt8} (h : s.length % 2 = 1) : Uf s = none := by
  cases hu : Uf s with
  | none => rfl
  | some b => have := Fj hu; omega
theorem set_mid {α : Type} (l r : List α) (x y : α) (k : Nat) (h : l.length = k) : (l ++ x :: r).set k y = l ++ y :: r := by
  subst h
  simp
theorem get_mid {α : Type} (l r : List α) (x : α) (k : Nat) (h : l.length = k) : (l ++ x :: r)[k]? = some x := by
  subst h
  simp
theorem drop_two {α : Type} {l : List α} {i : Nat} (h : i + 1 < l.length) : l.drop i = l[i] :: l[i + 1] :: l.drop (i + 2) := by
  rw [List.drop_eq_getElem_cons (by omega), List.drop_eq_getElem_cons h]
theorem or_hi {x : Nat} (hx : x < 16) : Ug (bOr .u8 (Hc .u8 (((0 : UInt8).toNat : Nat) : Int) 4) (IntKind.wrap .u8 (x : Int))) = UInt8.ofNat x :=
  (by decide +kernel : ∀ n : Fin 16, Ug (bOr .u8 (Hc .u8 (((0 : UInt8).toNat : Nat) : Int) 4) (IntKind.wrap .u8 ((n.val : Nat) : Int))) = UInt8.ofNat n.val) ⟨x, hx⟩
theorem or_lo {x y : Nat} (hx : x < 16) (hy : y < 16) : Ug (bOr .u8 (Hc .u8 (((UInt8.ofNat x).toNat : Nat) : Int) 4) (IntKind.wrap .u8 (y : Int))) = UInt8.ofNat (16 * x + y) :=
  (by decide +kernel : ∀ n m : Fin 16, Ug (bOr .u8 (Hc .u8 (((UInt8.ofNat n.val).toNat : Nat) : Int) 4) (IntKind.wrap .u8 ((m.val : Nat) : Int))) = UInt8.ofNat (16 * n.val + m.val)) ⟨x, hx⟩ ⟨y, hy⟩
theorem Ec (s : List UInt8) (hs : s.length ≤ 1000000) : ∀ (n k f : Nat) (dec : List UInt8), s.length = 2 * k + 2 * n → dec.length = k → 2 * n < f →
    Zx s f (dec ++ List.replicate n 0) ((2 * k : Nat) : Int) = some (match Uf (s.drop (2 * k)) with | some l => (dec ++ l, true) | none => ([], false)) := by
  intro n
  induction n with
  | zero =>
    intro k f dec h1 h2 h3
    obtain ⟨f, rfl⟩ : ∃ g, f = g + 1 := ⟨f - 1, by omega⟩
    show Zj (Zx s f) s _ _ = _
    unfold Zj
    rw [show decide (((2 * k : Nat) : Int) < ((s.length : Nat) : Int)) = false by rw [decide_eq_false_iff_not]; omega, List.drop_of_length_le (by omega)]
    simp [Uf]
  | succ n ih =>
    intro k f dec h1 h2 h3
    obtain ⟨f, rfl⟩ : ∃ g, f = g + 1 + 1 := ⟨f - 2, by omega⟩
    have t0 : IntKind.wrap .i64 (Int.tdiv ((2 * k : Nat) : Int) 2) = (k : Int) := by
      have := F2 (2 * k) 2
      rw [show ((2 : Nat) : Int) = 2 from rfl] at this
      rw [this, show 2 * k / 2 = k by omega]
      exact J5 (by omega)
    have t1 : IntKind.wrap .i64 (Int.tdiv ((2 * k + 1 : Nat) : Int) 2) = (k : Int) := by
      have := F2 (2 * k + 1) 2
      rw [show ((2 : Nat) : Int) = 2 from rfl] at this
      rw [this, show (2 * k + 1) / 2 = k by omega]
      exact J5 (by omega)
    have w0 : IntKind.wrap .i64 (((2 * k : Nat) : Int) + 1) = ((2 * k + 1 : Nat) : Int) := by rw [Jk (by omega)]; omega
    have w1 : IntKind.wrap .i64 (((2 * k + 1 : Nat) : Int) + 1) = ((2 * (k + 1) : Nat) : Int) := by rw [Jk (by omega)]; omega
    have i0 : idx s ((2 * k : Nat) : Int) = some (s[2 * k]'(by omega)) := Y3 (by omega)
    have i1 : idx s ((2 * k + 1 : Nat) : Int) = some (s[2 * k + 1]'(by omega)) := Y3 (by omega)
    have e0 : ∀ (x : UInt8) (r : List UInt8), idx (dec ++ x :: r) (k : Int) = some x := fun x r => by rw [Dy]; exact get_mid dec r x k h2
    rw [drop_two (show 2 * k + 1 < s.length by omega)]
    show Zj (Zx s (f + 1)) s _ _ = _
    unfold Zj
    rw [show decide (((2 * k : Nat) : Int) < ((s.length : Nat) : Int)) = true by rw [decide_eq_true_eq]; omega, i0, t0, w0]
    simp only [cond_true, Option.bind_some, X6]
    rw [show Lib.indexByte [48, 49, 50, 51, 52, 53, 54, 55, 56, 57, 97, 98, 99, 100, 101, 102] (s[2 * k]'(by omega)) = _ from ix_dig _]
    cases ha : Ii (s[2 * k]'(by omega)) with
    | none => simp [Uf, ha]
    | some x =>
      have hx := F6 ha
      rw [show decide ((x : Int) < 0) = false by rw [decide_eq_false_iff_not]; omega, show List.replicate (n + 1) (0 : UInt8) = 0 :: List.replicate n 0 from rfl]
      simp only [cond_false, e0, Option.bind_some, Int.toNat_natCast]
      rw [set_mid dec _ _ _ k h2, or_hi hx]
      show Zj (Zx s f) s _ _ = _
      unfold Zj
      rw [show decide (((2 * k + 1 : Nat) : Int) < ((s.length : Nat) : Int)) = true by rw [decide_eq_true_eq]; omega, i1, t1, w1]
      simp only [cond_true, Option.bind_some, X6]
      rw [show Lib.indexByte [48, 49, 50, 51, 52, 53, 54, 55, 56, 57, 97, 98, 99, 100, 101, 102] (s[2 * k + 1]'(by omega)) = _ from ix_dig _]
      cases hb : Ii (s[2 * k + 1]'(by omega)) with
      | none => simp [Uf, ha, hb]
      | some y =>
        have hy := F6 hb
        rw [show decide ((y : Int) < 0) = false by rw [decide_eq_false_iff_not]; omega]
        simp only [cond_false, e0, Option.bind_some, Int.toNat_natCast]
        rw [set_mid dec _ _ _ k h2, or_lo hx hy]
        have := ih (k + 1) f (dec ++ [UInt8.ofNat (16 * x + y)]) (by omega) (by simp [h2]) (by omega)
        rw [List.append_assoc, List.singleton_append] at this
        rw [this, show 2 * (k + 1) = 2 * k + 2 by omega]
        simp only [Uf, ha, hb]
        cases Uf (s.drop (2 * k + 2)) <;> simp
theorem Lk (s : List UInt8) (hs : s.length ≤ 1000000) : J9 s = some (unhexD (Uf s)) := by
  unfold J9
  have tm := Kj s.length 2
  rw [show ((2 : Nat) : Int) = 2 from rfl] at tm
  have td := F2 s.length 2
  rw [show ((2 : Nat) : Int) = 2 from rfl] at td
  rw [tm, td, J5 (show s.length / 2 < 4611686018427387904 by omega)]
  by_cases ho : s.length % 2 = 1
  · rw [show decide (((s.length % 2 : Nat) : Int) > 0) = true by rw [decide_eq_true_eq]; omega, Lj ho]
    rfl
  · rw [show decide (((s.length % 2 : Nat) : Int) > 0) = false by rw [decide_eq_false_iff_not]; omega, show decide (0 ≤ ((s.length / 2 : Nat) : Int) ∧ ((s.length / 2 : Nat) : Int) ≤ 2147483648) = true by rw [decide_eq_true_eq]; omega]
    simp only [cond_false, chk, if_true, Option.bind_some, Int.toNat_natCast]
    have := Ec s hs (s.length / 2) 0 Xx [] (by omega) rfl (by unfold Xx; omega)
    rw [List.nil_append] at this
    refine this.trans ?_
    rw [List.drop_zero]
    cases Uf s <;> rfl
end Go.Proofs.YtoflbpmbkmephaaGreatDoor
