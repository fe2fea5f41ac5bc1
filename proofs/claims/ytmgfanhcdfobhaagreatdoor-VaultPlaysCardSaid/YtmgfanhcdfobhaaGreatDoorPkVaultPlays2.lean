import Derived.Test.YtmgfanhcdfobhaaGreatDoorPkVaultPlays1
set_option linter.unusedSimpArgs false
set_option linter.unusedVariables false
set_option linter.unusedSectionVars false
namespace Go.Proofs.YtmgfanhcdfobhaaGreatDoor
open Go.RowKit
def U0 (v5 : Bool) : Option (Bool) :=
  (some (v5))
def Y5 (p1 : Int) (p2 : Int) (p3 : Int) : Option (Bool) :=
  (cond (decide (p1 ≥ p2)) (U0 (decide (p1 ≤ p3))) (U0 false))
set_option maxRecDepth 100000 in
set_option maxHeartbeats 4000000 in
theorem J8  (p1 : Int) (p2 : Int) (p3 : Int) (w0 : World)  (r : (Bool)) (H : Y5 p1 p2 p3 = some r) :
  Calls Tryz.prog 59 #[(.int .i64 p1), (.int .i64 p2), (.int .i64 p3)] w0 (fun e w' => e = .returned (.bool r) ∧ SP [] w0 w' []) := by
 unfold Y5 at H
 refine Qu (n := 15) Tryz.func59 K K K ?_
 have c := Q1 [] w0
 refine aQ ?_
 refine aR ?_
 refine iR 1 1 [(6, (.bool false))] ?_
 refine iF ?_
 refine aQ ?_
 refine At.join (fun ρ w => ∃ (v5 : Bool), V3 ρ [(6, (.bool v5))] ∧ SP [] w0 w [] ∧ U0 v5 = some r) ?_ ?_
 ·refine aR ?_
  refine iR 4 4 [(7, (.int .i64 p1)), (8, (.int .i64 p2)), (9, (.bool (decide (p1 ≥ p2)))), (10, (.bool (decide (p1 ≥ p2))))] ?_
  refine In.guard (t := 10) (b := (decide (p1 ≥ p2))) K (fun a => ?_) (fun a => ?_)
  ·have H := ct H a
   refine iR 5 9 [(11, (.int .i64 p1)), (12, (.int .i64 p3)), (13, (.bool (decide (p1 ≤ p3)))), (14, (.bool (decide (p1 ≤ p3)))), (6, (.bool (decide (p1 ≤ p3))))] ?_
   refine iF ?_
   exact ⟨(decide (p1 ≤ p3)), ⟨K, trivial⟩, SP.sel c [] rfl rfl, H⟩
  ·have H := cf H a
   refine iR 5 9 [(11, undef), (12, undef), (13, undef), (14, (.bool false)), (6, (.bool false))] ?_
   refine iF ?_
   exact ⟨false, ⟨K, trivial⟩, SP.sel c [] rfl rfl, H⟩
 ·rintro ρ w6 ⟨v5, hk, d, H⟩
  unfold U0 at H
  first | refine At.known [(6, (.bool v5))] hk ?_ | rw [← Qz (l := [(6, (.bool v5))]) hk]
  refine At.ret K ?_
  refine ⟨(.bool v5), K, ?_⟩
  obtain rfl := Qh H
  exact ⟨rfl, SP.sel d [] rfl rfl⟩
def Vd (c : Int → Option (Int)) (p1 : (List (Int × Int))) (p5 : (Int → Int → Option (Bool))) (a : Int) : Option (Int) :=
  (cond (decide (a < ((List.length p1 : Nat) : Int))) ((idx p1 a).bind fun b => ((p5 b.1 b.2).bind fun d => (cond d (some (a)) (c (IntKind.wrap .i64 (a + 1)))))) (some ((-1))))
def Q3 (p1 : (List (Int × Int))) (p5 : (Int → Int → Option (Bool))) : Nat → Int → Option (Int)
  | 0, _ => none
  | f + 1, a => Vd  (Q3 p1 p5 f) p1 p5 a
def Xg (p1 : (List (Int × Int))) (p5 : (Int → Int → Option (Bool))) : Option (Int) :=
  (Q3 p1 p5 Zj 0)
set_option maxRecDepth 100000 in
set_option maxHeartbeats 4000000 in
theorem Gf (A2 : Option Addr) (c3 : Nat) (g : FuncId) (h : Array Value) (p1 : (List (Int × Int))) (p5 : (Int → Int → Option (Bool))) (w0 : World) (q : RdT (Qf (Qd .u32) (Qd .i64)) w0 A2 c3 p1) (hcf8 : ∀ (args : Array Value) (w : World), (callFunc g args).run Tryz.prog w = .ok (.enter g args) w) (a1 : ∀ (y0 : Int) (y1 : Int) (z : (Bool)) (w : World), Below w0.heap.size w0 w → p5 y0 y1 = some z → Calls Tryz.prog g (([(.agg #[(.int .u32 y0), (.int .i64 y1)])] : List Value) ++ (h).toList).toArray w (fun e w' => e = .returned (.bool z) ∧ SP [] w w' [])) (r : (Int)) (H : Xg p1 p5 = some r) :
  Calls Tryz.prog 94 #[(.slice A2 (List.length p1) c3), (.func (.func g) #[] h)] w0 (fun e w' => e = .returned (.int .i64 r) ∧ SP [] w0 w' []) := by
 unfold Xg at H
 refine Qu (n := 19) Tryz.func94 K K K ?_
 have a2 := Q1 [] w0
 refine aQ ?_
 refine aR ?_
 refine iR 1 1 [(4, (.int .i64 0))] ?_
 refine iF ?_
 refine aQ ?_
 refine aQ ?_
 refine aR ?_
 refine iR 3 3 [(6, (.slice A2 (List.length p1) c3)), (7, (.int .i64 ((List.length p1 : Nat) : Int))), (8, (.int .i64 0))] ?_
 refine iF ?_
 refine Z1 K (id := 0) K ?_
 refine Nf K (fun f1 ρ w => ∃ (a : Int), V3 ρ [(0, (.slice A2 (List.length p1) c3)), (1, (.func (.func g) #[] h)), (7, (.int .i64 ((List.length p1 : Nat) : Int))), (8, (.int .i64 a))] ∧ SP [] w0 w [] ∧ Q3 p1 p5 f1 a = some r) (by rintro ρ w ⟨a, hk, hs, H⟩; cases H) ?_ Zj ?_
 ·rintro f1 ρ a3 ⟨a, hk, j, H⟩
  refine At.known [(0, (.slice A2 (List.length p1) c3)), (1, (.func (.func g) #[] h)), (7, (.int .i64 ((List.length p1 : Nat) : Int))), (8, (.int .i64 a))] hk ?_
  replace H := (show Vd (Q3 p1 p5 f1) p1 p5 a = some r from H)
  unfold Vd at H
  refine aQ ?_
  refine aR ?_
  refine iR 1 1 [(9, (.bool (decide (a < ((List.length p1 : Nat) : Int)))))] ?_
  refine iF ?_
  refine aQ ?_
  refine Zk K (o := (.tmp 9)) K (b := (decide (a < ((List.length p1 : Nat) : Int)))) K (fun m => ?_) (fun m => ?_)
  ·have H := ct H m
   refine At.skip K ?_
   refine aQ ?_
   refine Z1 K (id := 1) K ?_
   refine aQ ?_
   refine aR ?_
   refine iR 2 2 [(10, (.int .i64 a)), (5, (.int .i64 a))] ?_
   refine iF ?_
   refine aQ ?_
   refine aR ?_
   refine iR 3 3 [(11, (.func (.func g) #[] h)), (12, (.slice A2 (List.length p1) c3)), (13, (.int .i64 a))] ?_
   obtain ⟨i, s, u, a4, H⟩ := Qn H
   refine iS 4 ?_
   refine Ve (e := (Qf (Qd .u32) (Qd .i64))) (l := p1) (A := A2) (c := c3) (T := 41) (E := 113) (x := (.tmp 12)) (ix := (.tmp 13)) (ki := .i64) (iz := a) (d := (some 14)) (k := 3) K rfl K K K K (RdT.sp q j) s u ?_
   intro a5 a6 a7 a9 hc55
   refine iS 5 ?_
   refine Qk.cells (t := 113) (x := (.tmp 14)) (b := a5) (off := (a6 + Int.toNat a * (Qf (Qd .u32) (Qd .i64)).sz)) (xs := [(.int .u32 i.1), (.int .i64 i.2)]) (d := (some 15)) (k := 4) K rfl K K K (Z2 (e := (Qf (Qd .u32) (Qd .i64))) (Qg (RdT.sp q j) a7 s u) a4 rfl) ?_
   obtain ⟨v, a8, H⟩ := Qe H
   refine iS 6 ?_
   refine Ud (f := g) (fo := (.tmp 11)) (xs := #[(.tmp 15)]) (tys := #[113]) (first := #[]) (captured := h) (args := (([(.agg #[(.int .u32 i.1), (.int .i64 i.2)])] : List Value) ++ (h).toList)) (d := (some 16)) (k := 5) K rfl K K hcf8 (a1 i.1 i.2 v a3  (SP.keeps j)  a8) ?_
   rintro e b0 ⟨rfl, y⟩
   refine ⟨_, rfl, ?_⟩
   have a0 := SP.call j y
   clear y
   refine iF ?_
   refine Zk K (o := (.tmp 16)) K (b := v) K (fun p => ?_) (fun p => ?_)
   ·have H := ct H p
    refine aQ ?_
    refine aR ?_
    refine iR 2 2 [(17, (.int .i64 a)), (4, (.int .i64 a))] ?_
    refine iF ?_
    refine At.ret K ?_
    refine ⟨(.int .i64 a), K, ?_⟩
    obtain rfl := Qh H
    exact ⟨rfl, SP.sel a0 [] rfl rfl⟩
   ·have H := cf H p
    refine At.skip K ?_
    refine aR ?_
    refine iR 2 2 [(18, (.int .i64 (IntKind.wrap .i64 (a + 1)))), (8, (.int .i64 (IntKind.wrap .i64 (a + 1))))] ?_
    refine iF ?_
    exact ⟨(IntKind.wrap .i64 (a + 1)), ⟨K, K, K, K, trivial⟩, SP.sel a0 [] rfl rfl, H⟩
  ·have H := cf H m
   refine At.exit K (id := 0) K ?_
   refine aQ ?_
   refine aR ?_
   refine iR 1 1 [(4, (.int .i64 (-1)))] ?_
   refine iF ?_
   refine At.ret K ?_
   refine ⟨(.int .i64 (-1)), K, ?_⟩
   obtain rfl := Qh H
   exact ⟨rfl, SP.sel j [] rfl rfl⟩
 ·exact ⟨0, ⟨K, K, K, K, trivial⟩, SP.sel a2 [] rfl rfl, H⟩
def V7 (p1 : (List (Int × Int))) (p5 : (Int → Int → Option (Bool))) : Option (Bool) :=
  ((Xg p1 p5).bind fun a => (some ((decide (a ≥ 0)))))
set_option maxRecDepth 100000 in
set_option maxHeartbeats 4000000 in
theorem N1 (A2 : Option Addr) (c3 : Nat) (a : FuncId) (b : Array Value) (p1 : (List (Int × Int))) (p5 : (Int → Int → Option (Bool))) (w0 : World) (g : RdT (Qf (Qd .u32) (Qd .i64)) w0 A2 c3 p1) (hcf8 : ∀ (args : Array Value) (w : World), (callFunc a args).run Tryz.prog w = .ok (.enter a args) w) (h : ∀ (y0 : Int) (y1 : Int) (z : (Bool)) (w : World), Below w0.heap.size w0 w → p5 y0 y1 = some z → Calls Tryz.prog a (([(.agg #[(.int .u32 y0), (.int .i64 y1)])] : List Value) ++ (b).toList).toArray w (fun e w' => e = .returned (.bool z) ∧ SP [] w w' [])) (r : (Bool)) (H : V7 p1 p5 = some r) :
  Calls Tryz.prog 77 #[(.slice A2 (List.length p1) c3), (.func (.func a) #[] b)] w0 (fun e w' => e = .returned (.bool r) ∧ SP [] w0 w' []) := by
 unfold V7 at H
 refine Qu (n := 9) Tryz.func77 K K K ?_
 have d := Q1 [] w0
 refine aQ ?_
 refine aR ?_
 refine iR 1 1 [(4, (.bool false))] ?_
 refine iF ?_
 refine aQ ?_
 refine aR ?_
 refine iR 2 2 [(5, (.slice A2 (List.length p1) c3)), (6, (.func (.func a) #[] b))] ?_
 obtain ⟨c, i, H⟩ := Qe H
 refine iS 3 ?_
 refine cF 94 #[(.tmp 5), (.tmp 6)] #[41, 115] 7 Tryz.call94 (Gf A2 c3 a b p1 p5 w0 (RdT.sp g d) hcf8 (fun y0 y1 z w  hw  hz => h y0 y1 z w  (E9 d hw)  hz) c i) ?_
 rintro e k ⟨rfl, f⟩
 refine ⟨_, rfl, ?_⟩
 have j := SP.call d f
 clear f
 refine iR 2 5 [(8, (.bool (decide (c ≥ 0)))), (4, (.bool (decide (c ≥ 0))))] ?_
 refine iF ?_
 refine At.ret K ?_
 refine ⟨(.bool (decide (c ≥ 0))), K, ?_⟩
 obtain rfl := Qh H
 exact ⟨rfl, SP.sel j [] rfl rfl⟩
def Qt (c : Int → Option (Int)) (p1 : (List ((List UInt8) × (List UInt8) × Int))) (p5 : ((List UInt8) → (List UInt8) → Int → Option (Bool))) (a : Int) : Option (Int) :=
  (cond (decide (a < ((List.length p1 : Nat) : Int))) ((idx p1 a).bind fun b => ((p5 b.1 b.2.1 b.2.2).bind fun d => (cond d (some (a)) (c (IntKind.wrap .i64 (a + 1)))))) (some ((-1))))
def Qq (p1 : (List ((List UInt8) × (List UInt8) × Int))) (p5 : ((List UInt8) → (List UInt8) → Int → Option (Bool))) : Nat → Int → Option (Int)
  | 0, _ => none
  | f + 1, a => Qt  (Qq p1 p5 f) p1 p5 a
def Vk (p1 : (List ((List UInt8) × (List UInt8) × Int))) (p5 : ((List UInt8) → (List UInt8) → Int → Option (Bool))) : Option (Int) :=
  (Qq p1 p5 Zj 0)
set_option maxRecDepth 100000 in
set_option maxHeartbeats 4000000 in
theorem Y6 (A2 : Option Addr) (c3 : Nat) (h : FuncId) (i : Array Value) (p1 : (List ((List UInt8) × (List UInt8) × Int))) (p5 : ((List UInt8) → (List UInt8) → Int → Option (Bool))) (w0 : World) (q : RdT (Qf Qs (Qf Qs (Qd .i64))) w0 A2 c3 p1) (hcf8 : ∀ (args : Array Value) (w : World), (callFunc h args).run Tryz.prog w = .ok (.enter h args) w) (a1 : ∀ (y0 : (List UInt8)) (y1 : (List UInt8)) (y2 : Int) (z : (Bool)) (w : World), Below w0.heap.size w0 w → p5 y0 y1 y2 = some z → Calls Tryz.prog h (([(.agg #[(.string ⟨List.toArray y0⟩), (.string ⟨List.toArray y1⟩), (.int .i64 y2)])] : List Value) ++ (i).toList).toArray w (fun e w' => e = .returned (.bool z) ∧ SP [] w w' [])) (r : (Int)) (H : Vk p1 p5 = some r) :
  Calls Tryz.prog 89 #[(.slice A2 (List.length p1) c3), (.func (.func h) #[] i)] w0 (fun e w' => e = .returned (.int .i64 r) ∧ SP [] w0 w' []) := by
 unfold Vk at H
 refine Qu (n := 19) Tryz.func89 K K K ?_
 have a2 := Q1 [] w0
 refine aQ ?_
 refine aR ?_
 refine iR 1 1 [(4, (.int .i64 0))] ?_
 refine iF ?_
 refine aQ ?_
 refine aQ ?_
 refine aR ?_
 refine iR 3 3 [(6, (.slice A2 (List.length p1) c3)), (7, (.int .i64 ((List.length p1 : Nat) : Int))), (8, (.int .i64 0))] ?_
 refine iF ?_
 refine Z1 K (id := 0) K ?_
 refine Nf K (fun f1 ρ w => ∃ (a : Int), V3 ρ [(0, (.slice A2 (List.length p1) c3)), (1, (.func (.func h) #[] i)), (7, (.int .i64 ((List.length p1 : Nat) : Int))), (8, (.int .i64 a))] ∧ SP [] w0 w [] ∧ Qq p1 p5 f1 a = some r) (by rintro ρ w ⟨a, hk, hs, H⟩; cases H) ?_ Zj ?_
 ·rintro f1 ρ a3 ⟨a, hk, j, H⟩
  refine At.known [(0, (.slice A2 (List.length p1) c3)), (1, (.func (.func h) #[] i)), (7, (.int .i64 ((List.length p1 : Nat) : Int))), (8, (.int .i64 a))] hk ?_
  replace H := (show Qt (Qq p1 p5 f1) p1 p5 a = some r from H)
  unfold Qt at H
  refine aQ ?_
  refine aR ?_
  refine iR 1 1 [(9, (.bool (decide (a < ((List.length p1 : Nat) : Int)))))] ?_
  refine iF ?_
  refine aQ ?_
  refine Zk K (o := (.tmp 9)) K (b := (decide (a < ((List.length p1 : Nat) : Int)))) K (fun m => ?_) (fun m => ?_)
  ·have H := ct H m
   refine At.skip K ?_
   refine aQ ?_
   refine Z1 K (id := 1) K ?_
   refine aQ ?_
   refine aR ?_
   refine iR 2 2 [(10, (.int .i64 a)), (5, (.int .i64 a))] ?_
   refine iF ?_
   refine aQ ?_
   refine aR ?_
   refine iR 3 3 [(11, (.func (.func h) #[] i)), (12, (.slice A2 (List.length p1) c3)), (13, (.int .i64 a))] ?_
   obtain ⟨g, s, u, a4, H⟩ := Qn H
   refine iS 4 ?_
   refine Ve (e := (Qf Qs (Qf Qs (Qd .i64)))) (l := p1) (A := A2) (c := c3) (T := 42) (E := 48) (x := (.tmp 12)) (ix := (.tmp 13)) (ki := .i64) (iz := a) (d := (some 14)) (k := 3) K rfl K K K K (RdT.sp q j) s u ?_
   intro a5 a6 a7 a9 hc55
   refine iS 5 ?_
   refine Qk.cells (t := 48) (x := (.tmp 14)) (b := a5) (off := (a6 + Int.toNat a * (Qf Qs (Qf Qs (Qd .i64))).sz)) (xs := [(.string ⟨List.toArray g.1⟩), (.string ⟨List.toArray g.2.1⟩), (.int .i64 g.2.2)]) (d := (some 15)) (k := 4) K rfl K K K (Z2 (e := (Qf Qs (Qf Qs (Qd .i64)))) (Qg (RdT.sp q j) a7 s u) a4 rfl) ?_
   obtain ⟨v, a8, H⟩ := Qe H
   refine iS 6 ?_
   refine Ud (f := h) (fo := (.tmp 11)) (xs := #[(.tmp 15)]) (tys := #[48]) (first := #[]) (captured := i) (args := (([(.agg #[(.string ⟨List.toArray g.1⟩), (.string ⟨List.toArray g.2.1⟩), (.int .i64 g.2.2)])] : List Value) ++ (i).toList)) (d := (some 16)) (k := 5) K rfl K K hcf8 (a1 g.1 g.2.1 g.2.2 v a3  (SP.keeps j)  a8) ?_
   rintro e b0 ⟨rfl, y⟩
   refine ⟨_, rfl, ?_⟩
   have a0 := SP.call j y
   clear y
   refine iF ?_
   refine Zk K (o := (.tmp 16)) K (b := v) K (fun p => ?_) (fun p => ?_)
   ·have H := ct H p
    refine aQ ?_
    refine aR ?_
    refine iR 2 2 [(17, (.int .i64 a)), (4, (.int .i64 a))] ?_
    refine iF ?_
    refine At.ret K ?_
    refine ⟨(.int .i64 a), K, ?_⟩
    obtain rfl := Qh H
    exact ⟨rfl, SP.sel a0 [] rfl rfl⟩
   ·have H := cf H p
    refine At.skip K ?_
    refine aR ?_
    refine iR 2 2 [(18, (.int .i64 (IntKind.wrap .i64 (a + 1)))), (8, (.int .i64 (IntKind.wrap .i64 (a + 1))))] ?_
    refine iF ?_
    exact ⟨(IntKind.wrap .i64 (a + 1)), ⟨K, K, K, K, trivial⟩, SP.sel a0 [] rfl rfl, H⟩
  ·have H := cf H m
   refine At.exit K (id := 0) K ?_
   refine aQ ?_
   refine aR ?_
   refine iR 1 1 [(4, (.int .i64 (-1)))] ?_
   refine iF ?_
   refine At.ret K ?_
   refine ⟨(.int .i64 (-1)), K, ?_⟩
   obtain rfl := Qh H
   exact ⟨rfl, SP.sel j [] rfl rfl⟩
 ·exact ⟨0, ⟨K, K, K, K, trivial⟩, SP.sel a2 [] rfl rfl, H⟩
def Vv (p1 : (List ((List UInt8) × (List UInt8) × Int))) (p5 : ((List UInt8) → (List UInt8) → Int → Option (Bool))) : Option (Bool) :=
  ((Vk p1 p5).bind fun a => (some ((decide (a ≥ 0)))))
set_option maxRecDepth 100000 in
set_option maxHeartbeats 4000000 in
theorem Nb (A2 : Option Addr) (c3 : Nat) (a : FuncId) (b : Array Value) (p1 : (List ((List UInt8) × (List UInt8) × Int))) (p5 : ((List UInt8) → (List UInt8) → Int → Option (Bool))) (w0 : World) (g : RdT (Qf Qs (Qf Qs (Qd .i64))) w0 A2 c3 p1) (hcf8 : ∀ (args : Array Value) (w : World), (callFunc a args).run Tryz.prog w = .ok (.enter a args) w) (h : ∀ (y0 : (List UInt8)) (y1 : (List UInt8)) (y2 : Int) (z : (Bool)) (w : World), Below w0.heap.size w0 w → p5 y0 y1 y2 = some z → Calls Tryz.prog a (([(.agg #[(.string ⟨List.toArray y0⟩), (.string ⟨List.toArray y1⟩), (.int .i64 y2)])] : List Value) ++ (b).toList).toArray w (fun e w' => e = .returned (.bool z) ∧ SP [] w w' [])) (r : (Bool)) (H : Vv p1 p5 = some r) :
  Calls Tryz.prog 80 #[(.slice A2 (List.length p1) c3), (.func (.func a) #[] b)] w0 (fun e w' => e = .returned (.bool r) ∧ SP [] w0 w' []) := by
 unfold Vv at H
 refine Qu (n := 9) Tryz.func80 K K K ?_
 have d := Q1 [] w0
 refine aQ ?_
 refine aR ?_
 refine iR 1 1 [(4, (.bool false))] ?_
 refine iF ?_
 refine aQ ?_
 refine aR ?_
 refine iR 2 2 [(5, (.slice A2 (List.length p1) c3)), (6, (.func (.func a) #[] b))] ?_
 obtain ⟨c, i, H⟩ := Qe H
 refine iS 3 ?_
 refine cF 89 #[(.tmp 5), (.tmp 6)] #[42, 117] 7 Tryz.call89 (Y6 A2 c3 a b p1 p5 w0 (RdT.sp g d) hcf8 (fun y0 y1 y2 z w  hw  hz => h y0 y1 y2 z w  (E9 d hw)  hz) c i) ?_
 rintro e k ⟨rfl, f⟩
 refine ⟨_, rfl, ?_⟩
 have j := SP.call d f
 clear f
 refine iR 2 5 [(8, (.bool (decide (c ≥ 0)))), (4, (.bool (decide (c ≥ 0))))] ?_
 refine iF ?_
 refine At.ret K ?_
 refine ⟨(.bool (decide (c ≥ 0))), K, ?_⟩
 obtain rfl := Qh H
 exact ⟨rfl, SP.sel j [] rfl rfl⟩
def Qr (c : Int → Option (Int)) (p1 : (List Qi)) (p6 : ((List UInt8) → Int → Int → (List (Int × Int)) → (List ((List UInt8) × (List UInt8) × Int)) → Option (Bool))) (b : Int) : Option (Int) :=
  (cond (decide (b < ((List.length p1 : Nat) : Int))) ((idx p1 b).bind fun a => ((p6 a.1 a.2.1 a.2.2.1 a.2.2.2.1 a.2.2.2.2).bind fun d => (cond d (some (b)) (c (IntKind.wrap .i64 (b + 1)))))) (some ((-1))))
def Qp (p1 : (List Qi)) (p6 : ((List UInt8) → Int → Int → (List (Int × Int)) → (List ((List UInt8) × (List UInt8) × Int)) → Option (Bool))) : Nat → Int → Option (Int)
  | 0, _ => none
  | f + 1, a => Qr  (Qp p1 p6 f) p1 p6 a
def Vh (p1 : (List Qi)) (p6 : ((List UInt8) → Int → Int → (List (Int × Int)) → (List ((List UInt8) × (List UInt8) × Int)) → Option (Bool))) : Option (Int) :=
  (Qp p1 p6 Zj 0)
set_option maxRecDepth 100000 in
set_option maxHeartbeats 4000000 in
theorem Yw (A2 : Option Addr) (c3 : Nat) (h : FuncId) (i : Array Value) (d5 : (List Vl)) (p6 : ((List UInt8) → Int → Int → (List (Int × Int)) → (List ((List UInt8) × (List UInt8) × Int)) → Option (Bool))) (w0 : World) (m : (dDS Ua Eh).ok w0 (A2, c3, d5)) (hcf9 : ∀ (args : Array Value) (w : World), (callFunc h args).run Tryz.prog w = .ok (.enter h args) w) (a2 : ∀ (y0 : (List UInt8)) (y1 : Int) (y2 : Int) (y3 : (List (Int × Int))) (y4 : (List ((List UInt8) × (List UInt8) × Int))) (z : (Bool)) (w : World) (Ay3 : Option Addr) (cy3 : Nat) (Ay4 : Option Addr) (cy4 : Nat), Below w0.heap.size w0 w → RdT (Qf (Qd .u32) (Qd .i64)) w Ay3 cy3 y3 → RdT (Qf Qs (Qf Qs (Qd .i64))) w Ay4 cy4 y4 → p6 y0 y1 y2 y3 y4 = some z → Calls Tryz.prog h (([(.agg #[(.string ⟨List.toArray y0⟩), (.int .i64 y1), (.int .i64 y2), (.slice Ay3 (List.length y3) cy3), (.slice Ay4 (List.length y4) cy4)])] : List Value) ++ (i).toList).toArray w (fun e w' => e = .returned (.bool z) ∧ SP [] w w' [])) (r : (Int)) (H : Vh (List.map stT d5) p6 = some r) :
  Calls Tryz.prog 76 #[(.slice A2 (List.length (List.map stT d5)) c3), (.func (.func h) #[] i)] w0 (fun e w' => e = .returned (.int .i64 r) ∧ SP [] w0 w' []) := by
 unfold Vh at H
 refine Qu (n := 19) Tryz.func76 K K K ?_
 have a3 := Q1 [] w0
 refine aQ ?_
 refine aR ?_
 refine iR 1 1 [(4, (.int .i64 0))] ?_
 refine iF ?_
 refine aQ ?_
 refine aQ ?_
 refine aR ?_
 refine iR 3 3 [(6, (.slice A2 (List.length (List.map stT d5)) c3)), (7, (.int .i64 ((List.length (List.map stT d5) : Nat) : Int))), (8, (.int .i64 0))] ?_
 refine iF ?_
 refine Z1 K (id := 0) K ?_
 refine Nf K (fun f1 ρ w => ∃ (g : Int), V3 ρ [(0, (.slice A2 (List.length (List.map stT d5)) c3)), (1, (.func (.func h) #[] i)), (7, (.int .i64 ((List.length (List.map stT d5) : Nat) : Int))), (8, (.int .i64 g))] ∧ SP [] w0 w [] ∧ Qp (List.map stT d5) p6 f1 g = some r) (by rintro ρ w ⟨g, hk, hs, H⟩; cases H) ?_ Zj ?_
 ·rintro f1 ρ a4 ⟨g, hk, j, H⟩
  refine At.known [(0, (.slice A2 (List.length (List.map stT d5)) c3)), (1, (.func (.func h) #[] i)), (7, (.int .i64 ((List.length (List.map stT d5) : Nat) : Int))), (8, (.int .i64 g))] hk ?_
  replace H := (show Qr (Qp (List.map stT d5) p6 f1) (List.map stT d5) p6 g = some r from H)
  unfold Qr at H
  refine aQ ?_
  refine aR ?_
  refine iR 1 1 [(9, (.bool (decide (g < ((List.length (List.map stT d5) : Nat) : Int)))))] ?_
  refine iF ?_
  refine aQ ?_
  refine Zk K (o := (.tmp 9)) K (b := (decide (g < ((List.length (List.map stT d5) : Nat) : Int)))) K (fun p => ?_) (fun p => ?_)
  ·have H := ct H p
   refine At.skip K ?_
   refine aQ ?_
   refine Z1 K (id := 1) K ?_
   refine aQ ?_
   refine aR ?_
   refine iR 2 2 [(10, (.int .i64 g)), (5, (.int .i64 g))] ?_
   refine iF ?_
   refine aQ ?_
   refine aR ?_
   refine iR 3 3 [(11, (.func (.func h) #[] i)), (12, (.slice A2 (List.length (List.map stT d5)) c3)), (13, (.int .i64 g))] ?_
   obtain ⟨a, u, v, q, H⟩ := G1 H
   refine iS 4 ?_
   refine Ug stT (e := Ua) (l := d5) (A := A2) (c := c3) (T := 22) (E := 44) (x := (.tmp 12)) (ix := (.tmp 13)) (ki := .i64) (iz := g) (d := (some 14)) (k := 3) K rfl K K K K (RdT.sp (Ut m) j) u v ?_
   intro a5 a6 a7 a9 hc59
   refine iS 5 ?_
   refine Qk.cells (t := 44) (x := (.tmp 14)) (b := a5) (off := (a6 + Int.toNat g * Ua.sz)) (xs := [(.string ⟨List.toArray (stT a).1⟩), (.int .i64 (stT a).2.1), (.int .i64 (stT a).2.2.1), (.slice a.2.2.2.1.1 (List.length (stT a).2.2.2.1) a.2.2.2.1.2.1), (.slice a.2.2.2.2.1 (List.length (stT a).2.2.2.2) a.2.2.2.2.2.1)]) (d := (some 15)) (k := 4) K rfl K K K (Z2 (e := Ua) (Qg (RdT.sp (Ut m) j) a7 u v) q rfl) ?_
   obtain ⟨y, a8, H⟩ := Qe H
   refine iS 6 ?_
   refine Ud (f := h) (fo := (.tmp 11)) (xs := #[(.tmp 15)]) (tys := #[44]) (first := #[]) (captured := i) (args := (([(.agg #[(.string ⟨List.toArray (stT a).1⟩), (.int .i64 (stT a).2.1), (.int .i64 (stT a).2.2.1), (.slice a.2.2.2.1.1 (List.length (stT a).2.2.2.1) a.2.2.2.1.2.1), (.slice a.2.2.2.2.1 (List.length (stT a).2.2.2.2) a.2.2.2.2.2.1)])] : List Value) ++ (i).toList)) (d := (some 16)) (k := 5) K rfl K K hcf9 (a2 (stT a).1 (stT a).2.1 (stT a).2.2.1 (stT a).2.2.2.1 (stT a).2.2.2.2 y a4 a.2.2.2.1.1 a.2.2.2.1.2.1 a.2.2.2.2.1 a.2.2.2.2.2.1 (SP.keeps j) (RdT.sp (Ut (dp1 (dp2 (dp2 (dp2 (D7 m q)))))) j) (RdT.sp (Ut (dp2 (dp2 (dp2 (dp2 (D7 m q)))))) j) a8) ?_
   rintro e b0 ⟨rfl, a0⟩
   refine ⟨_, rfl, ?_⟩
   have a1 := SP.call j a0
   clear a0
   refine iF ?_
   refine Zk K (o := (.tmp 16)) K (b := y) K (fun s => ?_) (fun s => ?_)
   ·have H := ct H s
    refine aQ ?_
    refine aR ?_
    refine iR 2 2 [(17, (.int .i64 g)), (4, (.int .i64 g))] ?_
    refine iF ?_
    refine At.ret K ?_
    refine ⟨(.int .i64 g), K, ?_⟩
    obtain rfl := Qh H
    exact ⟨rfl, SP.sel a1 [] rfl rfl⟩
   ·have H := cf H s
    refine At.skip K ?_
    refine aR ?_
    refine iR 2 2 [(18, (.int .i64 (IntKind.wrap .i64 (g + 1)))), (8, (.int .i64 (IntKind.wrap .i64 (g + 1))))] ?_
    refine iF ?_
    exact ⟨(IntKind.wrap .i64 (g + 1)), ⟨K, K, K, K, trivial⟩, SP.sel a1 [] rfl rfl, H⟩
  ·have H := cf H p
   refine At.exit K (id := 0) K ?_
   refine aQ ?_
   refine aR ?_
   refine iR 1 1 [(4, (.int .i64 (-1)))] ?_
   refine iF ?_
   refine At.ret K ?_
   refine ⟨(.int .i64 (-1)), K, ?_⟩
   obtain rfl := Qh H
   exact ⟨rfl, SP.sel j [] rfl rfl⟩
 ·exact ⟨0, ⟨K, K, K, K, trivial⟩, SP.sel a3 [] rfl rfl, H⟩
def Vo (p1 : (List Qi)) (p6 : ((List UInt8) → Int → Int → (List (Int × Int)) → (List ((List UInt8) × (List UInt8) × Int)) → Option (Bool))) : Option (Bool) :=
  ((Vh p1 p6).bind fun a => (some ((decide (a ≥ 0)))))
set_option maxRecDepth 100000 in
set_option maxHeartbeats 4000000 in
theorem U1 (A2 : Option Addr) (c3 : Nat) (a : FuncId) (b : Array Value) (d5 : (List Vl)) (p6 : ((List UInt8) → Int → Int → (List (Int × Int)) → (List ((List UInt8) × (List UInt8) × Int)) → Option (Bool))) (w0 : World) (g : (dDS Ua Eh).ok w0 (A2, c3, d5)) (hcf9 : ∀ (args : Array Value) (w : World), (callFunc a args).run Tryz.prog w = .ok (.enter a args) w) (h : ∀ (y0 : (List UInt8)) (y1 : Int) (y2 : Int) (y3 : (List (Int × Int))) (y4 : (List ((List UInt8) × (List UInt8) × Int))) (z : (Bool)) (w : World) (Ay3 : Option Addr) (cy3 : Nat) (Ay4 : Option Addr) (cy4 : Nat), Below w0.heap.size w0 w → RdT (Qf (Qd .u32) (Qd .i64)) w Ay3 cy3 y3 → RdT (Qf Qs (Qf Qs (Qd .i64))) w Ay4 cy4 y4 → p6 y0 y1 y2 y3 y4 = some z → Calls Tryz.prog a (([(.agg #[(.string ⟨List.toArray y0⟩), (.int .i64 y1), (.int .i64 y2), (.slice Ay3 (List.length y3) cy3), (.slice Ay4 (List.length y4) cy4)])] : List Value) ++ (b).toList).toArray w (fun e w' => e = .returned (.bool z) ∧ SP [] w w' [])) (r : (Bool)) (H : Vo (List.map stT d5) p6 = some r) :
  Calls Tryz.prog 60 #[(.slice A2 (List.length (List.map stT d5)) c3), (.func (.func a) #[] b)] w0 (fun e w' => e = .returned (.bool r) ∧ SP [] w0 w' []) := by
 unfold Vo at H
 refine Qu (n := 9) Tryz.func60 K K K ?_
 have d := Q1 [] w0
 refine aQ ?_
 refine aR ?_
 refine iR 1 1 [(4, (.bool false))] ?_
 refine iF ?_
 refine aQ ?_
 refine aR ?_
 refine iR 2 2 [(5, (.slice A2 (List.length (List.map stT d5)) c3)), (6, (.func (.func a) #[] b))] ?_
 obtain ⟨c, i, H⟩ := Qe H
 refine iS 3 ?_
 refine cF 76 #[(.tmp 5), (.tmp 6)] #[22, 102] 7 Tryz.call76 (Yw A2 c3 a b d5 p6 w0 (Dp.sp g d) hcf9 (fun y0 y1 y2 y3 y4 z w Ay3 cy3 Ay4 cy4 hw hy3 hy4 hz => h y0 y1 y2 y3 y4 z w Ay3 cy3 Ay4 cy4 (E9 d hw) hy3 hy4 hz) c i) ?_
 rintro e k ⟨rfl, f⟩
 refine ⟨_, rfl, ?_⟩
 have j := SP.call d f
 clear f
 refine iR 2 5 [(8, (.bool (decide (c ≥ 0)))), (4, (.bool (decide (c ≥ 0))))] ?_
 refine iF ?_
 refine At.ret K ?_
 refine ⟨(.bool (decide (c ≥ 0))), K, ?_⟩
 obtain rfl := Qh H
 exact ⟨rfl, SP.sel j [] rfl rfl⟩
def Uh (a : Int) (b : Int) : Option (Bool) :=
  ((G0 a b).bind fun z7 => (some ((z7 == ([] : List UInt8)))))
set_option maxRecDepth 100000 in
set_option maxHeartbeats 4000000 in
theorem B8  (c : Int) (f : Int) (w0 : World) (hL : Ep w0)  (r : (Bool)) (H : Uh c f = some r) :
  Calls Tryz.prog 78 #[(.agg #[(.int .u32 c), (.int .i64 f)])] w0 (fun e w' => e = .returned (.bool r) ∧ SP [] w0 w' []) := by
 unfold Uh at H
 refine Qu (n := 6) Tryz.func78 K K K ?_
 have i := Q1 [] w0
 refine aQ ?_
 refine aR ?_
 refine iS 1 ?_
 refine V6 (t := 113) (x := (.tmp 0)) (v := (.agg #[(.int .u32 c), (.int .i64 f)])) (d := (some 1)) (k := 0) K rfl K i ?_
 intro g3 w4 g
 refine iR 1 2 [(2, (.bool false))] ?_
 refine iF ?_
 refine aQ ?_
 refine aR ?_
 refine iS 1 ?_
 refine sL 113 1 g3 0 0 (.agg #[(.int .u32 c), (.int .i64 f)]) 3 g rfl ?_
 obtain ⟨z7, j, H⟩ := Qe H
 refine iS 2 ?_
 refine cF 79 #[(.tmp 3)] #[113] 4 Tryz.call79 (C7  c f w4 (Yl hL (SP.keeps g)) z7 j) ?_
 rintro e w9 ⟨rfl, h⟩
 refine ⟨_, rfl, ?_⟩
 have l := SP.call g h
 clear h
 refine iS 3 ?_
 refine Vt (op := .eql) (T := 9) (T' := 9) (x := (.tmp 4)) (y := (.const (.string ⟨List.toArray ([] : List UInt8)⟩))) (a := z7) (b := ([] : List UInt8)) (r := (.bool (z7 == ([] : List UInt8)))) (d := (some 5)) (k := 2) K rfl K K rfl ?_
 refine iR 1 4 [(2, (.bool (z7 == ([] : List UInt8))))] ?_
 refine iF ?_
 refine At.ret K ?_
 refine ⟨(.bool (z7 == ([] : List UInt8))), K, ?_⟩
 obtain rfl := Qh H
 exact ⟨rfl, SP.sel l [] rfl rfl⟩
def Ui (a : Bool) : Option (Bool) :=
  (some (a))
def G2 (a : (List UInt8)) (b : (List UInt8)) (c : Int) : Option (Bool) :=
  ((Uy a).bind fun d => (cond d ((Y5 ((List.length b : Nat) : Int) 1 32).bind fun e => (cond e ((Y5 c 0 1099511627776).bind fun f => (Ui f)) (Ui false))) (Ui false)))
set_option maxRecDepth 100000 in
set_option maxHeartbeats 4000000 in
theorem C8  (f : (List UInt8)) (a : (List UInt8)) (g : Int) (w0 : World)  (r : (Bool)) (H : G2 f a g = some r) :
  Calls Tryz.prog 82 #[(.agg #[(.string ⟨List.toArray f⟩), (.string ⟨List.toArray a⟩), (.int .i64 g)])] w0 (fun e w' => e = .returned (.bool r) ∧ SP [] w0 w' []) := by
 unfold G2 at H
 refine Qu (n := 17) Tryz.func82 K K K ?_
 have a0 := Q1 [] w0
 refine aQ ?_
 refine aR ?_
 refine iS 1 ?_
 refine V6 (t := 48) (x := (.tmp 0)) (v := (.agg #[(.string ⟨List.toArray f⟩), (.string ⟨List.toArray a⟩), (.int .i64 g)])) (d := (some 1)) (k := 0) K rfl K a0 ?_
 intro g4 w5 s
 refine iR 1 2 [(2, (.bool false))] ?_
 refine iF ?_
 refine aQ ?_
 refine At.join (fun ρ w => ∃ (c : Bool), V3 ρ [(2, (.bool c))] ∧ SP [] w0 w [] ∧ Ui c = some r) ?_ ?_
 ·refine aR ?_
  refine iR 1 1 [(3, (pt g4 0))] ?_
  refine iS 2 ?_
  refine sL 9 3 g4 0 0 (.string ⟨List.toArray f⟩) 4 s rfl ?_
  obtain ⟨j, a1, H⟩ := Qe H
  refine iS 3 ?_
  refine cF 83 #[(.tmp 4)] #[9] 5 Tryz.call83 (Dr  f w5  j a1) ?_
  rintro e a2 ⟨rfl, u⟩
  refine ⟨_, rfl, ?_⟩
  have m := SP.call s u
  clear u
  refine iR 1 4 [(6, (.bool j))] ?_
  refine In.guard (t := 6) (b := j) K (fun o => ?_) (fun o => ?_)
  ·have H := ct H o
   refine iR 1 5 [(7, (pt g4 1))] ?_
   refine iS 6 ?_
   refine sL 9 7 g4 1 0 (.string ⟨List.toArray a⟩) 8 m rfl ?_
   refine iR 1 7 [(9, (.int .i64 ((List.length a : Nat) : Int)))] ?_
   obtain ⟨h, a3, H⟩ := Qe H
   refine iS 8 ?_
   refine cF 59 #[(.tmp 9), (.const (.int .i64 (1))), (.const (.int .i64 (32)))] #[2, 2, 2] 10 Tryz.call59 (J8  ((List.length a : Nat) : Int) 1 32 a2  h a3) ?_
   rintro e a4 ⟨rfl, y⟩
   refine ⟨_, rfl, ?_⟩
   have p := SP.call m y
   clear y
   refine iR 2 10 [(11, (.bool h)), (12, (.bool h))] ?_
   refine In.guard (t := 12) (b := h) K (fun q => ?_) (fun q => ?_)
   ·have H := ct H q
    refine iR 1 11 [(13, (pt g4 2))] ?_
    refine iS 12 ?_
    refine sL 2 13 g4 2 0 (.int .i64 g) 14 p rfl ?_
    obtain ⟨i, a5, H⟩ := Qe H
    refine iS 13 ?_
    refine cF 59 #[(.tmp 14), (.const (.int .i64 (0))), (.const (.int .i64 (1099511627776)))] #[2, 2, 2] 15 Tryz.call59 (J8  g 0 1099511627776 a4  i a5) ?_
    rintro e a8 ⟨rfl, z⟩
    refine ⟨_, rfl, ?_⟩
    have a6 := SP.call p z
    clear z
    refine iR 2 15 [(16, (.bool i)), (2, (.bool i))] ?_
    refine iF ?_
    exact ⟨i, ⟨K, trivial⟩, SP.sel a6 [] rfl rfl, H⟩
   ·have H := cf H q
    refine iR 5 15 [(13, undef), (14, undef), (15, undef), (16, (.bool false)), (2, (.bool false))] ?_
    refine iF ?_
    exact ⟨false, ⟨K, trivial⟩, SP.sel p [] rfl rfl, H⟩
  ·have H := cf H o
   refine iR 11 15 [(7, undef), (8, undef), (9, undef), (10, undef), (11, (.bool false)), (12, (.bool false)), (13, undef), (14, undef), (15, undef), (16, (.bool false)), (2, (.bool false))] ?_
   refine iF ?_
   exact ⟨false, ⟨K, trivial⟩, SP.sel m [] rfl rfl, H⟩
 ·rintro ρ a9 ⟨c, hk, a7, H⟩
  unfold Ui at H
  first | refine At.known [(2, (.bool c))] hk ?_ | rw [← Qz (l := [(2, (.bool c))]) hk]
  refine At.ret K ?_
  refine ⟨(.bool c), K, ?_⟩
  obtain rfl := Qh H
  exact ⟨rfl, SP.sel a7 [] rfl rfl⟩
def Nh (a : (List UInt8)) (b : (List UInt8)) (c : Int) : Option (Bool) :=
  ((G2 a b c).bind fun z8 => (some ((!z8))))
set_option maxRecDepth 100000 in
set_option maxHeartbeats 4000000 in
theorem B9  (a : (List UInt8)) (b : (List UInt8)) (c : Int) (w0 : World)  (r : (Bool)) (H : Nh a b c = some r) :
  Calls Tryz.prog 81 #[(.agg #[(.string ⟨List.toArray a⟩), (.string ⟨List.toArray b⟩), (.int .i64 c)])] w0 (fun e w' => e = .returned (.bool r) ∧ SP [] w0 w' []) := by
 unfold Nh at H
 refine Qu (n := 6) Tryz.func81 K K K ?_
 have h := Q1 [] w0
 refine aQ ?_
 refine aR ?_
 refine iS 1 ?_
 refine V6 (t := 48) (x := (.tmp 0)) (v := (.agg #[(.string ⟨List.toArray a⟩), (.string ⟨List.toArray b⟩), (.int .i64 c)])) (d := (some 1)) (k := 0) K rfl K h ?_
 intro g4 w5 f
 refine iR 1 2 [(2, (.bool false))] ?_
 refine iF ?_
 refine aQ ?_
 refine aR ?_
 refine iS 1 ?_
 refine sL 48 1 g4 0 0 (.agg #[(.string ⟨List.toArray a⟩), (.string ⟨List.toArray b⟩), (.int .i64 c)]) 3 f rfl ?_
 obtain ⟨z8, i, H⟩ := Qe H
 refine iS 2 ?_
 refine cF 82 #[(.tmp 3)] #[48] 4 Tryz.call82 (C8  a b c w5  z8 i) ?_
 rintro e l ⟨rfl, g⟩
 refine ⟨_, rfl, ?_⟩
 have j := SP.call f g
 clear g
 refine iR 2 4 [(5, (.bool (!z8))), (2, (.bool (!z8)))] ?_
 refine iF ?_
 refine At.ret K ?_
 refine ⟨(.bool (!z8)), K, ?_⟩
 obtain rfl := Qh H
 exact ⟨rfl, SP.sel j [] rfl rfl⟩
def Zb (d : Int → Option (Bool)) (p1 : (List ((List UInt8) × (List UInt8) × Int))) (p5 : ((List UInt8) → (List UInt8) → Int → Option ((List UInt8)))) (a : Int) : Option (Bool) :=
  (cond (decide (a < ((List.length p1 : Nat) : Int))) ((idx p1 (IntKind.wrap .i64 (a - 1))).bind fun b => ((p5 b.1 b.2.1 b.2.2).bind fun e => ((idx p1 a).bind fun c => ((p5 c.1 c.2.1 c.2.2).bind fun f => (cond (!(Op.bytesLess e f)) (some (false)) (d (IntKind.wrap .i64 (a + 1)))))))) (some (true)))
def Zc (p1 : (List ((List UInt8) × (List UInt8) × Int))) (p5 : ((List UInt8) → (List UInt8) → Int → Option ((List UInt8)))) : Nat → Int → Option (Bool)
  | 0, _ => none
  | f + 1, a => Zb  (Zc p1 p5 f) p1 p5 a
def Yp (p1 : (List ((List UInt8) × (List UInt8) × Int))) (p5 : ((List UInt8) → (List UInt8) → Int → Option ((List UInt8)))) : Option (Bool) :=
  (Zc p1 p5 Zj 1)
set_option maxRecDepth 100000 in
set_option maxHeartbeats 4000000 in
theorem R4 (A2 : Option Addr) (c3 : Nat) (i : FuncId) (j : Array Value) (p1 : (List ((List UInt8) × (List UInt8) × Int))) (p5 : ((List UInt8) → (List UInt8) → Int → Option ((List UInt8)))) (w0 : World) (u : RdT (Qf Qs (Qf Qs (Qd .i64))) w0 A2 c3 p1) (hcf8 : ∀ (args : Array Value) (w : World), (callFunc i args).run Tryz.prog w = .ok (.enter i args) w) (a5 : ∀ (y0 : (List UInt8)) (y1 : (List UInt8)) (y2 : Int) (z : ((List UInt8))) (w : World), Below w0.heap.size w0 w → p5 y0 y1 y2 = some z → Calls Tryz.prog i (([(.agg #[(.string ⟨List.toArray y0⟩), (.string ⟨List.toArray y1⟩), (.int .i64 y2)])] : List Value) ++ (j).toList).toArray w (fun e w' => e = .returned (.string ⟨List.toArray z⟩) ∧ SP [] w w' [])) (r : (Bool)) (H : Yp p1 p5 = some r) :
  Calls Tryz.prog 84 #[(.slice A2 (List.length p1) c3), (.func (.func i) #[] j)] w0 (fun e w' => e = .returned (.bool r) ∧ SP [] w0 w' []) := by
 unfold Yp at H
 refine Qu (n := 26) Tryz.func84 K K K ?_
 have b4 := Q1 [] w0
 refine aQ ?_
 refine aR ?_
 refine iR 1 1 [(4, (.bool false))] ?_
 refine iF ?_
 refine aQ ?_
 refine aQ ?_
 refine aR ?_
 refine iR 1 1 [(5, (.int .i64 1))] ?_
 refine iF ?_
 refine Z1 K (id := 0) K ?_
 refine Nf K (fun f1 ρ w => ∃ (g : Int), V3 ρ [(0, (.slice A2 (List.length p1) c3)), (1, (.func (.func i) #[] j)), (5, (.int .i64 g))] ∧ SP [] w0 w [] ∧ Zc p1 p5 f1 g = some r) (by rintro ρ w ⟨g, hk, hs, H⟩; cases H) ?_ Zj ?_
 ·rintro f1 ρ f0 ⟨g, hk, a6, H⟩
  refine At.known [(0, (.slice A2 (List.length p1) c3)), (1, (.func (.func i) #[] j)), (5, (.int .i64 g))] hk ?_
  replace H := (show Zb (Zc p1 p5 f1) p1 p5 g = some r from H)
  unfold Zb at H
  refine aQ ?_
  refine aQ ?_
  refine aR ?_
  refine iR 4 4 [(6, (.int .i64 g)), (7, (.slice A2 (List.length p1) c3)), (8, (.int .i64 ((List.length p1 : Nat) : Int))), (9, (.bool (decide (g < ((List.length p1 : Nat) : Int)))))] ?_
  refine iF ?_
  refine Zk K (o := (.tmp 9)) K (b := (decide (g < ((List.length p1 : Nat) : Int)))) K (fun a1 => ?_) (fun a1 => ?_)
  ·have H := ct H a1
   refine At.skip K ?_
   refine aQ ?_
   refine Z1 K (id := 1) K ?_
   refine aQ ?_
   obtain ⟨p, a7, a8, b5, H⟩ := Qn H
   obtain ⟨q, b6, H⟩ := Qe H
   obtain ⟨m, v, a0, a9, H⟩ := Qn H
   obtain ⟨s, b7, H⟩ := Qe H
   refine aG [GEq (.func (.func i) #[] j), GEq (.slice A2 (List.length p1) c3), GEq (.int .i64 g), GEq (.int .i64 (IntKind.wrap .i64 (g - 1))), Vi A2 (Qf Qs (Qf Qs (Qd .i64))).sz (IntKind.wrap .i64 (g - 1)), GEq (.agg #[(.string ⟨List.toArray p.1⟩), (.string ⟨List.toArray p.2.1⟩), (.int .i64 p.2.2)]), GEq (.string ⟨List.toArray q⟩), GEq (.func (.func i) #[] j), GEq (.slice A2 (List.length p1) c3), GEq (.int .i64 g), Vi A2 (Qf Qs (Qf Qs (Qd .i64))).sz g, GEq (.agg #[(.string ⟨List.toArray m.1⟩), (.string ⟨List.toArray m.2.1⟩), (.int .i64 m.2.2)]), GEq (.string ⟨List.toArray s⟩), GEq (.bool (!(Op.bytesLess q s)))] [6, 12] (tG [] w0 [] [([], []), ([6], [(.string ⟨List.toArray q⟩)]), ([6, 12], [(.string ⟨List.toArray q⟩), (.string ⟨List.toArray s⟩)])]) 14 2 ⟨trivial, SP.drew a6⟩ ?_ ?_
   iterate 14 refine And.intro ?_ ?_
   exact trivial
   ·exact oV (hC (hS 1 (.func (.func i) #[] j)) (h0)) (.func (.func i) #[] j)
   ·exact oV (hC (hS 0 (.slice A2 (List.length p1) c3)) (h0)) (.slice A2 (List.length p1) c3)
   ·exact oV (hC (hS 5 (.int .i64 g)) (h0)) (.int .i64 g)
   ·exact oV (hC (hA 2 14) (h0)) (.int .i64 (IntKind.wrap .i64 (g - 1)))
   ·refine oL 0 ?_
    ·rintro ρ' w' hs hah ⟨f2, b8⟩
     refine kM (kc (kA hah 1 13) (kc (kA hah 3 15) k0)) fun hkn => ?_
     refine Ve (e := (Qf Qs (Qf Qs (Qd .i64)))) (l := p1) (A := A2) (c := c3) (T := 42) (E := 48) (x := (.tmp 13)) (ix := (.tmp 15)) (ki := .i64) (iz := (IntKind.wrap .i64 (g - 1))) (d := (some 16)) (k := 4) K rfl K K K K (RdT.sp u b8) a7 a8 ?_
     intro b9 c0 c1 f3 hc269
     exact ⟨rfl, _, Qa hkn, ⟨b9, c0, c1, rfl⟩⟩
   ·refine oL 0 ?_
    ·rintro ρ' w' hs hah ⟨f4, c2⟩
     obtain ⟨c4, c5, c6, c7⟩ := hah 4 16 K
     refine kM (kc c7 k0) fun hkn => ?_
     refine Qk.cells (t := 48) (x := (.tmp 16)) (b := c4) (off := (c5 + Int.toNat (IntKind.wrap .i64 (g - 1)) * (Qf Qs (Qf Qs (Qd .i64))).sz)) (xs := [(.string ⟨List.toArray p.1⟩), (.string ⟨List.toArray p.2.1⟩), (.int .i64 p.2.2)]) (d := (some 17)) (k := 5) K rfl K K K (Z2 (e := (Qf Qs (Qf Qs (Qd .i64)))) (Qg (RdT.sp u c2) c6 a7 a8) b5 rfl) ?_
     exact eK hkn
   ·refine oH 0 1 ?_
    ·rintro ρ' w' hs hah ⟨f5, b0⟩
     refine kM (kc (kA hah 0 12) (kc (kA hah 5 17) k0)) fun hkn => ?_
     refine Ud (f := i) (fo := (.tmp 12)) (xs := #[(.tmp 17)]) (tys := #[48]) (first := #[]) (captured := j) (args := (([(.agg #[(.string ⟨List.toArray p.1⟩), (.string ⟨List.toArray p.2.1⟩), (.int .i64 p.2.2)])] : List Value) ++ (j).toList)) (d := (some 18)) (k := 6) K rfl K K hcf8 (a5 p.1 p.2.1 p.2.2 q w'  (SP.keeps b0)  b6) ?_
     rintro e f6 ⟨rfl, b1⟩
     refine ⟨_, rfl, ?_⟩
     have c8 := SP.call b0 b1
     clear b1
     refine ⟨_, Qa hkn, rfl, ?_⟩
     exact (And.intro (And.intro rfl (trivial)) (c8))
   ·exact oV (hC (hS 1 (.func (.func i) #[] j)) (h0)) (.func (.func i) #[] j)
   ·exact oV (hC (hS 0 (.slice A2 (List.length p1) c3)) (h0)) (.slice A2 (List.length p1) c3)
   ·exact oV (hC (hS 5 (.int .i64 g)) (h0)) (.int .i64 g)
   ·refine Owe.light K [0, 1] K (Qb ?_ (Qb ?_ Qx))
    ·rintro ρ' w' hs hah ⟨f7, c9⟩
     refine kM (kc (kA hah 8 20) (kc (kA hah 9 21) k0)) fun hkn => ?_
     refine Ve (e := (Qf Qs (Qf Qs (Qd .i64)))) (l := p1) (A := A2) (c := c3) (T := 42) (E := 48) (x := (.tmp 20)) (ix := (.tmp 21)) (ki := .i64) (iz := g) (d := (some 22)) (k := 10) K rfl K K K K (RdT.sp u c9) v a0 ?_
     intro d0 d1 d2 f8 hc287
     exact ⟨rfl, _, Qa hkn, ⟨d0, d1, d2, rfl⟩⟩
    ·rintro ρ' w' hs hah ⟨⟨f9, -⟩, d3⟩
     refine kM (kc (kA hah 8 20) (kc (kA hah 9 21) k0)) fun hkn => ?_
     refine Ve (e := (Qf Qs (Qf Qs (Qd .i64)))) (l := p1) (A := A2) (c := c3) (T := 42) (E := 48) (x := (.tmp 20)) (ix := (.tmp 21)) (ki := .i64) (iz := g) (d := (some 22)) (k := 10) K rfl K K K K (RdT.sp u d3) v a0 ?_
     intro d4 d5 d6 g0 hc295
     exact ⟨rfl, _, Qa hkn, ⟨d4, d5, d6, rfl⟩⟩
   ·refine Owe.light K [0, 1] K (Qb ?_ (Qb ?_ Qx))
    ·rintro ρ' w' hs hah ⟨g1, d7⟩
     obtain ⟨d8, d9, e0, a2⟩ := hah 10 22 K
     refine kM (kc a2 k0) fun hkn => ?_
     refine Qk.cells (t := 48) (x := (.tmp 22)) (b := d8) (off := (d9 + Int.toNat g * (Qf Qs (Qf Qs (Qd .i64))).sz)) (xs := [(.string ⟨List.toArray m.1⟩), (.string ⟨List.toArray m.2.1⟩), (.int .i64 m.2.2)]) (d := (some 23)) (k := 11) K rfl K K K (Z2 (e := (Qf Qs (Qf Qs (Qd .i64)))) (Qg (RdT.sp u d7) e0 v a0) a9 rfl) ?_
     exact eK hkn
    ·rintro ρ' w' hs hah ⟨⟨g2, -⟩, e1⟩
     obtain ⟨e2, e3, e4, a2⟩ := hah 10 22 K
     refine kM (kc a2 k0) fun hkn => ?_
     refine Qk.cells (t := 48) (x := (.tmp 22)) (b := e2) (off := (e3 + Int.toNat g * (Qf Qs (Qf Qs (Qd .i64))).sz)) (xs := [(.string ⟨List.toArray m.1⟩), (.string ⟨List.toArray m.2.1⟩), (.int .i64 m.2.2)]) (d := (some 23)) (k := 11) K rfl K K K (Z2 (e := (Qf Qs (Qf Qs (Qd .i64)))) (Qg (RdT.sp u e1) e4 v a0) a9 rfl) ?_
     exact eK hkn
   ·refine oH 1 2 ?_
    ·rintro ρ' w' hs hah ⟨⟨e5, -⟩, b2⟩
     refine kM (kc (kA hah 7 19) (kc (kA hah 11 23) k0)) fun hkn => ?_
     refine Ud (f := i) (fo := (.tmp 19)) (xs := #[(.tmp 23)]) (tys := #[48]) (first := #[]) (captured := j) (args := (([(.agg #[(.string ⟨List.toArray m.1⟩), (.string ⟨List.toArray m.2.1⟩), (.int .i64 m.2.2)])] : List Value) ++ (j).toList)) (d := (some 24)) (k := 12) K rfl K K hcf8 (a5 m.1 m.2.1 m.2.2 s w'  (SP.keeps b2)  b7) ?_
     rintro e g3 ⟨rfl, b3⟩
     refine ⟨_, rfl, ?_⟩
     have e6 := SP.call b2 b3
     clear b3
     refine ⟨_, Qa hkn, rfl, ?_⟩
     exact (And.intro (And.intro e5 (And.intro rfl (trivial))) (e6))
   ·refine oL 2 ?_
    ·rintro ρ' w' hs hah ⟨⟨e7, e8, -⟩, g4⟩
     refine kN [(18, (.string ⟨List.toArray q⟩)), (24, (.string ⟨List.toArray s⟩))] ⟨(Y2 (h := 6) K).symm.trans e7, (Y2 (h := 12) K).symm.trans e8, trivial⟩ fun hkn => ?_
     refine Vt (op := .geq) (T := 9) (T' := 9) (x := (.tmp 18)) (y := (.tmp 24)) (a := q) (b := s) (r := (.bool (!(Op.bytesLess q s)))) (d := (some 25)) (k := 13) K rfl K K rfl ?_
     exact eK hkn
   ·rintro ρ' w' hs hf ⟨⟨g5, g6, -⟩, a3⟩
    refine Q4 [(0, (.slice A2 (List.length p1) c3)), (1, (.func (.func i) #[] j)), (5, (.int .i64 g)), (25, (.bool (!(Op.bytesLess q s))))] ⟨(hs 0 K).trans K, (hs 1 K).trans K, (hs 5 K).trans K, hf 13 25 K, trivial⟩ ?_
    obtain ⟨g7, e9⟩ : ∃ x, w' = x := ⟨_, rfl⟩
    rw [e9] at a3 ⊢
    refine Zk K (o := (.tmp 25)) K (b := (!(Op.bytesLess q s))) K (fun a4 => ?_) (fun a4 => ?_)
    ·have H := ct H a4
     refine aQ ?_
     refine aR ?_
     refine iR 1 1 [(4, (.bool false))] ?_
     refine iF ?_
     refine At.ret K ?_
     refine ⟨(.bool false), K, ?_⟩
     obtain rfl := Qh H
     exact ⟨rfl, SP.sel a3 [] rfl rfl⟩
    ·have H := cf H a4
     refine At.skip K ?_
     refine aR ?_
     refine iR 3 3 [(10, (.int .i64 g)), (11, (.int .i64 (IntKind.wrap .i64 (g + 1)))), (5, (.int .i64 (IntKind.wrap .i64 (g + 1))))] ?_
     refine iF ?_
     exact ⟨(IntKind.wrap .i64 (g + 1)), ⟨K, K, K, trivial⟩, SP.sel a3 [] rfl rfl, H⟩
  ·have H := cf H a1
   refine At.exit K (id := 0) K ?_
   refine aQ ?_
   refine aR ?_
   refine iR 1 1 [(4, (.bool true))] ?_
   refine iF ?_
   refine At.ret K ?_
   refine ⟨(.bool true), K, ?_⟩
   obtain rfl := Qh H
   exact ⟨rfl, SP.sel a6 [] rfl rfl⟩
 ·exact ⟨1, ⟨K, K, K, trivial⟩, SP.sel b4 [] rfl rfl, H⟩
def Gm (a : (List UInt8)) (b : (List UInt8)) (c : Int) : Option ((List UInt8)) :=
  (some (a))
set_option maxRecDepth 100000 in
set_option maxHeartbeats 4000000 in
theorem Ca  (a : (List UInt8)) (b : (List UInt8)) (c : Int) (w0 : World)  (r : ((List UInt8))) (H : Gm a b c = some r) :
  Calls Tryz.prog 85 #[(.agg #[(.string ⟨List.toArray a⟩), (.string ⟨List.toArray b⟩), (.int .i64 c)])] w0 (fun e w' => e = .returned (.string ⟨List.toArray r⟩) ∧ SP [] w0 w' []) := by
 unfold Gm at H
 refine Qu (n := 5) Tryz.func85 K K K ?_
 have g := Q1 [] w0
 refine aQ ?_
 refine aR ?_
 refine iS 1 ?_
 refine V6 (t := 48) (x := (.tmp 0)) (v := (.agg #[(.string ⟨List.toArray a⟩), (.string ⟨List.toArray b⟩), (.int .i64 c)])) (d := (some 1)) (k := 0) K rfl K g ?_
 intro g4 w5 f
 refine iR 1 2 [(2, (.string ⟨List.toArray ([] : List UInt8)⟩))] ?_
 refine iF ?_
 refine aQ ?_
 refine aR ?_
 refine iR 1 1 [(3, (pt g4 0))] ?_
 refine iS 2 ?_
 refine sL 9 3 g4 0 0 (.string ⟨List.toArray a⟩) 4 f rfl ?_
 refine iR 1 3 [(2, (.string ⟨List.toArray a⟩))] ?_
 refine iF ?_
 refine At.ret K ?_
 refine ⟨(.string ⟨List.toArray a⟩), K, ?_⟩
 obtain rfl := Qh H
 exact ⟨rfl, SP.sel f [] rfl rfl⟩
def Jt (a : Bool) : Option (Bool) :=
  (some (a))
def Ju (a : Int) (b : Int) (c : (List ((List UInt8) × (List UInt8) × Int))) (d : Bool) : Option (Bool) :=
  (cond d (some (false)) ((Y5 a 0 8).bind fun e => (cond e ((Y5 b 0 8).bind fun f => (cond f ((Yp c (fun y0 y1 y2 => Gm y0 y1 y2)).bind fun g => (Jt g)) (Jt false))) (Jt false))))
def U2 (a : Int) (b : Int) (c : (List ((List UInt8) × (List UInt8) × Int))) (d : Bool) : Option (Bool) :=
  (Ju a b c d)
def U3 (a : Int) (b : Int) (c : (List ((List UInt8) × (List UInt8) × Int))) (d : Bool) : Option (Bool) :=
  (U2 a b c d)
def Jv (g : (List UInt8)) (b : Int) (c : Int) (d : (List (Int × Int))) (a : (List ((List UInt8) × (List UInt8) × Int))) (e : Bool) : Option (Bool) :=
  (cond e (Ju b c a e) ((Uy g).bind fun f => (cond (!f) (U2 b c a (!f)) (cond (decide (((List.length d : Nat) : Int) > 4)) (U3 b c a (decide (((List.length d : Nat) : Int) > 4))) (U3 b c a (decide (((List.length a : Nat) : Int) > 4)))))))
def Gg (c : (List UInt8)) (d : Int) (e : Int) (a : (List (Int × Int))) (b : (List ((List UInt8) × (List UInt8) × Int))) : Option (Bool) :=
  ((V7 a (fun y0 y1 => Uh y0 y1)).bind fun f => (cond f (Jv c d e a b true) ((Vv b (fun y0 y1 y2 => Nh y0 y1 y2)).bind fun g => (Jv c d e a b g))))
set_option maxRecDepth 100000 in
set_option maxHeartbeats 4000000 in
theorem Cw (A5 : Option Addr) (c6 : Nat) (A9 : Option Addr) (i : Nat) (j : (List UInt8)) (g : Int) (h : Int) (f : (List (Int × Int))) (c : (List ((List UInt8) × (List UInt8) × Int))) (w0 : World) (hL : Ep w0) (c7 : RdT (Qf (Qd .u32) (Qd .i64)) w0 A5 c6 f) (b9 : RdT (Qf Qs (Qf Qs (Qd .i64))) w0 A9 i c) (r : (Bool)) (H : Gg j g h f c = some r) :
  Calls Tryz.prog 62 #[(.agg #[(.string ⟨List.toArray j⟩), (.int .i64 g), (.int .i64 h), (.slice A5 (List.length f) c6), (.slice A9 (List.length c) i)])] w0 (fun e w' => e = .returned (.bool r) ∧ SP [] w0 w' []) := by
 unfold Gg at H
 refine Qu (n := 40) Tryz.func62 K K K ?_
 have c8 := Q1 [] w0
 refine aQ ?_
 refine aR ?_
 refine iS 1 ?_
 refine V6 (t := 44) (x := (.tmp 0)) (v := (.agg #[(.string ⟨List.toArray j⟩), (.int .i64 g), (.int .i64 h), (.slice A5 (List.length f) c6), (.slice A9 (List.length c) i)])) (d := (some 1)) (k := 0) K rfl K c8 ?_
 intro a c9 a2
 refine iR 1 2 [(2, (.bool false))] ?_
 refine iF ?_
 refine aQ ?_
 refine aR ?_
 refine iR 1 1 [(4, (pt a 3))] ?_
 refine iS 2 ?_
 refine sL 41 4 a 3 0 (.slice A5 (List.length f) c6) 5 a2 rfl ?_
 obtain ⟨y, d0, H⟩ := Qe H
 refine iS 3 ?_
 refine cF 77 #[(.tmp 5), (.func 78)] #[41, 115] 6 Tryz.call77 (N1 A5 c6 78 #[] f (fun y0 y1 => Uh y0 y1) c9 (RdT.sp c7 a2) Tryz.call78 (fun y0 y1 z w  hw  hz => B8  y0 y1 w (Yl (Yl hL (SP.keeps a2)) hw) z hz) y d0) ?_
 rintro e d1 ⟨rfl, c0⟩
 refine ⟨_, rfl, ?_⟩
 have a3 := SP.call a2 c0
 clear c0
 refine iR 1 4 [(3, (.bool y))] ?_
 refine iF ?_
 refine aQ ?_
 refine At.join (fun ρ w => ∃ (m : Bool), V3 ρ [(1, (pt a 0)), (3, (.bool m))] ∧ SP [] w0 w [Qv a 44 #[(.string ⟨List.toArray j⟩), (.int .i64 g), (.int .i64 h), (.slice A5 (List.length f) c6), (.slice A9 (List.length c) i)]] ∧ Jv j g h f c m = some r) ?_ ?_
 ·refine aR ?_
  refine iR 2 2 [(7, (.bool y)), (8, (.bool y))] ?_
  refine In.guard (t := 8) (b := y) K (fun a8 => ?_) (fun a8 => ?_)
  ·have H := ct H a8
   refine iR 5 7 [(9, undef), (10, undef), (11, undef), (12, (.bool true)), (3, (.bool true))] ?_
   refine iF ?_
   exact ⟨true, ⟨K, K, trivial⟩, SP.sel a3 [0] rfl rfl, H⟩
  ·have H := cf H a8
   refine iR 1 3 [(9, (pt a 4))] ?_
   refine iS 4 ?_
   refine sL 42 9 a 4 0 (.slice A9 (List.length c) i) 10 a3 rfl ?_
   obtain ⟨a4, d2, H⟩ := Qe H
   refine iS 5 ?_
   refine cF 80 #[(.tmp 10), (.func 81)] #[42, 117] 11 Tryz.call80 (Nb A9 i 81 #[] c (fun y0 y1 y2 => Nh y0 y1 y2) d1 (RdT.sp b9 a3) Tryz.call81 (fun y0 y1 y2 z w  hw  hz => B9  y0 y1 y2 w  z hz) a4 d2) ?_
   rintro e e6 ⟨rfl, c1⟩
   refine ⟨_, rfl, ?_⟩
   have d3 := SP.call a3 c1
   clear c1
   refine iR 2 7 [(12, (.bool a4)), (3, (.bool a4))] ?_
   refine iF ?_
   exact ⟨a4, ⟨K, K, trivial⟩, SP.sel d3 [0] rfl rfl, H⟩
 ·rintro ρ d4 ⟨m, hk, a9, H⟩
  unfold Jv at H
  first | refine At.known [(1, (pt a 0)), (3, (.bool m))] hk ?_ | rw [← Qz (l := [(1, (pt a 0)), (3, (.bool m))]) hk]
  refine aQ ?_
  refine Z1 K (id := 0) K ?_
  refine aQ ?_
  refine aQ ?_
  refine aR ?_
  refine iR 2 2 [(14, (.bool m)), (13, (.bool m))] ?_
  refine iF ?_
  refine At.join (fun ρ w => ∃ (p : Bool), V3 ρ [(1, (pt a 0)), (13, (.bool p))] ∧ SP [] w0 w [Qv a 44 #[(.string ⟨List.toArray j⟩), (.int .i64 g), (.int .i64 h), (.slice A5 (List.length f) c6), (.slice A9 (List.length c) i)]] ∧ Ju g h c p = some r) ?_ ?_
  ·refine Zk K (o := (.tmp 13)) K (b := m) K (fun b0 => ?_) (fun b0 => ?_)
   ·have H := ct H b0
    refine At.skip K ?_
    exact ⟨m, ⟨K, K, trivial⟩, SP.sel a9 [0] rfl rfl, H⟩
   ·have H := cf H b0
    refine aQ ?_
    refine aR ?_
    refine iR 1 1 [(15, (pt a 0))] ?_
    refine iS 2 ?_
    refine sL 9 15 a 0 0 (.string ⟨List.toArray j⟩) 16 a9 rfl ?_
    obtain ⟨a0, d5, H⟩ := Qe H
    refine iS 3 ?_
    refine cF 83 #[(.tmp 16)] #[9] 17 Tryz.call83 (Dr  j d4  a0 d5) ?_
    rintro e e7 ⟨rfl, c2⟩
    refine ⟨_, rfl, ?_⟩
    have a1 := SP.call a9 c2
    clear c2
    refine iR 2 5 [(18, (.bool (!a0))), (13, (.bool (!a0)))] ?_
    refine iF ?_
    refine At.join (fun ρ w => ∃ (q : Bool), V3 ρ [(1, (pt a 0)), (13, (.bool q))] ∧ SP [] w0 w [Qv a 44 #[(.string ⟨List.toArray j⟩), (.int .i64 g), (.int .i64 h), (.slice A5 (List.length f) c6), (.slice A9 (List.length c) i)]] ∧ U2 g h c q = some r) ?_ ?_
    ·refine Zk K (o := (.tmp 13)) K (b := (!a0)) K (fun b1 => ?_) (fun b1 => ?_)
     ·have H := ct H b1
      refine At.skip K ?_
      exact ⟨(!a0), ⟨K, K, trivial⟩, SP.sel a1 [0] rfl rfl, H⟩
     ·have H := cf H b1
      refine aQ ?_
      refine aR ?_
      refine iR 1 1 [(19, (pt a 3))] ?_
      refine iS 2 ?_
      refine sL 41 19 a 3 0 (.slice A5 (List.length f) c6) 20 a1 rfl ?_
      refine iR 3 5 [(21, (.int .i64 ((List.length f : Nat) : Int))), (22, (.bool (decide (((List.length f : Nat) : Int) > 4)))), (13, (.bool (decide (((List.length f : Nat) : Int) > 4))))] ?_
      refine iF ?_
      refine At.join (fun ρ w => ∃ (s : Bool), V3 ρ [(1, (pt a 0)), (13, (.bool s))] ∧ SP [] w0 w [Qv a 44 #[(.string ⟨List.toArray j⟩), (.int .i64 g), (.int .i64 h), (.slice A5 (List.length f) c6), (.slice A9 (List.length c) i)]] ∧ U3 g h c s = some r) ?_ ?_
      ·refine Zk K (o := (.tmp 13)) K (b := (decide (((List.length f : Nat) : Int) > 4))) K (fun b2 => ?_) (fun b2 => ?_)
       ·have H := ct H b2
        refine At.skip K ?_
        exact ⟨(decide (((List.length f : Nat) : Int) > 4)), ⟨K, K, trivial⟩, SP.sel a1 [0] rfl rfl, H⟩
       ·have H := cf H b2
        refine aR ?_
        refine iR 1 1 [(23, (pt a 4))] ?_
        refine iS 2 ?_
        refine sL 42 23 a 4 0 (.slice A9 (List.length c) i) 24 a1 rfl ?_
        refine iR 3 5 [(25, (.int .i64 ((List.length c : Nat) : Int))), (26, (.bool (decide (((List.length c : Nat) : Int) > 4)))), (13, (.bool (decide (((List.length c : Nat) : Int) > 4))))] ?_
        refine iF ?_
        exact ⟨(decide (((List.length c : Nat) : Int) > 4)), ⟨K, K, trivial⟩, SP.sel a1 [0] rfl rfl, H⟩
      ·rintro ρ e8 ⟨s, hk, d6, H⟩
       unfold U3 at H
       first | refine At.known [(1, (pt a 0)), (13, (.bool s))] hk ?_ | rw [← Qz (l := [(1, (pt a 0)), (13, (.bool s))]) hk]
       exact ⟨s, ⟨K, K, trivial⟩, SP.sel d6 [0] rfl rfl, H⟩
    ·rintro ρ e9 ⟨q, hk, d7, H⟩
     unfold U2 at H
     first | refine At.known [(1, (pt a 0)), (13, (.bool q))] hk ?_ | rw [← Qz (l := [(1, (pt a 0)), (13, (.bool q))]) hk]
     exact ⟨q, ⟨K, K, trivial⟩, SP.sel d7 [0] rfl rfl, H⟩
  ·rintro ρ d8 ⟨p, hk, b3, H⟩
   unfold Ju at H
   first | refine At.known [(1, (pt a 0)), (13, (.bool p))] hk ?_ | rw [← Qz (l := [(1, (pt a 0)), (13, (.bool p))]) hk]
   refine Zk K (o := (.tmp 13)) K (b := p) K (fun b4 => ?_) (fun b4 => ?_)
   ·have H := ct H b4
    refine aQ ?_
    refine aR ?_
    refine iR 1 1 [(2, (.bool false))] ?_
    refine iF ?_
    refine At.ret K ?_
    refine ⟨(.bool false), K, ?_⟩
    obtain rfl := Qh H
    exact ⟨rfl, SP.sel b3 [] rfl rfl⟩
   ·have H := cf H b4
    refine At.skip K ?_
    refine aQ ?_
    refine At.join (fun ρ w => ∃ (u : Bool), V3 ρ [(2, (.bool u))] ∧ SP [] w0 w [] ∧ Jt u = some r) ?_ ?_
    ·refine aR ?_
     refine iR 1 1 [(27, (pt a 1))] ?_
     refine iS 2 ?_
     refine sL 3 27 a 1 0 (.int .i64 g) 28 b3 rfl ?_
     obtain ⟨b5, d9, H⟩ := Qe H
     refine iS 3 ?_
     refine cF 59 #[(.tmp 28), (.const (.int .i64 (0))), (.const (.int .i64 (8)))] #[2, 2, 2] 29 Tryz.call59 (J8  g 0 8 d8  b5 d9) ?_
     rintro e e0 ⟨rfl, c3⟩
     refine ⟨_, rfl, ?_⟩
     have b6 := SP.call b3 c3
     clear c3
     refine iR 1 4 [(30, (.bool b5))] ?_
     refine In.guard (t := 30) (b := b5) K (fun b7 => ?_) (fun b7 => ?_)
     ·have H := ct H b7
      refine iR 1 5 [(31, (pt a 2))] ?_
      refine iS 6 ?_
      refine sL 3 31 a 2 0 (.int .i64 h) 32 b6 rfl ?_
      obtain ⟨a5, e1, H⟩ := Qe H
      refine iS 7 ?_
      refine cF 59 #[(.tmp 32), (.const (.int .i64 (0))), (.const (.int .i64 (8)))] #[2, 2, 2] 33 Tryz.call59 (J8  h 0 8 e0  a5 e1) ?_
      rintro e e2 ⟨rfl, c4⟩
      refine ⟨_, rfl, ?_⟩
      have a6 := SP.call b6 c4
      clear c4
      refine iR 2 9 [(34, (.bool a5)), (35, (.bool a5))] ?_
      refine In.guard (t := 35) (b := a5) K (fun b8 => ?_) (fun b8 => ?_)
      ·have H := ct H b8
       refine iR 1 10 [(36, (pt a 4))] ?_
       refine iS 11 ?_
       refine sL 42 36 a 4 0 (.slice A9 (List.length c) i) 37 a6 rfl ?_
       obtain ⟨a7, e3, H⟩ := Qe H
       refine iS 12 ?_
       refine cF 84 #[(.tmp 37), (.func 85)] #[42, 120] 38 Tryz.call84 (R4 A9 i 85 #[] c (fun y0 y1 y2 => Gm y0 y1 y2) e2 (RdT.sp b9 a6) Tryz.call85 (fun y0 y1 y2 z w  hw  hz => Ca  y0 y1 y2 w  z hz) a7 e3) ?_
       rintro e f0 ⟨rfl, c5⟩
       refine ⟨_, rfl, ?_⟩
       have e4 := SP.call a6 c5
       clear c5
       refine iR 2 14 [(39, (.bool a7)), (2, (.bool a7))] ?_
       refine iF ?_
       exact ⟨a7, ⟨K, trivial⟩, SP.sel e4 [] rfl rfl, H⟩
      ·have H := cf H b8
       refine iR 5 14 [(36, undef), (37, undef), (38, undef), (39, (.bool false)), (2, (.bool false))] ?_
       refine iF ?_
       exact ⟨false, ⟨K, trivial⟩, SP.sel a6 [] rfl rfl, H⟩
     ·have H := cf H b7
      refine iR 10 14 [(31, undef), (32, undef), (33, undef), (34, (.bool false)), (35, (.bool false)), (36, undef), (37, undef), (38, undef), (39, (.bool false)), (2, (.bool false))] ?_
      refine iF ?_
      exact ⟨false, ⟨K, trivial⟩, SP.sel b6 [] rfl rfl, H⟩
    ·rintro ρ f1 ⟨u, hk, e5, H⟩
     unfold Jt at H
     first | refine At.known [(2, (.bool u))] hk ?_ | rw [← Qz (l := [(2, (.bool u))]) hk]
     refine At.ret K ?_
     refine ⟨(.bool u), K, ?_⟩
     obtain rfl := Qh H
     exact ⟨rfl, SP.sel e5 [] rfl rfl⟩
def N2 (a : (List UInt8)) (b : Int) (c : Int) (d : (List (Int × Int))) (e : (List ((List UInt8) × (List UInt8) × Int))) : Option (Bool) :=
  ((Gg a b c d e).bind fun f => (some ((!f))))
set_option maxRecDepth 100000 in
set_option maxHeartbeats 4000000 in
theorem Cj (A5 : Option Addr) (c6 : Nat) (A9 : Option Addr) (c : Nat) (f : (List UInt8)) (g : Int) (h : Int) (a : (List (Int × Int))) (b : (List ((List UInt8) × (List UInt8) × Int))) (w0 : World) (hL : Ep w0) (m : RdT (Qf (Qd .u32) (Qd .i64)) w0 A5 c6 a) (o : RdT (Qf Qs (Qf Qs (Qd .i64))) w0 A9 c b) (r : (Bool)) (H : N2 f g h a b = some r) :
  Calls Tryz.prog 61 #[(.agg #[(.string ⟨List.toArray f⟩), (.int .i64 g), (.int .i64 h), (.slice A5 (List.length a) c6), (.slice A9 (List.length b) c)])] w0 (fun e w' => e = .returned (.bool r) ∧ SP [] w0 w' []) := by
 unfold N2 at H
 refine Qu (n := 6) Tryz.func61 K K K ?_
 have p := Q1 [] w0
 refine aQ ?_
 refine aR ?_
 refine iS 1 ?_
 refine V6 (t := 44) (x := (.tmp 0)) (v := (.agg #[(.string ⟨List.toArray f⟩), (.int .i64 g), (.int .i64 h), (.slice A5 (List.length a) c6), (.slice A9 (List.length b) c)])) (d := (some 1)) (k := 0) K rfl K p ?_
 intro q s i
 refine iR 1 2 [(2, (.bool false))] ?_
 refine iF ?_
 refine aQ ?_
 refine aR ?_
 refine iS 1 ?_
 refine sL 44 1 q 0 0 (.agg #[(.string ⟨List.toArray f⟩), (.int .i64 g), (.int .i64 h), (.slice A5 (List.length a) c6), (.slice A9 (List.length b) c)]) 3 i rfl ?_
 obtain ⟨j, u, H⟩ := Qe H
 refine iS 2 ?_
 refine cF 62 #[(.tmp 3)] #[44] 4 Tryz.call62 (Cw A5 c6 A9 c f g h a b s (Yl hL (SP.keeps i)) (RdT.sp m i) (RdT.sp o i) j u) ?_
 rintro e y ⟨rfl, l⟩
 refine ⟨_, rfl, ?_⟩
 have w := SP.call i l
 clear l
 refine iR 2 4 [(5, (.bool (!j))), (2, (.bool (!j)))] ?_
 refine iF ?_
 refine At.ret K ?_
 refine ⟨(.bool (!j)), K, ?_⟩
 obtain rfl := Qh H
 exact ⟨rfl, SP.sel w [] rfl rfl⟩
def V4 (d : Int → Option (Bool)) (p1 : (List Qi)) (p6 : ((List UInt8) → Int → Int → (List (Int × Int)) → (List ((List UInt8) × (List UInt8) × Int)) → Option ((List UInt8)))) (c : Int) : Option (Bool) :=
  (cond (decide (c < ((List.length p1 : Nat) : Int))) ((idx p1 (IntKind.wrap .i64 (c - 1))).bind fun a => ((p6 a.1 a.2.1 a.2.2.1 a.2.2.2.1 a.2.2.2.2).bind fun e => ((idx p1 c).bind fun b => ((p6 b.1 b.2.1 b.2.2.1 b.2.2.2.1 b.2.2.2.2).bind fun f => (cond (!(Op.bytesLess e f)) (some (false)) (d (IntKind.wrap .i64 (c + 1)))))))) (some (true)))
def V5 (p1 : (List Qi)) (p6 : ((List UInt8) → Int → Int → (List (Int × Int)) → (List ((List UInt8) × (List UInt8) × Int)) → Option ((List UInt8)))) : Nat → Int → Option (Bool)
  | 0, _ => none
  | f + 1, a => V4  (V5 p1 p6 f) p1 p6 a
def Yd (p1 : (List Qi)) (p6 : ((List UInt8) → Int → Int → (List (Int × Int)) → (List ((List UInt8) × (List UInt8) × Int)) → Option ((List UInt8)))) : Option (Bool) :=
  (V5 p1 p6 Zj 1)
set_option maxRecDepth 100000 in
set_option maxHeartbeats 4000000 in
theorem Rt (A2 : Option Addr) (c3 : Nat) (m : FuncId) (p : Array Value) (d5 : (List Vl)) (p6 : ((List UInt8) → Int → Int → (List (Int × Int)) → (List ((List UInt8) × (List UInt8) × Int)) → Option ((List UInt8)))) (w0 : World) (q : (dDS Ua Eh).ok w0 (A2, c3, d5)) (hcf9 : ∀ (args : Array Value) (w : World), (callFunc m args).run Tryz.prog w = .ok (.enter m args) w) (a9 : ∀ (y0 : (List UInt8)) (y1 : Int) (y2 : Int) (y3 : (List (Int × Int))) (y4 : (List ((List UInt8) × (List UInt8) × Int))) (z : ((List UInt8))) (w : World) (Ay3 : Option Addr) (cy3 : Nat) (Ay4 : Option Addr) (cy4 : Nat), Below w0.heap.size w0 w → RdT (Qf (Qd .u32) (Qd .i64)) w Ay3 cy3 y3 → RdT (Qf Qs (Qf Qs (Qd .i64))) w Ay4 cy4 y4 → p6 y0 y1 y2 y3 y4 = some z → Calls Tryz.prog m (([(.agg #[(.string ⟨List.toArray y0⟩), (.int .i64 y1), (.int .i64 y2), (.slice Ay3 (List.length y3) cy3), (.slice Ay4 (List.length y4) cy4)])] : List Value) ++ (p).toList).toArray w (fun e w' => e = .returned (.string ⟨List.toArray z⟩) ∧ SP [] w w' [])) (r : (Bool)) (H : Yd (List.map stT d5) p6 = some r) :
  Calls Tryz.prog 63 #[(.slice A2 (List.length (List.map stT d5)) c3), (.func (.func m) #[] p)] w0 (fun e w' => e = .returned (.bool r) ∧ SP [] w0 w' []) := by
 unfold Yd at H
 refine Qu (n := 26) Tryz.func63 K K K ?_
 have b5 := Q1 [] w0
 refine aQ ?_
 refine aR ?_
 refine iR 1 1 [(4, (.bool false))] ?_
 refine iF ?_
 refine aQ ?_
 refine aQ ?_
 refine aR ?_
 refine iR 1 1 [(5, (.int .i64 1))] ?_
 refine iF ?_
 refine Z1 K (id := 0) K ?_
 refine Nf K (fun f1 ρ w => ∃ (j : Int), V3 ρ [(0, (.slice A2 (List.length (List.map stT d5)) c3)), (1, (.func (.func m) #[] p)), (5, (.int .i64 j))] ∧ SP [] w0 w [] ∧ V5 (List.map stT d5) p6 f1 j = some r) (by rintro ρ w ⟨j, hk, hs, H⟩; cases H) ?_ Zj ?_
 ·rintro f1 ρ f2 ⟨j, hk, b0, H⟩
  refine At.known [(0, (.slice A2 (List.length (List.map stT d5)) c3)), (1, (.func (.func m) #[] p)), (5, (.int .i64 j))] hk ?_
  replace H := (show V4 (V5 (List.map stT d5) p6 f1) (List.map stT d5) p6 j = some r from H)
  unfold V4 at H
  refine aQ ?_
  refine aQ ?_
  refine aR ?_
  refine iR 4 4 [(6, (.int .i64 j)), (7, (.slice A2 (List.length (List.map stT d5)) c3)), (8, (.int .i64 ((List.length (List.map stT d5) : Nat) : Int))), (9, (.bool (decide (j < ((List.length (List.map stT d5) : Nat) : Int)))))] ?_
  refine iF ?_
  refine Zk K (o := (.tmp 9)) K (b := (decide (j < ((List.length (List.map stT d5) : Nat) : Int)))) K (fun a4 => ?_) (fun a4 => ?_)
  ·have H := ct H a4
   refine At.skip K ?_
   refine aQ ?_
   refine Z1 K (id := 1) K ?_
   refine aQ ?_
   obtain ⟨i, b1, b2, a5, H⟩ := G1 H
   obtain ⟨s, b6, H⟩ := Qe H
   obtain ⟨g, v, a0, a1, H⟩ := G1 H
   obtain ⟨u, b7, H⟩ := Qe H
   refine aG [GEq (.func (.func m) #[] p), GEq (.slice A2 (List.length (List.map stT d5)) c3), GEq (.int .i64 j), GEq (.int .i64 (IntKind.wrap .i64 (j - 1))), Vi A2 Ua.sz (IntKind.wrap .i64 (j - 1)), GEq (.agg #[(.string ⟨List.toArray (stT i).1⟩), (.int .i64 (stT i).2.1), (.int .i64 (stT i).2.2.1), (.slice i.2.2.2.1.1 (List.length (stT i).2.2.2.1) i.2.2.2.1.2.1), (.slice i.2.2.2.2.1 (List.length (stT i).2.2.2.2) i.2.2.2.2.2.1)]), GEq (.string ⟨List.toArray s⟩), GEq (.func (.func m) #[] p), GEq (.slice A2 (List.length (List.map stT d5)) c3), GEq (.int .i64 j), Vi A2 Ua.sz j, GEq (.agg #[(.string ⟨List.toArray (stT g).1⟩), (.int .i64 (stT g).2.1), (.int .i64 (stT g).2.2.1), (.slice g.2.2.2.1.1 (List.length (stT g).2.2.2.1) g.2.2.2.1.2.1), (.slice g.2.2.2.2.1 (List.length (stT g).2.2.2.2) g.2.2.2.2.2.1)]), GEq (.string ⟨List.toArray u⟩), GEq (.bool (!(Op.bytesLess s u)))] [6, 12] (tG [] w0 [] [([], []), ([6], [(.string ⟨List.toArray s⟩)]), ([6, 12], [(.string ⟨List.toArray s⟩), (.string ⟨List.toArray u⟩)])]) 14 2 ⟨trivial, SP.drew b0⟩ ?_ ?_
   iterate 14 refine And.intro ?_ ?_
   exact trivial
   ·exact oV (hC (hS 1 (.func (.func m) #[] p)) (h0)) (.func (.func m) #[] p)
   ·exact oV (hC (hS 0 (.slice A2 (List.length (List.map stT d5)) c3)) (h0)) (.slice A2 (List.length (List.map stT d5)) c3)
   ·exact oV (hC (hS 5 (.int .i64 j)) (h0)) (.int .i64 j)
   ·exact oV (hC (hA 2 14) (h0)) (.int .i64 (IntKind.wrap .i64 (j - 1)))
   ·refine oL 0 ?_
    ·rintro ρ' w' hs hah ⟨f3, b8⟩
     refine kM (kc (kA hah 1 13) (kc (kA hah 3 15) k0)) fun hkn => ?_
     refine Ug stT (e := Ua) (l := d5) (A := A2) (c := c3) (T := 22) (E := 44) (x := (.tmp 13)) (ix := (.tmp 15)) (ki := .i64) (iz := (IntKind.wrap .i64 (j - 1))) (d := (some 16)) (k := 4) K rfl K K K K (RdT.sp (Ut q) b8) b1 b2 ?_
     intro b9 c0 c1 f4 hc276
     exact ⟨rfl, _, Qa hkn, ⟨b9, c0, c1, rfl⟩⟩
   ·refine oL 0 ?_
    ·rintro ρ' w' hs hah ⟨f5, c2⟩
     obtain ⟨c4, c5, c6, c7⟩ := hah 4 16 K
     refine kM (kc c7 k0) fun hkn => ?_
     refine Qk.cells (t := 44) (x := (.tmp 16)) (b := c4) (off := (c5 + Int.toNat (IntKind.wrap .i64 (j - 1)) * Ua.sz)) (xs := [(.string ⟨List.toArray (stT i).1⟩), (.int .i64 (stT i).2.1), (.int .i64 (stT i).2.2.1), (.slice i.2.2.2.1.1 (List.length (stT i).2.2.2.1) i.2.2.2.1.2.1), (.slice i.2.2.2.2.1 (List.length (stT i).2.2.2.2) i.2.2.2.2.2.1)]) (d := (some 17)) (k := 5) K rfl K K K (Z2 (e := Ua) (Qg (RdT.sp (Ut q) c2) c6 b1 b2) a5 rfl) ?_
     exact eK hkn
   ·refine oH 0 1 ?_
    ·rintro ρ' w' hs hah ⟨f6, a2⟩
     refine kM (kc (kA hah 0 12) (kc (kA hah 5 17) k0)) fun hkn => ?_
     refine Ud (f := m) (fo := (.tmp 12)) (xs := #[(.tmp 17)]) (tys := #[44]) (first := #[]) (captured := p) (args := (([(.agg #[(.string ⟨List.toArray (stT i).1⟩), (.int .i64 (stT i).2.1), (.int .i64 (stT i).2.2.1), (.slice i.2.2.2.1.1 (List.length (stT i).2.2.2.1) i.2.2.2.1.2.1), (.slice i.2.2.2.2.1 (List.length (stT i).2.2.2.2) i.2.2.2.2.2.1)])] : List Value) ++ (p).toList)) (d := (some 18)) (k := 6) K rfl K K hcf9 (a9 (stT i).1 (stT i).2.1 (stT i).2.2.1 (stT i).2.2.2.1 (stT i).2.2.2.2 s w' i.2.2.2.1.1 i.2.2.2.1.2.1 i.2.2.2.2.1 i.2.2.2.2.2.1 (SP.keeps a2) (RdT.sp (Ut (dp1 (dp2 (dp2 (dp2 (D7 q a5)))))) a2) (RdT.sp (Ut (dp2 (dp2 (dp2 (dp2 (D7 q a5)))))) a2) b6) ?_
     rintro e f7 ⟨rfl, b3⟩
     refine ⟨_, rfl, ?_⟩
     have c8 := SP.call a2 b3
     clear b3
     refine ⟨_, Qa hkn, rfl, ?_⟩
     exact (And.intro (And.intro rfl (trivial)) (c8))
   ·exact oV (hC (hS 1 (.func (.func m) #[] p)) (h0)) (.func (.func m) #[] p)
   ·exact oV (hC (hS 0 (.slice A2 (List.length (List.map stT d5)) c3)) (h0)) (.slice A2 (List.length (List.map stT d5)) c3)
   ·exact oV (hC (hS 5 (.int .i64 j)) (h0)) (.int .i64 j)
   ·refine Owe.light K [0, 1] K (Qb ?_ (Qb ?_ Qx))
    ·rintro ρ' w' hs hah ⟨f8, c9⟩
     refine kM (kc (kA hah 8 20) (kc (kA hah 9 21) k0)) fun hkn => ?_
     refine Ug stT (e := Ua) (l := d5) (A := A2) (c := c3) (T := 22) (E := 44) (x := (.tmp 20)) (ix := (.tmp 21)) (ki := .i64) (iz := j) (d := (some 22)) (k := 10) K rfl K K K K (RdT.sp (Ut q) c9) v a0 ?_
     intro d0 d1 d2 f9 hc294
     exact ⟨rfl, _, Qa hkn, ⟨d0, d1, d2, rfl⟩⟩
    ·rintro ρ' w' hs hah ⟨⟨g0, -⟩, d3⟩
     refine kM (kc (kA hah 8 20) (kc (kA hah 9 21) k0)) fun hkn => ?_
     refine Ug stT (e := Ua) (l := d5) (A := A2) (c := c3) (T := 22) (E := 44) (x := (.tmp 20)) (ix := (.tmp 21)) (ki := .i64) (iz := j) (d := (some 22)) (k := 10) K rfl K K K K (RdT.sp (Ut q) d3) v a0 ?_
     intro d4 d6 d7 g1 hc302
     exact ⟨rfl, _, Qa hkn, ⟨d4, d6, d7, rfl⟩⟩
   ·refine Owe.light K [0, 1] K (Qb ?_ (Qb ?_ Qx))
    ·rintro ρ' w' hs hah ⟨g2, d8⟩
     obtain ⟨d9, e0, e1, a6⟩ := hah 10 22 K
     refine kM (kc a6 k0) fun hkn => ?_
     refine Qk.cells (t := 44) (x := (.tmp 22)) (b := d9) (off := (e0 + Int.toNat j * Ua.sz)) (xs := [(.string ⟨List.toArray (stT g).1⟩), (.int .i64 (stT g).2.1), (.int .i64 (stT g).2.2.1), (.slice g.2.2.2.1.1 (List.length (stT g).2.2.2.1) g.2.2.2.1.2.1), (.slice g.2.2.2.2.1 (List.length (stT g).2.2.2.2) g.2.2.2.2.2.1)]) (d := (some 23)) (k := 11) K rfl K K K (Z2 (e := Ua) (Qg (RdT.sp (Ut q) d8) e1 v a0) a1 rfl) ?_
     exact eK hkn
    ·rintro ρ' w' hs hah ⟨⟨g3, -⟩, e2⟩
     obtain ⟨e3, e4, e5, a6⟩ := hah 10 22 K
     refine kM (kc a6 k0) fun hkn => ?_
     refine Qk.cells (t := 44) (x := (.tmp 22)) (b := e3) (off := (e4 + Int.toNat j * Ua.sz)) (xs := [(.string ⟨List.toArray (stT g).1⟩), (.int .i64 (stT g).2.1), (.int .i64 (stT g).2.2.1), (.slice g.2.2.2.1.1 (List.length (stT g).2.2.2.1) g.2.2.2.1.2.1), (.slice g.2.2.2.2.1 (List.length (stT g).2.2.2.2) g.2.2.2.2.2.1)]) (d := (some 23)) (k := 11) K rfl K K K (Z2 (e := Ua) (Qg (RdT.sp (Ut q) e2) e5 v a0) a1 rfl) ?_
     exact eK hkn
   ·refine oH 1 2 ?_
    ·rintro ρ' w' hs hah ⟨⟨e6, -⟩, a3⟩
     refine kM (kc (kA hah 7 19) (kc (kA hah 11 23) k0)) fun hkn => ?_
     refine Ud (f := m) (fo := (.tmp 19)) (xs := #[(.tmp 23)]) (tys := #[44]) (first := #[]) (captured := p) (args := (([(.agg #[(.string ⟨List.toArray (stT g).1⟩), (.int .i64 (stT g).2.1), (.int .i64 (stT g).2.2.1), (.slice g.2.2.2.1.1 (List.length (stT g).2.2.2.1) g.2.2.2.1.2.1), (.slice g.2.2.2.2.1 (List.length (stT g).2.2.2.2) g.2.2.2.2.2.1)])] : List Value) ++ (p).toList)) (d := (some 24)) (k := 12) K rfl K K hcf9 (a9 (stT g).1 (stT g).2.1 (stT g).2.2.1 (stT g).2.2.2.1 (stT g).2.2.2.2 u w' g.2.2.2.1.1 g.2.2.2.1.2.1 g.2.2.2.2.1 g.2.2.2.2.2.1 (SP.keeps a3) (RdT.sp (Ut (dp1 (dp2 (dp2 (dp2 (D7 q a1)))))) a3) (RdT.sp (Ut (dp2 (dp2 (dp2 (dp2 (D7 q a1)))))) a3) b7) ?_
     rintro e g4 ⟨rfl, b4⟩
     refine ⟨_, rfl, ?_⟩
     have e7 := SP.call a3 b4
     clear b4
     refine ⟨_, Qa hkn, rfl, ?_⟩
     exact (And.intro (And.intro e6 (And.intro rfl (trivial))) (e7))
   ·refine oL 2 ?_
    ·rintro ρ' w' hs hah ⟨⟨e8, e9, -⟩, g5⟩
     refine kN [(18, (.string ⟨List.toArray s⟩)), (24, (.string ⟨List.toArray u⟩))] ⟨(Y2 (h := 6) K).symm.trans e8, (Y2 (h := 12) K).symm.trans e9, trivial⟩ fun hkn => ?_
     refine Vt (op := .geq) (T := 9) (T' := 9) (x := (.tmp 18)) (y := (.tmp 24)) (a := s) (b := u) (r := (.bool (!(Op.bytesLess s u)))) (d := (some 25)) (k := 13) K rfl K K rfl ?_
     exact eK hkn
   ·rintro ρ' w' hs hf ⟨⟨g6, g7, -⟩, a7⟩
    refine Q4 [(0, (.slice A2 (List.length (List.map stT d5)) c3)), (1, (.func (.func m) #[] p)), (5, (.int .i64 j)), (25, (.bool (!(Op.bytesLess s u))))] ⟨(hs 0 K).trans K, (hs 1 K).trans K, (hs 5 K).trans K, hf 13 25 K, trivial⟩ ?_
    obtain ⟨g8, f0⟩ : ∃ x, w' = x := ⟨_, rfl⟩
    rw [f0] at a7 ⊢
    refine Zk K (o := (.tmp 25)) K (b := (!(Op.bytesLess s u))) K (fun a8 => ?_) (fun a8 => ?_)
    ·have H := ct H a8
     refine aQ ?_
     refine aR ?_
     refine iR 1 1 [(4, (.bool false))] ?_
     refine iF ?_
     refine At.ret K ?_
     refine ⟨(.bool false), K, ?_⟩
     obtain rfl := Qh H
     exact ⟨rfl, SP.sel a7 [] rfl rfl⟩
    ·have H := cf H a8
     refine At.skip K ?_
     refine aR ?_
     refine iR 3 3 [(10, (.int .i64 j)), (11, (.int .i64 (IntKind.wrap .i64 (j + 1)))), (5, (.int .i64 (IntKind.wrap .i64 (j + 1))))] ?_
     refine iF ?_
     exact ⟨(IntKind.wrap .i64 (j + 1)), ⟨K, K, K, trivial⟩, SP.sel a7 [] rfl rfl, H⟩
  ·have H := cf H a4
   refine At.exit K (id := 0) K ?_
   refine aQ ?_
   refine aR ?_
   refine iR 1 1 [(4, (.bool true))] ?_
   refine iF ?_
   refine At.ret K ?_
   refine ⟨(.bool true), K, ?_⟩
   obtain rfl := Qh H
   exact ⟨rfl, SP.sel b0 [] rfl rfl⟩
 ·exact ⟨1, ⟨K, K, K, trivial⟩, SP.sel b5 [] rfl rfl, H⟩
def G5 (a : (List UInt8)) (b : Int) (c : Int) (d : (List (Int × Int))) (e : (List ((List UInt8) × (List UInt8) × Int))) : Option ((List UInt8)) :=
  (some (a))
set_option maxRecDepth 100000 in
set_option maxHeartbeats 4000000 in
theorem Ck (A5 : Option Addr) (c6 : Nat) (A9 : Option Addr) (f : Nat) (a : (List UInt8)) (g : Int) (h : Int) (b : (List (Int × Int))) (c : (List ((List UInt8) × (List UInt8) × Int))) (w0 : World) (m : RdT (Qf (Qd .u32) (Qd .i64)) w0 A5 c6 b) (o : RdT (Qf Qs (Qf Qs (Qd .i64))) w0 A9 f c) (r : ((List UInt8))) (H : G5 a g h b c = some r) :
  Calls Tryz.prog 64 #[(.agg #[(.string ⟨List.toArray a⟩), (.int .i64 g), (.int .i64 h), (.slice A5 (List.length b) c6), (.slice A9 (List.length c) f)])] w0 (fun e w' => e = .returned (.string ⟨List.toArray r⟩) ∧ SP [] w0 w' []) := by
 unfold G5 at H
 refine Qu (n := 5) Tryz.func64 K K K ?_
 have l := Q1 [] w0
 refine aQ ?_
 refine aR ?_
 refine iS 1 ?_
 refine V6 (t := 44) (x := (.tmp 0)) (v := (.agg #[(.string ⟨List.toArray a⟩), (.int .i64 g), (.int .i64 h), (.slice A5 (List.length b) c6), (.slice A9 (List.length c) f)])) (d := (some 1)) (k := 0) K rfl K l ?_
 intro i p j
 refine iR 1 2 [(2, (.string ⟨List.toArray ([] : List UInt8)⟩))] ?_
 refine iF ?_
 refine aQ ?_
 refine aR ?_
 refine iR 1 1 [(3, (pt i 0))] ?_
 refine iS 2 ?_
 refine sL 9 3 i 0 0 (.string ⟨List.toArray a⟩) 4 j rfl ?_
 refine iR 1 3 [(2, (.string ⟨List.toArray a⟩))] ?_
 refine iF ?_
 refine At.ret K ?_
 refine ⟨(.string ⟨List.toArray a⟩), K, ?_⟩
 obtain rfl := Qh H
 exact ⟨rfl, SP.sel j [] rfl rfl⟩
def Uj (b : Int → Option (Bool)) (a : Bool) : Option (Bool) :=
  (some (a))
def Yx (a : Int → Option (Bool)) (d : Int) (e : Int) (f : Int) (g : Int) (b : (List Qi)) (c : Int) : Option (Bool) :=
  (cond (decide (c < ((List.length ([d, e, f, g] : List Int) : Nat) : Int))) ((idx ([d, e, f, g] : List Int) c).bind fun h => ((Y5 h 1 1073741824).bind fun i => (cond (!i) (some (false)) (a (IntKind.wrap .i64 (c + 1)))))) (cond (decide (((List.length b : Nat) : Int) ≤ 8)) ((Vo b (fun y0 y1 y2 y3 y4 => N2 y0 y1 y2 y3 y4)).bind fun j => (cond (!j) ((Yd b (fun y0 y1 y2 y3 y4 => G5 y0 y1 y2 y3 y4)).bind fun k => (Uj a k)) (Uj a false))) (Uj a false)))
def Jg (a : Int) (b : Int) (c : Int) (d : Int) (e : (List Qi)) : Nat → Int → Option (Bool)
  | 0, _ => none
  | f + 1, g => Yx  (Jg a b c d e f) a b c d e g
def G3 (a : Int) (b : Int) (c : Int) (d : Int) (e : (List Qi)) : Option (Bool) :=
  (Jg a b c d e Zj 0)
set_option maxRecDepth 100000 in
set_option maxHeartbeats 4000000 in
theorem C9 (A6 : Option Addr) (c7 : Nat) (a : Int) (f : Int) (g : Int) (h : Int) (d9 : (List Vl)) (w0 : World) (hL : Ep w0) (a9 : (dDS Ua Eh).ok w0 (A6, c7, d9)) (r : (Bool)) (H : G3 a f g h (List.map stT d9) = some r) :
  Calls Tryz.prog 43 #[(.agg #[(.int .i64 a), (.int .i64 f), (.int .i64 g), (.int .i64 h), (.slice A6 (List.length (List.map stT d9)) c7)])] w0 (fun e w' => e = .returned (.bool r) ∧ SP [] w0 w' []) := by
 unfold G3 at H
 refine Qu (n := 38) Tryz.func43 K K K ?_
 have b7 := Q1 [] w0
 refine aQ ?_
 refine aR ?_
 refine iS 1 ?_
 refine V6 (t := 24) (x := (.tmp 0)) (v := (.agg #[(.int .i64 a), (.int .i64 f), (.int .i64 g), (.int .i64 h), (.slice A6 (List.length (List.map stT d9)) c7)])) (d := (some 1)) (k := 0) K rfl K b7 ?_
 intro m d0 u
 refine iR 1 2 [(2, (.bool false))] ?_
 refine iF ?_
 refine aQ ?_
 refine aQ ?_
 refine aR ?_
 refine iR 1 1 [(5, (pt m 0))] ?_
 refine iS 2 ?_
 refine sL 2 5 m 0 0 (.int .i64 a) 6 u rfl ?_
 refine iR 1 3 [(7, (pt m 1))] ?_
 refine iS 4 ?_
 refine sL 2 7 m 1 0 (.int .i64 f) 8 u rfl ?_
 refine iR 1 5 [(9, (pt m 2))] ?_
 refine iS 6 ?_
 refine sL 2 9 m 2 0 (.int .i64 g) 10 u rfl ?_
 refine iR 1 7 [(11, (pt m 3))] ?_
 refine iS 8 ?_
 refine sL 2 11 m 3 0 (.int .i64 h) 12 u rfl ?_
 refine iS 9 ?_
 refine V9 (e := (Qd .i64)) (T := 99) (E := 2) (len := 4) (parts := #[(0, (.tmp 6)), (1, (.tmp 8)), (2, (.tmp 10)), (3, (.tmp 12))]) (cs := #[(.int .i64 a), (.int .i64 f), (.int .i64 g), (.int .i64 h)]) ([a, f, g, h] : List Int) (d := (some 13)) (k := 8) K rfl (fun _ => K) u rfl rfl rfl rfl ?_
 intro a0 d1 b8
 refine iR 2 11 [(14, (.int .i64 ((List.length ([a, f, g, h] : List Int) : Nat) : Int))), (15, (.int .i64 0))] ?_
 refine iF ?_
 refine Z1 K (id := 0) K ?_
 refine Nf K (fun f3 ρ w => ∃ (p : Int), V3 ρ [(1, (pt m 0)), (13, (.slice (some ⟨a0, 0, none⟩) (List.length ([a, f, g, h] : List Int)) (List.length ([a, f, g, h] : List Int)))), (14, (.int .i64 ((List.length ([a, f, g, h] : List Int) : Nat) : Int))), (15, (.int .i64 p))] ∧ SP [] w0 w [Qv m 24 #[(.int .i64 a), (.int .i64 f), (.int .i64 g), (.int .i64 h), (.slice A6 (List.length (List.map stT d9)) c7)], Xi 2 (Qd .i64) (some ⟨a0, 0, none⟩) (List.length ([a, f, g, h] : List Int)) ([a, f, g, h] : List Int)] ∧ Jg a f g h (List.map stT d9) f3 p = some r) (by rintro ρ w ⟨p, hk, hs, H⟩; cases H) ?_ Zj ?_
 ·rintro f3 ρ b0 ⟨p, hk, q, H⟩
  refine At.known [(1, (pt m 0)), (13, (.slice (some ⟨a0, 0, none⟩) (List.length ([a, f, g, h] : List Int)) (List.length ([a, f, g, h] : List Int)))), (14, (.int .i64 ((List.length ([a, f, g, h] : List Int) : Nat) : Int))), (15, (.int .i64 p))] hk ?_
  replace H := (show Yx (Jg a f g h (List.map stT d9) f3) a f g h (List.map stT d9) p = some r from H)
  unfold Yx at H
  refine aQ ?_
  refine aR ?_
  refine iR 1 1 [(16, (.bool (decide (p < ((List.length ([a, f, g, h] : List Int) : Nat) : Int)))))] ?_
  refine iF ?_
  refine aQ ?_
  refine Zk K (o := (.tmp 16)) K (b := (decide (p < ((List.length ([a, f, g, h] : List Int) : Nat) : Int)))) K (fun a4 => ?_) (fun a4 => ?_)
  ·have H := ct H a4
   refine At.skip K ?_
   refine aQ ?_
   refine Z1 K (id := 1) K ?_
   refine aQ ?_
   refine aR ?_
   obtain ⟨a1, b1, b2, b9, H⟩ := Qn H
   refine iS 1 ?_
   refine Ve (e := (Qd .i64)) (l := ([a, f, g, h] : List Int)) (A := (some ⟨a0, 0, none⟩)) (c := (List.length ([a, f, g, h] : List Int))) (T := 99) (E := 2) (x := (.tmp 13)) (ix := (.tmp 15)) (ki := .i64) (iz := p) (d := (some 17)) (k := 0) K rfl K K K K (Vq (SP.get q (i := 1) rfl)) b1 b2 ?_
   intro c0 c1 c2 d2 hc125
   refine iS 2 ?_
   refine sC 2 17 c0 (c1 + Int.toNat p * (Qd .i64).sz) (.int .i64 a1) 18 (Qj (e := (Qd .i64)) (Qg (Vq (SP.get q (i := 1) rfl)) c2 b1 b2) b9 (j := 0) rfl) ?_
   refine iR 1 3 [(4, (.int .i64 a1))] ?_
   refine iF ?_
   refine aQ ?_
   refine aR ?_
   refine iR 1 1 [(19, (.int .i64 a1))] ?_
   obtain ⟨a5, c3, H⟩ := Qe H
   refine iS 2 ?_
   refine cF 59 #[(.tmp 19), (.const (.int .i64 (1))), (.const (.int .i64 (1073741824)))] #[2, 2, 2] 20 Tryz.call59 (J8  a1 1 1073741824 b0  a5 c3) ?_
   rintro e d3 ⟨rfl, b3⟩
   refine ⟨_, rfl, ?_⟩
   have b4 := SP.call q b3
   clear b3
   refine iR 1 3 [(21, (.bool (!a5)))] ?_
   refine iF ?_
   refine Zk K (o := (.tmp 21)) K (b := (!a5)) K (fun a6 => ?_) (fun a6 => ?_)
   ·have H := ct H a6
    refine aQ ?_
    refine aR ?_
    refine iR 1 1 [(2, (.bool false))] ?_
    refine iF ?_
    refine At.ret K ?_
    refine ⟨(.bool false), K, ?_⟩
    obtain rfl := Qh H
    exact ⟨rfl, SP.sel b4 [] rfl rfl⟩
   ·have H := cf H a6
    refine At.skip K ?_
    refine aR ?_
    refine iR 2 2 [(22, (.int .i64 (IntKind.wrap .i64 (p + 1)))), (15, (.int .i64 (IntKind.wrap .i64 (p + 1))))] ?_
    refine iF ?_
    exact ⟨(IntKind.wrap .i64 (p + 1)), ⟨K, K, K, K, trivial⟩, SP.sel b4 [0, 1] rfl rfl, H⟩
  ·have H := cf H a4
   refine At.exit K (id := 0) K ?_
   refine aQ ?_
   refine At.join (fun ρ w => ∃ (s : Bool), V3 ρ [(2, (.bool s))] ∧ SP [] w0 w [] ∧ Uj (Jg a f g h (List.map stT d9) f3) s = some r) ?_ ?_
   ·refine aR ?_
    refine iR 1 1 [(23, (pt m 4))] ?_
    refine iS 2 ?_
    refine sL 22 23 m 4 0 (.slice A6 (List.length (List.map stT d9)) c7) 24 q rfl ?_
    refine iR 3 5 [(25, (.int .i64 ((List.length (List.map stT d9) : Nat) : Int))), (26, (.bool (decide (((List.length (List.map stT d9) : Nat) : Int) ≤ 8)))), (27, (.bool (decide (((List.length (List.map stT d9) : Nat) : Int) ≤ 8))))] ?_
    refine In.guard (t := 27) (b := (decide (((List.length (List.map stT d9) : Nat) : Int) ≤ 8))) K (fun a7 => ?_) (fun a7 => ?_)
    ·have H := ct H a7
     refine iR 1 6 [(28, (pt m 4))] ?_
     refine iS 7 ?_
     refine sL 22 28 m 4 0 (.slice A6 (List.length (List.map stT d9)) c7) 29 q rfl ?_
     obtain ⟨y, c4, H⟩ := Qe H
     refine iS 8 ?_
     refine cF 60 #[(.tmp 29), (.func 61)] #[22, 102] 30 Tryz.call60 (U1 A6 c7 61 #[] d9 (fun y0 y1 y2 y3 y4 => N2 y0 y1 y2 y3 y4) b0 (Dp.sp a9 q) Tryz.call61 (fun y0 y1 y2 y3 y4 z w Ay3 cy3 Ay4 cy4 hw hy3 hy4 hz => Cj Ay3 cy3 Ay4 cy4 y0 y1 y2 y3 y4 w (Yl (Yl hL (SP.keeps q)) hw) hy3 hy4 z hz) y c4) ?_
     rintro e c5 ⟨rfl, b5⟩
     refine ⟨_, rfl, ?_⟩
     have a2 := SP.call q b5
     clear b5
     refine iR 3 11 [(31, (.bool (!y))), (32, (.bool (!y))), (33, (.bool (!y)))] ?_
     refine In.guard (t := 33) (b := (!y)) K (fun a8 => ?_) (fun a8 => ?_)
     ·have H := ct H a8
      refine iR 1 12 [(34, (pt m 4))] ?_
      refine iS 13 ?_
      refine sL 22 34 m 4 0 (.slice A6 (List.length (List.map stT d9)) c7) 35 a2 rfl ?_
      obtain ⟨a3, c6, H⟩ := Qe H
      refine iS 14 ?_
      refine cF 63 #[(.tmp 35), (.func 64)] #[22, 104] 36 Tryz.call63 (Rt A6 c7 64 #[] d9 (fun y0 y1 y2 y3 y4 => G5 y0 y1 y2 y3 y4) c5 (Dp.sp a9 a2) Tryz.call64 (fun y0 y1 y2 y3 y4 z w Ay3 cy3 Ay4 cy4 hw hy3 hy4 hz => Ck Ay3 cy3 Ay4 cy4 y0 y1 y2 y3 y4 w hy3 hy4 z hz) a3 c6) ?_
      rintro e d4 ⟨rfl, b6⟩
      refine ⟨_, rfl, ?_⟩
      have c8 := SP.call a2 b6
      clear b6
      refine iR 2 16 [(37, (.bool a3)), (2, (.bool a3))] ?_
      refine iF ?_
      exact ⟨a3, ⟨K, trivial⟩, SP.sel c8 [] rfl rfl, H⟩
     ·have H := cf H a8
      refine iR 5 16 [(34, undef), (35, undef), (36, undef), (37, (.bool false)), (2, (.bool false))] ?_
      refine iF ?_
      exact ⟨false, ⟨K, trivial⟩, SP.sel a2 [] rfl rfl, H⟩
    ·have H := cf H a7
     refine iR 11 16 [(28, undef), (29, undef), (30, undef), (31, undef), (32, (.bool false)), (33, (.bool false)), (34, undef), (35, undef), (36, undef), (37, (.bool false)), (2, (.bool false))] ?_
     refine iF ?_
     exact ⟨false, ⟨K, trivial⟩, SP.sel q [] rfl rfl, H⟩
   ·rintro ρ d5 ⟨s, hk, c9, H⟩
    unfold Uj at H
    first | refine At.known [(2, (.bool s))] hk ?_ | rw [← Qz (l := [(2, (.bool s))]) hk]
    refine At.ret K ?_
    refine ⟨(.bool s), K, ?_⟩
    obtain rfl := Qh H
    exact ⟨rfl, SP.sel c9 [] rfl rfl⟩
 ·exact ⟨0, ⟨K, K, K, K, trivial⟩, SP.sel b8 [0, 1] rfl rfl, H⟩
end Go.Proofs.YtmgfanhcdfobhaaGreatDoor
namespace Go.Proofs.YtmgfanhcdfobhaaGreatDoor
open Go.RowKit
def Q0 (d : Int → Option (Bool)) (a : Int → Option (Bool)) (b : Int) (c : Bool) : Option (Bool) :=
  (cond c (some (false)) (a (IntKind.wrap .i64 (b + 1))))
def Vr (b : Int → Option (Bool)) (c : Int → Option (Bool)) (e : (List ((List UInt8) × (List UInt8) × Int))) (a : Int) : Option (Bool) :=
  (cond (decide (a < ((List.length e : Nat) : Int))) ((idx e a).bind fun d => ((Js d.1).bind fun f => (cond (!f) (Q0 b c a true) (cond (decide (a > 0)) ((idx e (IntKind.wrap .i64 (a - 1))).bind fun g => (cond (!(Op.bytesLess g.1 d.1)) (Q0 b c a true) (cond (d.2.1 == ([] : List UInt8)) (Q0 b c a true) (cond (decide (((List.length d.2.1 : Nat) : Int) > 32)) (Q0 b c a true) (cond (decide (d.2.2 < 0)) (Q0 b c a true) (Q0 b c a (decide (d.2.2 > 1099511627776)))))))) (cond (d.2.1 == ([] : List UInt8)) (Q0 b c a true) (cond (decide (((List.length d.2.1 : Nat) : Int) > 32)) (Q0 b c a true) (cond (decide (d.2.2 < 0)) (Q0 b c a true) (Q0 b c a (decide (d.2.2 > 1099511627776)))))))))) (some (true)))
def Va (a : Int → Option (Bool)) (b : (List ((List UInt8) × (List UInt8) × Int))) : Nat → Int → Option (Bool)
  | 0, _ => none
  | f + 1, c => Vr a (Va a b f) b c
def Zd (b : Int → Option (Bool)) (c : (List (Int × Int))) (e : (List ((List UInt8) × (List UInt8) × Int))) (a : Int) : Option (Bool) :=
  (cond (decide (a < ((List.length c : Nat) : Int))) ((idx c a).bind fun d => ((Ul d.1 d.2).bind fun f => (cond (!f) (some (false)) (b (IntKind.wrap .i64 (a + 1)))))) (Va b e Zj 0))
def Q7 (a : (List (Int × Int))) (b : (List ((List UInt8) × (List UInt8) × Int))) : Nat → Int → Option (Bool)
  | 0, _ => none
  | f + 1, c => Zd  (Q7 a b f) a b c
def Vc (a : (List (Int × Int))) (b : (List ((List UInt8) × (List UInt8) × Int))) (c : Bool) : Option (Bool) :=
  (cond c (some (false)) (Q7 a b Zj 0))
def Yq (e : (List UInt8)) (c : Int) (d : Int) (a : (List (Int × Int))) (b : (List ((List UInt8) × (List UInt8) × Int))) : Option (Bool) :=
  ((Js e).bind fun f => (cond (!f) (Vc a b true) (cond (decide (c < 0)) (Vc a b true) (cond (decide (c > 8)) (Vc a b true) (cond (decide (d < 0)) (Vc a b true) (cond (decide (d > 8)) (Vc a b true) (cond (decide (((List.length a : Nat) : Int) > 4)) (Vc a b true) (Vc a b (decide (((List.length b : Nat) : Int) > 4))))))))))
set_option maxRecDepth 100000 in
set_option maxHeartbeats 4000000 in
theorem Jp (A5 : Option Addr) (c6 : Nat) (A9 : Option Addr) (a3 : Nat) (b0 : (List UInt8)) (a5 : Int) (a6 : Int) (a4 : (List (Int × Int))) (u : (List ((List UInt8) × (List UInt8) × Int))) (w0 : World) (h2 : RdT (Qf (Qd .u32) (Qd .i64)) w0 A5 c6 a4) (b6 : RdT (Qf Qs (Qf Qs (Qd .i64))) w0 A9 a3 u) (r : (Bool)) (H : Yq b0 a5 a6 a4 u = some r) :
  Calls Tryz.prog 65 #[(.agg #[(.string ⟨List.toArray b0⟩), (.int .i64 a5), (.int .i64 a6), (.slice A5 (List.length a4) c6), (.slice A9 (List.length u) a3)])] w0 (fun e w' => e = .returned (.bool r) ∧ SP [] w0 w' []) := by
 unfold Yq at H
 refine Qu (n := 109) Tryz.func65 K K K ?_
 have l4 := Q1 [] w0
 refine aQ ?_
 refine aR ?_
 refine iS 1 ?_
 refine V6 (t := 44) (x := (.tmp 0)) (v := (.agg #[(.string ⟨List.toArray b0⟩), (.int .i64 a5), (.int .i64 a6), (.slice A5 (List.length a4) c6), (.slice A9 (List.length u) a3)])) (d := (some 1)) (k := 0) K rfl K l4 ?_
 intro q l5 h3
 refine iR 1 2 [(2, (.bool false))] ?_
 refine iF ?_
 refine aQ ?_
 refine aQ ?_
 refine At.join (fun ρ w => ∃ (d9 : Bool), V3 ρ [(1, (pt q 0)), (41, (.bool d9))] ∧ SP [] w0 w [Qv q 44 #[(.string ⟨List.toArray b0⟩), (.int .i64 a5), (.int .i64 a6), (.slice A5 (List.length a4) c6), (.slice A9 (List.length u) a3)]] ∧ Vc a4 u d9 = some r) ?_ ?_
 ·refine aR ?_
  refine iR 1 1 [(6, (pt q 0))] ?_
  refine iS 2 ?_
  refine sL 9 6 q 0 0 (.string ⟨List.toArray b0⟩) 7 h3 rfl ?_
  obtain ⟨e4, l6, H⟩ := Qe H
  refine iS 3 ?_
  refine cF 86 #[(.tmp 7)] #[9] 8 Tryz.call86 (Vn  b0 l5  e4 l6) ?_
  rintro e x4 ⟨rfl, h4⟩
  refine ⟨_, rfl, ?_⟩
  have b5 := SP.call h3 h4
  clear h4
  refine iR 2 5 [(9, (.bool (!e4))), (10, (.bool (!e4)))] ?_
  refine In.guard (t := 10) (b := (!e4)) K (fun e7 => ?_) (fun e7 => ?_)
  ·have H := ct H e7
   refine iR 31 36 [(11, undef), (12, undef), (13, undef), (14, (.bool true)), (15, (.bool true)), (16, undef), (17, undef), (18, undef), (19, (.bool true)), (20, (.bool true)), (21, undef), (22, undef), (23, undef), (24, (.bool true)), (25, (.bool true)), (26, undef), (27, undef), (28, undef), (29, (.bool true)), (30, (.bool true)), (31, undef), (32, undef), (33, undef), (34, undef), (35, (.bool true)), (36, (.bool true)), (37, undef), (38, undef), (39, undef), (40, undef), (41, (.bool true))] ?_
   refine iF ?_
   exact ⟨true, ⟨K, K, trivial⟩, SP.sel b5 [0] rfl rfl, H⟩
  ·have H := cf H e7
   refine iR 1 6 [(11, (pt q 1))] ?_
   refine iS 7 ?_
   refine sL 3 11 q 1 0 (.int .i64 a5) 12 b5 rfl ?_
   refine iR 3 10 [(13, (.bool (decide (a5 < 0)))), (14, (.bool (decide (a5 < 0)))), (15, (.bool (decide (a5 < 0))))] ?_
   refine In.guard (t := 15) (b := (decide (a5 < 0))) K (fun e8 => ?_) (fun e8 => ?_)
   ·have H := ct H e8
    refine iR 26 36 [(16, undef), (17, undef), (18, undef), (19, (.bool true)), (20, (.bool true)), (21, undef), (22, undef), (23, undef), (24, (.bool true)), (25, (.bool true)), (26, undef), (27, undef), (28, undef), (29, (.bool true)), (30, (.bool true)), (31, undef), (32, undef), (33, undef), (34, undef), (35, (.bool true)), (36, (.bool true)), (37, undef), (38, undef), (39, undef), (40, undef), (41, (.bool true))] ?_
    refine iF ?_
    exact ⟨true, ⟨K, K, trivial⟩, SP.sel b5 [0] rfl rfl, H⟩
   ·have H := cf H e8
    refine iR 1 11 [(16, (pt q 1))] ?_
    refine iS 12 ?_
    refine sL 3 16 q 1 0 (.int .i64 a5) 17 b5 rfl ?_
    refine iR 3 15 [(18, (.bool (decide (a5 > 8)))), (19, (.bool (decide (a5 > 8)))), (20, (.bool (decide (a5 > 8))))] ?_
    refine In.guard (t := 20) (b := (decide (a5 > 8))) K (fun e9 => ?_) (fun e9 => ?_)
    ·have H := ct H e9
     refine iR 21 36 [(21, undef), (22, undef), (23, undef), (24, (.bool true)), (25, (.bool true)), (26, undef), (27, undef), (28, undef), (29, (.bool true)), (30, (.bool true)), (31, undef), (32, undef), (33, undef), (34, undef), (35, (.bool true)), (36, (.bool true)), (37, undef), (38, undef), (39, undef), (40, undef), (41, (.bool true))] ?_
     refine iF ?_
     exact ⟨true, ⟨K, K, trivial⟩, SP.sel b5 [0] rfl rfl, H⟩
    ·have H := cf H e9
     refine iR 1 16 [(21, (pt q 2))] ?_
     refine iS 17 ?_
     refine sL 3 21 q 2 0 (.int .i64 a6) 22 b5 rfl ?_
     refine iR 3 20 [(23, (.bool (decide (a6 < 0)))), (24, (.bool (decide (a6 < 0)))), (25, (.bool (decide (a6 < 0))))] ?_
     refine In.guard (t := 25) (b := (decide (a6 < 0))) K (fun f0 => ?_) (fun f0 => ?_)
     ·have H := ct H f0
      refine iR 16 36 [(26, undef), (27, undef), (28, undef), (29, (.bool true)), (30, (.bool true)), (31, undef), (32, undef), (33, undef), (34, undef), (35, (.bool true)), (36, (.bool true)), (37, undef), (38, undef), (39, undef), (40, undef), (41, (.bool true))] ?_
      refine iF ?_
      exact ⟨true, ⟨K, K, trivial⟩, SP.sel b5 [0] rfl rfl, H⟩
     ·have H := cf H f0
      refine iR 1 21 [(26, (pt q 2))] ?_
      refine iS 22 ?_
      refine sL 3 26 q 2 0 (.int .i64 a6) 27 b5 rfl ?_
      refine iR 3 25 [(28, (.bool (decide (a6 > 8)))), (29, (.bool (decide (a6 > 8)))), (30, (.bool (decide (a6 > 8))))] ?_
      refine In.guard (t := 30) (b := (decide (a6 > 8))) K (fun f1 => ?_) (fun f1 => ?_)
      ·have H := ct H f1
       refine iR 11 36 [(31, undef), (32, undef), (33, undef), (34, undef), (35, (.bool true)), (36, (.bool true)), (37, undef), (38, undef), (39, undef), (40, undef), (41, (.bool true))] ?_
       refine iF ?_
       exact ⟨true, ⟨K, K, trivial⟩, SP.sel b5 [0] rfl rfl, H⟩
      ·have H := cf H f1
       refine iR 1 26 [(31, (pt q 3))] ?_
       refine iS 27 ?_
       refine sL 41 31 q 3 0 (.slice A5 (List.length a4) c6) 32 b5 rfl ?_
       refine iR 4 31 [(33, (.int .i64 ((List.length a4 : Nat) : Int))), (34, (.bool (decide (((List.length a4 : Nat) : Int) > 4)))), (35, (.bool (decide (((List.length a4 : Nat) : Int) > 4)))), (36, (.bool (decide (((List.length a4 : Nat) : Int) > 4))))] ?_
       refine In.guard (t := 36) (b := (decide (((List.length a4 : Nat) : Int) > 4))) K (fun f2 => ?_) (fun f2 => ?_)
       ·have H := ct H f2
        refine iR 5 36 [(37, undef), (38, undef), (39, undef), (40, undef), (41, (.bool true))] ?_
        refine iF ?_
        exact ⟨true, ⟨K, K, trivial⟩, SP.sel b5 [0] rfl rfl, H⟩
       ·have H := cf H f2
        refine iR 1 32 [(37, (pt q 4))] ?_
        refine iS 33 ?_
        refine sL 42 37 q 4 0 (.slice A9 (List.length u) a3) 38 b5 rfl ?_
        refine iR 3 36 [(39, (.int .i64 ((List.length u : Nat) : Int))), (40, (.bool (decide (((List.length u : Nat) : Int) > 4)))), (41, (.bool (decide (((List.length u : Nat) : Int) > 4))))] ?_
        refine iF ?_
        exact ⟨(decide (((List.length u : Nat) : Int) > 4)), ⟨K, K, trivial⟩, SP.sel b5 [0] rfl rfl, H⟩
 ·rintro ρ x5 ⟨d9, hk, h5, H⟩
  unfold Vc at H
  first | refine At.known [(1, (pt q 0)), (41, (.bool d9))] hk ?_ | rw [← Qz (l := [(1, (pt q 0)), (41, (.bool d9))]) hk]
  refine Zk K (o := (.tmp 41)) K (b := d9) K (fun f3 => ?_) (fun f3 => ?_)
  ·have H := ct H f3
   refine aQ ?_
   refine aR ?_
   refine iR 1 1 [(2, (.bool false))] ?_
   refine iF ?_
   refine At.ret K ?_
   refine ⟨(.bool false), K, ?_⟩
   obtain rfl := Qh H
   exact ⟨rfl, SP.sel h5 [] rfl rfl⟩
  ·have H := cf H f3
   refine At.skip K ?_
   refine aQ ?_
   refine aQ ?_
   refine aR ?_
   refine iR 1 1 [(3, (.int .i64 0))] ?_
   refine iF ?_
   refine Z1 K (id := 0) K ?_
   refine Nf K (fun d4 ρ w => ∃ (b1 : Int), V3 ρ [(1, (pt q 0)), (3, (.int .i64 b1))] ∧ SP [] w0 w [Qv q 44 #[(.string ⟨List.toArray b0⟩), (.int .i64 a5), (.int .i64 a6), (.slice A5 (List.length a4) c6), (.slice A9 (List.length u) a3)]] ∧ Q7 a4 u d4 b1 = some r) (by rintro ρ w ⟨b1, hk, hs, H⟩; cases H) ?_ Zj ?_
   ·rintro d4 ρ l7 ⟨b1, hk, e0, H⟩
    refine At.known [(1, (pt q 0)), (3, (.int .i64 b1))] hk ?_
    replace H := (show Zd (Q7 a4 u d4) a4 u b1 = some r from H)
    unfold Zd at H
    refine aQ ?_
    refine aQ ?_
    refine aR ?_
    refine iR 2 2 [(42, (.int .i64 b1)), (43, (pt q 3))] ?_
    refine iS 3 ?_
    refine sL 41 43 q 3 0 (.slice A5 (List.length a4) c6) 44 e0 rfl ?_
    refine iR 2 5 [(45, (.int .i64 ((List.length a4 : Nat) : Int))), (46, (.bool (decide (b1 < ((List.length a4 : Nat) : Int)))))] ?_
    refine iF ?_
    refine Zk K (o := (.tmp 46)) K (b := (decide (b1 < ((List.length a4 : Nat) : Int)))) K (fun f4 => ?_) (fun f4 => ?_)
    ·have H := ct H f4
     refine At.skip K ?_
     refine aQ ?_
     refine Z1 K (id := 1) K ?_
     refine aQ ?_
     refine aR ?_
     refine iR 1 1 [(49, (pt q 3))] ?_
     refine iS 2 ?_
     refine sL 41 49 q 3 0 (.slice A5 (List.length a4) c6) 50 e0 rfl ?_
     refine iR 1 3 [(51, (.int .i64 b1))] ?_
     obtain ⟨e5, h6, h7, l8, H⟩ := Qn H
     refine iS 4 ?_
     refine Ve (e := (Qf (Qd .u32) (Qd .i64))) (l := a4) (A := A5) (c := c6) (T := 41) (E := 113) (x := (.tmp 50)) (ix := (.tmp 51)) (ki := .i64) (iz := b1) (d := (some 52)) (k := 3) K rfl K K K K (RdT.sp h2 e0) h6 h7 ?_
     intro l9 m0 m1 x6 hc5167
     refine iS 5 ?_
     refine Qk.cells (t := 113) (x := (.tmp 52)) (b := l9) (off := (m0 + Int.toNat b1 * (Qf (Qd .u32) (Qd .i64)).sz)) (xs := [(.int .u32 e5.1), (.int .i64 e5.2)]) (d := (some 53)) (k := 4) K rfl K K K (Z2 (e := (Qf (Qd .u32) (Qd .i64))) (Qg (RdT.sp h2 e0) m1 h6 h7) l8 rfl) ?_
     obtain ⟨f5, m2, H⟩ := Qe H
     refine iS 6 ?_
     refine cF 87 #[(.tmp 53)] #[113] 54 Tryz.call87 (D5  e5.1 e5.2 l7  f5 m2) ?_
     rintro e x7 ⟨rfl, h8⟩
     refine ⟨_, rfl, ?_⟩
     have h9 := SP.call e0 h8
     clear h8
     refine iR 1 7 [(55, (.bool (!f5)))] ?_
     refine iF ?_
     refine Zk K (o := (.tmp 55)) K (b := (!f5)) K (fun f6 => ?_) (fun f6 => ?_)
     ·have H := ct H f6
      refine aQ ?_
      refine aR ?_
      refine iR 1 1 [(2, (.bool false))] ?_
      refine iF ?_
      refine At.ret K ?_
      refine ⟨(.bool false), K, ?_⟩
      obtain rfl := Qh H
      exact ⟨rfl, SP.sel h9 [] rfl rfl⟩
     ·have H := cf H f6
      refine At.skip K ?_
      refine aR ?_
      refine iR 3 3 [(47, (.int .i64 b1)), (48, (.int .i64 (IntKind.wrap .i64 (b1 + 1)))), (3, (.int .i64 (IntKind.wrap .i64 (b1 + 1))))] ?_
      refine iF ?_
      exact ⟨(IntKind.wrap .i64 (b1 + 1)), ⟨K, K, trivial⟩, SP.sel h9 [0] rfl rfl, H⟩
    ·have H := cf H f4
     refine At.exit K (id := 0) K ?_
     refine aQ ?_
     refine aQ ?_
     refine aR ?_
     refine iR 1 1 [(4, (.int .i64 0))] ?_
     refine iF ?_
     refine Z1 K (id := 2) K ?_
     refine Nf K (fun e6 ρ w => ∃ (m : Int), V3 ρ [(1, (pt q 0)), (4, (.int .i64 m))] ∧ SP [] w0 w [Qv q 44 #[(.string ⟨List.toArray b0⟩), (.int .i64 a5), (.int .i64 a6), (.slice A5 (List.length a4) c6), (.slice A9 (List.length u) a3)]] ∧ Va (Q7 a4 u d4) u e6 m = some r) (by rintro ρ w ⟨m, hk, hs, H⟩; cases H) ?_ Zj ?_
     ·rintro e6 ρ x8 ⟨m, hk, e1, H⟩
      refine At.known [(1, (pt q 0)), (4, (.int .i64 m))] hk ?_
      replace H := (show Vr (Q7 a4 u d4) (Va (Q7 a4 u d4) u e6) u m = some r from H)
      unfold Vr at H
      refine aQ ?_
      refine aQ ?_
      refine aR ?_
      refine iR 2 2 [(56, (.int .i64 m)), (57, (pt q 4))] ?_
      refine iS 3 ?_
      refine sL 42 57 q 4 0 (.slice A9 (List.length u) a3) 58 e1 rfl ?_
      refine iR 2 5 [(59, (.int .i64 ((List.length u : Nat) : Int))), (60, (.bool (decide (m < ((List.length u : Nat) : Int)))))] ?_
      refine iF ?_
      refine Zk K (o := (.tmp 60)) K (b := (decide (m < ((List.length u : Nat) : Int)))) K (fun f7 => ?_) (fun f7 => ?_)
      ·have H := ct H f7
       refine At.skip K ?_
       refine aQ ?_
       refine Z1 K (id := 3) K ?_
       refine aQ ?_
       refine aR ?_
       refine iR 1 1 [(63, (pt q 4))] ?_
       refine iS 2 ?_
       refine sL 42 63 q 4 0 (.slice A9 (List.length u) a3) 64 e1 rfl ?_
       refine iR 1 3 [(65, (.int .i64 m))] ?_
       obtain ⟨f, i0, i1, m3, H⟩ := Qn H
       refine iS 4 ?_
       refine Ve (e := (Qf Qs (Qf Qs (Qd .i64)))) (l := u) (A := A9) (c := a3) (T := 42) (E := 48) (x := (.tmp 64)) (ix := (.tmp 65)) (ki := .i64) (iz := m) (d := (some 66)) (k := 3) K rfl K K K K (RdT.sp b6 e1) i0 i1 ?_
       intro m4 m5 m6 x9 hc6882
       refine iS 5 ?_
       refine Qk.cells (t := 48) (x := (.tmp 66)) (b := m4) (off := (m5 + Int.toNat m * (Qf Qs (Qf Qs (Qd .i64))).sz)) (xs := [(.string ⟨List.toArray f.1⟩), (.string ⟨List.toArray f.2.1⟩), (.int .i64 f.2.2)]) (d := (some 67)) (k := 4) K rfl K K K (Z2 (e := (Qf Qs (Qf Qs (Qd .i64)))) (Qg (RdT.sp b6 e1) m6 i0 i1) m3 rfl) ?_
       refine iS 6 ?_
       refine Qk.alloc (t := 48) (z := (.agg #[(.string ⟨List.toArray ([] : List UInt8)⟩), (.string ⟨List.toArray ([] : List UInt8)⟩), (.int .i64 0)])) (d := (some 5)) (k := 5) K rfl K e1 ?_
       intro h y0 m7
       refine iS 7 ?_
       refine Qk.store (t := 48) (x := (.tmp 5)) (y := (.tmp 67)) (g := h) (off := 0) (i := 1) (v := (.agg #[(.string ⟨List.toArray f.1⟩), (.string ⟨List.toArray f.2.1⟩), (.int .i64 f.2.2)])) (cs' := #[(.string ⟨List.toArray f.1⟩), (.string ⟨List.toArray f.2.1⟩), (.int .i64 f.2.2)]) (d := none) (k := 6) K rfl K K m7 rfl K ?_
       intro y1 c1
       refine iF ?_
       refine aQ ?_
       refine At.join (fun ρ w => ∃ (e2 : Bool), V3 ρ [(1, (pt q 0)), (4, (.int .i64 m)), (108, (.bool e2))] ∧ SP [] w0 w [Qv q 44 #[(.string ⟨List.toArray b0⟩), (.int .i64 a5), (.int .i64 a6), (.slice A5 (List.length a4) c6), (.slice A9 (List.length u) a3)]] ∧ Q0 (Q7 a4 u d4) (Va (Q7 a4 u d4) u e6) m e2 = some r) ?_ ?_
       ·obtain ⟨s, c2, H⟩ := Qe H
        rcases Bool.eq_false_or_eq_true (!s) with a2 | a2
        ·have H := ct H a2
         refine aG [GEq (pt h 0), GEq (.string ⟨List.toArray f.1⟩), GEq (.bool s), GEq (.bool (!s)), GEq (.bool (!s)), GEq undef, GEq undef, GEq undef, GEq undef, GEq undef, GEq undef, GEq undef, GEq undef, GEq undef, GEq undef, GEq undef, GEq undef, GEq undef, GEq undef, GEq (.bool true), GEq (.bool true), GEq undef, GEq undef, GEq undef, GEq (.bool true), GEq (.bool true), GEq undef, GEq undef, GEq undef, GEq undef, GEq (.bool true), GEq (.bool true), GEq undef, GEq undef, GEq undef, GEq (.bool true), GEq (.bool true), GEq undef, GEq undef, GEq undef, GEq (.bool true)] [2] (tG [] w0 [Qv q 44 #[(.string ⟨List.toArray b0⟩), (.int .i64 a5), (.int .i64 a6), (.slice A5 (List.length a4) c6), (.slice A9 (List.length u) a3)], Qv h 48 #[(.string ⟨List.toArray f.1⟩), (.string ⟨List.toArray f.2.1⟩), (.int .i64 f.2.2)]] [([], []), ([2], [(.bool s)])]) 41 1 ⟨trivial, SP.drew c1⟩ ?_ ?_
         iterate 41 refine And.intro ?_ ?_
         exact trivial
         ·exact oV (hC (hS 5 (pt h 0)) (h0)) (pt h 0)
         ·refine oL 0 ?_
          ·rintro ρ' w' hs hah ⟨y2, m8⟩
           refine kM (kc (kA hah 0 68) k0) fun hkn => ?_
           refine sL 9 68 h 0 1 (.string ⟨List.toArray f.1⟩) 69 m8 rfl ?_
           exact eK hkn
         ·refine oH 0 1 ?_
          ·rintro ρ' w' hs hah ⟨y3, m9⟩
           refine kM (kc (kA hah 1 69) k0) fun hkn => ?_
           refine cF 86 #[(.tmp 69)] #[9] 70 Tryz.call86 (Vn  f.1 w'  s c2) ?_
           rintro e y4 ⟨rfl, i2⟩
           refine ⟨_, rfl, ?_⟩
           have n0 := SP.call m9 i2
           clear i2
           refine ⟨_, Qa hkn, rfl, ?_⟩
           exact (And.intro (And.intro rfl (trivial)) (n0))
         ·exact oV (hC (hA 2 70) (h0)) (.bool (!s))
         ·exact oV (hC (hA 3 71) (h0)) (.bool (!s))
         ·exact oW (hC (hB 4 72 a2) (h0)) 73
         ·exact oW (hC (hB 4 72 a2) (h0)) 74
         ·exact oW (hC (hB 4 72 a2) (h0)) 75
         ·exact oW (hC (hA 7 75) (h0)) 76
         ·exact oW (hC (hA 7 75) (h0)) 77
         ·exact oW (hC (hA 7 75) (h0)) 78
         ·exact oW (hC (hA 7 75) (h0)) 79
         ·exact oW (hC (hA 7 75) (h0)) 80
         ·exact oW (hC (hA 7 75) (h0)) 81
         ·exact oW (hC (hA 7 75) (h0)) 82
         ·exact oW (hC (hA 7 75) (h0)) 83
         ·exact oW (hC (hA 7 75) (h0)) 84
         ·exact oW (hC (hA 7 75) (h0)) 85
         ·exact oW (hC (hB 4 72 a2) (h0)) 86
         ·exact oV (hC (hB 4 72 a2) (hC (hA 18 86) (h0))) (.bool true)
         ·exact oV (hC (hA 19 87) (h0)) (.bool true)
         ·exact oW (hC (hA 20 88) (h0)) 89
         ·exact oW (hC (hA 20 88) (h0)) 90
         ·exact oW (hC (hA 20 88) (h0)) 91
         ·exact oV (hC (hA 20 88) (hC (hA 23 91) (h0))) (.bool true)
         ·exact oV (hC (hA 24 92) (h0)) (.bool true)
         ·exact oW (hC (hA 25 93) (h0)) 94
         ·exact oW (hC (hA 25 93) (h0)) 95
         ·exact oW (hC (hA 25 93) (h0)) 96
         ·exact oW (hC (hA 25 93) (h0)) 97
         ·exact oV (hC (hA 25 93) (hC (hA 29 97) (h0))) (.bool true)
         ·exact oV (hC (hA 30 98) (h0)) (.bool true)
         ·exact oW (hC (hA 31 99) (h0)) 100
         ·exact oW (hC (hA 31 99) (h0)) 101
         ·exact oW (hC (hA 31 99) (h0)) 102
         ·exact oV (hC (hA 31 99) (hC (hA 34 102) (h0))) (.bool true)
         ·exact oV (hC (hA 35 103) (h0)) (.bool true)
         ·exact oW (hC (hA 36 104) (h0)) 105
         ·exact oW (hC (hA 36 104) (h0)) 106
         ·exact oW (hC (hA 36 104) (h0)) 107
         ·exact oV (hC (hA 36 104) (hC (hA 39 107) (h0))) (.bool true)
         ·rintro ρ' w' hs hf ⟨⟨y5, -⟩, i3⟩
          refine Q4 [(1, (pt q 0)), (4, (.int .i64 m)), (108, (.bool true))] ⟨(hs 1 K).trans K, (hs 4 K).trans K, hf 40 108 K, trivial⟩ ?_
          obtain ⟨y6, n1⟩ : ∃ x, w' = x := ⟨_, rfl⟩
          rw [n1] at i3 ⊢
          exact ⟨true, ⟨K, K, K, trivial⟩, SP.sel i3 [0] rfl rfl, H⟩
        ·have H := cf H a2
         rcases Bool.eq_false_or_eq_true (decide (m > 0)) with p | p
         ·have H := ct H p
          obtain ⟨a0, c3, c4, e3, H⟩ := Qn H
          rcases Bool.eq_false_or_eq_true (!(Op.bytesLess a0.1 f.1)) with a7 | a7
          ·have H := ct H a7
           refine aG [GEq (pt h 0), GEq (.string ⟨List.toArray f.1⟩), GEq (.bool s), GEq (.bool (!s)), GEq (.bool (!s)), GEq (.int .i64 m), GEq (.bool (decide (m > 0))), GEq (.bool (decide (m > 0))), GEq (pt q 4), GEq (.slice A9 (List.length u) a3), GEq (.int .i64 m), GEq (.int .i64 (IntKind.wrap .i64 (m - 1))), Vi A9 (Qf Qs (Qf Qs (Qd .i64))).sz (IntKind.wrap .i64 (m - 1)), Vi A9 (Qf Qs (Qf Qs (Qd .i64))).sz (IntKind.wrap .i64 (m - 1)), GEq (.string ⟨List.toArray a0.1⟩), GEq (pt h 0), GEq (.string ⟨List.toArray f.1⟩), GEq (.bool (!(Op.bytesLess a0.1 f.1))), GEq (.bool (!(Op.bytesLess a0.1 f.1))), GEq (.bool (!(Op.bytesLess a0.1 f.1))), GEq (.bool (!(Op.bytesLess a0.1 f.1))), GEq undef, GEq undef, GEq undef, GEq (.bool true), GEq (.bool true), GEq undef, GEq undef, GEq undef, GEq undef, GEq (.bool true), GEq (.bool true), GEq undef, GEq undef, GEq undef, GEq (.bool true), GEq (.bool true), GEq undef, GEq undef, GEq undef, GEq (.bool true)] [2] (tG [] w0 [Qv q 44 #[(.string ⟨List.toArray b0⟩), (.int .i64 a5), (.int .i64 a6), (.slice A5 (List.length a4) c6), (.slice A9 (List.length u) a3)], Qv h 48 #[(.string ⟨List.toArray f.1⟩), (.string ⟨List.toArray f.2.1⟩), (.int .i64 f.2.2)]] [([], []), ([2], [(.bool s)])]) 41 1 ⟨trivial, SP.drew c1⟩ ?_ ?_
           iterate 41 refine And.intro ?_ ?_
           exact trivial
           ·exact oV (hC (hS 5 (pt h 0)) (h0)) (pt h 0)
           ·refine oL 0 ?_
            ·rintro ρ' w' hs hah ⟨y7, n2⟩
             refine kM (kc (kA hah 0 68) k0) fun hkn => ?_
             refine sL 9 68 h 0 1 (.string ⟨List.toArray f.1⟩) 69 n2 rfl ?_
             exact eK hkn
           ·refine oH 0 1 ?_
            ·rintro ρ' w' hs hah ⟨y8, n3⟩
             refine kM (kc (kA hah 1 69) k0) fun hkn => ?_
             refine cF 86 #[(.tmp 69)] #[9] 70 Tryz.call86 (Vn  f.1 w'  s c2) ?_
             rintro e y9 ⟨rfl, i4⟩
             refine ⟨_, rfl, ?_⟩
             have n4 := SP.call n3 i4
             clear i4
             refine ⟨_, Qa hkn, rfl, ?_⟩
             exact (And.intro (And.intro rfl (trivial)) (n4))
           ·exact oV (hC (hA 2 70) (h0)) (.bool (!s))
           ·exact oV (hC (hA 3 71) (h0)) (.bool (!s))
           ·exact oV (hC (hS 4 (.int .i64 m)) (hC (hB 4 72 a2) (h0))) (.int .i64 m)
           ·exact oV (hC (hA 5 73) (hC (hB 4 72 a2) (h0))) (.bool (decide (m > 0)))
           ·exact oV (hC (hA 6 74) (hC (hB 4 72 a2) (h0))) (.bool (decide (m > 0)))
           ·exact oV (hC (hS 1 (pt q 0)) (hC (hB 7 75 p) (h0))) (pt q 4)
           ·refine oL 1 ?_
            ·rintro ρ' w' hs hah ⟨⟨z0, -⟩, n5⟩
             have c5 := hah 8 76 K
             have a1 := hah 7 75 K
             refine kN [(76, (pt q 4)), (75, (.bool true))] ⟨c5, (Eq.trans a1 (congrArg Value.bool p)), trivial⟩ fun hkn => ?_
             refine sL 42 76 q 4 0 (.slice A9 (List.length u) a3) 77 n5 rfl ?_
             exact eK hkn
           ·exact oV (hC (hS 4 (.int .i64 m)) (hC (hB 7 75 p) (h0))) (.int .i64 m)
           ·exact oV (hC (hA 10 78) (hC (hB 7 75 p) (h0))) (.int .i64 (IntKind.wrap .i64 (m - 1)))
           ·refine oL 1 ?_
            ·rintro ρ' w' hs hah ⟨⟨z1, -⟩, n6⟩
             have c7 := hah 9 77 K
             have c8 := hah 11 79 K
             have a1 := hah 7 75 K
             refine kN [(77, (.slice A9 (List.length u) a3)), (79, (.int .i64 (IntKind.wrap .i64 (m - 1)))), (75, (.bool true))] ⟨c7, c8, (Eq.trans a1 (congrArg Value.bool p)), trivial⟩ fun hkn => ?_
             refine Ve (e := (Qf Qs (Qf Qs (Qd .i64)))) (l := u) (A := A9) (c := a3) (T := 42) (E := 48) (x := (.tmp 77)) (ix := (.tmp 79)) (ki := .i64) (iz := (IntKind.wrap .i64 (m - 1))) (d := (some 80)) (k := 12) K rfl K K K K (RdT.sp b6 n6) c3 c4 ?_
             intro n7 n8 n9 z2 hc7363
             exact ⟨rfl, _, Qa hkn, ⟨n7, n8, n9, rfl⟩⟩
           ·refine oL 1 ?_
            ·rintro ρ' w' hs hah ⟨⟨z3, -⟩, z4⟩
             obtain ⟨f8, f9, o0, c9⟩ := hah 12 80 K
             have a1 := hah 7 75 K
             refine kN [(80, (.pointer (some ⟨f8, (f9 + Int.toNat (IntKind.wrap .i64 (m - 1)) * (Qf Qs (Qf Qs (Qd .i64))).sz), none⟩))), (75, (.bool true))] ⟨c9, (Eq.trans a1 (congrArg Value.bool p)), trivial⟩ fun hkn => ?_
             refine Qk.run (k := 13) (v := (.pointer (some ⟨f8, (f9 + Int.toNat (IntKind.wrap .i64 (m - 1)) * (Qf Qs (Qf Qs (Qd .i64))).sz), none⟩))) K ?_
             exact ⟨rfl, _, Qa hkn, ⟨f8, f9, o0, rfl⟩⟩
           ·refine oL 1 ?_
            ·rintro ρ' w' hs hah ⟨⟨z5, -⟩, o1⟩
             obtain ⟨i5, i6, o2, d0⟩ := hah 13 81 K
             have a1 := hah 7 75 K
             refine kN [(81, (.pointer (some ⟨i5, (i6 + Int.toNat (IntKind.wrap .i64 (m - 1)) * (Qf Qs (Qf Qs (Qd .i64))).sz), none⟩))), (75, (.bool true))] ⟨d0, (Eq.trans a1 (congrArg Value.bool p)), trivial⟩ fun hkn => ?_
             refine sC 9 81 i5 (i6 + Int.toNat (IntKind.wrap .i64 (m - 1)) * (Qf Qs (Qf Qs (Qd .i64))).sz) (.string ⟨List.toArray a0.1⟩) 82 (Qj (e := (Qf Qs (Qf Qs (Qd .i64)))) (Qg (RdT.sp b6 o1) o2 c3 c4) e3 (j := 0) rfl) ?_
             exact eK hkn
           ·exact oV (hC (hS 5 (pt h 0)) (hC (hB 7 75 p) (h0))) (pt h 0)
           ·refine oL 1 ?_
            ·rintro ρ' w' hs hah ⟨⟨z6, -⟩, o3⟩
             have d1 := hah 15 83 K
             have a1 := hah 7 75 K
             refine kN [(83, (pt h 0)), (75, (.bool true))] ⟨d1, (Eq.trans a1 (congrArg Value.bool p)), trivial⟩ fun hkn => ?_
             refine sL 9 83 h 0 1 (.string ⟨List.toArray f.1⟩) 84 o3 rfl ?_
             exact eK hkn
           ·refine oL 1 ?_
            ·rintro ρ' w' hs hah ⟨⟨z7, -⟩, z8⟩
             have d2 := hah 14 82 K
             have d3 := hah 16 84 K
             have a1 := hah 7 75 K
             refine kN [(82, (.string ⟨List.toArray a0.1⟩)), (84, (.string ⟨List.toArray f.1⟩)), (75, (.bool true))] ⟨d2, d3, (Eq.trans a1 (congrArg Value.bool p)), trivial⟩ fun hkn => ?_
             refine Vt (op := .geq) (T := 9) (T' := 9) (x := (.tmp 82)) (y := (.tmp 84)) (a := a0.1) (b := f.1) (r := (.bool (!(Op.bytesLess a0.1 f.1)))) (d := (some 85)) (k := 17) K rfl K K rfl ?_
             exact eK hkn
           ·exact oV (hC (hB 7 75 p) (hC (hA 17 85) (hC (hB 4 72 a2) (h0)))) (.bool (!(Op.bytesLess a0.1 f.1)))
           ·exact oV (hC (hB 4 72 a2) (hC (hA 18 86) (h0))) (.bool (!(Op.bytesLess a0.1 f.1)))
           ·exact oV (hC (hA 19 87) (h0)) (.bool (!(Op.bytesLess a0.1 f.1)))
           ·exact oW (hC (hB 20 88 a7) (h0)) 89
           ·exact oW (hC (hB 20 88 a7) (h0)) 90
           ·exact oW (hC (hB 20 88 a7) (h0)) 91
           ·exact oV (hC (hB 20 88 a7) (hC (hA 23 91) (h0))) (.bool true)
           ·exact oV (hC (hA 24 92) (h0)) (.bool true)
           ·exact oW (hC (hA 25 93) (h0)) 94
           ·exact oW (hC (hA 25 93) (h0)) 95
           ·exact oW (hC (hA 25 93) (h0)) 96
           ·exact oW (hC (hA 25 93) (h0)) 97
           ·exact oV (hC (hA 25 93) (hC (hA 29 97) (h0))) (.bool true)
           ·exact oV (hC (hA 30 98) (h0)) (.bool true)
           ·exact oW (hC (hA 31 99) (h0)) 100
           ·exact oW (hC (hA 31 99) (h0)) 101
           ·exact oW (hC (hA 31 99) (h0)) 102
           ·exact oV (hC (hA 31 99) (hC (hA 34 102) (h0))) (.bool true)
           ·exact oV (hC (hA 35 103) (h0)) (.bool true)
           ·exact oW (hC (hA 36 104) (h0)) 105
           ·exact oW (hC (hA 36 104) (h0)) 106
           ·exact oW (hC (hA 36 104) (h0)) 107
           ·exact oV (hC (hA 36 104) (hC (hA 39 107) (h0))) (.bool true)
           ·rintro ρ' w' hs hf ⟨⟨z9, -⟩, i7⟩
            refine Q4 [(1, (pt q 0)), (4, (.int .i64 m)), (108, (.bool true))] ⟨(hs 1 K).trans K, (hs 4 K).trans K, hf 40 108 K, trivial⟩ ?_
            obtain ⟨aa0, o4⟩ : ∃ x, w' = x := ⟨_, rfl⟩
            rw [o4] at i7 ⊢
            exact ⟨true, ⟨K, K, K, trivial⟩, SP.sel i7 [0] rfl rfl, H⟩
          ·have H := cf H a7
           rcases Bool.eq_false_or_eq_true (f.2.1 == ([] : List UInt8)) with a8 | a8
           ·have H := ct H a8
            refine aG [GEq (pt h 0), GEq (.string ⟨List.toArray f.1⟩), GEq (.bool s), GEq (.bool (!s)), GEq (.bool (!s)), GEq (.int .i64 m), GEq (.bool (decide (m > 0))), GEq (.bool (decide (m > 0))), GEq (pt q 4), GEq (.slice A9 (List.length u) a3), GEq (.int .i64 m), GEq (.int .i64 (IntKind.wrap .i64 (m - 1))), Vi A9 (Qf Qs (Qf Qs (Qd .i64))).sz (IntKind.wrap .i64 (m - 1)), Vi A9 (Qf Qs (Qf Qs (Qd .i64))).sz (IntKind.wrap .i64 (m - 1)), GEq (.string ⟨List.toArray a0.1⟩), GEq (pt h 0), GEq (.string ⟨List.toArray f.1⟩), GEq (.bool (!(Op.bytesLess a0.1 f.1))), GEq (.bool (!(Op.bytesLess a0.1 f.1))), GEq (.bool (!(Op.bytesLess a0.1 f.1))), GEq (.bool (!(Op.bytesLess a0.1 f.1))), GEq (pt h 1), GEq (.string ⟨List.toArray f.2.1⟩), GEq (.bool (f.2.1 == ([] : List UInt8))), GEq (.bool (f.2.1 == ([] : List UInt8))), GEq (.bool (f.2.1 == ([] : List UInt8))), GEq undef, GEq undef, GEq undef, GEq undef, GEq (.bool true), GEq (.bool true), GEq undef, GEq undef, GEq undef, GEq (.bool true), GEq (.bool true), GEq undef, GEq undef, GEq undef, GEq (.bool true)] [2] (tG [] w0 [Qv q 44 #[(.string ⟨List.toArray b0⟩), (.int .i64 a5), (.int .i64 a6), (.slice A5 (List.length a4) c6), (.slice A9 (List.length u) a3)], Qv h 48 #[(.string ⟨List.toArray f.1⟩), (.string ⟨List.toArray f.2.1⟩), (.int .i64 f.2.2)]] [([], []), ([2], [(.bool s)])]) 41 1 ⟨trivial, SP.drew c1⟩ ?_ ?_
            iterate 41 refine And.intro ?_ ?_
            exact trivial
            ·exact oV (hC (hS 5 (pt h 0)) (h0)) (pt h 0)
            ·refine oL 0 ?_
             ·rintro ρ' w' hs hah ⟨aa1, o5⟩
              refine kM (kc (kA hah 0 68) k0) fun hkn => ?_
              refine sL 9 68 h 0 1 (.string ⟨List.toArray f.1⟩) 69 o5 rfl ?_
              exact eK hkn
            ·refine oH 0 1 ?_
             ·rintro ρ' w' hs hah ⟨aa2, o6⟩
              refine kM (kc (kA hah 1 69) k0) fun hkn => ?_
              refine cF 86 #[(.tmp 69)] #[9] 70 Tryz.call86 (Vn  f.1 w'  s c2) ?_
              rintro e aa3 ⟨rfl, i8⟩
              refine ⟨_, rfl, ?_⟩
              have o7 := SP.call o6 i8
              clear i8
              refine ⟨_, Qa hkn, rfl, ?_⟩
              exact (And.intro (And.intro rfl (trivial)) (o7))
            ·exact oV (hC (hA 2 70) (h0)) (.bool (!s))
            ·exact oV (hC (hA 3 71) (h0)) (.bool (!s))
            ·exact oV (hC (hS 4 (.int .i64 m)) (hC (hB 4 72 a2) (h0))) (.int .i64 m)
            ·exact oV (hC (hA 5 73) (hC (hB 4 72 a2) (h0))) (.bool (decide (m > 0)))
            ·exact oV (hC (hA 6 74) (hC (hB 4 72 a2) (h0))) (.bool (decide (m > 0)))
            ·exact oV (hC (hS 1 (pt q 0)) (hC (hB 7 75 p) (h0))) (pt q 4)
            ·refine oL 1 ?_
             ·rintro ρ' w' hs hah ⟨⟨aa4, -⟩, o8⟩
              have c5 := hah 8 76 K
              have a1 := hah 7 75 K
              refine kN [(76, (pt q 4)), (75, (.bool true))] ⟨c5, (Eq.trans a1 (congrArg Value.bool p)), trivial⟩ fun hkn => ?_
              refine sL 42 76 q 4 0 (.slice A9 (List.length u) a3) 77 o8 rfl ?_
              exact eK hkn
            ·exact oV (hC (hS 4 (.int .i64 m)) (hC (hB 7 75 p) (h0))) (.int .i64 m)
            ·exact oV (hC (hA 10 78) (hC (hB 7 75 p) (h0))) (.int .i64 (IntKind.wrap .i64 (m - 1)))
            ·refine oL 1 ?_
             ·rintro ρ' w' hs hah ⟨⟨aa5, -⟩, o9⟩
              have c7 := hah 9 77 K
              have c8 := hah 11 79 K
              have a1 := hah 7 75 K
              refine kN [(77, (.slice A9 (List.length u) a3)), (79, (.int .i64 (IntKind.wrap .i64 (m - 1)))), (75, (.bool true))] ⟨c7, c8, (Eq.trans a1 (congrArg Value.bool p)), trivial⟩ fun hkn => ?_
              refine Ve (e := (Qf Qs (Qf Qs (Qd .i64)))) (l := u) (A := A9) (c := a3) (T := 42) (E := 48) (x := (.tmp 77)) (ix := (.tmp 79)) (ki := .i64) (iz := (IntKind.wrap .i64 (m - 1))) (d := (some 80)) (k := 12) K rfl K K K K (RdT.sp b6 o9) c3 c4 ?_
              intro p0 p1 p2 aa6 hc7409
              exact ⟨rfl, _, Qa hkn, ⟨p0, p1, p2, rfl⟩⟩
            ·refine oL 1 ?_
             ·rintro ρ' w' hs hah ⟨⟨aa7, -⟩, aa8⟩
              obtain ⟨g0, g1, p3, c9⟩ := hah 12 80 K
              have a1 := hah 7 75 K
              refine kN [(80, (.pointer (some ⟨g0, (g1 + Int.toNat (IntKind.wrap .i64 (m - 1)) * (Qf Qs (Qf Qs (Qd .i64))).sz), none⟩))), (75, (.bool true))] ⟨c9, (Eq.trans a1 (congrArg Value.bool p)), trivial⟩ fun hkn => ?_
              refine Qk.run (k := 13) (v := (.pointer (some ⟨g0, (g1 + Int.toNat (IntKind.wrap .i64 (m - 1)) * (Qf Qs (Qf Qs (Qd .i64))).sz), none⟩))) K ?_
              exact ⟨rfl, _, Qa hkn, ⟨g0, g1, p3, rfl⟩⟩
            ·refine oL 1 ?_
             ·rintro ρ' w' hs hah ⟨⟨aa9, -⟩, p4⟩
              obtain ⟨i9, j0, p5, d0⟩ := hah 13 81 K
              have a1 := hah 7 75 K
              refine kN [(81, (.pointer (some ⟨i9, (j0 + Int.toNat (IntKind.wrap .i64 (m - 1)) * (Qf Qs (Qf Qs (Qd .i64))).sz), none⟩))), (75, (.bool true))] ⟨d0, (Eq.trans a1 (congrArg Value.bool p)), trivial⟩ fun hkn => ?_
              refine sC 9 81 i9 (j0 + Int.toNat (IntKind.wrap .i64 (m - 1)) * (Qf Qs (Qf Qs (Qd .i64))).sz) (.string ⟨List.toArray a0.1⟩) 82 (Qj (e := (Qf Qs (Qf Qs (Qd .i64)))) (Qg (RdT.sp b6 p4) p5 c3 c4) e3 (j := 0) rfl) ?_
              exact eK hkn
            ·exact oV (hC (hS 5 (pt h 0)) (hC (hB 7 75 p) (h0))) (pt h 0)
            ·refine oL 1 ?_
             ·rintro ρ' w' hs hah ⟨⟨ab0, -⟩, p6⟩
              have d1 := hah 15 83 K
              have a1 := hah 7 75 K
              refine kN [(83, (pt h 0)), (75, (.bool true))] ⟨d1, (Eq.trans a1 (congrArg Value.bool p)), trivial⟩ fun hkn => ?_
              refine sL 9 83 h 0 1 (.string ⟨List.toArray f.1⟩) 84 p6 rfl ?_
              exact eK hkn
            ·refine oL 1 ?_
             ·rintro ρ' w' hs hah ⟨⟨ab1, -⟩, ab2⟩
              have d2 := hah 14 82 K
              have d3 := hah 16 84 K
              have a1 := hah 7 75 K
              refine kN [(82, (.string ⟨List.toArray a0.1⟩)), (84, (.string ⟨List.toArray f.1⟩)), (75, (.bool true))] ⟨d2, d3, (Eq.trans a1 (congrArg Value.bool p)), trivial⟩ fun hkn => ?_
              refine Vt (op := .geq) (T := 9) (T' := 9) (x := (.tmp 82)) (y := (.tmp 84)) (a := a0.1) (b := f.1) (r := (.bool (!(Op.bytesLess a0.1 f.1)))) (d := (some 85)) (k := 17) K rfl K K rfl ?_
              exact eK hkn
            ·exact oV (hC (hB 7 75 p) (hC (hA 17 85) (hC (hB 4 72 a2) (h0)))) (.bool (!(Op.bytesLess a0.1 f.1)))
            ·exact oV (hC (hB 4 72 a2) (hC (hA 18 86) (h0))) (.bool (!(Op.bytesLess a0.1 f.1)))
            ·exact oV (hC (hA 19 87) (h0)) (.bool (!(Op.bytesLess a0.1 f.1)))
            ·exact oV (hC (hS 5 (pt h 0)) (hC (hB 20 88 a7) (h0))) (pt h 1)
            ·refine oL 1 ?_
             ·rintro ρ' w' hs hah ⟨⟨ab3, -⟩, p7⟩
              have d5 := hah 21 89 K
              have b2 := hah 20 88 K
              refine kN [(89, (pt h 1)), (88, (.bool false))] ⟨d5, (Eq.trans b2 (congrArg Value.bool a7)), trivial⟩ fun hkn => ?_
              refine sL 9 89 h 1 1 (.string ⟨List.toArray f.2.1⟩) 90 p7 rfl ?_
              exact eK hkn
            ·refine oL 1 ?_
             ·rintro ρ' w' hs hah ⟨⟨ab4, -⟩, ab5⟩
              have d6 := hah 22 90 K
              have b2 := hah 20 88 K
              refine kN [(90, (.string ⟨List.toArray f.2.1⟩)), (88, (.bool false))] ⟨d6, (Eq.trans b2 (congrArg Value.bool a7)), trivial⟩ fun hkn => ?_
              refine Vt (op := .eql) (T := 9) (T' := 9) (x := (.tmp 90)) (y := (.const (.string ⟨List.toArray ([] : List UInt8)⟩))) (a := f.2.1) (b := ([] : List UInt8)) (r := (.bool (f.2.1 == ([] : List UInt8)))) (d := (some 91)) (k := 23) K rfl K K rfl ?_
              exact eK hkn
            ·exact oV (hC (hB 20 88 a7) (hC (hA 23 91) (h0))) (.bool (f.2.1 == ([] : List UInt8)))
            ·exact oV (hC (hA 24 92) (h0)) (.bool (f.2.1 == ([] : List UInt8)))
            ·exact oW (hC (hB 25 93 a8) (h0)) 94
            ·exact oW (hC (hB 25 93 a8) (h0)) 95
            ·exact oW (hC (hB 25 93 a8) (h0)) 96
            ·exact oW (hC (hB 25 93 a8) (h0)) 97
            ·exact oV (hC (hB 25 93 a8) (hC (hA 29 97) (h0))) (.bool true)
            ·exact oV (hC (hA 30 98) (h0)) (.bool true)
            ·exact oW (hC (hA 31 99) (h0)) 100
            ·exact oW (hC (hA 31 99) (h0)) 101
            ·exact oW (hC (hA 31 99) (h0)) 102
            ·exact oV (hC (hA 31 99) (hC (hA 34 102) (h0))) (.bool true)
            ·exact oV (hC (hA 35 103) (h0)) (.bool true)
            ·exact oW (hC (hA 36 104) (h0)) 105
            ·exact oW (hC (hA 36 104) (h0)) 106
            ·exact oW (hC (hA 36 104) (h0)) 107
            ·exact oV (hC (hA 36 104) (hC (hA 39 107) (h0))) (.bool true)
            ·rintro ρ' w' hs hf ⟨⟨ab6, -⟩, j1⟩
             refine Q4 [(1, (pt q 0)), (4, (.int .i64 m)), (108, (.bool true))] ⟨(hs 1 K).trans K, (hs 4 K).trans K, hf 40 108 K, trivial⟩ ?_
             obtain ⟨ab7, p8⟩ : ∃ x, w' = x := ⟨_, rfl⟩
             rw [p8] at j1 ⊢
             exact ⟨true, ⟨K, K, K, trivial⟩, SP.sel j1 [0] rfl rfl, H⟩
           ·have H := cf H a8
            rcases Bool.eq_false_or_eq_true (decide (((List.length f.2.1 : Nat) : Int) > 32)) with b3 | b3
            ·have H := ct H b3
             refine aG [GEq (pt h 0), GEq (.string ⟨List.toArray f.1⟩), GEq (.bool s), GEq (.bool (!s)), GEq (.bool (!s)), GEq (.int .i64 m), GEq (.bool (decide (m > 0))), GEq (.bool (decide (m > 0))), GEq (pt q 4), GEq (.slice A9 (List.length u) a3), GEq (.int .i64 m), GEq (.int .i64 (IntKind.wrap .i64 (m - 1))), Vi A9 (Qf Qs (Qf Qs (Qd .i64))).sz (IntKind.wrap .i64 (m - 1)), Vi A9 (Qf Qs (Qf Qs (Qd .i64))).sz (IntKind.wrap .i64 (m - 1)), GEq (.string ⟨List.toArray a0.1⟩), GEq (pt h 0), GEq (.string ⟨List.toArray f.1⟩), GEq (.bool (!(Op.bytesLess a0.1 f.1))), GEq (.bool (!(Op.bytesLess a0.1 f.1))), GEq (.bool (!(Op.bytesLess a0.1 f.1))), GEq (.bool (!(Op.bytesLess a0.1 f.1))), GEq (pt h 1), GEq (.string ⟨List.toArray f.2.1⟩), GEq (.bool (f.2.1 == ([] : List UInt8))), GEq (.bool (f.2.1 == ([] : List UInt8))), GEq (.bool (f.2.1 == ([] : List UInt8))), GEq (pt h 1), GEq (.string ⟨List.toArray f.2.1⟩), GEq (.int .i64 ((List.length f.2.1 : Nat) : Int)), GEq (.bool (decide (((List.length f.2.1 : Nat) : Int) > 32))), GEq (.bool (decide (((List.length f.2.1 : Nat) : Int) > 32))), GEq (.bool (decide (((List.length f.2.1 : Nat) : Int) > 32))), GEq undef, GEq undef, GEq undef, GEq (.bool true), GEq (.bool true), GEq undef, GEq undef, GEq undef, GEq (.bool true)] [2] (tG [] w0 [Qv q 44 #[(.string ⟨List.toArray b0⟩), (.int .i64 a5), (.int .i64 a6), (.slice A5 (List.length a4) c6), (.slice A9 (List.length u) a3)], Qv h 48 #[(.string ⟨List.toArray f.1⟩), (.string ⟨List.toArray f.2.1⟩), (.int .i64 f.2.2)]] [([], []), ([2], [(.bool s)])]) 41 1 ⟨trivial, SP.drew c1⟩ ?_ ?_
             iterate 41 refine And.intro ?_ ?_
             exact trivial
             ·exact oV (hC (hS 5 (pt h 0)) (h0)) (pt h 0)
             ·refine oL 0 ?_
              ·rintro ρ' w' hs hah ⟨ab8, p9⟩
               refine kM (kc (kA hah 0 68) k0) fun hkn => ?_
               refine sL 9 68 h 0 1 (.string ⟨List.toArray f.1⟩) 69 p9 rfl ?_
               exact eK hkn
             ·refine oH 0 1 ?_
              ·rintro ρ' w' hs hah ⟨ab9, q0⟩
               refine kM (kc (kA hah 1 69) k0) fun hkn => ?_
               refine cF 86 #[(.tmp 69)] #[9] 70 Tryz.call86 (Vn  f.1 w'  s c2) ?_
               rintro e ac0 ⟨rfl, j2⟩
               refine ⟨_, rfl, ?_⟩
               have q1 := SP.call q0 j2
               clear j2
               refine ⟨_, Qa hkn, rfl, ?_⟩
               exact (And.intro (And.intro rfl (trivial)) (q1))
             ·exact oV (hC (hA 2 70) (h0)) (.bool (!s))
             ·exact oV (hC (hA 3 71) (h0)) (.bool (!s))
             ·exact oV (hC (hS 4 (.int .i64 m)) (hC (hB 4 72 a2) (h0))) (.int .i64 m)
             ·exact oV (hC (hA 5 73) (hC (hB 4 72 a2) (h0))) (.bool (decide (m > 0)))
             ·exact oV (hC (hA 6 74) (hC (hB 4 72 a2) (h0))) (.bool (decide (m > 0)))
             ·exact oV (hC (hS 1 (pt q 0)) (hC (hB 7 75 p) (h0))) (pt q 4)
             ·refine oL 1 ?_
              ·rintro ρ' w' hs hah ⟨⟨ac1, -⟩, q2⟩
               have c5 := hah 8 76 K
               have a1 := hah 7 75 K
               refine kN [(76, (pt q 4)), (75, (.bool true))] ⟨c5, (Eq.trans a1 (congrArg Value.bool p)), trivial⟩ fun hkn => ?_
               refine sL 42 76 q 4 0 (.slice A9 (List.length u) a3) 77 q2 rfl ?_
               exact eK hkn
             ·exact oV (hC (hS 4 (.int .i64 m)) (hC (hB 7 75 p) (h0))) (.int .i64 m)
             ·exact oV (hC (hA 10 78) (hC (hB 7 75 p) (h0))) (.int .i64 (IntKind.wrap .i64 (m - 1)))
             ·refine oL 1 ?_
              ·rintro ρ' w' hs hah ⟨⟨ac2, -⟩, q3⟩
               have c7 := hah 9 77 K
               have c8 := hah 11 79 K
               have a1 := hah 7 75 K
               refine kN [(77, (.slice A9 (List.length u) a3)), (79, (.int .i64 (IntKind.wrap .i64 (m - 1)))), (75, (.bool true))] ⟨c7, c8, (Eq.trans a1 (congrArg Value.bool p)), trivial⟩ fun hkn => ?_
               refine Ve (e := (Qf Qs (Qf Qs (Qd .i64)))) (l := u) (A := A9) (c := a3) (T := 42) (E := 48) (x := (.tmp 77)) (ix := (.tmp 79)) (ki := .i64) (iz := (IntKind.wrap .i64 (m - 1))) (d := (some 80)) (k := 12) K rfl K K K K (RdT.sp b6 q3) c3 c4 ?_
               intro q4 q5 q6 ac3 hc7461
               exact ⟨rfl, _, Qa hkn, ⟨q4, q5, q6, rfl⟩⟩
             ·refine oL 1 ?_
              ·rintro ρ' w' hs hah ⟨⟨ac4, -⟩, ac5⟩
               obtain ⟨g2, g3, q7, c9⟩ := hah 12 80 K
               have a1 := hah 7 75 K
               refine kN [(80, (.pointer (some ⟨g2, (g3 + Int.toNat (IntKind.wrap .i64 (m - 1)) * (Qf Qs (Qf Qs (Qd .i64))).sz), none⟩))), (75, (.bool true))] ⟨c9, (Eq.trans a1 (congrArg Value.bool p)), trivial⟩ fun hkn => ?_
               refine Qk.run (k := 13) (v := (.pointer (some ⟨g2, (g3 + Int.toNat (IntKind.wrap .i64 (m - 1)) * (Qf Qs (Qf Qs (Qd .i64))).sz), none⟩))) K ?_
               exact ⟨rfl, _, Qa hkn, ⟨g2, g3, q7, rfl⟩⟩
             ·refine oL 1 ?_
              ·rintro ρ' w' hs hah ⟨⟨ac6, -⟩, q8⟩
               obtain ⟨j3, j4, q9, d0⟩ := hah 13 81 K
               have a1 := hah 7 75 K
               refine kN [(81, (.pointer (some ⟨j3, (j4 + Int.toNat (IntKind.wrap .i64 (m - 1)) * (Qf Qs (Qf Qs (Qd .i64))).sz), none⟩))), (75, (.bool true))] ⟨d0, (Eq.trans a1 (congrArg Value.bool p)), trivial⟩ fun hkn => ?_
               refine sC 9 81 j3 (j4 + Int.toNat (IntKind.wrap .i64 (m - 1)) * (Qf Qs (Qf Qs (Qd .i64))).sz) (.string ⟨List.toArray a0.1⟩) 82 (Qj (e := (Qf Qs (Qf Qs (Qd .i64)))) (Qg (RdT.sp b6 q8) q9 c3 c4) e3 (j := 0) rfl) ?_
               exact eK hkn
             ·exact oV (hC (hS 5 (pt h 0)) (hC (hB 7 75 p) (h0))) (pt h 0)
             ·refine oL 1 ?_
              ·rintro ρ' w' hs hah ⟨⟨ac7, -⟩, r0⟩
               have d1 := hah 15 83 K
               have a1 := hah 7 75 K
               refine kN [(83, (pt h 0)), (75, (.bool true))] ⟨d1, (Eq.trans a1 (congrArg Value.bool p)), trivial⟩ fun hkn => ?_
               refine sL 9 83 h 0 1 (.string ⟨List.toArray f.1⟩) 84 r0 rfl ?_
               exact eK hkn
             ·refine oL 1 ?_
              ·rintro ρ' w' hs hah ⟨⟨ac8, -⟩, ac9⟩
               have d2 := hah 14 82 K
               have d3 := hah 16 84 K
               have a1 := hah 7 75 K
               refine kN [(82, (.string ⟨List.toArray a0.1⟩)), (84, (.string ⟨List.toArray f.1⟩)), (75, (.bool true))] ⟨d2, d3, (Eq.trans a1 (congrArg Value.bool p)), trivial⟩ fun hkn => ?_
               refine Vt (op := .geq) (T := 9) (T' := 9) (x := (.tmp 82)) (y := (.tmp 84)) (a := a0.1) (b := f.1) (r := (.bool (!(Op.bytesLess a0.1 f.1)))) (d := (some 85)) (k := 17) K rfl K K rfl ?_
               exact eK hkn
             ·exact oV (hC (hB 7 75 p) (hC (hA 17 85) (hC (hB 4 72 a2) (h0)))) (.bool (!(Op.bytesLess a0.1 f.1)))
             ·exact oV (hC (hB 4 72 a2) (hC (hA 18 86) (h0))) (.bool (!(Op.bytesLess a0.1 f.1)))
             ·exact oV (hC (hA 19 87) (h0)) (.bool (!(Op.bytesLess a0.1 f.1)))
             ·exact oV (hC (hS 5 (pt h 0)) (hC (hB 20 88 a7) (h0))) (pt h 1)
             ·refine oL 1 ?_
              ·rintro ρ' w' hs hah ⟨⟨ad0, -⟩, r1⟩
               have d5 := hah 21 89 K
               have b2 := hah 20 88 K
               refine kN [(89, (pt h 1)), (88, (.bool false))] ⟨d5, (Eq.trans b2 (congrArg Value.bool a7)), trivial⟩ fun hkn => ?_
               refine sL 9 89 h 1 1 (.string ⟨List.toArray f.2.1⟩) 90 r1 rfl ?_
               exact eK hkn
             ·refine oL 1 ?_
              ·rintro ρ' w' hs hah ⟨⟨ad1, -⟩, ad2⟩
               have d6 := hah 22 90 K
               have b2 := hah 20 88 K
               refine kN [(90, (.string ⟨List.toArray f.2.1⟩)), (88, (.bool false))] ⟨d6, (Eq.trans b2 (congrArg Value.bool a7)), trivial⟩ fun hkn => ?_
               refine Vt (op := .eql) (T := 9) (T' := 9) (x := (.tmp 90)) (y := (.const (.string ⟨List.toArray ([] : List UInt8)⟩))) (a := f.2.1) (b := ([] : List UInt8)) (r := (.bool (f.2.1 == ([] : List UInt8)))) (d := (some 91)) (k := 23) K rfl K K rfl ?_
               exact eK hkn
             ·exact oV (hC (hB 20 88 a7) (hC (hA 23 91) (h0))) (.bool (f.2.1 == ([] : List UInt8)))
             ·exact oV (hC (hA 24 92) (h0)) (.bool (f.2.1 == ([] : List UInt8)))
             ·exact oV (hC (hS 5 (pt h 0)) (hC (hB 25 93 a8) (h0))) (pt h 1)
             ·refine oL 1 ?_
              ·rintro ρ' w' hs hah ⟨⟨ad3, -⟩, r2⟩
               have b7 := hah 26 94 K
               have b8 := hah 25 93 K
               refine kN [(94, (pt h 1)), (93, (.bool false))] ⟨b7, (Eq.trans b8 (congrArg Value.bool a8)), trivial⟩ fun hkn => ?_
               refine sL 9 94 h 1 1 (.string ⟨List.toArray f.2.1⟩) 95 r2 rfl ?_
               exact eK hkn
             ·exact oV (hC (hA 27 95) (hC (hB 25 93 a8) (h0))) (.int .i64 ((List.length f.2.1 : Nat) : Int))
             ·exact oV (hC (hA 28 96) (hC (hB 25 93 a8) (h0))) (.bool (decide (((List.length f.2.1 : Nat) : Int) > 32)))
             ·exact oV (hC (hB 25 93 a8) (hC (hA 29 97) (h0))) (.bool (decide (((List.length f.2.1 : Nat) : Int) > 32)))
             ·exact oV (hC (hA 30 98) (h0)) (.bool (decide (((List.length f.2.1 : Nat) : Int) > 32)))
             ·exact oW (hC (hB 31 99 b3) (h0)) 100
             ·exact oW (hC (hB 31 99 b3) (h0)) 101
             ·exact oW (hC (hB 31 99 b3) (h0)) 102
             ·exact oV (hC (hB 31 99 b3) (hC (hA 34 102) (h0))) (.bool true)
             ·exact oV (hC (hA 35 103) (h0)) (.bool true)
             ·exact oW (hC (hA 36 104) (h0)) 105
             ·exact oW (hC (hA 36 104) (h0)) 106
             ·exact oW (hC (hA 36 104) (h0)) 107
             ·exact oV (hC (hA 36 104) (hC (hA 39 107) (h0))) (.bool true)
             ·rintro ρ' w' hs hf ⟨⟨ad4, -⟩, j5⟩
              refine Q4 [(1, (pt q 0)), (4, (.int .i64 m)), (108, (.bool true))] ⟨(hs 1 K).trans K, (hs 4 K).trans K, hf 40 108 K, trivial⟩ ?_
              obtain ⟨ad5, r3⟩ : ∃ x, w' = x := ⟨_, rfl⟩
              rw [r3] at j5 ⊢
              exact ⟨true, ⟨K, K, K, trivial⟩, SP.sel j5 [0] rfl rfl, H⟩
            ·have H := cf H b3
             rcases Bool.eq_false_or_eq_true (decide (f.2.2 < 0)) with b9 | b9
             ·have H := ct H b9
              refine aG [GEq (pt h 0), GEq (.string ⟨List.toArray f.1⟩), GEq (.bool s), GEq (.bool (!s)), GEq (.bool (!s)), GEq (.int .i64 m), GEq (.bool (decide (m > 0))), GEq (.bool (decide (m > 0))), GEq (pt q 4), GEq (.slice A9 (List.length u) a3), GEq (.int .i64 m), GEq (.int .i64 (IntKind.wrap .i64 (m - 1))), Vi A9 (Qf Qs (Qf Qs (Qd .i64))).sz (IntKind.wrap .i64 (m - 1)), Vi A9 (Qf Qs (Qf Qs (Qd .i64))).sz (IntKind.wrap .i64 (m - 1)), GEq (.string ⟨List.toArray a0.1⟩), GEq (pt h 0), GEq (.string ⟨List.toArray f.1⟩), GEq (.bool (!(Op.bytesLess a0.1 f.1))), GEq (.bool (!(Op.bytesLess a0.1 f.1))), GEq (.bool (!(Op.bytesLess a0.1 f.1))), GEq (.bool (!(Op.bytesLess a0.1 f.1))), GEq (pt h 1), GEq (.string ⟨List.toArray f.2.1⟩), GEq (.bool (f.2.1 == ([] : List UInt8))), GEq (.bool (f.2.1 == ([] : List UInt8))), GEq (.bool (f.2.1 == ([] : List UInt8))), GEq (pt h 1), GEq (.string ⟨List.toArray f.2.1⟩), GEq (.int .i64 ((List.length f.2.1 : Nat) : Int)), GEq (.bool (decide (((List.length f.2.1 : Nat) : Int) > 32))), GEq (.bool (decide (((List.length f.2.1 : Nat) : Int) > 32))), GEq (.bool (decide (((List.length f.2.1 : Nat) : Int) > 32))), GEq (pt h 2), GEq (.int .i64 f.2.2), GEq (.bool (decide (f.2.2 < 0))), GEq (.bool (decide (f.2.2 < 0))), GEq (.bool (decide (f.2.2 < 0))), GEq undef, GEq undef, GEq undef, GEq (.bool true)] [2] (tG [] w0 [Qv q 44 #[(.string ⟨List.toArray b0⟩), (.int .i64 a5), (.int .i64 a6), (.slice A5 (List.length a4) c6), (.slice A9 (List.length u) a3)], Qv h 48 #[(.string ⟨List.toArray f.1⟩), (.string ⟨List.toArray f.2.1⟩), (.int .i64 f.2.2)]] [([], []), ([2], [(.bool s)])]) 41 1 ⟨trivial, SP.drew c1⟩ ?_ ?_
              iterate 41 refine And.intro ?_ ?_
              exact trivial
              ·exact oV (hC (hS 5 (pt h 0)) (h0)) (pt h 0)
              ·refine oL 0 ?_
               ·rintro ρ' w' hs hah ⟨ad6, r4⟩
                refine kM (kc (kA hah 0 68) k0) fun hkn => ?_
                refine sL 9 68 h 0 1 (.string ⟨List.toArray f.1⟩) 69 r4 rfl ?_
                exact eK hkn
              ·refine oH 0 1 ?_
               ·rintro ρ' w' hs hah ⟨ad7, r5⟩
                refine kM (kc (kA hah 1 69) k0) fun hkn => ?_
                refine cF 86 #[(.tmp 69)] #[9] 70 Tryz.call86 (Vn  f.1 w'  s c2) ?_
                rintro e ad8 ⟨rfl, j6⟩
                refine ⟨_, rfl, ?_⟩
                have r6 := SP.call r5 j6
                clear j6
                refine ⟨_, Qa hkn, rfl, ?_⟩
                exact (And.intro (And.intro rfl (trivial)) (r6))
              ·exact oV (hC (hA 2 70) (h0)) (.bool (!s))
              ·exact oV (hC (hA 3 71) (h0)) (.bool (!s))
              ·exact oV (hC (hS 4 (.int .i64 m)) (hC (hB 4 72 a2) (h0))) (.int .i64 m)
              ·exact oV (hC (hA 5 73) (hC (hB 4 72 a2) (h0))) (.bool (decide (m > 0)))
              ·exact oV (hC (hA 6 74) (hC (hB 4 72 a2) (h0))) (.bool (decide (m > 0)))
              ·exact oV (hC (hS 1 (pt q 0)) (hC (hB 7 75 p) (h0))) (pt q 4)
              ·refine oL 1 ?_
               ·rintro ρ' w' hs hah ⟨⟨ad9, -⟩, r7⟩
                have c5 := hah 8 76 K
                have a1 := hah 7 75 K
                refine kN [(76, (pt q 4)), (75, (.bool true))] ⟨c5, (Eq.trans a1 (congrArg Value.bool p)), trivial⟩ fun hkn => ?_
                refine sL 42 76 q 4 0 (.slice A9 (List.length u) a3) 77 r7 rfl ?_
                exact eK hkn
              ·exact oV (hC (hS 4 (.int .i64 m)) (hC (hB 7 75 p) (h0))) (.int .i64 m)
              ·exact oV (hC (hA 10 78) (hC (hB 7 75 p) (h0))) (.int .i64 (IntKind.wrap .i64 (m - 1)))
              ·refine oL 1 ?_
               ·rintro ρ' w' hs hah ⟨⟨ae0, -⟩, r8⟩
                have c7 := hah 9 77 K
                have c8 := hah 11 79 K
                have a1 := hah 7 75 K
                refine kN [(77, (.slice A9 (List.length u) a3)), (79, (.int .i64 (IntKind.wrap .i64 (m - 1)))), (75, (.bool true))] ⟨c7, c8, (Eq.trans a1 (congrArg Value.bool p)), trivial⟩ fun hkn => ?_
                refine Ve (e := (Qf Qs (Qf Qs (Qd .i64)))) (l := u) (A := A9) (c := a3) (T := 42) (E := 48) (x := (.tmp 77)) (ix := (.tmp 79)) (ki := .i64) (iz := (IntKind.wrap .i64 (m - 1))) (d := (some 80)) (k := 12) K rfl K K K K (RdT.sp b6 r8) c3 c4 ?_
                intro r9 s0 s1 ae1 hc7516
                exact ⟨rfl, _, Qa hkn, ⟨r9, s0, s1, rfl⟩⟩
              ·refine oL 1 ?_
               ·rintro ρ' w' hs hah ⟨⟨ae2, -⟩, ae3⟩
                obtain ⟨g4, g5, s2, c9⟩ := hah 12 80 K
                have a1 := hah 7 75 K
                refine kN [(80, (.pointer (some ⟨g4, (g5 + Int.toNat (IntKind.wrap .i64 (m - 1)) * (Qf Qs (Qf Qs (Qd .i64))).sz), none⟩))), (75, (.bool true))] ⟨c9, (Eq.trans a1 (congrArg Value.bool p)), trivial⟩ fun hkn => ?_
                refine Qk.run (k := 13) (v := (.pointer (some ⟨g4, (g5 + Int.toNat (IntKind.wrap .i64 (m - 1)) * (Qf Qs (Qf Qs (Qd .i64))).sz), none⟩))) K ?_
                exact ⟨rfl, _, Qa hkn, ⟨g4, g5, s2, rfl⟩⟩
              ·refine oL 1 ?_
               ·rintro ρ' w' hs hah ⟨⟨ae4, -⟩, s3⟩
                obtain ⟨j7, j8, s4, d0⟩ := hah 13 81 K
                have a1 := hah 7 75 K
                refine kN [(81, (.pointer (some ⟨j7, (j8 + Int.toNat (IntKind.wrap .i64 (m - 1)) * (Qf Qs (Qf Qs (Qd .i64))).sz), none⟩))), (75, (.bool true))] ⟨d0, (Eq.trans a1 (congrArg Value.bool p)), trivial⟩ fun hkn => ?_
                refine sC 9 81 j7 (j8 + Int.toNat (IntKind.wrap .i64 (m - 1)) * (Qf Qs (Qf Qs (Qd .i64))).sz) (.string ⟨List.toArray a0.1⟩) 82 (Qj (e := (Qf Qs (Qf Qs (Qd .i64)))) (Qg (RdT.sp b6 s3) s4 c3 c4) e3 (j := 0) rfl) ?_
                exact eK hkn
              ·exact oV (hC (hS 5 (pt h 0)) (hC (hB 7 75 p) (h0))) (pt h 0)
              ·refine oL 1 ?_
               ·rintro ρ' w' hs hah ⟨⟨ae5, -⟩, s5⟩
                have d1 := hah 15 83 K
                have a1 := hah 7 75 K
                refine kN [(83, (pt h 0)), (75, (.bool true))] ⟨d1, (Eq.trans a1 (congrArg Value.bool p)), trivial⟩ fun hkn => ?_
                refine sL 9 83 h 0 1 (.string ⟨List.toArray f.1⟩) 84 s5 rfl ?_
                exact eK hkn
              ·refine oL 1 ?_
               ·rintro ρ' w' hs hah ⟨⟨ae6, -⟩, ae7⟩
                have d2 := hah 14 82 K
                have d3 := hah 16 84 K
                have a1 := hah 7 75 K
                refine kN [(82, (.string ⟨List.toArray a0.1⟩)), (84, (.string ⟨List.toArray f.1⟩)), (75, (.bool true))] ⟨d2, d3, (Eq.trans a1 (congrArg Value.bool p)), trivial⟩ fun hkn => ?_
                refine Vt (op := .geq) (T := 9) (T' := 9) (x := (.tmp 82)) (y := (.tmp 84)) (a := a0.1) (b := f.1) (r := (.bool (!(Op.bytesLess a0.1 f.1)))) (d := (some 85)) (k := 17) K rfl K K rfl ?_
                exact eK hkn
              ·exact oV (hC (hB 7 75 p) (hC (hA 17 85) (hC (hB 4 72 a2) (h0)))) (.bool (!(Op.bytesLess a0.1 f.1)))
              ·exact oV (hC (hB 4 72 a2) (hC (hA 18 86) (h0))) (.bool (!(Op.bytesLess a0.1 f.1)))
              ·exact oV (hC (hA 19 87) (h0)) (.bool (!(Op.bytesLess a0.1 f.1)))
              ·exact oV (hC (hS 5 (pt h 0)) (hC (hB 20 88 a7) (h0))) (pt h 1)
              ·refine oL 1 ?_
               ·rintro ρ' w' hs hah ⟨⟨ae8, -⟩, s6⟩
                have d5 := hah 21 89 K
                have b2 := hah 20 88 K
                refine kN [(89, (pt h 1)), (88, (.bool false))] ⟨d5, (Eq.trans b2 (congrArg Value.bool a7)), trivial⟩ fun hkn => ?_
                refine sL 9 89 h 1 1 (.string ⟨List.toArray f.2.1⟩) 90 s6 rfl ?_
                exact eK hkn
              ·refine oL 1 ?_
               ·rintro ρ' w' hs hah ⟨⟨ae9, -⟩, af0⟩
                have d6 := hah 22 90 K
                have b2 := hah 20 88 K
                refine kN [(90, (.string ⟨List.toArray f.2.1⟩)), (88, (.bool false))] ⟨d6, (Eq.trans b2 (congrArg Value.bool a7)), trivial⟩ fun hkn => ?_
                refine Vt (op := .eql) (T := 9) (T' := 9) (x := (.tmp 90)) (y := (.const (.string ⟨List.toArray ([] : List UInt8)⟩))) (a := f.2.1) (b := ([] : List UInt8)) (r := (.bool (f.2.1 == ([] : List UInt8)))) (d := (some 91)) (k := 23) K rfl K K rfl ?_
                exact eK hkn
              ·exact oV (hC (hB 20 88 a7) (hC (hA 23 91) (h0))) (.bool (f.2.1 == ([] : List UInt8)))
              ·exact oV (hC (hA 24 92) (h0)) (.bool (f.2.1 == ([] : List UInt8)))
              ·exact oV (hC (hS 5 (pt h 0)) (hC (hB 25 93 a8) (h0))) (pt h 1)
              ·refine oL 1 ?_
               ·rintro ρ' w' hs hah ⟨⟨af1, -⟩, s7⟩
                have b7 := hah 26 94 K
                have b8 := hah 25 93 K
                refine kN [(94, (pt h 1)), (93, (.bool false))] ⟨b7, (Eq.trans b8 (congrArg Value.bool a8)), trivial⟩ fun hkn => ?_
                refine sL 9 94 h 1 1 (.string ⟨List.toArray f.2.1⟩) 95 s7 rfl ?_
                exact eK hkn
              ·exact oV (hC (hA 27 95) (hC (hB 25 93 a8) (h0))) (.int .i64 ((List.length f.2.1 : Nat) : Int))
              ·exact oV (hC (hA 28 96) (hC (hB 25 93 a8) (h0))) (.bool (decide (((List.length f.2.1 : Nat) : Int) > 32)))
              ·exact oV (hC (hB 25 93 a8) (hC (hA 29 97) (h0))) (.bool (decide (((List.length f.2.1 : Nat) : Int) > 32)))
              ·exact oV (hC (hA 30 98) (h0)) (.bool (decide (((List.length f.2.1 : Nat) : Int) > 32)))
              ·exact oV (hC (hS 5 (pt h 0)) (hC (hB 31 99 b3) (h0))) (pt h 2)
              ·refine oL 1 ?_
               ·rintro ρ' w' hs hah ⟨⟨af2, -⟩, s8⟩
                have d7 := hah 32 100 K
                have d8 := hah 31 99 K
                refine kN [(100, (pt h 2)), (99, (.bool false))] ⟨d7, (Eq.trans d8 (congrArg Value.bool b3)), trivial⟩ fun hkn => ?_
                refine sL 2 100 h 2 1 (.int .i64 f.2.2) 101 s8 rfl ?_
                exact eK hkn
              ·exact oV (hC (hA 33 101) (hC (hB 31 99 b3) (h0))) (.bool (decide (f.2.2 < 0)))
              ·exact oV (hC (hB 31 99 b3) (hC (hA 34 102) (h0))) (.bool (decide (f.2.2 < 0)))
              ·exact oV (hC (hA 35 103) (h0)) (.bool (decide (f.2.2 < 0)))
              ·exact oW (hC (hB 36 104 b9) (h0)) 105
              ·exact oW (hC (hB 36 104 b9) (h0)) 106
              ·exact oW (hC (hB 36 104 b9) (h0)) 107
              ·exact oV (hC (hB 36 104 b9) (hC (hA 39 107) (h0))) (.bool true)
              ·rintro ρ' w' hs hf ⟨⟨af3, -⟩, j9⟩
               refine Q4 [(1, (pt q 0)), (4, (.int .i64 m)), (108, (.bool true))] ⟨(hs 1 K).trans K, (hs 4 K).trans K, hf 40 108 K, trivial⟩ ?_
               obtain ⟨af4, s9⟩ : ∃ x, w' = x := ⟨_, rfl⟩
               rw [s9] at j9 ⊢
               exact ⟨true, ⟨K, K, K, trivial⟩, SP.sel j9 [0] rfl rfl, H⟩
             ·have H := cf H b9
              refine aG [GEq (pt h 0), GEq (.string ⟨List.toArray f.1⟩), GEq (.bool s), GEq (.bool (!s)), GEq (.bool (!s)), GEq (.int .i64 m), GEq (.bool (decide (m > 0))), GEq (.bool (decide (m > 0))), GEq (pt q 4), GEq (.slice A9 (List.length u) a3), GEq (.int .i64 m), GEq (.int .i64 (IntKind.wrap .i64 (m - 1))), Vi A9 (Qf Qs (Qf Qs (Qd .i64))).sz (IntKind.wrap .i64 (m - 1)), Vi A9 (Qf Qs (Qf Qs (Qd .i64))).sz (IntKind.wrap .i64 (m - 1)), GEq (.string ⟨List.toArray a0.1⟩), GEq (pt h 0), GEq (.string ⟨List.toArray f.1⟩), GEq (.bool (!(Op.bytesLess a0.1 f.1))), GEq (.bool (!(Op.bytesLess a0.1 f.1))), GEq (.bool (!(Op.bytesLess a0.1 f.1))), GEq (.bool (!(Op.bytesLess a0.1 f.1))), GEq (pt h 1), GEq (.string ⟨List.toArray f.2.1⟩), GEq (.bool (f.2.1 == ([] : List UInt8))), GEq (.bool (f.2.1 == ([] : List UInt8))), GEq (.bool (f.2.1 == ([] : List UInt8))), GEq (pt h 1), GEq (.string ⟨List.toArray f.2.1⟩), GEq (.int .i64 ((List.length f.2.1 : Nat) : Int)), GEq (.bool (decide (((List.length f.2.1 : Nat) : Int) > 32))), GEq (.bool (decide (((List.length f.2.1 : Nat) : Int) > 32))), GEq (.bool (decide (((List.length f.2.1 : Nat) : Int) > 32))), GEq (pt h 2), GEq (.int .i64 f.2.2), GEq (.bool (decide (f.2.2 < 0))), GEq (.bool (decide (f.2.2 < 0))), GEq (.bool (decide (f.2.2 < 0))), GEq (pt h 2), GEq (.int .i64 f.2.2), GEq (.bool (decide (f.2.2 > 1099511627776))), GEq (.bool (decide (f.2.2 > 1099511627776)))] [2] (tG [] w0 [Qv q 44 #[(.string ⟨List.toArray b0⟩), (.int .i64 a5), (.int .i64 a6), (.slice A5 (List.length a4) c6), (.slice A9 (List.length u) a3)], Qv h 48 #[(.string ⟨List.toArray f.1⟩), (.string ⟨List.toArray f.2.1⟩), (.int .i64 f.2.2)]] [([], []), ([2], [(.bool s)])]) 41 1 ⟨trivial, SP.drew c1⟩ ?_ ?_
              iterate 41 refine And.intro ?_ ?_
              exact trivial
              ·exact oV (hC (hS 5 (pt h 0)) (h0)) (pt h 0)
              ·refine oL 0 ?_
               ·rintro ρ' w' hs hah ⟨af5, t0⟩
                refine kM (kc (kA hah 0 68) k0) fun hkn => ?_
                refine sL 9 68 h 0 1 (.string ⟨List.toArray f.1⟩) 69 t0 rfl ?_
                exact eK hkn
              ·refine oH 0 1 ?_
               ·rintro ρ' w' hs hah ⟨af6, t1⟩
                refine kM (kc (kA hah 1 69) k0) fun hkn => ?_
                refine cF 86 #[(.tmp 69)] #[9] 70 Tryz.call86 (Vn  f.1 w'  s c2) ?_
                rintro e af7 ⟨rfl, k1⟩
                refine ⟨_, rfl, ?_⟩
                have t2 := SP.call t1 k1
                clear k1
                refine ⟨_, Qa hkn, rfl, ?_⟩
                exact (And.intro (And.intro rfl (trivial)) (t2))
              ·exact oV (hC (hA 2 70) (h0)) (.bool (!s))
              ·exact oV (hC (hA 3 71) (h0)) (.bool (!s))
              ·exact oV (hC (hS 4 (.int .i64 m)) (hC (hB 4 72 a2) (h0))) (.int .i64 m)
              ·exact oV (hC (hA 5 73) (hC (hB 4 72 a2) (h0))) (.bool (decide (m > 0)))
              ·exact oV (hC (hA 6 74) (hC (hB 4 72 a2) (h0))) (.bool (decide (m > 0)))
              ·exact oV (hC (hS 1 (pt q 0)) (hC (hB 7 75 p) (h0))) (pt q 4)
              ·refine oL 1 ?_
               ·rintro ρ' w' hs hah ⟨⟨af8, -⟩, t3⟩
                have c5 := hah 8 76 K
                have a1 := hah 7 75 K
                refine kN [(76, (pt q 4)), (75, (.bool true))] ⟨c5, (Eq.trans a1 (congrArg Value.bool p)), trivial⟩ fun hkn => ?_
                refine sL 42 76 q 4 0 (.slice A9 (List.length u) a3) 77 t3 rfl ?_
                exact eK hkn
              ·exact oV (hC (hS 4 (.int .i64 m)) (hC (hB 7 75 p) (h0))) (.int .i64 m)
              ·exact oV (hC (hA 10 78) (hC (hB 7 75 p) (h0))) (.int .i64 (IntKind.wrap .i64 (m - 1)))
              ·refine oL 1 ?_
               ·rintro ρ' w' hs hah ⟨⟨af9, -⟩, t4⟩
                have c7 := hah 9 77 K
                have c8 := hah 11 79 K
                have a1 := hah 7 75 K
                refine kN [(77, (.slice A9 (List.length u) a3)), (79, (.int .i64 (IntKind.wrap .i64 (m - 1)))), (75, (.bool true))] ⟨c7, c8, (Eq.trans a1 (congrArg Value.bool p)), trivial⟩ fun hkn => ?_
                refine Ve (e := (Qf Qs (Qf Qs (Qd .i64)))) (l := u) (A := A9) (c := a3) (T := 42) (E := 48) (x := (.tmp 77)) (ix := (.tmp 79)) (ki := .i64) (iz := (IntKind.wrap .i64 (m - 1))) (d := (some 80)) (k := 12) K rfl K K K K (RdT.sp b6 t4) c3 c4 ?_
                intro t5 t6 t7 ag0 hc7573
                exact ⟨rfl, _, Qa hkn, ⟨t5, t6, t7, rfl⟩⟩
              ·refine oL 1 ?_
               ·rintro ρ' w' hs hah ⟨⟨ag1, -⟩, ag2⟩
                obtain ⟨g6, g7, t8, c9⟩ := hah 12 80 K
                have a1 := hah 7 75 K
                refine kN [(80, (.pointer (some ⟨g6, (g7 + Int.toNat (IntKind.wrap .i64 (m - 1)) * (Qf Qs (Qf Qs (Qd .i64))).sz), none⟩))), (75, (.bool true))] ⟨c9, (Eq.trans a1 (congrArg Value.bool p)), trivial⟩ fun hkn => ?_
                refine Qk.run (k := 13) (v := (.pointer (some ⟨g6, (g7 + Int.toNat (IntKind.wrap .i64 (m - 1)) * (Qf Qs (Qf Qs (Qd .i64))).sz), none⟩))) K ?_
                exact ⟨rfl, _, Qa hkn, ⟨g6, g7, t8, rfl⟩⟩
              ·refine oL 1 ?_
               ·rintro ρ' w' hs hah ⟨⟨ag3, -⟩, t9⟩
                obtain ⟨k2, k3, u0, d0⟩ := hah 13 81 K
                have a1 := hah 7 75 K
                refine kN [(81, (.pointer (some ⟨k2, (k3 + Int.toNat (IntKind.wrap .i64 (m - 1)) * (Qf Qs (Qf Qs (Qd .i64))).sz), none⟩))), (75, (.bool true))] ⟨d0, (Eq.trans a1 (congrArg Value.bool p)), trivial⟩ fun hkn => ?_
                refine sC 9 81 k2 (k3 + Int.toNat (IntKind.wrap .i64 (m - 1)) * (Qf Qs (Qf Qs (Qd .i64))).sz) (.string ⟨List.toArray a0.1⟩) 82 (Qj (e := (Qf Qs (Qf Qs (Qd .i64)))) (Qg (RdT.sp b6 t9) u0 c3 c4) e3 (j := 0) rfl) ?_
                exact eK hkn
              ·exact oV (hC (hS 5 (pt h 0)) (hC (hB 7 75 p) (h0))) (pt h 0)
              ·refine oL 1 ?_
               ·rintro ρ' w' hs hah ⟨⟨ag4, -⟩, u1⟩
                have d1 := hah 15 83 K
                have a1 := hah 7 75 K
                refine kN [(83, (pt h 0)), (75, (.bool true))] ⟨d1, (Eq.trans a1 (congrArg Value.bool p)), trivial⟩ fun hkn => ?_
                refine sL 9 83 h 0 1 (.string ⟨List.toArray f.1⟩) 84 u1 rfl ?_
                exact eK hkn
              ·refine oL 1 ?_
               ·rintro ρ' w' hs hah ⟨⟨ag5, -⟩, ag6⟩
                have d2 := hah 14 82 K
                have d3 := hah 16 84 K
                have a1 := hah 7 75 K
                refine kN [(82, (.string ⟨List.toArray a0.1⟩)), (84, (.string ⟨List.toArray f.1⟩)), (75, (.bool true))] ⟨d2, d3, (Eq.trans a1 (congrArg Value.bool p)), trivial⟩ fun hkn => ?_
                refine Vt (op := .geq) (T := 9) (T' := 9) (x := (.tmp 82)) (y := (.tmp 84)) (a := a0.1) (b := f.1) (r := (.bool (!(Op.bytesLess a0.1 f.1)))) (d := (some 85)) (k := 17) K rfl K K rfl ?_
                exact eK hkn
              ·exact oV (hC (hB 7 75 p) (hC (hA 17 85) (hC (hB 4 72 a2) (h0)))) (.bool (!(Op.bytesLess a0.1 f.1)))
              ·exact oV (hC (hB 4 72 a2) (hC (hA 18 86) (h0))) (.bool (!(Op.bytesLess a0.1 f.1)))
              ·exact oV (hC (hA 19 87) (h0)) (.bool (!(Op.bytesLess a0.1 f.1)))
              ·exact oV (hC (hS 5 (pt h 0)) (hC (hB 20 88 a7) (h0))) (pt h 1)
              ·refine oL 1 ?_
               ·rintro ρ' w' hs hah ⟨⟨ag7, -⟩, u2⟩
                have d5 := hah 21 89 K
                have b2 := hah 20 88 K
                refine kN [(89, (pt h 1)), (88, (.bool false))] ⟨d5, (Eq.trans b2 (congrArg Value.bool a7)), trivial⟩ fun hkn => ?_
                refine sL 9 89 h 1 1 (.string ⟨List.toArray f.2.1⟩) 90 u2 rfl ?_
                exact eK hkn
              ·refine oL 1 ?_
               ·rintro ρ' w' hs hah ⟨⟨ag8, -⟩, ag9⟩
                have d6 := hah 22 90 K
                have b2 := hah 20 88 K
                refine kN [(90, (.string ⟨List.toArray f.2.1⟩)), (88, (.bool false))] ⟨d6, (Eq.trans b2 (congrArg Value.bool a7)), trivial⟩ fun hkn => ?_
                refine Vt (op := .eql) (T := 9) (T' := 9) (x := (.tmp 90)) (y := (.const (.string ⟨List.toArray ([] : List UInt8)⟩))) (a := f.2.1) (b := ([] : List UInt8)) (r := (.bool (f.2.1 == ([] : List UInt8)))) (d := (some 91)) (k := 23) K rfl K K rfl ?_
                exact eK hkn
              ·exact oV (hC (hB 20 88 a7) (hC (hA 23 91) (h0))) (.bool (f.2.1 == ([] : List UInt8)))
              ·exact oV (hC (hA 24 92) (h0)) (.bool (f.2.1 == ([] : List UInt8)))
              ·exact oV (hC (hS 5 (pt h 0)) (hC (hB 25 93 a8) (h0))) (pt h 1)
              ·refine oL 1 ?_
               ·rintro ρ' w' hs hah ⟨⟨ah0, -⟩, u3⟩
                have b7 := hah 26 94 K
                have b8 := hah 25 93 K
                refine kN [(94, (pt h 1)), (93, (.bool false))] ⟨b7, (Eq.trans b8 (congrArg Value.bool a8)), trivial⟩ fun hkn => ?_
                refine sL 9 94 h 1 1 (.string ⟨List.toArray f.2.1⟩) 95 u3 rfl ?_
                exact eK hkn
              ·exact oV (hC (hA 27 95) (hC (hB 25 93 a8) (h0))) (.int .i64 ((List.length f.2.1 : Nat) : Int))
              ·exact oV (hC (hA 28 96) (hC (hB 25 93 a8) (h0))) (.bool (decide (((List.length f.2.1 : Nat) : Int) > 32)))
              ·exact oV (hC (hB 25 93 a8) (hC (hA 29 97) (h0))) (.bool (decide (((List.length f.2.1 : Nat) : Int) > 32)))
              ·exact oV (hC (hA 30 98) (h0)) (.bool (decide (((List.length f.2.1 : Nat) : Int) > 32)))
              ·exact oV (hC (hS 5 (pt h 0)) (hC (hB 31 99 b3) (h0))) (pt h 2)
              ·refine oL 1 ?_
               ·rintro ρ' w' hs hah ⟨⟨ah1, -⟩, u4⟩
                have d7 := hah 32 100 K
                have d8 := hah 31 99 K
                refine kN [(100, (pt h 2)), (99, (.bool false))] ⟨d7, (Eq.trans d8 (congrArg Value.bool b3)), trivial⟩ fun hkn => ?_
                refine sL 2 100 h 2 1 (.int .i64 f.2.2) 101 u4 rfl ?_
                exact eK hkn
              ·exact oV (hC (hA 33 101) (hC (hB 31 99 b3) (h0))) (.bool (decide (f.2.2 < 0)))
              ·exact oV (hC (hB 31 99 b3) (hC (hA 34 102) (h0))) (.bool (decide (f.2.2 < 0)))
              ·exact oV (hC (hA 35 103) (h0)) (.bool (decide (f.2.2 < 0)))
              ·exact oV (hC (hS 5 (pt h 0)) (hC (hB 36 104 b9) (h0))) (pt h 2)
              ·refine oL 1 ?_
               ·rintro ρ' w' hs hah ⟨⟨ah2, -⟩, u5⟩
                have g8 := hah 37 105 K
                have g9 := hah 36 104 K
                refine kN [(105, (pt h 2)), (104, (.bool false))] ⟨g8, (Eq.trans g9 (congrArg Value.bool b9)), trivial⟩ fun hkn => ?_
                refine sL 2 105 h 2 1 (.int .i64 f.2.2) 106 u5 rfl ?_
                exact eK hkn
              ·exact oV (hC (hA 38 106) (hC (hB 36 104 b9) (h0))) (.bool (decide (f.2.2 > 1099511627776)))
              ·exact oV (hC (hB 36 104 b9) (hC (hA 39 107) (h0))) (.bool (decide (f.2.2 > 1099511627776)))
              ·rintro ρ' w' hs hf ⟨⟨ah3, -⟩, k4⟩
               refine Q4 [(1, (pt q 0)), (4, (.int .i64 m)), (108, (.bool (decide (f.2.2 > 1099511627776))))] ⟨(hs 1 K).trans K, (hs 4 K).trans K, hf 40 108 K, trivial⟩ ?_
               obtain ⟨ah4, u6⟩ : ∃ x, w' = x := ⟨_, rfl⟩
               rw [u6] at k4 ⊢
               exact ⟨(decide (f.2.2 > 1099511627776)), ⟨K, K, K, trivial⟩, SP.sel k4 [0] rfl rfl, H⟩
         ·have H := cf H p
          rcases Bool.eq_false_or_eq_true (f.2.1 == ([] : List UInt8)) with a9 | a9
          ·have H := ct H a9
           refine aG [GEq (pt h 0), GEq (.string ⟨List.toArray f.1⟩), GEq (.bool s), GEq (.bool (!s)), GEq (.bool (!s)), GEq (.int .i64 m), GEq (.bool (decide (m > 0))), GEq (.bool (decide (m > 0))), GEq undef, GEq undef, GEq undef, GEq undef, GEq undef, GEq undef, GEq undef, GEq undef, GEq undef, GEq undef, GEq (.bool false), GEq (.bool false), GEq (.bool false), GEq (pt h 1), GEq (.string ⟨List.toArray f.2.1⟩), GEq (.bool (f.2.1 == ([] : List UInt8))), GEq (.bool (f.2.1 == ([] : List UInt8))), GEq (.bool (f.2.1 == ([] : List UInt8))), GEq undef, GEq undef, GEq undef, GEq undef, GEq (.bool true), GEq (.bool true), GEq undef, GEq undef, GEq undef, GEq (.bool true), GEq (.bool true), GEq undef, GEq undef, GEq undef, GEq (.bool true)] [2] (tG [] w0 [Qv q 44 #[(.string ⟨List.toArray b0⟩), (.int .i64 a5), (.int .i64 a6), (.slice A5 (List.length a4) c6), (.slice A9 (List.length u) a3)], Qv h 48 #[(.string ⟨List.toArray f.1⟩), (.string ⟨List.toArray f.2.1⟩), (.int .i64 f.2.2)]] [([], []), ([2], [(.bool s)])]) 41 1 ⟨trivial, SP.drew c1⟩ ?_ ?_
           iterate 41 refine And.intro ?_ ?_
           exact trivial
           ·exact oV (hC (hS 5 (pt h 0)) (h0)) (pt h 0)
           ·refine oL 0 ?_
            ·rintro ρ' w' hs hah ⟨ah5, u7⟩
             refine kM (kc (kA hah 0 68) k0) fun hkn => ?_
             refine sL 9 68 h 0 1 (.string ⟨List.toArray f.1⟩) 69 u7 rfl ?_
             exact eK hkn
           ·refine oH 0 1 ?_
            ·rintro ρ' w' hs hah ⟨ah6, u8⟩
             refine kM (kc (kA hah 1 69) k0) fun hkn => ?_
             refine cF 86 #[(.tmp 69)] #[9] 70 Tryz.call86 (Vn  f.1 w'  s c2) ?_
             rintro e ah7 ⟨rfl, k5⟩
             refine ⟨_, rfl, ?_⟩
             have u9 := SP.call u8 k5
             clear k5
             refine ⟨_, Qa hkn, rfl, ?_⟩
             exact (And.intro (And.intro rfl (trivial)) (u9))
           ·exact oV (hC (hA 2 70) (h0)) (.bool (!s))
           ·exact oV (hC (hA 3 71) (h0)) (.bool (!s))
           ·exact oV (hC (hS 4 (.int .i64 m)) (hC (hB 4 72 a2) (h0))) (.int .i64 m)
           ·exact oV (hC (hA 5 73) (hC (hB 4 72 a2) (h0))) (.bool (decide (m > 0)))
           ·exact oV (hC (hA 6 74) (hC (hB 4 72 a2) (h0))) (.bool (decide (m > 0)))
           ·exact oW (hC (hB 7 75 p) (h0)) 76
           ·exact oW (hC (hB 7 75 p) (h0)) 77
           ·exact oW (hC (hB 7 75 p) (h0)) 78
           ·exact oW (hC (hB 7 75 p) (h0)) 79
           ·exact oW (hC (hB 7 75 p) (h0)) 80
           ·exact oW (hC (hB 7 75 p) (h0)) 81
           ·exact oW (hC (hB 7 75 p) (h0)) 82
           ·exact oW (hC (hB 7 75 p) (h0)) 83
           ·exact oW (hC (hB 7 75 p) (h0)) 84
           ·exact oW (hC (hB 7 75 p) (h0)) 85
           ·exact oV (hC (hB 7 75 p) (hC (hA 17 85) (hC (hB 4 72 a2) (h0)))) (.bool false)
           ·exact oV (hC (hB 4 72 a2) (hC (hA 18 86) (h0))) (.bool false)
           ·exact oV (hC (hA 19 87) (h0)) (.bool false)
           ·exact oV (hC (hS 5 (pt h 0)) (hC (hA 20 88) (h0))) (pt h 1)
           ·refine oL 1 ?_
            ·rintro ρ' w' hs hah ⟨⟨ah8, -⟩, v0⟩
             refine kM (kc (kA hah 21 89) (kc (kA hah 20 88) k0)) fun hkn => ?_
             refine sL 9 89 h 1 1 (.string ⟨List.toArray f.2.1⟩) 90 v0 rfl ?_
             exact eK hkn
           ·refine oL 1 ?_
            ·rintro ρ' w' hs hah ⟨⟨ah9, -⟩, ai0⟩
             refine kM (kc (kA hah 22 90) (kc (kA hah 20 88) k0)) fun hkn => ?_
             refine Vt (op := .eql) (T := 9) (T' := 9) (x := (.tmp 90)) (y := (.const (.string ⟨List.toArray ([] : List UInt8)⟩))) (a := f.2.1) (b := ([] : List UInt8)) (r := (.bool (f.2.1 == ([] : List UInt8)))) (d := (some 91)) (k := 23) K rfl K K rfl ?_
             exact eK hkn
           ·exact oV (hC (hA 20 88) (hC (hA 23 91) (h0))) (.bool (f.2.1 == ([] : List UInt8)))
           ·exact oV (hC (hA 24 92) (h0)) (.bool (f.2.1 == ([] : List UInt8)))
           ·exact oW (hC (hB 25 93 a9) (h0)) 94
           ·exact oW (hC (hB 25 93 a9) (h0)) 95
           ·exact oW (hC (hB 25 93 a9) (h0)) 96
           ·exact oW (hC (hB 25 93 a9) (h0)) 97
           ·exact oV (hC (hB 25 93 a9) (hC (hA 29 97) (h0))) (.bool true)
           ·exact oV (hC (hA 30 98) (h0)) (.bool true)
           ·exact oW (hC (hA 31 99) (h0)) 100
           ·exact oW (hC (hA 31 99) (h0)) 101
           ·exact oW (hC (hA 31 99) (h0)) 102
           ·exact oV (hC (hA 31 99) (hC (hA 34 102) (h0))) (.bool true)
           ·exact oV (hC (hA 35 103) (h0)) (.bool true)
           ·exact oW (hC (hA 36 104) (h0)) 105
           ·exact oW (hC (hA 36 104) (h0)) 106
           ·exact oW (hC (hA 36 104) (h0)) 107
           ·exact oV (hC (hA 36 104) (hC (hA 39 107) (h0))) (.bool true)
           ·rintro ρ' w' hs hf ⟨⟨ai1, -⟩, k6⟩
            refine Q4 [(1, (pt q 0)), (4, (.int .i64 m)), (108, (.bool true))] ⟨(hs 1 K).trans K, (hs 4 K).trans K, hf 40 108 K, trivial⟩ ?_
            obtain ⟨ai2, v1⟩ : ∃ x, w' = x := ⟨_, rfl⟩
            rw [v1] at k6 ⊢
            exact ⟨true, ⟨K, K, K, trivial⟩, SP.sel k6 [0] rfl rfl, H⟩
          ·have H := cf H a9
           rcases Bool.eq_false_or_eq_true (decide (((List.length f.2.1 : Nat) : Int) > 32)) with b4 | b4
           ·have H := ct H b4
            refine aG [GEq (pt h 0), GEq (.string ⟨List.toArray f.1⟩), GEq (.bool s), GEq (.bool (!s)), GEq (.bool (!s)), GEq (.int .i64 m), GEq (.bool (decide (m > 0))), GEq (.bool (decide (m > 0))), GEq undef, GEq undef, GEq undef, GEq undef, GEq undef, GEq undef, GEq undef, GEq undef, GEq undef, GEq undef, GEq (.bool false), GEq (.bool false), GEq (.bool false), GEq (pt h 1), GEq (.string ⟨List.toArray f.2.1⟩), GEq (.bool (f.2.1 == ([] : List UInt8))), GEq (.bool (f.2.1 == ([] : List UInt8))), GEq (.bool (f.2.1 == ([] : List UInt8))), GEq (pt h 1), GEq (.string ⟨List.toArray f.2.1⟩), GEq (.int .i64 ((List.length f.2.1 : Nat) : Int)), GEq (.bool (decide (((List.length f.2.1 : Nat) : Int) > 32))), GEq (.bool (decide (((List.length f.2.1 : Nat) : Int) > 32))), GEq (.bool (decide (((List.length f.2.1 : Nat) : Int) > 32))), GEq undef, GEq undef, GEq undef, GEq (.bool true), GEq (.bool true), GEq undef, GEq undef, GEq undef, GEq (.bool true)] [2] (tG [] w0 [Qv q 44 #[(.string ⟨List.toArray b0⟩), (.int .i64 a5), (.int .i64 a6), (.slice A5 (List.length a4) c6), (.slice A9 (List.length u) a3)], Qv h 48 #[(.string ⟨List.toArray f.1⟩), (.string ⟨List.toArray f.2.1⟩), (.int .i64 f.2.2)]] [([], []), ([2], [(.bool s)])]) 41 1 ⟨trivial, SP.drew c1⟩ ?_ ?_
            iterate 41 refine And.intro ?_ ?_
            exact trivial
            ·exact oV (hC (hS 5 (pt h 0)) (h0)) (pt h 0)
            ·refine oL 0 ?_
             ·rintro ρ' w' hs hah ⟨ai3, v2⟩
              refine kM (kc (kA hah 0 68) k0) fun hkn => ?_
              refine sL 9 68 h 0 1 (.string ⟨List.toArray f.1⟩) 69 v2 rfl ?_
              exact eK hkn
            ·refine oH 0 1 ?_
             ·rintro ρ' w' hs hah ⟨ai4, v3⟩
              refine kM (kc (kA hah 1 69) k0) fun hkn => ?_
              refine cF 86 #[(.tmp 69)] #[9] 70 Tryz.call86 (Vn  f.1 w'  s c2) ?_
              rintro e ai5 ⟨rfl, k7⟩
              refine ⟨_, rfl, ?_⟩
              have v4 := SP.call v3 k7
              clear k7
              refine ⟨_, Qa hkn, rfl, ?_⟩
              exact (And.intro (And.intro rfl (trivial)) (v4))
            ·exact oV (hC (hA 2 70) (h0)) (.bool (!s))
            ·exact oV (hC (hA 3 71) (h0)) (.bool (!s))
            ·exact oV (hC (hS 4 (.int .i64 m)) (hC (hB 4 72 a2) (h0))) (.int .i64 m)
            ·exact oV (hC (hA 5 73) (hC (hB 4 72 a2) (h0))) (.bool (decide (m > 0)))
            ·exact oV (hC (hA 6 74) (hC (hB 4 72 a2) (h0))) (.bool (decide (m > 0)))
            ·exact oW (hC (hB 7 75 p) (h0)) 76
            ·exact oW (hC (hB 7 75 p) (h0)) 77
            ·exact oW (hC (hB 7 75 p) (h0)) 78
            ·exact oW (hC (hB 7 75 p) (h0)) 79
            ·exact oW (hC (hB 7 75 p) (h0)) 80
            ·exact oW (hC (hB 7 75 p) (h0)) 81
            ·exact oW (hC (hB 7 75 p) (h0)) 82
            ·exact oW (hC (hB 7 75 p) (h0)) 83
            ·exact oW (hC (hB 7 75 p) (h0)) 84
            ·exact oW (hC (hB 7 75 p) (h0)) 85
            ·exact oV (hC (hB 7 75 p) (hC (hA 17 85) (hC (hB 4 72 a2) (h0)))) (.bool false)
            ·exact oV (hC (hB 4 72 a2) (hC (hA 18 86) (h0))) (.bool false)
            ·exact oV (hC (hA 19 87) (h0)) (.bool false)
            ·exact oV (hC (hS 5 (pt h 0)) (hC (hA 20 88) (h0))) (pt h 1)
            ·refine oL 1 ?_
             ·rintro ρ' w' hs hah ⟨⟨ai6, -⟩, v5⟩
              refine kM (kc (kA hah 21 89) (kc (kA hah 20 88) k0)) fun hkn => ?_
              refine sL 9 89 h 1 1 (.string ⟨List.toArray f.2.1⟩) 90 v5 rfl ?_
              exact eK hkn
            ·refine oL 1 ?_
             ·rintro ρ' w' hs hah ⟨⟨ai7, -⟩, ai8⟩
              refine kM (kc (kA hah 22 90) (kc (kA hah 20 88) k0)) fun hkn => ?_
              refine Vt (op := .eql) (T := 9) (T' := 9) (x := (.tmp 90)) (y := (.const (.string ⟨List.toArray ([] : List UInt8)⟩))) (a := f.2.1) (b := ([] : List UInt8)) (r := (.bool (f.2.1 == ([] : List UInt8)))) (d := (some 91)) (k := 23) K rfl K K rfl ?_
              exact eK hkn
            ·exact oV (hC (hA 20 88) (hC (hA 23 91) (h0))) (.bool (f.2.1 == ([] : List UInt8)))
            ·exact oV (hC (hA 24 92) (h0)) (.bool (f.2.1 == ([] : List UInt8)))
            ·exact oV (hC (hS 5 (pt h 0)) (hC (hB 25 93 a9) (h0))) (pt h 1)
            ·refine oL 1 ?_
             ·rintro ρ' w' hs hah ⟨⟨ai9, -⟩, v6⟩
              have b7 := hah 26 94 K
              have b8 := hah 25 93 K
              refine kN [(94, (pt h 1)), (93, (.bool false))] ⟨b7, (Eq.trans b8 (congrArg Value.bool a9)), trivial⟩ fun hkn => ?_
              refine sL 9 94 h 1 1 (.string ⟨List.toArray f.2.1⟩) 95 v6 rfl ?_
              exact eK hkn
            ·exact oV (hC (hA 27 95) (hC (hB 25 93 a9) (h0))) (.int .i64 ((List.length f.2.1 : Nat) : Int))
            ·exact oV (hC (hA 28 96) (hC (hB 25 93 a9) (h0))) (.bool (decide (((List.length f.2.1 : Nat) : Int) > 32)))
            ·exact oV (hC (hB 25 93 a9) (hC (hA 29 97) (h0))) (.bool (decide (((List.length f.2.1 : Nat) : Int) > 32)))
            ·exact oV (hC (hA 30 98) (h0)) (.bool (decide (((List.length f.2.1 : Nat) : Int) > 32)))
            ·exact oW (hC (hB 31 99 b4) (h0)) 100
            ·exact oW (hC (hB 31 99 b4) (h0)) 101
            ·exact oW (hC (hB 31 99 b4) (h0)) 102
            ·exact oV (hC (hB 31 99 b4) (hC (hA 34 102) (h0))) (.bool true)
            ·exact oV (hC (hA 35 103) (h0)) (.bool true)
            ·exact oW (hC (hA 36 104) (h0)) 105
            ·exact oW (hC (hA 36 104) (h0)) 106
            ·exact oW (hC (hA 36 104) (h0)) 107
            ·exact oV (hC (hA 36 104) (hC (hA 39 107) (h0))) (.bool true)
            ·rintro ρ' w' hs hf ⟨⟨aj0, -⟩, k8⟩
             refine Q4 [(1, (pt q 0)), (4, (.int .i64 m)), (108, (.bool true))] ⟨(hs 1 K).trans K, (hs 4 K).trans K, hf 40 108 K, trivial⟩ ?_
             obtain ⟨aj1, v7⟩ : ∃ x, w' = x := ⟨_, rfl⟩
             rw [v7] at k8 ⊢
             exact ⟨true, ⟨K, K, K, trivial⟩, SP.sel k8 [0] rfl rfl, H⟩
           ·have H := cf H b4
            rcases Bool.eq_false_or_eq_true (decide (f.2.2 < 0)) with c0 | c0
            ·have H := ct H c0
             refine aG [GEq (pt h 0), GEq (.string ⟨List.toArray f.1⟩), GEq (.bool s), GEq (.bool (!s)), GEq (.bool (!s)), GEq (.int .i64 m), GEq (.bool (decide (m > 0))), GEq (.bool (decide (m > 0))), GEq undef, GEq undef, GEq undef, GEq undef, GEq undef, GEq undef, GEq undef, GEq undef, GEq undef, GEq undef, GEq (.bool false), GEq (.bool false), GEq (.bool false), GEq (pt h 1), GEq (.string ⟨List.toArray f.2.1⟩), GEq (.bool (f.2.1 == ([] : List UInt8))), GEq (.bool (f.2.1 == ([] : List UInt8))), GEq (.bool (f.2.1 == ([] : List UInt8))), GEq (pt h 1), GEq (.string ⟨List.toArray f.2.1⟩), GEq (.int .i64 ((List.length f.2.1 : Nat) : Int)), GEq (.bool (decide (((List.length f.2.1 : Nat) : Int) > 32))), GEq (.bool (decide (((List.length f.2.1 : Nat) : Int) > 32))), GEq (.bool (decide (((List.length f.2.1 : Nat) : Int) > 32))), GEq (pt h 2), GEq (.int .i64 f.2.2), GEq (.bool (decide (f.2.2 < 0))), GEq (.bool (decide (f.2.2 < 0))), GEq (.bool (decide (f.2.2 < 0))), GEq undef, GEq undef, GEq undef, GEq (.bool true)] [2] (tG [] w0 [Qv q 44 #[(.string ⟨List.toArray b0⟩), (.int .i64 a5), (.int .i64 a6), (.slice A5 (List.length a4) c6), (.slice A9 (List.length u) a3)], Qv h 48 #[(.string ⟨List.toArray f.1⟩), (.string ⟨List.toArray f.2.1⟩), (.int .i64 f.2.2)]] [([], []), ([2], [(.bool s)])]) 41 1 ⟨trivial, SP.drew c1⟩ ?_ ?_
             iterate 41 refine And.intro ?_ ?_
             exact trivial
             ·exact oV (hC (hS 5 (pt h 0)) (h0)) (pt h 0)
             ·refine oL 0 ?_
              ·rintro ρ' w' hs hah ⟨aj2, v8⟩
               refine kM (kc (kA hah 0 68) k0) fun hkn => ?_
               refine sL 9 68 h 0 1 (.string ⟨List.toArray f.1⟩) 69 v8 rfl ?_
               exact eK hkn
             ·refine oH 0 1 ?_
              ·rintro ρ' w' hs hah ⟨aj3, v9⟩
               refine kM (kc (kA hah 1 69) k0) fun hkn => ?_
               refine cF 86 #[(.tmp 69)] #[9] 70 Tryz.call86 (Vn  f.1 w'  s c2) ?_
               rintro e aj4 ⟨rfl, k9⟩
               refine ⟨_, rfl, ?_⟩
               have w1 := SP.call v9 k9
               clear k9
               refine ⟨_, Qa hkn, rfl, ?_⟩
               exact (And.intro (And.intro rfl (trivial)) (w1))
             ·exact oV (hC (hA 2 70) (h0)) (.bool (!s))
             ·exact oV (hC (hA 3 71) (h0)) (.bool (!s))
             ·exact oV (hC (hS 4 (.int .i64 m)) (hC (hB 4 72 a2) (h0))) (.int .i64 m)
             ·exact oV (hC (hA 5 73) (hC (hB 4 72 a2) (h0))) (.bool (decide (m > 0)))
             ·exact oV (hC (hA 6 74) (hC (hB 4 72 a2) (h0))) (.bool (decide (m > 0)))
             ·exact oW (hC (hB 7 75 p) (h0)) 76
             ·exact oW (hC (hB 7 75 p) (h0)) 77
             ·exact oW (hC (hB 7 75 p) (h0)) 78
             ·exact oW (hC (hB 7 75 p) (h0)) 79
             ·exact oW (hC (hB 7 75 p) (h0)) 80
             ·exact oW (hC (hB 7 75 p) (h0)) 81
             ·exact oW (hC (hB 7 75 p) (h0)) 82
             ·exact oW (hC (hB 7 75 p) (h0)) 83
             ·exact oW (hC (hB 7 75 p) (h0)) 84
             ·exact oW (hC (hB 7 75 p) (h0)) 85
             ·exact oV (hC (hB 7 75 p) (hC (hA 17 85) (hC (hB 4 72 a2) (h0)))) (.bool false)
             ·exact oV (hC (hB 4 72 a2) (hC (hA 18 86) (h0))) (.bool false)
             ·exact oV (hC (hA 19 87) (h0)) (.bool false)
             ·exact oV (hC (hS 5 (pt h 0)) (hC (hA 20 88) (h0))) (pt h 1)
             ·refine oL 1 ?_
              ·rintro ρ' w' hs hah ⟨⟨aj5, -⟩, w2⟩
               refine kM (kc (kA hah 21 89) (kc (kA hah 20 88) k0)) fun hkn => ?_
               refine sL 9 89 h 1 1 (.string ⟨List.toArray f.2.1⟩) 90 w2 rfl ?_
               exact eK hkn
             ·refine oL 1 ?_
              ·rintro ρ' w' hs hah ⟨⟨aj6, -⟩, aj7⟩
               refine kM (kc (kA hah 22 90) (kc (kA hah 20 88) k0)) fun hkn => ?_
               refine Vt (op := .eql) (T := 9) (T' := 9) (x := (.tmp 90)) (y := (.const (.string ⟨List.toArray ([] : List UInt8)⟩))) (a := f.2.1) (b := ([] : List UInt8)) (r := (.bool (f.2.1 == ([] : List UInt8)))) (d := (some 91)) (k := 23) K rfl K K rfl ?_
               exact eK hkn
             ·exact oV (hC (hA 20 88) (hC (hA 23 91) (h0))) (.bool (f.2.1 == ([] : List UInt8)))
             ·exact oV (hC (hA 24 92) (h0)) (.bool (f.2.1 == ([] : List UInt8)))
             ·exact oV (hC (hS 5 (pt h 0)) (hC (hB 25 93 a9) (h0))) (pt h 1)
             ·refine oL 1 ?_
              ·rintro ρ' w' hs hah ⟨⟨aj8, -⟩, w3⟩
               have b7 := hah 26 94 K
               have b8 := hah 25 93 K
               refine kN [(94, (pt h 1)), (93, (.bool false))] ⟨b7, (Eq.trans b8 (congrArg Value.bool a9)), trivial⟩ fun hkn => ?_
               refine sL 9 94 h 1 1 (.string ⟨List.toArray f.2.1⟩) 95 w3 rfl ?_
               exact eK hkn
             ·exact oV (hC (hA 27 95) (hC (hB 25 93 a9) (h0))) (.int .i64 ((List.length f.2.1 : Nat) : Int))
             ·exact oV (hC (hA 28 96) (hC (hB 25 93 a9) (h0))) (.bool (decide (((List.length f.2.1 : Nat) : Int) > 32)))
             ·exact oV (hC (hB 25 93 a9) (hC (hA 29 97) (h0))) (.bool (decide (((List.length f.2.1 : Nat) : Int) > 32)))
             ·exact oV (hC (hA 30 98) (h0)) (.bool (decide (((List.length f.2.1 : Nat) : Int) > 32)))
             ·exact oV (hC (hS 5 (pt h 0)) (hC (hB 31 99 b4) (h0))) (pt h 2)
             ·refine oL 1 ?_
              ·rintro ρ' w' hs hah ⟨⟨aj9, -⟩, w4⟩
               have d7 := hah 32 100 K
               have d8 := hah 31 99 K
               refine kN [(100, (pt h 2)), (99, (.bool false))] ⟨d7, (Eq.trans d8 (congrArg Value.bool b4)), trivial⟩ fun hkn => ?_
               refine sL 2 100 h 2 1 (.int .i64 f.2.2) 101 w4 rfl ?_
               exact eK hkn
             ·exact oV (hC (hA 33 101) (hC (hB 31 99 b4) (h0))) (.bool (decide (f.2.2 < 0)))
             ·exact oV (hC (hB 31 99 b4) (hC (hA 34 102) (h0))) (.bool (decide (f.2.2 < 0)))
             ·exact oV (hC (hA 35 103) (h0)) (.bool (decide (f.2.2 < 0)))
             ·exact oW (hC (hB 36 104 c0) (h0)) 105
             ·exact oW (hC (hB 36 104 c0) (h0)) 106
             ·exact oW (hC (hB 36 104 c0) (h0)) 107
             ·exact oV (hC (hB 36 104 c0) (hC (hA 39 107) (h0))) (.bool true)
             ·rintro ρ' w' hs hf ⟨⟨ak0, -⟩, l0⟩
              refine Q4 [(1, (pt q 0)), (4, (.int .i64 m)), (108, (.bool true))] ⟨(hs 1 K).trans K, (hs 4 K).trans K, hf 40 108 K, trivial⟩ ?_
              obtain ⟨ak1, w5⟩ : ∃ x, w' = x := ⟨_, rfl⟩
              rw [w5] at l0 ⊢
              exact ⟨true, ⟨K, K, K, trivial⟩, SP.sel l0 [0] rfl rfl, H⟩
            ·have H := cf H c0
             refine aG [GEq (pt h 0), GEq (.string ⟨List.toArray f.1⟩), GEq (.bool s), GEq (.bool (!s)), GEq (.bool (!s)), GEq (.int .i64 m), GEq (.bool (decide (m > 0))), GEq (.bool (decide (m > 0))), GEq undef, GEq undef, GEq undef, GEq undef, GEq undef, GEq undef, GEq undef, GEq undef, GEq undef, GEq undef, GEq (.bool false), GEq (.bool false), GEq (.bool false), GEq (pt h 1), GEq (.string ⟨List.toArray f.2.1⟩), GEq (.bool (f.2.1 == ([] : List UInt8))), GEq (.bool (f.2.1 == ([] : List UInt8))), GEq (.bool (f.2.1 == ([] : List UInt8))), GEq (pt h 1), GEq (.string ⟨List.toArray f.2.1⟩), GEq (.int .i64 ((List.length f.2.1 : Nat) : Int)), GEq (.bool (decide (((List.length f.2.1 : Nat) : Int) > 32))), GEq (.bool (decide (((List.length f.2.1 : Nat) : Int) > 32))), GEq (.bool (decide (((List.length f.2.1 : Nat) : Int) > 32))), GEq (pt h 2), GEq (.int .i64 f.2.2), GEq (.bool (decide (f.2.2 < 0))), GEq (.bool (decide (f.2.2 < 0))), GEq (.bool (decide (f.2.2 < 0))), GEq (pt h 2), GEq (.int .i64 f.2.2), GEq (.bool (decide (f.2.2 > 1099511627776))), GEq (.bool (decide (f.2.2 > 1099511627776)))] [2] (tG [] w0 [Qv q 44 #[(.string ⟨List.toArray b0⟩), (.int .i64 a5), (.int .i64 a6), (.slice A5 (List.length a4) c6), (.slice A9 (List.length u) a3)], Qv h 48 #[(.string ⟨List.toArray f.1⟩), (.string ⟨List.toArray f.2.1⟩), (.int .i64 f.2.2)]] [([], []), ([2], [(.bool s)])]) 41 1 ⟨trivial, SP.drew c1⟩ ?_ ?_
             iterate 41 refine And.intro ?_ ?_
             exact trivial
             ·exact oV (hC (hS 5 (pt h 0)) (h0)) (pt h 0)
             ·refine oL 0 ?_
              ·rintro ρ' w' hs hah ⟨ak2, w6⟩
               refine kM (kc (kA hah 0 68) k0) fun hkn => ?_
               refine sL 9 68 h 0 1 (.string ⟨List.toArray f.1⟩) 69 w6 rfl ?_
               exact eK hkn
             ·refine oH 0 1 ?_
              ·rintro ρ' w' hs hah ⟨ak3, w7⟩
               refine kM (kc (kA hah 1 69) k0) fun hkn => ?_
               refine cF 86 #[(.tmp 69)] #[9] 70 Tryz.call86 (Vn  f.1 w'  s c2) ?_
               rintro e ak4 ⟨rfl, l1⟩
               refine ⟨_, rfl, ?_⟩
               have w8 := SP.call w7 l1
               clear l1
               refine ⟨_, Qa hkn, rfl, ?_⟩
               exact (And.intro (And.intro rfl (trivial)) (w8))
             ·exact oV (hC (hA 2 70) (h0)) (.bool (!s))
             ·exact oV (hC (hA 3 71) (h0)) (.bool (!s))
             ·exact oV (hC (hS 4 (.int .i64 m)) (hC (hB 4 72 a2) (h0))) (.int .i64 m)
             ·exact oV (hC (hA 5 73) (hC (hB 4 72 a2) (h0))) (.bool (decide (m > 0)))
             ·exact oV (hC (hA 6 74) (hC (hB 4 72 a2) (h0))) (.bool (decide (m > 0)))
             ·exact oW (hC (hB 7 75 p) (h0)) 76
             ·exact oW (hC (hB 7 75 p) (h0)) 77
             ·exact oW (hC (hB 7 75 p) (h0)) 78
             ·exact oW (hC (hB 7 75 p) (h0)) 79
             ·exact oW (hC (hB 7 75 p) (h0)) 80
             ·exact oW (hC (hB 7 75 p) (h0)) 81
             ·exact oW (hC (hB 7 75 p) (h0)) 82
             ·exact oW (hC (hB 7 75 p) (h0)) 83
             ·exact oW (hC (hB 7 75 p) (h0)) 84
             ·exact oW (hC (hB 7 75 p) (h0)) 85
             ·exact oV (hC (hB 7 75 p) (hC (hA 17 85) (hC (hB 4 72 a2) (h0)))) (.bool false)
             ·exact oV (hC (hB 4 72 a2) (hC (hA 18 86) (h0))) (.bool false)
             ·exact oV (hC (hA 19 87) (h0)) (.bool false)
             ·exact oV (hC (hS 5 (pt h 0)) (hC (hA 20 88) (h0))) (pt h 1)
             ·refine oL 1 ?_
              ·rintro ρ' w' hs hah ⟨⟨ak5, -⟩, w9⟩
               refine kM (kc (kA hah 21 89) (kc (kA hah 20 88) k0)) fun hkn => ?_
               refine sL 9 89 h 1 1 (.string ⟨List.toArray f.2.1⟩) 90 w9 rfl ?_
               exact eK hkn
             ·refine oL 1 ?_
              ·rintro ρ' w' hs hah ⟨⟨ak6, -⟩, ak7⟩
               refine kM (kc (kA hah 22 90) (kc (kA hah 20 88) k0)) fun hkn => ?_
               refine Vt (op := .eql) (T := 9) (T' := 9) (x := (.tmp 90)) (y := (.const (.string ⟨List.toArray ([] : List UInt8)⟩))) (a := f.2.1) (b := ([] : List UInt8)) (r := (.bool (f.2.1 == ([] : List UInt8)))) (d := (some 91)) (k := 23) K rfl K K rfl ?_
               exact eK hkn
             ·exact oV (hC (hA 20 88) (hC (hA 23 91) (h0))) (.bool (f.2.1 == ([] : List UInt8)))
             ·exact oV (hC (hA 24 92) (h0)) (.bool (f.2.1 == ([] : List UInt8)))
             ·exact oV (hC (hS 5 (pt h 0)) (hC (hB 25 93 a9) (h0))) (pt h 1)
             ·refine oL 1 ?_
              ·rintro ρ' w' hs hah ⟨⟨ak8, -⟩, x0⟩
               have b7 := hah 26 94 K
               have b8 := hah 25 93 K
               refine kN [(94, (pt h 1)), (93, (.bool false))] ⟨b7, (Eq.trans b8 (congrArg Value.bool a9)), trivial⟩ fun hkn => ?_
               refine sL 9 94 h 1 1 (.string ⟨List.toArray f.2.1⟩) 95 x0 rfl ?_
               exact eK hkn
             ·exact oV (hC (hA 27 95) (hC (hB 25 93 a9) (h0))) (.int .i64 ((List.length f.2.1 : Nat) : Int))
             ·exact oV (hC (hA 28 96) (hC (hB 25 93 a9) (h0))) (.bool (decide (((List.length f.2.1 : Nat) : Int) > 32)))
             ·exact oV (hC (hB 25 93 a9) (hC (hA 29 97) (h0))) (.bool (decide (((List.length f.2.1 : Nat) : Int) > 32)))
             ·exact oV (hC (hA 30 98) (h0)) (.bool (decide (((List.length f.2.1 : Nat) : Int) > 32)))
             ·exact oV (hC (hS 5 (pt h 0)) (hC (hB 31 99 b4) (h0))) (pt h 2)
             ·refine oL 1 ?_
              ·rintro ρ' w' hs hah ⟨⟨ak9, -⟩, x1⟩
               have d7 := hah 32 100 K
               have d8 := hah 31 99 K
               refine kN [(100, (pt h 2)), (99, (.bool false))] ⟨d7, (Eq.trans d8 (congrArg Value.bool b4)), trivial⟩ fun hkn => ?_
               refine sL 2 100 h 2 1 (.int .i64 f.2.2) 101 x1 rfl ?_
               exact eK hkn
             ·exact oV (hC (hA 33 101) (hC (hB 31 99 b4) (h0))) (.bool (decide (f.2.2 < 0)))
             ·exact oV (hC (hB 31 99 b4) (hC (hA 34 102) (h0))) (.bool (decide (f.2.2 < 0)))
             ·exact oV (hC (hA 35 103) (h0)) (.bool (decide (f.2.2 < 0)))
             ·exact oV (hC (hS 5 (pt h 0)) (hC (hB 36 104 c0) (h0))) (pt h 2)
             ·refine oL 1 ?_
              ·rintro ρ' w' hs hah ⟨⟨al0, -⟩, x2⟩
               have g8 := hah 37 105 K
               have g9 := hah 36 104 K
               refine kN [(105, (pt h 2)), (104, (.bool false))] ⟨g8, (Eq.trans g9 (congrArg Value.bool c0)), trivial⟩ fun hkn => ?_
               refine sL 2 105 h 2 1 (.int .i64 f.2.2) 106 x2 rfl ?_
               exact eK hkn
             ·exact oV (hC (hA 38 106) (hC (hB 36 104 c0) (h0))) (.bool (decide (f.2.2 > 1099511627776)))
             ·exact oV (hC (hB 36 104 c0) (hC (hA 39 107) (h0))) (.bool (decide (f.2.2 > 1099511627776)))
             ·rintro ρ' w' hs hf ⟨⟨al1, -⟩, l2⟩
              refine Q4 [(1, (pt q 0)), (4, (.int .i64 m)), (108, (.bool (decide (f.2.2 > 1099511627776))))] ⟨(hs 1 K).trans K, (hs 4 K).trans K, hf 40 108 K, trivial⟩ ?_
              obtain ⟨al2, x3⟩ : ∃ x, w' = x := ⟨_, rfl⟩
              rw [x3] at l2 ⊢
              exact ⟨(decide (f.2.2 > 1099511627776)), ⟨K, K, K, trivial⟩, SP.sel l2 [0] rfl rfl, H⟩
       ·rintro ρ al3 ⟨e2, hk, l3, H⟩
        unfold Q0 at H
        first | refine At.known [(1, (pt q 0)), (4, (.int .i64 m)), (108, (.bool e2))] hk ?_ | rw [← Qz (l := [(1, (pt q 0)), (4, (.int .i64 m)), (108, (.bool e2))]) hk]
        refine Zk K (o := (.tmp 108)) K (b := e2) K (fun h1 => ?_) (fun h1 => ?_)
        ·have H := ct H h1
         refine aQ ?_
         refine aR ?_
         refine iR 1 1 [(2, (.bool false))] ?_
         refine iF ?_
         refine At.ret K ?_
         refine ⟨(.bool false), K, ?_⟩
         obtain rfl := Qh H
         exact ⟨rfl, SP.sel l3 [] rfl rfl⟩
        ·have H := cf H h1
         refine At.skip K ?_
         refine aR ?_
         refine iR 3 3 [(61, (.int .i64 m)), (62, (.int .i64 (IntKind.wrap .i64 (m + 1)))), (4, (.int .i64 (IntKind.wrap .i64 (m + 1))))] ?_
         refine iF ?_
         exact ⟨(IntKind.wrap .i64 (m + 1)), ⟨K, K, trivial⟩, SP.sel l3 [0] rfl rfl, H⟩
      ·have H := cf H f7
       refine At.exit K (id := 2) K ?_
       refine aQ ?_
       refine aR ?_
       refine iR 1 1 [(2, (.bool true))] ?_
       refine iF ?_
       refine At.ret K ?_
       refine ⟨(.bool true), K, ?_⟩
       obtain rfl := Qh H
       exact ⟨rfl, SP.sel e1 [] rfl rfl⟩
     ·exact ⟨0, ⟨K, K, trivial⟩, SP.sel e0 [0] rfl rfl, H⟩
   ·exact ⟨0, ⟨K, K, trivial⟩, SP.sel h5 [0] rfl rfl, H⟩
def Jq (v3 : Bool) : Option (Bool) :=
  (some (v3))
def Yi (p1 : Int) : Option (Bool) :=
  (cond (decide (p1 ≥ 1)) (Jq (decide (p1 ≤ 1073741824))) (Jq false))
set_option maxRecDepth 100000 in
set_option maxHeartbeats 4000000 in
theorem Ub  (p1 : Int) (w0 : World)  (r : (Bool)) (H : Yi p1 = some r) :
  Calls Tryz.prog 66 #[(.int .i64 p1)] w0 (fun e w' => e = .returned (.bool r) ∧ SP [] w0 w' []) := by
 unfold Yi at H
 refine Qu (n := 9) Tryz.func66 K K K ?_
 have c := Q1 [] w0
 refine aQ ?_
 refine aR ?_
 refine iR 1 1 [(2, (.bool false))] ?_
 refine iF ?_
 refine aQ ?_
 refine At.join (fun ρ w => ∃ (v3 : Bool), V3 ρ [(2, (.bool v3))] ∧ SP [] w0 w [] ∧ Jq v3 = some r) ?_ ?_
 ·refine aR ?_
  refine iR 3 3 [(3, (.int .i64 p1)), (4, (.bool (decide (p1 ≥ 1)))), (5, (.bool (decide (p1 ≥ 1))))] ?_
  refine In.guard (t := 5) (b := (decide (p1 ≥ 1))) K (fun a => ?_) (fun a => ?_)
  ·have H := ct H a
   refine iR 4 7 [(6, (.int .i64 p1)), (7, (.bool (decide (p1 ≤ 1073741824)))), (8, (.bool (decide (p1 ≤ 1073741824)))), (2, (.bool (decide (p1 ≤ 1073741824))))] ?_
   refine iF ?_
   exact ⟨(decide (p1 ≤ 1073741824)), ⟨K, trivial⟩, SP.sel c [] rfl rfl, H⟩
  ·have H := cf H a
   refine iR 4 7 [(6, undef), (7, undef), (8, (.bool false)), (2, (.bool false))] ?_
   refine iF ?_
   exact ⟨false, ⟨K, trivial⟩, SP.sel c [] rfl rfl, H⟩
 ·rintro ρ w4 ⟨v3, hk, d, H⟩
  unfold Jq at H
  first | refine At.known [(2, (.bool v3))] hk ?_ | rw [← Qz (l := [(2, (.bool v3))]) hk]
  refine At.ret K ?_
  refine ⟨(.bool v3), K, ?_⟩
  obtain rfl := Qh H
  exact ⟨rfl, SP.sel d [] rfl rfl⟩
def Yn (a : Int → Option (Bool)) (b : Int) (c : Bool) : Option (Bool) :=
  (cond c (some (false)) (a (IntKind.wrap .i64 (b + 1))))
def Zy (b : Int → Option (Bool)) (a : Bool) : Option (Bool) :=
  (some (a))
def Xl (a : Int → Option (Bool)) (e : Int) (f : Int) (g : Int) (h : Int) (c : (List Qi)) (b : Int) : Option (Bool) :=
  (cond (decide (b < ((List.length c : Nat) : Int))) ((idx c b).bind fun d => ((Yq d.1 d.2.1 d.2.2.1 d.2.2.2.1 d.2.2.2.2).bind fun i => (cond (!i) (Yn a b true) (cond (decide (b > 0)) ((idx c (IntKind.wrap .i64 (b - 1))).bind fun j => ((idx c b).bind fun k => (Yn a b (!(Op.bytesLess j.1 k.1))))) (Yn a b false))))) ((Yi e).bind fun l => (cond l ((Yi f).bind fun m => (cond m ((Yi g).bind fun n => (cond n ((Yi h).bind fun o => (cond o (Zy a (decide (((List.length c : Nat) : Int) ≤ 8))) (Zy a false))) (Zy a false))) (Zy a false))) (Zy a false))))
def Zp (a : Int) (b : Int) (c : Int) (d : Int) (e : (List Qi)) : Nat → Int → Option (Bool)
  | 0, _ => none
  | f + 1, g => Xl  (Zp a b c d e f) a b c d e g
def Um (a : Int) (b : Int) (c : Int) (d : Int) (e : (List Qi)) : Option (Bool) :=
  (Zp a b c d e Zj 0)
set_option maxRecDepth 100000 in
set_option maxHeartbeats 4000000 in
theorem D8 (A6 : Option Addr) (c7 : Nat) (u : Int) (z : Int) (a0 : Int) (a1 : Int) (d9 : (List Vl)) (w0 : World) (s : (dDS Ua Eh).ok w0 (A6, c7, d9)) (r : (Bool)) (H : Um u z a0 a1 (List.map stT d9) = some r) :
  Calls Tryz.prog 44 #[(.agg #[(.int .i64 u), (.int .i64 z), (.int .i64 a0), (.int .i64 a1), (.slice A6 (List.length (List.map stT d9)) c7)])] w0 (fun e w' => e = .returned (.bool r) ∧ SP [] w0 w' []) := by
 unfold Um at H
 refine Qu (n := 62) Tryz.func44 K K K ?_
 have f4 := Q1 [] w0
 refine aQ ?_
 refine aR ?_
 refine iS 1 ?_
 refine V6 (t := 24) (x := (.tmp 0)) (v := (.agg #[(.int .i64 u), (.int .i64 z), (.int .i64 a0), (.int .i64 a1), (.slice A6 (List.length (List.map stT d9)) c7)])) (d := (some 1)) (k := 0) K rfl K f4 ?_
 intro h n1 f6
 refine iR 1 2 [(2, (.bool false))] ?_
 refine iF ?_
 refine aQ ?_
 refine aQ ?_
 refine aR ?_
 refine iR 1 1 [(3, (.int .i64 0))] ?_
 refine iF ?_
 refine Z1 K (id := 0) K ?_
 refine Nf K (fun f5 ρ w => ∃ (g : Int), V3 ρ [(1, (pt h 0)), (3, (.int .i64 g))] ∧ SP [] w0 w [Qv h 24 #[(.int .i64 u), (.int .i64 z), (.int .i64 a0), (.int .i64 a1), (.slice A6 (List.length (List.map stT d9)) c7)]] ∧ Zp u z a0 a1 (List.map stT d9) f5 g = some r) (by rintro ρ w ⟨g, hk, hs, H⟩; cases H) ?_ Zj ?_
 ·rintro f5 ρ f7 ⟨g, hk, a5, H⟩
  refine At.known [(1, (pt h 0)), (3, (.int .i64 g))] hk ?_
  replace H := (show Xl (Zp u z a0 a1 (List.map stT d9) f5) u z a0 a1 (List.map stT d9) g = some r from H)
  unfold Xl at H
  refine aQ ?_
  refine aQ ?_
  refine aR ?_
  refine iR 2 2 [(4, (.int .i64 g)), (5, (pt h 4))] ?_
  refine iS 3 ?_
  refine sL 22 5 h 4 0 (.slice A6 (List.length (List.map stT d9)) c7) 6 a5 rfl ?_
  refine iR 2 5 [(7, (.int .i64 ((List.length (List.map stT d9) : Nat) : Int))), (8, (.bool (decide (g < ((List.length (List.map stT d9) : Nat) : Int)))))] ?_
  refine iF ?_
  refine Zk K (o := (.tmp 8)) K (b := (decide (g < ((List.length (List.map stT d9) : Nat) : Int)))) K (fun b4 => ?_) (fun b4 => ?_)
  ·have H := ct H b4
   refine At.skip K ?_
   refine aQ ?_
   refine Z1 K (id := 1) K ?_
   refine aQ ?_
   refine At.join (fun ρ w => ∃ (a6 : Bool), V3 ρ [(1, (pt h 0)), (3, (.int .i64 g)), (37, (.bool a6))] ∧ SP [] w0 w [Qv h 24 #[(.int .i64 u), (.int .i64 z), (.int .i64 a0), (.int .i64 a1), (.slice A6 (List.length (List.map stT d9)) c7)]] ∧ Yn (Zp u z a0 a1 (List.map stT d9) f5) g a6 = some r) ?_ ?_
   ·obtain ⟨f, a7, a8, a4, H⟩ := G1 H
    obtain ⟨m, b5, H⟩ := Qe H
    rcases Bool.eq_false_or_eq_true (!m) with p | p
    ·have H := ct H p
     refine aG [GEq (pt h 4), GEq (.slice A6 (List.length (List.map stT d9)) c7), GEq (.int .i64 g), Vi A6 Ua.sz g, GEq (.agg #[(.string ⟨List.toArray (stT f).1⟩), (.int .i64 (stT f).2.1), (.int .i64 (stT f).2.2.1), (.slice f.2.2.2.1.1 (List.length (stT f).2.2.2.1) f.2.2.2.1.2.1), (.slice f.2.2.2.2.1 (List.length (stT f).2.2.2.2) f.2.2.2.2.2.1)]), GEq (.bool m), GEq (.bool (!m)), GEq (.bool (!m)), GEq undef, GEq undef, GEq undef, GEq undef, GEq undef, GEq undef, GEq undef, GEq undef, GEq undef, GEq undef, GEq undef, GEq undef, GEq undef, GEq undef, GEq undef, GEq undef, GEq undef, GEq undef, GEq (.bool true)] [5] (tG [] w0 [Qv h 24 #[(.int .i64 u), (.int .i64 z), (.int .i64 a0), (.int .i64 a1), (.slice A6 (List.length (List.map stT d9)) c7)]] [([], []), ([5], [(.bool m)])]) 27 1 ⟨trivial, SP.drew a5⟩ ?_ ?_
     iterate 27 refine And.intro ?_ ?_
     exact trivial
     ·exact oV (hC (hS 1 (pt h 0)) (h0)) (pt h 4)
     ·refine oL 0 ?_
      ·rintro ρ' w' hs hah ⟨n2, f8⟩
       refine kM (kc (kA hah 0 11) k0) fun hkn => ?_
       refine sL 22 11 h 4 0 (.slice A6 (List.length (List.map stT d9)) c7) 12 f8 rfl ?_
       exact eK hkn
     ·exact oV (hC (hS 3 (.int .i64 g)) (h0)) (.int .i64 g)
     ·refine oL 0 ?_
      ·rintro ρ' w' hs hah ⟨n3, f9⟩
       refine kM (kc (kA hah 1 12) (kc (kA hah 2 13) k0)) fun hkn => ?_
       refine Ug stT (e := Ua) (l := d9) (A := A6) (c := c7) (T := 22) (E := 44) (x := (.tmp 12)) (ix := (.tmp 13)) (ki := .i64) (iz := g) (d := (some 14)) (k := 3) K rfl K K K K (RdT.sp (Ut s) f9) a7 a8 ?_
       intro g0 g1 g2 n4 hc1033
       exact ⟨rfl, _, Qa hkn, ⟨g0, g1, g2, rfl⟩⟩
     ·refine oL 0 ?_
      ·rintro ρ' w' hs hah ⟨n5, g3⟩
       obtain ⟨g4, g5, g6, b0⟩ := hah 3 14 K
       refine kM (kc b0 k0) fun hkn => ?_
       refine Qk.cells (t := 44) (x := (.tmp 14)) (b := g4) (off := (g5 + Int.toNat g * Ua.sz)) (xs := [(.string ⟨List.toArray (stT f).1⟩), (.int .i64 (stT f).2.1), (.int .i64 (stT f).2.2.1), (.slice f.2.2.2.1.1 (List.length (stT f).2.2.2.1) f.2.2.2.1.2.1), (.slice f.2.2.2.2.1 (List.length (stT f).2.2.2.2) f.2.2.2.2.2.1)]) (d := (some 15)) (k := 4) K rfl K K K (Z2 (e := Ua) (Qg (RdT.sp (Ut s) g3) g6 a7 a8) a4 rfl) ?_
       exact eK hkn
     ·refine oH 0 1 ?_
      ·rintro ρ' w' hs hah ⟨n6, b6⟩
       refine kM (kc (kA hah 4 15) k0) fun hkn => ?_
       refine cF 65 #[(.tmp 15)] #[44] 16 Tryz.call65 (Jp f.2.2.2.1.1 f.2.2.2.1.2.1 f.2.2.2.2.1 f.2.2.2.2.2.1 (stT f).1 (stT f).2.1 (stT f).2.2.1 (stT f).2.2.2.1 (stT f).2.2.2.2 w' (RdT.sp (Ut (dp1 (dp2 (dp2 (dp2 (D7 s a4)))))) b6) (RdT.sp (Ut (dp2 (dp2 (dp2 (dp2 (D7 s a4)))))) b6) m b5) ?_
       rintro e n7 ⟨rfl, d4⟩
       refine ⟨_, rfl, ?_⟩
       have g7 := SP.call b6 d4
       clear d4
       refine ⟨_, Qa hkn, rfl, ?_⟩
       exact (And.intro (And.intro rfl (trivial)) (g7))
     ·exact oV (hC (hA 5 16) (h0)) (.bool (!m))
     ·exact oV (hC (hA 6 17) (h0)) (.bool (!m))
     ·exact oW (hC (hB 7 18 p) (h0)) 19
     ·exact oW (hC (hB 7 18 p) (h0)) 20
     ·exact oW (hC (hB 7 18 p) (h0)) 21
     ·exact oW (hC (hA 10 21) (h0)) 22
     ·exact oW (hC (hA 10 21) (h0)) 23
     ·exact oW (hC (hA 10 21) (h0)) 24
     ·exact oW (hC (hA 10 21) (h0)) 25
     ·exact oW (hC (hA 10 21) (h0)) 26
     ·exact oW (hC (hA 10 21) (h0)) 27
     ·exact oW (hC (hA 10 21) (h0)) 28
     ·exact oW (hC (hA 10 21) (h0)) 29
     ·exact oW (hC (hA 10 21) (h0)) 30
     ·exact oW (hC (hA 10 21) (h0)) 31
     ·exact oW (hC (hA 10 21) (h0)) 32
     ·exact oW (hC (hA 10 21) (h0)) 33
     ·exact oW (hC (hA 10 21) (h0)) 34
     ·exact oW (hC (hA 10 21) (h0)) 35
     ·exact oW (hC (hB 7 18 p) (h0)) 36
     ·exact oV (hC (hB 7 18 p) (hC (hA 25 36) (h0))) (.bool true)
     ·rintro ρ' w' hs hf ⟨⟨n8, -⟩, d5⟩
      refine Q4 [(1, (pt h 0)), (3, (.int .i64 g)), (37, (.bool true))] ⟨(hs 1 K).trans K, (hs 3 K).trans K, hf 26 37 K, trivial⟩ ?_
      obtain ⟨n9, g8⟩ : ∃ x, w' = x := ⟨_, rfl⟩
      rw [g8] at d5 ⊢
      exact ⟨true, ⟨K, K, K, trivial⟩, SP.sel d5 [0] rfl rfl, H⟩
    ·have H := cf H p
     rcases Bool.eq_false_or_eq_true (decide (g > 0)) with i | i
     ·have H := ct H i
      obtain ⟨a2, d6, d7, g9, H⟩ := G1 H
      obtain ⟨a3, d8, e0, h1, H⟩ := G1 H
      refine aG [GEq (pt h 4), GEq (.slice A6 (List.length (List.map stT d9)) c7), GEq (.int .i64 g), Vi A6 Ua.sz g, GEq (.agg #[(.string ⟨List.toArray (stT f).1⟩), (.int .i64 (stT f).2.1), (.int .i64 (stT f).2.2.1), (.slice f.2.2.2.1.1 (List.length (stT f).2.2.2.1) f.2.2.2.1.2.1), (.slice f.2.2.2.2.1 (List.length (stT f).2.2.2.2) f.2.2.2.2.2.1)]), GEq (.bool m), GEq (.bool (!m)), GEq (.bool (!m)), GEq (.int .i64 g), GEq (.bool (decide (g > 0))), GEq (.bool (decide (g > 0))), GEq (pt h 4), GEq (.slice A6 (List.length (List.map stT d9)) c7), GEq (.int .i64 g), GEq (.int .i64 (IntKind.wrap .i64 (g - 1))), Vi A6 Ua.sz (IntKind.wrap .i64 (g - 1)), Vi A6 Ua.sz (IntKind.wrap .i64 (g - 1)), GEq (.string ⟨List.toArray (stT a2).1⟩), GEq (pt h 4), GEq (.slice A6 (List.length (List.map stT d9)) c7), GEq (.int .i64 g), Vi A6 Ua.sz g, Vi A6 Ua.sz g, GEq (.string ⟨List.toArray (stT a3).1⟩), GEq (.bool (!(Op.bytesLess (stT a2).1 (stT a3).1))), GEq (.bool (!(Op.bytesLess (stT a2).1 (stT a3).1))), GEq (.bool (!(Op.bytesLess (stT a2).1 (stT a3).1)))] [5] (tG [] w0 [Qv h 24 #[(.int .i64 u), (.int .i64 z), (.int .i64 a0), (.int .i64 a1), (.slice A6 (List.length (List.map stT d9)) c7)]] [([], []), ([5], [(.bool m)])]) 27 1 ⟨trivial, SP.drew a5⟩ ?_ ?_
      iterate 27 refine And.intro ?_ ?_
      exact trivial
      ·exact oV (hC (hS 1 (pt h 0)) (h0)) (pt h 4)
      ·refine oL 0 ?_
       ·rintro ρ' w' hs hah ⟨o0, h2⟩
        refine kM (kc (kA hah 0 11) k0) fun hkn => ?_
        refine sL 22 11 h 4 0 (.slice A6 (List.length (List.map stT d9)) c7) 12 h2 rfl ?_
        exact eK hkn
      ·exact oV (hC (hS 3 (.int .i64 g)) (h0)) (.int .i64 g)
      ·refine oL 0 ?_
       ·rintro ρ' w' hs hah ⟨o1, h3⟩
        refine kM (kc (kA hah 1 12) (kc (kA hah 2 13) k0)) fun hkn => ?_
        refine Ug stT (e := Ua) (l := d9) (A := A6) (c := c7) (T := 22) (E := 44) (x := (.tmp 12)) (ix := (.tmp 13)) (ki := .i64) (iz := g) (d := (some 14)) (k := 3) K rfl K K K K (RdT.sp (Ut s) h3) a7 a8 ?_
        intro h4 h5 h6 o2 hc1082
        exact ⟨rfl, _, Qa hkn, ⟨h4, h5, h6, rfl⟩⟩
      ·refine oL 0 ?_
       ·rintro ρ' w' hs hah ⟨o3, h7⟩
        obtain ⟨h8, h9, i0, b0⟩ := hah 3 14 K
        refine kM (kc b0 k0) fun hkn => ?_
        refine Qk.cells (t := 44) (x := (.tmp 14)) (b := h8) (off := (h9 + Int.toNat g * Ua.sz)) (xs := [(.string ⟨List.toArray (stT f).1⟩), (.int .i64 (stT f).2.1), (.int .i64 (stT f).2.2.1), (.slice f.2.2.2.1.1 (List.length (stT f).2.2.2.1) f.2.2.2.1.2.1), (.slice f.2.2.2.2.1 (List.length (stT f).2.2.2.2) f.2.2.2.2.2.1)]) (d := (some 15)) (k := 4) K rfl K K K (Z2 (e := Ua) (Qg (RdT.sp (Ut s) h7) i0 a7 a8) a4 rfl) ?_
        exact eK hkn
      ·refine oH 0 1 ?_
       ·rintro ρ' w' hs hah ⟨o4, b7⟩
        refine kM (kc (kA hah 4 15) k0) fun hkn => ?_
        refine cF 65 #[(.tmp 15)] #[44] 16 Tryz.call65 (Jp f.2.2.2.1.1 f.2.2.2.1.2.1 f.2.2.2.2.1 f.2.2.2.2.2.1 (stT f).1 (stT f).2.1 (stT f).2.2.1 (stT f).2.2.2.1 (stT f).2.2.2.2 w' (RdT.sp (Ut (dp1 (dp2 (dp2 (dp2 (D7 s a4)))))) b7) (RdT.sp (Ut (dp2 (dp2 (dp2 (dp2 (D7 s a4)))))) b7) m b5) ?_
        rintro e o5 ⟨rfl, e1⟩
        refine ⟨_, rfl, ?_⟩
        have i1 := SP.call b7 e1
        clear e1
        refine ⟨_, Qa hkn, rfl, ?_⟩
        exact (And.intro (And.intro rfl (trivial)) (i1))
      ·exact oV (hC (hA 5 16) (h0)) (.bool (!m))
      ·exact oV (hC (hA 6 17) (h0)) (.bool (!m))
      ·exact oV (hC (hS 3 (.int .i64 g)) (hC (hB 7 18 p) (h0))) (.int .i64 g)
      ·exact oV (hC (hA 8 19) (hC (hB 7 18 p) (h0))) (.bool (decide (g > 0)))
      ·exact oV (hC (hA 9 20) (hC (hB 7 18 p) (h0))) (.bool (decide (g > 0)))
      ·exact oV (hC (hS 1 (pt h 0)) (hC (hB 10 21 i) (h0))) (pt h 4)
      ·refine oL 1 ?_
       ·rintro ρ' w' hs hah ⟨⟨o6, -⟩, i2⟩
        have i3 := hah 11 22 K
        have q := hah 10 21 K
        refine kN [(22, (pt h 4)), (21, (.bool true))] ⟨i3, (Eq.trans q (congrArg Value.bool i)), trivial⟩ fun hkn => ?_
        refine sL 22 22 h 4 0 (.slice A6 (List.length (List.map stT d9)) c7) 23 i2 rfl ?_
        exact eK hkn
      ·exact oV (hC (hS 3 (.int .i64 g)) (hC (hB 10 21 i) (h0))) (.int .i64 g)
      ·exact oV (hC (hA 13 24) (hC (hB 10 21 i) (h0))) (.int .i64 (IntKind.wrap .i64 (g - 1)))
      ·refine oL 1 ?_
       ·rintro ρ' w' hs hah ⟨⟨o7, -⟩, i4⟩
        have i5 := hah 12 23 K
        have i6 := hah 14 25 K
        have q := hah 10 21 K
        refine kN [(23, (.slice A6 (List.length (List.map stT d9)) c7)), (25, (.int .i64 (IntKind.wrap .i64 (g - 1)))), (21, (.bool true))] ⟨i5, i6, (Eq.trans q (congrArg Value.bool i)), trivial⟩ fun hkn => ?_
        refine Ug stT (e := Ua) (l := d9) (A := A6) (c := c7) (T := 22) (E := 44) (x := (.tmp 23)) (ix := (.tmp 25)) (ki := .i64) (iz := (IntKind.wrap .i64 (g - 1))) (d := (some 26)) (k := 15) K rfl K K K K (RdT.sp (Ut s) i4) d6 d7 ?_
        intro i7 i8 i9 o8 hc1104
        exact ⟨rfl, _, Qa hkn, ⟨i7, i8, i9, rfl⟩⟩
      ·refine oL 1 ?_
       ·rintro ρ' w' hs hah ⟨⟨o9, -⟩, p0⟩
        obtain ⟨b8, b9, j0, j1⟩ := hah 15 26 K
        have q := hah 10 21 K
        refine kN [(26, (.pointer (some ⟨b8, (b9 + Int.toNat (IntKind.wrap .i64 (g - 1)) * Ua.sz), none⟩))), (21, (.bool true))] ⟨j1, (Eq.trans q (congrArg Value.bool i)), trivial⟩ fun hkn => ?_
        refine Qk.run (k := 16) (v := (.pointer (some ⟨b8, (b9 + Int.toNat (IntKind.wrap .i64 (g - 1)) * Ua.sz), none⟩))) K ?_
        exact ⟨rfl, _, Qa hkn, ⟨b8, b9, j0, rfl⟩⟩
      ·refine oL 1 ?_
       ·rintro ρ' w' hs hah ⟨⟨p1, -⟩, j2⟩
        obtain ⟨e2, e3, j3, j4⟩ := hah 16 27 K
        have q := hah 10 21 K
        refine kN [(27, (.pointer (some ⟨e2, (e3 + Int.toNat (IntKind.wrap .i64 (g - 1)) * Ua.sz), none⟩))), (21, (.bool true))] ⟨j4, (Eq.trans q (congrArg Value.bool i)), trivial⟩ fun hkn => ?_
        refine sC 9 27 e2 (e3 + Int.toNat (IntKind.wrap .i64 (g - 1)) * Ua.sz) (.string ⟨List.toArray (stT a2).1⟩) 28 (Qj (e := Ua) (Qg (RdT.sp (Ut s) j2) j3 d6 d7) g9 (j := 0) rfl) ?_
        exact eK hkn
      ·exact oV (hC (hS 1 (pt h 0)) (hC (hB 10 21 i) (h0))) (pt h 4)
      ·refine oL 1 ?_
       ·rintro ρ' w' hs hah ⟨⟨p2, -⟩, j5⟩
        have j6 := hah 18 29 K
        have q := hah 10 21 K
        refine kN [(29, (pt h 4)), (21, (.bool true))] ⟨j6, (Eq.trans q (congrArg Value.bool i)), trivial⟩ fun hkn => ?_
        refine sL 22 29 h 4 0 (.slice A6 (List.length (List.map stT d9)) c7) 30 j5 rfl ?_
        exact eK hkn
      ·exact oV (hC (hS 3 (.int .i64 g)) (hC (hB 10 21 i) (h0))) (.int .i64 g)
      ·refine oL 1 ?_
       ·rintro ρ' w' hs hah ⟨⟨p3, -⟩, j7⟩
        have j8 := hah 19 30 K
        have j9 := hah 20 31 K
        have q := hah 10 21 K
        refine kN [(30, (.slice A6 (List.length (List.map stT d9)) c7)), (31, (.int .i64 g)), (21, (.bool true))] ⟨j8, j9, (Eq.trans q (congrArg Value.bool i)), trivial⟩ fun hkn => ?_
        refine Ug stT (e := Ua) (l := d9) (A := A6) (c := c7) (T := 22) (E := 44) (x := (.tmp 30)) (ix := (.tmp 31)) (ki := .i64) (iz := g) (d := (some 32)) (k := 21) K rfl K K K K (RdT.sp (Ut s) j7) d8 e0 ?_
        intro k1 k2 k3 p4 hc1127
        exact ⟨rfl, _, Qa hkn, ⟨k1, k2, k3, rfl⟩⟩
      ·refine oL 1 ?_
       ·rintro ρ' w' hs hah ⟨⟨p5, -⟩, p6⟩
        obtain ⟨c0, c1, k4, k5⟩ := hah 21 32 K
        have q := hah 10 21 K
        refine kN [(32, (.pointer (some ⟨c0, (c1 + Int.toNat g * Ua.sz), none⟩))), (21, (.bool true))] ⟨k5, (Eq.trans q (congrArg Value.bool i)), trivial⟩ fun hkn => ?_
        refine Qk.run (k := 22) (v := (.pointer (some ⟨c0, (c1 + Int.toNat g * Ua.sz), none⟩))) K ?_
        exact ⟨rfl, _, Qa hkn, ⟨c0, c1, k4, rfl⟩⟩
      ·refine oL 1 ?_
       ·rintro ρ' w' hs hah ⟨⟨p7, -⟩, k6⟩
        obtain ⟨e4, e5, k7, k8⟩ := hah 22 33 K
        have q := hah 10 21 K
        refine kN [(33, (.pointer (some ⟨e4, (e5 + Int.toNat g * Ua.sz), none⟩))), (21, (.bool true))] ⟨k8, (Eq.trans q (congrArg Value.bool i)), trivial⟩ fun hkn => ?_
        refine sC 9 33 e4 (e5 + Int.toNat g * Ua.sz) (.string ⟨List.toArray (stT a3).1⟩) 34 (Qj (e := Ua) (Qg (RdT.sp (Ut s) k6) k7 d8 e0) h1 (j := 0) rfl) ?_
        exact eK hkn
      ·refine oL 1 ?_
       ·rintro ρ' w' hs hah ⟨⟨p8, -⟩, p9⟩
        have k9 := hah 17 28 K
        have l0 := hah 23 34 K
        have q := hah 10 21 K
        refine kN [(28, (.string ⟨List.toArray (stT a2).1⟩)), (34, (.string ⟨List.toArray (stT a3).1⟩)), (21, (.bool true))] ⟨k9, l0, (Eq.trans q (congrArg Value.bool i)), trivial⟩ fun hkn => ?_
        refine Vt (op := .geq) (T := 9) (T' := 9) (x := (.tmp 28)) (y := (.tmp 34)) (a := (stT a2).1) (b := (stT a3).1) (r := (.bool (!(Op.bytesLess (stT a2).1 (stT a3).1)))) (d := (some 35)) (k := 24) K rfl K K rfl ?_
        exact eK hkn
      ·exact oV (hC (hB 10 21 i) (hC (hA 24 35) (hC (hB 7 18 p) (h0)))) (.bool (!(Op.bytesLess (stT a2).1 (stT a3).1)))
      ·exact oV (hC (hB 7 18 p) (hC (hA 25 36) (h0))) (.bool (!(Op.bytesLess (stT a2).1 (stT a3).1)))
      ·rintro ρ' w' hs hf ⟨⟨q0, -⟩, e6⟩
       refine Q4 [(1, (pt h 0)), (3, (.int .i64 g)), (37, (.bool (!(Op.bytesLess (stT a2).1 (stT a3).1))))] ⟨(hs 1 K).trans K, (hs 3 K).trans K, hf 26 37 K, trivial⟩ ?_
       obtain ⟨q1, l1⟩ : ∃ x, w' = x := ⟨_, rfl⟩
       rw [l1] at e6 ⊢
       exact ⟨(!(Op.bytesLess (stT a2).1 (stT a3).1)), ⟨K, K, K, trivial⟩, SP.sel e6 [0] rfl rfl, H⟩
     ·have H := cf H i
      refine aG [GEq (pt h 4), GEq (.slice A6 (List.length (List.map stT d9)) c7), GEq (.int .i64 g), Vi A6 Ua.sz g, GEq (.agg #[(.string ⟨List.toArray (stT f).1⟩), (.int .i64 (stT f).2.1), (.int .i64 (stT f).2.2.1), (.slice f.2.2.2.1.1 (List.length (stT f).2.2.2.1) f.2.2.2.1.2.1), (.slice f.2.2.2.2.1 (List.length (stT f).2.2.2.2) f.2.2.2.2.2.1)]), GEq (.bool m), GEq (.bool (!m)), GEq (.bool (!m)), GEq (.int .i64 g), GEq (.bool (decide (g > 0))), GEq (.bool (decide (g > 0))), GEq undef, GEq undef, GEq undef, GEq undef, GEq undef, GEq undef, GEq undef, GEq undef, GEq undef, GEq undef, GEq undef, GEq undef, GEq undef, GEq undef, GEq (.bool false), GEq (.bool false)] [5] (tG [] w0 [Qv h 24 #[(.int .i64 u), (.int .i64 z), (.int .i64 a0), (.int .i64 a1), (.slice A6 (List.length (List.map stT d9)) c7)]] [([], []), ([5], [(.bool m)])]) 27 1 ⟨trivial, SP.drew a5⟩ ?_ ?_
      iterate 27 refine And.intro ?_ ?_
      exact trivial
      ·exact oV (hC (hS 1 (pt h 0)) (h0)) (pt h 4)
      ·refine oL 0 ?_
       ·rintro ρ' w' hs hah ⟨q2, l2⟩
        refine kM (kc (kA hah 0 11) k0) fun hkn => ?_
        refine sL 22 11 h 4 0 (.slice A6 (List.length (List.map stT d9)) c7) 12 l2 rfl ?_
        exact eK hkn
      ·exact oV (hC (hS 3 (.int .i64 g)) (h0)) (.int .i64 g)
      ·refine oL 0 ?_
       ·rintro ρ' w' hs hah ⟨q3, l3⟩
        refine kM (kc (kA hah 1 12) (kc (kA hah 2 13) k0)) fun hkn => ?_
        refine Ug stT (e := Ua) (l := d9) (A := A6) (c := c7) (T := 22) (E := 44) (x := (.tmp 12)) (ix := (.tmp 13)) (ki := .i64) (iz := g) (d := (some 14)) (k := 3) K rfl K K K K (RdT.sp (Ut s) l3) a7 a8 ?_
        intro l4 l5 l6 q4 hc1159
        exact ⟨rfl, _, Qa hkn, ⟨l4, l5, l6, rfl⟩⟩
      ·refine oL 0 ?_
       ·rintro ρ' w' hs hah ⟨q5, l7⟩
        obtain ⟨l8, l9, m0, b0⟩ := hah 3 14 K
        refine kM (kc b0 k0) fun hkn => ?_
        refine Qk.cells (t := 44) (x := (.tmp 14)) (b := l8) (off := (l9 + Int.toNat g * Ua.sz)) (xs := [(.string ⟨List.toArray (stT f).1⟩), (.int .i64 (stT f).2.1), (.int .i64 (stT f).2.2.1), (.slice f.2.2.2.1.1 (List.length (stT f).2.2.2.1) f.2.2.2.1.2.1), (.slice f.2.2.2.2.1 (List.length (stT f).2.2.2.2) f.2.2.2.2.2.1)]) (d := (some 15)) (k := 4) K rfl K K K (Z2 (e := Ua) (Qg (RdT.sp (Ut s) l7) m0 a7 a8) a4 rfl) ?_
        exact eK hkn
      ·refine oH 0 1 ?_
       ·rintro ρ' w' hs hah ⟨q6, c2⟩
        refine kM (kc (kA hah 4 15) k0) fun hkn => ?_
        refine cF 65 #[(.tmp 15)] #[44] 16 Tryz.call65 (Jp f.2.2.2.1.1 f.2.2.2.1.2.1 f.2.2.2.2.1 f.2.2.2.2.2.1 (stT f).1 (stT f).2.1 (stT f).2.2.1 (stT f).2.2.2.1 (stT f).2.2.2.2 w' (RdT.sp (Ut (dp1 (dp2 (dp2 (dp2 (D7 s a4)))))) c2) (RdT.sp (Ut (dp2 (dp2 (dp2 (dp2 (D7 s a4)))))) c2) m b5) ?_
        rintro e q7 ⟨rfl, e7⟩
        refine ⟨_, rfl, ?_⟩
        have m1 := SP.call c2 e7
        clear e7
        refine ⟨_, Qa hkn, rfl, ?_⟩
        exact (And.intro (And.intro rfl (trivial)) (m1))
      ·exact oV (hC (hA 5 16) (h0)) (.bool (!m))
      ·exact oV (hC (hA 6 17) (h0)) (.bool (!m))
      ·exact oV (hC (hS 3 (.int .i64 g)) (hC (hB 7 18 p) (h0))) (.int .i64 g)
      ·exact oV (hC (hA 8 19) (hC (hB 7 18 p) (h0))) (.bool (decide (g > 0)))
      ·exact oV (hC (hA 9 20) (hC (hB 7 18 p) (h0))) (.bool (decide (g > 0)))
      ·exact oW (hC (hB 10 21 i) (h0)) 22
      ·exact oW (hC (hB 10 21 i) (h0)) 23
      ·exact oW (hC (hB 10 21 i) (h0)) 24
      ·exact oW (hC (hB 10 21 i) (h0)) 25
      ·exact oW (hC (hB 10 21 i) (h0)) 26
      ·exact oW (hC (hB 10 21 i) (h0)) 27
      ·exact oW (hC (hB 10 21 i) (h0)) 28
      ·exact oW (hC (hB 10 21 i) (h0)) 29
      ·exact oW (hC (hB 10 21 i) (h0)) 30
      ·exact oW (hC (hB 10 21 i) (h0)) 31
      ·exact oW (hC (hB 10 21 i) (h0)) 32
      ·exact oW (hC (hB 10 21 i) (h0)) 33
      ·exact oW (hC (hB 10 21 i) (h0)) 34
      ·exact oW (hC (hB 10 21 i) (h0)) 35
      ·exact oV (hC (hB 10 21 i) (hC (hA 24 35) (hC (hB 7 18 p) (h0)))) (.bool false)
      ·exact oV (hC (hB 7 18 p) (hC (hA 25 36) (h0))) (.bool false)
      ·rintro ρ' w' hs hf ⟨⟨q8, -⟩, e8⟩
       refine Q4 [(1, (pt h 0)), (3, (.int .i64 g)), (37, (.bool false))] ⟨(hs 1 K).trans K, (hs 3 K).trans K, hf 26 37 K, trivial⟩ ?_
       obtain ⟨q9, m2⟩ : ∃ x, w' = x := ⟨_, rfl⟩
       rw [m2] at e8 ⊢
       exact ⟨false, ⟨K, K, K, trivial⟩, SP.sel e8 [0] rfl rfl, H⟩
   ·rintro ρ r0 ⟨a6, hk, e9, H⟩
    unfold Yn at H
    first | refine At.known [(1, (pt h 0)), (3, (.int .i64 g)), (37, (.bool a6))] hk ?_ | rw [← Qz (l := [(1, (pt h 0)), (3, (.int .i64 g)), (37, (.bool a6))]) hk]
    refine Zk K (o := (.tmp 37)) K (b := a6) K (fun c3 => ?_) (fun c3 => ?_)
    ·have H := ct H c3
     refine aQ ?_
     refine aR ?_
     refine iR 1 1 [(2, (.bool false))] ?_
     refine iF ?_
     refine At.ret K ?_
     refine ⟨(.bool false), K, ?_⟩
     obtain rfl := Qh H
     exact ⟨rfl, SP.sel e9 [] rfl rfl⟩
    ·have H := cf H c3
     refine At.skip K ?_
     refine aR ?_
     refine iR 3 3 [(9, (.int .i64 g)), (10, (.int .i64 (IntKind.wrap .i64 (g + 1)))), (3, (.int .i64 (IntKind.wrap .i64 (g + 1))))] ?_
     refine iF ?_
     exact ⟨(IntKind.wrap .i64 (g + 1)), ⟨K, K, trivial⟩, SP.sel e9 [0] rfl rfl, H⟩
  ·have H := cf H b4
   refine At.exit K (id := 0) K ?_
   refine aQ ?_
   refine At.join (fun ρ w => ∃ (a9 : Bool), V3 ρ [(2, (.bool a9))] ∧ SP [] w0 w [] ∧ Zy (Zp u z a0 a1 (List.map stT d9) f5) a9 = some r) ?_ ?_
   ·refine aR ?_
    refine iR 1 1 [(38, (pt h 0))] ?_
    refine iS 2 ?_
    refine sL 2 38 h 0 0 (.int .i64 u) 39 a5 rfl ?_
    obtain ⟨c4, m3, H⟩ := Qe H
    refine iS 3 ?_
    refine cF 66 #[(.tmp 39)] #[2] 40 Tryz.call66 (Ub  u f7  c4 m3) ?_
    rintro e m4 ⟨rfl, f0⟩
    refine ⟨_, rfl, ?_⟩
    have c5 := SP.call a5 f0
    clear f0
    refine iR 1 4 [(41, (.bool c4))] ?_
    refine In.guard (t := 41) (b := c4) K (fun c6 => ?_) (fun c6 => ?_)
    ·have H := ct H c6
     refine iR 1 5 [(42, (pt h 1))] ?_
     refine iS 6 ?_
     refine sL 2 42 h 1 0 (.int .i64 z) 43 c5 rfl ?_
     obtain ⟨b1, m5, H⟩ := Qe H
     refine iS 7 ?_
     refine cF 66 #[(.tmp 43)] #[2] 44 Tryz.call66 (Ub  z m4  b1 m5) ?_
     rintro e m6 ⟨rfl, f1⟩
     refine ⟨_, rfl, ?_⟩
     have c8 := SP.call c5 f1
     clear f1
     refine iR 2 9 [(45, (.bool b1)), (46, (.bool b1))] ?_
     refine In.guard (t := 46) (b := b1) K (fun c9 => ?_) (fun c9 => ?_)
     ·have H := ct H c9
      refine iR 1 10 [(47, (pt h 2))] ?_
      refine iS 11 ?_
      refine sL 2 47 h 2 0 (.int .i64 a0) 48 c8 rfl ?_
      obtain ⟨b2, m7, H⟩ := Qe H
      refine iS 12 ?_
      refine cF 66 #[(.tmp 48)] #[2] 49 Tryz.call66 (Ub  a0 m6  b2 m7) ?_
      rintro e m8 ⟨rfl, f2⟩
      refine ⟨_, rfl, ?_⟩
      have d0 := SP.call c8 f2
      clear f2
      refine iR 2 14 [(50, (.bool b2)), (51, (.bool b2))] ?_
      refine In.guard (t := 51) (b := b2) K (fun d1 => ?_) (fun d1 => ?_)
      ·have H := ct H d1
       refine iR 1 15 [(52, (pt h 3))] ?_
       refine iS 16 ?_
       refine sL 2 52 h 3 0 (.int .i64 a1) 53 d0 rfl ?_
       obtain ⟨b3, m9, H⟩ := Qe H
       refine iS 17 ?_
       refine cF 66 #[(.tmp 53)] #[2] 54 Tryz.call66 (Ub  a1 m8  b3 m9) ?_
       rintro e r1 ⟨rfl, f3⟩
       refine ⟨_, rfl, ?_⟩
       have d2 := SP.call d0 f3
       clear f3
       refine iR 2 19 [(55, (.bool b3)), (56, (.bool b3))] ?_
       refine In.guard (t := 56) (b := b3) K (fun d3 => ?_) (fun d3 => ?_)
       ·have H := ct H d3
        refine iR 1 20 [(57, (pt h 4))] ?_
        refine iS 21 ?_
        refine sL 22 57 h 4 0 (.slice A6 (List.length (List.map stT d9)) c7) 58 d2 rfl ?_
        refine iR 4 25 [(59, (.int .i64 ((List.length (List.map stT d9) : Nat) : Int))), (60, (.bool (decide (((List.length (List.map stT d9) : Nat) : Int) ≤ 8)))), (61, (.bool (decide (((List.length (List.map stT d9) : Nat) : Int) ≤ 8)))), (2, (.bool (decide (((List.length (List.map stT d9) : Nat) : Int) ≤ 8))))] ?_
        refine iF ?_
        exact ⟨(decide (((List.length (List.map stT d9) : Nat) : Int) ≤ 8)), ⟨K, trivial⟩, SP.sel d2 [] rfl rfl, H⟩
       ·have H := cf H d3
        refine iR 6 25 [(57, undef), (58, undef), (59, undef), (60, undef), (61, (.bool false)), (2, (.bool false))] ?_
        refine iF ?_
        exact ⟨false, ⟨K, trivial⟩, SP.sel d2 [] rfl rfl, H⟩
      ·have H := cf H d1
       refine iR 11 25 [(52, undef), (53, undef), (54, undef), (55, (.bool false)), (56, (.bool false)), (57, undef), (58, undef), (59, undef), (60, undef), (61, (.bool false)), (2, (.bool false))] ?_
       refine iF ?_
       exact ⟨false, ⟨K, trivial⟩, SP.sel d0 [] rfl rfl, H⟩
     ·have H := cf H c9
      refine iR 16 25 [(47, undef), (48, undef), (49, undef), (50, (.bool false)), (51, (.bool false)), (52, undef), (53, undef), (54, undef), (55, (.bool false)), (56, (.bool false)), (57, undef), (58, undef), (59, undef), (60, undef), (61, (.bool false)), (2, (.bool false))] ?_
      refine iF ?_
      exact ⟨false, ⟨K, trivial⟩, SP.sel c8 [] rfl rfl, H⟩
    ·have H := cf H c6
     refine iR 21 25 [(42, undef), (43, undef), (44, undef), (45, (.bool false)), (46, (.bool false)), (47, undef), (48, undef), (49, undef), (50, (.bool false)), (51, (.bool false)), (52, undef), (53, undef), (54, undef), (55, (.bool false)), (56, (.bool false)), (57, undef), (58, undef), (59, undef), (60, undef), (61, (.bool false)), (2, (.bool false))] ?_
     refine iF ?_
     exact ⟨false, ⟨K, trivial⟩, SP.sel c5 [] rfl rfl, H⟩
   ·rintro ρ r2 ⟨a9, hk, n0, H⟩
    unfold Zy at H
    first | refine At.known [(2, (.bool a9))] hk ?_ | rw [← Qz (l := [(2, (.bool a9))]) hk]
    refine At.ret K ?_
    refine ⟨(.bool a9), K, ?_⟩
    obtain rfl := Qh H
    exact ⟨rfl, SP.sel n0 [] rfl rfl⟩
 ·exact ⟨0, ⟨K, K, trivial⟩, SP.sel f6 [0] rfl rfl, H⟩
def Xz (d : Int → Option ((List UInt8) × Int × Int × (List (Int × Int)) × (List ((List UInt8) × (List UInt8) × Int)) × Bool)) (c : (List Qi)) (e : (List UInt8)) (b : Int) : Option ((List UInt8) × Int × Int × (List (Int × Int)) × (List ((List UInt8) × (List UInt8) × Int)) × Bool) :=
  (cond (decide (b < ((List.length c : Nat) : Int))) ((idx c b).bind fun f => (cond (f.1 == e) ((idx c b).bind fun a => (some (a.1, a.2.1, a.2.2.1, a.2.2.2.1, a.2.2.2.2, true))) (d (IntKind.wrap .i64 (b + 1))))) (some (([] : List UInt8), 0, 0, ([] : List (Int × Int)), ([] : List ((List UInt8) × (List UInt8) × Int)), false)))
def X0 (a : (List Qi)) (b : (List UInt8)) : Nat → Int → Option ((List UInt8) × Int × Int × (List (Int × Int)) × (List ((List UInt8) × (List UInt8) × Int)) × Bool)
  | 0, _ => none
  | f + 1, c => Xz  (X0 a b f) a b c
def Ga (c : Int) (d : Int) (e : Int) (f : Int) (a : (List Qi)) (b : (List UInt8)) : Option ((List UInt8) × Int × Int × (List (Int × Int)) × (List ((List UInt8) × (List UInt8) × Int)) × Bool) :=
  (X0 a b Zj 0)
set_option maxRecDepth 100000 in
set_option maxHeartbeats 4000000 in
theorem Bq {R : World → Prop} (A6 : Option Addr) (c7 : Nat) (a0 : Int) (a1 : Int) (a2 : Int) (a3 : Int) (d9 : (List Vl)) (m : (List UInt8)) (w0 : World) (hR : ∀ w, Below w0.heap.size w0 w → R w) (u : ∀ w, R w → (dDS Ua Eh).ok w (A6, c7, d9)) (r : ((List UInt8) × Int × Int × (List (Int × Int)) × (List ((List UInt8) × (List UInt8) × Int)) × Bool)) (H : Ga a0 a1 a2 a3 (List.map stT d9) m = some r) :
  Calls Tryz.prog 28 #[(.agg #[(.int .i64 a0), (.int .i64 a1), (.int .i64 a2), (.int .i64 a3), (.slice A6 (List.length (List.map stT d9)) c7)]), (.string ⟨List.toArray m⟩)] w0 (fun e w' => ∃ (a9 : Option Addr) (b0 : Nat) (b1 : Option Addr) (b2 : Nat), e = .returned (.tuple #[(.agg #[(.string ⟨List.toArray r.1⟩), (.int .i64 r.2.1), (.int .i64 r.2.2.1), (.slice a9 (List.length r.2.2.2.1) b0), (.slice b1 (List.length r.2.2.2.2.1) b2)]), (.bool r.2.2.2.2.2)]) ∧ (∀ w, R w → RdT (Qf (Qd .u32) (Qd .i64)) w a9 b0 r.2.2.2.1) ∧ (∀ w, R w → RdT (Qf Qs (Qf Qs (Qd .i64))) w b1 b2 r.2.2.2.2.1) ∧ SP [] w0 w' []) := by
 unfold Ga at H
 refine Qu (n := 28) Tryz.func28 K K K ?_
 have c1 := Q1 [] w0
 refine aQ ?_
 refine aR ?_
 refine iS 1 ?_
 refine V6 (t := 24) (x := (.tmp 0)) (v := (.agg #[(.int .i64 a0), (.int .i64 a1), (.int .i64 a2), (.int .i64 a3), (.slice A6 (List.length (List.map stT d9)) c7)])) (d := (some 2)) (k := 0) K rfl K c1 ?_
 intro q d0 c2
 refine iS 2 ?_
 refine Qk.alloc (t := 44) (z := (.agg #[(.string ⟨List.toArray ([] : List UInt8)⟩), (.int .i64 0), (.int .i64 0), (.slice none (List.length ([] : List (Int × Int))) 0), (.slice none (List.length ([] : List ((List UInt8) × (List UInt8) × Int))) 0)])) (d := (some 4)) (k := 1) K rfl K c2 ?_
 intro s d1 c3
 refine iR 1 3 [(5, (.bool false))] ?_
 refine iF ?_
 refine aQ ?_
 refine aQ ?_
 refine aR ?_
 refine iR 1 1 [(6, (.int .i64 0))] ?_
 refine iF ?_
 refine Z1 K (id := 0) K ?_
 refine Nf K (fun f1 ρ w => ∃ (h : Int), V3 ρ [(1, (.string ⟨List.toArray m⟩)), (2, (pt q 0)), (4, (pt s 0)), (6, (.int .i64 h))] ∧ SP [] w0 w [Qv q 24 #[(.int .i64 a0), (.int .i64 a1), (.int .i64 a2), (.int .i64 a3), (.slice A6 (List.length (List.map stT d9)) c7)], Qv s 44 #[(.string ⟨List.toArray ([] : List UInt8)⟩), (.int .i64 0), (.int .i64 0), (.slice none (List.length ([] : List (Int × Int))) 0), (.slice none (List.length ([] : List ((List UInt8) × (List UInt8) × Int))) 0)]] ∧ X0 (List.map stT d9) m f1 h = some r) (by rintro ρ w ⟨h, hk, hs, H⟩; cases H) ?_ Zj ?_
 ·rintro f1 ρ a4 ⟨h, hk, p, H⟩
  refine At.known [(1, (.string ⟨List.toArray m⟩)), (2, (pt q 0)), (4, (pt s 0)), (6, (.int .i64 h))] hk ?_
  replace H := (show Xz (X0 (List.map stT d9) m f1) (List.map stT d9) m h = some r from H)
  unfold Xz at H
  refine aQ ?_
  refine aQ ?_
  refine aR ?_
  refine iR 2 2 [(7, (.int .i64 h)), (8, (pt q 4))] ?_
  refine iS 3 ?_
  refine sL 22 8 q 4 0 (.slice A6 (List.length (List.map stT d9)) c7) 9 p rfl ?_
  refine iR 2 5 [(10, (.int .i64 ((List.length (List.map stT d9) : Nat) : Int))), (11, (.bool (decide (h < ((List.length (List.map stT d9) : Nat) : Int)))))] ?_
  refine iF ?_
  refine Zk K (o := (.tmp 11)) K (b := (decide (h < ((List.length (List.map stT d9) : Nat) : Int)))) K (fun a6 => ?_) (fun a6 => ?_)
  ·have H := ct H a6
   refine At.skip K ?_
   refine aQ ?_
   refine Z1 K (id := 1) K ?_
   refine aQ ?_
   refine aR ?_
   refine iR 1 1 [(14, (pt q 4))] ?_
   refine iS 2 ?_
   refine sL 22 14 q 4 0 (.slice A6 (List.length (List.map stT d9)) c7) 15 p rfl ?_
   refine iR 1 3 [(16, (.int .i64 h))] ?_
   obtain ⟨a5, b3, b4, c4, H⟩ := G1 H
   refine iS 4 ?_
   refine Ug stT (e := Ua) (l := d9) (A := A6) (c := c7) (T := 22) (E := 44) (x := (.tmp 15)) (ix := (.tmp 16)) (ki := .i64) (iz := h) (d := (some 17)) (k := 3) K rfl K K K K ((fun w hm => (Ut (u w hm))) a4 (hR _ (SP.keeps p))) b3 b4 ?_
   intro b5 b6 c5 d2 hc93
   refine iR 1 5 [(18, (.pointer (some ⟨b5, (b6 + Int.toNat h * Ua.sz), none⟩)))] ?_
   refine iS 6 ?_
   refine sC 9 18 b5 (b6 + Int.toNat h * Ua.sz) (.string ⟨List.toArray (stT a5).1⟩) 19 (Qj (e := Ua) (Qg ((fun w hm => (Ut (u w hm))) a4 (hR _ (SP.keeps p))) c5 b3 b4) c4 (j := 0) rfl) ?_
   refine iR 1 7 [(20, (.string ⟨List.toArray m⟩))] ?_
   refine iS 8 ?_
   refine Vt (op := .eql) (T := 9) (T' := 9) (x := (.tmp 19)) (y := (.tmp 20)) (a := (stT a5).1) (b := m) (r := (.bool ((stT a5).1 == m))) (d := (some 21)) (k := 7) K rfl K K rfl ?_
   refine iF ?_
   refine Zk K (o := (.tmp 21)) K (b := ((stT a5).1 == m)) K (fun a7 => ?_) (fun a7 => ?_)
   ·have H := ct H a7
    refine aQ ?_
    refine aR ?_
    refine iR 1 1 [(22, (pt q 4))] ?_
    refine iS 2 ?_
    refine sL 22 22 q 4 0 (.slice A6 (List.length (List.map stT d9)) c7) 23 p rfl ?_
    refine iR 1 3 [(24, (.int .i64 h))] ?_
    obtain ⟨f, b7, b8, a8, H⟩ := G1 H
    refine iS 4 ?_
    refine Ug stT (e := Ua) (l := d9) (A := A6) (c := c7) (T := 22) (E := 44) (x := (.tmp 23)) (ix := (.tmp 24)) (ki := .i64) (iz := h) (d := (some 25)) (k := 3) K rfl K K K K ((fun w hm => (Ut (u w hm))) a4 (hR _ (SP.keeps p))) b7 b8 ?_
    intro c6 c8 c9 d3 hc104
    refine iS 5 ?_
    refine Qk.cells (t := 44) (x := (.tmp 25)) (b := c6) (off := (c8 + Int.toNat h * Ua.sz)) (xs := [(.string ⟨List.toArray (stT f).1⟩), (.int .i64 (stT f).2.1), (.int .i64 (stT f).2.2.1), (.slice f.2.2.2.1.1 (List.length (stT f).2.2.2.1) f.2.2.2.1.2.1), (.slice f.2.2.2.2.1 (List.length (stT f).2.2.2.2) f.2.2.2.2.2.1)]) (d := (some 26)) (k := 4) K rfl K K K (Z2 (e := Ua) (Qg ((fun w hm => (Ut (u w hm))) a4 (hR _ (SP.keeps p))) c9 b7 b8) a8 rfl) ?_
    refine iS 6 ?_
    refine Qk.store (t := 44) (x := (.tmp 4)) (y := (.tmp 26)) (g := s) (off := 0) (i := 1) (v := (.agg #[(.string ⟨List.toArray (stT f).1⟩), (.int .i64 (stT f).2.1), (.int .i64 (stT f).2.2.1), (.slice f.2.2.2.1.1 (List.length (stT f).2.2.2.1) f.2.2.2.1.2.1), (.slice f.2.2.2.2.1 (List.length (stT f).2.2.2.2) f.2.2.2.2.2.1)])) (cs' := #[(.string ⟨List.toArray (stT f).1⟩), (.int .i64 (stT f).2.1), (.int .i64 (stT f).2.2.1), (.slice f.2.2.2.1.1 (List.length (stT f).2.2.2.1) f.2.2.2.1.2.1), (.slice f.2.2.2.2.1 (List.length (stT f).2.2.2.2) f.2.2.2.2.2.1)]) (d := none) (k := 5) K rfl K K p rfl K ?_
    intro d4 b9
    refine iR 1 7 [(5, (.bool true))] ?_
    refine iF ?_
    refine At.ret K ?_
    refine ⟨(.tuple #[(.agg #[(.string ⟨List.toArray (stT f).1⟩), (.int .i64 (stT f).2.1), (.int .i64 (stT f).2.2.1), (.slice f.2.2.2.1.1 (List.length (stT f).2.2.2.1) f.2.2.2.1.2.1), (.slice f.2.2.2.2.1 (List.length (stT f).2.2.2.2) f.2.2.2.2.2.1)]), (.bool true)]), Ig K (Dz (a := 4) (t := 44) (g := s) (off := 0) K (SP.get b9 (i := 1) rfl) K) (En (t := 5) K), ?_⟩
    obtain rfl := Qh H
    exact ⟨f.2.2.2.1.1, f.2.2.2.1.2.1, f.2.2.2.2.1, f.2.2.2.2.2.1, rfl, (fun w hm => (Ut ((fun w hm => (dp1 (dp2 (dp2 (dp2 (D7 (u w hm) a8)))))) w hm))), (fun w hm => (Ut ((fun w hm => (dp2 (dp2 (dp2 (dp2 (D7 (u w hm) a8)))))) w hm))), SP.sel b9 [] rfl rfl⟩
   ·have H := cf H a7
    refine At.skip K ?_
    refine aR ?_
    refine iR 3 3 [(12, (.int .i64 h)), (13, (.int .i64 (IntKind.wrap .i64 (h + 1)))), (6, (.int .i64 (IntKind.wrap .i64 (h + 1))))] ?_
    refine iF ?_
    exact ⟨(IntKind.wrap .i64 (h + 1)), ⟨K, K, K, K, trivial⟩, SP.sel p [0, 1] rfl rfl, H⟩
  ·have H := cf H a6
   refine At.exit K (id := 0) K ?_
   refine aQ ?_
   refine aR ?_
   refine iR 1 1 [(27, (.agg #[(.string ⟨List.toArray ([] : List UInt8)⟩), (.int .i64 0), (.int .i64 0), (.slice none (List.length ([] : List (Int × Int))) 0), (.slice none (List.length ([] : List ((List UInt8) × (List UInt8) × Int))) 0)]))] ?_
   refine iS 2 ?_
   refine Qk.store (t := 44) (x := (.tmp 4)) (y := (.tmp 27)) (g := s) (off := 0) (i := 1) (v := (.agg #[(.string ⟨List.toArray ([] : List UInt8)⟩), (.int .i64 0), (.int .i64 0), (.slice none (List.length ([] : List (Int × Int))) 0), (.slice none (List.length ([] : List ((List UInt8) × (List UInt8) × Int))) 0)])) (cs' := #[(.string ⟨List.toArray ([] : List UInt8)⟩), (.int .i64 0), (.int .i64 0), (.slice none (List.length ([] : List (Int × Int))) 0), (.slice none (List.length ([] : List ((List UInt8) × (List UInt8) × Int))) 0)]) (d := none) (k := 1) K rfl K K p rfl K ?_
   intro d5 c0
   refine iR 1 3 [(5, (.bool false))] ?_
   refine iF ?_
   refine At.ret K ?_
   refine ⟨(.tuple #[(.agg #[(.string ⟨List.toArray ([] : List UInt8)⟩), (.int .i64 0), (.int .i64 0), (.slice none (List.length ([] : List (Int × Int))) 0), (.slice none (List.length ([] : List ((List UInt8) × (List UInt8) × Int))) 0)]), (.bool false)]), Ig K (Dz (a := 4) (t := 44) (g := s) (off := 0) K (SP.get c0 (i := 1) rfl) K) (En (t := 5) K), ?_⟩
   obtain rfl := Qh H
   exact ⟨none, 0, none, 0, rfl, (fun w _ => RdT.nil (Qf (Qd .u32) (Qd .i64)) w), (fun w _ => RdT.nil (Qf Qs (Qf Qs (Qd .i64))) w), SP.sel c0 [] rfl rfl⟩
 ·exact ⟨0, ⟨K, K, K, K, trivial⟩, SP.sel c3 [0, 1] rfl rfl, H⟩
def Xm (d : Int → Option ((List UInt8) × (List UInt8) × Int × Bool)) (b : (List ((List UInt8) × (List UInt8) × Int))) (e : (List UInt8)) (a : Int) : Option ((List UInt8) × (List UInt8) × Int × Bool) :=
  (cond (decide (a < ((List.length b : Nat) : Int))) ((idx b a).bind fun f => (cond (f.1 == e) ((idx b a).bind fun c => (some (c.1, c.2.1, c.2.2, true))) (d (IntKind.wrap .i64 (a + 1))))) (some (([] : List UInt8), ([] : List UInt8), 0, false)))
def Xn (a : (List ((List UInt8) × (List UInt8) × Int))) (b : (List UInt8)) : Nat → Int → Option ((List UInt8) × (List UInt8) × Int × Bool)
  | 0, _ => none
  | f + 1, c => Xm  (Xn a b f) a b c
def Np (c : (List UInt8)) (d : Int) (e : Int) (f : (List (Int × Int))) (a : (List ((List UInt8) × (List UInt8) × Int))) (b : (List UInt8)) : Option ((List UInt8) × (List UInt8) × Int × Bool) :=
  (Xn a b Zj 0)
set_option maxRecDepth 100000 in
set_option maxHeartbeats 4000000 in
theorem D9 (A5 : Option Addr) (c6 : Nat) (A9 : Option Addr) (s : Nat) (a2 : (List UInt8)) (a3 : Int) (a4 : Int) (a1 : (List (Int × Int))) (h : (List ((List UInt8) × (List UInt8) × Int))) (p : (List UInt8)) (w0 : World) (c7 : RdT (Qf (Qd .u32) (Qd .i64)) w0 A5 c6 a1) (a5 : RdT (Qf Qs (Qf Qs (Qd .i64))) w0 A9 s h) (r : ((List UInt8) × (List UInt8) × Int × Bool)) (H : Np a2 a3 a4 a1 h p = some r) :
  Calls Tryz.prog 29 #[(.agg #[(.string ⟨List.toArray a2⟩), (.int .i64 a3), (.int .i64 a4), (.slice A5 (List.length a1) c6), (.slice A9 (List.length h) s)]), (.string ⟨List.toArray p⟩)] w0 (fun e w' => e = .returned (.tuple #[(.agg #[(.string ⟨List.toArray r.1⟩), (.string ⟨List.toArray r.2.1⟩), (.int .i64 r.2.2.1)]), (.bool r.2.2.2)]) ∧ SP [] w0 w' []) := by
 unfold Np at H
 refine Qu (n := 28) Tryz.func29 K K K ?_
 have b7 := Q1 [] w0
 refine aQ ?_
 refine aR ?_
 refine iS 1 ?_
 refine V6 (t := 44) (x := (.tmp 0)) (v := (.agg #[(.string ⟨List.toArray a2⟩), (.int .i64 a3), (.int .i64 a4), (.slice A5 (List.length a1) c6), (.slice A9 (List.length h) s)])) (d := (some 2)) (k := 0) K rfl K b7 ?_
 intro u c8 b8
 refine iS 2 ?_
 refine Qk.alloc (t := 48) (z := (.agg #[(.string ⟨List.toArray ([] : List UInt8)⟩), (.string ⟨List.toArray ([] : List UInt8)⟩), (.int .i64 0)])) (d := (some 4)) (k := 1) K rfl K b8 ?_
 intro a0 c9 b9
 refine iR 1 3 [(5, (.bool false))] ?_
 refine iF ?_
 refine aQ ?_
 refine aQ ?_
 refine aR ?_
 refine iR 1 1 [(6, (.int .i64 0))] ?_
 refine iF ?_
 refine Z1 K (id := 0) K ?_
 refine Nf K (fun f1 ρ w => ∃ (f : Int), V3 ρ [(1, (.string ⟨List.toArray p⟩)), (2, (pt u 0)), (4, (pt a0 0)), (6, (.int .i64 f))] ∧ SP [] w0 w [Qv u 44 #[(.string ⟨List.toArray a2⟩), (.int .i64 a3), (.int .i64 a4), (.slice A5 (List.length a1) c6), (.slice A9 (List.length h) s)], Qv a0 48 #[(.string ⟨List.toArray ([] : List UInt8)⟩), (.string ⟨List.toArray ([] : List UInt8)⟩), (.int .i64 0)]] ∧ Xn h p f1 f = some r) (by rintro ρ w ⟨f, hk, hs, H⟩; cases H) ?_ Zj ?_
 ·rintro f1 ρ d0 ⟨f, hk, q, H⟩
  refine At.known [(1, (.string ⟨List.toArray p⟩)), (2, (pt u 0)), (4, (pt a0 0)), (6, (.int .i64 f))] hk ?_
  replace H := (show Xm (Xn h p f1) h p f = some r from H)
  unfold Xm at H
  refine aQ ?_
  refine aQ ?_
  refine aR ?_
  refine iR 2 2 [(7, (.int .i64 f)), (8, (pt u 4))] ?_
  refine iS 3 ?_
  refine sL 42 8 u 4 0 (.slice A9 (List.length h) s) 9 q rfl ?_
  refine iR 2 5 [(10, (.int .i64 ((List.length h : Nat) : Int))), (11, (.bool (decide (f < ((List.length h : Nat) : Int)))))] ?_
  refine iF ?_
  refine Zk K (o := (.tmp 11)) K (b := (decide (f < ((List.length h : Nat) : Int)))) K (fun a7 => ?_) (fun a7 => ?_)
  ·have H := ct H a7
   refine At.skip K ?_
   refine aQ ?_
   refine Z1 K (id := 1) K ?_
   refine aQ ?_
   refine aR ?_
   refine iR 1 1 [(14, (pt u 4))] ?_
   refine iS 2 ?_
   refine sL 42 14 u 4 0 (.slice A9 (List.length h) s) 15 q rfl ?_
   refine iR 1 3 [(16, (.int .i64 f))] ?_
   obtain ⟨a6, a9, b0, c0, H⟩ := Qn H
   refine iS 4 ?_
   refine Ve (e := (Qf Qs (Qf Qs (Qd .i64)))) (l := h) (A := A9) (c := s) (T := 42) (E := 48) (x := (.tmp 15)) (ix := (.tmp 16)) (ki := .i64) (iz := f) (d := (some 17)) (k := 3) K rfl K K K K (RdT.sp a5 q) a9 b0 ?_
   intro b1 b2 c1 d1 hc84
   refine iR 1 5 [(18, (.pointer (some ⟨b1, (b2 + Int.toNat f * (Qf Qs (Qf Qs (Qd .i64))).sz), none⟩)))] ?_
   refine iS 6 ?_
   refine sC 9 18 b1 (b2 + Int.toNat f * (Qf Qs (Qf Qs (Qd .i64))).sz) (.string ⟨List.toArray a6.1⟩) 19 (Qj (e := (Qf Qs (Qf Qs (Qd .i64)))) (Qg (RdT.sp a5 q) c1 a9 b0) c0 (j := 0) rfl) ?_
   refine iR 1 7 [(20, (.string ⟨List.toArray p⟩))] ?_
   refine iS 8 ?_
   refine Vt (op := .eql) (T := 9) (T' := 9) (x := (.tmp 19)) (y := (.tmp 20)) (a := a6.1) (b := p) (r := (.bool (a6.1 == p))) (d := (some 21)) (k := 7) K rfl K K rfl ?_
   refine iF ?_
   refine Zk K (o := (.tmp 21)) K (b := (a6.1 == p)) K (fun a8 => ?_) (fun a8 => ?_)
   ·have H := ct H a8
    refine aQ ?_
    refine aR ?_
    refine iR 1 1 [(22, (pt u 4))] ?_
    refine iS 2 ?_
    refine sL 42 22 u 4 0 (.slice A9 (List.length h) s) 23 q rfl ?_
    refine iR 1 3 [(24, (.int .i64 f))] ?_
    obtain ⟨m, b3, b4, c2, H⟩ := Qn H
    refine iS 4 ?_
    refine Ve (e := (Qf Qs (Qf Qs (Qd .i64)))) (l := h) (A := A9) (c := s) (T := 42) (E := 48) (x := (.tmp 23)) (ix := (.tmp 24)) (ki := .i64) (iz := f) (d := (some 25)) (k := 3) K rfl K K K K (RdT.sp a5 q) b3 b4 ?_
    intro c3 c4 c5 d2 hc94
    refine iS 5 ?_
    refine Qk.cells (t := 48) (x := (.tmp 25)) (b := c3) (off := (c4 + Int.toNat f * (Qf Qs (Qf Qs (Qd .i64))).sz)) (xs := [(.string ⟨List.toArray m.1⟩), (.string ⟨List.toArray m.2.1⟩), (.int .i64 m.2.2)]) (d := (some 26)) (k := 4) K rfl K K K (Z2 (e := (Qf Qs (Qf Qs (Qd .i64)))) (Qg (RdT.sp a5 q) c5 b3 b4) c2 rfl) ?_
    refine iS 6 ?_
    refine Qk.store (t := 48) (x := (.tmp 4)) (y := (.tmp 26)) (g := a0) (off := 0) (i := 1) (v := (.agg #[(.string ⟨List.toArray m.1⟩), (.string ⟨List.toArray m.2.1⟩), (.int .i64 m.2.2)])) (cs' := #[(.string ⟨List.toArray m.1⟩), (.string ⟨List.toArray m.2.1⟩), (.int .i64 m.2.2)]) (d := none) (k := 5) K rfl K K q rfl K ?_
    intro d3 b5
    refine iR 1 7 [(5, (.bool true))] ?_
    refine iF ?_
    refine At.ret K ?_
    refine ⟨(.tuple #[(.agg #[(.string ⟨List.toArray m.1⟩), (.string ⟨List.toArray m.2.1⟩), (.int .i64 m.2.2)]), (.bool true)]), Ig K (Dz (a := 4) (t := 48) (g := a0) (off := 0) K (SP.get b5 (i := 1) rfl) K) (En (t := 5) K), ?_⟩
    obtain rfl := Qh H
    exact ⟨rfl, SP.sel b5 [] rfl rfl⟩
   ·have H := cf H a8
    refine At.skip K ?_
    refine aR ?_
    refine iR 3 3 [(12, (.int .i64 f)), (13, (.int .i64 (IntKind.wrap .i64 (f + 1)))), (6, (.int .i64 (IntKind.wrap .i64 (f + 1))))] ?_
    refine iF ?_
    exact ⟨(IntKind.wrap .i64 (f + 1)), ⟨K, K, K, K, trivial⟩, SP.sel q [0, 1] rfl rfl, H⟩
  ·have H := cf H a7
   refine At.exit K (id := 0) K ?_
   refine aQ ?_
   refine aR ?_
   refine iR 1 1 [(27, (.agg #[(.string ⟨List.toArray ([] : List UInt8)⟩), (.string ⟨List.toArray ([] : List UInt8)⟩), (.int .i64 0)]))] ?_
   refine iS 2 ?_
   refine Qk.store (t := 48) (x := (.tmp 4)) (y := (.tmp 27)) (g := a0) (off := 0) (i := 1) (v := (.agg #[(.string ⟨List.toArray ([] : List UInt8)⟩), (.string ⟨List.toArray ([] : List UInt8)⟩), (.int .i64 0)])) (cs' := #[(.string ⟨List.toArray ([] : List UInt8)⟩), (.string ⟨List.toArray ([] : List UInt8)⟩), (.int .i64 0)]) (d := none) (k := 1) K rfl K K q rfl K ?_
   intro d4 b6
   refine iR 1 3 [(5, (.bool false))] ?_
   refine iF ?_
   refine At.ret K ?_
   refine ⟨(.tuple #[(.agg #[(.string ⟨List.toArray ([] : List UInt8)⟩), (.string ⟨List.toArray ([] : List UInt8)⟩), (.int .i64 0)]), (.bool false)]), Ig K (Dz (a := 4) (t := 48) (g := a0) (off := 0) K (SP.get b6 (i := 1) rfl) K) (En (t := 5) K), ?_⟩
   obtain rfl := Qh H
   exact ⟨rfl, SP.sel b6 [] rfl rfl⟩
 ·exact ⟨0, ⟨K, K, K, K, trivial⟩, SP.sel b9 [0, 1] rfl rfl, H⟩
def Ya (f : Int → Int → Option (Bool)) (g : Int → Int → Option (Bool)) (h : Int) (b : Qi) (c : Int) (a : Int) (i : Bool) : Option (Bool) :=
  (cond i ((idx b.2.2.2.2 a).bind fun d => ((idx b.2.2.2.2 a).bind fun e => (g (IntKind.wrap .i64 ((IntKind.wrap .i64 (c + (if 3000 < ((List.length d.1 : Nat) : Int) then 3000 else ((List.length d.1 : Nat) : Int)))) + (if 3000 < ((List.length e.2.1 : Nat) : Int) then 3000 else ((List.length e.2.1 : Nat) : Int)))) (IntKind.wrap .i64 (a + 1))))) (f c (IntKind.wrap .i64 (h + 1))))
def Z9 (d : Int → Int → Option (Bool)) (e : Int → Int → Option (Bool)) (f : Int) (a : Qi) (b : Int) (c : Int) : Option (Bool) :=
  (cond (decide (c < ((List.length a.2.2.2.2 : Nat) : Int))) (Ya d e f a b c (decide (b < 3000))) (Ya d e f a b c false))
def Ze (a : Int → Int → Option (Bool)) (b : Int) (c : Qi) : Nat → Int → Int → Option (Bool)
  | 0, _, _ => none
  | f + 1, d, e => Z9 a (Ze a b c f) b c d e
def Yb (d : Int → Int → Option (Bool)) (e : (List Qi)) (b : Int) (c : Int) (f : Bool) : Option (Bool) :=
  (cond f ((idx e c).bind fun a => (Ze d c a Zj (IntKind.wrap .i64 ((IntKind.wrap .i64 ((IntKind.wrap .i64 (b + (if 3000 < ((List.length a.1 : Nat) : Int) then 3000 else ((List.length a.1 : Nat) : Int)))) + ((List.length a.2.2.2.1 : Nat) : Int))) + ((List.length a.2.2.2.2 : Nat) : Int))) 0)) (some ((decide (b ≥ 3000)))))
def Xo (d : Int → Int → Option (Bool)) (a : (List Qi)) (b : Int) (c : Int) : Option (Bool) :=
  (cond (decide (c < ((List.length a : Nat) : Int))) (Yb d a b c (decide (b < 3000))) (Yb d a b c false))
def Q8 (a : (List Qi)) : Nat → Int → Int → Option (Bool)
  | 0, _, _ => none
  | f + 1, b, c => Xo  (Q8 a f) a b c
def Nq (b : Int) (c : Int) (d : Int) (e : Int) (a : (List Qi)) : Option (Bool) :=
  (Q8 a Zj ((List.length a : Nat) : Int) 0)
set_option maxRecDepth 100000 in
set_option maxHeartbeats 4000000 in
theorem Ba (A6 : Option Addr) (c7 : Nat) (a2 : Int) (a3 : Int) (a4 : Int) (a5 : Int) (d9 : (List Vl)) (w0 : World) (a6 : (dDS Ua Eh).ok w0 (A6, c7, d9)) (r : (Bool)) (H : Nq a2 a3 a4 a5 (List.map stT d9) = some r) :
  Calls Tryz.prog 16 #[(.agg #[(.int .i64 a2), (.int .i64 a3), (.int .i64 a4), (.int .i64 a5), (.slice A6 (List.length (List.map stT d9)) c7)])] w0 (fun e w' => e = .returned (.bool r) ∧ SP [] w0 w' []) := by
 unfold Nq at H
 refine Qu (n := 72) Tryz.func16 K K K ?_
 have d3 := Q1 [] w0
 refine aQ ?_
 refine aR ?_
 refine iS 1 ?_
 refine V6 (t := 24) (x := (.tmp 0)) (v := (.agg #[(.int .i64 a2), (.int .i64 a3), (.int .i64 a4), (.int .i64 a5), (.slice A6 (List.length (List.map stT d9)) c7)])) (d := (some 1)) (k := 0) K rfl K d3 ?_
 intro u g6 b9
 refine iR 1 2 [(2, (.bool false))] ?_
 refine iF ?_
 refine aQ ?_
 refine aR ?_
 refine iR 1 1 [(7, (pt u 4))] ?_
 refine iS 2 ?_
 refine sL 22 7 u 4 0 (.slice A6 (List.length (List.map stT d9)) c7) 8 b9 rfl ?_
 refine iR 2 4 [(9, (.int .i64 ((List.length (List.map stT d9) : Nat) : Int))), (3, (.int .i64 ((List.length (List.map stT d9) : Nat) : Int)))] ?_
 refine iF ?_
 refine aQ ?_
 refine aQ ?_
 refine aR ?_
 refine iR 1 1 [(4, (.int .i64 0))] ?_
 refine iF ?_
 refine Z1 K (id := 0) K ?_
 refine Nf K (fun a1 ρ w => ∃ (q : Int) (h : Int), V3 ρ [(1, (pt u 0)), (3, (.int .i64 q)), (4, (.int .i64 h))] ∧ SP [] w0 w [Qv u 24 #[(.int .i64 a2), (.int .i64 a3), (.int .i64 a4), (.int .i64 a5), (.slice A6 (List.length (List.map stT d9)) c7)]] ∧ Q8 (List.map stT d9) a1 q h = some r) (by rintro ρ w ⟨q, h, hk, hs, H⟩; cases H) ?_ Zj ?_
 ·rintro a1 ρ g7 ⟨q, h, hk, b3, H⟩
  refine At.known [(1, (pt u 0)), (3, (.int .i64 q)), (4, (.int .i64 h))] hk ?_
  replace H := (show Xo (Q8 (List.map stT d9) a1) (List.map stT d9) q h = some r from H)
  unfold Xo at H
  refine aQ ?_
  refine aQ ?_
  refine At.join (fun ρ w => ∃ (a7 : Bool), V3 ρ [(1, (pt u 0)), (3, (.int .i64 q)), (4, (.int .i64 h)), (18, (.bool a7))] ∧ SP [] w0 w [Qv u 24 #[(.int .i64 a2), (.int .i64 a3), (.int .i64 a4), (.int .i64 a5), (.slice A6 (List.length (List.map stT d9)) c7)]] ∧ Yb (Q8 (List.map stT d9) a1) (List.map stT d9) q h a7 = some r) ?_ ?_
  ·refine aR ?_
   refine iR 2 2 [(10, (.int .i64 h)), (11, (pt u 4))] ?_
   refine iS 3 ?_
   refine sL 22 11 u 4 0 (.slice A6 (List.length (List.map stT d9)) c7) 12 b3 rfl ?_
   refine iR 3 6 [(13, (.int .i64 ((List.length (List.map stT d9) : Nat) : Int))), (14, (.bool (decide (h < ((List.length (List.map stT d9) : Nat) : Int))))), (15, (.bool (decide (h < ((List.length (List.map stT d9) : Nat) : Int)))))] ?_
   refine In.guard (t := 15) (b := (decide (h < ((List.length (List.map stT d9) : Nat) : Int)))) K (fun b4 => ?_) (fun b4 => ?_)
   ·have H := ct H b4
    refine iR 3 9 [(16, (.int .i64 q)), (17, (.bool (decide (q < 3000)))), (18, (.bool (decide (q < 3000))))] ?_
    refine iF ?_
    exact ⟨(decide (q < 3000)), ⟨K, K, K, K, trivial⟩, SP.sel b3 [0] rfl rfl, H⟩
   ·have H := cf H b4
    refine iR 3 9 [(16, undef), (17, undef), (18, (.bool false))] ?_
    refine iF ?_
    exact ⟨false, ⟨K, K, K, K, trivial⟩, SP.sel b3 [0] rfl rfl, H⟩
  ·rintro ρ g8 ⟨a7, hk, a9, H⟩
   unfold Yb at H
   first | refine At.known [(1, (pt u 0)), (3, (.int .i64 q)), (4, (.int .i64 h)), (18, (.bool a7))] hk ?_ | rw [← Qz (l := [(1, (pt u 0)), (3, (.int .i64 q)), (4, (.int .i64 h)), (18, (.bool a7))]) hk]
   refine Zk K (o := (.tmp 18)) K (b := a7) K (fun b5 => ?_) (fun b5 => ?_)
   ·have H := ct H b5
    refine At.skip K ?_
    refine aQ ?_
    refine Z1 K (id := 1) K ?_
    refine aQ ?_
    refine aR ?_
    refine iR 1 1 [(21, (pt u 4))] ?_
    refine iS 2 ?_
    refine sL 22 21 u 4 0 (.slice A6 (List.length (List.map stT d9)) c7) 22 a9 rfl ?_
    refine iR 1 3 [(23, (.int .i64 h))] ?_
    obtain ⟨a, c0, c1, b0, H⟩ := G1 H
    refine iS 4 ?_
    refine Ug stT (e := Ua) (l := d9) (A := A6) (c := c7) (T := 22) (E := 44) (x := (.tmp 22)) (ix := (.tmp 23)) (ki := .i64) (iz := h) (d := (some 24)) (k := 3) K rfl K K K K (RdT.sp (Ut a6) a9) c0 c1 ?_
    intro d4 d5 d6 g9 hc480
    refine iS 5 ?_
    refine Qk.cells (t := 44) (x := (.tmp 24)) (b := d4) (off := (d5 + Int.toNat h * Ua.sz)) (xs := [(.string ⟨List.toArray (stT a).1⟩), (.int .i64 (stT a).2.1), (.int .i64 (stT a).2.2.1), (.slice a.2.2.2.1.1 (List.length (stT a).2.2.2.1) a.2.2.2.1.2.1), (.slice a.2.2.2.2.1 (List.length (stT a).2.2.2.2) a.2.2.2.2.2.1)]) (d := (some 25)) (k := 4) K rfl K K K (Z2 (e := Ua) (Qg (RdT.sp (Ut a6) a9) d6 c0 c1) b0 rfl) ?_
    refine iS 6 ?_
    refine Qk.alloc (t := 44) (z := (.agg #[(.string ⟨List.toArray ([] : List UInt8)⟩), (.int .i64 0), (.int .i64 0), (.slice none (List.length ([] : List (Int × Int))) 0), (.slice none (List.length ([] : List ((List UInt8) × (List UInt8) × Int))) 0)])) (d := (some 5)) (k := 5) K rfl K a9 ?_
    intro m h1 d7
    refine iS 7 ?_
    refine Qk.store (t := 44) (x := (.tmp 5)) (y := (.tmp 25)) (g := m) (off := 0) (i := 1) (v := (.agg #[(.string ⟨List.toArray (stT a).1⟩), (.int .i64 (stT a).2.1), (.int .i64 (stT a).2.2.1), (.slice a.2.2.2.1.1 (List.length (stT a).2.2.2.1) a.2.2.2.1.2.1), (.slice a.2.2.2.2.1 (List.length (stT a).2.2.2.2) a.2.2.2.2.2.1)])) (cs' := #[(.string ⟨List.toArray (stT a).1⟩), (.int .i64 (stT a).2.1), (.int .i64 (stT a).2.2.1), (.slice a.2.2.2.1.1 (List.length (stT a).2.2.2.1) a.2.2.2.1.2.1), (.slice a.2.2.2.2.1 (List.length (stT a).2.2.2.2) a.2.2.2.2.2.1)]) (d := none) (k := 6) K rfl K K d7 rfl K ?_
    intro h2 b1
    refine iF ?_
    refine aQ ?_
    refine aR ?_
    refine iR 2 2 [(26, (.int .i64 q)), (27, (pt m 0))] ?_
    refine iS 3 ?_
    refine sL 9 27 m 0 1 (.string ⟨List.toArray (stT a).1⟩) 28 b1 rfl ?_
    refine iR 4 7 [(29, (.int .i64 ((List.length (stT a).1 : Nat) : Int))), (30, (.int .i64 (if 3000 < ((List.length (stT a).1 : Nat) : Int) then 3000 else ((List.length (stT a).1 : Nat) : Int)))), (31, (.int .i64 (IntKind.wrap .i64 (q + (if 3000 < ((List.length (stT a).1 : Nat) : Int) then 3000 else ((List.length (stT a).1 : Nat) : Int)))))), (32, (pt m 3))] ?_
    refine iS 8 ?_
    refine sL 41 32 m 3 1 (.slice a.2.2.2.1.1 (List.length (stT a).2.2.2.1) a.2.2.2.1.2.1) 33 b1 rfl ?_
    refine iR 3 11 [(34, (.int .i64 ((List.length (stT a).2.2.2.1 : Nat) : Int))), (35, (.int .i64 (IntKind.wrap .i64 ((IntKind.wrap .i64 (q + (if 3000 < ((List.length (stT a).1 : Nat) : Int) then 3000 else ((List.length (stT a).1 : Nat) : Int)))) + ((List.length (stT a).2.2.2.1 : Nat) : Int))))), (36, (pt m 4))] ?_
    refine iS 12 ?_
    refine sL 42 36 m 4 1 (.slice a.2.2.2.2.1 (List.length (stT a).2.2.2.2) a.2.2.2.2.2.1) 37 b1 rfl ?_
    refine iR 3 15 [(38, (.int .i64 ((List.length (stT a).2.2.2.2 : Nat) : Int))), (39, (.int .i64 (IntKind.wrap .i64 ((IntKind.wrap .i64 ((IntKind.wrap .i64 (q + (if 3000 < ((List.length (stT a).1 : Nat) : Int) then 3000 else ((List.length (stT a).1 : Nat) : Int)))) + ((List.length (stT a).2.2.2.1 : Nat) : Int))) + ((List.length (stT a).2.2.2.2 : Nat) : Int))))), (3, (.int .i64 (IntKind.wrap .i64 ((IntKind.wrap .i64 ((IntKind.wrap .i64 (q + (if 3000 < ((List.length (stT a).1 : Nat) : Int) then 3000 else ((List.length (stT a).1 : Nat) : Int)))) + ((List.length (stT a).2.2.2.1 : Nat) : Int))) + ((List.length (stT a).2.2.2.2 : Nat) : Int)))))] ?_
    refine iF ?_
    refine aQ ?_
    refine aR ?_
    refine iR 1 1 [(6, (.int .i64 0))] ?_
    refine iF ?_
    refine Z1 K (id := 2) K ?_
    refine Nf K (fun b2 ρ w => ∃ (p : Int) (f : Int), V3 ρ [(1, (pt u 0)), (3, (.int .i64 p)), (4, (.int .i64 h)), (5, (pt m 0)), (6, (.int .i64 f))] ∧ SP [] w0 w [Qv u 24 #[(.int .i64 a2), (.int .i64 a3), (.int .i64 a4), (.int .i64 a5), (.slice A6 (List.length (List.map stT d9)) c7)], Qv m 44 #[(.string ⟨List.toArray (stT a).1⟩), (.int .i64 (stT a).2.1), (.int .i64 (stT a).2.2.1), (.slice a.2.2.2.1.1 (List.length (stT a).2.2.2.1) a.2.2.2.1.2.1), (.slice a.2.2.2.2.1 (List.length (stT a).2.2.2.2) a.2.2.2.2.2.1)]] ∧ Ze (Q8 (List.map stT d9) a1) h (stT a) b2 p f = some r) (by rintro ρ w ⟨p, f, hk, hs, H⟩; cases H) ?_ Zj ?_
    ·rintro b2 ρ h3 ⟨p, f, hk, b6, H⟩
     refine At.known [(1, (pt u 0)), (3, (.int .i64 p)), (4, (.int .i64 h)), (5, (pt m 0)), (6, (.int .i64 f))] hk ?_
     replace H := (show Z9 (Q8 (List.map stT d9) a1) (Ze (Q8 (List.map stT d9) a1) h (stT a) b2) h (stT a) p f = some r from H)
     unfold Z9 at H
     refine aQ ?_
     refine aQ ?_
     refine At.join (fun ρ w => ∃ (a8 : Bool), V3 ρ [(1, (pt u 0)), (3, (.int .i64 p)), (4, (.int .i64 h)), (5, (pt m 0)), (6, (.int .i64 f)), (48, (.bool a8))] ∧ SP [] w0 w [Qv u 24 #[(.int .i64 a2), (.int .i64 a3), (.int .i64 a4), (.int .i64 a5), (.slice A6 (List.length (List.map stT d9)) c7)], Qv m 44 #[(.string ⟨List.toArray (stT a).1⟩), (.int .i64 (stT a).2.1), (.int .i64 (stT a).2.2.1), (.slice a.2.2.2.1.1 (List.length (stT a).2.2.2.1) a.2.2.2.1.2.1), (.slice a.2.2.2.2.1 (List.length (stT a).2.2.2.2) a.2.2.2.2.2.1)]] ∧ Ya (Q8 (List.map stT d9) a1) (Ze (Q8 (List.map stT d9) a1) h (stT a) b2) h (stT a) p f a8 = some r) ?_ ?_
     ·refine aR ?_
      refine iR 2 2 [(40, (.int .i64 f)), (41, (pt m 4))] ?_
      refine iS 3 ?_
      refine sL 42 41 m 4 1 (.slice a.2.2.2.2.1 (List.length (stT a).2.2.2.2) a.2.2.2.2.2.1) 42 b6 rfl ?_
      refine iR 3 6 [(43, (.int .i64 ((List.length (stT a).2.2.2.2 : Nat) : Int))), (44, (.bool (decide (f < ((List.length (stT a).2.2.2.2 : Nat) : Int))))), (45, (.bool (decide (f < ((List.length (stT a).2.2.2.2 : Nat) : Int)))))] ?_
      refine In.guard (t := 45) (b := (decide (f < ((List.length (stT a).2.2.2.2 : Nat) : Int)))) K (fun b7 => ?_) (fun b7 => ?_)
      ·have H := ct H b7
       refine iR 3 9 [(46, (.int .i64 p)), (47, (.bool (decide (p < 3000)))), (48, (.bool (decide (p < 3000))))] ?_
       refine iF ?_
       exact ⟨(decide (p < 3000)), ⟨K, K, K, K, K, K, trivial⟩, SP.sel b6 [0, 1] rfl rfl, H⟩
      ·have H := cf H b7
       refine iR 3 9 [(46, undef), (47, undef), (48, (.bool false))] ?_
       refine iF ?_
       exact ⟨false, ⟨K, K, K, K, K, K, trivial⟩, SP.sel b6 [0, 1] rfl rfl, H⟩
     ·rintro ρ h4 ⟨a8, hk, c2, H⟩
      unfold Ya at H
      first | refine At.known [(1, (pt u 0)), (3, (.int .i64 p)), (4, (.int .i64 h)), (5, (pt m 0)), (6, (.int .i64 f)), (48, (.bool a8))] hk ?_ | rw [← Qz (l := [(1, (pt u 0)), (3, (.int .i64 p)), (4, (.int .i64 h)), (5, (pt m 0)), (6, (.int .i64 f)), (48, (.bool a8))]) hk]
      refine Zk K (o := (.tmp 48)) K (b := a8) K (fun b8 => ?_) (fun b8 => ?_)
      ·have H := ct H b8
       refine At.skip K ?_
       refine aQ ?_
       refine Z1 K (id := 3) K ?_
       obtain ⟨s, c3, c4, d8, H⟩ := Qn H
       obtain ⟨a0, c5, c6, e0, H⟩ := Qn H
       refine aG [GEq (.int .i64 p), GEq (pt m 4), GEq (.slice a.2.2.2.2.1 (List.length (stT a).2.2.2.2) a.2.2.2.2.2.1), GEq (.int .i64 f), Vi a.2.2.2.2.1 (Qf Qs (Qf Qs (Qd .i64))).sz f, Vi a.2.2.2.2.1 (Qf Qs (Qf Qs (Qd .i64))).sz f, GEq (.string ⟨List.toArray s.1⟩), GEq (.int .i64 ((List.length s.1 : Nat) : Int)), GEq (.int .i64 (if 3000 < ((List.length s.1 : Nat) : Int) then 3000 else ((List.length s.1 : Nat) : Int))), GEq (.int .i64 (IntKind.wrap .i64 (p + (if 3000 < ((List.length s.1 : Nat) : Int) then 3000 else ((List.length s.1 : Nat) : Int))))), GEq (pt m 4), GEq (.slice a.2.2.2.2.1 (List.length (stT a).2.2.2.2) a.2.2.2.2.2.1), GEq (.int .i64 f), Vi a.2.2.2.2.1 (Qf Qs (Qf Qs (Qd .i64))).sz f, GElem a.2.2.2.2.1 (Qf Qs (Qf Qs (Qd .i64))).sz f 1, GEq (.string ⟨List.toArray a0.2.1⟩), GEq (.int .i64 ((List.length a0.2.1 : Nat) : Int)), GEq (.int .i64 (if 3000 < ((List.length a0.2.1 : Nat) : Int) then 3000 else ((List.length a0.2.1 : Nat) : Int))), GEq (.int .i64 (IntKind.wrap .i64 ((IntKind.wrap .i64 (p + (if 3000 < ((List.length s.1 : Nat) : Int) then 3000 else ((List.length s.1 : Nat) : Int)))) + (if 3000 < ((List.length a0.2.1 : Nat) : Int) then 3000 else ((List.length a0.2.1 : Nat) : Int))))), GEq (.int .i64 (IntKind.wrap .i64 ((IntKind.wrap .i64 (p + (if 3000 < ((List.length s.1 : Nat) : Int) then 3000 else ((List.length s.1 : Nat) : Int)))) + (if 3000 < ((List.length a0.2.1 : Nat) : Int) then 3000 else ((List.length a0.2.1 : Nat) : Int)))))] [] (tG [] w0 [Qv u 24 #[(.int .i64 a2), (.int .i64 a3), (.int .i64 a4), (.int .i64 a5), (.slice A6 (List.length (List.map stT d9)) c7)], Qv m 44 #[(.string ⟨List.toArray (stT a).1⟩), (.int .i64 (stT a).2.1), (.int .i64 (stT a).2.2.1), (.slice a.2.2.2.1.1 (List.length (stT a).2.2.2.1) a.2.2.2.1.2.1), (.slice a.2.2.2.2.1 (List.length (stT a).2.2.2.2) a.2.2.2.2.2.1)]] [([], [])]) 20 0 ⟨trivial, SP.drew c2⟩ ?_ ?_
       iterate 20 refine And.intro ?_ ?_
       exact trivial
       ·exact oV (hC (hS 3 (.int .i64 p)) (h0)) (.int .i64 p)
       ·exact oV (hC (hS 5 (pt m 0)) (h0)) (pt m 4)
       ·refine oL 0 ?_
        ·rintro ρ' w' hs hah ⟨h5, e1⟩
         refine kM (kc (kA hah 1 52) k0) fun hkn => ?_
         refine sL 42 52 m 4 1 (.slice a.2.2.2.2.1 (List.length (stT a).2.2.2.2) a.2.2.2.2.2.1) 53 e1 rfl ?_
         exact eK hkn
       ·exact oV (hC (hS 6 (.int .i64 f)) (h0)) (.int .i64 f)
       ·refine oL 0 ?_
        ·rintro ρ' w' hs hah ⟨h6, e2⟩
         refine kM (kc (kA hah 2 53) (kc (kA hah 3 54) k0)) fun hkn => ?_
         refine Ve (e := (Qf Qs (Qf Qs (Qd .i64)))) (l := (stT a).2.2.2.2) (A := a.2.2.2.2.1) (c := a.2.2.2.2.2.1) (T := 42) (E := 48) (x := (.tmp 53)) (ix := (.tmp 54)) (ki := .i64) (iz := f) (d := (some 55)) (k := 4) K rfl K K K K (RdT.sp (Ut (dp2 (dp2 (dp2 (dp2 (D7 a6 b0)))))) e2) c3 c4 ?_
         intro e3 e4 e5 h7 hc655
         exact ⟨rfl, _, Qa hkn, ⟨e3, e4, e5, rfl⟩⟩
       ·refine oL 0 ?_
        ·rintro ρ' w' hs hah ⟨h8, h9⟩
         obtain ⟨c8, c9, e6, e7⟩ := hah 4 55 K
         refine kM (kc e7 k0) fun hkn => ?_
         refine Qk.run (k := 5) (v := (.pointer (some ⟨c8, (c9 + Int.toNat f * (Qf Qs (Qf Qs (Qd .i64))).sz), none⟩))) K ?_
         exact ⟨rfl, _, Qa hkn, ⟨c8, c9, e6, rfl⟩⟩
       ·refine oL 0 ?_
        ·rintro ρ' w' hs hah ⟨i0, e8⟩
         obtain ⟨e9, f0, f1, f2⟩ := hah 5 56 K
         refine kM (kc f2 k0) fun hkn => ?_
         refine sC 9 56 e9 (f0 + Int.toNat f * (Qf Qs (Qf Qs (Qd .i64))).sz) (.string ⟨List.toArray s.1⟩) 57 (Qj (e := (Qf Qs (Qf Qs (Qd .i64)))) (Qg (RdT.sp (Ut (dp2 (dp2 (dp2 (dp2 (D7 a6 b0)))))) e8) f1 c3 c4) d8 (j := 0) rfl) ?_
         exact eK hkn
       ·exact oV (hC (hA 6 57) (h0)) (.int .i64 ((List.length s.1 : Nat) : Int))
       ·exact oV (hC (hA 7 58) (h0)) (.int .i64 (if 3000 < ((List.length s.1 : Nat) : Int) then 3000 else ((List.length s.1 : Nat) : Int)))
       ·exact oV (hC (hA 0 51) (hC (hA 8 59) (h0))) (.int .i64 (IntKind.wrap .i64 (p + (if 3000 < ((List.length s.1 : Nat) : Int) then 3000 else ((List.length s.1 : Nat) : Int)))))
       ·exact oV (hC (hS 5 (pt m 0)) (h0)) (pt m 4)
       ·refine oL 0 ?_
        ·rintro ρ' w' hs hah ⟨i1, f3⟩
         refine kM (kc (kA hah 10 61) k0) fun hkn => ?_
         refine sL 42 61 m 4 1 (.slice a.2.2.2.2.1 (List.length (stT a).2.2.2.2) a.2.2.2.2.2.1) 62 f3 rfl ?_
         exact eK hkn
       ·exact oV (hC (hS 6 (.int .i64 f)) (h0)) (.int .i64 f)
       ·refine oL 0 ?_
        ·rintro ρ' w' hs hah ⟨i2, f4⟩
         refine kM (kc (kA hah 11 62) (kc (kA hah 12 63) k0)) fun hkn => ?_
         refine Ve (e := (Qf Qs (Qf Qs (Qd .i64)))) (l := (stT a).2.2.2.2) (A := a.2.2.2.2.1) (c := a.2.2.2.2.2.1) (T := 42) (E := 48) (x := (.tmp 62)) (ix := (.tmp 63)) (ki := .i64) (iz := f) (d := (some 64)) (k := 13) K rfl K K K K (RdT.sp (Ut (dp2 (dp2 (dp2 (dp2 (D7 a6 b0)))))) f4) c5 c6 ?_
         intro f5 f6 f7 i3 hc674
         exact ⟨rfl, _, Qa hkn, ⟨f5, f6, f7, rfl⟩⟩
       ·refine oL 0 ?_
        ·rintro ρ' w' hs hah ⟨i4, i5⟩
         obtain ⟨d0, d1, f8, f9⟩ := hah 13 64 K
         refine kM (kc f9 k0) fun hkn => ?_
         refine Qk.run (k := 14) (v := (.pointer (some ⟨d0, (d1 + Int.toNat f * (Qf Qs (Qf Qs (Qd .i64))).sz + 1), none⟩))) K ?_
         exact ⟨rfl, _, Qa hkn, ⟨d0, d1, f8, rfl⟩⟩
       ·refine oL 0 ?_
        ·rintro ρ' w' hs hah ⟨i6, g0⟩
         obtain ⟨g1, g2, g3, g4⟩ := hah 14 65 K
         refine kM (kc g4 k0) fun hkn => ?_
         refine sC 9 65 g1 (g2 + Int.toNat f * (Qf Qs (Qf Qs (Qd .i64))).sz + 1) (.string ⟨List.toArray a0.2.1⟩) 66 (Qj (e := (Qf Qs (Qf Qs (Qd .i64)))) (Qg (RdT.sp (Ut (dp2 (dp2 (dp2 (dp2 (D7 a6 b0)))))) g0) g3 c5 c6) e0 (j := 1) rfl) ?_
         exact eK hkn
       ·exact oV (hC (hA 15 66) (h0)) (.int .i64 ((List.length a0.2.1 : Nat) : Int))
       ·exact oV (hC (hA 16 67) (h0)) (.int .i64 (if 3000 < ((List.length a0.2.1 : Nat) : Int) then 3000 else ((List.length a0.2.1 : Nat) : Int)))
       ·exact oV (hC (hA 9 60) (hC (hA 17 68) (h0))) (.int .i64 (IntKind.wrap .i64 ((IntKind.wrap .i64 (p + (if 3000 < ((List.length s.1 : Nat) : Int) then 3000 else ((List.length s.1 : Nat) : Int)))) + (if 3000 < ((List.length a0.2.1 : Nat) : Int) then 3000 else ((List.length a0.2.1 : Nat) : Int)))))
       ·exact oV (hC (hA 18 69) (h0)) (.int .i64 (IntKind.wrap .i64 ((IntKind.wrap .i64 (p + (if 3000 < ((List.length s.1 : Nat) : Int) then 3000 else ((List.length s.1 : Nat) : Int)))) + (if 3000 < ((List.length a0.2.1 : Nat) : Int) then 3000 else ((List.length a0.2.1 : Nat) : Int)))))
       ·rintro ρ' w' hs hf ⟨i7, d2⟩
        refine Q4 [(1, (pt u 0)), (3, (.int .i64 (IntKind.wrap .i64 ((IntKind.wrap .i64 (p + (if 3000 < ((List.length s.1 : Nat) : Int) then 3000 else ((List.length s.1 : Nat) : Int)))) + (if 3000 < ((List.length a0.2.1 : Nat) : Int) then 3000 else ((List.length a0.2.1 : Nat) : Int)))))), (4, (.int .i64 h)), (5, (pt m 0)), (6, (.int .i64 f))] ⟨(hs 1 K).trans K, hf 19 3 K, (hs 4 K).trans K, (hs 5 K).trans K, (hs 6 K).trans K, trivial⟩ ?_
        obtain ⟨i8, g5⟩ : ∃ x, w' = x := ⟨_, rfl⟩
        rw [g5] at d2 ⊢
        refine aR ?_
        refine iR 3 3 [(49, (.int .i64 f)), (50, (.int .i64 (IntKind.wrap .i64 (f + 1)))), (6, (.int .i64 (IntKind.wrap .i64 (f + 1))))] ?_
        refine iF ?_
        exact ⟨(IntKind.wrap .i64 ((IntKind.wrap .i64 (p + (if 3000 < ((List.length s.1 : Nat) : Int) then 3000 else ((List.length s.1 : Nat) : Int)))) + (if 3000 < ((List.length a0.2.1 : Nat) : Int) then 3000 else ((List.length a0.2.1 : Nat) : Int)))), (IntKind.wrap .i64 (f + 1)), ⟨K, K, K, K, K, trivial⟩, SP.sel d2 [0, 1] rfl rfl, H⟩
      ·have H := cf H b8
       refine At.exit K (id := 2) K ?_
       refine aR ?_
       refine iR 3 3 [(19, (.int .i64 h)), (20, (.int .i64 (IntKind.wrap .i64 (h + 1)))), (4, (.int .i64 (IntKind.wrap .i64 (h + 1))))] ?_
       refine iF ?_
       exact ⟨p, (IntKind.wrap .i64 (h + 1)), ⟨K, K, K, trivial⟩, SP.sel c2 [0] rfl rfl, H⟩
    ·exact ⟨(IntKind.wrap .i64 ((IntKind.wrap .i64 ((IntKind.wrap .i64 (q + (if 3000 < ((List.length (stT a).1 : Nat) : Int) then 3000 else ((List.length (stT a).1 : Nat) : Int)))) + ((List.length (stT a).2.2.2.1 : Nat) : Int))) + ((List.length (stT a).2.2.2.2 : Nat) : Int))), 0, ⟨K, K, K, K, K, trivial⟩, SP.sel b1 [0, 1] rfl rfl, H⟩
   ·have H := cf H b5
    refine At.exit K (id := 0) K ?_
    refine aQ ?_
    refine aR ?_
    refine iR 3 3 [(70, (.int .i64 q)), (71, (.bool (decide (q ≥ 3000)))), (2, (.bool (decide (q ≥ 3000))))] ?_
    refine iF ?_
    refine At.ret K ?_
    refine ⟨(.bool (decide (q ≥ 3000))), K, ?_⟩
    obtain rfl := Qh H
    exact ⟨rfl, SP.sel a9 [] rfl rfl⟩
 ·exact ⟨((List.length (List.map stT d9) : Nat) : Int), 0, ⟨K, K, K, trivial⟩, SP.sel b9 [0] rfl rfl, H⟩
end Go.Proofs.YtmgfanhcdfobhaaGreatDoor
namespace Go.Proofs.YtmgfanhcdfobhaaGreatDoor
abbrev Str := List UInt8
abbrev Ld := Int × Int
abbrev Ex := Str × Str × Int
theorem lNameM (s : Str) (h : s.length ≤ 140737488355328) : Uy s = some (Ci s) := by
  by_cases h9 : s.length ≤ 9000
  · exact lName s h9
  · unfold Uy Yu Ci
    have hne : (s == ([] : List UInt8)) = false := by rw [beq_eq_false_iff_ne]; intro e; subst e; simp at h9
    rw [hne, show decide (((List.length s : Nat) : Int) ≤ 20) = false from decide_eq_false (by omega), show decide (s.length ≤ 20) = false from decide_eq_false (by omega)]
    simp
theorem Fp (l : List Ld) (P : Ld → Bool) (p : Int → Int → Option Bool) (hp : ∀ x ∈ l, p x.1 x.2 = some (P x)) (hl : l.length ≤ 140737488355328) :
    ∀ (d i f : Nat), d = l.length - i → i ≤ l.length → d < f → ∃ r, Q3 l p f (i : Int) = some r ∧ decide (r ≥ 0) = (l.drop i).any P := by
  intro d
  induction d with
  | zero =>
    intro i f hd hi hf
    obtain ⟨f, rfl⟩ : ∃ g, f = g + 1 := ⟨f - 1, by omega⟩
    refine ⟨-1, ?_, ?_⟩
    · show Vd (Q3 l p f) l p (i : Int) = _
      unfold Vd
      rw [show decide ((i : Int) < ((l.length : Nat) : Int)) = false from decide_eq_false (by omega), cond_false]
    · rw [List.drop_of_length_le (by omega)]
      rfl
  | succ d ih =>
    intro i f hd hi hf
    obtain ⟨f, rfl⟩ : ∃ g, f = g + 1 := ⟨f - 1, by omega⟩
    have hlt : i < l.length := by omega
    obtain ⟨r, h1, h2⟩ := ih (i + 1) f (by omega) (by omega) (by omega)
    rw [List.drop_eq_getElem_cons hlt, List.any_cons]
    have hstep : Q3 l p (f + 1) (i : Int) = cond (P l[i]) (some (i : Int)) (Q3 l p f ((i + 1 : Nat) : Int)) := by
      show Vd (Q3 l p f) l p (i : Int) = _
      unfold Vd
      rw [show decide ((i : Int) < ((l.length : Nat) : Int)) = true from decide_eq_true (by omega), cond_true, Jo hlt, Option.bind_some, hp _ (List.getElem_mem hlt), Option.bind_some, show ((i : Int) + 1) = ((i + 1 : Nat) : Int) by omega, Xj (by omega)]
    rw [hstep]
    cases hP : P l[i] with
    | true => exact ⟨(i : Int), rfl, by rw [decide_eq_true (by omega), Bool.true_or]⟩
    | false => exact ⟨r, h1, by rw [h2, Bool.false_or]⟩
theorem Le (l : List Ld) (P : Ld → Bool) (p : Int → Int → Option Bool) (hp : ∀ x ∈ l, p x.1 x.2 = some (P x)) (hl : l.length ≤ 140737488355328) : V7 l p = some (l.any P) := by
  obtain ⟨r, h1, h2⟩ := Fp l P p hp hl l.length 0 Zj (by omega) (by omega) (by unfold Zj; omega)
  unfold V7 Xg
  rw [show ((0 : Nat) : Int) = 0 from rfl] at h1
  rw [h1, Option.bind_some, h2, List.drop_zero]
theorem Ey (l : List Ex) (P : Ex → Bool) (p : Str → Str → Int → Option Bool) (hp : ∀ x ∈ l, p x.1 x.2.1 x.2.2 = some (P x)) (hl : l.length ≤ 140737488355328) :
    ∀ (d i f : Nat), d = l.length - i → i ≤ l.length → d < f → ∃ r, Qq l p f (i : Int) = some r ∧ decide (r ≥ 0) = (l.drop i).any P := by
  intro d
  induction d with
  | zero =>
    intro i f hd hi hf
    obtain ⟨f, rfl⟩ : ∃ g, f = g + 1 := ⟨f - 1, by omega⟩
    refine ⟨-1, ?_, ?_⟩
    · show Qt (Qq l p f) l p (i : Int) = _
      unfold Qt
      rw [show decide ((i : Int) < ((l.length : Nat) : Int)) = false from decide_eq_false (by omega), cond_false]
    · rw [List.drop_of_length_le (by omega)]
      rfl
  | succ d ih =>
    intro i f hd hi hf
    obtain ⟨f, rfl⟩ : ∃ g, f = g + 1 := ⟨f - 1, by omega⟩
    have hlt : i < l.length := by omega
    obtain ⟨r, h1, h2⟩ := ih (i + 1) f (by omega) (by omega) (by omega)
    rw [List.drop_eq_getElem_cons hlt, List.any_cons]
    have hstep : Qq l p (f + 1) (i : Int) = cond (P l[i]) (some (i : Int)) (Qq l p f ((i + 1 : Nat) : Int)) := by
      show Qt (Qq l p f) l p (i : Int) = _
      unfold Qt
      rw [show decide ((i : Int) < ((l.length : Nat) : Int)) = true from decide_eq_true (by omega), cond_true, Jo hlt, Option.bind_some, hp _ (List.getElem_mem hlt), Option.bind_some, show ((i : Int) + 1) = ((i + 1 : Nat) : Int) by omega, Xj (by omega)]
    rw [hstep]
    cases hP : P l[i] with
    | true => exact ⟨(i : Int), rfl, by rw [decide_eq_true (by omega), Bool.true_or]⟩
    | false => exact ⟨r, h1, by rw [h2, Bool.false_or]⟩
theorem Ik (l : List Ex) (P : Ex → Bool) (p : Str → Str → Int → Option Bool) (hp : ∀ x ∈ l, p x.1 x.2.1 x.2.2 = some (P x)) (hl : l.length ≤ 140737488355328) : Vv l p = some (l.any P) := by
  obtain ⟨r, h1, h2⟩ := Ey l P p hp hl l.length 0 Zj (by omega) (by omega) (by unfold Zj; omega)
  unfold Vv Vk
  rw [show ((0 : Nat) : Int) = 0 from rfl] at h1
  rw [h1, Option.bind_some, h2, List.drop_zero]
theorem Ea (l : List Qi) (P : Qi → Bool) (p : Str → Int → Int → List Ld → List Ex → Option Bool) (hp : ∀ x ∈ l, p x.1 x.2.1 x.2.2.1 x.2.2.2.1 x.2.2.2.2 = some (P x)) (hl : l.length ≤ 140737488355328) :
    ∀ (d i f : Nat), d = l.length - i → i ≤ l.length → d < f → ∃ r, Qp l p f (i : Int) = some r ∧ decide (r ≥ 0) = (l.drop i).any P := by
  intro d
  induction d with
  | zero =>
    intro i f hd hi hf
    obtain ⟨f, rfl⟩ : ∃ g, f = g + 1 := ⟨f - 1, by omega⟩
    refine ⟨-1, ?_, ?_⟩
    · show Qr (Qp l p f) l p (i : Int) = _
      unfold Qr
      rw [show decide ((i : Int) < ((l.length : Nat) : Int)) = false from decide_eq_false (by omega), cond_false]
    · rw [List.drop_of_length_le (by omega)]
      rfl
  | succ d ih =>
    intro i f hd hi hf
    obtain ⟨f, rfl⟩ : ∃ g, f = g + 1 := ⟨f - 1, by omega⟩
    have hlt : i < l.length := by omega
    obtain ⟨r, h1, h2⟩ := ih (i + 1) f (by omega) (by omega) (by omega)
    rw [List.drop_eq_getElem_cons hlt, List.any_cons]
    have hstep : Qp l p (f + 1) (i : Int) = cond (P l[i]) (some (i : Int)) (Qp l p f ((i + 1 : Nat) : Int)) := by
      show Qr (Qp l p f) l p (i : Int) = _
      unfold Qr
      rw [show decide ((i : Int) < ((l.length : Nat) : Int)) = true from decide_eq_true (by omega), cond_true, Jo hlt, Option.bind_some, hp _ (List.getElem_mem hlt), Option.bind_some, show ((i : Int) + 1) = ((i + 1 : Nat) : Int) by omega, Xj (by omega)]
    rw [hstep]
    cases hP : P l[i] with
    | true => exact ⟨(i : Int), rfl, by rw [decide_eq_true (by omega), Bool.true_or]⟩
    | false => exact ⟨r, h1, by rw [h2, Bool.false_or]⟩
theorem Ht (l : List Qi) (P : Qi → Bool) (p : Str → Int → Int → List Ld → List Ex → Option Bool) (hp : ∀ x ∈ l, p x.1 x.2.1 x.2.2.1 x.2.2.2.1 x.2.2.2.2 = some (P x)) (hl : l.length ≤ 140737488355328) : Vo l p = some (l.any P) := by
  obtain ⟨r, h1, h2⟩ := Ea l P p hp hl l.length 0 Zj (by omega) (by omega) (by unfold Zj; omega)
  unfold Vo Vh
  rw [show ((0 : Nat) : Int) = 0 from rfl] at h1
  rw [h1, Option.bind_some, h2, List.drop_zero]
def Hr : List Str → Bool
  | [] => true
  | [_] => true
  | a :: b :: r => Op.bytesLess a b && Hr (b :: r)
theorem F9 (l : List Str) (i : Nat) (h : i + 1 < l.length) : Hr (l.drop i) = (Op.bytesLess (l[i]'(by omega)) (l[i + 1]'h) && Hr (l.drop (i + 1))) := by
  rw [List.drop_eq_getElem_cons (by omega : i < l.length), List.drop_eq_getElem_cons h]
  rfl
theorem Cs (l : List Str) (i : Nat) (h : l.length ≤ i + 1) : Hr (l.drop i) = true := by
  by_cases h2 : i < l.length
  · rw [List.drop_eq_getElem_cons h2, List.drop_of_length_le (by omega)]
    rfl
  · rw [List.drop_of_length_le (by omega)]
    rfl
theorem Fq (l : List Ex) (p : Str → Str → Int → Option Str) (hp : ∀ x : Ex, p x.1 x.2.1 x.2.2 = some x.1) (hl : l.length ≤ 140737488355328) :
    ∀ (d i f : Nat), d = l.length - i → 1 ≤ i → d < f → Zc l p f (i : Int) = some (Hr ((l.map (·.1)).drop (i - 1))) := by
  intro d
  induction d with
  | zero =>
    intro i f hd hi hf
    obtain ⟨f, rfl⟩ : ∃ g, f = g + 1 := ⟨f - 1, by omega⟩
    show Zb (Zc l p f) l p (i : Int) = _
    unfold Zb
    rw [show decide ((i : Int) < ((l.length : Nat) : Int)) = false from decide_eq_false (by omega), cond_false, Cs _ _ (by simp; omega)]
  | succ d ih =>
    intro i f hd hi hf
    obtain ⟨f, rfl⟩ : ∃ g, f = g + 1 := ⟨f - 1, by omega⟩
    have hlt : i < l.length := by omega
    have hlt' : i - 1 < l.length := by omega
    show Zb (Zc l p f) l p (i : Int) = _
    unfold Zb
    rw [show decide ((i : Int) < ((l.length : Nat) : Int)) = true from decide_eq_true (by omega), cond_true, show ((i : Int) - 1) = ((i - 1 : Nat) : Int) by omega, Xj (by omega), Jo hlt', Option.bind_some, hp, Option.bind_some, Jo hlt, Option.bind_some, hp, Option.bind_some,
      show ((i : Int) + 1) = ((i + 1 : Nat) : Int) by omega, Xj (by omega), ih (i + 1) f (by omega) (by omega) (by omega), F9 _ (i - 1) (by simp; omega)]
    simp only [show i - 1 + 1 = i by omega, show i + 1 - 1 = i by omega, List.getElem_map]
    cases Op.bytesLess l[i - 1].1 l[i].1 with
    | true => rfl
    | false => rfl
theorem Lf (l : List Ex) (p : Str → Str → Int → Option Str) (hp : ∀ x : Ex, p x.1 x.2.1 x.2.2 = some x.1) (hl : l.length ≤ 140737488355328) : Yp l p = some (Hr (l.map (·.1))) := by
  have := Fq l p hp hl (l.length - 1) 1 Zj rfl (Nat.le_refl _) (by unfold Zj; omega)
  unfold Yp
  rw [show ((1 : Nat) : Int) = 1 from rfl] at this
  rw [this]
  rfl
theorem Fa (l : List Qi) (p : Str → Int → Int → List Ld → List Ex → Option Str) (hp : ∀ x : Qi, p x.1 x.2.1 x.2.2.1 x.2.2.2.1 x.2.2.2.2 = some x.1) (hl : l.length ≤ 140737488355328) :
    ∀ (d i f : Nat), d = l.length - i → 1 ≤ i → d < f → V5 l p f (i : Int) = some (Hr ((l.map (·.1)).drop (i - 1))) := by
  intro d
  induction d with
  | zero =>
    intro i f hd hi hf
    obtain ⟨f, rfl⟩ : ∃ g, f = g + 1 := ⟨f - 1, by omega⟩
    show V4 (V5 l p f) l p (i : Int) = _
    unfold V4
    rw [show decide ((i : Int) < ((l.length : Nat) : Int)) = false from decide_eq_false (by omega), cond_false, Cs _ _ (by simp; omega)]
  | succ d ih =>
    intro i f hd hi hf
    obtain ⟨f, rfl⟩ : ∃ g, f = g + 1 := ⟨f - 1, by omega⟩
    have hlt : i < l.length := by omega
    have hlt' : i - 1 < l.length := by omega
    show V4 (V5 l p f) l p (i : Int) = _
    unfold V4
    rw [show decide ((i : Int) < ((l.length : Nat) : Int)) = true from decide_eq_true (by omega), cond_true, show ((i : Int) - 1) = ((i - 1 : Nat) : Int) by omega, Xj (by omega), Jo hlt', Option.bind_some, hp, Option.bind_some, Jo hlt, Option.bind_some, hp, Option.bind_some,
      show ((i : Int) + 1) = ((i + 1 : Nat) : Int) by omega, Xj (by omega), ih (i + 1) f (by omega) (by omega) (by omega), F9 _ (i - 1) (by simp; omega)]
    simp only [show i - 1 + 1 = i by omega, show i + 1 - 1 = i by omega, List.getElem_map]
    cases Op.bytesLess l[i - 1].1 l[i].1 with
    | true => rfl
    | false => rfl
theorem Kh (l : List Qi) (p : Str → Int → Int → List Ld → List Ex → Option Str) (hp : ∀ x : Qi, p x.1 x.2.1 x.2.2.1 x.2.2.2.1 x.2.2.2.2 = some x.1) (hl : l.length ≤ 140737488355328) : Yd l p = some (Hr (l.map (·.1))) := by
  have := Fa l p hp hl (l.length - 1) 1 Zj rfl (Nat.le_refl _) (by unfold Zj; omega)
  unfold Yd
  rw [show ((1 : Nat) : Int) = 1 from rfl] at this
  rw [this]
  rfl
def Il (n : Ld) : Bool := D6 n.1.toNat n.2
def Fs (x : Ex) : Bool := Ci x.1 && ((decide (1 ≤ x.2.1.length) && decide (x.2.1.length ≤ 32)) && (decide (0 ≤ x.2.2) && decide (x.2.2 ≤ 1099511627776)))
def qOk (n : Int) : Bool := decide (0 ≤ n) && decide (n ≤ 8)
def Ez (t : Qi) : Bool := (t.2.2.2.1.all Il && t.2.2.2.2.all Fs) && ((Ci t.1 && (decide (t.2.2.2.1.length ≤ 4) && decide (t.2.2.2.2.length ≤ 4))) && ((qOk t.2.1 && qOk t.2.2.1) && Hr (t.2.2.2.2.map (·.1))))
def Gb (n : Int) : Bool := decide (1 ≤ n) && decide (n ≤ 1073741824)
def Fb (w g i e : Int) (l : List Qi) : Bool := (Gb w && (Gb g && (Gb i && Gb e))) && (decide (l.length ≤ 8) && (l.all Ez && Hr (l.map (·.1))))
def Lg (t : Qi) : Prop := t.1.length ≤ 140737488355328 ∧ t.2.2.2.1.length ≤ 140737488355328 ∧ t.2.2.2.2.length ≤ 140737488355328 ∧ (∀ n ∈ t.2.2.2.1, 0 ≤ n.1 ∧ n.1 < 4294967296) ∧ ∀ x ∈ t.2.2.2.2, x.1.length ≤ 140737488355328 ∧ x.2.1.length ≤ 140737488355328
theorem Ha (n a b : Int) : Y5 n a b = some (decide (a ≤ n) && decide (n ≤ b)) := by
  unfold Y5 U0
  by_cases h : n ≥ a
  · rw [show decide (n ≥ a) = true from decide_eq_true h]
    rfl
  · rw [show decide (n ≥ a) = false from decide_eq_false h]
    rfl
theorem slash_nil (a : Nat) (b : Int) : (Mc a b == ([] : List UInt8)) = !(D6 a b) := by
  unfold Mc
  cases D6 a b with
  | true =>
    simp only [Bool.not_true, beq_eq_false_iff_ne]
    intro h
    have := congrArg List.length h
    simp at this
  | false => rfl
theorem lNetBad {n : Ld} (h : 0 ≤ n.1 ∧ n.1 < 4294967296) : Uh n.1 n.2 = some (!(Il n)) := by
  unfold Uh Il
  obtain ⟨a, ha⟩ : ∃ a : Nat, n.1 = (a : Int) := ⟨n.1.toNat, by omega⟩
  rw [ha, lSlash a (by omega), Option.bind_some, slash_nil, Int.toNat_natCast]
theorem lToken {x : Ex} (h : x.1.length ≤ 140737488355328) : G2 x.1 x.2.1 x.2.2 = some (Fs x) := by
  unfold G2 Ui Fs
  rw [lNameM _ h, Option.bind_some, Ha, Ha]
  cases Ci x.1 with
  | false => rfl
  | true =>
    rw [cond_true, Option.bind_some, show decide (1 ≤ ((List.length x.2.1 : Nat) : Int)) = decide (1 ≤ x.2.1.length) from decide_eq_decide.2 (by omega), show decide (((List.length x.2.1 : Nat) : Int) ≤ 32) = decide (x.2.1.length ≤ 32) from decide_eq_decide.2 (by omega)]
    cases (decide (1 ≤ x.2.1.length) && decide (x.2.1.length ≤ 32)) <;> rfl
theorem Lh {α : Type} (p : α → Bool) (l : List α) : l.any (fun x => !(p x)) = !(l.all p) := by
  induction l with
  | nil => rfl
  | cons x l ih => rw [List.any_cons, List.all_cons, ih, Bool.not_and]
theorem lTenant {t : Qi} (h : Lg t) : Gg t.1 t.2.1 t.2.2.1 t.2.2.2.1 t.2.2.2.2 = some (Ez t) := by
  obtain ⟨h1, h2, h3, h4, h5⟩ := h
  unfold Gg
  rw [Le t.2.2.2.1 (fun n => !(Il n)) _ (fun n hn => lNetBad (h4 n hn)) h2, Option.bind_some, Ik t.2.2.2.2 (fun x => !(Fs x)) _ (fun x hx => by unfold Nh; rw [lToken (h5 x hx).1]; rfl) h3, Lh, Lh]
  have k5 : ∀ v, Ju t.2.1 t.2.2.1 t.2.2.2.2 v = some (!v && ((qOk t.2.1 && qOk t.2.2.1) && Hr (t.2.2.2.2.map (·.1)))) := by
    intro v
    unfold Ju Jt
    cases v with
    | true => rfl
    | false =>
      rw [cond_false, Ha, Ha, Option.bind_some, Option.bind_some, Lf _ _ (fun x => rfl) h3]
      unfold qOk
      cases (decide (0 ≤ t.2.1) && decide (t.2.1 ≤ 8)) <;> cases (decide (0 ≤ t.2.2.1) && decide (t.2.2.1 ≤ 8)) <;> cases Hr (t.2.2.2.2.map (·.1)) <;> rfl
  have k1 : ∀ v, Jv t.1 t.2.1 t.2.2.1 t.2.2.2.1 t.2.2.2.2 v = some (!v && ((Ci t.1 && (decide (t.2.2.2.1.length ≤ 4) && decide (t.2.2.2.2.length ≤ 4))) && ((qOk t.2.1 && qOk t.2.2.1) && Hr (t.2.2.2.2.map (·.1))))) := by
    intro v
    unfold Jv U3 U2
    cases v with
    | true => rw [cond_true, k5]; rfl
    | false =>
      rw [cond_false, lNameM _ h1, Option.bind_some]
      simp only [k5]
      rw [show decide (((List.length t.2.2.2.1 : Nat) : Int) > 4) = !(decide (t.2.2.2.1.length ≤ 4)) by rw [← decide_not]; exact decide_eq_decide.2 (by omega), show decide (((List.length t.2.2.2.2 : Nat) : Int) > 4) = !(decide (t.2.2.2.2.length ≤ 4)) by rw [← decide_not]; exact decide_eq_decide.2 (by omega)]
      cases Ci t.1 <;> cases decide (t.2.2.2.1.length ≤ 4) <;> cases decide (t.2.2.2.2.length ≤ 4) <;> rfl
  unfold Ez
  cases t.2.2.2.1.all Il with
  | false =>
    rw [show (!false) = true from rfl, cond_true, k1]
    rfl
  | true =>
    rw [show (!true) = false from rfl, cond_false, Option.bind_some, k1]
    cases t.2.2.2.2.all Fs <;> rfl
theorem M2 (w g i e : Int) (l : List Qi) (rec3 : Int → Option Bool) (hl : l.length ≤ 140737488355328) (hq : ∀ t ∈ l, Lg t) : Yx rec3 w g i e l ((0 + 1 + 1 + 1 + 1 : Nat) : Int) = some (decide (l.length ≤ 8) && (l.all Ez && Hr (l.map (·.1)))) := by
  unfold Yx Uj
  rw [show decide (((0 + 1 + 1 + 1 + 1 : Nat) : Int) < ((List.length ([w, g, i, e] : List Int) : Nat) : Int)) = false from rfl, cond_false, Ht l (fun t => !(Ez t)) _ (fun t ht => by unfold N2; rw [lTenant (hq t ht)]; rfl) hl, Lh, Kh _ _ (fun x => rfl) hl,
    show decide (((List.length l : Nat) : Int) ≤ 8) = decide (l.length ≤ 8) from decide_eq_decide.2 (by omega)]
  cases decide (l.length ≤ 8) <;> cases l.all Ez <;> cases Hr (l.map (·.1)) <;> rfl
theorem Br (w g i e : Int) (l : List Qi) (rec3 : Int → Option Bool) (k : Nat) (x : Int) (hk : k < 4) (hx : [w, g, i, e][k]? = some x) : Yx rec3 w g i e l (k : Int) = cond (Gb x) (rec3 ((k + 1 : Nat) : Int)) (some false) := by
  unfold Yx
  rw [show decide ((k : Int) < ((List.length ([w, g, i, e] : List Int) : Nat) : Int)) = true from decide_eq_true (by simp only [List.length_cons, List.length_nil]; omega), cond_true, show idx ([w, g, i, e] : List Int) (k : Int) = some x by rw [F8]; exact hx, Option.bind_some, Ha, Option.bind_some, show ((k : Int) + 1) = ((k + 1 : Nat) : Int) by omega, Xj (by omega)]
  unfold Gb
  cases (decide (1 ≤ x) && decide (x ≤ 1073741824)) <;> rfl
theorem lCfg (w g i e : Int) (l : List Qi) (hl : l.length ≤ 140737488355328) (hq : ∀ t ∈ l, Lg t) : G3 w g i e l = some (Fb w g i e l) := by
  have unf : ∀ f (v : Int), Jg w g i e l (f + 1) v = Yx (Jg w g i e l f) w g i e l v := fun _ _ => rfl
  unfold G3 Fb
  rw [show Zj = 18446744073709551611 + 1 + 1 + 1 + 1 + 1 from rfl]
  rw [unf, show (0 : Int) = ((0 : Nat) : Int) from rfl, Br w g i e l _ 0 w (by omega) rfl, unf, Br w g i e l _ (0 + 1) g (by omega) rfl, unf, Br w g i e l _ (0 + 1 + 1) i (by omega) rfl, unf, Br w g i e l _ (0 + 1 + 1 + 1) e (by omega) rfl, unf, M2 w g i e l _ hl hq]
  cases Gb w <;> cases Gb g <;> cases Gb i <;> cases Gb e <;> rfl
end Go.Proofs.YtmgfanhcdfobhaaGreatDoor
