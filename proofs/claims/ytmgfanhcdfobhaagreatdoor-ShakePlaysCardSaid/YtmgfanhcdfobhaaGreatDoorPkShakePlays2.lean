import Derived.Test.YtmgfanhcdfobhaaGreatDoorPkShakePlays1
set_option linter.unusedSimpArgs false
set_option linter.unusedVariables false
set_option linter.unusedSectionVars false
set_option maxRecDepth 100000
set_option maxHeartbeats 4000000
namespace Go.Proofs.YtmgfanhcdfobhaaGreatDoor
open Go.RowKit
def U5 (v5 : Bool) : Option (Bool) :=
  (some (v5))
def Y3 (p1 : Int) (p2 : Int) (p3 : Int) : Option (Bool) :=
  (cond (decide (p1 ≥ p2)) (U5 (decide (p1 ≤ p3))) (U5 false))
theorem Uf  (p1 : Int) (p2 : Int) (p3 : Int) (w0 : World)  (r : (Bool)) (H : Y3 p1 p2 p3 = some r) :
  Calls Tryz.prog 59 #[(.int .i64 p1), (.int .i64 p2), (.int .i64 p3)] w0 (fun e w' => e = .returned (.bool r) ∧ SP [] w0 w' []) := by
 unfold Y3 at H
 refine Qs (n := 15) Tryz.func59 K K K ?_
 have c := Q0 [] w0
 refine aQ ?_
 refine aR ?_
 refine iR 1 1 [(6, (.bool false))] ?_
 refine iF ?_
 refine aQ ?_
 refine At.join (fun ρ w => ∃ (v5 : Bool), V6 ρ [(6, (.bool v5))] ∧ SP [] w0 w [] ∧ U5 v5 = some r) ?_ ?_
 ·refine aR ?_
  refine iR 4 4 [(7, (.int .i64 p1)), (8, (.int .i64 p2)), (9, (.bool (decide (p1 ≥ p2)))), (10, (.bool (decide (p1 ≥ p2))))] ?_
  refine In.guard (t := 10) (b := (decide (p1 ≥ p2))) K (fun a => ?_) (fun a => ?_)
  ·have H := ct H a
   refine iR 5 9 [(11, (.int .i64 p1)), (12, (.int .i64 p3)), (13, (.bool (decide (p1 ≤ p3)))), (14, (.bool (decide (p1 ≤ p3)))), (6, (.bool (decide (p1 ≤ p3))))] ?_
   refine iF ?_
   exact ⟨(decide (p1 ≤ p3)), ⟨K, trivial⟩, SP.sel c [] rfl rfl, H⟩
  ·have H := cf H a
   refine iR 5 9 [(11, undef), (12, undef), (13, undef), (14, (.bool false)), (6, (.bool false))] ?_
   refine iF ?_
   exact ⟨false, ⟨K, trivial⟩, SP.sel c [] rfl rfl, H⟩
 ·rintro ρ w6 ⟨v5, hk, d, H⟩
  unfold U5 at H
  first | refine At.known [(6, (.bool v5))] hk ?_ | rw [← Qv (l := [(6, (.bool v5))]) hk]
  refine At.ret K ?_
  refine ⟨(.bool v5), K, ?_⟩
  obtain rfl := Qe H
  exact ⟨rfl, SP.sel d [] rfl rfl⟩
def Ve (c : Int → Option (Int)) (p1 : (List (Int × Int))) (p5 : (Int → Int → Option (Bool))) (a : Int) : Option (Int) :=
  (cond (decide (a < ((List.length p1 : Nat) : Int))) ((idx p1 a).bind fun b => ((p5 b.1 b.2).bind fun d => (cond d (some (a)) (c (IntKind.wrap .i64 (a + 1)))))) (some ((-1))))
def Q2 (p1 : (List (Int × Int))) (p5 : (Int → Int → Option (Bool))) : Nat → Int → Option (Int)
  | 0, _ => none
  | f + 1, a => Ve  (Q2 p1 p5 f) p1 p5 a
def Xf (p1 : (List (Int × Int))) (p5 : (Int → Int → Option (Bool))) : Option (Int) :=
  (Q2 p1 p5 Zj 0)
theorem Gt (A2 : Option Addr) (c3 : Nat) (g : FuncId) (h : Array Value) (p1 : (List (Int × Int))) (p5 : (Int → Int → Option (Bool))) (w0 : World) (q : RdT (Qj (Qc .u32) (Qc .i64)) w0 A2 c3 p1) (hcf8 : ∀ (args : Array Value) (w : World), (callFunc g args).run Tryz.prog w = .ok (.enter g args) w) (a1 : ∀ (y0 : Int) (y1 : Int) (z : (Bool)) (w : World), Below w0.heap.size w0 w → p5 y0 y1 = some z → Calls Tryz.prog g (([(.agg #[(.int .u32 y0), (.int .i64 y1)])] : List Value) ++ (h).toList).toArray w (fun e w' => e = .returned (.bool z) ∧ SP [] w w' [])) (r : (Int)) (H : Xf p1 p5 = some r) :
  Calls Tryz.prog 94 #[(.slice A2 (List.length p1) c3), (.func (.func g) #[] h)] w0 (fun e w' => e = .returned (.int .i64 r) ∧ SP [] w0 w' []) := by
 unfold Xf at H
 refine Qs (n := 19) Tryz.func94 K K K ?_
 have a2 := Q0 [] w0
 refine aQ ?_
 refine aR ?_
 refine iR 1 1 [(4, (.int .i64 0))] ?_
 refine iF ?_
 refine aQ ?_
 refine aQ ?_
 refine aR ?_
 refine iR 3 3 [(6, (.slice A2 (List.length p1) c3)), (7, (.int .i64 ((List.length p1 : Nat) : Int))), (8, (.int .i64 0))] ?_
 refine iF ?_
 refine Z1 K (id := 0) K ?_
 refine Nl K (fun f1 ρ w => ∃ (a : Int), V6 ρ [(0, (.slice A2 (List.length p1) c3)), (1, (.func (.func g) #[] h)), (7, (.int .i64 ((List.length p1 : Nat) : Int))), (8, (.int .i64 a))] ∧ SP [] w0 w [] ∧ Q2 p1 p5 f1 a = some r) (by rintro ρ w ⟨a, hk, hs, H⟩; cases H) ?_ Zj ?_
 ·rintro f1 ρ a3 ⟨a, hk, j, H⟩
  refine At.known [(0, (.slice A2 (List.length p1) c3)), (1, (.func (.func g) #[] h)), (7, (.int .i64 ((List.length p1 : Nat) : Int))), (8, (.int .i64 a))] hk ?_
  replace H := (show Ve (Q2 p1 p5 f1) p1 p5 a = some r from H)
  unfold Ve at H
  refine aQ ?_
  refine aR ?_
  refine iR 1 1 [(9, (.bool (decide (a < ((List.length p1 : Nat) : Int)))))] ?_
  refine iF ?_
  refine aQ ?_
  refine V1 K (o := (.tmp 9)) K (b := (decide (a < ((List.length p1 : Nat) : Int)))) K (fun m => ?_) (fun m => ?_)
  ·have H := ct H m
   refine At.skip K ?_
   refine aQ ?_
   refine Z1 K (id := 1) K ?_
   refine aQ ?_
   refine aR ?_
   refine iR 2 2 [(10, (.int .i64 a)), (5, (.int .i64 a))] ?_
   refine iF ?_
   refine aQ ?_
   refine aR ?_
   refine iR 3 3 [(11, (.func (.func g) #[] h)), (12, (.slice A2 (List.length p1) c3)), (13, (.int .i64 a))] ?_
   obtain ⟨i, s, u, a4, H⟩ := Qo H
   refine iS 4 ?_
   refine Vi (e := (Qj (Qc .u32) (Qc .i64))) (l := p1) (A := A2) (c := c3) (T := 41) (E := 113) (x := (.tmp 12)) (ix := (.tmp 13)) (ki := .i64) (iz := a) (d := (some 14)) (k := 3) K rfl K K K K (RdT.sp q j) s u ?_
   intro a5 a6 a7 a9 hc55
   refine iS 5 ?_
   refine Qi.cells (t := 113) (x := (.tmp 14)) (b := a5) (off := (a6 + Int.toNat a * (Qj (Qc .u32) (Qc .i64)).sz)) (xs := [(.int .u32 i.1), (.int .i64 i.2)]) (d := (some 15)) (k := 4) K rfl K K K (Z2 (e := (Qj (Qc .u32) (Qc .i64))) (Qh (RdT.sp q j) a7 s u) a4 rfl) ?_
   obtain ⟨v, a8, H⟩ := Qb H
   refine iS 6 ?_
   refine Jj (f := g) (fo := (.tmp 11)) (xs := #[(.tmp 15)]) (tys := #[113]) (first := #[]) (captured := h) (args := (([(.agg #[(.int .u32 i.1), (.int .i64 i.2)])] : List Value) ++ (h).toList)) (d := (some 16)) (k := 5) K rfl K K hcf8 (a1 i.1 i.2 v a3  (SP.keeps j)  a8) ?_
   rintro e b0 ⟨rfl, y⟩
   refine ⟨_, rfl, ?_⟩
   have a0 := SP.call j y
   clear y
   refine iF ?_
   refine V1 K (o := (.tmp 16)) K (b := v) K (fun p => ?_) (fun p => ?_)
   ·have H := ct H p
    refine aQ ?_
    refine aR ?_
    refine iR 2 2 [(17, (.int .i64 a)), (4, (.int .i64 a))] ?_
    refine iF ?_
    refine At.ret K ?_
    refine ⟨(.int .i64 a), K, ?_⟩
    obtain rfl := Qe H
    exact ⟨rfl, SP.sel a0 [] rfl rfl⟩
   ·have H := cf H p
    refine At.skip K ?_
    refine aR ?_
    refine iR 2 2 [(18, (.int .i64 (IntKind.wrap .i64 (a + 1)))), (8, (.int .i64 (IntKind.wrap .i64 (a + 1))))] ?_
    refine iF ?_
    exact ⟨(IntKind.wrap .i64 (a + 1)), ⟨K, K, K, K, trivial⟩, SP.sel a0 [] rfl rfl, H⟩
  ·have H := cf H m
   refine At.exit K (id := 0) K ?_
   refine aQ ?_
   refine aR ?_
   refine iR 1 1 [(4, (.int .i64 (-1)))] ?_
   refine iF ?_
   refine At.ret K ?_
   refine ⟨(.int .i64 (-1)), K, ?_⟩
   obtain rfl := Qe H
   exact ⟨rfl, SP.sel j [] rfl rfl⟩
 ·exact ⟨0, ⟨K, K, K, K, trivial⟩, SP.sel a2 [] rfl rfl, H⟩
def Zc (p1 : (List (Int × Int))) (p5 : (Int → Int → Option (Bool))) : Option (Bool) :=
  ((Xf p1 p5).bind fun a => (some ((decide (a ≥ 0)))))
theorem Gc (A2 : Option Addr) (c3 : Nat) (a : FuncId) (b : Array Value) (p1 : (List (Int × Int))) (p5 : (Int → Int → Option (Bool))) (w0 : World) (g : RdT (Qj (Qc .u32) (Qc .i64)) w0 A2 c3 p1) (hcf8 : ∀ (args : Array Value) (w : World), (callFunc a args).run Tryz.prog w = .ok (.enter a args) w) (h : ∀ (y0 : Int) (y1 : Int) (z : (Bool)) (w : World), Below w0.heap.size w0 w → p5 y0 y1 = some z → Calls Tryz.prog a (([(.agg #[(.int .u32 y0), (.int .i64 y1)])] : List Value) ++ (b).toList).toArray w (fun e w' => e = .returned (.bool z) ∧ SP [] w w' [])) (r : (Bool)) (H : Zc p1 p5 = some r) :
  Calls Tryz.prog 77 #[(.slice A2 (List.length p1) c3), (.func (.func a) #[] b)] w0 (fun e w' => e = .returned (.bool r) ∧ SP [] w0 w' []) := by
 unfold Zc at H
 refine Qs (n := 9) Tryz.func77 K K K ?_
 have d := Q0 [] w0
 refine aQ ?_
 refine aR ?_
 refine iR 1 1 [(4, (.bool false))] ?_
 refine iF ?_
 refine aQ ?_
 refine aR ?_
 refine iR 2 2 [(5, (.slice A2 (List.length p1) c3)), (6, (.func (.func a) #[] b))] ?_
 obtain ⟨c, i, H⟩ := Qb H
 refine iS 3 ?_
 refine cF 94 #[(.tmp 5), (.tmp 6)] #[41, 115] 7 Tryz.call94 (Gt A2 c3 a b p1 p5 w0 (RdT.sp g d) hcf8 (fun y0 y1 z w  hw  hz => h y0 y1 z w  (Ha d hw)  hz) c i) ?_
 rintro e k ⟨rfl, f⟩
 refine ⟨_, rfl, ?_⟩
 have j := SP.call d f
 clear f
 refine iR 2 5 [(8, (.bool (decide (c ≥ 0)))), (4, (.bool (decide (c ≥ 0))))] ?_
 refine iF ?_
 refine At.ret K ?_
 refine ⟨(.bool (decide (c ≥ 0))), K, ?_⟩
 obtain rfl := Qe H
 exact ⟨rfl, SP.sel j [] rfl rfl⟩
def Qu (c : Int → Option (Int)) (p1 : (List ((List UInt8) × (List UInt8) × Int))) (p5 : ((List UInt8) → (List UInt8) → Int → Option (Bool))) (a : Int) : Option (Int) :=
  (cond (decide (a < ((List.length p1 : Nat) : Int))) ((idx p1 a).bind fun b => ((p5 b.1 b.2.1 b.2.2).bind fun d => (cond d (some (a)) (c (IntKind.wrap .i64 (a + 1)))))) (some ((-1))))
def Qr (p1 : (List ((List UInt8) × (List UInt8) × Int))) (p5 : ((List UInt8) → (List UInt8) → Int → Option (Bool))) : Nat → Int → Option (Int)
  | 0, _ => none
  | f + 1, a => Qu  (Qr p1 p5 f) p1 p5 a
def Vl (p1 : (List ((List UInt8) × (List UInt8) × Int))) (p5 : ((List UInt8) → (List UInt8) → Int → Option (Bool))) : Option (Int) :=
  (Qr p1 p5 Zj 0)
theorem Y4 (A2 : Option Addr) (c3 : Nat) (h : FuncId) (i : Array Value) (p1 : (List ((List UInt8) × (List UInt8) × Int))) (p5 : ((List UInt8) → (List UInt8) → Int → Option (Bool))) (w0 : World) (q : RdT (Qj Qx (Qj Qx (Qc .i64))) w0 A2 c3 p1) (hcf8 : ∀ (args : Array Value) (w : World), (callFunc h args).run Tryz.prog w = .ok (.enter h args) w) (a1 : ∀ (y0 : (List UInt8)) (y1 : (List UInt8)) (y2 : Int) (z : (Bool)) (w : World), Below w0.heap.size w0 w → p5 y0 y1 y2 = some z → Calls Tryz.prog h (([(.agg #[(.string ⟨List.toArray y0⟩), (.string ⟨List.toArray y1⟩), (.int .i64 y2)])] : List Value) ++ (i).toList).toArray w (fun e w' => e = .returned (.bool z) ∧ SP [] w w' [])) (r : (Int)) (H : Vl p1 p5 = some r) :
  Calls Tryz.prog 89 #[(.slice A2 (List.length p1) c3), (.func (.func h) #[] i)] w0 (fun e w' => e = .returned (.int .i64 r) ∧ SP [] w0 w' []) := by
 unfold Vl at H
 refine Qs (n := 19) Tryz.func89 K K K ?_
 have a2 := Q0 [] w0
 refine aQ ?_
 refine aR ?_
 refine iR 1 1 [(4, (.int .i64 0))] ?_
 refine iF ?_
 refine aQ ?_
 refine aQ ?_
 refine aR ?_
 refine iR 3 3 [(6, (.slice A2 (List.length p1) c3)), (7, (.int .i64 ((List.length p1 : Nat) : Int))), (8, (.int .i64 0))] ?_
 refine iF ?_
 refine Z1 K (id := 0) K ?_
 refine Nl K (fun f1 ρ w => ∃ (a : Int), V6 ρ [(0, (.slice A2 (List.length p1) c3)), (1, (.func (.func h) #[] i)), (7, (.int .i64 ((List.length p1 : Nat) : Int))), (8, (.int .i64 a))] ∧ SP [] w0 w [] ∧ Qr p1 p5 f1 a = some r) (by rintro ρ w ⟨a, hk, hs, H⟩; cases H) ?_ Zj ?_
 ·rintro f1 ρ a3 ⟨a, hk, j, H⟩
  refine At.known [(0, (.slice A2 (List.length p1) c3)), (1, (.func (.func h) #[] i)), (7, (.int .i64 ((List.length p1 : Nat) : Int))), (8, (.int .i64 a))] hk ?_
  replace H := (show Qu (Qr p1 p5 f1) p1 p5 a = some r from H)
  unfold Qu at H
  refine aQ ?_
  refine aR ?_
  refine iR 1 1 [(9, (.bool (decide (a < ((List.length p1 : Nat) : Int)))))] ?_
  refine iF ?_
  refine aQ ?_
  refine V1 K (o := (.tmp 9)) K (b := (decide (a < ((List.length p1 : Nat) : Int)))) K (fun m => ?_) (fun m => ?_)
  ·have H := ct H m
   refine At.skip K ?_
   refine aQ ?_
   refine Z1 K (id := 1) K ?_
   refine aQ ?_
   refine aR ?_
   refine iR 2 2 [(10, (.int .i64 a)), (5, (.int .i64 a))] ?_
   refine iF ?_
   refine aQ ?_
   refine aR ?_
   refine iR 3 3 [(11, (.func (.func h) #[] i)), (12, (.slice A2 (List.length p1) c3)), (13, (.int .i64 a))] ?_
   obtain ⟨g, s, u, a4, H⟩ := Qo H
   refine iS 4 ?_
   refine Vi (e := (Qj Qx (Qj Qx (Qc .i64)))) (l := p1) (A := A2) (c := c3) (T := 42) (E := 48) (x := (.tmp 12)) (ix := (.tmp 13)) (ki := .i64) (iz := a) (d := (some 14)) (k := 3) K rfl K K K K (RdT.sp q j) s u ?_
   intro a5 a6 a7 a9 hc55
   refine iS 5 ?_
   refine Qi.cells (t := 48) (x := (.tmp 14)) (b := a5) (off := (a6 + Int.toNat a * (Qj Qx (Qj Qx (Qc .i64))).sz)) (xs := [(.string ⟨List.toArray g.1⟩), (.string ⟨List.toArray g.2.1⟩), (.int .i64 g.2.2)]) (d := (some 15)) (k := 4) K rfl K K K (Z2 (e := (Qj Qx (Qj Qx (Qc .i64)))) (Qh (RdT.sp q j) a7 s u) a4 rfl) ?_
   obtain ⟨v, a8, H⟩ := Qb H
   refine iS 6 ?_
   refine Jj (f := h) (fo := (.tmp 11)) (xs := #[(.tmp 15)]) (tys := #[48]) (first := #[]) (captured := i) (args := (([(.agg #[(.string ⟨List.toArray g.1⟩), (.string ⟨List.toArray g.2.1⟩), (.int .i64 g.2.2)])] : List Value) ++ (i).toList)) (d := (some 16)) (k := 5) K rfl K K hcf8 (a1 g.1 g.2.1 g.2.2 v a3  (SP.keeps j)  a8) ?_
   rintro e b0 ⟨rfl, y⟩
   refine ⟨_, rfl, ?_⟩
   have a0 := SP.call j y
   clear y
   refine iF ?_
   refine V1 K (o := (.tmp 16)) K (b := v) K (fun p => ?_) (fun p => ?_)
   ·have H := ct H p
    refine aQ ?_
    refine aR ?_
    refine iR 2 2 [(17, (.int .i64 a)), (4, (.int .i64 a))] ?_
    refine iF ?_
    refine At.ret K ?_
    refine ⟨(.int .i64 a), K, ?_⟩
    obtain rfl := Qe H
    exact ⟨rfl, SP.sel a0 [] rfl rfl⟩
   ·have H := cf H p
    refine At.skip K ?_
    refine aR ?_
    refine iR 2 2 [(18, (.int .i64 (IntKind.wrap .i64 (a + 1)))), (8, (.int .i64 (IntKind.wrap .i64 (a + 1))))] ?_
    refine iF ?_
    exact ⟨(IntKind.wrap .i64 (a + 1)), ⟨K, K, K, K, trivial⟩, SP.sel a0 [] rfl rfl, H⟩
  ·have H := cf H m
   refine At.exit K (id := 0) K ?_
   refine aQ ?_
   refine aR ?_
   refine iR 1 1 [(4, (.int .i64 (-1)))] ?_
   refine iF ?_
   refine At.ret K ?_
   refine ⟨(.int .i64 (-1)), K, ?_⟩
   obtain rfl := Qe H
   exact ⟨rfl, SP.sel j [] rfl rfl⟩
 ·exact ⟨0, ⟨K, K, K, K, trivial⟩, SP.sel a2 [] rfl rfl, H⟩
def Vw (p1 : (List ((List UInt8) × (List UInt8) × Int))) (p5 : ((List UInt8) → (List UInt8) → Int → Option (Bool))) : Option (Bool) :=
  ((Vl p1 p5).bind fun a => (some ((decide (a ≥ 0)))))
theorem Ni (A2 : Option Addr) (c3 : Nat) (a : FuncId) (b : Array Value) (p1 : (List ((List UInt8) × (List UInt8) × Int))) (p5 : ((List UInt8) → (List UInt8) → Int → Option (Bool))) (w0 : World) (g : RdT (Qj Qx (Qj Qx (Qc .i64))) w0 A2 c3 p1) (hcf8 : ∀ (args : Array Value) (w : World), (callFunc a args).run Tryz.prog w = .ok (.enter a args) w) (h : ∀ (y0 : (List UInt8)) (y1 : (List UInt8)) (y2 : Int) (z : (Bool)) (w : World), Below w0.heap.size w0 w → p5 y0 y1 y2 = some z → Calls Tryz.prog a (([(.agg #[(.string ⟨List.toArray y0⟩), (.string ⟨List.toArray y1⟩), (.int .i64 y2)])] : List Value) ++ (b).toList).toArray w (fun e w' => e = .returned (.bool z) ∧ SP [] w w' [])) (r : (Bool)) (H : Vw p1 p5 = some r) :
  Calls Tryz.prog 80 #[(.slice A2 (List.length p1) c3), (.func (.func a) #[] b)] w0 (fun e w' => e = .returned (.bool r) ∧ SP [] w0 w' []) := by
 unfold Vw at H
 refine Qs (n := 9) Tryz.func80 K K K ?_
 have d := Q0 [] w0
 refine aQ ?_
 refine aR ?_
 refine iR 1 1 [(4, (.bool false))] ?_
 refine iF ?_
 refine aQ ?_
 refine aR ?_
 refine iR 2 2 [(5, (.slice A2 (List.length p1) c3)), (6, (.func (.func a) #[] b))] ?_
 obtain ⟨c, i, H⟩ := Qb H
 refine iS 3 ?_
 refine cF 89 #[(.tmp 5), (.tmp 6)] #[42, 117] 7 Tryz.call89 (Y4 A2 c3 a b p1 p5 w0 (RdT.sp g d) hcf8 (fun y0 y1 y2 z w  hw  hz => h y0 y1 y2 z w  (Ha d hw)  hz) c i) ?_
 rintro e k ⟨rfl, f⟩
 refine ⟨_, rfl, ?_⟩
 have j := SP.call d f
 clear f
 refine iR 2 5 [(8, (.bool (decide (c ≥ 0)))), (4, (.bool (decide (c ≥ 0))))] ?_
 refine iF ?_
 refine At.ret K ?_
 refine ⟨(.bool (decide (c ≥ 0))), K, ?_⟩
 obtain rfl := Qe H
 exact ⟨rfl, SP.sel j [] rfl rfl⟩
def Qt (c : Int → Option (Int)) (p1 : (List Qg)) (p6 : ((List UInt8) → Int → Int → (List (Int × Int)) → (List ((List UInt8) × (List UInt8) × Int)) → Option (Bool))) (b : Int) : Option (Int) :=
  (cond (decide (b < ((List.length p1 : Nat) : Int))) ((idx p1 b).bind fun a => ((p6 a.1 a.2.1 a.2.2.1 a.2.2.2.1 a.2.2.2.2).bind fun d => (cond d (some (b)) (c (IntKind.wrap .i64 (b + 1)))))) (some ((-1))))
def Qq (p1 : (List Qg)) (p6 : ((List UInt8) → Int → Int → (List (Int × Int)) → (List ((List UInt8) × (List UInt8) × Int)) → Option (Bool))) : Nat → Int → Option (Int)
  | 0, _ => none
  | f + 1, a => Qt  (Qq p1 p6 f) p1 p6 a
def Vh (p1 : (List Qg)) (p6 : ((List UInt8) → Int → Int → (List (Int × Int)) → (List ((List UInt8) × (List UInt8) × Int)) → Option (Bool))) : Option (Int) :=
  (Qq p1 p6 Zj 0)
theorem Yu (A2 : Option Addr) (c3 : Nat) (h : FuncId) (i : Array Value) (d5 : (List Va)) (p6 : ((List UInt8) → Int → Int → (List (Int × Int)) → (List ((List UInt8) × (List UInt8) × Int)) → Option (Bool))) (w0 : World) (m : (dDS Js Ce).ok w0 (A2, c3, d5)) (hcf9 : ∀ (args : Array Value) (w : World), (callFunc h args).run Tryz.prog w = .ok (.enter h args) w) (a2 : ∀ (y0 : (List UInt8)) (y1 : Int) (y2 : Int) (y3 : (List (Int × Int))) (y4 : (List ((List UInt8) × (List UInt8) × Int))) (z : (Bool)) (w : World) (Ay3 : Option Addr) (cy3 : Nat) (Ay4 : Option Addr) (cy4 : Nat), Below w0.heap.size w0 w → RdT (Qj (Qc .u32) (Qc .i64)) w Ay3 cy3 y3 → RdT (Qj Qx (Qj Qx (Qc .i64))) w Ay4 cy4 y4 → p6 y0 y1 y2 y3 y4 = some z → Calls Tryz.prog h (([(.agg #[(.string ⟨List.toArray y0⟩), (.int .i64 y1), (.int .i64 y2), (.slice Ay3 (List.length y3) cy3), (.slice Ay4 (List.length y4) cy4)])] : List Value) ++ (i).toList).toArray w (fun e w' => e = .returned (.bool z) ∧ SP [] w w' [])) (r : (Int)) (H : Vh (List.map stT d5) p6 = some r) :
  Calls Tryz.prog 76 #[(.slice A2 (List.length (List.map stT d5)) c3), (.func (.func h) #[] i)] w0 (fun e w' => e = .returned (.int .i64 r) ∧ SP [] w0 w' []) := by
 unfold Vh at H
 refine Qs (n := 19) Tryz.func76 K K K ?_
 have a3 := Q0 [] w0
 refine aQ ?_
 refine aR ?_
 refine iR 1 1 [(4, (.int .i64 0))] ?_
 refine iF ?_
 refine aQ ?_
 refine aQ ?_
 refine aR ?_
 refine iR 3 3 [(6, (.slice A2 (List.length (List.map stT d5)) c3)), (7, (.int .i64 ((List.length (List.map stT d5) : Nat) : Int))), (8, (.int .i64 0))] ?_
 refine iF ?_
 refine Z1 K (id := 0) K ?_
 refine Nl K (fun f1 ρ w => ∃ (g : Int), V6 ρ [(0, (.slice A2 (List.length (List.map stT d5)) c3)), (1, (.func (.func h) #[] i)), (7, (.int .i64 ((List.length (List.map stT d5) : Nat) : Int))), (8, (.int .i64 g))] ∧ SP [] w0 w [] ∧ Qq (List.map stT d5) p6 f1 g = some r) (by rintro ρ w ⟨g, hk, hs, H⟩; cases H) ?_ Zj ?_
 ·rintro f1 ρ a4 ⟨g, hk, j, H⟩
  refine At.known [(0, (.slice A2 (List.length (List.map stT d5)) c3)), (1, (.func (.func h) #[] i)), (7, (.int .i64 ((List.length (List.map stT d5) : Nat) : Int))), (8, (.int .i64 g))] hk ?_
  replace H := (show Qt (Qq (List.map stT d5) p6 f1) (List.map stT d5) p6 g = some r from H)
  unfold Qt at H
  refine aQ ?_
  refine aR ?_
  refine iR 1 1 [(9, (.bool (decide (g < ((List.length (List.map stT d5) : Nat) : Int)))))] ?_
  refine iF ?_
  refine aQ ?_
  refine V1 K (o := (.tmp 9)) K (b := (decide (g < ((List.length (List.map stT d5) : Nat) : Int)))) K (fun p => ?_) (fun p => ?_)
  ·have H := ct H p
   refine At.skip K ?_
   refine aQ ?_
   refine Z1 K (id := 1) K ?_
   refine aQ ?_
   refine aR ?_
   refine iR 2 2 [(10, (.int .i64 g)), (5, (.int .i64 g))] ?_
   refine iF ?_
   refine aQ ?_
   refine aR ?_
   refine iR 3 3 [(11, (.func (.func h) #[] i)), (12, (.slice A2 (List.length (List.map stT d5)) c3)), (13, (.int .i64 g))] ?_
   obtain ⟨a, u, v, q, H⟩ := Rc H
   refine iS 4 ?_
   refine Ul stT (e := Js) (l := d5) (A := A2) (c := c3) (T := 22) (E := 44) (x := (.tmp 12)) (ix := (.tmp 13)) (ki := .i64) (iz := g) (d := (some 14)) (k := 3) K rfl K K K K (RdT.sp (Uz m) j) u v ?_
   intro a5 a6 a7 a9 hc59
   refine iS 5 ?_
   refine Qi.cells (t := 44) (x := (.tmp 14)) (b := a5) (off := (a6 + Int.toNat g * Js.sz)) (xs := [(.string ⟨List.toArray (stT a).1⟩), (.int .i64 (stT a).2.1), (.int .i64 (stT a).2.2.1), (.slice a.2.2.2.1.1 (List.length (stT a).2.2.2.1) a.2.2.2.1.2.1), (.slice a.2.2.2.2.1 (List.length (stT a).2.2.2.2) a.2.2.2.2.2.1)]) (d := (some 15)) (k := 4) K rfl K K K (Z2 (e := Js) (Qh (RdT.sp (Uz m) j) a7 u v) q rfl) ?_
   obtain ⟨y, a8, H⟩ := Qb H
   refine iS 6 ?_
   refine Jj (f := h) (fo := (.tmp 11)) (xs := #[(.tmp 15)]) (tys := #[44]) (first := #[]) (captured := i) (args := (([(.agg #[(.string ⟨List.toArray (stT a).1⟩), (.int .i64 (stT a).2.1), (.int .i64 (stT a).2.2.1), (.slice a.2.2.2.1.1 (List.length (stT a).2.2.2.1) a.2.2.2.1.2.1), (.slice a.2.2.2.2.1 (List.length (stT a).2.2.2.2) a.2.2.2.2.2.1)])] : List Value) ++ (i).toList)) (d := (some 16)) (k := 5) K rfl K K hcf9 (a2 (stT a).1 (stT a).2.1 (stT a).2.2.1 (stT a).2.2.2.1 (stT a).2.2.2.2 y a4 a.2.2.2.1.1 a.2.2.2.1.2.1 a.2.2.2.2.1 a.2.2.2.2.2.1 (SP.keeps j) (RdT.sp (Uz (dp1 (dp2 (dp2 (dp2 (Bx m q)))))) j) (RdT.sp (Uz (dp2 (dp2 (dp2 (dp2 (Bx m q)))))) j) a8) ?_
   rintro e b0 ⟨rfl, a0⟩
   refine ⟨_, rfl, ?_⟩
   have a1 := SP.call j a0
   clear a0
   refine iF ?_
   refine V1 K (o := (.tmp 16)) K (b := y) K (fun s => ?_) (fun s => ?_)
   ·have H := ct H s
    refine aQ ?_
    refine aR ?_
    refine iR 2 2 [(17, (.int .i64 g)), (4, (.int .i64 g))] ?_
    refine iF ?_
    refine At.ret K ?_
    refine ⟨(.int .i64 g), K, ?_⟩
    obtain rfl := Qe H
    exact ⟨rfl, SP.sel a1 [] rfl rfl⟩
   ·have H := cf H s
    refine At.skip K ?_
    refine aR ?_
    refine iR 2 2 [(18, (.int .i64 (IntKind.wrap .i64 (g + 1)))), (8, (.int .i64 (IntKind.wrap .i64 (g + 1))))] ?_
    refine iF ?_
    exact ⟨(IntKind.wrap .i64 (g + 1)), ⟨K, K, K, K, trivial⟩, SP.sel a1 [] rfl rfl, H⟩
  ·have H := cf H p
   refine At.exit K (id := 0) K ?_
   refine aQ ?_
   refine aR ?_
   refine iR 1 1 [(4, (.int .i64 (-1)))] ?_
   refine iF ?_
   refine At.ret K ?_
   refine ⟨(.int .i64 (-1)), K, ?_⟩
   obtain rfl := Qe H
   exact ⟨rfl, SP.sel j [] rfl rfl⟩
 ·exact ⟨0, ⟨K, K, K, K, trivial⟩, SP.sel a3 [] rfl rfl, H⟩
def Vp (p1 : (List Qg)) (p6 : ((List UInt8) → Int → Int → (List (Int × Int)) → (List ((List UInt8) × (List UInt8) × Int)) → Option (Bool))) : Option (Bool) :=
  ((Vh p1 p6).bind fun a => (some ((decide (a ≥ 0)))))
theorem U6 (A2 : Option Addr) (c3 : Nat) (a : FuncId) (b : Array Value) (d5 : (List Va)) (p6 : ((List UInt8) → Int → Int → (List (Int × Int)) → (List ((List UInt8) × (List UInt8) × Int)) → Option (Bool))) (w0 : World) (g : (dDS Js Ce).ok w0 (A2, c3, d5)) (hcf9 : ∀ (args : Array Value) (w : World), (callFunc a args).run Tryz.prog w = .ok (.enter a args) w) (h : ∀ (y0 : (List UInt8)) (y1 : Int) (y2 : Int) (y3 : (List (Int × Int))) (y4 : (List ((List UInt8) × (List UInt8) × Int))) (z : (Bool)) (w : World) (Ay3 : Option Addr) (cy3 : Nat) (Ay4 : Option Addr) (cy4 : Nat), Below w0.heap.size w0 w → RdT (Qj (Qc .u32) (Qc .i64)) w Ay3 cy3 y3 → RdT (Qj Qx (Qj Qx (Qc .i64))) w Ay4 cy4 y4 → p6 y0 y1 y2 y3 y4 = some z → Calls Tryz.prog a (([(.agg #[(.string ⟨List.toArray y0⟩), (.int .i64 y1), (.int .i64 y2), (.slice Ay3 (List.length y3) cy3), (.slice Ay4 (List.length y4) cy4)])] : List Value) ++ (b).toList).toArray w (fun e w' => e = .returned (.bool z) ∧ SP [] w w' [])) (r : (Bool)) (H : Vp (List.map stT d5) p6 = some r) :
  Calls Tryz.prog 60 #[(.slice A2 (List.length (List.map stT d5)) c3), (.func (.func a) #[] b)] w0 (fun e w' => e = .returned (.bool r) ∧ SP [] w0 w' []) := by
 unfold Vp at H
 refine Qs (n := 9) Tryz.func60 K K K ?_
 have d := Q0 [] w0
 refine aQ ?_
 refine aR ?_
 refine iR 1 1 [(4, (.bool false))] ?_
 refine iF ?_
 refine aQ ?_
 refine aR ?_
 refine iR 2 2 [(5, (.slice A2 (List.length (List.map stT d5)) c3)), (6, (.func (.func a) #[] b))] ?_
 obtain ⟨c, i, H⟩ := Qb H
 refine iS 3 ?_
 refine cF 76 #[(.tmp 5), (.tmp 6)] #[22, 102] 7 Tryz.call76 (Yu A2 c3 a b d5 p6 w0 (Dp.sp g d) hcf9 (fun y0 y1 y2 y3 y4 z w Ay3 cy3 Ay4 cy4 hw hy3 hy4 hz => h y0 y1 y2 y3 y4 z w Ay3 cy3 Ay4 cy4 (Ha d hw) hy3 hy4 hz) c i) ?_
 rintro e k ⟨rfl, f⟩
 refine ⟨_, rfl, ?_⟩
 have j := SP.call d f
 clear f
 refine iR 2 5 [(8, (.bool (decide (c ≥ 0)))), (4, (.bool (decide (c ≥ 0))))] ?_
 refine iF ?_
 refine At.ret K ?_
 refine ⟨(.bool (decide (c ≥ 0))), K, ?_⟩
 obtain rfl := Qe H
 exact ⟨rfl, SP.sel j [] rfl rfl⟩
def Um (a : Int) (b : Int) : Option (Bool) :=
  ((Rb a b).bind fun z7 => (some ((z7 == ([] : List UInt8)))))
theorem C4  (c : Int) (f : Int) (w0 : World) (hL : Fn w0)  (r : (Bool)) (H : Um c f = some r) :
  Calls Tryz.prog 78 #[(.agg #[(.int .u32 c), (.int .i64 f)])] w0 (fun e w' => e = .returned (.bool r) ∧ SP [] w0 w' []) := by
 unfold Um at H
 refine Qs (n := 6) Tryz.func78 K K K ?_
 have i := Q0 [] w0
 refine aQ ?_
 refine aR ?_
 refine iS 1 ?_
 refine Vn (t := 113) (x := (.tmp 0)) (v := (.agg #[(.int .u32 c), (.int .i64 f)])) (d := (some 1)) (k := 0) K rfl K i ?_
 intro g3 w4 g
 refine iR 1 2 [(2, (.bool false))] ?_
 refine iF ?_
 refine aQ ?_
 refine aR ?_
 refine iS 1 ?_
 refine sL 113 1 g3 0 0 (.agg #[(.int .u32 c), (.int .i64 f)]) 3 g rfl ?_
 obtain ⟨z7, j, H⟩ := Qb H
 refine iS 2 ?_
 refine cF 79 #[(.tmp 3)] #[113] 4 Tryz.call79 (E8  c f w4 (Y9 hL (SP.keeps g)) z7 j) ?_
 rintro e w9 ⟨rfl, h⟩
 refine ⟨_, rfl, ?_⟩
 have l := SP.call g h
 clear h
 refine iS 3 ?_
 refine V0 (op := .eql) (T := 9) (T' := 9) (x := (.tmp 4)) (y := (.const (.string ⟨List.toArray ([] : List UInt8)⟩))) (a := z7) (b := ([] : List UInt8)) (r := (.bool (z7 == ([] : List UInt8)))) (d := (some 5)) (k := 2) K rfl K K rfl ?_
 refine iR 1 4 [(2, (.bool (z7 == ([] : List UInt8))))] ?_
 refine iF ?_
 refine At.ret K ?_
 refine ⟨(.bool (z7 == ([] : List UInt8))), K, ?_⟩
 obtain rfl := Qe H
 exact ⟨rfl, SP.sel l [] rfl rfl⟩
def Un (a : Bool) : Option (Bool) :=
  (some (a))
def Re (a : (List UInt8)) (b : (List UInt8)) (c : Int) : Option (Bool) :=
  ((U3 a).bind fun d => (cond d ((Y3 ((List.length b : Nat) : Int) 1 32).bind fun e => (cond e ((Y3 c 0 1099511627776).bind fun f => (Un f)) (Un false))) (Un false)))
theorem E9  (f : (List UInt8)) (a : (List UInt8)) (g : Int) (w0 : World)  (r : (Bool)) (H : Re f a g = some r) :
  Calls Tryz.prog 82 #[(.agg #[(.string ⟨List.toArray f⟩), (.string ⟨List.toArray a⟩), (.int .i64 g)])] w0 (fun e w' => e = .returned (.bool r) ∧ SP [] w0 w' []) := by
 unfold Re at H
 refine Qs (n := 17) Tryz.func82 K K K ?_
 have a0 := Q0 [] w0
 refine aQ ?_
 refine aR ?_
 refine iS 1 ?_
 refine Vn (t := 48) (x := (.tmp 0)) (v := (.agg #[(.string ⟨List.toArray f⟩), (.string ⟨List.toArray a⟩), (.int .i64 g)])) (d := (some 1)) (k := 0) K rfl K a0 ?_
 intro g4 w5 s
 refine iR 1 2 [(2, (.bool false))] ?_
 refine iF ?_
 refine aQ ?_
 refine At.join (fun ρ w => ∃ (c : Bool), V6 ρ [(2, (.bool c))] ∧ SP [] w0 w [] ∧ Un c = some r) ?_ ?_
 ·refine aR ?_
  refine iR 1 1 [(3, (pt g4 0))] ?_
  refine iS 2 ?_
  refine sL 9 3 g4 0 0 (.string ⟨List.toArray f⟩) 4 s rfl ?_
  obtain ⟨j, a1, H⟩ := Qb H
  refine iS 3 ?_
  refine cF 83 #[(.tmp 4)] #[9] 5 Tryz.call83 (Bg  f w5  j a1) ?_
  rintro e a2 ⟨rfl, u⟩
  refine ⟨_, rfl, ?_⟩
  have m := SP.call s u
  clear u
  refine iR 1 4 [(6, (.bool j))] ?_
  refine In.guard (t := 6) (b := j) K (fun o => ?_) (fun o => ?_)
  ·have H := ct H o
   refine iR 1 5 [(7, (pt g4 1))] ?_
   refine iS 6 ?_
   refine sL 9 7 g4 1 0 (.string ⟨List.toArray a⟩) 8 m rfl ?_
   refine iR 1 7 [(9, (.int .i64 ((List.length a : Nat) : Int)))] ?_
   obtain ⟨h, a3, H⟩ := Qb H
   refine iS 8 ?_
   refine cF 59 #[(.tmp 9), (.const (.int .i64 (1))), (.const (.int .i64 (32)))] #[2, 2, 2] 10 Tryz.call59 (Uf  ((List.length a : Nat) : Int) 1 32 a2  h a3) ?_
   rintro e a4 ⟨rfl, y⟩
   refine ⟨_, rfl, ?_⟩
   have p := SP.call m y
   clear y
   refine iR 2 10 [(11, (.bool h)), (12, (.bool h))] ?_
   refine In.guard (t := 12) (b := h) K (fun q => ?_) (fun q => ?_)
   ·have H := ct H q
    refine iR 1 11 [(13, (pt g4 2))] ?_
    refine iS 12 ?_
    refine sL 2 13 g4 2 0 (.int .i64 g) 14 p rfl ?_
    obtain ⟨i, a5, H⟩ := Qb H
    refine iS 13 ?_
    refine cF 59 #[(.tmp 14), (.const (.int .i64 (0))), (.const (.int .i64 (1099511627776)))] #[2, 2, 2] 15 Tryz.call59 (Uf  g 0 1099511627776 a4  i a5) ?_
    rintro e a8 ⟨rfl, z⟩
    refine ⟨_, rfl, ?_⟩
    have a6 := SP.call p z
    clear z
    refine iR 2 15 [(16, (.bool i)), (2, (.bool i))] ?_
    refine iF ?_
    exact ⟨i, ⟨K, trivial⟩, SP.sel a6 [] rfl rfl, H⟩
   ·have H := cf H q
    refine iR 5 15 [(13, undef), (14, undef), (15, undef), (16, (.bool false)), (2, (.bool false))] ?_
    refine iF ?_
    exact ⟨false, ⟨K, trivial⟩, SP.sel p [] rfl rfl, H⟩
  ·have H := cf H o
   refine iR 11 15 [(7, undef), (8, undef), (9, undef), (10, undef), (11, (.bool false)), (12, (.bool false)), (13, undef), (14, undef), (15, undef), (16, (.bool false)), (2, (.bool false))] ?_
   refine iF ?_
   exact ⟨false, ⟨K, trivial⟩, SP.sel m [] rfl rfl, H⟩
 ·rintro ρ a9 ⟨c, hk, a7, H⟩
  unfold Un at H
  first | refine At.known [(2, (.bool c))] hk ?_ | rw [← Qv (l := [(2, (.bool c))]) hk]
  refine At.ret K ?_
  refine ⟨(.bool c), K, ?_⟩
  obtain rfl := Qe H
  exact ⟨rfl, SP.sel a7 [] rfl rfl⟩
def Nn (a : (List UInt8)) (b : (List UInt8)) (c : Int) : Option (Bool) :=
  ((Re a b c).bind fun z8 => (some ((!z8))))
theorem C5  (a : (List UInt8)) (b : (List UInt8)) (c : Int) (w0 : World)  (r : (Bool)) (H : Nn a b c = some r) :
  Calls Tryz.prog 81 #[(.agg #[(.string ⟨List.toArray a⟩), (.string ⟨List.toArray b⟩), (.int .i64 c)])] w0 (fun e w' => e = .returned (.bool r) ∧ SP [] w0 w' []) := by
 unfold Nn at H
 refine Qs (n := 6) Tryz.func81 K K K ?_
 have h := Q0 [] w0
 refine aQ ?_
 refine aR ?_
 refine iS 1 ?_
 refine Vn (t := 48) (x := (.tmp 0)) (v := (.agg #[(.string ⟨List.toArray a⟩), (.string ⟨List.toArray b⟩), (.int .i64 c)])) (d := (some 1)) (k := 0) K rfl K h ?_
 intro g4 w5 f
 refine iR 1 2 [(2, (.bool false))] ?_
 refine iF ?_
 refine aQ ?_
 refine aR ?_
 refine iS 1 ?_
 refine sL 48 1 g4 0 0 (.agg #[(.string ⟨List.toArray a⟩), (.string ⟨List.toArray b⟩), (.int .i64 c)]) 3 f rfl ?_
 obtain ⟨z8, i, H⟩ := Qb H
 refine iS 2 ?_
 refine cF 82 #[(.tmp 3)] #[48] 4 Tryz.call82 (E9  a b c w5  z8 i) ?_
 rintro e l ⟨rfl, g⟩
 refine ⟨_, rfl, ?_⟩
 have j := SP.call f g
 clear g
 refine iR 2 4 [(5, (.bool (!z8))), (2, (.bool (!z8)))] ?_
 refine iF ?_
 refine At.ret K ?_
 refine ⟨(.bool (!z8)), K, ?_⟩
 obtain rfl := Qe H
 exact ⟨rfl, SP.sel j [] rfl rfl⟩
def Ze (d : Int → Option (Bool)) (p1 : (List ((List UInt8) × (List UInt8) × Int))) (p5 : ((List UInt8) → (List UInt8) → Int → Option ((List UInt8)))) (a : Int) : Option (Bool) :=
  (cond (decide (a < ((List.length p1 : Nat) : Int))) ((idx p1 (IntKind.wrap .i64 (a - 1))).bind fun b => ((p5 b.1 b.2.1 b.2.2).bind fun e => ((idx p1 a).bind fun c => ((p5 c.1 c.2.1 c.2.2).bind fun f => (cond (!(Op.bytesLess e f)) (some (false)) (d (IntKind.wrap .i64 (a + 1)))))))) (some (true)))
def Zf (p1 : (List ((List UInt8) × (List UInt8) × Int))) (p5 : ((List UInt8) → (List UInt8) → Int → Option ((List UInt8)))) : Nat → Int → Option (Bool)
  | 0, _ => none
  | f + 1, a => Ze  (Zf p1 p5 f) p1 p5 a
def Yo (p1 : (List ((List UInt8) × (List UInt8) × Int))) (p5 : ((List UInt8) → (List UInt8) → Int → Option ((List UInt8)))) : Option (Bool) :=
  (Zf p1 p5 Zj 1)
theorem Dl (A2 : Option Addr) (c3 : Nat) (m : FuncId) (p : Array Value) (p1 : (List ((List UInt8) × (List UInt8) × Int))) (p5 : ((List UInt8) → (List UInt8) → Int → Option ((List UInt8)))) (w0 : World) (a0 : RdT (Qj Qx (Qj Qx (Qc .i64))) w0 A2 c3 p1) (hcf8 : ∀ (args : Array Value) (w : World), (callFunc m args).run Tryz.prog w = .ok (.enter m args) w) (a7 : ∀ (y0 : (List UInt8)) (y1 : (List UInt8)) (y2 : Int) (z : ((List UInt8))) (w : World), Below w0.heap.size w0 w → p5 y0 y1 y2 = some z → Calls Tryz.prog m (([(.agg #[(.string ⟨List.toArray y0⟩), (.string ⟨List.toArray y1⟩), (.int .i64 y2)])] : List Value) ++ (p).toList).toArray w (fun e w' => e = .returned (.string ⟨List.toArray z⟩) ∧ SP [] w w' [])) (r : (Bool)) (H : Yo p1 p5 = some r) :
  Calls Tryz.prog 84 #[(.slice A2 (List.length p1) c3), (.func (.func m) #[] p)] w0 (fun e w' => e = .returned (.bool r) ∧ SP [] w0 w' []) := by
 unfold Yo at H
 refine Qs (n := 26) Tryz.func84 K K K ?_
 have b6 := Q0 [] w0
 refine aQ ?_
 refine aR ?_
 refine iR 1 1 [(4, (.bool false))] ?_
 refine iF ?_
 refine aQ ?_
 refine aQ ?_
 refine aR ?_
 refine iR 1 1 [(5, (.int .i64 1))] ?_
 refine iF ?_
 refine Z1 K (id := 0) K ?_
 refine Nl K (fun f1 ρ w => ∃ (g : Int), V6 ρ [(0, (.slice A2 (List.length p1) c3)), (1, (.func (.func m) #[] p)), (5, (.int .i64 g))] ∧ SP [] w0 w [] ∧ Zf p1 p5 f1 g = some r) (by rintro ρ w ⟨g, hk, hs, H⟩; cases H) ?_ Zj ?_
 ·rintro f1 ρ f3 ⟨g, hk, a8, H⟩
  refine At.known [(0, (.slice A2 (List.length p1) c3)), (1, (.func (.func m) #[] p)), (5, (.int .i64 g))] hk ?_
  replace H := (show Ze (Zf p1 p5 f1) p1 p5 g = some r from H)
  unfold Ze at H
  refine aQ ?_
  refine aQ ?_
  refine aR ?_
  refine iR 4 4 [(6, (.int .i64 g)), (7, (.slice A2 (List.length p1) c3)), (8, (.int .i64 ((List.length p1 : Nat) : Int))), (9, (.bool (decide (g < ((List.length p1 : Nat) : Int)))))] ?_
  refine iF ?_
  refine V1 K (o := (.tmp 9)) K (b := (decide (g < ((List.length p1 : Nat) : Int)))) K (fun a3 => ?_) (fun a3 => ?_)
  ·have H := ct H a3
   refine At.skip K ?_
   refine aQ ?_
   refine Z1 K (id := 1) K ?_
   refine aQ ?_
   obtain ⟨s, a9, b0, b7, H⟩ := Qo H
   obtain ⟨u, b8, H⟩ := Qb H
   obtain ⟨q, a1, a2, b1, H⟩ := Qo H
   obtain ⟨v, b9, H⟩ := Qb H
   refine aG [GEq (.func (.func m) #[] p), GEq (.slice A2 (List.length p1) c3), GEq (.int .i64 g), GEq (.int .i64 (IntKind.wrap .i64 (g - 1))), Vr A2 (Qj Qx (Qj Qx (Qc .i64))).sz (IntKind.wrap .i64 (g - 1)), GEq (.agg #[(.string ⟨List.toArray s.1⟩), (.string ⟨List.toArray s.2.1⟩), (.int .i64 s.2.2)]), GEq (.string ⟨List.toArray u⟩), GEq (.func (.func m) #[] p), GEq (.slice A2 (List.length p1) c3), GEq (.int .i64 g), Vr A2 (Qj Qx (Qj Qx (Qc .i64))).sz g, GEq (.agg #[(.string ⟨List.toArray q.1⟩), (.string ⟨List.toArray q.2.1⟩), (.int .i64 q.2.2)]), GEq (.string ⟨List.toArray v⟩), GEq (.bool (!(Op.bytesLess u v)))] [6, 12] (tG [] w0 [] [([], []), ([6], [(.string ⟨List.toArray u⟩)]), ([6, 12], [(.string ⟨List.toArray u⟩), (.string ⟨List.toArray v⟩)])]) 14 2 ⟨trivial, SP.drew a8⟩ ?_ ?_
   iterate 14 refine And.intro ?_ ?_
   exact trivial
   ·exact oV (hC (hS 1 (.func (.func m) #[] p)) (h0)) (.func (.func m) #[] p)
   ·exact oV (hC (hS 0 (.slice A2 (List.length p1) c3)) (h0)) (.slice A2 (List.length p1) c3)
   ·exact oV (hC (hS 5 (.int .i64 g)) (h0)) (.int .i64 g)
   ·exact oV (hC (hA 2 14) (h0)) (.int .i64 (IntKind.wrap .i64 (g - 1)))
   ·refine oL 0 ?_
    ·rintro ρ' w' hs i ⟨f4, c0⟩
     refine kM (kc (kA i 1 13) (kc (kA i 3 15) k0)) fun j => ?_
     refine Vi (e := (Qj Qx (Qj Qx (Qc .i64)))) (l := p1) (A := A2) (c := c3) (T := 42) (E := 48) (x := (.tmp 13)) (ix := (.tmp 15)) (ki := .i64) (iz := (IntKind.wrap .i64 (g - 1))) (d := (some 16)) (k := 4) K rfl K K K K (RdT.sp a0 c0) a9 b0 ?_
     intro c1 c2 c4 f5 hc269
     exact ⟨rfl, _, Qa j, ⟨c1, c2, c4, rfl⟩⟩
   ·refine oL 0 ?_
    ·rintro ρ' w' hs i ⟨f6, c5⟩
     obtain ⟨c6, c7, c8, c9⟩ := i 4 16 K
     refine kM (kc c9 k0) fun j => ?_
     refine Qi.cells (t := 48) (x := (.tmp 16)) (b := c6) (off := (c7 + Int.toNat (IntKind.wrap .i64 (g - 1)) * (Qj Qx (Qj Qx (Qc .i64))).sz)) (xs := [(.string ⟨List.toArray s.1⟩), (.string ⟨List.toArray s.2.1⟩), (.int .i64 s.2.2)]) (d := (some 17)) (k := 5) K rfl K K K (Z2 (e := (Qj Qx (Qj Qx (Qc .i64)))) (Qh (RdT.sp a0 c5) c8 a9 b0) b7 rfl) ?_
     exact eK j
   ·refine oH 0 1 ?_
    ·rintro ρ' w' hs i ⟨f7, b2⟩
     refine kM (kc (kA i 0 12) (kc (kA i 5 17) k0)) fun j => ?_
     refine Jj (f := m) (fo := (.tmp 12)) (xs := #[(.tmp 17)]) (tys := #[48]) (first := #[]) (captured := p) (args := (([(.agg #[(.string ⟨List.toArray s.1⟩), (.string ⟨List.toArray s.2.1⟩), (.int .i64 s.2.2)])] : List Value) ++ (p).toList)) (d := (some 18)) (k := 6) K rfl K K hcf8 (a7 s.1 s.2.1 s.2.2 u w'  (SP.keeps b2)  b8) ?_
     rintro e f8 ⟨rfl, b3⟩
     refine ⟨_, rfl, ?_⟩
     have d0 := SP.call b2 b3
     clear b3
     refine ⟨_, Qa j, rfl, ?_⟩
     exact (And.intro (And.intro rfl (trivial)) (d0))
   ·exact oV (hC (hS 1 (.func (.func m) #[] p)) (h0)) (.func (.func m) #[] p)
   ·exact oV (hC (hS 0 (.slice A2 (List.length p1) c3)) (h0)) (.slice A2 (List.length p1) c3)
   ·exact oV (hC (hS 5 (.int .i64 g)) (h0)) (.int .i64 g)
   ·refine Owe.light K [0, 1] K (Qf ?_ (Qf ?_ Q8))
    ·rintro ρ' w' hs i ⟨f9, d1⟩
     refine kM (kc (kA i 8 20) (kc (kA i 9 21) k0)) fun j => ?_
     refine Vi (e := (Qj Qx (Qj Qx (Qc .i64)))) (l := p1) (A := A2) (c := c3) (T := 42) (E := 48) (x := (.tmp 20)) (ix := (.tmp 21)) (ki := .i64) (iz := g) (d := (some 22)) (k := 10) K rfl K K K K (RdT.sp a0 d1) a1 a2 ?_
     intro d2 d3 d4 g0 hc287
     exact ⟨rfl, _, Qa j, ⟨d2, d3, d4, rfl⟩⟩
    ·rintro ρ' w' hs i ⟨⟨g1, -⟩, d5⟩
     refine kM (kc (kA i 8 20) (kc (kA i 9 21) k0)) fun j => ?_
     refine Vi (e := (Qj Qx (Qj Qx (Qc .i64)))) (l := p1) (A := A2) (c := c3) (T := 42) (E := 48) (x := (.tmp 20)) (ix := (.tmp 21)) (ki := .i64) (iz := g) (d := (some 22)) (k := 10) K rfl K K K K (RdT.sp a0 d5) a1 a2 ?_
     intro d6 d7 d8 g2 hc295
     exact ⟨rfl, _, Qa j, ⟨d6, d7, d8, rfl⟩⟩
   ·refine Owe.light K [0, 1] K (Qf ?_ (Qf ?_ Q8))
    ·rintro ρ' w' hs i ⟨g3, d9⟩
     obtain ⟨e0, e1, e2, a4⟩ := i 10 22 K
     refine kM (kc a4 k0) fun j => ?_
     refine Qi.cells (t := 48) (x := (.tmp 22)) (b := e0) (off := (e1 + Int.toNat g * (Qj Qx (Qj Qx (Qc .i64))).sz)) (xs := [(.string ⟨List.toArray q.1⟩), (.string ⟨List.toArray q.2.1⟩), (.int .i64 q.2.2)]) (d := (some 23)) (k := 11) K rfl K K K (Z2 (e := (Qj Qx (Qj Qx (Qc .i64)))) (Qh (RdT.sp a0 d9) e2 a1 a2) b1 rfl) ?_
     exact eK j
    ·rintro ρ' w' hs i ⟨⟨g4, -⟩, e3⟩
     obtain ⟨e4, e5, e6, a4⟩ := i 10 22 K
     refine kM (kc a4 k0) fun j => ?_
     refine Qi.cells (t := 48) (x := (.tmp 22)) (b := e4) (off := (e5 + Int.toNat g * (Qj Qx (Qj Qx (Qc .i64))).sz)) (xs := [(.string ⟨List.toArray q.1⟩), (.string ⟨List.toArray q.2.1⟩), (.int .i64 q.2.2)]) (d := (some 23)) (k := 11) K rfl K K K (Z2 (e := (Qj Qx (Qj Qx (Qc .i64)))) (Qh (RdT.sp a0 e3) e6 a1 a2) b1 rfl) ?_
     exact eK j
   ·refine oH 1 2 ?_
    ·rintro ρ' w' hs i ⟨⟨e7, -⟩, b4⟩
     refine kM (kc (kA i 7 19) (kc (kA i 11 23) k0)) fun j => ?_
     refine Jj (f := m) (fo := (.tmp 19)) (xs := #[(.tmp 23)]) (tys := #[48]) (first := #[]) (captured := p) (args := (([(.agg #[(.string ⟨List.toArray q.1⟩), (.string ⟨List.toArray q.2.1⟩), (.int .i64 q.2.2)])] : List Value) ++ (p).toList)) (d := (some 24)) (k := 12) K rfl K K hcf8 (a7 q.1 q.2.1 q.2.2 v w'  (SP.keeps b4)  b9) ?_
     rintro e g5 ⟨rfl, b5⟩
     refine ⟨_, rfl, ?_⟩
     have e8 := SP.call b4 b5
     clear b5
     refine ⟨_, Qa j, rfl, ?_⟩
     exact (And.intro (And.intro e7 (And.intro rfl (trivial))) (e8))
   ·refine oL 2 ?_
    ·rintro ρ' w' hs i ⟨⟨e9, f0, -⟩, g6⟩
     refine kN [(18, (.string ⟨List.toArray u⟩)), (24, (.string ⟨List.toArray v⟩))] ⟨(Jd (h := 6) K).symm.trans e9, (Jd (h := 12) K).symm.trans f0, trivial⟩ fun j => ?_
     refine V0 (op := .geq) (T := 9) (T' := 9) (x := (.tmp 18)) (y := (.tmp 24)) (a := u) (b := v) (r := (.bool (!(Op.bytesLess u v)))) (d := (some 25)) (k := 13) K rfl K K rfl ?_
     exact eK j
   ·rintro ρ' w' hs hf ⟨⟨g7, g8, -⟩, a5⟩
    refine Q3 [(0, (.slice A2 (List.length p1) c3)), (1, (.func (.func m) #[] p)), (5, (.int .i64 g)), (25, (.bool (!(Op.bytesLess u v))))] ⟨(hs 0 K).trans K, (hs 1 K).trans K, (hs 5 K).trans K, hf 13 25 K, trivial⟩ ?_
    obtain ⟨g9, f2⟩ : ∃ x, w' = x := ⟨_, rfl⟩
    rw [f2] at a5 ⊢
    refine V1 K (o := (.tmp 25)) K (b := (!(Op.bytesLess u v))) K (fun a6 => ?_) (fun a6 => ?_)
    ·have H := ct H a6
     refine aQ ?_
     refine aR ?_
     refine iR 1 1 [(4, (.bool false))] ?_
     refine iF ?_
     refine At.ret K ?_
     refine ⟨(.bool false), K, ?_⟩
     obtain rfl := Qe H
     exact ⟨rfl, SP.sel a5 [] rfl rfl⟩
    ·have H := cf H a6
     refine At.skip K ?_
     refine aR ?_
     refine iR 3 3 [(10, (.int .i64 g)), (11, (.int .i64 (IntKind.wrap .i64 (g + 1)))), (5, (.int .i64 (IntKind.wrap .i64 (g + 1))))] ?_
     refine iF ?_
     exact ⟨(IntKind.wrap .i64 (g + 1)), ⟨K, K, K, trivial⟩, SP.sel a5 [] rfl rfl, H⟩
  ·have H := cf H a3
   refine At.exit K (id := 0) K ?_
   refine aQ ?_
   refine aR ?_
   refine iR 1 1 [(4, (.bool true))] ?_
   refine iF ?_
   refine At.ret K ?_
   refine ⟨(.bool true), K, ?_⟩
   obtain rfl := Qe H
   exact ⟨rfl, SP.sel a8 [] rfl rfl⟩
 ·exact ⟨1, ⟨K, K, K, trivial⟩, SP.sel b6 [] rfl rfl, H⟩
def Gz (a : (List UInt8)) (b : (List UInt8)) (c : Int) : Option ((List UInt8)) :=
  (some (a))
theorem C6  (a : (List UInt8)) (b : (List UInt8)) (c : Int) (w0 : World)  (r : ((List UInt8))) (H : Gz a b c = some r) :
  Calls Tryz.prog 85 #[(.agg #[(.string ⟨List.toArray a⟩), (.string ⟨List.toArray b⟩), (.int .i64 c)])] w0 (fun e w' => e = .returned (.string ⟨List.toArray r⟩) ∧ SP [] w0 w' []) := by
 unfold Gz at H
 refine Qs (n := 5) Tryz.func85 K K K ?_
 have g := Q0 [] w0
 refine aQ ?_
 refine aR ?_
 refine iS 1 ?_
 refine Vn (t := 48) (x := (.tmp 0)) (v := (.agg #[(.string ⟨List.toArray a⟩), (.string ⟨List.toArray b⟩), (.int .i64 c)])) (d := (some 1)) (k := 0) K rfl K g ?_
 intro g4 w5 f
 refine iR 1 2 [(2, (.string ⟨List.toArray ([] : List UInt8)⟩))] ?_
 refine iF ?_
 refine aQ ?_
 refine aR ?_
 refine iR 1 1 [(3, (pt g4 0))] ?_
 refine iS 2 ?_
 refine sL 9 3 g4 0 0 (.string ⟨List.toArray a⟩) 4 f rfl ?_
 refine iR 1 3 [(2, (.string ⟨List.toArray a⟩))] ?_
 refine iF ?_
 refine At.ret K ?_
 refine ⟨(.string ⟨List.toArray a⟩), K, ?_⟩
 obtain rfl := Qe H
 exact ⟨rfl, SP.sel f [] rfl rfl⟩
def Jy (a : Bool) : Option (Bool) :=
  (some (a))
def Jz (a : Int) (b : Int) (c : (List ((List UInt8) × (List UInt8) × Int))) (d : Bool) : Option (Bool) :=
  (cond d (some (false)) ((Y3 a 0 8).bind fun e => (cond e ((Y3 b 0 8).bind fun f => (cond f ((Yo c (fun y0 y1 y2 => Gz y0 y1 y2)).bind fun g => (Jy g)) (Jy false))) (Jy false))))
def U7 (a : Int) (b : Int) (c : (List ((List UInt8) × (List UInt8) × Int))) (d : Bool) : Option (Bool) :=
  (Jz a b c d)
def U8 (a : Int) (b : Int) (c : (List ((List UInt8) × (List UInt8) × Int))) (d : Bool) : Option (Bool) :=
  (U7 a b c d)
def J0 (g : (List UInt8)) (b : Int) (c : Int) (d : (List (Int × Int))) (a : (List ((List UInt8) × (List UInt8) × Int))) (e : Bool) : Option (Bool) :=
  (cond e (Jz b c a e) ((U3 g).bind fun f => (cond (!f) (U7 b c a (!f)) (cond (decide (((List.length d : Nat) : Int) > 4)) (U8 b c a (decide (((List.length d : Nat) : Int) > 4))) (U8 b c a (decide (((List.length a : Nat) : Int) > 4)))))))
def Gu (c : (List UInt8)) (d : Int) (e : Int) (a : (List (Int × Int))) (b : (List ((List UInt8) × (List UInt8) × Int))) : Option (Bool) :=
  ((Zc a (fun y0 y1 => Um y0 y1)).bind fun f => (cond f (J0 c d e a b true) ((Vw b (fun y0 y1 y2 => Nn y0 y1 y2)).bind fun g => (J0 c d e a b g))))
theorem Ev (A5 : Option Addr) (c6 : Nat) (A9 : Option Addr) (i : Nat) (j : (List UInt8)) (g : Int) (h : Int) (f : (List (Int × Int))) (c : (List ((List UInt8) × (List UInt8) × Int))) (w0 : World) (hL : Fn w0) (c7 : RdT (Qj (Qc .u32) (Qc .i64)) w0 A5 c6 f) (b9 : RdT (Qj Qx (Qj Qx (Qc .i64))) w0 A9 i c) (r : (Bool)) (H : Gu j g h f c = some r) :
  Calls Tryz.prog 62 #[(.agg #[(.string ⟨List.toArray j⟩), (.int .i64 g), (.int .i64 h), (.slice A5 (List.length f) c6), (.slice A9 (List.length c) i)])] w0 (fun e w' => e = .returned (.bool r) ∧ SP [] w0 w' []) := by
 unfold Gu at H
 refine Qs (n := 40) Tryz.func62 K K K ?_
 have c8 := Q0 [] w0
 refine aQ ?_
 refine aR ?_
 refine iS 1 ?_
 refine Vn (t := 44) (x := (.tmp 0)) (v := (.agg #[(.string ⟨List.toArray j⟩), (.int .i64 g), (.int .i64 h), (.slice A5 (List.length f) c6), (.slice A9 (List.length c) i)])) (d := (some 1)) (k := 0) K rfl K c8 ?_
 intro a c9 a2
 refine iR 1 2 [(2, (.bool false))] ?_
 refine iF ?_
 refine aQ ?_
 refine aR ?_
 refine iR 1 1 [(4, (pt a 3))] ?_
 refine iS 2 ?_
 refine sL 41 4 a 3 0 (.slice A5 (List.length f) c6) 5 a2 rfl ?_
 obtain ⟨y, d0, H⟩ := Qb H
 refine iS 3 ?_
 refine cF 77 #[(.tmp 5), (.func 78)] #[41, 115] 6 Tryz.call77 (Gc A5 c6 78 #[] f (fun y0 y1 => Um y0 y1) c9 (RdT.sp c7 a2) Tryz.call78 (fun y0 y1 z w  hw  hz => C4  y0 y1 w (Y9 (Y9 hL (SP.keeps a2)) hw) z hz) y d0) ?_
 rintro e d1 ⟨rfl, c0⟩
 refine ⟨_, rfl, ?_⟩
 have a3 := SP.call a2 c0
 clear c0
 refine iR 1 4 [(3, (.bool y))] ?_
 refine iF ?_
 refine aQ ?_
 refine At.join (fun ρ w => ∃ (m : Bool), V6 ρ [(1, (pt a 0)), (3, (.bool m))] ∧ SP [] w0 w [Qn a 44 #[(.string ⟨List.toArray j⟩), (.int .i64 g), (.int .i64 h), (.slice A5 (List.length f) c6), (.slice A9 (List.length c) i)]] ∧ J0 j g h f c m = some r) ?_ ?_
 ·refine aR ?_
  refine iR 2 2 [(7, (.bool y)), (8, (.bool y))] ?_
  refine In.guard (t := 8) (b := y) K (fun a8 => ?_) (fun a8 => ?_)
  ·have H := ct H a8
   refine iR 5 7 [(9, undef), (10, undef), (11, undef), (12, (.bool true)), (3, (.bool true))] ?_
   refine iF ?_
   exact ⟨true, ⟨K, K, trivial⟩, SP.sel a3 [0] rfl rfl, H⟩
  ·have H := cf H a8
   refine iR 1 3 [(9, (pt a 4))] ?_
   refine iS 4 ?_
   refine sL 42 9 a 4 0 (.slice A9 (List.length c) i) 10 a3 rfl ?_
   obtain ⟨a4, d2, H⟩ := Qb H
   refine iS 5 ?_
   refine cF 80 #[(.tmp 10), (.func 81)] #[42, 117] 11 Tryz.call80 (Ni A9 i 81 #[] c (fun y0 y1 y2 => Nn y0 y1 y2) d1 (RdT.sp b9 a3) Tryz.call81 (fun y0 y1 y2 z w  hw  hz => C5  y0 y1 y2 w  z hz) a4 d2) ?_
   rintro e e6 ⟨rfl, c1⟩
   refine ⟨_, rfl, ?_⟩
   have d3 := SP.call a3 c1
   clear c1
   refine iR 2 7 [(12, (.bool a4)), (3, (.bool a4))] ?_
   refine iF ?_
   exact ⟨a4, ⟨K, K, trivial⟩, SP.sel d3 [0] rfl rfl, H⟩
 ·rintro ρ d4 ⟨m, hk, a9, H⟩
  unfold J0 at H
  first | refine At.known [(1, (pt a 0)), (3, (.bool m))] hk ?_ | rw [← Qv (l := [(1, (pt a 0)), (3, (.bool m))]) hk]
  refine aQ ?_
  refine Z1 K (id := 0) K ?_
  refine aQ ?_
  refine aQ ?_
  refine aR ?_
  refine iR 2 2 [(14, (.bool m)), (13, (.bool m))] ?_
  refine iF ?_
  refine At.join (fun ρ w => ∃ (p : Bool), V6 ρ [(1, (pt a 0)), (13, (.bool p))] ∧ SP [] w0 w [Qn a 44 #[(.string ⟨List.toArray j⟩), (.int .i64 g), (.int .i64 h), (.slice A5 (List.length f) c6), (.slice A9 (List.length c) i)]] ∧ Jz g h c p = some r) ?_ ?_
  ·refine V1 K (o := (.tmp 13)) K (b := m) K (fun b0 => ?_) (fun b0 => ?_)
   ·have H := ct H b0
    refine At.skip K ?_
    exact ⟨m, ⟨K, K, trivial⟩, SP.sel a9 [0] rfl rfl, H⟩
   ·have H := cf H b0
    refine aQ ?_
    refine aR ?_
    refine iR 1 1 [(15, (pt a 0))] ?_
    refine iS 2 ?_
    refine sL 9 15 a 0 0 (.string ⟨List.toArray j⟩) 16 a9 rfl ?_
    obtain ⟨a0, d5, H⟩ := Qb H
    refine iS 3 ?_
    refine cF 83 #[(.tmp 16)] #[9] 17 Tryz.call83 (Bg  j d4  a0 d5) ?_
    rintro e e7 ⟨rfl, c2⟩
    refine ⟨_, rfl, ?_⟩
    have a1 := SP.call a9 c2
    clear c2
    refine iR 2 5 [(18, (.bool (!a0))), (13, (.bool (!a0)))] ?_
    refine iF ?_
    refine At.join (fun ρ w => ∃ (q : Bool), V6 ρ [(1, (pt a 0)), (13, (.bool q))] ∧ SP [] w0 w [Qn a 44 #[(.string ⟨List.toArray j⟩), (.int .i64 g), (.int .i64 h), (.slice A5 (List.length f) c6), (.slice A9 (List.length c) i)]] ∧ U7 g h c q = some r) ?_ ?_
    ·refine V1 K (o := (.tmp 13)) K (b := (!a0)) K (fun b1 => ?_) (fun b1 => ?_)
     ·have H := ct H b1
      refine At.skip K ?_
      exact ⟨(!a0), ⟨K, K, trivial⟩, SP.sel a1 [0] rfl rfl, H⟩
     ·have H := cf H b1
      refine aQ ?_
      refine aR ?_
      refine iR 1 1 [(19, (pt a 3))] ?_
      refine iS 2 ?_
      refine sL 41 19 a 3 0 (.slice A5 (List.length f) c6) 20 a1 rfl ?_
      refine iR 3 5 [(21, (.int .i64 ((List.length f : Nat) : Int))), (22, (.bool (decide (((List.length f : Nat) : Int) > 4)))), (13, (.bool (decide (((List.length f : Nat) : Int) > 4))))] ?_
      refine iF ?_
      refine At.join (fun ρ w => ∃ (s : Bool), V6 ρ [(1, (pt a 0)), (13, (.bool s))] ∧ SP [] w0 w [Qn a 44 #[(.string ⟨List.toArray j⟩), (.int .i64 g), (.int .i64 h), (.slice A5 (List.length f) c6), (.slice A9 (List.length c) i)]] ∧ U8 g h c s = some r) ?_ ?_
      ·refine V1 K (o := (.tmp 13)) K (b := (decide (((List.length f : Nat) : Int) > 4))) K (fun b2 => ?_) (fun b2 => ?_)
       ·have H := ct H b2
        refine At.skip K ?_
        exact ⟨(decide (((List.length f : Nat) : Int) > 4)), ⟨K, K, trivial⟩, SP.sel a1 [0] rfl rfl, H⟩
       ·have H := cf H b2
        refine aR ?_
        refine iR 1 1 [(23, (pt a 4))] ?_
        refine iS 2 ?_
        refine sL 42 23 a 4 0 (.slice A9 (List.length c) i) 24 a1 rfl ?_
        refine iR 3 5 [(25, (.int .i64 ((List.length c : Nat) : Int))), (26, (.bool (decide (((List.length c : Nat) : Int) > 4)))), (13, (.bool (decide (((List.length c : Nat) : Int) > 4))))] ?_
        refine iF ?_
        exact ⟨(decide (((List.length c : Nat) : Int) > 4)), ⟨K, K, trivial⟩, SP.sel a1 [0] rfl rfl, H⟩
      ·rintro ρ e8 ⟨s, hk, d6, H⟩
       unfold U8 at H
       first | refine At.known [(1, (pt a 0)), (13, (.bool s))] hk ?_ | rw [← Qv (l := [(1, (pt a 0)), (13, (.bool s))]) hk]
       exact ⟨s, ⟨K, K, trivial⟩, SP.sel d6 [0] rfl rfl, H⟩
    ·rintro ρ e9 ⟨q, hk, d7, H⟩
     unfold U7 at H
     first | refine At.known [(1, (pt a 0)), (13, (.bool q))] hk ?_ | rw [← Qv (l := [(1, (pt a 0)), (13, (.bool q))]) hk]
     exact ⟨q, ⟨K, K, trivial⟩, SP.sel d7 [0] rfl rfl, H⟩
  ·rintro ρ d8 ⟨p, hk, b3, H⟩
   unfold Jz at H
   first | refine At.known [(1, (pt a 0)), (13, (.bool p))] hk ?_ | rw [← Qv (l := [(1, (pt a 0)), (13, (.bool p))]) hk]
   refine V1 K (o := (.tmp 13)) K (b := p) K (fun b4 => ?_) (fun b4 => ?_)
   ·have H := ct H b4
    refine aQ ?_
    refine aR ?_
    refine iR 1 1 [(2, (.bool false))] ?_
    refine iF ?_
    refine At.ret K ?_
    refine ⟨(.bool false), K, ?_⟩
    obtain rfl := Qe H
    exact ⟨rfl, SP.sel b3 [] rfl rfl⟩
   ·have H := cf H b4
    refine At.skip K ?_
    refine aQ ?_
    refine At.join (fun ρ w => ∃ (u : Bool), V6 ρ [(2, (.bool u))] ∧ SP [] w0 w [] ∧ Jy u = some r) ?_ ?_
    ·refine aR ?_
     refine iR 1 1 [(27, (pt a 1))] ?_
     refine iS 2 ?_
     refine sL 3 27 a 1 0 (.int .i64 g) 28 b3 rfl ?_
     obtain ⟨b5, d9, H⟩ := Qb H
     refine iS 3 ?_
     refine cF 59 #[(.tmp 28), (.const (.int .i64 (0))), (.const (.int .i64 (8)))] #[2, 2, 2] 29 Tryz.call59 (Uf  g 0 8 d8  b5 d9) ?_
     rintro e e0 ⟨rfl, c3⟩
     refine ⟨_, rfl, ?_⟩
     have b6 := SP.call b3 c3
     clear c3
     refine iR 1 4 [(30, (.bool b5))] ?_
     refine In.guard (t := 30) (b := b5) K (fun b7 => ?_) (fun b7 => ?_)
     ·have H := ct H b7
      refine iR 1 5 [(31, (pt a 2))] ?_
      refine iS 6 ?_
      refine sL 3 31 a 2 0 (.int .i64 h) 32 b6 rfl ?_
      obtain ⟨a5, e1, H⟩ := Qb H
      refine iS 7 ?_
      refine cF 59 #[(.tmp 32), (.const (.int .i64 (0))), (.const (.int .i64 (8)))] #[2, 2, 2] 33 Tryz.call59 (Uf  h 0 8 e0  a5 e1) ?_
      rintro e e2 ⟨rfl, c4⟩
      refine ⟨_, rfl, ?_⟩
      have a6 := SP.call b6 c4
      clear c4
      refine iR 2 9 [(34, (.bool a5)), (35, (.bool a5))] ?_
      refine In.guard (t := 35) (b := a5) K (fun b8 => ?_) (fun b8 => ?_)
      ·have H := ct H b8
       refine iR 1 10 [(36, (pt a 4))] ?_
       refine iS 11 ?_
       refine sL 42 36 a 4 0 (.slice A9 (List.length c) i) 37 a6 rfl ?_
       obtain ⟨a7, e3, H⟩ := Qb H
       refine iS 12 ?_
       refine cF 84 #[(.tmp 37), (.func 85)] #[42, 120] 38 Tryz.call84 (Dl A9 i 85 #[] c (fun y0 y1 y2 => Gz y0 y1 y2) e2 (RdT.sp b9 a6) Tryz.call85 (fun y0 y1 y2 z w  hw  hz => C6  y0 y1 y2 w  z hz) a7 e3) ?_
       rintro e f0 ⟨rfl, c5⟩
       refine ⟨_, rfl, ?_⟩
       have e4 := SP.call a6 c5
       clear c5
       refine iR 2 14 [(39, (.bool a7)), (2, (.bool a7))] ?_
       refine iF ?_
       exact ⟨a7, ⟨K, trivial⟩, SP.sel e4 [] rfl rfl, H⟩
      ·have H := cf H b8
       refine iR 5 14 [(36, undef), (37, undef), (38, undef), (39, (.bool false)), (2, (.bool false))] ?_
       refine iF ?_
       exact ⟨false, ⟨K, trivial⟩, SP.sel a6 [] rfl rfl, H⟩
     ·have H := cf H b7
      refine iR 10 14 [(31, undef), (32, undef), (33, undef), (34, (.bool false)), (35, (.bool false)), (36, undef), (37, undef), (38, undef), (39, (.bool false)), (2, (.bool false))] ?_
      refine iF ?_
      exact ⟨false, ⟨K, trivial⟩, SP.sel b6 [] rfl rfl, H⟩
    ·rintro ρ f1 ⟨u, hk, e5, H⟩
     unfold Jy at H
     first | refine At.known [(2, (.bool u))] hk ?_ | rw [← Qv (l := [(2, (.bool u))]) hk]
     refine At.ret K ?_
     refine ⟨(.bool u), K, ?_⟩
     obtain rfl := Qe H
     exact ⟨rfl, SP.sel e5 [] rfl rfl⟩
def Gd (a : (List UInt8)) (b : Int) (c : Int) (d : (List (Int × Int))) (e : (List ((List UInt8) × (List UInt8) × Int))) : Option (Bool) :=
  ((Gu a b c d e).bind fun f => (some ((!f))))
theorem Eh (A5 : Option Addr) (c6 : Nat) (A9 : Option Addr) (c : Nat) (f : (List UInt8)) (g : Int) (h : Int) (a : (List (Int × Int))) (b : (List ((List UInt8) × (List UInt8) × Int))) (w0 : World) (hL : Fn w0) (m : RdT (Qj (Qc .u32) (Qc .i64)) w0 A5 c6 a) (o : RdT (Qj Qx (Qj Qx (Qc .i64))) w0 A9 c b) (r : (Bool)) (H : Gd f g h a b = some r) :
  Calls Tryz.prog 61 #[(.agg #[(.string ⟨List.toArray f⟩), (.int .i64 g), (.int .i64 h), (.slice A5 (List.length a) c6), (.slice A9 (List.length b) c)])] w0 (fun e w' => e = .returned (.bool r) ∧ SP [] w0 w' []) := by
 unfold Gd at H
 refine Qs (n := 6) Tryz.func61 K K K ?_
 have p := Q0 [] w0
 refine aQ ?_
 refine aR ?_
 refine iS 1 ?_
 refine Vn (t := 44) (x := (.tmp 0)) (v := (.agg #[(.string ⟨List.toArray f⟩), (.int .i64 g), (.int .i64 h), (.slice A5 (List.length a) c6), (.slice A9 (List.length b) c)])) (d := (some 1)) (k := 0) K rfl K p ?_
 intro q s i
 refine iR 1 2 [(2, (.bool false))] ?_
 refine iF ?_
 refine aQ ?_
 refine aR ?_
 refine iS 1 ?_
 refine sL 44 1 q 0 0 (.agg #[(.string ⟨List.toArray f⟩), (.int .i64 g), (.int .i64 h), (.slice A5 (List.length a) c6), (.slice A9 (List.length b) c)]) 3 i rfl ?_
 obtain ⟨j, u, H⟩ := Qb H
 refine iS 2 ?_
 refine cF 62 #[(.tmp 3)] #[44] 4 Tryz.call62 (Ev A5 c6 A9 c f g h a b s (Y9 hL (SP.keeps i)) (RdT.sp m i) (RdT.sp o i) j u) ?_
 rintro e y ⟨rfl, l⟩
 refine ⟨_, rfl, ?_⟩
 have w := SP.call i l
 clear l
 refine iR 2 4 [(5, (.bool (!j))), (2, (.bool (!j)))] ?_
 refine iF ?_
 refine At.ret K ?_
 refine ⟨(.bool (!j)), K, ?_⟩
 obtain rfl := Qe H
 exact ⟨rfl, SP.sel w [] rfl rfl⟩
def Za (d : Int → Option (Bool)) (p1 : (List Qg)) (p6 : ((List UInt8) → Int → Int → (List (Int × Int)) → (List ((List UInt8) × (List UInt8) × Int)) → Option ((List UInt8)))) (c : Int) : Option (Bool) :=
  (cond (decide (c < ((List.length p1 : Nat) : Int))) ((idx p1 (IntKind.wrap .i64 (c - 1))).bind fun a => ((p6 a.1 a.2.1 a.2.2.1 a.2.2.2.1 a.2.2.2.2).bind fun e => ((idx p1 c).bind fun b => ((p6 b.1 b.2.1 b.2.2.1 b.2.2.2.1 b.2.2.2.2).bind fun f => (cond (!(Op.bytesLess e f)) (some (false)) (d (IntKind.wrap .i64 (c + 1)))))))) (some (true)))
def Zb (p1 : (List Qg)) (p6 : ((List UInt8) → Int → Int → (List (Int × Int)) → (List ((List UInt8) × (List UInt8) × Int)) → Option ((List UInt8)))) : Nat → Int → Option (Bool)
  | 0, _ => none
  | f + 1, a => Za  (Zb p1 p6 f) p1 p6 a
def Ye (p1 : (List Qg)) (p6 : ((List UInt8) → Int → Int → (List (Int × Int)) → (List ((List UInt8) × (List UInt8) × Int)) → Option ((List UInt8)))) : Option (Bool) :=
  (Zb p1 p6 Zj 1)
theorem Da (A2 : Option Addr) (c3 : Nat) (q : FuncId) (s : Array Value) (d5 : (List Va)) (p6 : ((List UInt8) → Int → Int → (List (Int × Int)) → (List ((List UInt8) × (List UInt8) × Int)) → Option ((List UInt8)))) (w0 : World) (u : (dDS Js Ce).ok w0 (A2, c3, d5)) (hcf9 : ∀ (args : Array Value) (w : World), (callFunc q args).run Tryz.prog w = .ok (.enter q args) w) (b1 : ∀ (y0 : (List UInt8)) (y1 : Int) (y2 : Int) (y3 : (List (Int × Int))) (y4 : (List ((List UInt8) × (List UInt8) × Int))) (z : ((List UInt8))) (w : World) (Ay3 : Option Addr) (cy3 : Nat) (Ay4 : Option Addr) (cy4 : Nat), Below w0.heap.size w0 w → RdT (Qj (Qc .u32) (Qc .i64)) w Ay3 cy3 y3 → RdT (Qj Qx (Qj Qx (Qc .i64))) w Ay4 cy4 y4 → p6 y0 y1 y2 y3 y4 = some z → Calls Tryz.prog q (([(.agg #[(.string ⟨List.toArray y0⟩), (.int .i64 y1), (.int .i64 y2), (.slice Ay3 (List.length y3) cy3), (.slice Ay4 (List.length y4) cy4)])] : List Value) ++ (s).toList).toArray w (fun e w' => e = .returned (.string ⟨List.toArray z⟩) ∧ SP [] w w' [])) (r : (Bool)) (H : Ye (List.map stT d5) p6 = some r) :
  Calls Tryz.prog 63 #[(.slice A2 (List.length (List.map stT d5)) c3), (.func (.func q) #[] s)] w0 (fun e w' => e = .returned (.bool r) ∧ SP [] w0 w' []) := by
 unfold Ye at H
 refine Qs (n := 26) Tryz.func63 K K K ?_
 have b7 := Q0 [] w0
 refine aQ ?_
 refine aR ?_
 refine iR 1 1 [(4, (.bool false))] ?_
 refine iF ?_
 refine aQ ?_
 refine aQ ?_
 refine aR ?_
 refine iR 1 1 [(5, (.int .i64 1))] ?_
 refine iF ?_
 refine Z1 K (id := 0) K ?_
 refine Nl K (fun f1 ρ w => ∃ (j : Int), V6 ρ [(0, (.slice A2 (List.length (List.map stT d5)) c3)), (1, (.func (.func q) #[] s)), (5, (.int .i64 j))] ∧ SP [] w0 w [] ∧ Zb (List.map stT d5) p6 f1 j = some r) (by rintro ρ w ⟨j, hk, hs, H⟩; cases H) ?_ Zj ?_
 ·rintro f1 ρ f4 ⟨j, hk, b2, H⟩
  refine At.known [(0, (.slice A2 (List.length (List.map stT d5)) c3)), (1, (.func (.func q) #[] s)), (5, (.int .i64 j))] hk ?_
  replace H := (show Za (Zb (List.map stT d5) p6 f1) (List.map stT d5) p6 j = some r from H)
  unfold Za at H
  refine aQ ?_
  refine aQ ?_
  refine aR ?_
  refine iR 4 4 [(6, (.int .i64 j)), (7, (.slice A2 (List.length (List.map stT d5)) c3)), (8, (.int .i64 ((List.length (List.map stT d5) : Nat) : Int))), (9, (.bool (decide (j < ((List.length (List.map stT d5) : Nat) : Int)))))] ?_
  refine iF ?_
  refine V1 K (o := (.tmp 9)) K (b := (decide (j < ((List.length (List.map stT d5) : Nat) : Int)))) K (fun a6 => ?_) (fun a6 => ?_)
  ·have H := ct H a6
   refine At.skip K ?_
   refine aQ ?_
   refine Z1 K (id := 1) K ?_
   refine aQ ?_
   obtain ⟨i, b3, b4, a7, H⟩ := Rc H
   obtain ⟨v, b8, H⟩ := Qb H
   obtain ⟨g, a1, a2, a3, H⟩ := Rc H
   obtain ⟨a0, b9, H⟩ := Qb H
   refine aG [GEq (.func (.func q) #[] s), GEq (.slice A2 (List.length (List.map stT d5)) c3), GEq (.int .i64 j), GEq (.int .i64 (IntKind.wrap .i64 (j - 1))), Vr A2 Js.sz (IntKind.wrap .i64 (j - 1)), GEq (.agg #[(.string ⟨List.toArray (stT i).1⟩), (.int .i64 (stT i).2.1), (.int .i64 (stT i).2.2.1), (.slice i.2.2.2.1.1 (List.length (stT i).2.2.2.1) i.2.2.2.1.2.1), (.slice i.2.2.2.2.1 (List.length (stT i).2.2.2.2) i.2.2.2.2.2.1)]), GEq (.string ⟨List.toArray v⟩), GEq (.func (.func q) #[] s), GEq (.slice A2 (List.length (List.map stT d5)) c3), GEq (.int .i64 j), Vr A2 Js.sz j, GEq (.agg #[(.string ⟨List.toArray (stT g).1⟩), (.int .i64 (stT g).2.1), (.int .i64 (stT g).2.2.1), (.slice g.2.2.2.1.1 (List.length (stT g).2.2.2.1) g.2.2.2.1.2.1), (.slice g.2.2.2.2.1 (List.length (stT g).2.2.2.2) g.2.2.2.2.2.1)]), GEq (.string ⟨List.toArray a0⟩), GEq (.bool (!(Op.bytesLess v a0)))] [6, 12] (tG [] w0 [] [([], []), ([6], [(.string ⟨List.toArray v⟩)]), ([6, 12], [(.string ⟨List.toArray v⟩), (.string ⟨List.toArray a0⟩)])]) 14 2 ⟨trivial, SP.drew b2⟩ ?_ ?_
   iterate 14 refine And.intro ?_ ?_
   exact trivial
   ·exact oV (hC (hS 1 (.func (.func q) #[] s)) (h0)) (.func (.func q) #[] s)
   ·exact oV (hC (hS 0 (.slice A2 (List.length (List.map stT d5)) c3)) (h0)) (.slice A2 (List.length (List.map stT d5)) c3)
   ·exact oV (hC (hS 5 (.int .i64 j)) (h0)) (.int .i64 j)
   ·exact oV (hC (hA 2 14) (h0)) (.int .i64 (IntKind.wrap .i64 (j - 1)))
   ·refine oL 0 ?_
    ·rintro ρ' w' hs m ⟨f5, c0⟩
     refine kM (kc (kA m 1 13) (kc (kA m 3 15) k0)) fun p => ?_
     refine Ul stT (e := Js) (l := d5) (A := A2) (c := c3) (T := 22) (E := 44) (x := (.tmp 13)) (ix := (.tmp 15)) (ki := .i64) (iz := (IntKind.wrap .i64 (j - 1))) (d := (some 16)) (k := 4) K rfl K K K K (RdT.sp (Uz u) c0) b3 b4 ?_
     intro c1 c2 c4 f6 hc276
     exact ⟨rfl, _, Qa p, ⟨c1, c2, c4, rfl⟩⟩
   ·refine oL 0 ?_
    ·rintro ρ' w' hs m ⟨f7, c5⟩
     obtain ⟨c6, c7, c8, c9⟩ := m 4 16 K
     refine kM (kc c9 k0) fun p => ?_
     refine Qi.cells (t := 44) (x := (.tmp 16)) (b := c6) (off := (c7 + Int.toNat (IntKind.wrap .i64 (j - 1)) * Js.sz)) (xs := [(.string ⟨List.toArray (stT i).1⟩), (.int .i64 (stT i).2.1), (.int .i64 (stT i).2.2.1), (.slice i.2.2.2.1.1 (List.length (stT i).2.2.2.1) i.2.2.2.1.2.1), (.slice i.2.2.2.2.1 (List.length (stT i).2.2.2.2) i.2.2.2.2.2.1)]) (d := (some 17)) (k := 5) K rfl K K K (Z2 (e := Js) (Qh (RdT.sp (Uz u) c5) c8 b3 b4) a7 rfl) ?_
     exact eK p
   ·refine oH 0 1 ?_
    ·rintro ρ' w' hs m ⟨f8, a4⟩
     refine kM (kc (kA m 0 12) (kc (kA m 5 17) k0)) fun p => ?_
     refine Jj (f := q) (fo := (.tmp 12)) (xs := #[(.tmp 17)]) (tys := #[44]) (first := #[]) (captured := s) (args := (([(.agg #[(.string ⟨List.toArray (stT i).1⟩), (.int .i64 (stT i).2.1), (.int .i64 (stT i).2.2.1), (.slice i.2.2.2.1.1 (List.length (stT i).2.2.2.1) i.2.2.2.1.2.1), (.slice i.2.2.2.2.1 (List.length (stT i).2.2.2.2) i.2.2.2.2.2.1)])] : List Value) ++ (s).toList)) (d := (some 18)) (k := 6) K rfl K K hcf9 (b1 (stT i).1 (stT i).2.1 (stT i).2.2.1 (stT i).2.2.2.1 (stT i).2.2.2.2 v w' i.2.2.2.1.1 i.2.2.2.1.2.1 i.2.2.2.2.1 i.2.2.2.2.2.1 (SP.keeps a4) (RdT.sp (Uz (dp1 (dp2 (dp2 (dp2 (Bx u a7)))))) a4) (RdT.sp (Uz (dp2 (dp2 (dp2 (dp2 (Bx u a7)))))) a4) b8) ?_
     rintro e f9 ⟨rfl, b5⟩
     refine ⟨_, rfl, ?_⟩
     have d0 := SP.call a4 b5
     clear b5
     refine ⟨_, Qa p, rfl, ?_⟩
     exact (And.intro (And.intro rfl (trivial)) (d0))
   ·exact oV (hC (hS 1 (.func (.func q) #[] s)) (h0)) (.func (.func q) #[] s)
   ·exact oV (hC (hS 0 (.slice A2 (List.length (List.map stT d5)) c3)) (h0)) (.slice A2 (List.length (List.map stT d5)) c3)
   ·exact oV (hC (hS 5 (.int .i64 j)) (h0)) (.int .i64 j)
   ·refine Owe.light K [0, 1] K (Qf ?_ (Qf ?_ Q8))
    ·rintro ρ' w' hs m ⟨g0, d1⟩
     refine kM (kc (kA m 8 20) (kc (kA m 9 21) k0)) fun p => ?_
     refine Ul stT (e := Js) (l := d5) (A := A2) (c := c3) (T := 22) (E := 44) (x := (.tmp 20)) (ix := (.tmp 21)) (ki := .i64) (iz := j) (d := (some 22)) (k := 10) K rfl K K K K (RdT.sp (Uz u) d1) a1 a2 ?_
     intro d2 d3 d4 g1 hc294
     exact ⟨rfl, _, Qa p, ⟨d2, d3, d4, rfl⟩⟩
    ·rintro ρ' w' hs m ⟨⟨g2, -⟩, d6⟩
     refine kM (kc (kA m 8 20) (kc (kA m 9 21) k0)) fun p => ?_
     refine Ul stT (e := Js) (l := d5) (A := A2) (c := c3) (T := 22) (E := 44) (x := (.tmp 20)) (ix := (.tmp 21)) (ki := .i64) (iz := j) (d := (some 22)) (k := 10) K rfl K K K K (RdT.sp (Uz u) d6) a1 a2 ?_
     intro d7 d8 d9 g3 hc302
     exact ⟨rfl, _, Qa p, ⟨d7, d8, d9, rfl⟩⟩
   ·refine Owe.light K [0, 1] K (Qf ?_ (Qf ?_ Q8))
    ·rintro ρ' w' hs m ⟨g4, e0⟩
     obtain ⟨e1, e2, e3, a8⟩ := m 10 22 K
     refine kM (kc a8 k0) fun p => ?_
     refine Qi.cells (t := 44) (x := (.tmp 22)) (b := e1) (off := (e2 + Int.toNat j * Js.sz)) (xs := [(.string ⟨List.toArray (stT g).1⟩), (.int .i64 (stT g).2.1), (.int .i64 (stT g).2.2.1), (.slice g.2.2.2.1.1 (List.length (stT g).2.2.2.1) g.2.2.2.1.2.1), (.slice g.2.2.2.2.1 (List.length (stT g).2.2.2.2) g.2.2.2.2.2.1)]) (d := (some 23)) (k := 11) K rfl K K K (Z2 (e := Js) (Qh (RdT.sp (Uz u) e0) e3 a1 a2) a3 rfl) ?_
     exact eK p
    ·rintro ρ' w' hs m ⟨⟨g5, -⟩, e4⟩
     obtain ⟨e5, e6, e7, a8⟩ := m 10 22 K
     refine kM (kc a8 k0) fun p => ?_
     refine Qi.cells (t := 44) (x := (.tmp 22)) (b := e5) (off := (e6 + Int.toNat j * Js.sz)) (xs := [(.string ⟨List.toArray (stT g).1⟩), (.int .i64 (stT g).2.1), (.int .i64 (stT g).2.2.1), (.slice g.2.2.2.1.1 (List.length (stT g).2.2.2.1) g.2.2.2.1.2.1), (.slice g.2.2.2.2.1 (List.length (stT g).2.2.2.2) g.2.2.2.2.2.1)]) (d := (some 23)) (k := 11) K rfl K K K (Z2 (e := Js) (Qh (RdT.sp (Uz u) e4) e7 a1 a2) a3 rfl) ?_
     exact eK p
   ·refine oH 1 2 ?_
    ·rintro ρ' w' hs m ⟨⟨e8, -⟩, a5⟩
     refine kM (kc (kA m 7 19) (kc (kA m 11 23) k0)) fun p => ?_
     refine Jj (f := q) (fo := (.tmp 19)) (xs := #[(.tmp 23)]) (tys := #[44]) (first := #[]) (captured := s) (args := (([(.agg #[(.string ⟨List.toArray (stT g).1⟩), (.int .i64 (stT g).2.1), (.int .i64 (stT g).2.2.1), (.slice g.2.2.2.1.1 (List.length (stT g).2.2.2.1) g.2.2.2.1.2.1), (.slice g.2.2.2.2.1 (List.length (stT g).2.2.2.2) g.2.2.2.2.2.1)])] : List Value) ++ (s).toList)) (d := (some 24)) (k := 12) K rfl K K hcf9 (b1 (stT g).1 (stT g).2.1 (stT g).2.2.1 (stT g).2.2.2.1 (stT g).2.2.2.2 a0 w' g.2.2.2.1.1 g.2.2.2.1.2.1 g.2.2.2.2.1 g.2.2.2.2.2.1 (SP.keeps a5) (RdT.sp (Uz (dp1 (dp2 (dp2 (dp2 (Bx u a3)))))) a5) (RdT.sp (Uz (dp2 (dp2 (dp2 (dp2 (Bx u a3)))))) a5) b9) ?_
     rintro e g6 ⟨rfl, b6⟩
     refine ⟨_, rfl, ?_⟩
     have e9 := SP.call a5 b6
     clear b6
     refine ⟨_, Qa p, rfl, ?_⟩
     exact (And.intro (And.intro e8 (And.intro rfl (trivial))) (e9))
   ·refine oL 2 ?_
    ·rintro ρ' w' hs m ⟨⟨f0, f2, -⟩, g7⟩
     refine kN [(18, (.string ⟨List.toArray v⟩)), (24, (.string ⟨List.toArray a0⟩))] ⟨(Jd (h := 6) K).symm.trans f0, (Jd (h := 12) K).symm.trans f2, trivial⟩ fun p => ?_
     refine V0 (op := .geq) (T := 9) (T' := 9) (x := (.tmp 18)) (y := (.tmp 24)) (a := v) (b := a0) (r := (.bool (!(Op.bytesLess v a0)))) (d := (some 25)) (k := 13) K rfl K K rfl ?_
     exact eK p
   ·rintro ρ' w' hs hf ⟨⟨g8, g9, -⟩, a9⟩
    refine Q3 [(0, (.slice A2 (List.length (List.map stT d5)) c3)), (1, (.func (.func q) #[] s)), (5, (.int .i64 j)), (25, (.bool (!(Op.bytesLess v a0))))] ⟨(hs 0 K).trans K, (hs 1 K).trans K, (hs 5 K).trans K, hf 13 25 K, trivial⟩ ?_
    obtain ⟨h1, f3⟩ : ∃ x, w' = x := ⟨_, rfl⟩
    rw [f3] at a9 ⊢
    refine V1 K (o := (.tmp 25)) K (b := (!(Op.bytesLess v a0))) K (fun b0 => ?_) (fun b0 => ?_)
    ·have H := ct H b0
     refine aQ ?_
     refine aR ?_
     refine iR 1 1 [(4, (.bool false))] ?_
     refine iF ?_
     refine At.ret K ?_
     refine ⟨(.bool false), K, ?_⟩
     obtain rfl := Qe H
     exact ⟨rfl, SP.sel a9 [] rfl rfl⟩
    ·have H := cf H b0
     refine At.skip K ?_
     refine aR ?_
     refine iR 3 3 [(10, (.int .i64 j)), (11, (.int .i64 (IntKind.wrap .i64 (j + 1)))), (5, (.int .i64 (IntKind.wrap .i64 (j + 1))))] ?_
     refine iF ?_
     exact ⟨(IntKind.wrap .i64 (j + 1)), ⟨K, K, K, trivial⟩, SP.sel a9 [] rfl rfl, H⟩
  ·have H := cf H a6
   refine At.exit K (id := 0) K ?_
   refine aQ ?_
   refine aR ?_
   refine iR 1 1 [(4, (.bool true))] ?_
   refine iF ?_
   refine At.ret K ?_
   refine ⟨(.bool true), K, ?_⟩
   obtain rfl := Qe H
   exact ⟨rfl, SP.sel b2 [] rfl rfl⟩
 ·exact ⟨1, ⟨K, K, K, trivial⟩, SP.sel b7 [] rfl rfl, H⟩
def Ri (a : (List UInt8)) (b : Int) (c : Int) (d : (List (Int × Int))) (e : (List ((List UInt8) × (List UInt8) × Int))) : Option ((List UInt8)) :=
  (some (a))
theorem Ei (A5 : Option Addr) (c6 : Nat) (A9 : Option Addr) (f : Nat) (a : (List UInt8)) (g : Int) (h : Int) (b : (List (Int × Int))) (c : (List ((List UInt8) × (List UInt8) × Int))) (w0 : World) (m : RdT (Qj (Qc .u32) (Qc .i64)) w0 A5 c6 b) (o : RdT (Qj Qx (Qj Qx (Qc .i64))) w0 A9 f c) (r : ((List UInt8))) (H : Ri a g h b c = some r) :
  Calls Tryz.prog 64 #[(.agg #[(.string ⟨List.toArray a⟩), (.int .i64 g), (.int .i64 h), (.slice A5 (List.length b) c6), (.slice A9 (List.length c) f)])] w0 (fun e w' => e = .returned (.string ⟨List.toArray r⟩) ∧ SP [] w0 w' []) := by
 unfold Ri at H
 refine Qs (n := 5) Tryz.func64 K K K ?_
 have l := Q0 [] w0
 refine aQ ?_
 refine aR ?_
 refine iS 1 ?_
 refine Vn (t := 44) (x := (.tmp 0)) (v := (.agg #[(.string ⟨List.toArray a⟩), (.int .i64 g), (.int .i64 h), (.slice A5 (List.length b) c6), (.slice A9 (List.length c) f)])) (d := (some 1)) (k := 0) K rfl K l ?_
 intro i p j
 refine iR 1 2 [(2, (.string ⟨List.toArray ([] : List UInt8)⟩))] ?_
 refine iF ?_
 refine aQ ?_
 refine aR ?_
 refine iR 1 1 [(3, (pt i 0))] ?_
 refine iS 2 ?_
 refine sL 9 3 i 0 0 (.string ⟨List.toArray a⟩) 4 j rfl ?_
 refine iR 1 3 [(2, (.string ⟨List.toArray a⟩))] ?_
 refine iF ?_
 refine At.ret K ?_
 refine ⟨(.string ⟨List.toArray a⟩), K, ?_⟩
 obtain rfl := Qe H
 exact ⟨rfl, SP.sel j [] rfl rfl⟩
def Uo (b : Int → Option (Bool)) (a : Bool) : Option (Bool) :=
  (some (a))
def Yv (a : Int → Option (Bool)) (d : Int) (e : Int) (f : Int) (g : Int) (b : (List Qg)) (c : Int) : Option (Bool) :=
  (cond (decide (c < ((List.length ([d, e, f, g] : List Int) : Nat) : Int))) ((idx ([d, e, f, g] : List Int) c).bind fun h => ((Y3 h 1 1073741824).bind fun i => (cond (!i) (some (false)) (a (IntKind.wrap .i64 (c + 1)))))) (cond (decide (((List.length b : Nat) : Int) ≤ 8)) ((Vp b (fun y0 y1 y2 y3 y4 => Gd y0 y1 y2 y3 y4)).bind fun j => (cond (!j) ((Ye b (fun y0 y1 y2 y3 y4 => Ri y0 y1 y2 y3 y4)).bind fun k => (Uo a k)) (Uo a false))) (Uo a false)))
def Jk (a : Int) (b : Int) (c : Int) (d : Int) (e : (List Qg)) : Nat → Int → Option (Bool)
  | 0, _ => none
  | f + 1, g => Yv  (Jk a b c d e f) a b c d e g
def Rf (a : Int) (b : Int) (c : Int) (d : Int) (e : (List Qg)) : Option (Bool) :=
  (Jk a b c d e Zj 0)
theorem Fa (A6 : Option Addr) (c7 : Nat) (a : Int) (f : Int) (g : Int) (h : Int) (d9 : (List Va)) (w0 : World) (hL : Fn w0) (a9 : (dDS Js Ce).ok w0 (A6, c7, d9)) (r : (Bool)) (H : Rf a f g h (List.map stT d9) = some r) :
  Calls Tryz.prog 43 #[(.agg #[(.int .i64 a), (.int .i64 f), (.int .i64 g), (.int .i64 h), (.slice A6 (List.length (List.map stT d9)) c7)])] w0 (fun e w' => e = .returned (.bool r) ∧ SP [] w0 w' []) := by
 unfold Rf at H
 refine Qs (n := 38) Tryz.func43 K K K ?_
 have b7 := Q0 [] w0
 refine aQ ?_
 refine aR ?_
 refine iS 1 ?_
 refine Vn (t := 24) (x := (.tmp 0)) (v := (.agg #[(.int .i64 a), (.int .i64 f), (.int .i64 g), (.int .i64 h), (.slice A6 (List.length (List.map stT d9)) c7)])) (d := (some 1)) (k := 0) K rfl K b7 ?_
 intro m d0 u
 refine iR 1 2 [(2, (.bool false))] ?_
 refine iF ?_
 refine aQ ?_
 refine aQ ?_
 refine aR ?_
 refine iR 1 1 [(5, (pt m 0))] ?_
 refine iS 2 ?_
 refine sL 2 5 m 0 0 (.int .i64 a) 6 u rfl ?_
 refine iR 1 3 [(7, (pt m 1))] ?_
 refine iS 4 ?_
 refine sL 2 7 m 1 0 (.int .i64 f) 8 u rfl ?_
 refine iR 1 5 [(9, (pt m 2))] ?_
 refine iS 6 ?_
 refine sL 2 9 m 2 0 (.int .i64 g) 10 u rfl ?_
 refine iR 1 7 [(11, (pt m 3))] ?_
 refine iS 8 ?_
 refine sL 2 11 m 3 0 (.int .i64 h) 12 u rfl ?_
 refine iS 9 ?_
 refine Zv (e := (Qc .i64)) (T := 99) (E := 2) (len := 4) (parts := #[(0, (.tmp 6)), (1, (.tmp 8)), (2, (.tmp 10)), (3, (.tmp 12))]) (cs := #[(.int .i64 a), (.int .i64 f), (.int .i64 g), (.int .i64 h)]) ([a, f, g, h] : List Int) (d := (some 13)) (k := 8) K rfl (fun _ => K) u rfl rfl rfl rfl ?_
 intro a0 d1 b8
 refine iR 2 11 [(14, (.int .i64 ((List.length ([a, f, g, h] : List Int) : Nat) : Int))), (15, (.int .i64 0))] ?_
 refine iF ?_
 refine Z1 K (id := 0) K ?_
 refine Nl K (fun f3 ρ w => ∃ (p : Int), V6 ρ [(1, (pt m 0)), (13, (.slice (some ⟨a0, 0, none⟩) (List.length ([a, f, g, h] : List Int)) (List.length ([a, f, g, h] : List Int)))), (14, (.int .i64 ((List.length ([a, f, g, h] : List Int) : Nat) : Int))), (15, (.int .i64 p))] ∧ SP [] w0 w [Qn m 24 #[(.int .i64 a), (.int .i64 f), (.int .i64 g), (.int .i64 h), (.slice A6 (List.length (List.map stT d9)) c7)], Yc 2 (Qc .i64) (some ⟨a0, 0, none⟩) (List.length ([a, f, g, h] : List Int)) ([a, f, g, h] : List Int)] ∧ Jk a f g h (List.map stT d9) f3 p = some r) (by rintro ρ w ⟨p, hk, hs, H⟩; cases H) ?_ Zj ?_
 ·rintro f3 ρ b0 ⟨p, hk, q, H⟩
  refine At.known [(1, (pt m 0)), (13, (.slice (some ⟨a0, 0, none⟩) (List.length ([a, f, g, h] : List Int)) (List.length ([a, f, g, h] : List Int)))), (14, (.int .i64 ((List.length ([a, f, g, h] : List Int) : Nat) : Int))), (15, (.int .i64 p))] hk ?_
  replace H := (show Yv (Jk a f g h (List.map stT d9) f3) a f g h (List.map stT d9) p = some r from H)
  unfold Yv at H
  refine aQ ?_
  refine aR ?_
  refine iR 1 1 [(16, (.bool (decide (p < ((List.length ([a, f, g, h] : List Int) : Nat) : Int)))))] ?_
  refine iF ?_
  refine aQ ?_
  refine V1 K (o := (.tmp 16)) K (b := (decide (p < ((List.length ([a, f, g, h] : List Int) : Nat) : Int)))) K (fun a4 => ?_) (fun a4 => ?_)
  ·have H := ct H a4
   refine At.skip K ?_
   refine aQ ?_
   refine Z1 K (id := 1) K ?_
   refine aQ ?_
   refine aR ?_
   obtain ⟨a1, b1, b2, b9, H⟩ := Qo H
   refine iS 1 ?_
   refine Vi (e := (Qc .i64)) (l := ([a, f, g, h] : List Int)) (A := (some ⟨a0, 0, none⟩)) (c := (List.length ([a, f, g, h] : List Int))) (T := 99) (E := 2) (x := (.tmp 13)) (ix := (.tmp 15)) (ki := .i64) (iz := p) (d := (some 17)) (k := 0) K rfl K K K K (Vs (SP.get q (i := 1) rfl)) b1 b2 ?_
   intro c0 c1 c2 d2 hc125
   refine iS 2 ?_
   refine sC 2 17 c0 (c1 + Int.toNat p * (Qc .i64).sz) (.int .i64 a1) 18 (Qk (e := (Qc .i64)) (Qh (Vs (SP.get q (i := 1) rfl)) c2 b1 b2) b9 (j := 0) rfl) ?_
   refine iR 1 3 [(4, (.int .i64 a1))] ?_
   refine iF ?_
   refine aQ ?_
   refine aR ?_
   refine iR 1 1 [(19, (.int .i64 a1))] ?_
   obtain ⟨a5, c3, H⟩ := Qb H
   refine iS 2 ?_
   refine cF 59 #[(.tmp 19), (.const (.int .i64 (1))), (.const (.int .i64 (1073741824)))] #[2, 2, 2] 20 Tryz.call59 (Uf  a1 1 1073741824 b0  a5 c3) ?_
   rintro e d3 ⟨rfl, b3⟩
   refine ⟨_, rfl, ?_⟩
   have b4 := SP.call q b3
   clear b3
   refine iR 1 3 [(21, (.bool (!a5)))] ?_
   refine iF ?_
   refine V1 K (o := (.tmp 21)) K (b := (!a5)) K (fun a6 => ?_) (fun a6 => ?_)
   ·have H := ct H a6
    refine aQ ?_
    refine aR ?_
    refine iR 1 1 [(2, (.bool false))] ?_
    refine iF ?_
    refine At.ret K ?_
    refine ⟨(.bool false), K, ?_⟩
    obtain rfl := Qe H
    exact ⟨rfl, SP.sel b4 [] rfl rfl⟩
   ·have H := cf H a6
    refine At.skip K ?_
    refine aR ?_
    refine iR 2 2 [(22, (.int .i64 (IntKind.wrap .i64 (p + 1)))), (15, (.int .i64 (IntKind.wrap .i64 (p + 1))))] ?_
    refine iF ?_
    exact ⟨(IntKind.wrap .i64 (p + 1)), ⟨K, K, K, K, trivial⟩, SP.sel b4 [0, 1] rfl rfl, H⟩
  ·have H := cf H a4
   refine At.exit K (id := 0) K ?_
   refine aQ ?_
   refine At.join (fun ρ w => ∃ (s : Bool), V6 ρ [(2, (.bool s))] ∧ SP [] w0 w [] ∧ Uo (Jk a f g h (List.map stT d9) f3) s = some r) ?_ ?_
   ·refine aR ?_
    refine iR 1 1 [(23, (pt m 4))] ?_
    refine iS 2 ?_
    refine sL 22 23 m 4 0 (.slice A6 (List.length (List.map stT d9)) c7) 24 q rfl ?_
    refine iR 3 5 [(25, (.int .i64 ((List.length (List.map stT d9) : Nat) : Int))), (26, (.bool (decide (((List.length (List.map stT d9) : Nat) : Int) ≤ 8)))), (27, (.bool (decide (((List.length (List.map stT d9) : Nat) : Int) ≤ 8))))] ?_
    refine In.guard (t := 27) (b := (decide (((List.length (List.map stT d9) : Nat) : Int) ≤ 8))) K (fun a7 => ?_) (fun a7 => ?_)
    ·have H := ct H a7
     refine iR 1 6 [(28, (pt m 4))] ?_
     refine iS 7 ?_
     refine sL 22 28 m 4 0 (.slice A6 (List.length (List.map stT d9)) c7) 29 q rfl ?_
     obtain ⟨y, c4, H⟩ := Qb H
     refine iS 8 ?_
     refine cF 60 #[(.tmp 29), (.func 61)] #[22, 102] 30 Tryz.call60 (U6 A6 c7 61 #[] d9 (fun y0 y1 y2 y3 y4 => Gd y0 y1 y2 y3 y4) b0 (Dp.sp a9 q) Tryz.call61 (fun y0 y1 y2 y3 y4 z w Ay3 cy3 Ay4 cy4 hw hy3 hy4 hz => Eh Ay3 cy3 Ay4 cy4 y0 y1 y2 y3 y4 w (Y9 (Y9 hL (SP.keeps q)) hw) hy3 hy4 z hz) y c4) ?_
     rintro e c5 ⟨rfl, b5⟩
     refine ⟨_, rfl, ?_⟩
     have a2 := SP.call q b5
     clear b5
     refine iR 3 11 [(31, (.bool (!y))), (32, (.bool (!y))), (33, (.bool (!y)))] ?_
     refine In.guard (t := 33) (b := (!y)) K (fun a8 => ?_) (fun a8 => ?_)
     ·have H := ct H a8
      refine iR 1 12 [(34, (pt m 4))] ?_
      refine iS 13 ?_
      refine sL 22 34 m 4 0 (.slice A6 (List.length (List.map stT d9)) c7) 35 a2 rfl ?_
      obtain ⟨a3, c6, H⟩ := Qb H
      refine iS 14 ?_
      refine cF 63 #[(.tmp 35), (.func 64)] #[22, 104] 36 Tryz.call63 (Da A6 c7 64 #[] d9 (fun y0 y1 y2 y3 y4 => Ri y0 y1 y2 y3 y4) c5 (Dp.sp a9 a2) Tryz.call64 (fun y0 y1 y2 y3 y4 z w Ay3 cy3 Ay4 cy4 hw hy3 hy4 hz => Ei Ay3 cy3 Ay4 cy4 y0 y1 y2 y3 y4 w hy3 hy4 z hz) a3 c6) ?_
      rintro e d4 ⟨rfl, b6⟩
      refine ⟨_, rfl, ?_⟩
      have c8 := SP.call a2 b6
      clear b6
      refine iR 2 16 [(37, (.bool a3)), (2, (.bool a3))] ?_
      refine iF ?_
      exact ⟨a3, ⟨K, trivial⟩, SP.sel c8 [] rfl rfl, H⟩
     ·have H := cf H a8
      refine iR 5 16 [(34, undef), (35, undef), (36, undef), (37, (.bool false)), (2, (.bool false))] ?_
      refine iF ?_
      exact ⟨false, ⟨K, trivial⟩, SP.sel a2 [] rfl rfl, H⟩
    ·have H := cf H a7
     refine iR 11 16 [(28, undef), (29, undef), (30, undef), (31, undef), (32, (.bool false)), (33, (.bool false)), (34, undef), (35, undef), (36, undef), (37, (.bool false)), (2, (.bool false))] ?_
     refine iF ?_
     exact ⟨false, ⟨K, trivial⟩, SP.sel q [] rfl rfl, H⟩
   ·rintro ρ d5 ⟨s, hk, c9, H⟩
    unfold Uo at H
    first | refine At.known [(2, (.bool s))] hk ?_ | rw [← Qv (l := [(2, (.bool s))]) hk]
    refine At.ret K ?_
    refine ⟨(.bool s), K, ?_⟩
    obtain rfl := Qe H
    exact ⟨rfl, SP.sel c9 [] rfl rfl⟩
 ·exact ⟨0, ⟨K, K, K, K, trivial⟩, SP.sel b8 [0, 1] rfl rfl, H⟩
end Go.Proofs.YtmgfanhcdfobhaaGreatDoor
namespace Go.Proofs.YtmgfanhcdfobhaaGreatDoor
open Go.RowKit
def Qz (d : Int → Option (Bool)) (a : Int → Option (Bool)) (b : Int) (c : Bool) : Option (Bool) :=
  (cond c (some (false)) (a (IntKind.wrap .i64 (b + 1))))
def Vt (b : Int → Option (Bool)) (c : Int → Option (Bool)) (e : (List ((List UInt8) × (List UInt8) × Int))) (a : Int) : Option (Bool) :=
  (cond (decide (a < ((List.length e : Nat) : Int))) ((idx e a).bind fun d => ((Jx d.1).bind fun f => (cond (!f) (Qz b c a true) (cond (decide (a > 0)) ((idx e (IntKind.wrap .i64 (a - 1))).bind fun g => (cond (!(Op.bytesLess g.1 d.1)) (Qz b c a true) (cond (d.2.1 == ([] : List UInt8)) (Qz b c a true) (cond (decide (((List.length d.2.1 : Nat) : Int) > 32)) (Qz b c a true) (cond (decide (d.2.2 < 0)) (Qz b c a true) (Qz b c a (decide (d.2.2 > 1099511627776)))))))) (cond (d.2.1 == ([] : List UInt8)) (Qz b c a true) (cond (decide (((List.length d.2.1 : Nat) : Int) > 32)) (Qz b c a true) (cond (decide (d.2.2 < 0)) (Qz b c a true) (Qz b c a (decide (d.2.2 > 1099511627776)))))))))) (some (true)))
def Vb (a : Int → Option (Bool)) (b : (List ((List UInt8) × (List UInt8) × Int))) : Nat → Int → Option (Bool)
  | 0, _ => none
  | f + 1, c => Vt a (Vb a b f) b c
def Zg (b : Int → Option (Bool)) (c : (List (Int × Int))) (e : (List ((List UInt8) × (List UInt8) × Int))) (a : Int) : Option (Bool) :=
  (cond (decide (a < ((List.length c : Nat) : Int))) ((idx c a).bind fun d => ((Uq d.1 d.2).bind fun f => (cond (!f) (some (false)) (b (IntKind.wrap .i64 (a + 1)))))) (Vb b e Zj 0))
def Q6 (a : (List (Int × Int))) (b : (List ((List UInt8) × (List UInt8) × Int))) : Nat → Int → Option (Bool)
  | 0, _ => none
  | f + 1, c => Zg  (Q6 a b f) a b c
def Vd (a : (List (Int × Int))) (b : (List ((List UInt8) × (List UInt8) × Int))) (c : Bool) : Option (Bool) :=
  (cond c (some (false)) (Q6 a b Zj 0))
def Yp (e : (List UInt8)) (c : Int) (d : Int) (a : (List (Int × Int))) (b : (List ((List UInt8) × (List UInt8) × Int))) : Option (Bool) :=
  ((Jx e).bind fun f => (cond (!f) (Vd a b true) (cond (decide (c < 0)) (Vd a b true) (cond (decide (c > 8)) (Vd a b true) (cond (decide (d < 0)) (Vd a b true) (cond (decide (d > 8)) (Vd a b true) (cond (decide (((List.length a : Nat) : Int) > 4)) (Vd a b true) (Vd a b (decide (((List.length b : Nat) : Int) > 4))))))))))
theorem Ju (A5 : Option Addr) (c6 : Nat) (A9 : Option Addr) (a5 : Nat) (b2 : (List UInt8)) (a7 : Int) (a8 : Int) (a6 : (List (Int × Int))) (a1 : (List ((List UInt8) × (List UInt8) × Int))) (w0 : World) (h4 : RdT (Qj (Qc .u32) (Qc .i64)) w0 A5 c6 a6) (b8 : RdT (Qj Qx (Qj Qx (Qc .i64))) w0 A9 a5 a1) (r : (Bool)) (H : Yp b2 a7 a8 a6 a1 = some r) :
  Calls Tryz.prog 65 #[(.agg #[(.string ⟨List.toArray b2⟩), (.int .i64 a7), (.int .i64 a8), (.slice A5 (List.length a6) c6), (.slice A9 (List.length a1) a5)])] w0 (fun e w' => e = .returned (.bool r) ∧ SP [] w0 w' []) := by
 unfold Yp at H
 refine Qs (n := 109) Tryz.func65 K K K ?_
 have l6 := Q0 [] w0
 refine aQ ?_
 refine aR ?_
 refine iS 1 ?_
 refine Vn (t := 44) (x := (.tmp 0)) (v := (.agg #[(.string ⟨List.toArray b2⟩), (.int .i64 a7), (.int .i64 a8), (.slice A5 (List.length a6) c6), (.slice A9 (List.length a1) a5)])) (d := (some 1)) (k := 0) K rfl K l6 ?_
 intro u l7 h5
 refine iR 1 2 [(2, (.bool false))] ?_
 refine iF ?_
 refine aQ ?_
 refine aQ ?_
 refine At.join (fun ρ w => ∃ (e1 : Bool), V6 ρ [(1, (pt u 0)), (41, (.bool e1))] ∧ SP [] w0 w [Qn u 44 #[(.string ⟨List.toArray b2⟩), (.int .i64 a7), (.int .i64 a8), (.slice A5 (List.length a6) c6), (.slice A9 (List.length a1) a5)]] ∧ Vd a6 a1 e1 = some r) ?_ ?_
 ·refine aR ?_
  refine iR 1 1 [(6, (pt u 0))] ?_
  refine iS 2 ?_
  refine sL 9 6 u 0 0 (.string ⟨List.toArray b2⟩) 7 h5 rfl ?_
  obtain ⟨e6, l8, H⟩ := Qb H
  refine iS 3 ?_
  refine cF 86 #[(.tmp 7)] #[9] 8 Tryz.call86 (Vo  b2 l7  e6 l8) ?_
  rintro e x6 ⟨rfl, h6⟩
  refine ⟨_, rfl, ?_⟩
  have b7 := SP.call h5 h6
  clear h6
  refine iR 2 5 [(9, (.bool (!e6))), (10, (.bool (!e6)))] ?_
  refine In.guard (t := 10) (b := (!e6)) K (fun e9 => ?_) (fun e9 => ?_)
  ·have H := ct H e9
   refine iR 31 36 [(11, undef), (12, undef), (13, undef), (14, (.bool true)), (15, (.bool true)), (16, undef), (17, undef), (18, undef), (19, (.bool true)), (20, (.bool true)), (21, undef), (22, undef), (23, undef), (24, (.bool true)), (25, (.bool true)), (26, undef), (27, undef), (28, undef), (29, (.bool true)), (30, (.bool true)), (31, undef), (32, undef), (33, undef), (34, undef), (35, (.bool true)), (36, (.bool true)), (37, undef), (38, undef), (39, undef), (40, undef), (41, (.bool true))] ?_
   refine iF ?_
   exact ⟨true, ⟨K, K, trivial⟩, SP.sel b7 [0] rfl rfl, H⟩
  ·have H := cf H e9
   refine iR 1 6 [(11, (pt u 1))] ?_
   refine iS 7 ?_
   refine sL 3 11 u 1 0 (.int .i64 a7) 12 b7 rfl ?_
   refine iR 3 10 [(13, (.bool (decide (a7 < 0)))), (14, (.bool (decide (a7 < 0)))), (15, (.bool (decide (a7 < 0))))] ?_
   refine In.guard (t := 15) (b := (decide (a7 < 0))) K (fun f0 => ?_) (fun f0 => ?_)
   ·have H := ct H f0
    refine iR 26 36 [(16, undef), (17, undef), (18, undef), (19, (.bool true)), (20, (.bool true)), (21, undef), (22, undef), (23, undef), (24, (.bool true)), (25, (.bool true)), (26, undef), (27, undef), (28, undef), (29, (.bool true)), (30, (.bool true)), (31, undef), (32, undef), (33, undef), (34, undef), (35, (.bool true)), (36, (.bool true)), (37, undef), (38, undef), (39, undef), (40, undef), (41, (.bool true))] ?_
    refine iF ?_
    exact ⟨true, ⟨K, K, trivial⟩, SP.sel b7 [0] rfl rfl, H⟩
   ·have H := cf H f0
    refine iR 1 11 [(16, (pt u 1))] ?_
    refine iS 12 ?_
    refine sL 3 16 u 1 0 (.int .i64 a7) 17 b7 rfl ?_
    refine iR 3 15 [(18, (.bool (decide (a7 > 8)))), (19, (.bool (decide (a7 > 8)))), (20, (.bool (decide (a7 > 8))))] ?_
    refine In.guard (t := 20) (b := (decide (a7 > 8))) K (fun f1 => ?_) (fun f1 => ?_)
    ·have H := ct H f1
     refine iR 21 36 [(21, undef), (22, undef), (23, undef), (24, (.bool true)), (25, (.bool true)), (26, undef), (27, undef), (28, undef), (29, (.bool true)), (30, (.bool true)), (31, undef), (32, undef), (33, undef), (34, undef), (35, (.bool true)), (36, (.bool true)), (37, undef), (38, undef), (39, undef), (40, undef), (41, (.bool true))] ?_
     refine iF ?_
     exact ⟨true, ⟨K, K, trivial⟩, SP.sel b7 [0] rfl rfl, H⟩
    ·have H := cf H f1
     refine iR 1 16 [(21, (pt u 2))] ?_
     refine iS 17 ?_
     refine sL 3 21 u 2 0 (.int .i64 a8) 22 b7 rfl ?_
     refine iR 3 20 [(23, (.bool (decide (a8 < 0)))), (24, (.bool (decide (a8 < 0)))), (25, (.bool (decide (a8 < 0))))] ?_
     refine In.guard (t := 25) (b := (decide (a8 < 0))) K (fun f2 => ?_) (fun f2 => ?_)
     ·have H := ct H f2
      refine iR 16 36 [(26, undef), (27, undef), (28, undef), (29, (.bool true)), (30, (.bool true)), (31, undef), (32, undef), (33, undef), (34, undef), (35, (.bool true)), (36, (.bool true)), (37, undef), (38, undef), (39, undef), (40, undef), (41, (.bool true))] ?_
      refine iF ?_
      exact ⟨true, ⟨K, K, trivial⟩, SP.sel b7 [0] rfl rfl, H⟩
     ·have H := cf H f2
      refine iR 1 21 [(26, (pt u 2))] ?_
      refine iS 22 ?_
      refine sL 3 26 u 2 0 (.int .i64 a8) 27 b7 rfl ?_
      refine iR 3 25 [(28, (.bool (decide (a8 > 8)))), (29, (.bool (decide (a8 > 8)))), (30, (.bool (decide (a8 > 8))))] ?_
      refine In.guard (t := 30) (b := (decide (a8 > 8))) K (fun f3 => ?_) (fun f3 => ?_)
      ·have H := ct H f3
       refine iR 11 36 [(31, undef), (32, undef), (33, undef), (34, undef), (35, (.bool true)), (36, (.bool true)), (37, undef), (38, undef), (39, undef), (40, undef), (41, (.bool true))] ?_
       refine iF ?_
       exact ⟨true, ⟨K, K, trivial⟩, SP.sel b7 [0] rfl rfl, H⟩
      ·have H := cf H f3
       refine iR 1 26 [(31, (pt u 3))] ?_
       refine iS 27 ?_
       refine sL 41 31 u 3 0 (.slice A5 (List.length a6) c6) 32 b7 rfl ?_
       refine iR 4 31 [(33, (.int .i64 ((List.length a6 : Nat) : Int))), (34, (.bool (decide (((List.length a6 : Nat) : Int) > 4)))), (35, (.bool (decide (((List.length a6 : Nat) : Int) > 4)))), (36, (.bool (decide (((List.length a6 : Nat) : Int) > 4))))] ?_
       refine In.guard (t := 36) (b := (decide (((List.length a6 : Nat) : Int) > 4))) K (fun f4 => ?_) (fun f4 => ?_)
       ·have H := ct H f4
        refine iR 5 36 [(37, undef), (38, undef), (39, undef), (40, undef), (41, (.bool true))] ?_
        refine iF ?_
        exact ⟨true, ⟨K, K, trivial⟩, SP.sel b7 [0] rfl rfl, H⟩
       ·have H := cf H f4
        refine iR 1 32 [(37, (pt u 4))] ?_
        refine iS 33 ?_
        refine sL 42 37 u 4 0 (.slice A9 (List.length a1) a5) 38 b7 rfl ?_
        refine iR 3 36 [(39, (.int .i64 ((List.length a1 : Nat) : Int))), (40, (.bool (decide (((List.length a1 : Nat) : Int) > 4)))), (41, (.bool (decide (((List.length a1 : Nat) : Int) > 4))))] ?_
        refine iF ?_
        exact ⟨(decide (((List.length a1 : Nat) : Int) > 4)), ⟨K, K, trivial⟩, SP.sel b7 [0] rfl rfl, H⟩
 ·rintro ρ x7 ⟨e1, hk, h7, H⟩
  unfold Vd at H
  first | refine At.known [(1, (pt u 0)), (41, (.bool e1))] hk ?_ | rw [← Qv (l := [(1, (pt u 0)), (41, (.bool e1))]) hk]
  refine V1 K (o := (.tmp 41)) K (b := e1) K (fun f5 => ?_) (fun f5 => ?_)
  ·have H := ct H f5
   refine aQ ?_
   refine aR ?_
   refine iR 1 1 [(2, (.bool false))] ?_
   refine iF ?_
   refine At.ret K ?_
   refine ⟨(.bool false), K, ?_⟩
   obtain rfl := Qe H
   exact ⟨rfl, SP.sel h7 [] rfl rfl⟩
  ·have H := cf H f5
   refine At.skip K ?_
   refine aQ ?_
   refine aQ ?_
   refine aR ?_
   refine iR 1 1 [(3, (.int .i64 0))] ?_
   refine iF ?_
   refine Z1 K (id := 0) K ?_
   refine Nl K (fun d6 ρ w => ∃ (b3 : Int), V6 ρ [(1, (pt u 0)), (3, (.int .i64 b3))] ∧ SP [] w0 w [Qn u 44 #[(.string ⟨List.toArray b2⟩), (.int .i64 a7), (.int .i64 a8), (.slice A5 (List.length a6) c6), (.slice A9 (List.length a1) a5)]] ∧ Q6 a6 a1 d6 b3 = some r) (by rintro ρ w ⟨b3, hk, hs, H⟩; cases H) ?_ Zj ?_
   ·rintro d6 ρ l9 ⟨b3, hk, e2, H⟩
    refine At.known [(1, (pt u 0)), (3, (.int .i64 b3))] hk ?_
    replace H := (show Zg (Q6 a6 a1 d6) a6 a1 b3 = some r from H)
    unfold Zg at H
    refine aQ ?_
    refine aQ ?_
    refine aR ?_
    refine iR 2 2 [(42, (.int .i64 b3)), (43, (pt u 3))] ?_
    refine iS 3 ?_
    refine sL 41 43 u 3 0 (.slice A5 (List.length a6) c6) 44 e2 rfl ?_
    refine iR 2 5 [(45, (.int .i64 ((List.length a6 : Nat) : Int))), (46, (.bool (decide (b3 < ((List.length a6 : Nat) : Int)))))] ?_
    refine iF ?_
    refine V1 K (o := (.tmp 46)) K (b := (decide (b3 < ((List.length a6 : Nat) : Int)))) K (fun f6 => ?_) (fun f6 => ?_)
    ·have H := ct H f6
     refine At.skip K ?_
     refine aQ ?_
     refine Z1 K (id := 1) K ?_
     refine aQ ?_
     refine aR ?_
     refine iR 1 1 [(49, (pt u 3))] ?_
     refine iS 2 ?_
     refine sL 41 49 u 3 0 (.slice A5 (List.length a6) c6) 50 e2 rfl ?_
     refine iR 1 3 [(51, (.int .i64 b3))] ?_
     obtain ⟨e7, h8, h9, m0, H⟩ := Qo H
     refine iS 4 ?_
     refine Vi (e := (Qj (Qc .u32) (Qc .i64))) (l := a6) (A := A5) (c := c6) (T := 41) (E := 113) (x := (.tmp 50)) (ix := (.tmp 51)) (ki := .i64) (iz := b3) (d := (some 52)) (k := 3) K rfl K K K K (RdT.sp h4 e2) h8 h9 ?_
     intro m1 m2 m3 x8 hc5167
     refine iS 5 ?_
     refine Qi.cells (t := 113) (x := (.tmp 52)) (b := m1) (off := (m2 + Int.toNat b3 * (Qj (Qc .u32) (Qc .i64)).sz)) (xs := [(.int .u32 e7.1), (.int .i64 e7.2)]) (d := (some 53)) (k := 4) K rfl K K K (Z2 (e := (Qj (Qc .u32) (Qc .i64))) (Qh (RdT.sp h4 e2) m3 h8 h9) m0 rfl) ?_
     obtain ⟨f7, m4, H⟩ := Qb H
     refine iS 6 ?_
     refine cF 87 #[(.tmp 53)] #[113] 54 Tryz.call87 (Bv  e7.1 e7.2 l9  f7 m4) ?_
     rintro e x9 ⟨rfl, i0⟩
     refine ⟨_, rfl, ?_⟩
     have i1 := SP.call e2 i0
     clear i0
     refine iR 1 7 [(55, (.bool (!f7)))] ?_
     refine iF ?_
     refine V1 K (o := (.tmp 55)) K (b := (!f7)) K (fun f8 => ?_) (fun f8 => ?_)
     ·have H := ct H f8
      refine aQ ?_
      refine aR ?_
      refine iR 1 1 [(2, (.bool false))] ?_
      refine iF ?_
      refine At.ret K ?_
      refine ⟨(.bool false), K, ?_⟩
      obtain rfl := Qe H
      exact ⟨rfl, SP.sel i1 [] rfl rfl⟩
     ·have H := cf H f8
      refine At.skip K ?_
      refine aR ?_
      refine iR 3 3 [(47, (.int .i64 b3)), (48, (.int .i64 (IntKind.wrap .i64 (b3 + 1)))), (3, (.int .i64 (IntKind.wrap .i64 (b3 + 1))))] ?_
      refine iF ?_
      exact ⟨(IntKind.wrap .i64 (b3 + 1)), ⟨K, K, trivial⟩, SP.sel i1 [0] rfl rfl, H⟩
    ·have H := cf H f6
     refine At.exit K (id := 0) K ?_
     refine aQ ?_
     refine aQ ?_
     refine aR ?_
     refine iR 1 1 [(4, (.int .i64 0))] ?_
     refine iF ?_
     refine Z1 K (id := 2) K ?_
     refine Nl K (fun e8 ρ w => ∃ (p : Int), V6 ρ [(1, (pt u 0)), (4, (.int .i64 p))] ∧ SP [] w0 w [Qn u 44 #[(.string ⟨List.toArray b2⟩), (.int .i64 a7), (.int .i64 a8), (.slice A5 (List.length a6) c6), (.slice A9 (List.length a1) a5)]] ∧ Vb (Q6 a6 a1 d6) a1 e8 p = some r) (by rintro ρ w ⟨p, hk, hs, H⟩; cases H) ?_ Zj ?_
     ·rintro e8 ρ y0 ⟨p, hk, e3, H⟩
      refine At.known [(1, (pt u 0)), (4, (.int .i64 p))] hk ?_
      replace H := (show Vt (Q6 a6 a1 d6) (Vb (Q6 a6 a1 d6) a1 e8) a1 p = some r from H)
      unfold Vt at H
      refine aQ ?_
      refine aQ ?_
      refine aR ?_
      refine iR 2 2 [(56, (.int .i64 p)), (57, (pt u 4))] ?_
      refine iS 3 ?_
      refine sL 42 57 u 4 0 (.slice A9 (List.length a1) a5) 58 e3 rfl ?_
      refine iR 2 5 [(59, (.int .i64 ((List.length a1 : Nat) : Int))), (60, (.bool (decide (p < ((List.length a1 : Nat) : Int)))))] ?_
      refine iF ?_
      refine V1 K (o := (.tmp 60)) K (b := (decide (p < ((List.length a1 : Nat) : Int)))) K (fun f9 => ?_) (fun f9 => ?_)
      ·have H := ct H f9
       refine At.skip K ?_
       refine aQ ?_
       refine Z1 K (id := 3) K ?_
       refine aQ ?_
       refine aR ?_
       refine iR 1 1 [(63, (pt u 4))] ?_
       refine iS 2 ?_
       refine sL 42 63 u 4 0 (.slice A9 (List.length a1) a5) 64 e3 rfl ?_
       refine iR 1 3 [(65, (.int .i64 p))] ?_
       obtain ⟨f, i2, i3, m5, H⟩ := Qo H
       refine iS 4 ?_
       refine Vi (e := (Qj Qx (Qj Qx (Qc .i64)))) (l := a1) (A := A9) (c := a5) (T := 42) (E := 48) (x := (.tmp 64)) (ix := (.tmp 65)) (ki := .i64) (iz := p) (d := (some 66)) (k := 3) K rfl K K K K (RdT.sp b8 e3) i2 i3 ?_
       intro m6 m7 m8 y1 hc6882
       refine iS 5 ?_
       refine Qi.cells (t := 48) (x := (.tmp 66)) (b := m6) (off := (m7 + Int.toNat p * (Qj Qx (Qj Qx (Qc .i64))).sz)) (xs := [(.string ⟨List.toArray f.1⟩), (.string ⟨List.toArray f.2.1⟩), (.int .i64 f.2.2)]) (d := (some 67)) (k := 4) K rfl K K K (Z2 (e := (Qj Qx (Qj Qx (Qc .i64)))) (Qh (RdT.sp b8 e3) m8 i2 i3) m5 rfl) ?_
       refine iS 6 ?_
       refine Qi.alloc (t := 48) (z := (.agg #[(.string ⟨List.toArray ([] : List UInt8)⟩), (.string ⟨List.toArray ([] : List UInt8)⟩), (.int .i64 0)])) (d := (some 5)) (k := 5) K rfl K e3 ?_
       intro m y2 m9
       refine iS 7 ?_
       refine Qi.store (t := 48) (x := (.tmp 5)) (y := (.tmp 67)) (g := m) (off := 0) (i := 1) (v := (.agg #[(.string ⟨List.toArray f.1⟩), (.string ⟨List.toArray f.2.1⟩), (.int .i64 f.2.2)])) (cs' := #[(.string ⟨List.toArray f.1⟩), (.string ⟨List.toArray f.2.1⟩), (.int .i64 f.2.2)]) (d := none) (k := 6) K rfl K K m9 rfl K ?_
       intro y3 c3
       refine iF ?_
       refine aQ ?_
       refine At.join (fun ρ w => ∃ (e4 : Bool), V6 ρ [(1, (pt u 0)), (4, (.int .i64 p)), (108, (.bool e4))] ∧ SP [] w0 w [Qn u 44 #[(.string ⟨List.toArray b2⟩), (.int .i64 a7), (.int .i64 a8), (.slice A5 (List.length a6) c6), (.slice A9 (List.length a1) a5)]] ∧ Qz (Q6 a6 a1 d6) (Vb (Q6 a6 a1 d6) a1 e8) p e4 = some r) ?_ ?_
       ·obtain ⟨a0, c4, H⟩ := Qb H
        rcases Bool.eq_false_or_eq_true (!a0) with a4 | a4
        ·have H := ct H a4
         refine aG [GEq (pt m 0), GEq (.string ⟨List.toArray f.1⟩), GEq (.bool a0), GEq (.bool (!a0)), GEq (.bool (!a0)), GEq undef, GEq undef, GEq undef, GEq undef, GEq undef, GEq undef, GEq undef, GEq undef, GEq undef, GEq undef, GEq undef, GEq undef, GEq undef, GEq undef, GEq (.bool true), GEq (.bool true), GEq undef, GEq undef, GEq undef, GEq (.bool true), GEq (.bool true), GEq undef, GEq undef, GEq undef, GEq undef, GEq (.bool true), GEq (.bool true), GEq undef, GEq undef, GEq undef, GEq (.bool true), GEq (.bool true), GEq undef, GEq undef, GEq undef, GEq (.bool true)] [2] (tG [] w0 [Qn u 44 #[(.string ⟨List.toArray b2⟩), (.int .i64 a7), (.int .i64 a8), (.slice A5 (List.length a6) c6), (.slice A9 (List.length a1) a5)], Qn m 48 #[(.string ⟨List.toArray f.1⟩), (.string ⟨List.toArray f.2.1⟩), (.int .i64 f.2.2)]] [([], []), ([2], [(.bool a0)])]) 41 1 ⟨trivial, SP.drew c3⟩ ?_ ?_
         iterate 41 refine And.intro ?_ ?_
         exact trivial
         ·exact oV (hC (hS 5 (pt m 0)) (h0)) (pt m 0)
         ·refine oL 0 ?_
          ·rintro ρ' w' hs h ⟨y4, n0⟩
           refine kM (kc (kA h 0 68) k0) fun q => ?_
           refine sL 9 68 m 0 1 (.string ⟨List.toArray f.1⟩) 69 n0 rfl ?_
           exact eK q
         ·refine oH 0 1 ?_
          ·rintro ρ' w' hs h ⟨y5, n1⟩
           refine kM (kc (kA h 1 69) k0) fun q => ?_
           refine cF 86 #[(.tmp 69)] #[9] 70 Tryz.call86 (Vo  f.1 w'  a0 c4) ?_
           rintro e y6 ⟨rfl, i4⟩
           refine ⟨_, rfl, ?_⟩
           have n2 := SP.call n1 i4
           clear i4
           refine ⟨_, Qa q, rfl, ?_⟩
           exact (And.intro (And.intro rfl (trivial)) (n2))
         ·exact oV (hC (hA 2 70) (h0)) (.bool (!a0))
         ·exact oV (hC (hA 3 71) (h0)) (.bool (!a0))
         ·exact oW (hC (hB 4 72 a4) (h0)) 73
         ·exact oW (hC (hB 4 72 a4) (h0)) 74
         ·exact oW (hC (hB 4 72 a4) (h0)) 75
         ·exact oW (hC (hA 7 75) (h0)) 76
         ·exact oW (hC (hA 7 75) (h0)) 77
         ·exact oW (hC (hA 7 75) (h0)) 78
         ·exact oW (hC (hA 7 75) (h0)) 79
         ·exact oW (hC (hA 7 75) (h0)) 80
         ·exact oW (hC (hA 7 75) (h0)) 81
         ·exact oW (hC (hA 7 75) (h0)) 82
         ·exact oW (hC (hA 7 75) (h0)) 83
         ·exact oW (hC (hA 7 75) (h0)) 84
         ·exact oW (hC (hA 7 75) (h0)) 85
         ·exact oW (hC (hB 4 72 a4) (h0)) 86
         ·exact oV (hC (hB 4 72 a4) (hC (hA 18 86) (h0))) (.bool true)
         ·exact oV (hC (hA 19 87) (h0)) (.bool true)
         ·exact oW (hC (hA 20 88) (h0)) 89
         ·exact oW (hC (hA 20 88) (h0)) 90
         ·exact oW (hC (hA 20 88) (h0)) 91
         ·exact oV (hC (hA 20 88) (hC (hA 23 91) (h0))) (.bool true)
         ·exact oV (hC (hA 24 92) (h0)) (.bool true)
         ·exact oW (hC (hA 25 93) (h0)) 94
         ·exact oW (hC (hA 25 93) (h0)) 95
         ·exact oW (hC (hA 25 93) (h0)) 96
         ·exact oW (hC (hA 25 93) (h0)) 97
         ·exact oV (hC (hA 25 93) (hC (hA 29 97) (h0))) (.bool true)
         ·exact oV (hC (hA 30 98) (h0)) (.bool true)
         ·exact oW (hC (hA 31 99) (h0)) 100
         ·exact oW (hC (hA 31 99) (h0)) 101
         ·exact oW (hC (hA 31 99) (h0)) 102
         ·exact oV (hC (hA 31 99) (hC (hA 34 102) (h0))) (.bool true)
         ·exact oV (hC (hA 35 103) (h0)) (.bool true)
         ·exact oW (hC (hA 36 104) (h0)) 105
         ·exact oW (hC (hA 36 104) (h0)) 106
         ·exact oW (hC (hA 36 104) (h0)) 107
         ·exact oV (hC (hA 36 104) (hC (hA 39 107) (h0))) (.bool true)
         ·rintro ρ' w' hs hf ⟨⟨y7, -⟩, i5⟩
          refine Q3 [(1, (pt u 0)), (4, (.int .i64 p)), (108, (.bool true))] ⟨(hs 1 K).trans K, (hs 4 K).trans K, hf 40 108 K, trivial⟩ ?_
          obtain ⟨y8, n3⟩ : ∃ x, w' = x := ⟨_, rfl⟩
          rw [n3] at i5 ⊢
          exact ⟨true, ⟨K, K, K, trivial⟩, SP.sel i5 [0] rfl rfl, H⟩
        ·have H := cf H a4
         rcases Bool.eq_false_or_eq_true (decide (p > 0)) with s | s
         ·have H := ct H s
          obtain ⟨a2, c5, c7, e5, H⟩ := Qo H
          rcases Bool.eq_false_or_eq_true (!(Op.bytesLess a2.1 f.1)) with a9 | a9
          ·have H := ct H a9
           refine aG [GEq (pt m 0), GEq (.string ⟨List.toArray f.1⟩), GEq (.bool a0), GEq (.bool (!a0)), GEq (.bool (!a0)), GEq (.int .i64 p), GEq (.bool (decide (p > 0))), GEq (.bool (decide (p > 0))), GEq (pt u 4), GEq (.slice A9 (List.length a1) a5), GEq (.int .i64 p), GEq (.int .i64 (IntKind.wrap .i64 (p - 1))), Vr A9 (Qj Qx (Qj Qx (Qc .i64))).sz (IntKind.wrap .i64 (p - 1)), Vr A9 (Qj Qx (Qj Qx (Qc .i64))).sz (IntKind.wrap .i64 (p - 1)), GEq (.string ⟨List.toArray a2.1⟩), GEq (pt m 0), GEq (.string ⟨List.toArray f.1⟩), GEq (.bool (!(Op.bytesLess a2.1 f.1))), GEq (.bool (!(Op.bytesLess a2.1 f.1))), GEq (.bool (!(Op.bytesLess a2.1 f.1))), GEq (.bool (!(Op.bytesLess a2.1 f.1))), GEq undef, GEq undef, GEq undef, GEq (.bool true), GEq (.bool true), GEq undef, GEq undef, GEq undef, GEq undef, GEq (.bool true), GEq (.bool true), GEq undef, GEq undef, GEq undef, GEq (.bool true), GEq (.bool true), GEq undef, GEq undef, GEq undef, GEq (.bool true)] [2] (tG [] w0 [Qn u 44 #[(.string ⟨List.toArray b2⟩), (.int .i64 a7), (.int .i64 a8), (.slice A5 (List.length a6) c6), (.slice A9 (List.length a1) a5)], Qn m 48 #[(.string ⟨List.toArray f.1⟩), (.string ⟨List.toArray f.2.1⟩), (.int .i64 f.2.2)]] [([], []), ([2], [(.bool a0)])]) 41 1 ⟨trivial, SP.drew c3⟩ ?_ ?_
           iterate 41 refine And.intro ?_ ?_
           exact trivial
           ·exact oV (hC (hS 5 (pt m 0)) (h0)) (pt m 0)
           ·refine oL 0 ?_
            ·rintro ρ' w' hs h ⟨y9, n4⟩
             refine kM (kc (kA h 0 68) k0) fun q => ?_
             refine sL 9 68 m 0 1 (.string ⟨List.toArray f.1⟩) 69 n4 rfl ?_
             exact eK q
           ·refine oH 0 1 ?_
            ·rintro ρ' w' hs h ⟨z0, n5⟩
             refine kM (kc (kA h 1 69) k0) fun q => ?_
             refine cF 86 #[(.tmp 69)] #[9] 70 Tryz.call86 (Vo  f.1 w'  a0 c4) ?_
             rintro e z1 ⟨rfl, i6⟩
             refine ⟨_, rfl, ?_⟩
             have n6 := SP.call n5 i6
             clear i6
             refine ⟨_, Qa q, rfl, ?_⟩
             exact (And.intro (And.intro rfl (trivial)) (n6))
           ·exact oV (hC (hA 2 70) (h0)) (.bool (!a0))
           ·exact oV (hC (hA 3 71) (h0)) (.bool (!a0))
           ·exact oV (hC (hS 4 (.int .i64 p)) (hC (hB 4 72 a4) (h0))) (.int .i64 p)
           ·exact oV (hC (hA 5 73) (hC (hB 4 72 a4) (h0))) (.bool (decide (p > 0)))
           ·exact oV (hC (hA 6 74) (hC (hB 4 72 a4) (h0))) (.bool (decide (p > 0)))
           ·exact oV (hC (hS 1 (pt u 0)) (hC (hB 7 75 s) (h0))) (pt u 4)
           ·refine oL 1 ?_
            ·rintro ρ' w' hs h ⟨⟨z2, -⟩, n7⟩
             have c8 := h 8 76 K
             have a3 := h 7 75 K
             refine kN [(76, (pt u 4)), (75, (.bool true))] ⟨c8, (Eq.trans a3 (congrArg Value.bool s)), trivial⟩ fun q => ?_
             refine sL 42 76 u 4 0 (.slice A9 (List.length a1) a5) 77 n7 rfl ?_
             exact eK q
           ·exact oV (hC (hS 4 (.int .i64 p)) (hC (hB 7 75 s) (h0))) (.int .i64 p)
           ·exact oV (hC (hA 10 78) (hC (hB 7 75 s) (h0))) (.int .i64 (IntKind.wrap .i64 (p - 1)))
           ·refine oL 1 ?_
            ·rintro ρ' w' hs h ⟨⟨z3, -⟩, n8⟩
             have c9 := h 9 77 K
             have d0 := h 11 79 K
             have a3 := h 7 75 K
             refine kN [(77, (.slice A9 (List.length a1) a5)), (79, (.int .i64 (IntKind.wrap .i64 (p - 1)))), (75, (.bool true))] ⟨c9, d0, (Eq.trans a3 (congrArg Value.bool s)), trivial⟩ fun q => ?_
             refine Vi (e := (Qj Qx (Qj Qx (Qc .i64)))) (l := a1) (A := A9) (c := a5) (T := 42) (E := 48) (x := (.tmp 77)) (ix := (.tmp 79)) (ki := .i64) (iz := (IntKind.wrap .i64 (p - 1))) (d := (some 80)) (k := 12) K rfl K K K K (RdT.sp b8 n8) c5 c7 ?_
             intro n9 o0 o1 z4 hc7363
             exact ⟨rfl, _, Qa q, ⟨n9, o0, o1, rfl⟩⟩
           ·refine oL 1 ?_
            ·rintro ρ' w' hs h ⟨⟨z5, -⟩, z6⟩
             obtain ⟨g0, g1, o2, d1⟩ := h 12 80 K
             have a3 := h 7 75 K
             refine kN [(80, (.pointer (some ⟨g0, (g1 + Int.toNat (IntKind.wrap .i64 (p - 1)) * (Qj Qx (Qj Qx (Qc .i64))).sz), none⟩))), (75, (.bool true))] ⟨d1, (Eq.trans a3 (congrArg Value.bool s)), trivial⟩ fun q => ?_
             refine Qi.run (k := 13) (v := (.pointer (some ⟨g0, (g1 + Int.toNat (IntKind.wrap .i64 (p - 1)) * (Qj Qx (Qj Qx (Qc .i64))).sz), none⟩))) K ?_
             exact ⟨rfl, _, Qa q, ⟨g0, g1, o2, rfl⟩⟩
           ·refine oL 1 ?_
            ·rintro ρ' w' hs h ⟨⟨z7, -⟩, o3⟩
             obtain ⟨i7, i8, o4, d2⟩ := h 13 81 K
             have a3 := h 7 75 K
             refine kN [(81, (.pointer (some ⟨i7, (i8 + Int.toNat (IntKind.wrap .i64 (p - 1)) * (Qj Qx (Qj Qx (Qc .i64))).sz), none⟩))), (75, (.bool true))] ⟨d2, (Eq.trans a3 (congrArg Value.bool s)), trivial⟩ fun q => ?_
             refine sC 9 81 i7 (i8 + Int.toNat (IntKind.wrap .i64 (p - 1)) * (Qj Qx (Qj Qx (Qc .i64))).sz) (.string ⟨List.toArray a2.1⟩) 82 (Qk (e := (Qj Qx (Qj Qx (Qc .i64)))) (Qh (RdT.sp b8 o3) o4 c5 c7) e5 (j := 0) rfl) ?_
             exact eK q
           ·exact oV (hC (hS 5 (pt m 0)) (hC (hB 7 75 s) (h0))) (pt m 0)
           ·refine oL 1 ?_
            ·rintro ρ' w' hs h ⟨⟨z8, -⟩, o5⟩
             have d3 := h 15 83 K
             have a3 := h 7 75 K
             refine kN [(83, (pt m 0)), (75, (.bool true))] ⟨d3, (Eq.trans a3 (congrArg Value.bool s)), trivial⟩ fun q => ?_
             refine sL 9 83 m 0 1 (.string ⟨List.toArray f.1⟩) 84 o5 rfl ?_
             exact eK q
           ·refine oL 1 ?_
            ·rintro ρ' w' hs h ⟨⟨z9, -⟩, aa0⟩
             have d4 := h 14 82 K
             have d5 := h 16 84 K
             have a3 := h 7 75 K
             refine kN [(82, (.string ⟨List.toArray a2.1⟩)), (84, (.string ⟨List.toArray f.1⟩)), (75, (.bool true))] ⟨d4, d5, (Eq.trans a3 (congrArg Value.bool s)), trivial⟩ fun q => ?_
             refine V0 (op := .geq) (T := 9) (T' := 9) (x := (.tmp 82)) (y := (.tmp 84)) (a := a2.1) (b := f.1) (r := (.bool (!(Op.bytesLess a2.1 f.1)))) (d := (some 85)) (k := 17) K rfl K K rfl ?_
             exact eK q
           ·exact oV (hC (hB 7 75 s) (hC (hA 17 85) (hC (hB 4 72 a4) (h0)))) (.bool (!(Op.bytesLess a2.1 f.1)))
           ·exact oV (hC (hB 4 72 a4) (hC (hA 18 86) (h0))) (.bool (!(Op.bytesLess a2.1 f.1)))
           ·exact oV (hC (hA 19 87) (h0)) (.bool (!(Op.bytesLess a2.1 f.1)))
           ·exact oW (hC (hB 20 88 a9) (h0)) 89
           ·exact oW (hC (hB 20 88 a9) (h0)) 90
           ·exact oW (hC (hB 20 88 a9) (h0)) 91
           ·exact oV (hC (hB 20 88 a9) (hC (hA 23 91) (h0))) (.bool true)
           ·exact oV (hC (hA 24 92) (h0)) (.bool true)
           ·exact oW (hC (hA 25 93) (h0)) 94
           ·exact oW (hC (hA 25 93) (h0)) 95
           ·exact oW (hC (hA 25 93) (h0)) 96
           ·exact oW (hC (hA 25 93) (h0)) 97
           ·exact oV (hC (hA 25 93) (hC (hA 29 97) (h0))) (.bool true)
           ·exact oV (hC (hA 30 98) (h0)) (.bool true)
           ·exact oW (hC (hA 31 99) (h0)) 100
           ·exact oW (hC (hA 31 99) (h0)) 101
           ·exact oW (hC (hA 31 99) (h0)) 102
           ·exact oV (hC (hA 31 99) (hC (hA 34 102) (h0))) (.bool true)
           ·exact oV (hC (hA 35 103) (h0)) (.bool true)
           ·exact oW (hC (hA 36 104) (h0)) 105
           ·exact oW (hC (hA 36 104) (h0)) 106
           ·exact oW (hC (hA 36 104) (h0)) 107
           ·exact oV (hC (hA 36 104) (hC (hA 39 107) (h0))) (.bool true)
           ·rintro ρ' w' hs hf ⟨⟨aa1, -⟩, i9⟩
            refine Q3 [(1, (pt u 0)), (4, (.int .i64 p)), (108, (.bool true))] ⟨(hs 1 K).trans K, (hs 4 K).trans K, hf 40 108 K, trivial⟩ ?_
            obtain ⟨aa2, o6⟩ : ∃ x, w' = x := ⟨_, rfl⟩
            rw [o6] at i9 ⊢
            exact ⟨true, ⟨K, K, K, trivial⟩, SP.sel i9 [0] rfl rfl, H⟩
          ·have H := cf H a9
           rcases Bool.eq_false_or_eq_true (f.2.1 == ([] : List UInt8)) with b0 | b0
           ·have H := ct H b0
            refine aG [GEq (pt m 0), GEq (.string ⟨List.toArray f.1⟩), GEq (.bool a0), GEq (.bool (!a0)), GEq (.bool (!a0)), GEq (.int .i64 p), GEq (.bool (decide (p > 0))), GEq (.bool (decide (p > 0))), GEq (pt u 4), GEq (.slice A9 (List.length a1) a5), GEq (.int .i64 p), GEq (.int .i64 (IntKind.wrap .i64 (p - 1))), Vr A9 (Qj Qx (Qj Qx (Qc .i64))).sz (IntKind.wrap .i64 (p - 1)), Vr A9 (Qj Qx (Qj Qx (Qc .i64))).sz (IntKind.wrap .i64 (p - 1)), GEq (.string ⟨List.toArray a2.1⟩), GEq (pt m 0), GEq (.string ⟨List.toArray f.1⟩), GEq (.bool (!(Op.bytesLess a2.1 f.1))), GEq (.bool (!(Op.bytesLess a2.1 f.1))), GEq (.bool (!(Op.bytesLess a2.1 f.1))), GEq (.bool (!(Op.bytesLess a2.1 f.1))), GEq (pt m 1), GEq (.string ⟨List.toArray f.2.1⟩), GEq (.bool (f.2.1 == ([] : List UInt8))), GEq (.bool (f.2.1 == ([] : List UInt8))), GEq (.bool (f.2.1 == ([] : List UInt8))), GEq undef, GEq undef, GEq undef, GEq undef, GEq (.bool true), GEq (.bool true), GEq undef, GEq undef, GEq undef, GEq (.bool true), GEq (.bool true), GEq undef, GEq undef, GEq undef, GEq (.bool true)] [2] (tG [] w0 [Qn u 44 #[(.string ⟨List.toArray b2⟩), (.int .i64 a7), (.int .i64 a8), (.slice A5 (List.length a6) c6), (.slice A9 (List.length a1) a5)], Qn m 48 #[(.string ⟨List.toArray f.1⟩), (.string ⟨List.toArray f.2.1⟩), (.int .i64 f.2.2)]] [([], []), ([2], [(.bool a0)])]) 41 1 ⟨trivial, SP.drew c3⟩ ?_ ?_
            iterate 41 refine And.intro ?_ ?_
            exact trivial
            ·exact oV (hC (hS 5 (pt m 0)) (h0)) (pt m 0)
            ·refine oL 0 ?_
             ·rintro ρ' w' hs h ⟨aa3, o7⟩
              refine kM (kc (kA h 0 68) k0) fun q => ?_
              refine sL 9 68 m 0 1 (.string ⟨List.toArray f.1⟩) 69 o7 rfl ?_
              exact eK q
            ·refine oH 0 1 ?_
             ·rintro ρ' w' hs h ⟨aa4, o8⟩
              refine kM (kc (kA h 1 69) k0) fun q => ?_
              refine cF 86 #[(.tmp 69)] #[9] 70 Tryz.call86 (Vo  f.1 w'  a0 c4) ?_
              rintro e aa5 ⟨rfl, j0⟩
              refine ⟨_, rfl, ?_⟩
              have o9 := SP.call o8 j0
              clear j0
              refine ⟨_, Qa q, rfl, ?_⟩
              exact (And.intro (And.intro rfl (trivial)) (o9))
            ·exact oV (hC (hA 2 70) (h0)) (.bool (!a0))
            ·exact oV (hC (hA 3 71) (h0)) (.bool (!a0))
            ·exact oV (hC (hS 4 (.int .i64 p)) (hC (hB 4 72 a4) (h0))) (.int .i64 p)
            ·exact oV (hC (hA 5 73) (hC (hB 4 72 a4) (h0))) (.bool (decide (p > 0)))
            ·exact oV (hC (hA 6 74) (hC (hB 4 72 a4) (h0))) (.bool (decide (p > 0)))
            ·exact oV (hC (hS 1 (pt u 0)) (hC (hB 7 75 s) (h0))) (pt u 4)
            ·refine oL 1 ?_
             ·rintro ρ' w' hs h ⟨⟨aa6, -⟩, p0⟩
              have c8 := h 8 76 K
              have a3 := h 7 75 K
              refine kN [(76, (pt u 4)), (75, (.bool true))] ⟨c8, (Eq.trans a3 (congrArg Value.bool s)), trivial⟩ fun q => ?_
              refine sL 42 76 u 4 0 (.slice A9 (List.length a1) a5) 77 p0 rfl ?_
              exact eK q
            ·exact oV (hC (hS 4 (.int .i64 p)) (hC (hB 7 75 s) (h0))) (.int .i64 p)
            ·exact oV (hC (hA 10 78) (hC (hB 7 75 s) (h0))) (.int .i64 (IntKind.wrap .i64 (p - 1)))
            ·refine oL 1 ?_
             ·rintro ρ' w' hs h ⟨⟨aa7, -⟩, p1⟩
              have c9 := h 9 77 K
              have d0 := h 11 79 K
              have a3 := h 7 75 K
              refine kN [(77, (.slice A9 (List.length a1) a5)), (79, (.int .i64 (IntKind.wrap .i64 (p - 1)))), (75, (.bool true))] ⟨c9, d0, (Eq.trans a3 (congrArg Value.bool s)), trivial⟩ fun q => ?_
              refine Vi (e := (Qj Qx (Qj Qx (Qc .i64)))) (l := a1) (A := A9) (c := a5) (T := 42) (E := 48) (x := (.tmp 77)) (ix := (.tmp 79)) (ki := .i64) (iz := (IntKind.wrap .i64 (p - 1))) (d := (some 80)) (k := 12) K rfl K K K K (RdT.sp b8 p1) c5 c7 ?_
              intro p2 p3 p4 aa8 hc7409
              exact ⟨rfl, _, Qa q, ⟨p2, p3, p4, rfl⟩⟩
            ·refine oL 1 ?_
             ·rintro ρ' w' hs h ⟨⟨aa9, -⟩, ab0⟩
              obtain ⟨g2, g3, p5, d1⟩ := h 12 80 K
              have a3 := h 7 75 K
              refine kN [(80, (.pointer (some ⟨g2, (g3 + Int.toNat (IntKind.wrap .i64 (p - 1)) * (Qj Qx (Qj Qx (Qc .i64))).sz), none⟩))), (75, (.bool true))] ⟨d1, (Eq.trans a3 (congrArg Value.bool s)), trivial⟩ fun q => ?_
              refine Qi.run (k := 13) (v := (.pointer (some ⟨g2, (g3 + Int.toNat (IntKind.wrap .i64 (p - 1)) * (Qj Qx (Qj Qx (Qc .i64))).sz), none⟩))) K ?_
              exact ⟨rfl, _, Qa q, ⟨g2, g3, p5, rfl⟩⟩
            ·refine oL 1 ?_
             ·rintro ρ' w' hs h ⟨⟨ab1, -⟩, p6⟩
              obtain ⟨j1, j2, p7, d2⟩ := h 13 81 K
              have a3 := h 7 75 K
              refine kN [(81, (.pointer (some ⟨j1, (j2 + Int.toNat (IntKind.wrap .i64 (p - 1)) * (Qj Qx (Qj Qx (Qc .i64))).sz), none⟩))), (75, (.bool true))] ⟨d2, (Eq.trans a3 (congrArg Value.bool s)), trivial⟩ fun q => ?_
              refine sC 9 81 j1 (j2 + Int.toNat (IntKind.wrap .i64 (p - 1)) * (Qj Qx (Qj Qx (Qc .i64))).sz) (.string ⟨List.toArray a2.1⟩) 82 (Qk (e := (Qj Qx (Qj Qx (Qc .i64)))) (Qh (RdT.sp b8 p6) p7 c5 c7) e5 (j := 0) rfl) ?_
              exact eK q
            ·exact oV (hC (hS 5 (pt m 0)) (hC (hB 7 75 s) (h0))) (pt m 0)
            ·refine oL 1 ?_
             ·rintro ρ' w' hs h ⟨⟨ab2, -⟩, p8⟩
              have d3 := h 15 83 K
              have a3 := h 7 75 K
              refine kN [(83, (pt m 0)), (75, (.bool true))] ⟨d3, (Eq.trans a3 (congrArg Value.bool s)), trivial⟩ fun q => ?_
              refine sL 9 83 m 0 1 (.string ⟨List.toArray f.1⟩) 84 p8 rfl ?_
              exact eK q
            ·refine oL 1 ?_
             ·rintro ρ' w' hs h ⟨⟨ab3, -⟩, ab4⟩
              have d4 := h 14 82 K
              have d5 := h 16 84 K
              have a3 := h 7 75 K
              refine kN [(82, (.string ⟨List.toArray a2.1⟩)), (84, (.string ⟨List.toArray f.1⟩)), (75, (.bool true))] ⟨d4, d5, (Eq.trans a3 (congrArg Value.bool s)), trivial⟩ fun q => ?_
              refine V0 (op := .geq) (T := 9) (T' := 9) (x := (.tmp 82)) (y := (.tmp 84)) (a := a2.1) (b := f.1) (r := (.bool (!(Op.bytesLess a2.1 f.1)))) (d := (some 85)) (k := 17) K rfl K K rfl ?_
              exact eK q
            ·exact oV (hC (hB 7 75 s) (hC (hA 17 85) (hC (hB 4 72 a4) (h0)))) (.bool (!(Op.bytesLess a2.1 f.1)))
            ·exact oV (hC (hB 4 72 a4) (hC (hA 18 86) (h0))) (.bool (!(Op.bytesLess a2.1 f.1)))
            ·exact oV (hC (hA 19 87) (h0)) (.bool (!(Op.bytesLess a2.1 f.1)))
            ·exact oV (hC (hS 5 (pt m 0)) (hC (hB 20 88 a9) (h0))) (pt m 1)
            ·refine oL 1 ?_
             ·rintro ρ' w' hs h ⟨⟨ab5, -⟩, p9⟩
              have d7 := h 21 89 K
              have b4 := h 20 88 K
              refine kN [(89, (pt m 1)), (88, (.bool false))] ⟨d7, (Eq.trans b4 (congrArg Value.bool a9)), trivial⟩ fun q => ?_
              refine sL 9 89 m 1 1 (.string ⟨List.toArray f.2.1⟩) 90 p9 rfl ?_
              exact eK q
            ·refine oL 1 ?_
             ·rintro ρ' w' hs h ⟨⟨ab6, -⟩, ab7⟩
              have d8 := h 22 90 K
              have b4 := h 20 88 K
              refine kN [(90, (.string ⟨List.toArray f.2.1⟩)), (88, (.bool false))] ⟨d8, (Eq.trans b4 (congrArg Value.bool a9)), trivial⟩ fun q => ?_
              refine V0 (op := .eql) (T := 9) (T' := 9) (x := (.tmp 90)) (y := (.const (.string ⟨List.toArray ([] : List UInt8)⟩))) (a := f.2.1) (b := ([] : List UInt8)) (r := (.bool (f.2.1 == ([] : List UInt8)))) (d := (some 91)) (k := 23) K rfl K K rfl ?_
              exact eK q
            ·exact oV (hC (hB 20 88 a9) (hC (hA 23 91) (h0))) (.bool (f.2.1 == ([] : List UInt8)))
            ·exact oV (hC (hA 24 92) (h0)) (.bool (f.2.1 == ([] : List UInt8)))
            ·exact oW (hC (hB 25 93 b0) (h0)) 94
            ·exact oW (hC (hB 25 93 b0) (h0)) 95
            ·exact oW (hC (hB 25 93 b0) (h0)) 96
            ·exact oW (hC (hB 25 93 b0) (h0)) 97
            ·exact oV (hC (hB 25 93 b0) (hC (hA 29 97) (h0))) (.bool true)
            ·exact oV (hC (hA 30 98) (h0)) (.bool true)
            ·exact oW (hC (hA 31 99) (h0)) 100
            ·exact oW (hC (hA 31 99) (h0)) 101
            ·exact oW (hC (hA 31 99) (h0)) 102
            ·exact oV (hC (hA 31 99) (hC (hA 34 102) (h0))) (.bool true)
            ·exact oV (hC (hA 35 103) (h0)) (.bool true)
            ·exact oW (hC (hA 36 104) (h0)) 105
            ·exact oW (hC (hA 36 104) (h0)) 106
            ·exact oW (hC (hA 36 104) (h0)) 107
            ·exact oV (hC (hA 36 104) (hC (hA 39 107) (h0))) (.bool true)
            ·rintro ρ' w' hs hf ⟨⟨ab8, -⟩, j3⟩
             refine Q3 [(1, (pt u 0)), (4, (.int .i64 p)), (108, (.bool true))] ⟨(hs 1 K).trans K, (hs 4 K).trans K, hf 40 108 K, trivial⟩ ?_
             obtain ⟨ab9, q0⟩ : ∃ x, w' = x := ⟨_, rfl⟩
             rw [q0] at j3 ⊢
             exact ⟨true, ⟨K, K, K, trivial⟩, SP.sel j3 [0] rfl rfl, H⟩
           ·have H := cf H b0
            rcases Bool.eq_false_or_eq_true (decide (((List.length f.2.1 : Nat) : Int) > 32)) with b5 | b5
            ·have H := ct H b5
             refine aG [GEq (pt m 0), GEq (.string ⟨List.toArray f.1⟩), GEq (.bool a0), GEq (.bool (!a0)), GEq (.bool (!a0)), GEq (.int .i64 p), GEq (.bool (decide (p > 0))), GEq (.bool (decide (p > 0))), GEq (pt u 4), GEq (.slice A9 (List.length a1) a5), GEq (.int .i64 p), GEq (.int .i64 (IntKind.wrap .i64 (p - 1))), Vr A9 (Qj Qx (Qj Qx (Qc .i64))).sz (IntKind.wrap .i64 (p - 1)), Vr A9 (Qj Qx (Qj Qx (Qc .i64))).sz (IntKind.wrap .i64 (p - 1)), GEq (.string ⟨List.toArray a2.1⟩), GEq (pt m 0), GEq (.string ⟨List.toArray f.1⟩), GEq (.bool (!(Op.bytesLess a2.1 f.1))), GEq (.bool (!(Op.bytesLess a2.1 f.1))), GEq (.bool (!(Op.bytesLess a2.1 f.1))), GEq (.bool (!(Op.bytesLess a2.1 f.1))), GEq (pt m 1), GEq (.string ⟨List.toArray f.2.1⟩), GEq (.bool (f.2.1 == ([] : List UInt8))), GEq (.bool (f.2.1 == ([] : List UInt8))), GEq (.bool (f.2.1 == ([] : List UInt8))), GEq (pt m 1), GEq (.string ⟨List.toArray f.2.1⟩), GEq (.int .i64 ((List.length f.2.1 : Nat) : Int)), GEq (.bool (decide (((List.length f.2.1 : Nat) : Int) > 32))), GEq (.bool (decide (((List.length f.2.1 : Nat) : Int) > 32))), GEq (.bool (decide (((List.length f.2.1 : Nat) : Int) > 32))), GEq undef, GEq undef, GEq undef, GEq (.bool true), GEq (.bool true), GEq undef, GEq undef, GEq undef, GEq (.bool true)] [2] (tG [] w0 [Qn u 44 #[(.string ⟨List.toArray b2⟩), (.int .i64 a7), (.int .i64 a8), (.slice A5 (List.length a6) c6), (.slice A9 (List.length a1) a5)], Qn m 48 #[(.string ⟨List.toArray f.1⟩), (.string ⟨List.toArray f.2.1⟩), (.int .i64 f.2.2)]] [([], []), ([2], [(.bool a0)])]) 41 1 ⟨trivial, SP.drew c3⟩ ?_ ?_
             iterate 41 refine And.intro ?_ ?_
             exact trivial
             ·exact oV (hC (hS 5 (pt m 0)) (h0)) (pt m 0)
             ·refine oL 0 ?_
              ·rintro ρ' w' hs h ⟨ac0, q1⟩
               refine kM (kc (kA h 0 68) k0) fun q => ?_
               refine sL 9 68 m 0 1 (.string ⟨List.toArray f.1⟩) 69 q1 rfl ?_
               exact eK q
             ·refine oH 0 1 ?_
              ·rintro ρ' w' hs h ⟨ac1, q2⟩
               refine kM (kc (kA h 1 69) k0) fun q => ?_
               refine cF 86 #[(.tmp 69)] #[9] 70 Tryz.call86 (Vo  f.1 w'  a0 c4) ?_
               rintro e ac2 ⟨rfl, j4⟩
               refine ⟨_, rfl, ?_⟩
               have q3 := SP.call q2 j4
               clear j4
               refine ⟨_, Qa q, rfl, ?_⟩
               exact (And.intro (And.intro rfl (trivial)) (q3))
             ·exact oV (hC (hA 2 70) (h0)) (.bool (!a0))
             ·exact oV (hC (hA 3 71) (h0)) (.bool (!a0))
             ·exact oV (hC (hS 4 (.int .i64 p)) (hC (hB 4 72 a4) (h0))) (.int .i64 p)
             ·exact oV (hC (hA 5 73) (hC (hB 4 72 a4) (h0))) (.bool (decide (p > 0)))
             ·exact oV (hC (hA 6 74) (hC (hB 4 72 a4) (h0))) (.bool (decide (p > 0)))
             ·exact oV (hC (hS 1 (pt u 0)) (hC (hB 7 75 s) (h0))) (pt u 4)
             ·refine oL 1 ?_
              ·rintro ρ' w' hs h ⟨⟨ac3, -⟩, q4⟩
               have c8 := h 8 76 K
               have a3 := h 7 75 K
               refine kN [(76, (pt u 4)), (75, (.bool true))] ⟨c8, (Eq.trans a3 (congrArg Value.bool s)), trivial⟩ fun q => ?_
               refine sL 42 76 u 4 0 (.slice A9 (List.length a1) a5) 77 q4 rfl ?_
               exact eK q
             ·exact oV (hC (hS 4 (.int .i64 p)) (hC (hB 7 75 s) (h0))) (.int .i64 p)
             ·exact oV (hC (hA 10 78) (hC (hB 7 75 s) (h0))) (.int .i64 (IntKind.wrap .i64 (p - 1)))
             ·refine oL 1 ?_
              ·rintro ρ' w' hs h ⟨⟨ac4, -⟩, q5⟩
               have c9 := h 9 77 K
               have d0 := h 11 79 K
               have a3 := h 7 75 K
               refine kN [(77, (.slice A9 (List.length a1) a5)), (79, (.int .i64 (IntKind.wrap .i64 (p - 1)))), (75, (.bool true))] ⟨c9, d0, (Eq.trans a3 (congrArg Value.bool s)), trivial⟩ fun q => ?_
               refine Vi (e := (Qj Qx (Qj Qx (Qc .i64)))) (l := a1) (A := A9) (c := a5) (T := 42) (E := 48) (x := (.tmp 77)) (ix := (.tmp 79)) (ki := .i64) (iz := (IntKind.wrap .i64 (p - 1))) (d := (some 80)) (k := 12) K rfl K K K K (RdT.sp b8 q5) c5 c7 ?_
               intro q6 q7 q8 ac5 hc7461
               exact ⟨rfl, _, Qa q, ⟨q6, q7, q8, rfl⟩⟩
             ·refine oL 1 ?_
              ·rintro ρ' w' hs h ⟨⟨ac6, -⟩, ac7⟩
               obtain ⟨g4, g5, q9, d1⟩ := h 12 80 K
               have a3 := h 7 75 K
               refine kN [(80, (.pointer (some ⟨g4, (g5 + Int.toNat (IntKind.wrap .i64 (p - 1)) * (Qj Qx (Qj Qx (Qc .i64))).sz), none⟩))), (75, (.bool true))] ⟨d1, (Eq.trans a3 (congrArg Value.bool s)), trivial⟩ fun q => ?_
               refine Qi.run (k := 13) (v := (.pointer (some ⟨g4, (g5 + Int.toNat (IntKind.wrap .i64 (p - 1)) * (Qj Qx (Qj Qx (Qc .i64))).sz), none⟩))) K ?_
               exact ⟨rfl, _, Qa q, ⟨g4, g5, q9, rfl⟩⟩
             ·refine oL 1 ?_
              ·rintro ρ' w' hs h ⟨⟨ac8, -⟩, r0⟩
               obtain ⟨j5, j6, r1, d2⟩ := h 13 81 K
               have a3 := h 7 75 K
               refine kN [(81, (.pointer (some ⟨j5, (j6 + Int.toNat (IntKind.wrap .i64 (p - 1)) * (Qj Qx (Qj Qx (Qc .i64))).sz), none⟩))), (75, (.bool true))] ⟨d2, (Eq.trans a3 (congrArg Value.bool s)), trivial⟩ fun q => ?_
               refine sC 9 81 j5 (j6 + Int.toNat (IntKind.wrap .i64 (p - 1)) * (Qj Qx (Qj Qx (Qc .i64))).sz) (.string ⟨List.toArray a2.1⟩) 82 (Qk (e := (Qj Qx (Qj Qx (Qc .i64)))) (Qh (RdT.sp b8 r0) r1 c5 c7) e5 (j := 0) rfl) ?_
               exact eK q
             ·exact oV (hC (hS 5 (pt m 0)) (hC (hB 7 75 s) (h0))) (pt m 0)
             ·refine oL 1 ?_
              ·rintro ρ' w' hs h ⟨⟨ac9, -⟩, r2⟩
               have d3 := h 15 83 K
               have a3 := h 7 75 K
               refine kN [(83, (pt m 0)), (75, (.bool true))] ⟨d3, (Eq.trans a3 (congrArg Value.bool s)), trivial⟩ fun q => ?_
               refine sL 9 83 m 0 1 (.string ⟨List.toArray f.1⟩) 84 r2 rfl ?_
               exact eK q
             ·refine oL 1 ?_
              ·rintro ρ' w' hs h ⟨⟨ad0, -⟩, ad1⟩
               have d4 := h 14 82 K
               have d5 := h 16 84 K
               have a3 := h 7 75 K
               refine kN [(82, (.string ⟨List.toArray a2.1⟩)), (84, (.string ⟨List.toArray f.1⟩)), (75, (.bool true))] ⟨d4, d5, (Eq.trans a3 (congrArg Value.bool s)), trivial⟩ fun q => ?_
               refine V0 (op := .geq) (T := 9) (T' := 9) (x := (.tmp 82)) (y := (.tmp 84)) (a := a2.1) (b := f.1) (r := (.bool (!(Op.bytesLess a2.1 f.1)))) (d := (some 85)) (k := 17) K rfl K K rfl ?_
               exact eK q
             ·exact oV (hC (hB 7 75 s) (hC (hA 17 85) (hC (hB 4 72 a4) (h0)))) (.bool (!(Op.bytesLess a2.1 f.1)))
             ·exact oV (hC (hB 4 72 a4) (hC (hA 18 86) (h0))) (.bool (!(Op.bytesLess a2.1 f.1)))
             ·exact oV (hC (hA 19 87) (h0)) (.bool (!(Op.bytesLess a2.1 f.1)))
             ·exact oV (hC (hS 5 (pt m 0)) (hC (hB 20 88 a9) (h0))) (pt m 1)
             ·refine oL 1 ?_
              ·rintro ρ' w' hs h ⟨⟨ad2, -⟩, r3⟩
               have d7 := h 21 89 K
               have b4 := h 20 88 K
               refine kN [(89, (pt m 1)), (88, (.bool false))] ⟨d7, (Eq.trans b4 (congrArg Value.bool a9)), trivial⟩ fun q => ?_
               refine sL 9 89 m 1 1 (.string ⟨List.toArray f.2.1⟩) 90 r3 rfl ?_
               exact eK q
             ·refine oL 1 ?_
              ·rintro ρ' w' hs h ⟨⟨ad3, -⟩, ad4⟩
               have d8 := h 22 90 K
               have b4 := h 20 88 K
               refine kN [(90, (.string ⟨List.toArray f.2.1⟩)), (88, (.bool false))] ⟨d8, (Eq.trans b4 (congrArg Value.bool a9)), trivial⟩ fun q => ?_
               refine V0 (op := .eql) (T := 9) (T' := 9) (x := (.tmp 90)) (y := (.const (.string ⟨List.toArray ([] : List UInt8)⟩))) (a := f.2.1) (b := ([] : List UInt8)) (r := (.bool (f.2.1 == ([] : List UInt8)))) (d := (some 91)) (k := 23) K rfl K K rfl ?_
               exact eK q
             ·exact oV (hC (hB 20 88 a9) (hC (hA 23 91) (h0))) (.bool (f.2.1 == ([] : List UInt8)))
             ·exact oV (hC (hA 24 92) (h0)) (.bool (f.2.1 == ([] : List UInt8)))
             ·exact oV (hC (hS 5 (pt m 0)) (hC (hB 25 93 b0) (h0))) (pt m 1)
             ·refine oL 1 ?_
              ·rintro ρ' w' hs h ⟨⟨ad5, -⟩, r4⟩
               have b9 := h 26 94 K
               have c0 := h 25 93 K
               refine kN [(94, (pt m 1)), (93, (.bool false))] ⟨b9, (Eq.trans c0 (congrArg Value.bool b0)), trivial⟩ fun q => ?_
               refine sL 9 94 m 1 1 (.string ⟨List.toArray f.2.1⟩) 95 r4 rfl ?_
               exact eK q
             ·exact oV (hC (hA 27 95) (hC (hB 25 93 b0) (h0))) (.int .i64 ((List.length f.2.1 : Nat) : Int))
             ·exact oV (hC (hA 28 96) (hC (hB 25 93 b0) (h0))) (.bool (decide (((List.length f.2.1 : Nat) : Int) > 32)))
             ·exact oV (hC (hB 25 93 b0) (hC (hA 29 97) (h0))) (.bool (decide (((List.length f.2.1 : Nat) : Int) > 32)))
             ·exact oV (hC (hA 30 98) (h0)) (.bool (decide (((List.length f.2.1 : Nat) : Int) > 32)))
             ·exact oW (hC (hB 31 99 b5) (h0)) 100
             ·exact oW (hC (hB 31 99 b5) (h0)) 101
             ·exact oW (hC (hB 31 99 b5) (h0)) 102
             ·exact oV (hC (hB 31 99 b5) (hC (hA 34 102) (h0))) (.bool true)
             ·exact oV (hC (hA 35 103) (h0)) (.bool true)
             ·exact oW (hC (hA 36 104) (h0)) 105
             ·exact oW (hC (hA 36 104) (h0)) 106
             ·exact oW (hC (hA 36 104) (h0)) 107
             ·exact oV (hC (hA 36 104) (hC (hA 39 107) (h0))) (.bool true)
             ·rintro ρ' w' hs hf ⟨⟨ad6, -⟩, j7⟩
              refine Q3 [(1, (pt u 0)), (4, (.int .i64 p)), (108, (.bool true))] ⟨(hs 1 K).trans K, (hs 4 K).trans K, hf 40 108 K, trivial⟩ ?_
              obtain ⟨ad7, r5⟩ : ∃ x, w' = x := ⟨_, rfl⟩
              rw [r5] at j7 ⊢
              exact ⟨true, ⟨K, K, K, trivial⟩, SP.sel j7 [0] rfl rfl, H⟩
            ·have H := cf H b5
             rcases Bool.eq_false_or_eq_true (decide (f.2.2 < 0)) with c1 | c1
             ·have H := ct H c1
              refine aG [GEq (pt m 0), GEq (.string ⟨List.toArray f.1⟩), GEq (.bool a0), GEq (.bool (!a0)), GEq (.bool (!a0)), GEq (.int .i64 p), GEq (.bool (decide (p > 0))), GEq (.bool (decide (p > 0))), GEq (pt u 4), GEq (.slice A9 (List.length a1) a5), GEq (.int .i64 p), GEq (.int .i64 (IntKind.wrap .i64 (p - 1))), Vr A9 (Qj Qx (Qj Qx (Qc .i64))).sz (IntKind.wrap .i64 (p - 1)), Vr A9 (Qj Qx (Qj Qx (Qc .i64))).sz (IntKind.wrap .i64 (p - 1)), GEq (.string ⟨List.toArray a2.1⟩), GEq (pt m 0), GEq (.string ⟨List.toArray f.1⟩), GEq (.bool (!(Op.bytesLess a2.1 f.1))), GEq (.bool (!(Op.bytesLess a2.1 f.1))), GEq (.bool (!(Op.bytesLess a2.1 f.1))), GEq (.bool (!(Op.bytesLess a2.1 f.1))), GEq (pt m 1), GEq (.string ⟨List.toArray f.2.1⟩), GEq (.bool (f.2.1 == ([] : List UInt8))), GEq (.bool (f.2.1 == ([] : List UInt8))), GEq (.bool (f.2.1 == ([] : List UInt8))), GEq (pt m 1), GEq (.string ⟨List.toArray f.2.1⟩), GEq (.int .i64 ((List.length f.2.1 : Nat) : Int)), GEq (.bool (decide (((List.length f.2.1 : Nat) : Int) > 32))), GEq (.bool (decide (((List.length f.2.1 : Nat) : Int) > 32))), GEq (.bool (decide (((List.length f.2.1 : Nat) : Int) > 32))), GEq (pt m 2), GEq (.int .i64 f.2.2), GEq (.bool (decide (f.2.2 < 0))), GEq (.bool (decide (f.2.2 < 0))), GEq (.bool (decide (f.2.2 < 0))), GEq undef, GEq undef, GEq undef, GEq (.bool true)] [2] (tG [] w0 [Qn u 44 #[(.string ⟨List.toArray b2⟩), (.int .i64 a7), (.int .i64 a8), (.slice A5 (List.length a6) c6), (.slice A9 (List.length a1) a5)], Qn m 48 #[(.string ⟨List.toArray f.1⟩), (.string ⟨List.toArray f.2.1⟩), (.int .i64 f.2.2)]] [([], []), ([2], [(.bool a0)])]) 41 1 ⟨trivial, SP.drew c3⟩ ?_ ?_
              iterate 41 refine And.intro ?_ ?_
              exact trivial
              ·exact oV (hC (hS 5 (pt m 0)) (h0)) (pt m 0)
              ·refine oL 0 ?_
               ·rintro ρ' w' hs h ⟨ad8, r6⟩
                refine kM (kc (kA h 0 68) k0) fun q => ?_
                refine sL 9 68 m 0 1 (.string ⟨List.toArray f.1⟩) 69 r6 rfl ?_
                exact eK q
              ·refine oH 0 1 ?_
               ·rintro ρ' w' hs h ⟨ad9, r7⟩
                refine kM (kc (kA h 1 69) k0) fun q => ?_
                refine cF 86 #[(.tmp 69)] #[9] 70 Tryz.call86 (Vo  f.1 w'  a0 c4) ?_
                rintro e ae0 ⟨rfl, j8⟩
                refine ⟨_, rfl, ?_⟩
                have r8 := SP.call r7 j8
                clear j8
                refine ⟨_, Qa q, rfl, ?_⟩
                exact (And.intro (And.intro rfl (trivial)) (r8))
              ·exact oV (hC (hA 2 70) (h0)) (.bool (!a0))
              ·exact oV (hC (hA 3 71) (h0)) (.bool (!a0))
              ·exact oV (hC (hS 4 (.int .i64 p)) (hC (hB 4 72 a4) (h0))) (.int .i64 p)
              ·exact oV (hC (hA 5 73) (hC (hB 4 72 a4) (h0))) (.bool (decide (p > 0)))
              ·exact oV (hC (hA 6 74) (hC (hB 4 72 a4) (h0))) (.bool (decide (p > 0)))
              ·exact oV (hC (hS 1 (pt u 0)) (hC (hB 7 75 s) (h0))) (pt u 4)
              ·refine oL 1 ?_
               ·rintro ρ' w' hs h ⟨⟨ae1, -⟩, r9⟩
                have c8 := h 8 76 K
                have a3 := h 7 75 K
                refine kN [(76, (pt u 4)), (75, (.bool true))] ⟨c8, (Eq.trans a3 (congrArg Value.bool s)), trivial⟩ fun q => ?_
                refine sL 42 76 u 4 0 (.slice A9 (List.length a1) a5) 77 r9 rfl ?_
                exact eK q
              ·exact oV (hC (hS 4 (.int .i64 p)) (hC (hB 7 75 s) (h0))) (.int .i64 p)
              ·exact oV (hC (hA 10 78) (hC (hB 7 75 s) (h0))) (.int .i64 (IntKind.wrap .i64 (p - 1)))
              ·refine oL 1 ?_
               ·rintro ρ' w' hs h ⟨⟨ae2, -⟩, s0⟩
                have c9 := h 9 77 K
                have d0 := h 11 79 K
                have a3 := h 7 75 K
                refine kN [(77, (.slice A9 (List.length a1) a5)), (79, (.int .i64 (IntKind.wrap .i64 (p - 1)))), (75, (.bool true))] ⟨c9, d0, (Eq.trans a3 (congrArg Value.bool s)), trivial⟩ fun q => ?_
                refine Vi (e := (Qj Qx (Qj Qx (Qc .i64)))) (l := a1) (A := A9) (c := a5) (T := 42) (E := 48) (x := (.tmp 77)) (ix := (.tmp 79)) (ki := .i64) (iz := (IntKind.wrap .i64 (p - 1))) (d := (some 80)) (k := 12) K rfl K K K K (RdT.sp b8 s0) c5 c7 ?_
                intro s1 s2 s3 ae3 hc7516
                exact ⟨rfl, _, Qa q, ⟨s1, s2, s3, rfl⟩⟩
              ·refine oL 1 ?_
               ·rintro ρ' w' hs h ⟨⟨ae4, -⟩, ae5⟩
                obtain ⟨g6, g7, s4, d1⟩ := h 12 80 K
                have a3 := h 7 75 K
                refine kN [(80, (.pointer (some ⟨g6, (g7 + Int.toNat (IntKind.wrap .i64 (p - 1)) * (Qj Qx (Qj Qx (Qc .i64))).sz), none⟩))), (75, (.bool true))] ⟨d1, (Eq.trans a3 (congrArg Value.bool s)), trivial⟩ fun q => ?_
                refine Qi.run (k := 13) (v := (.pointer (some ⟨g6, (g7 + Int.toNat (IntKind.wrap .i64 (p - 1)) * (Qj Qx (Qj Qx (Qc .i64))).sz), none⟩))) K ?_
                exact ⟨rfl, _, Qa q, ⟨g6, g7, s4, rfl⟩⟩
              ·refine oL 1 ?_
               ·rintro ρ' w' hs h ⟨⟨ae6, -⟩, s5⟩
                obtain ⟨j9, k1, s6, d2⟩ := h 13 81 K
                have a3 := h 7 75 K
                refine kN [(81, (.pointer (some ⟨j9, (k1 + Int.toNat (IntKind.wrap .i64 (p - 1)) * (Qj Qx (Qj Qx (Qc .i64))).sz), none⟩))), (75, (.bool true))] ⟨d2, (Eq.trans a3 (congrArg Value.bool s)), trivial⟩ fun q => ?_
                refine sC 9 81 j9 (k1 + Int.toNat (IntKind.wrap .i64 (p - 1)) * (Qj Qx (Qj Qx (Qc .i64))).sz) (.string ⟨List.toArray a2.1⟩) 82 (Qk (e := (Qj Qx (Qj Qx (Qc .i64)))) (Qh (RdT.sp b8 s5) s6 c5 c7) e5 (j := 0) rfl) ?_
                exact eK q
              ·exact oV (hC (hS 5 (pt m 0)) (hC (hB 7 75 s) (h0))) (pt m 0)
              ·refine oL 1 ?_
               ·rintro ρ' w' hs h ⟨⟨ae7, -⟩, s7⟩
                have d3 := h 15 83 K
                have a3 := h 7 75 K
                refine kN [(83, (pt m 0)), (75, (.bool true))] ⟨d3, (Eq.trans a3 (congrArg Value.bool s)), trivial⟩ fun q => ?_
                refine sL 9 83 m 0 1 (.string ⟨List.toArray f.1⟩) 84 s7 rfl ?_
                exact eK q
              ·refine oL 1 ?_
               ·rintro ρ' w' hs h ⟨⟨ae8, -⟩, ae9⟩
                have d4 := h 14 82 K
                have d5 := h 16 84 K
                have a3 := h 7 75 K
                refine kN [(82, (.string ⟨List.toArray a2.1⟩)), (84, (.string ⟨List.toArray f.1⟩)), (75, (.bool true))] ⟨d4, d5, (Eq.trans a3 (congrArg Value.bool s)), trivial⟩ fun q => ?_
                refine V0 (op := .geq) (T := 9) (T' := 9) (x := (.tmp 82)) (y := (.tmp 84)) (a := a2.1) (b := f.1) (r := (.bool (!(Op.bytesLess a2.1 f.1)))) (d := (some 85)) (k := 17) K rfl K K rfl ?_
                exact eK q
              ·exact oV (hC (hB 7 75 s) (hC (hA 17 85) (hC (hB 4 72 a4) (h0)))) (.bool (!(Op.bytesLess a2.1 f.1)))
              ·exact oV (hC (hB 4 72 a4) (hC (hA 18 86) (h0))) (.bool (!(Op.bytesLess a2.1 f.1)))
              ·exact oV (hC (hA 19 87) (h0)) (.bool (!(Op.bytesLess a2.1 f.1)))
              ·exact oV (hC (hS 5 (pt m 0)) (hC (hB 20 88 a9) (h0))) (pt m 1)
              ·refine oL 1 ?_
               ·rintro ρ' w' hs h ⟨⟨af0, -⟩, s8⟩
                have d7 := h 21 89 K
                have b4 := h 20 88 K
                refine kN [(89, (pt m 1)), (88, (.bool false))] ⟨d7, (Eq.trans b4 (congrArg Value.bool a9)), trivial⟩ fun q => ?_
                refine sL 9 89 m 1 1 (.string ⟨List.toArray f.2.1⟩) 90 s8 rfl ?_
                exact eK q
              ·refine oL 1 ?_
               ·rintro ρ' w' hs h ⟨⟨af1, -⟩, af2⟩
                have d8 := h 22 90 K
                have b4 := h 20 88 K
                refine kN [(90, (.string ⟨List.toArray f.2.1⟩)), (88, (.bool false))] ⟨d8, (Eq.trans b4 (congrArg Value.bool a9)), trivial⟩ fun q => ?_
                refine V0 (op := .eql) (T := 9) (T' := 9) (x := (.tmp 90)) (y := (.const (.string ⟨List.toArray ([] : List UInt8)⟩))) (a := f.2.1) (b := ([] : List UInt8)) (r := (.bool (f.2.1 == ([] : List UInt8)))) (d := (some 91)) (k := 23) K rfl K K rfl ?_
                exact eK q
              ·exact oV (hC (hB 20 88 a9) (hC (hA 23 91) (h0))) (.bool (f.2.1 == ([] : List UInt8)))
              ·exact oV (hC (hA 24 92) (h0)) (.bool (f.2.1 == ([] : List UInt8)))
              ·exact oV (hC (hS 5 (pt m 0)) (hC (hB 25 93 b0) (h0))) (pt m 1)
              ·refine oL 1 ?_
               ·rintro ρ' w' hs h ⟨⟨af3, -⟩, s9⟩
                have b9 := h 26 94 K
                have c0 := h 25 93 K
                refine kN [(94, (pt m 1)), (93, (.bool false))] ⟨b9, (Eq.trans c0 (congrArg Value.bool b0)), trivial⟩ fun q => ?_
                refine sL 9 94 m 1 1 (.string ⟨List.toArray f.2.1⟩) 95 s9 rfl ?_
                exact eK q
              ·exact oV (hC (hA 27 95) (hC (hB 25 93 b0) (h0))) (.int .i64 ((List.length f.2.1 : Nat) : Int))
              ·exact oV (hC (hA 28 96) (hC (hB 25 93 b0) (h0))) (.bool (decide (((List.length f.2.1 : Nat) : Int) > 32)))
              ·exact oV (hC (hB 25 93 b0) (hC (hA 29 97) (h0))) (.bool (decide (((List.length f.2.1 : Nat) : Int) > 32)))
              ·exact oV (hC (hA 30 98) (h0)) (.bool (decide (((List.length f.2.1 : Nat) : Int) > 32)))
              ·exact oV (hC (hS 5 (pt m 0)) (hC (hB 31 99 b5) (h0))) (pt m 2)
              ·refine oL 1 ?_
               ·rintro ρ' w' hs h ⟨⟨af4, -⟩, t0⟩
                have d9 := h 32 100 K
                have e0 := h 31 99 K
                refine kN [(100, (pt m 2)), (99, (.bool false))] ⟨d9, (Eq.trans e0 (congrArg Value.bool b5)), trivial⟩ fun q => ?_
                refine sL 2 100 m 2 1 (.int .i64 f.2.2) 101 t0 rfl ?_
                exact eK q
              ·exact oV (hC (hA 33 101) (hC (hB 31 99 b5) (h0))) (.bool (decide (f.2.2 < 0)))
              ·exact oV (hC (hB 31 99 b5) (hC (hA 34 102) (h0))) (.bool (decide (f.2.2 < 0)))
              ·exact oV (hC (hA 35 103) (h0)) (.bool (decide (f.2.2 < 0)))
              ·exact oW (hC (hB 36 104 c1) (h0)) 105
              ·exact oW (hC (hB 36 104 c1) (h0)) 106
              ·exact oW (hC (hB 36 104 c1) (h0)) 107
              ·exact oV (hC (hB 36 104 c1) (hC (hA 39 107) (h0))) (.bool true)
              ·rintro ρ' w' hs hf ⟨⟨af5, -⟩, k2⟩
               refine Q3 [(1, (pt u 0)), (4, (.int .i64 p)), (108, (.bool true))] ⟨(hs 1 K).trans K, (hs 4 K).trans K, hf 40 108 K, trivial⟩ ?_
               obtain ⟨af6, t1⟩ : ∃ x, w' = x := ⟨_, rfl⟩
               rw [t1] at k2 ⊢
               exact ⟨true, ⟨K, K, K, trivial⟩, SP.sel k2 [0] rfl rfl, H⟩
             ·have H := cf H c1
              refine aG [GEq (pt m 0), GEq (.string ⟨List.toArray f.1⟩), GEq (.bool a0), GEq (.bool (!a0)), GEq (.bool (!a0)), GEq (.int .i64 p), GEq (.bool (decide (p > 0))), GEq (.bool (decide (p > 0))), GEq (pt u 4), GEq (.slice A9 (List.length a1) a5), GEq (.int .i64 p), GEq (.int .i64 (IntKind.wrap .i64 (p - 1))), Vr A9 (Qj Qx (Qj Qx (Qc .i64))).sz (IntKind.wrap .i64 (p - 1)), Vr A9 (Qj Qx (Qj Qx (Qc .i64))).sz (IntKind.wrap .i64 (p - 1)), GEq (.string ⟨List.toArray a2.1⟩), GEq (pt m 0), GEq (.string ⟨List.toArray f.1⟩), GEq (.bool (!(Op.bytesLess a2.1 f.1))), GEq (.bool (!(Op.bytesLess a2.1 f.1))), GEq (.bool (!(Op.bytesLess a2.1 f.1))), GEq (.bool (!(Op.bytesLess a2.1 f.1))), GEq (pt m 1), GEq (.string ⟨List.toArray f.2.1⟩), GEq (.bool (f.2.1 == ([] : List UInt8))), GEq (.bool (f.2.1 == ([] : List UInt8))), GEq (.bool (f.2.1 == ([] : List UInt8))), GEq (pt m 1), GEq (.string ⟨List.toArray f.2.1⟩), GEq (.int .i64 ((List.length f.2.1 : Nat) : Int)), GEq (.bool (decide (((List.length f.2.1 : Nat) : Int) > 32))), GEq (.bool (decide (((List.length f.2.1 : Nat) : Int) > 32))), GEq (.bool (decide (((List.length f.2.1 : Nat) : Int) > 32))), GEq (pt m 2), GEq (.int .i64 f.2.2), GEq (.bool (decide (f.2.2 < 0))), GEq (.bool (decide (f.2.2 < 0))), GEq (.bool (decide (f.2.2 < 0))), GEq (pt m 2), GEq (.int .i64 f.2.2), GEq (.bool (decide (f.2.2 > 1099511627776))), GEq (.bool (decide (f.2.2 > 1099511627776)))] [2] (tG [] w0 [Qn u 44 #[(.string ⟨List.toArray b2⟩), (.int .i64 a7), (.int .i64 a8), (.slice A5 (List.length a6) c6), (.slice A9 (List.length a1) a5)], Qn m 48 #[(.string ⟨List.toArray f.1⟩), (.string ⟨List.toArray f.2.1⟩), (.int .i64 f.2.2)]] [([], []), ([2], [(.bool a0)])]) 41 1 ⟨trivial, SP.drew c3⟩ ?_ ?_
              iterate 41 refine And.intro ?_ ?_
              exact trivial
              ·exact oV (hC (hS 5 (pt m 0)) (h0)) (pt m 0)
              ·refine oL 0 ?_
               ·rintro ρ' w' hs h ⟨af7, t2⟩
                refine kM (kc (kA h 0 68) k0) fun q => ?_
                refine sL 9 68 m 0 1 (.string ⟨List.toArray f.1⟩) 69 t2 rfl ?_
                exact eK q
              ·refine oH 0 1 ?_
               ·rintro ρ' w' hs h ⟨af8, t3⟩
                refine kM (kc (kA h 1 69) k0) fun q => ?_
                refine cF 86 #[(.tmp 69)] #[9] 70 Tryz.call86 (Vo  f.1 w'  a0 c4) ?_
                rintro e af9 ⟨rfl, k3⟩
                refine ⟨_, rfl, ?_⟩
                have t4 := SP.call t3 k3
                clear k3
                refine ⟨_, Qa q, rfl, ?_⟩
                exact (And.intro (And.intro rfl (trivial)) (t4))
              ·exact oV (hC (hA 2 70) (h0)) (.bool (!a0))
              ·exact oV (hC (hA 3 71) (h0)) (.bool (!a0))
              ·exact oV (hC (hS 4 (.int .i64 p)) (hC (hB 4 72 a4) (h0))) (.int .i64 p)
              ·exact oV (hC (hA 5 73) (hC (hB 4 72 a4) (h0))) (.bool (decide (p > 0)))
              ·exact oV (hC (hA 6 74) (hC (hB 4 72 a4) (h0))) (.bool (decide (p > 0)))
              ·exact oV (hC (hS 1 (pt u 0)) (hC (hB 7 75 s) (h0))) (pt u 4)
              ·refine oL 1 ?_
               ·rintro ρ' w' hs h ⟨⟨ag0, -⟩, t5⟩
                have c8 := h 8 76 K
                have a3 := h 7 75 K
                refine kN [(76, (pt u 4)), (75, (.bool true))] ⟨c8, (Eq.trans a3 (congrArg Value.bool s)), trivial⟩ fun q => ?_
                refine sL 42 76 u 4 0 (.slice A9 (List.length a1) a5) 77 t5 rfl ?_
                exact eK q
              ·exact oV (hC (hS 4 (.int .i64 p)) (hC (hB 7 75 s) (h0))) (.int .i64 p)
              ·exact oV (hC (hA 10 78) (hC (hB 7 75 s) (h0))) (.int .i64 (IntKind.wrap .i64 (p - 1)))
              ·refine oL 1 ?_
               ·rintro ρ' w' hs h ⟨⟨ag1, -⟩, t6⟩
                have c9 := h 9 77 K
                have d0 := h 11 79 K
                have a3 := h 7 75 K
                refine kN [(77, (.slice A9 (List.length a1) a5)), (79, (.int .i64 (IntKind.wrap .i64 (p - 1)))), (75, (.bool true))] ⟨c9, d0, (Eq.trans a3 (congrArg Value.bool s)), trivial⟩ fun q => ?_
                refine Vi (e := (Qj Qx (Qj Qx (Qc .i64)))) (l := a1) (A := A9) (c := a5) (T := 42) (E := 48) (x := (.tmp 77)) (ix := (.tmp 79)) (ki := .i64) (iz := (IntKind.wrap .i64 (p - 1))) (d := (some 80)) (k := 12) K rfl K K K K (RdT.sp b8 t6) c5 c7 ?_
                intro t7 t8 t9 ag2 hc7573
                exact ⟨rfl, _, Qa q, ⟨t7, t8, t9, rfl⟩⟩
              ·refine oL 1 ?_
               ·rintro ρ' w' hs h ⟨⟨ag3, -⟩, ag4⟩
                obtain ⟨g8, g9, u0, d1⟩ := h 12 80 K
                have a3 := h 7 75 K
                refine kN [(80, (.pointer (some ⟨g8, (g9 + Int.toNat (IntKind.wrap .i64 (p - 1)) * (Qj Qx (Qj Qx (Qc .i64))).sz), none⟩))), (75, (.bool true))] ⟨d1, (Eq.trans a3 (congrArg Value.bool s)), trivial⟩ fun q => ?_
                refine Qi.run (k := 13) (v := (.pointer (some ⟨g8, (g9 + Int.toNat (IntKind.wrap .i64 (p - 1)) * (Qj Qx (Qj Qx (Qc .i64))).sz), none⟩))) K ?_
                exact ⟨rfl, _, Qa q, ⟨g8, g9, u0, rfl⟩⟩
              ·refine oL 1 ?_
               ·rintro ρ' w' hs h ⟨⟨ag5, -⟩, u1⟩
                obtain ⟨k4, k5, u2, d2⟩ := h 13 81 K
                have a3 := h 7 75 K
                refine kN [(81, (.pointer (some ⟨k4, (k5 + Int.toNat (IntKind.wrap .i64 (p - 1)) * (Qj Qx (Qj Qx (Qc .i64))).sz), none⟩))), (75, (.bool true))] ⟨d2, (Eq.trans a3 (congrArg Value.bool s)), trivial⟩ fun q => ?_
                refine sC 9 81 k4 (k5 + Int.toNat (IntKind.wrap .i64 (p - 1)) * (Qj Qx (Qj Qx (Qc .i64))).sz) (.string ⟨List.toArray a2.1⟩) 82 (Qk (e := (Qj Qx (Qj Qx (Qc .i64)))) (Qh (RdT.sp b8 u1) u2 c5 c7) e5 (j := 0) rfl) ?_
                exact eK q
              ·exact oV (hC (hS 5 (pt m 0)) (hC (hB 7 75 s) (h0))) (pt m 0)
              ·refine oL 1 ?_
               ·rintro ρ' w' hs h ⟨⟨ag6, -⟩, u3⟩
                have d3 := h 15 83 K
                have a3 := h 7 75 K
                refine kN [(83, (pt m 0)), (75, (.bool true))] ⟨d3, (Eq.trans a3 (congrArg Value.bool s)), trivial⟩ fun q => ?_
                refine sL 9 83 m 0 1 (.string ⟨List.toArray f.1⟩) 84 u3 rfl ?_
                exact eK q
              ·refine oL 1 ?_
               ·rintro ρ' w' hs h ⟨⟨ag7, -⟩, ag8⟩
                have d4 := h 14 82 K
                have d5 := h 16 84 K
                have a3 := h 7 75 K
                refine kN [(82, (.string ⟨List.toArray a2.1⟩)), (84, (.string ⟨List.toArray f.1⟩)), (75, (.bool true))] ⟨d4, d5, (Eq.trans a3 (congrArg Value.bool s)), trivial⟩ fun q => ?_
                refine V0 (op := .geq) (T := 9) (T' := 9) (x := (.tmp 82)) (y := (.tmp 84)) (a := a2.1) (b := f.1) (r := (.bool (!(Op.bytesLess a2.1 f.1)))) (d := (some 85)) (k := 17) K rfl K K rfl ?_
                exact eK q
              ·exact oV (hC (hB 7 75 s) (hC (hA 17 85) (hC (hB 4 72 a4) (h0)))) (.bool (!(Op.bytesLess a2.1 f.1)))
              ·exact oV (hC (hB 4 72 a4) (hC (hA 18 86) (h0))) (.bool (!(Op.bytesLess a2.1 f.1)))
              ·exact oV (hC (hA 19 87) (h0)) (.bool (!(Op.bytesLess a2.1 f.1)))
              ·exact oV (hC (hS 5 (pt m 0)) (hC (hB 20 88 a9) (h0))) (pt m 1)
              ·refine oL 1 ?_
               ·rintro ρ' w' hs h ⟨⟨ag9, -⟩, u4⟩
                have d7 := h 21 89 K
                have b4 := h 20 88 K
                refine kN [(89, (pt m 1)), (88, (.bool false))] ⟨d7, (Eq.trans b4 (congrArg Value.bool a9)), trivial⟩ fun q => ?_
                refine sL 9 89 m 1 1 (.string ⟨List.toArray f.2.1⟩) 90 u4 rfl ?_
                exact eK q
              ·refine oL 1 ?_
               ·rintro ρ' w' hs h ⟨⟨ah0, -⟩, ah1⟩
                have d8 := h 22 90 K
                have b4 := h 20 88 K
                refine kN [(90, (.string ⟨List.toArray f.2.1⟩)), (88, (.bool false))] ⟨d8, (Eq.trans b4 (congrArg Value.bool a9)), trivial⟩ fun q => ?_
                refine V0 (op := .eql) (T := 9) (T' := 9) (x := (.tmp 90)) (y := (.const (.string ⟨List.toArray ([] : List UInt8)⟩))) (a := f.2.1) (b := ([] : List UInt8)) (r := (.bool (f.2.1 == ([] : List UInt8)))) (d := (some 91)) (k := 23) K rfl K K rfl ?_
                exact eK q
              ·exact oV (hC (hB 20 88 a9) (hC (hA 23 91) (h0))) (.bool (f.2.1 == ([] : List UInt8)))
              ·exact oV (hC (hA 24 92) (h0)) (.bool (f.2.1 == ([] : List UInt8)))
              ·exact oV (hC (hS 5 (pt m 0)) (hC (hB 25 93 b0) (h0))) (pt m 1)
              ·refine oL 1 ?_
               ·rintro ρ' w' hs h ⟨⟨ah2, -⟩, u5⟩
                have b9 := h 26 94 K
                have c0 := h 25 93 K
                refine kN [(94, (pt m 1)), (93, (.bool false))] ⟨b9, (Eq.trans c0 (congrArg Value.bool b0)), trivial⟩ fun q => ?_
                refine sL 9 94 m 1 1 (.string ⟨List.toArray f.2.1⟩) 95 u5 rfl ?_
                exact eK q
              ·exact oV (hC (hA 27 95) (hC (hB 25 93 b0) (h0))) (.int .i64 ((List.length f.2.1 : Nat) : Int))
              ·exact oV (hC (hA 28 96) (hC (hB 25 93 b0) (h0))) (.bool (decide (((List.length f.2.1 : Nat) : Int) > 32)))
              ·exact oV (hC (hB 25 93 b0) (hC (hA 29 97) (h0))) (.bool (decide (((List.length f.2.1 : Nat) : Int) > 32)))
              ·exact oV (hC (hA 30 98) (h0)) (.bool (decide (((List.length f.2.1 : Nat) : Int) > 32)))
              ·exact oV (hC (hS 5 (pt m 0)) (hC (hB 31 99 b5) (h0))) (pt m 2)
              ·refine oL 1 ?_
               ·rintro ρ' w' hs h ⟨⟨ah3, -⟩, u6⟩
                have d9 := h 32 100 K
                have e0 := h 31 99 K
                refine kN [(100, (pt m 2)), (99, (.bool false))] ⟨d9, (Eq.trans e0 (congrArg Value.bool b5)), trivial⟩ fun q => ?_
                refine sL 2 100 m 2 1 (.int .i64 f.2.2) 101 u6 rfl ?_
                exact eK q
              ·exact oV (hC (hA 33 101) (hC (hB 31 99 b5) (h0))) (.bool (decide (f.2.2 < 0)))
              ·exact oV (hC (hB 31 99 b5) (hC (hA 34 102) (h0))) (.bool (decide (f.2.2 < 0)))
              ·exact oV (hC (hA 35 103) (h0)) (.bool (decide (f.2.2 < 0)))
              ·exact oV (hC (hS 5 (pt m 0)) (hC (hB 36 104 c1) (h0))) (pt m 2)
              ·refine oL 1 ?_
               ·rintro ρ' w' hs h ⟨⟨ah4, -⟩, u7⟩
                have h1 := h 37 105 K
                have h2 := h 36 104 K
                refine kN [(105, (pt m 2)), (104, (.bool false))] ⟨h1, (Eq.trans h2 (congrArg Value.bool c1)), trivial⟩ fun q => ?_
                refine sL 2 105 m 2 1 (.int .i64 f.2.2) 106 u7 rfl ?_
                exact eK q
              ·exact oV (hC (hA 38 106) (hC (hB 36 104 c1) (h0))) (.bool (decide (f.2.2 > 1099511627776)))
              ·exact oV (hC (hB 36 104 c1) (hC (hA 39 107) (h0))) (.bool (decide (f.2.2 > 1099511627776)))
              ·rintro ρ' w' hs hf ⟨⟨ah5, -⟩, k6⟩
               refine Q3 [(1, (pt u 0)), (4, (.int .i64 p)), (108, (.bool (decide (f.2.2 > 1099511627776))))] ⟨(hs 1 K).trans K, (hs 4 K).trans K, hf 40 108 K, trivial⟩ ?_
               obtain ⟨ah6, u8⟩ : ∃ x, w' = x := ⟨_, rfl⟩
               rw [u8] at k6 ⊢
               exact ⟨(decide (f.2.2 > 1099511627776)), ⟨K, K, K, trivial⟩, SP.sel k6 [0] rfl rfl, H⟩
         ·have H := cf H s
          rcases Bool.eq_false_or_eq_true (f.2.1 == ([] : List UInt8)) with b1 | b1
          ·have H := ct H b1
           refine aG [GEq (pt m 0), GEq (.string ⟨List.toArray f.1⟩), GEq (.bool a0), GEq (.bool (!a0)), GEq (.bool (!a0)), GEq (.int .i64 p), GEq (.bool (decide (p > 0))), GEq (.bool (decide (p > 0))), GEq undef, GEq undef, GEq undef, GEq undef, GEq undef, GEq undef, GEq undef, GEq undef, GEq undef, GEq undef, GEq (.bool false), GEq (.bool false), GEq (.bool false), GEq (pt m 1), GEq (.string ⟨List.toArray f.2.1⟩), GEq (.bool (f.2.1 == ([] : List UInt8))), GEq (.bool (f.2.1 == ([] : List UInt8))), GEq (.bool (f.2.1 == ([] : List UInt8))), GEq undef, GEq undef, GEq undef, GEq undef, GEq (.bool true), GEq (.bool true), GEq undef, GEq undef, GEq undef, GEq (.bool true), GEq (.bool true), GEq undef, GEq undef, GEq undef, GEq (.bool true)] [2] (tG [] w0 [Qn u 44 #[(.string ⟨List.toArray b2⟩), (.int .i64 a7), (.int .i64 a8), (.slice A5 (List.length a6) c6), (.slice A9 (List.length a1) a5)], Qn m 48 #[(.string ⟨List.toArray f.1⟩), (.string ⟨List.toArray f.2.1⟩), (.int .i64 f.2.2)]] [([], []), ([2], [(.bool a0)])]) 41 1 ⟨trivial, SP.drew c3⟩ ?_ ?_
           iterate 41 refine And.intro ?_ ?_
           exact trivial
           ·exact oV (hC (hS 5 (pt m 0)) (h0)) (pt m 0)
           ·refine oL 0 ?_
            ·rintro ρ' w' hs h ⟨ah7, u9⟩
             refine kM (kc (kA h 0 68) k0) fun q => ?_
             refine sL 9 68 m 0 1 (.string ⟨List.toArray f.1⟩) 69 u9 rfl ?_
             exact eK q
           ·refine oH 0 1 ?_
            ·rintro ρ' w' hs h ⟨ah8, v0⟩
             refine kM (kc (kA h 1 69) k0) fun q => ?_
             refine cF 86 #[(.tmp 69)] #[9] 70 Tryz.call86 (Vo  f.1 w'  a0 c4) ?_
             rintro e ah9 ⟨rfl, k7⟩
             refine ⟨_, rfl, ?_⟩
             have v1 := SP.call v0 k7
             clear k7
             refine ⟨_, Qa q, rfl, ?_⟩
             exact (And.intro (And.intro rfl (trivial)) (v1))
           ·exact oV (hC (hA 2 70) (h0)) (.bool (!a0))
           ·exact oV (hC (hA 3 71) (h0)) (.bool (!a0))
           ·exact oV (hC (hS 4 (.int .i64 p)) (hC (hB 4 72 a4) (h0))) (.int .i64 p)
           ·exact oV (hC (hA 5 73) (hC (hB 4 72 a4) (h0))) (.bool (decide (p > 0)))
           ·exact oV (hC (hA 6 74) (hC (hB 4 72 a4) (h0))) (.bool (decide (p > 0)))
           ·exact oW (hC (hB 7 75 s) (h0)) 76
           ·exact oW (hC (hB 7 75 s) (h0)) 77
           ·exact oW (hC (hB 7 75 s) (h0)) 78
           ·exact oW (hC (hB 7 75 s) (h0)) 79
           ·exact oW (hC (hB 7 75 s) (h0)) 80
           ·exact oW (hC (hB 7 75 s) (h0)) 81
           ·exact oW (hC (hB 7 75 s) (h0)) 82
           ·exact oW (hC (hB 7 75 s) (h0)) 83
           ·exact oW (hC (hB 7 75 s) (h0)) 84
           ·exact oW (hC (hB 7 75 s) (h0)) 85
           ·exact oV (hC (hB 7 75 s) (hC (hA 17 85) (hC (hB 4 72 a4) (h0)))) (.bool false)
           ·exact oV (hC (hB 4 72 a4) (hC (hA 18 86) (h0))) (.bool false)
           ·exact oV (hC (hA 19 87) (h0)) (.bool false)
           ·exact oV (hC (hS 5 (pt m 0)) (hC (hA 20 88) (h0))) (pt m 1)
           ·refine oL 1 ?_
            ·rintro ρ' w' hs h ⟨⟨ai0, -⟩, v2⟩
             refine kM (kc (kA h 21 89) (kc (kA h 20 88) k0)) fun q => ?_
             refine sL 9 89 m 1 1 (.string ⟨List.toArray f.2.1⟩) 90 v2 rfl ?_
             exact eK q
           ·refine oL 1 ?_
            ·rintro ρ' w' hs h ⟨⟨ai1, -⟩, ai2⟩
             refine kM (kc (kA h 22 90) (kc (kA h 20 88) k0)) fun q => ?_
             refine V0 (op := .eql) (T := 9) (T' := 9) (x := (.tmp 90)) (y := (.const (.string ⟨List.toArray ([] : List UInt8)⟩))) (a := f.2.1) (b := ([] : List UInt8)) (r := (.bool (f.2.1 == ([] : List UInt8)))) (d := (some 91)) (k := 23) K rfl K K rfl ?_
             exact eK q
           ·exact oV (hC (hA 20 88) (hC (hA 23 91) (h0))) (.bool (f.2.1 == ([] : List UInt8)))
           ·exact oV (hC (hA 24 92) (h0)) (.bool (f.2.1 == ([] : List UInt8)))
           ·exact oW (hC (hB 25 93 b1) (h0)) 94
           ·exact oW (hC (hB 25 93 b1) (h0)) 95
           ·exact oW (hC (hB 25 93 b1) (h0)) 96
           ·exact oW (hC (hB 25 93 b1) (h0)) 97
           ·exact oV (hC (hB 25 93 b1) (hC (hA 29 97) (h0))) (.bool true)
           ·exact oV (hC (hA 30 98) (h0)) (.bool true)
           ·exact oW (hC (hA 31 99) (h0)) 100
           ·exact oW (hC (hA 31 99) (h0)) 101
           ·exact oW (hC (hA 31 99) (h0)) 102
           ·exact oV (hC (hA 31 99) (hC (hA 34 102) (h0))) (.bool true)
           ·exact oV (hC (hA 35 103) (h0)) (.bool true)
           ·exact oW (hC (hA 36 104) (h0)) 105
           ·exact oW (hC (hA 36 104) (h0)) 106
           ·exact oW (hC (hA 36 104) (h0)) 107
           ·exact oV (hC (hA 36 104) (hC (hA 39 107) (h0))) (.bool true)
           ·rintro ρ' w' hs hf ⟨⟨ai3, -⟩, k8⟩
            refine Q3 [(1, (pt u 0)), (4, (.int .i64 p)), (108, (.bool true))] ⟨(hs 1 K).trans K, (hs 4 K).trans K, hf 40 108 K, trivial⟩ ?_
            obtain ⟨ai4, v3⟩ : ∃ x, w' = x := ⟨_, rfl⟩
            rw [v3] at k8 ⊢
            exact ⟨true, ⟨K, K, K, trivial⟩, SP.sel k8 [0] rfl rfl, H⟩
          ·have H := cf H b1
           rcases Bool.eq_false_or_eq_true (decide (((List.length f.2.1 : Nat) : Int) > 32)) with b6 | b6
           ·have H := ct H b6
            refine aG [GEq (pt m 0), GEq (.string ⟨List.toArray f.1⟩), GEq (.bool a0), GEq (.bool (!a0)), GEq (.bool (!a0)), GEq (.int .i64 p), GEq (.bool (decide (p > 0))), GEq (.bool (decide (p > 0))), GEq undef, GEq undef, GEq undef, GEq undef, GEq undef, GEq undef, GEq undef, GEq undef, GEq undef, GEq undef, GEq (.bool false), GEq (.bool false), GEq (.bool false), GEq (pt m 1), GEq (.string ⟨List.toArray f.2.1⟩), GEq (.bool (f.2.1 == ([] : List UInt8))), GEq (.bool (f.2.1 == ([] : List UInt8))), GEq (.bool (f.2.1 == ([] : List UInt8))), GEq (pt m 1), GEq (.string ⟨List.toArray f.2.1⟩), GEq (.int .i64 ((List.length f.2.1 : Nat) : Int)), GEq (.bool (decide (((List.length f.2.1 : Nat) : Int) > 32))), GEq (.bool (decide (((List.length f.2.1 : Nat) : Int) > 32))), GEq (.bool (decide (((List.length f.2.1 : Nat) : Int) > 32))), GEq undef, GEq undef, GEq undef, GEq (.bool true), GEq (.bool true), GEq undef, GEq undef, GEq undef, GEq (.bool true)] [2] (tG [] w0 [Qn u 44 #[(.string ⟨List.toArray b2⟩), (.int .i64 a7), (.int .i64 a8), (.slice A5 (List.length a6) c6), (.slice A9 (List.length a1) a5)], Qn m 48 #[(.string ⟨List.toArray f.1⟩), (.string ⟨List.toArray f.2.1⟩), (.int .i64 f.2.2)]] [([], []), ([2], [(.bool a0)])]) 41 1 ⟨trivial, SP.drew c3⟩ ?_ ?_
            iterate 41 refine And.intro ?_ ?_
            exact trivial
            ·exact oV (hC (hS 5 (pt m 0)) (h0)) (pt m 0)
            ·refine oL 0 ?_
             ·rintro ρ' w' hs h ⟨ai5, v4⟩
              refine kM (kc (kA h 0 68) k0) fun q => ?_
              refine sL 9 68 m 0 1 (.string ⟨List.toArray f.1⟩) 69 v4 rfl ?_
              exact eK q
            ·refine oH 0 1 ?_
             ·rintro ρ' w' hs h ⟨ai6, v5⟩
              refine kM (kc (kA h 1 69) k0) fun q => ?_
              refine cF 86 #[(.tmp 69)] #[9] 70 Tryz.call86 (Vo  f.1 w'  a0 c4) ?_
              rintro e ai7 ⟨rfl, k9⟩
              refine ⟨_, rfl, ?_⟩
              have v6 := SP.call v5 k9
              clear k9
              refine ⟨_, Qa q, rfl, ?_⟩
              exact (And.intro (And.intro rfl (trivial)) (v6))
            ·exact oV (hC (hA 2 70) (h0)) (.bool (!a0))
            ·exact oV (hC (hA 3 71) (h0)) (.bool (!a0))
            ·exact oV (hC (hS 4 (.int .i64 p)) (hC (hB 4 72 a4) (h0))) (.int .i64 p)
            ·exact oV (hC (hA 5 73) (hC (hB 4 72 a4) (h0))) (.bool (decide (p > 0)))
            ·exact oV (hC (hA 6 74) (hC (hB 4 72 a4) (h0))) (.bool (decide (p > 0)))
            ·exact oW (hC (hB 7 75 s) (h0)) 76
            ·exact oW (hC (hB 7 75 s) (h0)) 77
            ·exact oW (hC (hB 7 75 s) (h0)) 78
            ·exact oW (hC (hB 7 75 s) (h0)) 79
            ·exact oW (hC (hB 7 75 s) (h0)) 80
            ·exact oW (hC (hB 7 75 s) (h0)) 81
            ·exact oW (hC (hB 7 75 s) (h0)) 82
            ·exact oW (hC (hB 7 75 s) (h0)) 83
            ·exact oW (hC (hB 7 75 s) (h0)) 84
            ·exact oW (hC (hB 7 75 s) (h0)) 85
            ·exact oV (hC (hB 7 75 s) (hC (hA 17 85) (hC (hB 4 72 a4) (h0)))) (.bool false)
            ·exact oV (hC (hB 4 72 a4) (hC (hA 18 86) (h0))) (.bool false)
            ·exact oV (hC (hA 19 87) (h0)) (.bool false)
            ·exact oV (hC (hS 5 (pt m 0)) (hC (hA 20 88) (h0))) (pt m 1)
            ·refine oL 1 ?_
             ·rintro ρ' w' hs h ⟨⟨ai8, -⟩, v7⟩
              refine kM (kc (kA h 21 89) (kc (kA h 20 88) k0)) fun q => ?_
              refine sL 9 89 m 1 1 (.string ⟨List.toArray f.2.1⟩) 90 v7 rfl ?_
              exact eK q
            ·refine oL 1 ?_
             ·rintro ρ' w' hs h ⟨⟨ai9, -⟩, aj0⟩
              refine kM (kc (kA h 22 90) (kc (kA h 20 88) k0)) fun q => ?_
              refine V0 (op := .eql) (T := 9) (T' := 9) (x := (.tmp 90)) (y := (.const (.string ⟨List.toArray ([] : List UInt8)⟩))) (a := f.2.1) (b := ([] : List UInt8)) (r := (.bool (f.2.1 == ([] : List UInt8)))) (d := (some 91)) (k := 23) K rfl K K rfl ?_
              exact eK q
            ·exact oV (hC (hA 20 88) (hC (hA 23 91) (h0))) (.bool (f.2.1 == ([] : List UInt8)))
            ·exact oV (hC (hA 24 92) (h0)) (.bool (f.2.1 == ([] : List UInt8)))
            ·exact oV (hC (hS 5 (pt m 0)) (hC (hB 25 93 b1) (h0))) (pt m 1)
            ·refine oL 1 ?_
             ·rintro ρ' w' hs h ⟨⟨aj1, -⟩, v8⟩
              have b9 := h 26 94 K
              have c0 := h 25 93 K
              refine kN [(94, (pt m 1)), (93, (.bool false))] ⟨b9, (Eq.trans c0 (congrArg Value.bool b1)), trivial⟩ fun q => ?_
              refine sL 9 94 m 1 1 (.string ⟨List.toArray f.2.1⟩) 95 v8 rfl ?_
              exact eK q
            ·exact oV (hC (hA 27 95) (hC (hB 25 93 b1) (h0))) (.int .i64 ((List.length f.2.1 : Nat) : Int))
            ·exact oV (hC (hA 28 96) (hC (hB 25 93 b1) (h0))) (.bool (decide (((List.length f.2.1 : Nat) : Int) > 32)))
            ·exact oV (hC (hB 25 93 b1) (hC (hA 29 97) (h0))) (.bool (decide (((List.length f.2.1 : Nat) : Int) > 32)))
            ·exact oV (hC (hA 30 98) (h0)) (.bool (decide (((List.length f.2.1 : Nat) : Int) > 32)))
            ·exact oW (hC (hB 31 99 b6) (h0)) 100
            ·exact oW (hC (hB 31 99 b6) (h0)) 101
            ·exact oW (hC (hB 31 99 b6) (h0)) 102
            ·exact oV (hC (hB 31 99 b6) (hC (hA 34 102) (h0))) (.bool true)
            ·exact oV (hC (hA 35 103) (h0)) (.bool true)
            ·exact oW (hC (hA 36 104) (h0)) 105
            ·exact oW (hC (hA 36 104) (h0)) 106
            ·exact oW (hC (hA 36 104) (h0)) 107
            ·exact oV (hC (hA 36 104) (hC (hA 39 107) (h0))) (.bool true)
            ·rintro ρ' w' hs hf ⟨⟨aj2, -⟩, l0⟩
             refine Q3 [(1, (pt u 0)), (4, (.int .i64 p)), (108, (.bool true))] ⟨(hs 1 K).trans K, (hs 4 K).trans K, hf 40 108 K, trivial⟩ ?_
             obtain ⟨aj3, v9⟩ : ∃ x, w' = x := ⟨_, rfl⟩
             rw [v9] at l0 ⊢
             exact ⟨true, ⟨K, K, K, trivial⟩, SP.sel l0 [0] rfl rfl, H⟩
           ·have H := cf H b6
            rcases Bool.eq_false_or_eq_true (decide (f.2.2 < 0)) with c2 | c2
            ·have H := ct H c2
             refine aG [GEq (pt m 0), GEq (.string ⟨List.toArray f.1⟩), GEq (.bool a0), GEq (.bool (!a0)), GEq (.bool (!a0)), GEq (.int .i64 p), GEq (.bool (decide (p > 0))), GEq (.bool (decide (p > 0))), GEq undef, GEq undef, GEq undef, GEq undef, GEq undef, GEq undef, GEq undef, GEq undef, GEq undef, GEq undef, GEq (.bool false), GEq (.bool false), GEq (.bool false), GEq (pt m 1), GEq (.string ⟨List.toArray f.2.1⟩), GEq (.bool (f.2.1 == ([] : List UInt8))), GEq (.bool (f.2.1 == ([] : List UInt8))), GEq (.bool (f.2.1 == ([] : List UInt8))), GEq (pt m 1), GEq (.string ⟨List.toArray f.2.1⟩), GEq (.int .i64 ((List.length f.2.1 : Nat) : Int)), GEq (.bool (decide (((List.length f.2.1 : Nat) : Int) > 32))), GEq (.bool (decide (((List.length f.2.1 : Nat) : Int) > 32))), GEq (.bool (decide (((List.length f.2.1 : Nat) : Int) > 32))), GEq (pt m 2), GEq (.int .i64 f.2.2), GEq (.bool (decide (f.2.2 < 0))), GEq (.bool (decide (f.2.2 < 0))), GEq (.bool (decide (f.2.2 < 0))), GEq undef, GEq undef, GEq undef, GEq (.bool true)] [2] (tG [] w0 [Qn u 44 #[(.string ⟨List.toArray b2⟩), (.int .i64 a7), (.int .i64 a8), (.slice A5 (List.length a6) c6), (.slice A9 (List.length a1) a5)], Qn m 48 #[(.string ⟨List.toArray f.1⟩), (.string ⟨List.toArray f.2.1⟩), (.int .i64 f.2.2)]] [([], []), ([2], [(.bool a0)])]) 41 1 ⟨trivial, SP.drew c3⟩ ?_ ?_
             iterate 41 refine And.intro ?_ ?_
             exact trivial
             ·exact oV (hC (hS 5 (pt m 0)) (h0)) (pt m 0)
             ·refine oL 0 ?_
              ·rintro ρ' w' hs h ⟨aj4, w1⟩
               refine kM (kc (kA h 0 68) k0) fun q => ?_
               refine sL 9 68 m 0 1 (.string ⟨List.toArray f.1⟩) 69 w1 rfl ?_
               exact eK q
             ·refine oH 0 1 ?_
              ·rintro ρ' w' hs h ⟨aj5, w2⟩
               refine kM (kc (kA h 1 69) k0) fun q => ?_
               refine cF 86 #[(.tmp 69)] #[9] 70 Tryz.call86 (Vo  f.1 w'  a0 c4) ?_
               rintro e aj6 ⟨rfl, l1⟩
               refine ⟨_, rfl, ?_⟩
               have w3 := SP.call w2 l1
               clear l1
               refine ⟨_, Qa q, rfl, ?_⟩
               exact (And.intro (And.intro rfl (trivial)) (w3))
             ·exact oV (hC (hA 2 70) (h0)) (.bool (!a0))
             ·exact oV (hC (hA 3 71) (h0)) (.bool (!a0))
             ·exact oV (hC (hS 4 (.int .i64 p)) (hC (hB 4 72 a4) (h0))) (.int .i64 p)
             ·exact oV (hC (hA 5 73) (hC (hB 4 72 a4) (h0))) (.bool (decide (p > 0)))
             ·exact oV (hC (hA 6 74) (hC (hB 4 72 a4) (h0))) (.bool (decide (p > 0)))
             ·exact oW (hC (hB 7 75 s) (h0)) 76
             ·exact oW (hC (hB 7 75 s) (h0)) 77
             ·exact oW (hC (hB 7 75 s) (h0)) 78
             ·exact oW (hC (hB 7 75 s) (h0)) 79
             ·exact oW (hC (hB 7 75 s) (h0)) 80
             ·exact oW (hC (hB 7 75 s) (h0)) 81
             ·exact oW (hC (hB 7 75 s) (h0)) 82
             ·exact oW (hC (hB 7 75 s) (h0)) 83
             ·exact oW (hC (hB 7 75 s) (h0)) 84
             ·exact oW (hC (hB 7 75 s) (h0)) 85
             ·exact oV (hC (hB 7 75 s) (hC (hA 17 85) (hC (hB 4 72 a4) (h0)))) (.bool false)
             ·exact oV (hC (hB 4 72 a4) (hC (hA 18 86) (h0))) (.bool false)
             ·exact oV (hC (hA 19 87) (h0)) (.bool false)
             ·exact oV (hC (hS 5 (pt m 0)) (hC (hA 20 88) (h0))) (pt m 1)
             ·refine oL 1 ?_
              ·rintro ρ' w' hs h ⟨⟨aj7, -⟩, w4⟩
               refine kM (kc (kA h 21 89) (kc (kA h 20 88) k0)) fun q => ?_
               refine sL 9 89 m 1 1 (.string ⟨List.toArray f.2.1⟩) 90 w4 rfl ?_
               exact eK q
             ·refine oL 1 ?_
              ·rintro ρ' w' hs h ⟨⟨aj8, -⟩, aj9⟩
               refine kM (kc (kA h 22 90) (kc (kA h 20 88) k0)) fun q => ?_
               refine V0 (op := .eql) (T := 9) (T' := 9) (x := (.tmp 90)) (y := (.const (.string ⟨List.toArray ([] : List UInt8)⟩))) (a := f.2.1) (b := ([] : List UInt8)) (r := (.bool (f.2.1 == ([] : List UInt8)))) (d := (some 91)) (k := 23) K rfl K K rfl ?_
               exact eK q
             ·exact oV (hC (hA 20 88) (hC (hA 23 91) (h0))) (.bool (f.2.1 == ([] : List UInt8)))
             ·exact oV (hC (hA 24 92) (h0)) (.bool (f.2.1 == ([] : List UInt8)))
             ·exact oV (hC (hS 5 (pt m 0)) (hC (hB 25 93 b1) (h0))) (pt m 1)
             ·refine oL 1 ?_
              ·rintro ρ' w' hs h ⟨⟨ak0, -⟩, w5⟩
               have b9 := h 26 94 K
               have c0 := h 25 93 K
               refine kN [(94, (pt m 1)), (93, (.bool false))] ⟨b9, (Eq.trans c0 (congrArg Value.bool b1)), trivial⟩ fun q => ?_
               refine sL 9 94 m 1 1 (.string ⟨List.toArray f.2.1⟩) 95 w5 rfl ?_
               exact eK q
             ·exact oV (hC (hA 27 95) (hC (hB 25 93 b1) (h0))) (.int .i64 ((List.length f.2.1 : Nat) : Int))
             ·exact oV (hC (hA 28 96) (hC (hB 25 93 b1) (h0))) (.bool (decide (((List.length f.2.1 : Nat) : Int) > 32)))
             ·exact oV (hC (hB 25 93 b1) (hC (hA 29 97) (h0))) (.bool (decide (((List.length f.2.1 : Nat) : Int) > 32)))
             ·exact oV (hC (hA 30 98) (h0)) (.bool (decide (((List.length f.2.1 : Nat) : Int) > 32)))
             ·exact oV (hC (hS 5 (pt m 0)) (hC (hB 31 99 b6) (h0))) (pt m 2)
             ·refine oL 1 ?_
              ·rintro ρ' w' hs h ⟨⟨ak1, -⟩, w6⟩
               have d9 := h 32 100 K
               have e0 := h 31 99 K
               refine kN [(100, (pt m 2)), (99, (.bool false))] ⟨d9, (Eq.trans e0 (congrArg Value.bool b6)), trivial⟩ fun q => ?_
               refine sL 2 100 m 2 1 (.int .i64 f.2.2) 101 w6 rfl ?_
               exact eK q
             ·exact oV (hC (hA 33 101) (hC (hB 31 99 b6) (h0))) (.bool (decide (f.2.2 < 0)))
             ·exact oV (hC (hB 31 99 b6) (hC (hA 34 102) (h0))) (.bool (decide (f.2.2 < 0)))
             ·exact oV (hC (hA 35 103) (h0)) (.bool (decide (f.2.2 < 0)))
             ·exact oW (hC (hB 36 104 c2) (h0)) 105
             ·exact oW (hC (hB 36 104 c2) (h0)) 106
             ·exact oW (hC (hB 36 104 c2) (h0)) 107
             ·exact oV (hC (hB 36 104 c2) (hC (hA 39 107) (h0))) (.bool true)
             ·rintro ρ' w' hs hf ⟨⟨ak2, -⟩, l2⟩
              refine Q3 [(1, (pt u 0)), (4, (.int .i64 p)), (108, (.bool true))] ⟨(hs 1 K).trans K, (hs 4 K).trans K, hf 40 108 K, trivial⟩ ?_
              obtain ⟨ak3, w7⟩ : ∃ x, w' = x := ⟨_, rfl⟩
              rw [w7] at l2 ⊢
              exact ⟨true, ⟨K, K, K, trivial⟩, SP.sel l2 [0] rfl rfl, H⟩
            ·have H := cf H c2
             refine aG [GEq (pt m 0), GEq (.string ⟨List.toArray f.1⟩), GEq (.bool a0), GEq (.bool (!a0)), GEq (.bool (!a0)), GEq (.int .i64 p), GEq (.bool (decide (p > 0))), GEq (.bool (decide (p > 0))), GEq undef, GEq undef, GEq undef, GEq undef, GEq undef, GEq undef, GEq undef, GEq undef, GEq undef, GEq undef, GEq (.bool false), GEq (.bool false), GEq (.bool false), GEq (pt m 1), GEq (.string ⟨List.toArray f.2.1⟩), GEq (.bool (f.2.1 == ([] : List UInt8))), GEq (.bool (f.2.1 == ([] : List UInt8))), GEq (.bool (f.2.1 == ([] : List UInt8))), GEq (pt m 1), GEq (.string ⟨List.toArray f.2.1⟩), GEq (.int .i64 ((List.length f.2.1 : Nat) : Int)), GEq (.bool (decide (((List.length f.2.1 : Nat) : Int) > 32))), GEq (.bool (decide (((List.length f.2.1 : Nat) : Int) > 32))), GEq (.bool (decide (((List.length f.2.1 : Nat) : Int) > 32))), GEq (pt m 2), GEq (.int .i64 f.2.2), GEq (.bool (decide (f.2.2 < 0))), GEq (.bool (decide (f.2.2 < 0))), GEq (.bool (decide (f.2.2 < 0))), GEq (pt m 2), GEq (.int .i64 f.2.2), GEq (.bool (decide (f.2.2 > 1099511627776))), GEq (.bool (decide (f.2.2 > 1099511627776)))] [2] (tG [] w0 [Qn u 44 #[(.string ⟨List.toArray b2⟩), (.int .i64 a7), (.int .i64 a8), (.slice A5 (List.length a6) c6), (.slice A9 (List.length a1) a5)], Qn m 48 #[(.string ⟨List.toArray f.1⟩), (.string ⟨List.toArray f.2.1⟩), (.int .i64 f.2.2)]] [([], []), ([2], [(.bool a0)])]) 41 1 ⟨trivial, SP.drew c3⟩ ?_ ?_
             iterate 41 refine And.intro ?_ ?_
             exact trivial
             ·exact oV (hC (hS 5 (pt m 0)) (h0)) (pt m 0)
             ·refine oL 0 ?_
              ·rintro ρ' w' hs h ⟨ak4, w8⟩
               refine kM (kc (kA h 0 68) k0) fun q => ?_
               refine sL 9 68 m 0 1 (.string ⟨List.toArray f.1⟩) 69 w8 rfl ?_
               exact eK q
             ·refine oH 0 1 ?_
              ·rintro ρ' w' hs h ⟨ak5, w9⟩
               refine kM (kc (kA h 1 69) k0) fun q => ?_
               refine cF 86 #[(.tmp 69)] #[9] 70 Tryz.call86 (Vo  f.1 w'  a0 c4) ?_
               rintro e ak6 ⟨rfl, l3⟩
               refine ⟨_, rfl, ?_⟩
               have x0 := SP.call w9 l3
               clear l3
               refine ⟨_, Qa q, rfl, ?_⟩
               exact (And.intro (And.intro rfl (trivial)) (x0))
             ·exact oV (hC (hA 2 70) (h0)) (.bool (!a0))
             ·exact oV (hC (hA 3 71) (h0)) (.bool (!a0))
             ·exact oV (hC (hS 4 (.int .i64 p)) (hC (hB 4 72 a4) (h0))) (.int .i64 p)
             ·exact oV (hC (hA 5 73) (hC (hB 4 72 a4) (h0))) (.bool (decide (p > 0)))
             ·exact oV (hC (hA 6 74) (hC (hB 4 72 a4) (h0))) (.bool (decide (p > 0)))
             ·exact oW (hC (hB 7 75 s) (h0)) 76
             ·exact oW (hC (hB 7 75 s) (h0)) 77
             ·exact oW (hC (hB 7 75 s) (h0)) 78
             ·exact oW (hC (hB 7 75 s) (h0)) 79
             ·exact oW (hC (hB 7 75 s) (h0)) 80
             ·exact oW (hC (hB 7 75 s) (h0)) 81
             ·exact oW (hC (hB 7 75 s) (h0)) 82
             ·exact oW (hC (hB 7 75 s) (h0)) 83
             ·exact oW (hC (hB 7 75 s) (h0)) 84
             ·exact oW (hC (hB 7 75 s) (h0)) 85
             ·exact oV (hC (hB 7 75 s) (hC (hA 17 85) (hC (hB 4 72 a4) (h0)))) (.bool false)
             ·exact oV (hC (hB 4 72 a4) (hC (hA 18 86) (h0))) (.bool false)
             ·exact oV (hC (hA 19 87) (h0)) (.bool false)
             ·exact oV (hC (hS 5 (pt m 0)) (hC (hA 20 88) (h0))) (pt m 1)
             ·refine oL 1 ?_
              ·rintro ρ' w' hs h ⟨⟨ak7, -⟩, x1⟩
               refine kM (kc (kA h 21 89) (kc (kA h 20 88) k0)) fun q => ?_
               refine sL 9 89 m 1 1 (.string ⟨List.toArray f.2.1⟩) 90 x1 rfl ?_
               exact eK q
             ·refine oL 1 ?_
              ·rintro ρ' w' hs h ⟨⟨ak8, -⟩, ak9⟩
               refine kM (kc (kA h 22 90) (kc (kA h 20 88) k0)) fun q => ?_
               refine V0 (op := .eql) (T := 9) (T' := 9) (x := (.tmp 90)) (y := (.const (.string ⟨List.toArray ([] : List UInt8)⟩))) (a := f.2.1) (b := ([] : List UInt8)) (r := (.bool (f.2.1 == ([] : List UInt8)))) (d := (some 91)) (k := 23) K rfl K K rfl ?_
               exact eK q
             ·exact oV (hC (hA 20 88) (hC (hA 23 91) (h0))) (.bool (f.2.1 == ([] : List UInt8)))
             ·exact oV (hC (hA 24 92) (h0)) (.bool (f.2.1 == ([] : List UInt8)))
             ·exact oV (hC (hS 5 (pt m 0)) (hC (hB 25 93 b1) (h0))) (pt m 1)
             ·refine oL 1 ?_
              ·rintro ρ' w' hs h ⟨⟨al0, -⟩, x2⟩
               have b9 := h 26 94 K
               have c0 := h 25 93 K
               refine kN [(94, (pt m 1)), (93, (.bool false))] ⟨b9, (Eq.trans c0 (congrArg Value.bool b1)), trivial⟩ fun q => ?_
               refine sL 9 94 m 1 1 (.string ⟨List.toArray f.2.1⟩) 95 x2 rfl ?_
               exact eK q
             ·exact oV (hC (hA 27 95) (hC (hB 25 93 b1) (h0))) (.int .i64 ((List.length f.2.1 : Nat) : Int))
             ·exact oV (hC (hA 28 96) (hC (hB 25 93 b1) (h0))) (.bool (decide (((List.length f.2.1 : Nat) : Int) > 32)))
             ·exact oV (hC (hB 25 93 b1) (hC (hA 29 97) (h0))) (.bool (decide (((List.length f.2.1 : Nat) : Int) > 32)))
             ·exact oV (hC (hA 30 98) (h0)) (.bool (decide (((List.length f.2.1 : Nat) : Int) > 32)))
             ·exact oV (hC (hS 5 (pt m 0)) (hC (hB 31 99 b6) (h0))) (pt m 2)
             ·refine oL 1 ?_
              ·rintro ρ' w' hs h ⟨⟨al1, -⟩, x3⟩
               have d9 := h 32 100 K
               have e0 := h 31 99 K
               refine kN [(100, (pt m 2)), (99, (.bool false))] ⟨d9, (Eq.trans e0 (congrArg Value.bool b6)), trivial⟩ fun q => ?_
               refine sL 2 100 m 2 1 (.int .i64 f.2.2) 101 x3 rfl ?_
               exact eK q
             ·exact oV (hC (hA 33 101) (hC (hB 31 99 b6) (h0))) (.bool (decide (f.2.2 < 0)))
             ·exact oV (hC (hB 31 99 b6) (hC (hA 34 102) (h0))) (.bool (decide (f.2.2 < 0)))
             ·exact oV (hC (hA 35 103) (h0)) (.bool (decide (f.2.2 < 0)))
             ·exact oV (hC (hS 5 (pt m 0)) (hC (hB 36 104 c2) (h0))) (pt m 2)
             ·refine oL 1 ?_
              ·rintro ρ' w' hs h ⟨⟨al2, -⟩, x4⟩
               have h1 := h 37 105 K
               have h2 := h 36 104 K
               refine kN [(105, (pt m 2)), (104, (.bool false))] ⟨h1, (Eq.trans h2 (congrArg Value.bool c2)), trivial⟩ fun q => ?_
               refine sL 2 105 m 2 1 (.int .i64 f.2.2) 106 x4 rfl ?_
               exact eK q
             ·exact oV (hC (hA 38 106) (hC (hB 36 104 c2) (h0))) (.bool (decide (f.2.2 > 1099511627776)))
             ·exact oV (hC (hB 36 104 c2) (hC (hA 39 107) (h0))) (.bool (decide (f.2.2 > 1099511627776)))
             ·rintro ρ' w' hs hf ⟨⟨al3, -⟩, l4⟩
              refine Q3 [(1, (pt u 0)), (4, (.int .i64 p)), (108, (.bool (decide (f.2.2 > 1099511627776))))] ⟨(hs 1 K).trans K, (hs 4 K).trans K, hf 40 108 K, trivial⟩ ?_
              obtain ⟨al4, x5⟩ : ∃ x, w' = x := ⟨_, rfl⟩
              rw [x5] at l4 ⊢
              exact ⟨(decide (f.2.2 > 1099511627776)), ⟨K, K, K, trivial⟩, SP.sel l4 [0] rfl rfl, H⟩
       ·rintro ρ al5 ⟨e4, hk, l5, H⟩
        unfold Qz at H
        first | refine At.known [(1, (pt u 0)), (4, (.int .i64 p)), (108, (.bool e4))] hk ?_ | rw [← Qv (l := [(1, (pt u 0)), (4, (.int .i64 p)), (108, (.bool e4))]) hk]
        refine V1 K (o := (.tmp 108)) K (b := e4) K (fun h3 => ?_) (fun h3 => ?_)
        ·have H := ct H h3
         refine aQ ?_
         refine aR ?_
         refine iR 1 1 [(2, (.bool false))] ?_
         refine iF ?_
         refine At.ret K ?_
         refine ⟨(.bool false), K, ?_⟩
         obtain rfl := Qe H
         exact ⟨rfl, SP.sel l5 [] rfl rfl⟩
        ·have H := cf H h3
         refine At.skip K ?_
         refine aR ?_
         refine iR 3 3 [(61, (.int .i64 p)), (62, (.int .i64 (IntKind.wrap .i64 (p + 1)))), (4, (.int .i64 (IntKind.wrap .i64 (p + 1))))] ?_
         refine iF ?_
         exact ⟨(IntKind.wrap .i64 (p + 1)), ⟨K, K, trivial⟩, SP.sel l5 [0] rfl rfl, H⟩
      ·have H := cf H f9
       refine At.exit K (id := 2) K ?_
       refine aQ ?_
       refine aR ?_
       refine iR 1 1 [(2, (.bool true))] ?_
       refine iF ?_
       refine At.ret K ?_
       refine ⟨(.bool true), K, ?_⟩
       obtain rfl := Qe H
       exact ⟨rfl, SP.sel e3 [] rfl rfl⟩
     ·exact ⟨0, ⟨K, K, trivial⟩, SP.sel e2 [0] rfl rfl, H⟩
   ·exact ⟨0, ⟨K, K, trivial⟩, SP.sel h7 [0] rfl rfl, H⟩
def Jv (v3 : Bool) : Option (Bool) :=
  (some (v3))
def Yj (p1 : Int) : Option (Bool) :=
  (cond (decide (p1 ≥ 1)) (Jv (decide (p1 ≤ 1073741824))) (Jv false))
theorem Ui  (p1 : Int) (w0 : World)  (r : (Bool)) (H : Yj p1 = some r) :
  Calls Tryz.prog 66 #[(.int .i64 p1)] w0 (fun e w' => e = .returned (.bool r) ∧ SP [] w0 w' []) := by
 unfold Yj at H
 refine Qs (n := 9) Tryz.func66 K K K ?_
 have c := Q0 [] w0
 refine aQ ?_
 refine aR ?_
 refine iR 1 1 [(2, (.bool false))] ?_
 refine iF ?_
 refine aQ ?_
 refine At.join (fun ρ w => ∃ (v3 : Bool), V6 ρ [(2, (.bool v3))] ∧ SP [] w0 w [] ∧ Jv v3 = some r) ?_ ?_
 ·refine aR ?_
  refine iR 3 3 [(3, (.int .i64 p1)), (4, (.bool (decide (p1 ≥ 1)))), (5, (.bool (decide (p1 ≥ 1))))] ?_
  refine In.guard (t := 5) (b := (decide (p1 ≥ 1))) K (fun a => ?_) (fun a => ?_)
  ·have H := ct H a
   refine iR 4 7 [(6, (.int .i64 p1)), (7, (.bool (decide (p1 ≤ 1073741824)))), (8, (.bool (decide (p1 ≤ 1073741824)))), (2, (.bool (decide (p1 ≤ 1073741824))))] ?_
   refine iF ?_
   exact ⟨(decide (p1 ≤ 1073741824)), ⟨K, trivial⟩, SP.sel c [] rfl rfl, H⟩
  ·have H := cf H a
   refine iR 4 7 [(6, undef), (7, undef), (8, (.bool false)), (2, (.bool false))] ?_
   refine iF ?_
   exact ⟨false, ⟨K, trivial⟩, SP.sel c [] rfl rfl, H⟩
 ·rintro ρ w4 ⟨v3, hk, d, H⟩
  unfold Jv at H
  first | refine At.known [(2, (.bool v3))] hk ?_ | rw [← Qv (l := [(2, (.bool v3))]) hk]
  refine At.ret K ?_
  refine ⟨(.bool v3), K, ?_⟩
  obtain rfl := Qe H
  exact ⟨rfl, SP.sel d [] rfl rfl⟩
def Yl (a : Int → Option (Bool)) (b : Int) (c : Bool) : Option (Bool) :=
  (cond c (some (false)) (a (IntKind.wrap .i64 (b + 1))))
def Zz (b : Int → Option (Bool)) (a : Bool) : Option (Bool) :=
  (some (a))
def Xk (a : Int → Option (Bool)) (e : Int) (f : Int) (g : Int) (h : Int) (c : (List Qg)) (b : Int) : Option (Bool) :=
  (cond (decide (b < ((List.length c : Nat) : Int))) ((idx c b).bind fun d => ((Yp d.1 d.2.1 d.2.2.1 d.2.2.2.1 d.2.2.2.2).bind fun i => (cond (!i) (Yl a b true) (cond (decide (b > 0)) ((idx c (IntKind.wrap .i64 (b - 1))).bind fun j => ((idx c b).bind fun k => (Yl a b (!(Op.bytesLess j.1 k.1))))) (Yl a b false))))) ((Yj e).bind fun l => (cond l ((Yj f).bind fun m => (cond m ((Yj g).bind fun n => (cond n ((Yj h).bind fun o => (cond o (Zz a (decide (((List.length c : Nat) : Int) ≤ 8))) (Zz a false))) (Zz a false))) (Zz a false))) (Zz a false))))
def Zr (a : Int) (b : Int) (c : Int) (d : Int) (e : (List Qg)) : Nat → Int → Option (Bool)
  | 0, _ => none
  | f + 1, g => Xk  (Zr a b c d e f) a b c d e g
def Ur (a : Int) (b : Int) (c : Int) (d : Int) (e : (List Qg)) : Option (Bool) :=
  (Zr a b c d e Zj 0)
theorem Bz (A6 : Option Addr) (c7 : Nat) (a0 : Int) (a1 : Int) (a2 : Int) (a3 : Int) (d9 : (List Va)) (w0 : World) (z : (dDS Js Ce).ok w0 (A6, c7, d9)) (r : (Bool)) (H : Ur a0 a1 a2 a3 (List.map stT d9) = some r) :
  Calls Tryz.prog 44 #[(.agg #[(.int .i64 a0), (.int .i64 a1), (.int .i64 a2), (.int .i64 a3), (.slice A6 (List.length (List.map stT d9)) c7)])] w0 (fun e w' => e = .returned (.bool r) ∧ SP [] w0 w' []) := by
 unfold Ur at H
 refine Qs (n := 62) Tryz.func44 K K K ?_
 have f7 := Q0 [] w0
 refine aQ ?_
 refine aR ?_
 refine iS 1 ?_
 refine Vn (t := 24) (x := (.tmp 0)) (v := (.agg #[(.int .i64 a0), (.int .i64 a1), (.int .i64 a2), (.int .i64 a3), (.slice A6 (List.length (List.map stT d9)) c7)])) (d := (some 1)) (k := 0) K rfl K f7 ?_
 intro i n3 f8
 refine iR 1 2 [(2, (.bool false))] ?_
 refine iF ?_
 refine aQ ?_
 refine aQ ?_
 refine aR ?_
 refine iR 1 1 [(3, (.int .i64 0))] ?_
 refine iF ?_
 refine Z1 K (id := 0) K ?_
 refine Nl K (fun f5 ρ w => ∃ (g : Int), V6 ρ [(1, (pt i 0)), (3, (.int .i64 g))] ∧ SP [] w0 w [Qn i 24 #[(.int .i64 a0), (.int .i64 a1), (.int .i64 a2), (.int .i64 a3), (.slice A6 (List.length (List.map stT d9)) c7)]] ∧ Zr a0 a1 a2 a3 (List.map stT d9) f5 g = some r) (by rintro ρ w ⟨g, hk, hs, H⟩; cases H) ?_ Zj ?_
 ·rintro f5 ρ f9 ⟨g, hk, a7, H⟩
  refine At.known [(1, (pt i 0)), (3, (.int .i64 g))] hk ?_
  replace H := (show Xk (Zr a0 a1 a2 a3 (List.map stT d9) f5) a0 a1 a2 a3 (List.map stT d9) g = some r from H)
  unfold Xk at H
  refine aQ ?_
  refine aQ ?_
  refine aR ?_
  refine iR 2 2 [(4, (.int .i64 g)), (5, (pt i 4))] ?_
  refine iS 3 ?_
  refine sL 22 5 i 4 0 (.slice A6 (List.length (List.map stT d9)) c7) 6 a7 rfl ?_
  refine iR 2 5 [(7, (.int .i64 ((List.length (List.map stT d9) : Nat) : Int))), (8, (.bool (decide (g < ((List.length (List.map stT d9) : Nat) : Int)))))] ?_
  refine iF ?_
  refine V1 K (o := (.tmp 8)) K (b := (decide (g < ((List.length (List.map stT d9) : Nat) : Int)))) K (fun b6 => ?_) (fun b6 => ?_)
  ·have H := ct H b6
   refine At.skip K ?_
   refine aQ ?_
   refine Z1 K (id := 1) K ?_
   refine aQ ?_
   refine At.join (fun ρ w => ∃ (a8 : Bool), V6 ρ [(1, (pt i 0)), (3, (.int .i64 g)), (37, (.bool a8))] ∧ SP [] w0 w [Qn i 24 #[(.int .i64 a0), (.int .i64 a1), (.int .i64 a2), (.int .i64 a3), (.slice A6 (List.length (List.map stT d9)) c7)]] ∧ Yl (Zr a0 a1 a2 a3 (List.map stT d9) f5) g a8 = some r) ?_ ?_
   ·obtain ⟨f, a9, b0, a6, H⟩ := Rc H
    obtain ⟨q, b7, H⟩ := Qb H
    rcases Bool.eq_false_or_eq_true (!q) with s | s
    ·have H := ct H s
     refine aG [GEq (pt i 4), GEq (.slice A6 (List.length (List.map stT d9)) c7), GEq (.int .i64 g), Vr A6 Js.sz g, GEq (.agg #[(.string ⟨List.toArray (stT f).1⟩), (.int .i64 (stT f).2.1), (.int .i64 (stT f).2.2.1), (.slice f.2.2.2.1.1 (List.length (stT f).2.2.2.1) f.2.2.2.1.2.1), (.slice f.2.2.2.2.1 (List.length (stT f).2.2.2.2) f.2.2.2.2.2.1)]), GEq (.bool q), GEq (.bool (!q)), GEq (.bool (!q)), GEq undef, GEq undef, GEq undef, GEq undef, GEq undef, GEq undef, GEq undef, GEq undef, GEq undef, GEq undef, GEq undef, GEq undef, GEq undef, GEq undef, GEq undef, GEq undef, GEq undef, GEq undef, GEq (.bool true)] [5] (tG [] w0 [Qn i 24 #[(.int .i64 a0), (.int .i64 a1), (.int .i64 a2), (.int .i64 a3), (.slice A6 (List.length (List.map stT d9)) c7)]] [([], []), ([5], [(.bool q)])]) 27 1 ⟨trivial, SP.drew a7⟩ ?_ ?_
     iterate 27 refine And.intro ?_ ?_
     exact trivial
     ·exact oV (hC (hS 1 (pt i 0)) (h0)) (pt i 4)
     ·refine oL 0 ?_
      ·rintro ρ' w' hs h ⟨n4, g0⟩
       refine kM (kc (kA h 0 11) k0) fun m => ?_
       refine sL 22 11 i 4 0 (.slice A6 (List.length (List.map stT d9)) c7) 12 g0 rfl ?_
       exact eK m
     ·exact oV (hC (hS 3 (.int .i64 g)) (h0)) (.int .i64 g)
     ·refine oL 0 ?_
      ·rintro ρ' w' hs h ⟨n5, g1⟩
       refine kM (kc (kA h 1 12) (kc (kA h 2 13) k0)) fun m => ?_
       refine Ul stT (e := Js) (l := d9) (A := A6) (c := c7) (T := 22) (E := 44) (x := (.tmp 12)) (ix := (.tmp 13)) (ki := .i64) (iz := g) (d := (some 14)) (k := 3) K rfl K K K K (RdT.sp (Uz z) g1) a9 b0 ?_
       intro g2 g3 g4 n6 hc1033
       exact ⟨rfl, _, Qa m, ⟨g2, g3, g4, rfl⟩⟩
     ·refine oL 0 ?_
      ·rintro ρ' w' hs h ⟨n7, g5⟩
       obtain ⟨g6, g7, g8, b2⟩ := h 3 14 K
       refine kM (kc b2 k0) fun m => ?_
       refine Qi.cells (t := 44) (x := (.tmp 14)) (b := g6) (off := (g7 + Int.toNat g * Js.sz)) (xs := [(.string ⟨List.toArray (stT f).1⟩), (.int .i64 (stT f).2.1), (.int .i64 (stT f).2.2.1), (.slice f.2.2.2.1.1 (List.length (stT f).2.2.2.1) f.2.2.2.1.2.1), (.slice f.2.2.2.2.1 (List.length (stT f).2.2.2.2) f.2.2.2.2.2.1)]) (d := (some 15)) (k := 4) K rfl K K K (Z2 (e := Js) (Qh (RdT.sp (Uz z) g5) g8 a9 b0) a6 rfl) ?_
       exact eK m
     ·refine oH 0 1 ?_
      ·rintro ρ' w' hs h ⟨n8, b8⟩
       refine kM (kc (kA h 4 15) k0) fun m => ?_
       refine cF 65 #[(.tmp 15)] #[44] 16 Tryz.call65 (Ju f.2.2.2.1.1 f.2.2.2.1.2.1 f.2.2.2.2.1 f.2.2.2.2.2.1 (stT f).1 (stT f).2.1 (stT f).2.2.1 (stT f).2.2.2.1 (stT f).2.2.2.2 w' (RdT.sp (Uz (dp1 (dp2 (dp2 (dp2 (Bx z a6)))))) b8) (RdT.sp (Uz (dp2 (dp2 (dp2 (dp2 (Bx z a6)))))) b8) q b7) ?_
       rintro e n9 ⟨rfl, d6⟩
       refine ⟨_, rfl, ?_⟩
       have g9 := SP.call b8 d6
       clear d6
       refine ⟨_, Qa m, rfl, ?_⟩
       exact (And.intro (And.intro rfl (trivial)) (g9))
     ·exact oV (hC (hA 5 16) (h0)) (.bool (!q))
     ·exact oV (hC (hA 6 17) (h0)) (.bool (!q))
     ·exact oW (hC (hB 7 18 s) (h0)) 19
     ·exact oW (hC (hB 7 18 s) (h0)) 20
     ·exact oW (hC (hB 7 18 s) (h0)) 21
     ·exact oW (hC (hA 10 21) (h0)) 22
     ·exact oW (hC (hA 10 21) (h0)) 23
     ·exact oW (hC (hA 10 21) (h0)) 24
     ·exact oW (hC (hA 10 21) (h0)) 25
     ·exact oW (hC (hA 10 21) (h0)) 26
     ·exact oW (hC (hA 10 21) (h0)) 27
     ·exact oW (hC (hA 10 21) (h0)) 28
     ·exact oW (hC (hA 10 21) (h0)) 29
     ·exact oW (hC (hA 10 21) (h0)) 30
     ·exact oW (hC (hA 10 21) (h0)) 31
     ·exact oW (hC (hA 10 21) (h0)) 32
     ·exact oW (hC (hA 10 21) (h0)) 33
     ·exact oW (hC (hA 10 21) (h0)) 34
     ·exact oW (hC (hA 10 21) (h0)) 35
     ·exact oW (hC (hB 7 18 s) (h0)) 36
     ·exact oV (hC (hB 7 18 s) (hC (hA 25 36) (h0))) (.bool true)
     ·rintro ρ' w' hs hf ⟨⟨o0, -⟩, d7⟩
      refine Q3 [(1, (pt i 0)), (3, (.int .i64 g)), (37, (.bool true))] ⟨(hs 1 K).trans K, (hs 3 K).trans K, hf 26 37 K, trivial⟩ ?_
      obtain ⟨o1, h1⟩ : ∃ x, w' = x := ⟨_, rfl⟩
      rw [h1] at d7 ⊢
      exact ⟨true, ⟨K, K, K, trivial⟩, SP.sel d7 [0] rfl rfl, H⟩
    ·have H := cf H s
     rcases Bool.eq_false_or_eq_true (decide (g > 0)) with p | p
     ·have H := ct H p
      obtain ⟨a4, d8, e0, h2, H⟩ := Rc H
      obtain ⟨a5, e1, e2, h3, H⟩ := Rc H
      refine aG [GEq (pt i 4), GEq (.slice A6 (List.length (List.map stT d9)) c7), GEq (.int .i64 g), Vr A6 Js.sz g, GEq (.agg #[(.string ⟨List.toArray (stT f).1⟩), (.int .i64 (stT f).2.1), (.int .i64 (stT f).2.2.1), (.slice f.2.2.2.1.1 (List.length (stT f).2.2.2.1) f.2.2.2.1.2.1), (.slice f.2.2.2.2.1 (List.length (stT f).2.2.2.2) f.2.2.2.2.2.1)]), GEq (.bool q), GEq (.bool (!q)), GEq (.bool (!q)), GEq (.int .i64 g), GEq (.bool (decide (g > 0))), GEq (.bool (decide (g > 0))), GEq (pt i 4), GEq (.slice A6 (List.length (List.map stT d9)) c7), GEq (.int .i64 g), GEq (.int .i64 (IntKind.wrap .i64 (g - 1))), Vr A6 Js.sz (IntKind.wrap .i64 (g - 1)), Vr A6 Js.sz (IntKind.wrap .i64 (g - 1)), GEq (.string ⟨List.toArray (stT a4).1⟩), GEq (pt i 4), GEq (.slice A6 (List.length (List.map stT d9)) c7), GEq (.int .i64 g), Vr A6 Js.sz g, Vr A6 Js.sz g, GEq (.string ⟨List.toArray (stT a5).1⟩), GEq (.bool (!(Op.bytesLess (stT a4).1 (stT a5).1))), GEq (.bool (!(Op.bytesLess (stT a4).1 (stT a5).1))), GEq (.bool (!(Op.bytesLess (stT a4).1 (stT a5).1)))] [5] (tG [] w0 [Qn i 24 #[(.int .i64 a0), (.int .i64 a1), (.int .i64 a2), (.int .i64 a3), (.slice A6 (List.length (List.map stT d9)) c7)]] [([], []), ([5], [(.bool q)])]) 27 1 ⟨trivial, SP.drew a7⟩ ?_ ?_
      iterate 27 refine And.intro ?_ ?_
      exact trivial
      ·exact oV (hC (hS 1 (pt i 0)) (h0)) (pt i 4)
      ·refine oL 0 ?_
       ·rintro ρ' w' hs h ⟨o2, h4⟩
        refine kM (kc (kA h 0 11) k0) fun m => ?_
        refine sL 22 11 i 4 0 (.slice A6 (List.length (List.map stT d9)) c7) 12 h4 rfl ?_
        exact eK m
      ·exact oV (hC (hS 3 (.int .i64 g)) (h0)) (.int .i64 g)
      ·refine oL 0 ?_
       ·rintro ρ' w' hs h ⟨o3, h5⟩
        refine kM (kc (kA h 1 12) (kc (kA h 2 13) k0)) fun m => ?_
        refine Ul stT (e := Js) (l := d9) (A := A6) (c := c7) (T := 22) (E := 44) (x := (.tmp 12)) (ix := (.tmp 13)) (ki := .i64) (iz := g) (d := (some 14)) (k := 3) K rfl K K K K (RdT.sp (Uz z) h5) a9 b0 ?_
        intro h6 h7 h8 o4 hc1082
        exact ⟨rfl, _, Qa m, ⟨h6, h7, h8, rfl⟩⟩
      ·refine oL 0 ?_
       ·rintro ρ' w' hs h ⟨o5, h9⟩
        obtain ⟨i0, i1, i2, b2⟩ := h 3 14 K
        refine kM (kc b2 k0) fun m => ?_
        refine Qi.cells (t := 44) (x := (.tmp 14)) (b := i0) (off := (i1 + Int.toNat g * Js.sz)) (xs := [(.string ⟨List.toArray (stT f).1⟩), (.int .i64 (stT f).2.1), (.int .i64 (stT f).2.2.1), (.slice f.2.2.2.1.1 (List.length (stT f).2.2.2.1) f.2.2.2.1.2.1), (.slice f.2.2.2.2.1 (List.length (stT f).2.2.2.2) f.2.2.2.2.2.1)]) (d := (some 15)) (k := 4) K rfl K K K (Z2 (e := Js) (Qh (RdT.sp (Uz z) h9) i2 a9 b0) a6 rfl) ?_
        exact eK m
      ·refine oH 0 1 ?_
       ·rintro ρ' w' hs h ⟨o6, b9⟩
        refine kM (kc (kA h 4 15) k0) fun m => ?_
        refine cF 65 #[(.tmp 15)] #[44] 16 Tryz.call65 (Ju f.2.2.2.1.1 f.2.2.2.1.2.1 f.2.2.2.2.1 f.2.2.2.2.2.1 (stT f).1 (stT f).2.1 (stT f).2.2.1 (stT f).2.2.2.1 (stT f).2.2.2.2 w' (RdT.sp (Uz (dp1 (dp2 (dp2 (dp2 (Bx z a6)))))) b9) (RdT.sp (Uz (dp2 (dp2 (dp2 (dp2 (Bx z a6)))))) b9) q b7) ?_
        rintro e o7 ⟨rfl, e3⟩
        refine ⟨_, rfl, ?_⟩
        have i3 := SP.call b9 e3
        clear e3
        refine ⟨_, Qa m, rfl, ?_⟩
        exact (And.intro (And.intro rfl (trivial)) (i3))
      ·exact oV (hC (hA 5 16) (h0)) (.bool (!q))
      ·exact oV (hC (hA 6 17) (h0)) (.bool (!q))
      ·exact oV (hC (hS 3 (.int .i64 g)) (hC (hB 7 18 s) (h0))) (.int .i64 g)
      ·exact oV (hC (hA 8 19) (hC (hB 7 18 s) (h0))) (.bool (decide (g > 0)))
      ·exact oV (hC (hA 9 20) (hC (hB 7 18 s) (h0))) (.bool (decide (g > 0)))
      ·exact oV (hC (hS 1 (pt i 0)) (hC (hB 10 21 p) (h0))) (pt i 4)
      ·refine oL 1 ?_
       ·rintro ρ' w' hs h ⟨⟨o8, -⟩, i4⟩
        have i5 := h 11 22 K
        have u := h 10 21 K
        refine kN [(22, (pt i 4)), (21, (.bool true))] ⟨i5, (Eq.trans u (congrArg Value.bool p)), trivial⟩ fun m => ?_
        refine sL 22 22 i 4 0 (.slice A6 (List.length (List.map stT d9)) c7) 23 i4 rfl ?_
        exact eK m
      ·exact oV (hC (hS 3 (.int .i64 g)) (hC (hB 10 21 p) (h0))) (.int .i64 g)
      ·exact oV (hC (hA 13 24) (hC (hB 10 21 p) (h0))) (.int .i64 (IntKind.wrap .i64 (g - 1)))
      ·refine oL 1 ?_
       ·rintro ρ' w' hs h ⟨⟨o9, -⟩, i6⟩
        have i7 := h 12 23 K
        have i8 := h 14 25 K
        have u := h 10 21 K
        refine kN [(23, (.slice A6 (List.length (List.map stT d9)) c7)), (25, (.int .i64 (IntKind.wrap .i64 (g - 1)))), (21, (.bool true))] ⟨i7, i8, (Eq.trans u (congrArg Value.bool p)), trivial⟩ fun m => ?_
        refine Ul stT (e := Js) (l := d9) (A := A6) (c := c7) (T := 22) (E := 44) (x := (.tmp 23)) (ix := (.tmp 25)) (ki := .i64) (iz := (IntKind.wrap .i64 (g - 1))) (d := (some 26)) (k := 15) K rfl K K K K (RdT.sp (Uz z) i6) d8 e0 ?_
        intro i9 j0 j1 p0 hc1104
        exact ⟨rfl, _, Qa m, ⟨i9, j0, j1, rfl⟩⟩
      ·refine oL 1 ?_
       ·rintro ρ' w' hs h ⟨⟨p1, -⟩, p2⟩
        obtain ⟨c0, c1, j2, j3⟩ := h 15 26 K
        have u := h 10 21 K
        refine kN [(26, (.pointer (some ⟨c0, (c1 + Int.toNat (IntKind.wrap .i64 (g - 1)) * Js.sz), none⟩))), (21, (.bool true))] ⟨j3, (Eq.trans u (congrArg Value.bool p)), trivial⟩ fun m => ?_
        refine Qi.run (k := 16) (v := (.pointer (some ⟨c0, (c1 + Int.toNat (IntKind.wrap .i64 (g - 1)) * Js.sz), none⟩))) K ?_
        exact ⟨rfl, _, Qa m, ⟨c0, c1, j2, rfl⟩⟩
      ·refine oL 1 ?_
       ·rintro ρ' w' hs h ⟨⟨p3, -⟩, j4⟩
        obtain ⟨e4, e5, j5, j6⟩ := h 16 27 K
        have u := h 10 21 K
        refine kN [(27, (.pointer (some ⟨e4, (e5 + Int.toNat (IntKind.wrap .i64 (g - 1)) * Js.sz), none⟩))), (21, (.bool true))] ⟨j6, (Eq.trans u (congrArg Value.bool p)), trivial⟩ fun m => ?_
        refine sC 9 27 e4 (e5 + Int.toNat (IntKind.wrap .i64 (g - 1)) * Js.sz) (.string ⟨List.toArray (stT a4).1⟩) 28 (Qk (e := Js) (Qh (RdT.sp (Uz z) j4) j5 d8 e0) h2 (j := 0) rfl) ?_
        exact eK m
      ·exact oV (hC (hS 1 (pt i 0)) (hC (hB 10 21 p) (h0))) (pt i 4)
      ·refine oL 1 ?_
       ·rintro ρ' w' hs h ⟨⟨p4, -⟩, j7⟩
        have j8 := h 18 29 K
        have u := h 10 21 K
        refine kN [(29, (pt i 4)), (21, (.bool true))] ⟨j8, (Eq.trans u (congrArg Value.bool p)), trivial⟩ fun m => ?_
        refine sL 22 29 i 4 0 (.slice A6 (List.length (List.map stT d9)) c7) 30 j7 rfl ?_
        exact eK m
      ·exact oV (hC (hS 3 (.int .i64 g)) (hC (hB 10 21 p) (h0))) (.int .i64 g)
      ·refine oL 1 ?_
       ·rintro ρ' w' hs h ⟨⟨p5, -⟩, j9⟩
        have k1 := h 19 30 K
        have k2 := h 20 31 K
        have u := h 10 21 K
        refine kN [(30, (.slice A6 (List.length (List.map stT d9)) c7)), (31, (.int .i64 g)), (21, (.bool true))] ⟨k1, k2, (Eq.trans u (congrArg Value.bool p)), trivial⟩ fun m => ?_
        refine Ul stT (e := Js) (l := d9) (A := A6) (c := c7) (T := 22) (E := 44) (x := (.tmp 30)) (ix := (.tmp 31)) (ki := .i64) (iz := g) (d := (some 32)) (k := 21) K rfl K K K K (RdT.sp (Uz z) j9) e1 e2 ?_
        intro k3 k4 k5 p6 hc1127
        exact ⟨rfl, _, Qa m, ⟨k3, k4, k5, rfl⟩⟩
      ·refine oL 1 ?_
       ·rintro ρ' w' hs h ⟨⟨p7, -⟩, p8⟩
        obtain ⟨c2, c3, k6, k7⟩ := h 21 32 K
        have u := h 10 21 K
        refine kN [(32, (.pointer (some ⟨c2, (c3 + Int.toNat g * Js.sz), none⟩))), (21, (.bool true))] ⟨k7, (Eq.trans u (congrArg Value.bool p)), trivial⟩ fun m => ?_
        refine Qi.run (k := 22) (v := (.pointer (some ⟨c2, (c3 + Int.toNat g * Js.sz), none⟩))) K ?_
        exact ⟨rfl, _, Qa m, ⟨c2, c3, k6, rfl⟩⟩
      ·refine oL 1 ?_
       ·rintro ρ' w' hs h ⟨⟨p9, -⟩, k8⟩
        obtain ⟨e6, e7, k9, l0⟩ := h 22 33 K
        have u := h 10 21 K
        refine kN [(33, (.pointer (some ⟨e6, (e7 + Int.toNat g * Js.sz), none⟩))), (21, (.bool true))] ⟨l0, (Eq.trans u (congrArg Value.bool p)), trivial⟩ fun m => ?_
        refine sC 9 33 e6 (e7 + Int.toNat g * Js.sz) (.string ⟨List.toArray (stT a5).1⟩) 34 (Qk (e := Js) (Qh (RdT.sp (Uz z) k8) k9 e1 e2) h3 (j := 0) rfl) ?_
        exact eK m
      ·refine oL 1 ?_
       ·rintro ρ' w' hs h ⟨⟨q0, -⟩, q1⟩
        have l1 := h 17 28 K
        have l2 := h 23 34 K
        have u := h 10 21 K
        refine kN [(28, (.string ⟨List.toArray (stT a4).1⟩)), (34, (.string ⟨List.toArray (stT a5).1⟩)), (21, (.bool true))] ⟨l1, l2, (Eq.trans u (congrArg Value.bool p)), trivial⟩ fun m => ?_
        refine V0 (op := .geq) (T := 9) (T' := 9) (x := (.tmp 28)) (y := (.tmp 34)) (a := (stT a4).1) (b := (stT a5).1) (r := (.bool (!(Op.bytesLess (stT a4).1 (stT a5).1)))) (d := (some 35)) (k := 24) K rfl K K rfl ?_
        exact eK m
      ·exact oV (hC (hB 10 21 p) (hC (hA 24 35) (hC (hB 7 18 s) (h0)))) (.bool (!(Op.bytesLess (stT a4).1 (stT a5).1)))
      ·exact oV (hC (hB 7 18 s) (hC (hA 25 36) (h0))) (.bool (!(Op.bytesLess (stT a4).1 (stT a5).1)))
      ·rintro ρ' w' hs hf ⟨⟨q2, -⟩, e8⟩
       refine Q3 [(1, (pt i 0)), (3, (.int .i64 g)), (37, (.bool (!(Op.bytesLess (stT a4).1 (stT a5).1))))] ⟨(hs 1 K).trans K, (hs 3 K).trans K, hf 26 37 K, trivial⟩ ?_
       obtain ⟨q3, l3⟩ : ∃ x, w' = x := ⟨_, rfl⟩
       rw [l3] at e8 ⊢
       exact ⟨(!(Op.bytesLess (stT a4).1 (stT a5).1)), ⟨K, K, K, trivial⟩, SP.sel e8 [0] rfl rfl, H⟩
     ·have H := cf H p
      refine aG [GEq (pt i 4), GEq (.slice A6 (List.length (List.map stT d9)) c7), GEq (.int .i64 g), Vr A6 Js.sz g, GEq (.agg #[(.string ⟨List.toArray (stT f).1⟩), (.int .i64 (stT f).2.1), (.int .i64 (stT f).2.2.1), (.slice f.2.2.2.1.1 (List.length (stT f).2.2.2.1) f.2.2.2.1.2.1), (.slice f.2.2.2.2.1 (List.length (stT f).2.2.2.2) f.2.2.2.2.2.1)]), GEq (.bool q), GEq (.bool (!q)), GEq (.bool (!q)), GEq (.int .i64 g), GEq (.bool (decide (g > 0))), GEq (.bool (decide (g > 0))), GEq undef, GEq undef, GEq undef, GEq undef, GEq undef, GEq undef, GEq undef, GEq undef, GEq undef, GEq undef, GEq undef, GEq undef, GEq undef, GEq undef, GEq (.bool false), GEq (.bool false)] [5] (tG [] w0 [Qn i 24 #[(.int .i64 a0), (.int .i64 a1), (.int .i64 a2), (.int .i64 a3), (.slice A6 (List.length (List.map stT d9)) c7)]] [([], []), ([5], [(.bool q)])]) 27 1 ⟨trivial, SP.drew a7⟩ ?_ ?_
      iterate 27 refine And.intro ?_ ?_
      exact trivial
      ·exact oV (hC (hS 1 (pt i 0)) (h0)) (pt i 4)
      ·refine oL 0 ?_
       ·rintro ρ' w' hs h ⟨q4, l4⟩
        refine kM (kc (kA h 0 11) k0) fun m => ?_
        refine sL 22 11 i 4 0 (.slice A6 (List.length (List.map stT d9)) c7) 12 l4 rfl ?_
        exact eK m
      ·exact oV (hC (hS 3 (.int .i64 g)) (h0)) (.int .i64 g)
      ·refine oL 0 ?_
       ·rintro ρ' w' hs h ⟨q5, l5⟩
        refine kM (kc (kA h 1 12) (kc (kA h 2 13) k0)) fun m => ?_
        refine Ul stT (e := Js) (l := d9) (A := A6) (c := c7) (T := 22) (E := 44) (x := (.tmp 12)) (ix := (.tmp 13)) (ki := .i64) (iz := g) (d := (some 14)) (k := 3) K rfl K K K K (RdT.sp (Uz z) l5) a9 b0 ?_
        intro l6 l7 l8 q6 hc1159
        exact ⟨rfl, _, Qa m, ⟨l6, l7, l8, rfl⟩⟩
      ·refine oL 0 ?_
       ·rintro ρ' w' hs h ⟨q7, l9⟩
        obtain ⟨m0, m1, m2, b2⟩ := h 3 14 K
        refine kM (kc b2 k0) fun m => ?_
        refine Qi.cells (t := 44) (x := (.tmp 14)) (b := m0) (off := (m1 + Int.toNat g * Js.sz)) (xs := [(.string ⟨List.toArray (stT f).1⟩), (.int .i64 (stT f).2.1), (.int .i64 (stT f).2.2.1), (.slice f.2.2.2.1.1 (List.length (stT f).2.2.2.1) f.2.2.2.1.2.1), (.slice f.2.2.2.2.1 (List.length (stT f).2.2.2.2) f.2.2.2.2.2.1)]) (d := (some 15)) (k := 4) K rfl K K K (Z2 (e := Js) (Qh (RdT.sp (Uz z) l9) m2 a9 b0) a6 rfl) ?_
        exact eK m
      ·refine oH 0 1 ?_
       ·rintro ρ' w' hs h ⟨q8, c4⟩
        refine kM (kc (kA h 4 15) k0) fun m => ?_
        refine cF 65 #[(.tmp 15)] #[44] 16 Tryz.call65 (Ju f.2.2.2.1.1 f.2.2.2.1.2.1 f.2.2.2.2.1 f.2.2.2.2.2.1 (stT f).1 (stT f).2.1 (stT f).2.2.1 (stT f).2.2.2.1 (stT f).2.2.2.2 w' (RdT.sp (Uz (dp1 (dp2 (dp2 (dp2 (Bx z a6)))))) c4) (RdT.sp (Uz (dp2 (dp2 (dp2 (dp2 (Bx z a6)))))) c4) q b7) ?_
        rintro e q9 ⟨rfl, e9⟩
        refine ⟨_, rfl, ?_⟩
        have m3 := SP.call c4 e9
        clear e9
        refine ⟨_, Qa m, rfl, ?_⟩
        exact (And.intro (And.intro rfl (trivial)) (m3))
      ·exact oV (hC (hA 5 16) (h0)) (.bool (!q))
      ·exact oV (hC (hA 6 17) (h0)) (.bool (!q))
      ·exact oV (hC (hS 3 (.int .i64 g)) (hC (hB 7 18 s) (h0))) (.int .i64 g)
      ·exact oV (hC (hA 8 19) (hC (hB 7 18 s) (h0))) (.bool (decide (g > 0)))
      ·exact oV (hC (hA 9 20) (hC (hB 7 18 s) (h0))) (.bool (decide (g > 0)))
      ·exact oW (hC (hB 10 21 p) (h0)) 22
      ·exact oW (hC (hB 10 21 p) (h0)) 23
      ·exact oW (hC (hB 10 21 p) (h0)) 24
      ·exact oW (hC (hB 10 21 p) (h0)) 25
      ·exact oW (hC (hB 10 21 p) (h0)) 26
      ·exact oW (hC (hB 10 21 p) (h0)) 27
      ·exact oW (hC (hB 10 21 p) (h0)) 28
      ·exact oW (hC (hB 10 21 p) (h0)) 29
      ·exact oW (hC (hB 10 21 p) (h0)) 30
      ·exact oW (hC (hB 10 21 p) (h0)) 31
      ·exact oW (hC (hB 10 21 p) (h0)) 32
      ·exact oW (hC (hB 10 21 p) (h0)) 33
      ·exact oW (hC (hB 10 21 p) (h0)) 34
      ·exact oW (hC (hB 10 21 p) (h0)) 35
      ·exact oV (hC (hB 10 21 p) (hC (hA 24 35) (hC (hB 7 18 s) (h0)))) (.bool false)
      ·exact oV (hC (hB 7 18 s) (hC (hA 25 36) (h0))) (.bool false)
      ·rintro ρ' w' hs hf ⟨⟨r0, -⟩, f0⟩
       refine Q3 [(1, (pt i 0)), (3, (.int .i64 g)), (37, (.bool false))] ⟨(hs 1 K).trans K, (hs 3 K).trans K, hf 26 37 K, trivial⟩ ?_
       obtain ⟨r1, m4⟩ : ∃ x, w' = x := ⟨_, rfl⟩
       rw [m4] at f0 ⊢
       exact ⟨false, ⟨K, K, K, trivial⟩, SP.sel f0 [0] rfl rfl, H⟩
   ·rintro ρ r2 ⟨a8, hk, f1, H⟩
    unfold Yl at H
    first | refine At.known [(1, (pt i 0)), (3, (.int .i64 g)), (37, (.bool a8))] hk ?_ | rw [← Qv (l := [(1, (pt i 0)), (3, (.int .i64 g)), (37, (.bool a8))]) hk]
    refine V1 K (o := (.tmp 37)) K (b := a8) K (fun c5 => ?_) (fun c5 => ?_)
    ·have H := ct H c5
     refine aQ ?_
     refine aR ?_
     refine iR 1 1 [(2, (.bool false))] ?_
     refine iF ?_
     refine At.ret K ?_
     refine ⟨(.bool false), K, ?_⟩
     obtain rfl := Qe H
     exact ⟨rfl, SP.sel f1 [] rfl rfl⟩
    ·have H := cf H c5
     refine At.skip K ?_
     refine aR ?_
     refine iR 3 3 [(9, (.int .i64 g)), (10, (.int .i64 (IntKind.wrap .i64 (g + 1)))), (3, (.int .i64 (IntKind.wrap .i64 (g + 1))))] ?_
     refine iF ?_
     exact ⟨(IntKind.wrap .i64 (g + 1)), ⟨K, K, trivial⟩, SP.sel f1 [0] rfl rfl, H⟩
  ·have H := cf H b6
   refine At.exit K (id := 0) K ?_
   refine aQ ?_
   refine At.join (fun ρ w => ∃ (b1 : Bool), V6 ρ [(2, (.bool b1))] ∧ SP [] w0 w [] ∧ Zz (Zr a0 a1 a2 a3 (List.map stT d9) f5) b1 = some r) ?_ ?_
   ·refine aR ?_
    refine iR 1 1 [(38, (pt i 0))] ?_
    refine iS 2 ?_
    refine sL 2 38 i 0 0 (.int .i64 a0) 39 a7 rfl ?_
    obtain ⟨c6, m5, H⟩ := Qb H
    refine iS 3 ?_
    refine cF 66 #[(.tmp 39)] #[2] 40 Tryz.call66 (Ui  a0 f9  c6 m5) ?_
    rintro e m6 ⟨rfl, f2⟩
    refine ⟨_, rfl, ?_⟩
    have c8 := SP.call a7 f2
    clear f2
    refine iR 1 4 [(41, (.bool c6))] ?_
    refine In.guard (t := 41) (b := c6) K (fun c9 => ?_) (fun c9 => ?_)
    ·have H := ct H c9
     refine iR 1 5 [(42, (pt i 1))] ?_
     refine iS 6 ?_
     refine sL 2 42 i 1 0 (.int .i64 a1) 43 c8 rfl ?_
     obtain ⟨b3, m7, H⟩ := Qb H
     refine iS 7 ?_
     refine cF 66 #[(.tmp 43)] #[2] 44 Tryz.call66 (Ui  a1 m6  b3 m7) ?_
     rintro e m8 ⟨rfl, f3⟩
     refine ⟨_, rfl, ?_⟩
     have d0 := SP.call c8 f3
     clear f3
     refine iR 2 9 [(45, (.bool b3)), (46, (.bool b3))] ?_
     refine In.guard (t := 46) (b := b3) K (fun d1 => ?_) (fun d1 => ?_)
     ·have H := ct H d1
      refine iR 1 10 [(47, (pt i 2))] ?_
      refine iS 11 ?_
      refine sL 2 47 i 2 0 (.int .i64 a2) 48 d0 rfl ?_
      obtain ⟨b4, m9, H⟩ := Qb H
      refine iS 12 ?_
      refine cF 66 #[(.tmp 48)] #[2] 49 Tryz.call66 (Ui  a2 m8  b4 m9) ?_
      rintro e n0 ⟨rfl, f4⟩
      refine ⟨_, rfl, ?_⟩
      have d2 := SP.call d0 f4
      clear f4
      refine iR 2 14 [(50, (.bool b4)), (51, (.bool b4))] ?_
      refine In.guard (t := 51) (b := b4) K (fun d3 => ?_) (fun d3 => ?_)
      ·have H := ct H d3
       refine iR 1 15 [(52, (pt i 3))] ?_
       refine iS 16 ?_
       refine sL 2 52 i 3 0 (.int .i64 a3) 53 d2 rfl ?_
       obtain ⟨b5, n1, H⟩ := Qb H
       refine iS 17 ?_
       refine cF 66 #[(.tmp 53)] #[2] 54 Tryz.call66 (Ui  a3 n0  b5 n1) ?_
       rintro e r3 ⟨rfl, f6⟩
       refine ⟨_, rfl, ?_⟩
       have d4 := SP.call d2 f6
       clear f6
       refine iR 2 19 [(55, (.bool b5)), (56, (.bool b5))] ?_
       refine In.guard (t := 56) (b := b5) K (fun d5 => ?_) (fun d5 => ?_)
       ·have H := ct H d5
        refine iR 1 20 [(57, (pt i 4))] ?_
        refine iS 21 ?_
        refine sL 22 57 i 4 0 (.slice A6 (List.length (List.map stT d9)) c7) 58 d4 rfl ?_
        refine iR 4 25 [(59, (.int .i64 ((List.length (List.map stT d9) : Nat) : Int))), (60, (.bool (decide (((List.length (List.map stT d9) : Nat) : Int) ≤ 8)))), (61, (.bool (decide (((List.length (List.map stT d9) : Nat) : Int) ≤ 8)))), (2, (.bool (decide (((List.length (List.map stT d9) : Nat) : Int) ≤ 8))))] ?_
        refine iF ?_
        exact ⟨(decide (((List.length (List.map stT d9) : Nat) : Int) ≤ 8)), ⟨K, trivial⟩, SP.sel d4 [] rfl rfl, H⟩
       ·have H := cf H d5
        refine iR 6 25 [(57, undef), (58, undef), (59, undef), (60, undef), (61, (.bool false)), (2, (.bool false))] ?_
        refine iF ?_
        exact ⟨false, ⟨K, trivial⟩, SP.sel d4 [] rfl rfl, H⟩
      ·have H := cf H d3
       refine iR 11 25 [(52, undef), (53, undef), (54, undef), (55, (.bool false)), (56, (.bool false)), (57, undef), (58, undef), (59, undef), (60, undef), (61, (.bool false)), (2, (.bool false))] ?_
       refine iF ?_
       exact ⟨false, ⟨K, trivial⟩, SP.sel d2 [] rfl rfl, H⟩
     ·have H := cf H d1
      refine iR 16 25 [(47, undef), (48, undef), (49, undef), (50, (.bool false)), (51, (.bool false)), (52, undef), (53, undef), (54, undef), (55, (.bool false)), (56, (.bool false)), (57, undef), (58, undef), (59, undef), (60, undef), (61, (.bool false)), (2, (.bool false))] ?_
      refine iF ?_
      exact ⟨false, ⟨K, trivial⟩, SP.sel d0 [] rfl rfl, H⟩
    ·have H := cf H c9
     refine iR 21 25 [(42, undef), (43, undef), (44, undef), (45, (.bool false)), (46, (.bool false)), (47, undef), (48, undef), (49, undef), (50, (.bool false)), (51, (.bool false)), (52, undef), (53, undef), (54, undef), (55, (.bool false)), (56, (.bool false)), (57, undef), (58, undef), (59, undef), (60, undef), (61, (.bool false)), (2, (.bool false))] ?_
     refine iF ?_
     exact ⟨false, ⟨K, trivial⟩, SP.sel c8 [] rfl rfl, H⟩
   ·rintro ρ r4 ⟨b1, hk, n2, H⟩
    unfold Zz at H
    first | refine At.known [(2, (.bool b1))] hk ?_ | rw [← Qv (l := [(2, (.bool b1))]) hk]
    refine At.ret K ?_
    refine ⟨(.bool b1), K, ?_⟩
    obtain rfl := Qe H
    exact ⟨rfl, SP.sel n2 [] rfl rfl⟩
 ·exact ⟨0, ⟨K, K, trivial⟩, SP.sel f8 [0] rfl rfl, H⟩
def Xx (d : Int → Option ((List UInt8) × Int × Int × (List (Int × Int)) × (List ((List UInt8) × (List UInt8) × Int)) × Bool)) (c : (List Qg)) (e : (List UInt8)) (b : Int) : Option ((List UInt8) × Int × Int × (List (Int × Int)) × (List ((List UInt8) × (List UInt8) × Int)) × Bool) :=
  (cond (decide (b < ((List.length c : Nat) : Int))) ((idx c b).bind fun f => (cond (f.1 == e) ((idx c b).bind fun a => (some (a.1, a.2.1, a.2.2.1, a.2.2.2.1, a.2.2.2.2, true))) (d (IntKind.wrap .i64 (b + 1))))) (some (([] : List UInt8), 0, 0, ([] : List (Int × Int)), ([] : List ((List UInt8) × (List UInt8) × Int)), false)))
def Xy (a : (List Qg)) (b : (List UInt8)) : Nat → Int → Option ((List UInt8) × Int × Int × (List (Int × Int)) × (List ((List UInt8) × (List UInt8) × Int)) × Bool)
  | 0, _ => none
  | f + 1, c => Xx  (Xy a b f) a b c
def Gn (c : Int) (d : Int) (e : Int) (f : Int) (a : (List Qg)) (b : (List UInt8)) : Option ((List UInt8) × Int × Int × (List (Int × Int)) × (List ((List UInt8) × (List UInt8) × Int)) × Bool) :=
  (Xy a b Zj 0)
theorem Cm {R : World → Prop} (A6 : Option Addr) (c7 : Nat) (a0 : Int) (a1 : Int) (a2 : Int) (a3 : Int) (d9 : (List Va)) (m : (List UInt8)) (w0 : World) (hR : ∀ w, Below w0.heap.size w0 w → R w) (u : ∀ w, R w → (dDS Js Ce).ok w (A6, c7, d9)) (r : ((List UInt8) × Int × Int × (List (Int × Int)) × (List ((List UInt8) × (List UInt8) × Int)) × Bool)) (H : Gn a0 a1 a2 a3 (List.map stT d9) m = some r) :
  Calls Tryz.prog 28 #[(.agg #[(.int .i64 a0), (.int .i64 a1), (.int .i64 a2), (.int .i64 a3), (.slice A6 (List.length (List.map stT d9)) c7)]), (.string ⟨List.toArray m⟩)] w0 (fun e w' => ∃ (a9 : Option Addr) (b0 : Nat) (b1 : Option Addr) (b2 : Nat), e = .returned (.tuple #[(.agg #[(.string ⟨List.toArray r.1⟩), (.int .i64 r.2.1), (.int .i64 r.2.2.1), (.slice a9 (List.length r.2.2.2.1) b0), (.slice b1 (List.length r.2.2.2.2.1) b2)]), (.bool r.2.2.2.2.2)]) ∧ (∀ w, R w → RdT (Qj (Qc .u32) (Qc .i64)) w a9 b0 r.2.2.2.1) ∧ (∀ w, R w → RdT (Qj Qx (Qj Qx (Qc .i64))) w b1 b2 r.2.2.2.2.1) ∧ SP [] w0 w' []) := by
 unfold Gn at H
 refine Qs (n := 28) Tryz.func28 K K K ?_
 have c1 := Q0 [] w0
 refine aQ ?_
 refine aR ?_
 refine iS 1 ?_
 refine Vn (t := 24) (x := (.tmp 0)) (v := (.agg #[(.int .i64 a0), (.int .i64 a1), (.int .i64 a2), (.int .i64 a3), (.slice A6 (List.length (List.map stT d9)) c7)])) (d := (some 2)) (k := 0) K rfl K c1 ?_
 intro q d0 c2
 refine iS 2 ?_
 refine Qi.alloc (t := 44) (z := (.agg #[(.string ⟨List.toArray ([] : List UInt8)⟩), (.int .i64 0), (.int .i64 0), (.slice none (List.length ([] : List (Int × Int))) 0), (.slice none (List.length ([] : List ((List UInt8) × (List UInt8) × Int))) 0)])) (d := (some 4)) (k := 1) K rfl K c2 ?_
 intro s d1 c3
 refine iR 1 3 [(5, (.bool false))] ?_
 refine iF ?_
 refine aQ ?_
 refine aQ ?_
 refine aR ?_
 refine iR 1 1 [(6, (.int .i64 0))] ?_
 refine iF ?_
 refine Z1 K (id := 0) K ?_
 refine Nl K (fun f1 ρ w => ∃ (h : Int), V6 ρ [(1, (.string ⟨List.toArray m⟩)), (2, (pt q 0)), (4, (pt s 0)), (6, (.int .i64 h))] ∧ SP [] w0 w [Qn q 24 #[(.int .i64 a0), (.int .i64 a1), (.int .i64 a2), (.int .i64 a3), (.slice A6 (List.length (List.map stT d9)) c7)], Qn s 44 #[(.string ⟨List.toArray ([] : List UInt8)⟩), (.int .i64 0), (.int .i64 0), (.slice none (List.length ([] : List (Int × Int))) 0), (.slice none (List.length ([] : List ((List UInt8) × (List UInt8) × Int))) 0)]] ∧ Xy (List.map stT d9) m f1 h = some r) (by rintro ρ w ⟨h, hk, hs, H⟩; cases H) ?_ Zj ?_
 ·rintro f1 ρ a4 ⟨h, hk, p, H⟩
  refine At.known [(1, (.string ⟨List.toArray m⟩)), (2, (pt q 0)), (4, (pt s 0)), (6, (.int .i64 h))] hk ?_
  replace H := (show Xx (Xy (List.map stT d9) m f1) (List.map stT d9) m h = some r from H)
  unfold Xx at H
  refine aQ ?_
  refine aQ ?_
  refine aR ?_
  refine iR 2 2 [(7, (.int .i64 h)), (8, (pt q 4))] ?_
  refine iS 3 ?_
  refine sL 22 8 q 4 0 (.slice A6 (List.length (List.map stT d9)) c7) 9 p rfl ?_
  refine iR 2 5 [(10, (.int .i64 ((List.length (List.map stT d9) : Nat) : Int))), (11, (.bool (decide (h < ((List.length (List.map stT d9) : Nat) : Int)))))] ?_
  refine iF ?_
  refine V1 K (o := (.tmp 11)) K (b := (decide (h < ((List.length (List.map stT d9) : Nat) : Int)))) K (fun a6 => ?_) (fun a6 => ?_)
  ·have H := ct H a6
   refine At.skip K ?_
   refine aQ ?_
   refine Z1 K (id := 1) K ?_
   refine aQ ?_
   refine aR ?_
   refine iR 1 1 [(14, (pt q 4))] ?_
   refine iS 2 ?_
   refine sL 22 14 q 4 0 (.slice A6 (List.length (List.map stT d9)) c7) 15 p rfl ?_
   refine iR 1 3 [(16, (.int .i64 h))] ?_
   obtain ⟨a5, b3, b4, c4, H⟩ := Rc H
   refine iS 4 ?_
   refine Ul stT (e := Js) (l := d9) (A := A6) (c := c7) (T := 22) (E := 44) (x := (.tmp 15)) (ix := (.tmp 16)) (ki := .i64) (iz := h) (d := (some 17)) (k := 3) K rfl K K K K ((fun w hm => (Uz (u w hm))) a4 (hR _ (SP.keeps p))) b3 b4 ?_
   intro b5 b6 c5 d2 hc93
   refine iR 1 5 [(18, (.pointer (some ⟨b5, (b6 + Int.toNat h * Js.sz), none⟩)))] ?_
   refine iS 6 ?_
   refine sC 9 18 b5 (b6 + Int.toNat h * Js.sz) (.string ⟨List.toArray (stT a5).1⟩) 19 (Qk (e := Js) (Qh ((fun w hm => (Uz (u w hm))) a4 (hR _ (SP.keeps p))) c5 b3 b4) c4 (j := 0) rfl) ?_
   refine iR 1 7 [(20, (.string ⟨List.toArray m⟩))] ?_
   refine iS 8 ?_
   refine V0 (op := .eql) (T := 9) (T' := 9) (x := (.tmp 19)) (y := (.tmp 20)) (a := (stT a5).1) (b := m) (r := (.bool ((stT a5).1 == m))) (d := (some 21)) (k := 7) K rfl K K rfl ?_
   refine iF ?_
   refine V1 K (o := (.tmp 21)) K (b := ((stT a5).1 == m)) K (fun a7 => ?_) (fun a7 => ?_)
   ·have H := ct H a7
    refine aQ ?_
    refine aR ?_
    refine iR 1 1 [(22, (pt q 4))] ?_
    refine iS 2 ?_
    refine sL 22 22 q 4 0 (.slice A6 (List.length (List.map stT d9)) c7) 23 p rfl ?_
    refine iR 1 3 [(24, (.int .i64 h))] ?_
    obtain ⟨f, b7, b8, a8, H⟩ := Rc H
    refine iS 4 ?_
    refine Ul stT (e := Js) (l := d9) (A := A6) (c := c7) (T := 22) (E := 44) (x := (.tmp 23)) (ix := (.tmp 24)) (ki := .i64) (iz := h) (d := (some 25)) (k := 3) K rfl K K K K ((fun w hm => (Uz (u w hm))) a4 (hR _ (SP.keeps p))) b7 b8 ?_
    intro c6 c8 c9 d3 hc104
    refine iS 5 ?_
    refine Qi.cells (t := 44) (x := (.tmp 25)) (b := c6) (off := (c8 + Int.toNat h * Js.sz)) (xs := [(.string ⟨List.toArray (stT f).1⟩), (.int .i64 (stT f).2.1), (.int .i64 (stT f).2.2.1), (.slice f.2.2.2.1.1 (List.length (stT f).2.2.2.1) f.2.2.2.1.2.1), (.slice f.2.2.2.2.1 (List.length (stT f).2.2.2.2) f.2.2.2.2.2.1)]) (d := (some 26)) (k := 4) K rfl K K K (Z2 (e := Js) (Qh ((fun w hm => (Uz (u w hm))) a4 (hR _ (SP.keeps p))) c9 b7 b8) a8 rfl) ?_
    refine iS 6 ?_
    refine Qi.store (t := 44) (x := (.tmp 4)) (y := (.tmp 26)) (g := s) (off := 0) (i := 1) (v := (.agg #[(.string ⟨List.toArray (stT f).1⟩), (.int .i64 (stT f).2.1), (.int .i64 (stT f).2.2.1), (.slice f.2.2.2.1.1 (List.length (stT f).2.2.2.1) f.2.2.2.1.2.1), (.slice f.2.2.2.2.1 (List.length (stT f).2.2.2.2) f.2.2.2.2.2.1)])) (cs' := #[(.string ⟨List.toArray (stT f).1⟩), (.int .i64 (stT f).2.1), (.int .i64 (stT f).2.2.1), (.slice f.2.2.2.1.1 (List.length (stT f).2.2.2.1) f.2.2.2.1.2.1), (.slice f.2.2.2.2.1 (List.length (stT f).2.2.2.2) f.2.2.2.2.2.1)]) (d := none) (k := 5) K rfl K K p rfl K ?_
    intro d4 b9
    refine iR 1 7 [(5, (.bool true))] ?_
    refine iF ?_
    refine At.ret K ?_
    refine ⟨(.tuple #[(.agg #[(.string ⟨List.toArray (stT f).1⟩), (.int .i64 (stT f).2.1), (.int .i64 (stT f).2.2.1), (.slice f.2.2.2.1.1 (List.length (stT f).2.2.2.1) f.2.2.2.1.2.1), (.slice f.2.2.2.2.1 (List.length (stT f).2.2.2.2) f.2.2.2.2.2.1)]), (.bool true)]), C2 K (J4 (a := 4) (t := 44) (g := s) (off := 0) K (SP.get b9 (i := 1) rfl) K) (R4 (t := 5) K), ?_⟩
    obtain rfl := Qe H
    exact ⟨f.2.2.2.1.1, f.2.2.2.1.2.1, f.2.2.2.2.1, f.2.2.2.2.2.1, rfl, (fun w hm => (Uz ((fun w hm => (dp1 (dp2 (dp2 (dp2 (Bx (u w hm) a8)))))) w hm))), (fun w hm => (Uz ((fun w hm => (dp2 (dp2 (dp2 (dp2 (Bx (u w hm) a8)))))) w hm))), SP.sel b9 [] rfl rfl⟩
   ·have H := cf H a7
    refine At.skip K ?_
    refine aR ?_
    refine iR 3 3 [(12, (.int .i64 h)), (13, (.int .i64 (IntKind.wrap .i64 (h + 1)))), (6, (.int .i64 (IntKind.wrap .i64 (h + 1))))] ?_
    refine iF ?_
    exact ⟨(IntKind.wrap .i64 (h + 1)), ⟨K, K, K, K, trivial⟩, SP.sel p [0, 1] rfl rfl, H⟩
  ·have H := cf H a6
   refine At.exit K (id := 0) K ?_
   refine aQ ?_
   refine aR ?_
   refine iR 1 1 [(27, (.agg #[(.string ⟨List.toArray ([] : List UInt8)⟩), (.int .i64 0), (.int .i64 0), (.slice none (List.length ([] : List (Int × Int))) 0), (.slice none (List.length ([] : List ((List UInt8) × (List UInt8) × Int))) 0)]))] ?_
   refine iS 2 ?_
   refine Qi.store (t := 44) (x := (.tmp 4)) (y := (.tmp 27)) (g := s) (off := 0) (i := 1) (v := (.agg #[(.string ⟨List.toArray ([] : List UInt8)⟩), (.int .i64 0), (.int .i64 0), (.slice none (List.length ([] : List (Int × Int))) 0), (.slice none (List.length ([] : List ((List UInt8) × (List UInt8) × Int))) 0)])) (cs' := #[(.string ⟨List.toArray ([] : List UInt8)⟩), (.int .i64 0), (.int .i64 0), (.slice none (List.length ([] : List (Int × Int))) 0), (.slice none (List.length ([] : List ((List UInt8) × (List UInt8) × Int))) 0)]) (d := none) (k := 1) K rfl K K p rfl K ?_
   intro d5 c0
   refine iR 1 3 [(5, (.bool false))] ?_
   refine iF ?_
   refine At.ret K ?_
   refine ⟨(.tuple #[(.agg #[(.string ⟨List.toArray ([] : List UInt8)⟩), (.int .i64 0), (.int .i64 0), (.slice none (List.length ([] : List (Int × Int))) 0), (.slice none (List.length ([] : List ((List UInt8) × (List UInt8) × Int))) 0)]), (.bool false)]), C2 K (J4 (a := 4) (t := 44) (g := s) (off := 0) K (SP.get c0 (i := 1) rfl) K) (R4 (t := 5) K), ?_⟩
   obtain rfl := Qe H
   exact ⟨none, 0, none, 0, rfl, (fun w _ => RdT.nil (Qj (Qc .u32) (Qc .i64)) w), (fun w _ => RdT.nil (Qj Qx (Qj Qx (Qc .i64))) w), SP.sel c0 [] rfl rfl⟩
 ·exact ⟨0, ⟨K, K, K, K, trivial⟩, SP.sel c3 [0, 1] rfl rfl, H⟩
def Xl (d : Int → Option ((List UInt8) × (List UInt8) × Int × Bool)) (b : (List ((List UInt8) × (List UInt8) × Int))) (e : (List UInt8)) (a : Int) : Option ((List UInt8) × (List UInt8) × Int × Bool) :=
  (cond (decide (a < ((List.length b : Nat) : Int))) ((idx b a).bind fun f => (cond (f.1 == e) ((idx b a).bind fun c => (some (c.1, c.2.1, c.2.2, true))) (d (IntKind.wrap .i64 (a + 1))))) (some (([] : List UInt8), ([] : List UInt8), 0, false)))
def Xm (a : (List ((List UInt8) × (List UInt8) × Int))) (b : (List UInt8)) : Nat → Int → Option ((List UInt8) × (List UInt8) × Int × Bool)
  | 0, _ => none
  | f + 1, c => Xl  (Xm a b f) a b c
def Nw (c : (List UInt8)) (d : Int) (e : Int) (f : (List (Int × Int))) (a : (List ((List UInt8) × (List UInt8) × Int))) (b : (List UInt8)) : Option ((List UInt8) × (List UInt8) × Int × Bool) :=
  (Xm a b Zj 0)
theorem B0 (A5 : Option Addr) (c6 : Nat) (A9 : Option Addr) (s : Nat) (a2 : (List UInt8)) (a3 : Int) (a4 : Int) (a1 : (List (Int × Int))) (h : (List ((List UInt8) × (List UInt8) × Int))) (p : (List UInt8)) (w0 : World) (c7 : RdT (Qj (Qc .u32) (Qc .i64)) w0 A5 c6 a1) (a5 : RdT (Qj Qx (Qj Qx (Qc .i64))) w0 A9 s h) (r : ((List UInt8) × (List UInt8) × Int × Bool)) (H : Nw a2 a3 a4 a1 h p = some r) :
  Calls Tryz.prog 29 #[(.agg #[(.string ⟨List.toArray a2⟩), (.int .i64 a3), (.int .i64 a4), (.slice A5 (List.length a1) c6), (.slice A9 (List.length h) s)]), (.string ⟨List.toArray p⟩)] w0 (fun e w' => e = .returned (.tuple #[(.agg #[(.string ⟨List.toArray r.1⟩), (.string ⟨List.toArray r.2.1⟩), (.int .i64 r.2.2.1)]), (.bool r.2.2.2)]) ∧ SP [] w0 w' []) := by
 unfold Nw at H
 refine Qs (n := 28) Tryz.func29 K K K ?_
 have b7 := Q0 [] w0
 refine aQ ?_
 refine aR ?_
 refine iS 1 ?_
 refine Vn (t := 44) (x := (.tmp 0)) (v := (.agg #[(.string ⟨List.toArray a2⟩), (.int .i64 a3), (.int .i64 a4), (.slice A5 (List.length a1) c6), (.slice A9 (List.length h) s)])) (d := (some 2)) (k := 0) K rfl K b7 ?_
 intro u c8 b8
 refine iS 2 ?_
 refine Qi.alloc (t := 48) (z := (.agg #[(.string ⟨List.toArray ([] : List UInt8)⟩), (.string ⟨List.toArray ([] : List UInt8)⟩), (.int .i64 0)])) (d := (some 4)) (k := 1) K rfl K b8 ?_
 intro a0 c9 b9
 refine iR 1 3 [(5, (.bool false))] ?_
 refine iF ?_
 refine aQ ?_
 refine aQ ?_
 refine aR ?_
 refine iR 1 1 [(6, (.int .i64 0))] ?_
 refine iF ?_
 refine Z1 K (id := 0) K ?_
 refine Nl K (fun f1 ρ w => ∃ (f : Int), V6 ρ [(1, (.string ⟨List.toArray p⟩)), (2, (pt u 0)), (4, (pt a0 0)), (6, (.int .i64 f))] ∧ SP [] w0 w [Qn u 44 #[(.string ⟨List.toArray a2⟩), (.int .i64 a3), (.int .i64 a4), (.slice A5 (List.length a1) c6), (.slice A9 (List.length h) s)], Qn a0 48 #[(.string ⟨List.toArray ([] : List UInt8)⟩), (.string ⟨List.toArray ([] : List UInt8)⟩), (.int .i64 0)]] ∧ Xm h p f1 f = some r) (by rintro ρ w ⟨f, hk, hs, H⟩; cases H) ?_ Zj ?_
 ·rintro f1 ρ d0 ⟨f, hk, q, H⟩
  refine At.known [(1, (.string ⟨List.toArray p⟩)), (2, (pt u 0)), (4, (pt a0 0)), (6, (.int .i64 f))] hk ?_
  replace H := (show Xl (Xm h p f1) h p f = some r from H)
  unfold Xl at H
  refine aQ ?_
  refine aQ ?_
  refine aR ?_
  refine iR 2 2 [(7, (.int .i64 f)), (8, (pt u 4))] ?_
  refine iS 3 ?_
  refine sL 42 8 u 4 0 (.slice A9 (List.length h) s) 9 q rfl ?_
  refine iR 2 5 [(10, (.int .i64 ((List.length h : Nat) : Int))), (11, (.bool (decide (f < ((List.length h : Nat) : Int)))))] ?_
  refine iF ?_
  refine V1 K (o := (.tmp 11)) K (b := (decide (f < ((List.length h : Nat) : Int)))) K (fun a7 => ?_) (fun a7 => ?_)
  ·have H := ct H a7
   refine At.skip K ?_
   refine aQ ?_
   refine Z1 K (id := 1) K ?_
   refine aQ ?_
   refine aR ?_
   refine iR 1 1 [(14, (pt u 4))] ?_
   refine iS 2 ?_
   refine sL 42 14 u 4 0 (.slice A9 (List.length h) s) 15 q rfl ?_
   refine iR 1 3 [(16, (.int .i64 f))] ?_
   obtain ⟨a6, a9, b0, c0, H⟩ := Qo H
   refine iS 4 ?_
   refine Vi (e := (Qj Qx (Qj Qx (Qc .i64)))) (l := h) (A := A9) (c := s) (T := 42) (E := 48) (x := (.tmp 15)) (ix := (.tmp 16)) (ki := .i64) (iz := f) (d := (some 17)) (k := 3) K rfl K K K K (RdT.sp a5 q) a9 b0 ?_
   intro b1 b2 c1 d1 hc84
   refine iR 1 5 [(18, (.pointer (some ⟨b1, (b2 + Int.toNat f * (Qj Qx (Qj Qx (Qc .i64))).sz), none⟩)))] ?_
   refine iS 6 ?_
   refine sC 9 18 b1 (b2 + Int.toNat f * (Qj Qx (Qj Qx (Qc .i64))).sz) (.string ⟨List.toArray a6.1⟩) 19 (Qk (e := (Qj Qx (Qj Qx (Qc .i64)))) (Qh (RdT.sp a5 q) c1 a9 b0) c0 (j := 0) rfl) ?_
   refine iR 1 7 [(20, (.string ⟨List.toArray p⟩))] ?_
   refine iS 8 ?_
   refine V0 (op := .eql) (T := 9) (T' := 9) (x := (.tmp 19)) (y := (.tmp 20)) (a := a6.1) (b := p) (r := (.bool (a6.1 == p))) (d := (some 21)) (k := 7) K rfl K K rfl ?_
   refine iF ?_
   refine V1 K (o := (.tmp 21)) K (b := (a6.1 == p)) K (fun a8 => ?_) (fun a8 => ?_)
   ·have H := ct H a8
    refine aQ ?_
    refine aR ?_
    refine iR 1 1 [(22, (pt u 4))] ?_
    refine iS 2 ?_
    refine sL 42 22 u 4 0 (.slice A9 (List.length h) s) 23 q rfl ?_
    refine iR 1 3 [(24, (.int .i64 f))] ?_
    obtain ⟨m, b3, b4, c2, H⟩ := Qo H
    refine iS 4 ?_
    refine Vi (e := (Qj Qx (Qj Qx (Qc .i64)))) (l := h) (A := A9) (c := s) (T := 42) (E := 48) (x := (.tmp 23)) (ix := (.tmp 24)) (ki := .i64) (iz := f) (d := (some 25)) (k := 3) K rfl K K K K (RdT.sp a5 q) b3 b4 ?_
    intro c3 c4 c5 d2 hc94
    refine iS 5 ?_
    refine Qi.cells (t := 48) (x := (.tmp 25)) (b := c3) (off := (c4 + Int.toNat f * (Qj Qx (Qj Qx (Qc .i64))).sz)) (xs := [(.string ⟨List.toArray m.1⟩), (.string ⟨List.toArray m.2.1⟩), (.int .i64 m.2.2)]) (d := (some 26)) (k := 4) K rfl K K K (Z2 (e := (Qj Qx (Qj Qx (Qc .i64)))) (Qh (RdT.sp a5 q) c5 b3 b4) c2 rfl) ?_
    refine iS 6 ?_
    refine Qi.store (t := 48) (x := (.tmp 4)) (y := (.tmp 26)) (g := a0) (off := 0) (i := 1) (v := (.agg #[(.string ⟨List.toArray m.1⟩), (.string ⟨List.toArray m.2.1⟩), (.int .i64 m.2.2)])) (cs' := #[(.string ⟨List.toArray m.1⟩), (.string ⟨List.toArray m.2.1⟩), (.int .i64 m.2.2)]) (d := none) (k := 5) K rfl K K q rfl K ?_
    intro d3 b5
    refine iR 1 7 [(5, (.bool true))] ?_
    refine iF ?_
    refine At.ret K ?_
    refine ⟨(.tuple #[(.agg #[(.string ⟨List.toArray m.1⟩), (.string ⟨List.toArray m.2.1⟩), (.int .i64 m.2.2)]), (.bool true)]), C2 K (J4 (a := 4) (t := 48) (g := a0) (off := 0) K (SP.get b5 (i := 1) rfl) K) (R4 (t := 5) K), ?_⟩
    obtain rfl := Qe H
    exact ⟨rfl, SP.sel b5 [] rfl rfl⟩
   ·have H := cf H a8
    refine At.skip K ?_
    refine aR ?_
    refine iR 3 3 [(12, (.int .i64 f)), (13, (.int .i64 (IntKind.wrap .i64 (f + 1)))), (6, (.int .i64 (IntKind.wrap .i64 (f + 1))))] ?_
    refine iF ?_
    exact ⟨(IntKind.wrap .i64 (f + 1)), ⟨K, K, K, K, trivial⟩, SP.sel q [0, 1] rfl rfl, H⟩
  ·have H := cf H a7
   refine At.exit K (id := 0) K ?_
   refine aQ ?_
   refine aR ?_
   refine iR 1 1 [(27, (.agg #[(.string ⟨List.toArray ([] : List UInt8)⟩), (.string ⟨List.toArray ([] : List UInt8)⟩), (.int .i64 0)]))] ?_
   refine iS 2 ?_
   refine Qi.store (t := 48) (x := (.tmp 4)) (y := (.tmp 27)) (g := a0) (off := 0) (i := 1) (v := (.agg #[(.string ⟨List.toArray ([] : List UInt8)⟩), (.string ⟨List.toArray ([] : List UInt8)⟩), (.int .i64 0)])) (cs' := #[(.string ⟨List.toArray ([] : List UInt8)⟩), (.string ⟨List.toArray ([] : List UInt8)⟩), (.int .i64 0)]) (d := none) (k := 1) K rfl K K q rfl K ?_
   intro d4 b6
   refine iR 1 3 [(5, (.bool false))] ?_
   refine iF ?_
   refine At.ret K ?_
   refine ⟨(.tuple #[(.agg #[(.string ⟨List.toArray ([] : List UInt8)⟩), (.string ⟨List.toArray ([] : List UInt8)⟩), (.int .i64 0)]), (.bool false)]), C2 K (J4 (a := 4) (t := 48) (g := a0) (off := 0) K (SP.get b6 (i := 1) rfl) K) (R4 (t := 5) K), ?_⟩
   obtain rfl := Qe H
   exact ⟨rfl, SP.sel b6 [] rfl rfl⟩
 ·exact ⟨0, ⟨K, K, K, K, trivial⟩, SP.sel b9 [0, 1] rfl rfl, H⟩
def Ya (f : Int → Int → Option (Bool)) (g : Int → Int → Option (Bool)) (h : Int) (b : Qg) (c : Int) (a : Int) (i : Bool) : Option (Bool) :=
  (cond i ((idx b.2.2.2.2 a).bind fun d => ((idx b.2.2.2.2 a).bind fun e => (g (IntKind.wrap .i64 ((IntKind.wrap .i64 (c + (if 3000 < ((List.length d.1 : Nat) : Int) then 3000 else ((List.length d.1 : Nat) : Int)))) + (if 3000 < ((List.length e.2.1 : Nat) : Int) then 3000 else ((List.length e.2.1 : Nat) : Int)))) (IntKind.wrap .i64 (a + 1))))) (f c (IntKind.wrap .i64 (h + 1))))
def Z9 (d : Int → Int → Option (Bool)) (e : Int → Int → Option (Bool)) (f : Int) (a : Qg) (b : Int) (c : Int) : Option (Bool) :=
  (cond (decide (c < ((List.length a.2.2.2.2 : Nat) : Int))) (Ya d e f a b c (decide (b < 3000))) (Ya d e f a b c false))
def Zh (a : Int → Int → Option (Bool)) (b : Int) (c : Qg) : Nat → Int → Int → Option (Bool)
  | 0, _, _ => none
  | f + 1, d, e => Z9 a (Zh a b c f) b c d e
def Yb (d : Int → Int → Option (Bool)) (e : (List Qg)) (b : Int) (c : Int) (f : Bool) : Option (Bool) :=
  (cond f ((idx e c).bind fun a => (Zh d c a Zj (IntKind.wrap .i64 ((IntKind.wrap .i64 ((IntKind.wrap .i64 (b + (if 3000 < ((List.length a.1 : Nat) : Int) then 3000 else ((List.length a.1 : Nat) : Int)))) + ((List.length a.2.2.2.1 : Nat) : Int))) + ((List.length a.2.2.2.2 : Nat) : Int))) 0)) (some ((decide (b ≥ 3000)))))
def Xn (d : Int → Int → Option (Bool)) (a : (List Qg)) (b : Int) (c : Int) : Option (Bool) :=
  (cond (decide (c < ((List.length a : Nat) : Int))) (Yb d a b c (decide (b < 3000))) (Yb d a b c false))
def Q7 (a : (List Qg)) : Nat → Int → Int → Option (Bool)
  | 0, _, _ => none
  | f + 1, b, c => Xn  (Q7 a f) a b c
def Nx (b : Int) (c : Int) (d : Int) (e : Int) (a : (List Qg)) : Option (Bool) :=
  (Q7 a Zj ((List.length a : Nat) : Int) 0)
theorem B1 (A6 : Option Addr) (c7 : Nat) (a4 : Int) (a5 : Int) (a6 : Int) (a7 : Int) (d9 : (List Va)) (w0 : World) (a8 : (dDS Js Ce).ok w0 (A6, c7, d9)) (r : (Bool)) (H : Nx a4 a5 a6 a7 (List.map stT d9) = some r) :
  Calls Tryz.prog 16 #[(.agg #[(.int .i64 a4), (.int .i64 a5), (.int .i64 a6), (.int .i64 a7), (.slice A6 (List.length (List.map stT d9)) c7)])] w0 (fun e w' => e = .returned (.bool r) ∧ SP [] w0 w' []) := by
 unfold Nx at H
 refine Qs (n := 72) Tryz.func16 K K K ?_
 have d5 := Q0 [] w0
 refine aQ ?_
 refine aR ?_
 refine iS 1 ?_
 refine Vn (t := 24) (x := (.tmp 0)) (v := (.agg #[(.int .i64 a4), (.int .i64 a5), (.int .i64 a6), (.int .i64 a7), (.slice A6 (List.length (List.map stT d9)) c7)])) (d := (some 1)) (k := 0) K rfl K d5 ?_
 intro u g8 c1
 refine iR 1 2 [(2, (.bool false))] ?_
 refine iF ?_
 refine aQ ?_
 refine aR ?_
 refine iR 1 1 [(7, (pt u 4))] ?_
 refine iS 2 ?_
 refine sL 22 7 u 4 0 (.slice A6 (List.length (List.map stT d9)) c7) 8 c1 rfl ?_
 refine iR 2 4 [(9, (.int .i64 ((List.length (List.map stT d9) : Nat) : Int))), (3, (.int .i64 ((List.length (List.map stT d9) : Nat) : Int)))] ?_
 refine iF ?_
 refine aQ ?_
 refine aQ ?_
 refine aR ?_
 refine iR 1 1 [(4, (.int .i64 0))] ?_
 refine iF ?_
 refine Z1 K (id := 0) K ?_
 refine Nl K (fun a3 ρ w => ∃ (q : Int) (h : Int), V6 ρ [(1, (pt u 0)), (3, (.int .i64 q)), (4, (.int .i64 h))] ∧ SP [] w0 w [Qn u 24 #[(.int .i64 a4), (.int .i64 a5), (.int .i64 a6), (.int .i64 a7), (.slice A6 (List.length (List.map stT d9)) c7)]] ∧ Q7 (List.map stT d9) a3 q h = some r) (by rintro ρ w ⟨q, h, hk, hs, H⟩; cases H) ?_ Zj ?_
 ·rintro a3 ρ g9 ⟨q, h, hk, b5, H⟩
  refine At.known [(1, (pt u 0)), (3, (.int .i64 q)), (4, (.int .i64 h))] hk ?_
  replace H := (show Xn (Q7 (List.map stT d9) a3) (List.map stT d9) q h = some r from H)
  unfold Xn at H
  refine aQ ?_
  refine aQ ?_
  refine At.join (fun ρ w => ∃ (a9 : Bool), V6 ρ [(1, (pt u 0)), (3, (.int .i64 q)), (4, (.int .i64 h)), (18, (.bool a9))] ∧ SP [] w0 w [Qn u 24 #[(.int .i64 a4), (.int .i64 a5), (.int .i64 a6), (.int .i64 a7), (.slice A6 (List.length (List.map stT d9)) c7)]] ∧ Yb (Q7 (List.map stT d9) a3) (List.map stT d9) q h a9 = some r) ?_ ?_
  ·refine aR ?_
   refine iR 2 2 [(10, (.int .i64 h)), (11, (pt u 4))] ?_
   refine iS 3 ?_
   refine sL 22 11 u 4 0 (.slice A6 (List.length (List.map stT d9)) c7) 12 b5 rfl ?_
   refine iR 3 6 [(13, (.int .i64 ((List.length (List.map stT d9) : Nat) : Int))), (14, (.bool (decide (h < ((List.length (List.map stT d9) : Nat) : Int))))), (15, (.bool (decide (h < ((List.length (List.map stT d9) : Nat) : Int)))))] ?_
   refine In.guard (t := 15) (b := (decide (h < ((List.length (List.map stT d9) : Nat) : Int)))) K (fun b6 => ?_) (fun b6 => ?_)
   ·have H := ct H b6
    refine iR 3 9 [(16, (.int .i64 q)), (17, (.bool (decide (q < 3000)))), (18, (.bool (decide (q < 3000))))] ?_
    refine iF ?_
    exact ⟨(decide (q < 3000)), ⟨K, K, K, K, trivial⟩, SP.sel b5 [0] rfl rfl, H⟩
   ·have H := cf H b6
    refine iR 3 9 [(16, undef), (17, undef), (18, (.bool false))] ?_
    refine iF ?_
    exact ⟨false, ⟨K, K, K, K, trivial⟩, SP.sel b5 [0] rfl rfl, H⟩
  ·rintro ρ h1 ⟨a9, hk, b1, H⟩
   unfold Yb at H
   first | refine At.known [(1, (pt u 0)), (3, (.int .i64 q)), (4, (.int .i64 h)), (18, (.bool a9))] hk ?_ | rw [← Qv (l := [(1, (pt u 0)), (3, (.int .i64 q)), (4, (.int .i64 h)), (18, (.bool a9))]) hk]
   refine V1 K (o := (.tmp 18)) K (b := a9) K (fun b7 => ?_) (fun b7 => ?_)
   ·have H := ct H b7
    refine At.skip K ?_
    refine aQ ?_
    refine Z1 K (id := 1) K ?_
    refine aQ ?_
    refine aR ?_
    refine iR 1 1 [(21, (pt u 4))] ?_
    refine iS 2 ?_
    refine sL 22 21 u 4 0 (.slice A6 (List.length (List.map stT d9)) c7) 22 b1 rfl ?_
    refine iR 1 3 [(23, (.int .i64 h))] ?_
    obtain ⟨a, c2, c3, b2, H⟩ := Rc H
    refine iS 4 ?_
    refine Ul stT (e := Js) (l := d9) (A := A6) (c := c7) (T := 22) (E := 44) (x := (.tmp 22)) (ix := (.tmp 23)) (ki := .i64) (iz := h) (d := (some 24)) (k := 3) K rfl K K K K (RdT.sp (Uz a8) b1) c2 c3 ?_
    intro d6 d7 d8 h2 hc480
    refine iS 5 ?_
    refine Qi.cells (t := 44) (x := (.tmp 24)) (b := d6) (off := (d7 + Int.toNat h * Js.sz)) (xs := [(.string ⟨List.toArray (stT a).1⟩), (.int .i64 (stT a).2.1), (.int .i64 (stT a).2.2.1), (.slice a.2.2.2.1.1 (List.length (stT a).2.2.2.1) a.2.2.2.1.2.1), (.slice a.2.2.2.2.1 (List.length (stT a).2.2.2.2) a.2.2.2.2.2.1)]) (d := (some 25)) (k := 4) K rfl K K K (Z2 (e := Js) (Qh (RdT.sp (Uz a8) b1) d8 c2 c3) b2 rfl) ?_
    refine iS 6 ?_
    refine Qi.alloc (t := 44) (z := (.agg #[(.string ⟨List.toArray ([] : List UInt8)⟩), (.int .i64 0), (.int .i64 0), (.slice none (List.length ([] : List (Int × Int))) 0), (.slice none (List.length ([] : List ((List UInt8) × (List UInt8) × Int))) 0)])) (d := (some 5)) (k := 5) K rfl K b1 ?_
    intro m h3 e0
    refine iS 7 ?_
    refine Qi.store (t := 44) (x := (.tmp 5)) (y := (.tmp 25)) (g := m) (off := 0) (i := 1) (v := (.agg #[(.string ⟨List.toArray (stT a).1⟩), (.int .i64 (stT a).2.1), (.int .i64 (stT a).2.2.1), (.slice a.2.2.2.1.1 (List.length (stT a).2.2.2.1) a.2.2.2.1.2.1), (.slice a.2.2.2.2.1 (List.length (stT a).2.2.2.2) a.2.2.2.2.2.1)])) (cs' := #[(.string ⟨List.toArray (stT a).1⟩), (.int .i64 (stT a).2.1), (.int .i64 (stT a).2.2.1), (.slice a.2.2.2.1.1 (List.length (stT a).2.2.2.1) a.2.2.2.1.2.1), (.slice a.2.2.2.2.1 (List.length (stT a).2.2.2.2) a.2.2.2.2.2.1)]) (d := none) (k := 6) K rfl K K e0 rfl K ?_
    intro h4 b3
    refine iF ?_
    refine aQ ?_
    refine aR ?_
    refine iR 2 2 [(26, (.int .i64 q)), (27, (pt m 0))] ?_
    refine iS 3 ?_
    refine sL 9 27 m 0 1 (.string ⟨List.toArray (stT a).1⟩) 28 b3 rfl ?_
    refine iR 4 7 [(29, (.int .i64 ((List.length (stT a).1 : Nat) : Int))), (30, (.int .i64 (if 3000 < ((List.length (stT a).1 : Nat) : Int) then 3000 else ((List.length (stT a).1 : Nat) : Int)))), (31, (.int .i64 (IntKind.wrap .i64 (q + (if 3000 < ((List.length (stT a).1 : Nat) : Int) then 3000 else ((List.length (stT a).1 : Nat) : Int)))))), (32, (pt m 3))] ?_
    refine iS 8 ?_
    refine sL 41 32 m 3 1 (.slice a.2.2.2.1.1 (List.length (stT a).2.2.2.1) a.2.2.2.1.2.1) 33 b3 rfl ?_
    refine iR 3 11 [(34, (.int .i64 ((List.length (stT a).2.2.2.1 : Nat) : Int))), (35, (.int .i64 (IntKind.wrap .i64 ((IntKind.wrap .i64 (q + (if 3000 < ((List.length (stT a).1 : Nat) : Int) then 3000 else ((List.length (stT a).1 : Nat) : Int)))) + ((List.length (stT a).2.2.2.1 : Nat) : Int))))), (36, (pt m 4))] ?_
    refine iS 12 ?_
    refine sL 42 36 m 4 1 (.slice a.2.2.2.2.1 (List.length (stT a).2.2.2.2) a.2.2.2.2.2.1) 37 b3 rfl ?_
    refine iR 3 15 [(38, (.int .i64 ((List.length (stT a).2.2.2.2 : Nat) : Int))), (39, (.int .i64 (IntKind.wrap .i64 ((IntKind.wrap .i64 ((IntKind.wrap .i64 (q + (if 3000 < ((List.length (stT a).1 : Nat) : Int) then 3000 else ((List.length (stT a).1 : Nat) : Int)))) + ((List.length (stT a).2.2.2.1 : Nat) : Int))) + ((List.length (stT a).2.2.2.2 : Nat) : Int))))), (3, (.int .i64 (IntKind.wrap .i64 ((IntKind.wrap .i64 ((IntKind.wrap .i64 (q + (if 3000 < ((List.length (stT a).1 : Nat) : Int) then 3000 else ((List.length (stT a).1 : Nat) : Int)))) + ((List.length (stT a).2.2.2.1 : Nat) : Int))) + ((List.length (stT a).2.2.2.2 : Nat) : Int)))))] ?_
    refine iF ?_
    refine aQ ?_
    refine aR ?_
    refine iR 1 1 [(6, (.int .i64 0))] ?_
    refine iF ?_
    refine Z1 K (id := 2) K ?_
    refine Nl K (fun b4 ρ w => ∃ (p : Int) (f : Int), V6 ρ [(1, (pt u 0)), (3, (.int .i64 p)), (4, (.int .i64 h)), (5, (pt m 0)), (6, (.int .i64 f))] ∧ SP [] w0 w [Qn u 24 #[(.int .i64 a4), (.int .i64 a5), (.int .i64 a6), (.int .i64 a7), (.slice A6 (List.length (List.map stT d9)) c7)], Qn m 44 #[(.string ⟨List.toArray (stT a).1⟩), (.int .i64 (stT a).2.1), (.int .i64 (stT a).2.2.1), (.slice a.2.2.2.1.1 (List.length (stT a).2.2.2.1) a.2.2.2.1.2.1), (.slice a.2.2.2.2.1 (List.length (stT a).2.2.2.2) a.2.2.2.2.2.1)]] ∧ Zh (Q7 (List.map stT d9) a3) h (stT a) b4 p f = some r) (by rintro ρ w ⟨p, f, hk, hs, H⟩; cases H) ?_ Zj ?_
    ·rintro b4 ρ h5 ⟨p, f, hk, b8, H⟩
     refine At.known [(1, (pt u 0)), (3, (.int .i64 p)), (4, (.int .i64 h)), (5, (pt m 0)), (6, (.int .i64 f))] hk ?_
     replace H := (show Z9 (Q7 (List.map stT d9) a3) (Zh (Q7 (List.map stT d9) a3) h (stT a) b4) h (stT a) p f = some r from H)
     unfold Z9 at H
     refine aQ ?_
     refine aQ ?_
     refine At.join (fun ρ w => ∃ (b0 : Bool), V6 ρ [(1, (pt u 0)), (3, (.int .i64 p)), (4, (.int .i64 h)), (5, (pt m 0)), (6, (.int .i64 f)), (48, (.bool b0))] ∧ SP [] w0 w [Qn u 24 #[(.int .i64 a4), (.int .i64 a5), (.int .i64 a6), (.int .i64 a7), (.slice A6 (List.length (List.map stT d9)) c7)], Qn m 44 #[(.string ⟨List.toArray (stT a).1⟩), (.int .i64 (stT a).2.1), (.int .i64 (stT a).2.2.1), (.slice a.2.2.2.1.1 (List.length (stT a).2.2.2.1) a.2.2.2.1.2.1), (.slice a.2.2.2.2.1 (List.length (stT a).2.2.2.2) a.2.2.2.2.2.1)]] ∧ Ya (Q7 (List.map stT d9) a3) (Zh (Q7 (List.map stT d9) a3) h (stT a) b4) h (stT a) p f b0 = some r) ?_ ?_
     ·refine aR ?_
      refine iR 2 2 [(40, (.int .i64 f)), (41, (pt m 4))] ?_
      refine iS 3 ?_
      refine sL 42 41 m 4 1 (.slice a.2.2.2.2.1 (List.length (stT a).2.2.2.2) a.2.2.2.2.2.1) 42 b8 rfl ?_
      refine iR 3 6 [(43, (.int .i64 ((List.length (stT a).2.2.2.2 : Nat) : Int))), (44, (.bool (decide (f < ((List.length (stT a).2.2.2.2 : Nat) : Int))))), (45, (.bool (decide (f < ((List.length (stT a).2.2.2.2 : Nat) : Int)))))] ?_
      refine In.guard (t := 45) (b := (decide (f < ((List.length (stT a).2.2.2.2 : Nat) : Int)))) K (fun b9 => ?_) (fun b9 => ?_)
      ·have H := ct H b9
       refine iR 3 9 [(46, (.int .i64 p)), (47, (.bool (decide (p < 3000)))), (48, (.bool (decide (p < 3000))))] ?_
       refine iF ?_
       exact ⟨(decide (p < 3000)), ⟨K, K, K, K, K, K, trivial⟩, SP.sel b8 [0, 1] rfl rfl, H⟩
      ·have H := cf H b9
       refine iR 3 9 [(46, undef), (47, undef), (48, (.bool false))] ?_
       refine iF ?_
       exact ⟨false, ⟨K, K, K, K, K, K, trivial⟩, SP.sel b8 [0, 1] rfl rfl, H⟩
     ·rintro ρ h6 ⟨b0, hk, c4, H⟩
      unfold Ya at H
      first | refine At.known [(1, (pt u 0)), (3, (.int .i64 p)), (4, (.int .i64 h)), (5, (pt m 0)), (6, (.int .i64 f)), (48, (.bool b0))] hk ?_ | rw [← Qv (l := [(1, (pt u 0)), (3, (.int .i64 p)), (4, (.int .i64 h)), (5, (pt m 0)), (6, (.int .i64 f)), (48, (.bool b0))]) hk]
      refine V1 K (o := (.tmp 48)) K (b := b0) K (fun c0 => ?_) (fun c0 => ?_)
      ·have H := ct H c0
       refine At.skip K ?_
       refine aQ ?_
       refine Z1 K (id := 3) K ?_
       obtain ⟨s, c5, c6, e1, H⟩ := Qo H
       obtain ⟨a0, c8, c9, e2, H⟩ := Qo H
       refine aG [GEq (.int .i64 p), GEq (pt m 4), GEq (.slice a.2.2.2.2.1 (List.length (stT a).2.2.2.2) a.2.2.2.2.2.1), GEq (.int .i64 f), Vr a.2.2.2.2.1 (Qj Qx (Qj Qx (Qc .i64))).sz f, Vr a.2.2.2.2.1 (Qj Qx (Qj Qx (Qc .i64))).sz f, GEq (.string ⟨List.toArray s.1⟩), GEq (.int .i64 ((List.length s.1 : Nat) : Int)), GEq (.int .i64 (if 3000 < ((List.length s.1 : Nat) : Int) then 3000 else ((List.length s.1 : Nat) : Int))), GEq (.int .i64 (IntKind.wrap .i64 (p + (if 3000 < ((List.length s.1 : Nat) : Int) then 3000 else ((List.length s.1 : Nat) : Int))))), GEq (pt m 4), GEq (.slice a.2.2.2.2.1 (List.length (stT a).2.2.2.2) a.2.2.2.2.2.1), GEq (.int .i64 f), Vr a.2.2.2.2.1 (Qj Qx (Qj Qx (Qc .i64))).sz f, GElem a.2.2.2.2.1 (Qj Qx (Qj Qx (Qc .i64))).sz f 1, GEq (.string ⟨List.toArray a0.2.1⟩), GEq (.int .i64 ((List.length a0.2.1 : Nat) : Int)), GEq (.int .i64 (if 3000 < ((List.length a0.2.1 : Nat) : Int) then 3000 else ((List.length a0.2.1 : Nat) : Int))), GEq (.int .i64 (IntKind.wrap .i64 ((IntKind.wrap .i64 (p + (if 3000 < ((List.length s.1 : Nat) : Int) then 3000 else ((List.length s.1 : Nat) : Int)))) + (if 3000 < ((List.length a0.2.1 : Nat) : Int) then 3000 else ((List.length a0.2.1 : Nat) : Int))))), GEq (.int .i64 (IntKind.wrap .i64 ((IntKind.wrap .i64 (p + (if 3000 < ((List.length s.1 : Nat) : Int) then 3000 else ((List.length s.1 : Nat) : Int)))) + (if 3000 < ((List.length a0.2.1 : Nat) : Int) then 3000 else ((List.length a0.2.1 : Nat) : Int)))))] [] (tG [] w0 [Qn u 24 #[(.int .i64 a4), (.int .i64 a5), (.int .i64 a6), (.int .i64 a7), (.slice A6 (List.length (List.map stT d9)) c7)], Qn m 44 #[(.string ⟨List.toArray (stT a).1⟩), (.int .i64 (stT a).2.1), (.int .i64 (stT a).2.2.1), (.slice a.2.2.2.1.1 (List.length (stT a).2.2.2.1) a.2.2.2.1.2.1), (.slice a.2.2.2.2.1 (List.length (stT a).2.2.2.2) a.2.2.2.2.2.1)]] [([], [])]) 20 0 ⟨trivial, SP.drew c4⟩ ?_ ?_
       iterate 20 refine And.intro ?_ ?_
       exact trivial
       ·exact oV (hC (hS 3 (.int .i64 p)) (h0)) (.int .i64 p)
       ·exact oV (hC (hS 5 (pt m 0)) (h0)) (pt m 4)
       ·refine oL 0 ?_
        ·rintro ρ' w' hs a1 ⟨h7, e3⟩
         refine kM (kc (kA a1 1 52) k0) fun a2 => ?_
         refine sL 42 52 m 4 1 (.slice a.2.2.2.2.1 (List.length (stT a).2.2.2.2) a.2.2.2.2.2.1) 53 e3 rfl ?_
         exact eK a2
       ·exact oV (hC (hS 6 (.int .i64 f)) (h0)) (.int .i64 f)
       ·refine oL 0 ?_
        ·rintro ρ' w' hs a1 ⟨h8, e4⟩
         refine kM (kc (kA a1 2 53) (kc (kA a1 3 54) k0)) fun a2 => ?_
         refine Vi (e := (Qj Qx (Qj Qx (Qc .i64)))) (l := (stT a).2.2.2.2) (A := a.2.2.2.2.1) (c := a.2.2.2.2.2.1) (T := 42) (E := 48) (x := (.tmp 53)) (ix := (.tmp 54)) (ki := .i64) (iz := f) (d := (some 55)) (k := 4) K rfl K K K K (RdT.sp (Uz (dp2 (dp2 (dp2 (dp2 (Bx a8 b2)))))) e4) c5 c6 ?_
         intro e5 e6 e7 h9 hc655
         exact ⟨rfl, _, Qa a2, ⟨e5, e6, e7, rfl⟩⟩
       ·refine oL 0 ?_
        ·rintro ρ' w' hs a1 ⟨i0, i1⟩
         obtain ⟨d0, d1, e8, e9⟩ := a1 4 55 K
         refine kM (kc e9 k0) fun a2 => ?_
         refine Qi.run (k := 5) (v := (.pointer (some ⟨d0, (d1 + Int.toNat f * (Qj Qx (Qj Qx (Qc .i64))).sz), none⟩))) K ?_
         exact ⟨rfl, _, Qa a2, ⟨d0, d1, e8, rfl⟩⟩
       ·refine oL 0 ?_
        ·rintro ρ' w' hs a1 ⟨i2, f0⟩
         obtain ⟨f1, f2, f3, f4⟩ := a1 5 56 K
         refine kM (kc f4 k0) fun a2 => ?_
         refine sC 9 56 f1 (f2 + Int.toNat f * (Qj Qx (Qj Qx (Qc .i64))).sz) (.string ⟨List.toArray s.1⟩) 57 (Qk (e := (Qj Qx (Qj Qx (Qc .i64)))) (Qh (RdT.sp (Uz (dp2 (dp2 (dp2 (dp2 (Bx a8 b2)))))) f0) f3 c5 c6) e1 (j := 0) rfl) ?_
         exact eK a2
       ·exact oV (hC (hA 6 57) (h0)) (.int .i64 ((List.length s.1 : Nat) : Int))
       ·exact oV (hC (hA 7 58) (h0)) (.int .i64 (if 3000 < ((List.length s.1 : Nat) : Int) then 3000 else ((List.length s.1 : Nat) : Int)))
       ·exact oV (hC (hA 0 51) (hC (hA 8 59) (h0))) (.int .i64 (IntKind.wrap .i64 (p + (if 3000 < ((List.length s.1 : Nat) : Int) then 3000 else ((List.length s.1 : Nat) : Int)))))
       ·exact oV (hC (hS 5 (pt m 0)) (h0)) (pt m 4)
       ·refine oL 0 ?_
        ·rintro ρ' w' hs a1 ⟨i3, f5⟩
         refine kM (kc (kA a1 10 61) k0) fun a2 => ?_
         refine sL 42 61 m 4 1 (.slice a.2.2.2.2.1 (List.length (stT a).2.2.2.2) a.2.2.2.2.2.1) 62 f5 rfl ?_
         exact eK a2
       ·exact oV (hC (hS 6 (.int .i64 f)) (h0)) (.int .i64 f)
       ·refine oL 0 ?_
        ·rintro ρ' w' hs a1 ⟨i4, f6⟩
         refine kM (kc (kA a1 11 62) (kc (kA a1 12 63) k0)) fun a2 => ?_
         refine Vi (e := (Qj Qx (Qj Qx (Qc .i64)))) (l := (stT a).2.2.2.2) (A := a.2.2.2.2.1) (c := a.2.2.2.2.2.1) (T := 42) (E := 48) (x := (.tmp 62)) (ix := (.tmp 63)) (ki := .i64) (iz := f) (d := (some 64)) (k := 13) K rfl K K K K (RdT.sp (Uz (dp2 (dp2 (dp2 (dp2 (Bx a8 b2)))))) f6) c8 c9 ?_
         intro f7 f8 f9 i5 hc674
         exact ⟨rfl, _, Qa a2, ⟨f7, f8, f9, rfl⟩⟩
       ·refine oL 0 ?_
        ·rintro ρ' w' hs a1 ⟨i6, i7⟩
         obtain ⟨d2, d3, g0, g1⟩ := a1 13 64 K
         refine kM (kc g1 k0) fun a2 => ?_
         refine Qi.run (k := 14) (v := (.pointer (some ⟨d2, (d3 + Int.toNat f * (Qj Qx (Qj Qx (Qc .i64))).sz + 1), none⟩))) K ?_
         exact ⟨rfl, _, Qa a2, ⟨d2, d3, g0, rfl⟩⟩
       ·refine oL 0 ?_
        ·rintro ρ' w' hs a1 ⟨i8, g2⟩
         obtain ⟨g3, g4, g5, g6⟩ := a1 14 65 K
         refine kM (kc g6 k0) fun a2 => ?_
         refine sC 9 65 g3 (g4 + Int.toNat f * (Qj Qx (Qj Qx (Qc .i64))).sz + 1) (.string ⟨List.toArray a0.2.1⟩) 66 (Qk (e := (Qj Qx (Qj Qx (Qc .i64)))) (Qh (RdT.sp (Uz (dp2 (dp2 (dp2 (dp2 (Bx a8 b2)))))) g2) g5 c8 c9) e2 (j := 1) rfl) ?_
         exact eK a2
       ·exact oV (hC (hA 15 66) (h0)) (.int .i64 ((List.length a0.2.1 : Nat) : Int))
       ·exact oV (hC (hA 16 67) (h0)) (.int .i64 (if 3000 < ((List.length a0.2.1 : Nat) : Int) then 3000 else ((List.length a0.2.1 : Nat) : Int)))
       ·exact oV (hC (hA 9 60) (hC (hA 17 68) (h0))) (.int .i64 (IntKind.wrap .i64 ((IntKind.wrap .i64 (p + (if 3000 < ((List.length s.1 : Nat) : Int) then 3000 else ((List.length s.1 : Nat) : Int)))) + (if 3000 < ((List.length a0.2.1 : Nat) : Int) then 3000 else ((List.length a0.2.1 : Nat) : Int)))))
       ·exact oV (hC (hA 18 69) (h0)) (.int .i64 (IntKind.wrap .i64 ((IntKind.wrap .i64 (p + (if 3000 < ((List.length s.1 : Nat) : Int) then 3000 else ((List.length s.1 : Nat) : Int)))) + (if 3000 < ((List.length a0.2.1 : Nat) : Int) then 3000 else ((List.length a0.2.1 : Nat) : Int)))))
       ·rintro ρ' w' hs hf ⟨i9, d4⟩
        refine Q3 [(1, (pt u 0)), (3, (.int .i64 (IntKind.wrap .i64 ((IntKind.wrap .i64 (p + (if 3000 < ((List.length s.1 : Nat) : Int) then 3000 else ((List.length s.1 : Nat) : Int)))) + (if 3000 < ((List.length a0.2.1 : Nat) : Int) then 3000 else ((List.length a0.2.1 : Nat) : Int)))))), (4, (.int .i64 h)), (5, (pt m 0)), (6, (.int .i64 f))] ⟨(hs 1 K).trans K, hf 19 3 K, (hs 4 K).trans K, (hs 5 K).trans K, (hs 6 K).trans K, trivial⟩ ?_
        obtain ⟨j0, g7⟩ : ∃ x, w' = x := ⟨_, rfl⟩
        rw [g7] at d4 ⊢
        refine aR ?_
        refine iR 3 3 [(49, (.int .i64 f)), (50, (.int .i64 (IntKind.wrap .i64 (f + 1)))), (6, (.int .i64 (IntKind.wrap .i64 (f + 1))))] ?_
        refine iF ?_
        exact ⟨(IntKind.wrap .i64 ((IntKind.wrap .i64 (p + (if 3000 < ((List.length s.1 : Nat) : Int) then 3000 else ((List.length s.1 : Nat) : Int)))) + (if 3000 < ((List.length a0.2.1 : Nat) : Int) then 3000 else ((List.length a0.2.1 : Nat) : Int)))), (IntKind.wrap .i64 (f + 1)), ⟨K, K, K, K, K, trivial⟩, SP.sel d4 [0, 1] rfl rfl, H⟩
      ·have H := cf H c0
       refine At.exit K (id := 2) K ?_
       refine aR ?_
       refine iR 3 3 [(19, (.int .i64 h)), (20, (.int .i64 (IntKind.wrap .i64 (h + 1)))), (4, (.int .i64 (IntKind.wrap .i64 (h + 1))))] ?_
       refine iF ?_
       exact ⟨p, (IntKind.wrap .i64 (h + 1)), ⟨K, K, K, trivial⟩, SP.sel c4 [0] rfl rfl, H⟩
    ·exact ⟨(IntKind.wrap .i64 ((IntKind.wrap .i64 ((IntKind.wrap .i64 (q + (if 3000 < ((List.length (stT a).1 : Nat) : Int) then 3000 else ((List.length (stT a).1 : Nat) : Int)))) + ((List.length (stT a).2.2.2.1 : Nat) : Int))) + ((List.length (stT a).2.2.2.2 : Nat) : Int))), 0, ⟨K, K, K, K, K, trivial⟩, SP.sel b3 [0, 1] rfl rfl, H⟩
   ·have H := cf H b7
    refine At.exit K (id := 0) K ?_
    refine aQ ?_
    refine aR ?_
    refine iR 3 3 [(70, (.int .i64 q)), (71, (.bool (decide (q ≥ 3000)))), (2, (.bool (decide (q ≥ 3000))))] ?_
    refine iF ?_
    refine At.ret K ?_
    refine ⟨(.bool (decide (q ≥ 3000))), K, ?_⟩
    obtain rfl := Qe H
    exact ⟨rfl, SP.sel b1 [] rfl rfl⟩
 ·exact ⟨((List.length (List.map stT d9) : Nat) : Int), 0, ⟨K, K, K, trivial⟩, SP.sel c1 [0] rfl rfl, H⟩
end Go.Proofs.YtmgfanhcdfobhaaGreatDoor
namespace Go.Proofs.YtmgfanhcdfobhaaGreatDoor
abbrev Str := List UInt8
abbrev Me := Int × Int
abbrev Fv := Str × Str × Int
theorem lNameM (s : Str) (h : s.length ≤ 140737488355328) : U3 s = some (Ef s) := by
  by_cases h9 : s.length ≤ 9000
  · exact lName s h9
  · unfold U3 Yt Ef
    have hne : (s == ([] : List UInt8)) = false := by rw [beq_eq_false_iff_ne]; intro e; subst e; simp at h9
    rw [hne, show decide (((List.length s : Nat) : Int) ≤ 20) = false from decide_eq_false (by omega), show decide (s.length ≤ 20) = false from decide_eq_false (by omega)]
    simp
theorem Hq (l : List Me) (P : Me → Bool) (p : Int → Int → Option Bool) (hp : ∀ x ∈ l, p x.1 x.2 = some (P x)) (hl : l.length ≤ 140737488355328) :
    ∀ (d i f : Nat), d = l.length - i → i ≤ l.length → d < f → ∃ r, Q2 l p f (i : Int) = some r ∧ decide (r ≥ 0) = (l.drop i).any P := by
  intro d
  induction d with
  | zero =>
    intro i f hd hi hf
    obtain ⟨f, rfl⟩ : ∃ g, f = g + 1 := ⟨f - 1, by omega⟩
    refine ⟨-1, ?_, ?_⟩
    · show Ve (Q2 l p f) l p (i : Int) = _
      unfold Ve
      rw [show decide ((i : Int) < ((l.length : Nat) : Int)) = false from decide_eq_false (by omega), cond_false]
    · rw [List.drop_of_length_le (by omega)]
      rfl
  | succ d ih =>
    intro i f hd hi hf
    obtain ⟨f, rfl⟩ : ∃ g, f = g + 1 := ⟨f - 1, by omega⟩
    have hlt : i < l.length := by omega
    obtain ⟨r, h1, h2⟩ := ih (i + 1) f (by omega) (by omega) (by omega)
    rw [List.drop_eq_getElem_cons hlt, List.any_cons]
    have hstep : Q2 l p (f + 1) (i : Int) = cond (P l[i]) (some (i : Int)) (Q2 l p f ((i + 1 : Nat) : Int)) := by
      show Ve (Q2 l p f) l p (i : Int) = _
      unfold Ve
      rw [show decide ((i : Int) < ((l.length : Nat) : Int)) = true from decide_eq_true (by omega), cond_true, Jt hlt, Option.bind_some, hp _ (List.getElem_mem hlt), Option.bind_some, show ((i : Int) + 1) = ((i + 1 : Nat) : Int) by omega, Xh (by omega)]
    rw [hstep]
    cases hP : P l[i] with
    | true => exact ⟨(i : Int), rfl, by rw [decide_eq_true (by omega), Bool.true_or]⟩
    | false => exact ⟨r, h1, by rw [h2, Bool.false_or]⟩
theorem Mf (l : List Me) (P : Me → Bool) (p : Int → Int → Option Bool) (hp : ∀ x ∈ l, p x.1 x.2 = some (P x)) (hl : l.length ≤ 140737488355328) : Zc l p = some (l.any P) := by
  obtain ⟨r, h1, h2⟩ := Hq l P p hp hl l.length 0 Zj (by omega) (by omega) (by unfold Zj; omega)
  unfold Zc Xf
  rw [show ((0 : Nat) : Int) = 0 from rfl] at h1
  rw [h1, Option.bind_some, h2, List.drop_zero]
theorem Fw (l : List Fv) (P : Fv → Bool) (p : Str → Str → Int → Option Bool) (hp : ∀ x ∈ l, p x.1 x.2.1 x.2.2 = some (P x)) (hl : l.length ≤ 140737488355328) :
    ∀ (d i f : Nat), d = l.length - i → i ≤ l.length → d < f → ∃ r, Qr l p f (i : Int) = some r ∧ decide (r ≥ 0) = (l.drop i).any P := by
  intro d
  induction d with
  | zero =>
    intro i f hd hi hf
    obtain ⟨f, rfl⟩ : ∃ g, f = g + 1 := ⟨f - 1, by omega⟩
    refine ⟨-1, ?_, ?_⟩
    · show Qu (Qr l p f) l p (i : Int) = _
      unfold Qu
      rw [show decide ((i : Int) < ((l.length : Nat) : Int)) = false from decide_eq_false (by omega), cond_false]
    · rw [List.drop_of_length_le (by omega)]
      rfl
  | succ d ih =>
    intro i f hd hi hf
    obtain ⟨f, rfl⟩ : ∃ g, f = g + 1 := ⟨f - 1, by omega⟩
    have hlt : i < l.length := by omega
    obtain ⟨r, h1, h2⟩ := ih (i + 1) f (by omega) (by omega) (by omega)
    rw [List.drop_eq_getElem_cons hlt, List.any_cons]
    have hstep : Qr l p (f + 1) (i : Int) = cond (P l[i]) (some (i : Int)) (Qr l p f ((i + 1 : Nat) : Int)) := by
      show Qu (Qr l p f) l p (i : Int) = _
      unfold Qu
      rw [show decide ((i : Int) < ((l.length : Nat) : Int)) = true from decide_eq_true (by omega), cond_true, Jt hlt, Option.bind_some, hp _ (List.getElem_mem hlt), Option.bind_some, show ((i : Int) + 1) = ((i + 1 : Nat) : Int) by omega, Xh (by omega)]
    rw [hstep]
    cases hP : P l[i] with
    | true => exact ⟨(i : Int), rfl, by rw [decide_eq_true (by omega), Bool.true_or]⟩
    | false => exact ⟨r, h1, by rw [h2, Bool.false_or]⟩
theorem Kn (l : List Fv) (P : Fv → Bool) (p : Str → Str → Int → Option Bool) (hp : ∀ x ∈ l, p x.1 x.2.1 x.2.2 = some (P x)) (hl : l.length ≤ 140737488355328) : Vw l p = some (l.any P) := by
  obtain ⟨r, h1, h2⟩ := Fw l P p hp hl l.length 0 Zj (by omega) (by omega) (by unfold Zj; omega)
  unfold Vw Vl
  rw [show ((0 : Nat) : Int) = 0 from rfl] at h1
  rw [h1, Option.bind_some, h2, List.drop_zero]
theorem Fb (l : List Qg) (P : Qg → Bool) (p : Str → Int → Int → List Me → List Fv → Option Bool) (hp : ∀ x ∈ l, p x.1 x.2.1 x.2.2.1 x.2.2.2.1 x.2.2.2.2 = some (P x)) (hl : l.length ≤ 140737488355328) :
    ∀ (d i f : Nat), d = l.length - i → i ≤ l.length → d < f → ∃ r, Qq l p f (i : Int) = some r ∧ decide (r ≥ 0) = (l.drop i).any P := by
  intro d
  induction d with
  | zero =>
    intro i f hd hi hf
    obtain ⟨f, rfl⟩ : ∃ g, f = g + 1 := ⟨f - 1, by omega⟩
    refine ⟨-1, ?_, ?_⟩
    · show Qt (Qq l p f) l p (i : Int) = _
      unfold Qt
      rw [show decide ((i : Int) < ((l.length : Nat) : Int)) = false from decide_eq_false (by omega), cond_false]
    · rw [List.drop_of_length_le (by omega)]
      rfl
  | succ d ih =>
    intro i f hd hi hf
    obtain ⟨f, rfl⟩ : ∃ g, f = g + 1 := ⟨f - 1, by omega⟩
    have hlt : i < l.length := by omega
    obtain ⟨r, h1, h2⟩ := ih (i + 1) f (by omega) (by omega) (by omega)
    rw [List.drop_eq_getElem_cons hlt, List.any_cons]
    have hstep : Qq l p (f + 1) (i : Int) = cond (P l[i]) (some (i : Int)) (Qq l p f ((i + 1 : Nat) : Int)) := by
      show Qt (Qq l p f) l p (i : Int) = _
      unfold Qt
      rw [show decide ((i : Int) < ((l.length : Nat) : Int)) = true from decide_eq_true (by omega), cond_true, Jt hlt, Option.bind_some, hp _ (List.getElem_mem hlt), Option.bind_some, show ((i : Int) + 1) = ((i + 1 : Nat) : Int) by omega, Xh (by omega)]
    rw [hstep]
    cases hP : P l[i] with
    | true => exact ⟨(i : Int), rfl, by rw [decide_eq_true (by omega), Bool.true_or]⟩
    | false => exact ⟨r, h1, by rw [h2, Bool.false_or]⟩
theorem Iy (l : List Qg) (P : Qg → Bool) (p : Str → Int → Int → List Me → List Fv → Option Bool) (hp : ∀ x ∈ l, p x.1 x.2.1 x.2.2.1 x.2.2.2.1 x.2.2.2.2 = some (P x)) (hl : l.length ≤ 140737488355328) : Vp l p = some (l.any P) := by
  obtain ⟨r, h1, h2⟩ := Fb l P p hp hl l.length 0 Zj (by omega) (by omega) (by unfold Zj; omega)
  unfold Vp Vh
  rw [show ((0 : Nat) : Int) = 0 from rfl] at h1
  rw [h1, Option.bind_some, h2, List.drop_zero]
def Iw : List Str → Bool
  | [] => true
  | [_] => true
  | a :: b :: r => Op.bytesLess a b && Iw (b :: r)
theorem Id (l : List Str) (i : Nat) (h : i + 1 < l.length) : Iw (l.drop i) = (Op.bytesLess (l[i]'(by omega)) (l[i + 1]'h) && Iw (l.drop (i + 1))) := by
  rw [List.drop_eq_getElem_cons (by omega : i < l.length), List.drop_eq_getElem_cons h]
  rfl
theorem Er (l : List Str) (i : Nat) (h : l.length ≤ i + 1) : Iw (l.drop i) = true := by
  by_cases h2 : i < l.length
  · rw [List.drop_eq_getElem_cons h2, List.drop_of_length_le (by omega)]
    rfl
  · rw [List.drop_of_length_le (by omega)]
    rfl
theorem Hr (l : List Fv) (p : Str → Str → Int → Option Str) (hp : ∀ x : Fv, p x.1 x.2.1 x.2.2 = some x.1) (hl : l.length ≤ 140737488355328) :
    ∀ (d i f : Nat), d = l.length - i → 1 ≤ i → d < f → Zf l p f (i : Int) = some (Iw ((l.map (·.1)).drop (i - 1))) := by
  intro d
  induction d with
  | zero =>
    intro i f hd hi hf
    obtain ⟨f, rfl⟩ : ∃ g, f = g + 1 := ⟨f - 1, by omega⟩
    show Ze (Zf l p f) l p (i : Int) = _
    unfold Ze
    rw [show decide ((i : Int) < ((l.length : Nat) : Int)) = false from decide_eq_false (by omega), cond_false, Er _ _ (by simp; omega)]
  | succ d ih =>
    intro i f hd hi hf
    obtain ⟨f, rfl⟩ : ∃ g, f = g + 1 := ⟨f - 1, by omega⟩
    have hlt : i < l.length := by omega
    have hlt' : i - 1 < l.length := by omega
    show Ze (Zf l p f) l p (i : Int) = _
    unfold Ze
    rw [show decide ((i : Int) < ((l.length : Nat) : Int)) = true from decide_eq_true (by omega), cond_true, show ((i : Int) - 1) = ((i - 1 : Nat) : Int) by omega, Xh (by omega), Jt hlt', Option.bind_some, hp, Option.bind_some, Jt hlt, Option.bind_some, hp, Option.bind_some,
      show ((i : Int) + 1) = ((i + 1 : Nat) : Int) by omega, Xh (by omega), ih (i + 1) f (by omega) (by omega) (by omega), Id _ (i - 1) (by simp; omega)]
    simp only [show i - 1 + 1 = i by omega, show i + 1 - 1 = i by omega, List.getElem_map]
    cases Op.bytesLess l[i - 1].1 l[i].1 with
    | true => rfl
    | false => rfl
theorem Mg (l : List Fv) (p : Str → Str → Int → Option Str) (hp : ∀ x : Fv, p x.1 x.2.1 x.2.2 = some x.1) (hl : l.length ≤ 140737488355328) : Yo l p = some (Iw (l.map (·.1))) := by
  have := Hr l p hp hl (l.length - 1) 1 Zj rfl (Nat.le_refl _) (by unfold Zj; omega)
  unfold Yo
  rw [show ((1 : Nat) : Int) = 1 from rfl] at this
  rw [this]
  rfl
theorem Hb (l : List Qg) (p : Str → Int → Int → List Me → List Fv → Option Str) (hp : ∀ x : Qg, p x.1 x.2.1 x.2.2.1 x.2.2.2.1 x.2.2.2.2 = some x.1) (hl : l.length ≤ 140737488355328) :
    ∀ (d i f : Nat), d = l.length - i → 1 ≤ i → d < f → Zb l p f (i : Int) = some (Iw ((l.map (·.1)).drop (i - 1))) := by
  intro d
  induction d with
  | zero =>
    intro i f hd hi hf
    obtain ⟨f, rfl⟩ : ∃ g, f = g + 1 := ⟨f - 1, by omega⟩
    show Za (Zb l p f) l p (i : Int) = _
    unfold Za
    rw [show decide ((i : Int) < ((l.length : Nat) : Int)) = false from decide_eq_false (by omega), cond_false, Er _ _ (by simp; omega)]
  | succ d ih =>
    intro i f hd hi hf
    obtain ⟨f, rfl⟩ : ∃ g, f = g + 1 := ⟨f - 1, by omega⟩
    have hlt : i < l.length := by omega
    have hlt' : i - 1 < l.length := by omega
    show Za (Zb l p f) l p (i : Int) = _
    unfold Za
    rw [show decide ((i : Int) < ((l.length : Nat) : Int)) = true from decide_eq_true (by omega), cond_true, show ((i : Int) - 1) = ((i - 1 : Nat) : Int) by omega, Xh (by omega), Jt hlt', Option.bind_some, hp, Option.bind_some, Jt hlt, Option.bind_some, hp, Option.bind_some,
      show ((i : Int) + 1) = ((i + 1 : Nat) : Int) by omega, Xh (by omega), ih (i + 1) f (by omega) (by omega) (by omega), Id _ (i - 1) (by simp; omega)]
    simp only [show i - 1 + 1 = i by omega, show i + 1 - 1 = i by omega, List.getElem_map]
    cases Op.bytesLess l[i - 1].1 l[i].1 with
    | true => rfl
    | false => rfl
theorem Li (l : List Qg) (p : Str → Int → Int → List Me → List Fv → Option Str) (hp : ∀ x : Qg, p x.1 x.2.1 x.2.2.1 x.2.2.2.1 x.2.2.2.2 = some x.1) (hl : l.length ≤ 140737488355328) : Ye l p = some (Iw (l.map (·.1))) := by
  have := Hb l p hp hl (l.length - 1) 1 Zj rfl (Nat.le_refl _) (by unfold Zj; omega)
  unfold Ye
  rw [show ((1 : Nat) : Int) = 1 from rfl] at this
  rw [this]
  rfl
def Ko (n : Me) : Bool := Bw n.1.toNat n.2
def Hs (x : Fv) : Bool := Ef x.1 && ((decide (1 ≤ x.2.1.length) && decide (x.2.1.length ≤ 32)) && (decide (0 ≤ x.2.2) && decide (x.2.2 ≤ 1099511627776)))
def qOk (n : Int) : Bool := decide (0 ≤ n) && decide (n ≤ 8)
def Fx (t : Qg) : Bool := (t.2.2.2.1.all Ko && t.2.2.2.2.all Hs) && ((Ef t.1 && (decide (t.2.2.2.1.length ≤ 4) && decide (t.2.2.2.2.length ≤ 4))) && ((qOk t.2.1 && qOk t.2.2.1) && Iw (t.2.2.2.2.map (·.1))))
def Gp (n : Int) : Bool := decide (1 ≤ n) && decide (n ≤ 1073741824)
def Ht (w g i e : Int) (l : List Qg) : Bool := (Gp w && (Gp g && (Gp i && Gp e))) && (decide (l.length ≤ 8) && (l.all Fx && Iw (l.map (·.1))))
def Mh (t : Qg) : Prop := t.1.length ≤ 140737488355328 ∧ t.2.2.2.1.length ≤ 140737488355328 ∧ t.2.2.2.2.length ≤ 140737488355328 ∧ (∀ n ∈ t.2.2.2.1, 0 ≤ n.1 ∧ n.1 < 4294967296) ∧ ∀ x ∈ t.2.2.2.2, x.1.length ≤ 140737488355328 ∧ x.2.1.length ≤ 140737488355328
theorem Ie (n a b : Int) : Y3 n a b = some (decide (a ≤ n) && decide (n ≤ b)) := by
  unfold Y3 U5
  by_cases h : n ≥ a
  · rw [show decide (n ≥ a) = true from decide_eq_true h]
    rfl
  · rw [show decide (n ≥ a) = false from decide_eq_false h]
    rfl
theorem slash_nil (a : Nat) (b : Int) : (Oe a b == ([] : List UInt8)) = !(Bw a b) := by
  unfold Oe
  cases Bw a b with
  | true =>
    simp only [Bool.not_true, beq_eq_false_iff_ne]
    intro h
    have := congrArg List.length h
    simp at this
  | false => rfl
theorem lNetBad {n : Me} (h : 0 ≤ n.1 ∧ n.1 < 4294967296) : Um n.1 n.2 = some (!(Ko n)) := by
  unfold Um Ko
  obtain ⟨a, ha⟩ : ∃ a : Nat, n.1 = (a : Int) := ⟨n.1.toNat, by omega⟩
  rw [ha, lSlash a (by omega), Option.bind_some, slash_nil, Int.toNat_natCast]
theorem lToken {x : Fv} (h : x.1.length ≤ 140737488355328) : Re x.1 x.2.1 x.2.2 = some (Hs x) := by
  unfold Re Un Hs
  rw [lNameM _ h, Option.bind_some, Ie, Ie]
  cases Ef x.1 with
  | false => rfl
  | true =>
    rw [cond_true, Option.bind_some, show decide (1 ≤ ((List.length x.2.1 : Nat) : Int)) = decide (1 ≤ x.2.1.length) from decide_eq_decide.2 (by omega), show decide (((List.length x.2.1 : Nat) : Int) ≤ 32) = decide (x.2.1.length ≤ 32) from decide_eq_decide.2 (by omega)]
    cases (decide (1 ≤ x.2.1.length) && decide (x.2.1.length ≤ 32)) <;> rfl
theorem Mi {α : Type} (p : α → Bool) (l : List α) : l.any (fun x => !(p x)) = !(l.all p) := by
  induction l with
  | nil => rfl
  | cons x l ih => rw [List.any_cons, List.all_cons, ih, Bool.not_and]
theorem lTenant {t : Qg} (h : Mh t) : Gu t.1 t.2.1 t.2.2.1 t.2.2.2.1 t.2.2.2.2 = some (Fx t) := by
  obtain ⟨h1, h2, h3, h4, h5⟩ := h
  unfold Gu
  rw [Mf t.2.2.2.1 (fun n => !(Ko n)) _ (fun n hn => lNetBad (h4 n hn)) h2, Option.bind_some, Kn t.2.2.2.2 (fun x => !(Hs x)) _ (fun x hx => by unfold Nn; rw [lToken (h5 x hx).1]; rfl) h3, Mi, Mi]
  have k5 : ∀ v, Jz t.2.1 t.2.2.1 t.2.2.2.2 v = some (!v && ((qOk t.2.1 && qOk t.2.2.1) && Iw (t.2.2.2.2.map (·.1)))) := by
    intro v
    unfold Jz Jy
    cases v with
    | true => rfl
    | false =>
      rw [cond_false, Ie, Ie, Option.bind_some, Option.bind_some, Mg _ _ (fun x => rfl) h3]
      unfold qOk
      cases (decide (0 ≤ t.2.1) && decide (t.2.1 ≤ 8)) <;> cases (decide (0 ≤ t.2.2.1) && decide (t.2.2.1 ≤ 8)) <;> cases Iw (t.2.2.2.2.map (·.1)) <;> rfl
  have k1 : ∀ v, J0 t.1 t.2.1 t.2.2.1 t.2.2.2.1 t.2.2.2.2 v = some (!v && ((Ef t.1 && (decide (t.2.2.2.1.length ≤ 4) && decide (t.2.2.2.2.length ≤ 4))) && ((qOk t.2.1 && qOk t.2.2.1) && Iw (t.2.2.2.2.map (·.1))))) := by
    intro v
    unfold J0 U8 U7
    cases v with
    | true => rw [cond_true, k5]; rfl
    | false =>
      rw [cond_false, lNameM _ h1, Option.bind_some]
      simp only [k5]
      rw [show decide (((List.length t.2.2.2.1 : Nat) : Int) > 4) = !(decide (t.2.2.2.1.length ≤ 4)) by rw [← decide_not]; exact decide_eq_decide.2 (by omega), show decide (((List.length t.2.2.2.2 : Nat) : Int) > 4) = !(decide (t.2.2.2.2.length ≤ 4)) by rw [← decide_not]; exact decide_eq_decide.2 (by omega)]
      cases Ef t.1 <;> cases decide (t.2.2.2.1.length ≤ 4) <;> cases decide (t.2.2.2.2.length ≤ 4) <;> rfl
  unfold Fx
  cases t.2.2.2.1.all Ko with
  | false =>
    rw [show (!false) = true from rfl, cond_true, k1]
    rfl
  | true =>
    rw [show (!true) = false from rfl, cond_false, Option.bind_some, k1]
    cases t.2.2.2.2.all Hs <;> rfl
theorem O5 (w g i e : Int) (l : List Qg) (rec3 : Int → Option Bool) (hl : l.length ≤ 140737488355328) (hq : ∀ t ∈ l, Mh t) : Yv rec3 w g i e l ((0 + 1 + 1 + 1 + 1 : Nat) : Int) = some (decide (l.length ≤ 8) && (l.all Fx && Iw (l.map (·.1)))) := by
  unfold Yv Uo
  rw [show decide (((0 + 1 + 1 + 1 + 1 : Nat) : Int) < ((List.length ([w, g, i, e] : List Int) : Nat) : Int)) = false from rfl, cond_false, Iy l (fun t => !(Fx t)) _ (fun t ht => by unfold Gd; rw [lTenant (hq t ht)]; rfl) hl, Mi, Li _ _ (fun x => rfl) hl,
    show decide (((List.length l : Nat) : Int) ≤ 8) = decide (l.length ≤ 8) from decide_eq_decide.2 (by omega)]
  cases decide (l.length ≤ 8) <;> cases l.all Fx <;> cases Iw (l.map (·.1)) <;> rfl
theorem Cn (w g i e : Int) (l : List Qg) (rec3 : Int → Option Bool) (k : Nat) (x : Int) (hk : k < 4) (hx : [w, g, i, e][k]? = some x) : Yv rec3 w g i e l (k : Int) = cond (Gp x) (rec3 ((k + 1 : Nat) : Int)) (some false) := by
  unfold Yv
  rw [show decide ((k : Int) < ((List.length ([w, g, i, e] : List Int) : Nat) : Int)) = true from decide_eq_true (by simp only [List.length_cons, List.length_nil]; omega), cond_true, show idx ([w, g, i, e] : List Int) (k : Int) = some x by rw [Ib]; exact hx, Option.bind_some, Ie, Option.bind_some, show ((k : Int) + 1) = ((k + 1 : Nat) : Int) by omega, Xh (by omega)]
  unfold Gp
  cases (decide (1 ≤ x) && decide (x ≤ 1073741824)) <;> rfl
theorem lCfg (w g i e : Int) (l : List Qg) (hl : l.length ≤ 140737488355328) (hq : ∀ t ∈ l, Mh t) : Rf w g i e l = some (Ht w g i e l) := by
  have unf : ∀ f (v : Int), Jk w g i e l (f + 1) v = Yv (Jk w g i e l f) w g i e l v := fun _ _ => rfl
  unfold Rf Ht
  rw [show Zj = 18446744073709551611 + 1 + 1 + 1 + 1 + 1 from rfl]
  rw [unf, show (0 : Int) = ((0 : Nat) : Int) from rfl, Cn w g i e l _ 0 w (by omega) rfl, unf, Cn w g i e l _ (0 + 1) g (by omega) rfl, unf, Cn w g i e l _ (0 + 1 + 1) i (by omega) rfl, unf, Cn w g i e l _ (0 + 1 + 1 + 1) e (by omega) rfl, unf, O5 w g i e l _ hl hq]
  cases Gp w <;> cases Gp g <;> cases Gp i <;> cases Gp e <;> rfl
end Go.Proofs.YtmgfanhcdfobhaaGreatDoor
