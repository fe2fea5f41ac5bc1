import Derived.Test.YtoflbpmbkmephaaGreatDoorPkConfigLines1
set_option linter.unusedSimpArgs false
set_option linter.unusedVariables false
set_option linter.unusedSectionVars false
set_option maxRecDepth 100000
set_option maxHeartbeats 40000000
namespace Go.Proofs.YtoflbpmbkmephaaGreatDoor
open Go.RowKit
def Xw (v5 : Bool) : Option (Bool) :=
  (some (v5))
def Zn (p1 : Int) (p2 : Int) (p3 : Int) : Option (Bool) :=
  (cond (decide (p1 ≥ p2)) (Xw (decide (p1 ≤ p3))) (Xw false))
set_option maxHeartbeats 40000000 in
theorem Xb  (p1 : Int) (p2 : Int) (p3 : Int) (w0 : World)  (r : (Bool)) (H : Zn p1 p2 p3 = some r) :
  Calls Tryz.prog 48 #[(.int .i64 p1), (.int .i64 p2), (.int .i64 p3)] w0 (fun e w' => e = .returned (.bool r) ∧ SP [] w0 w' []) := by
 unfold Zn at H
 refine Qv (n := 15) Tryz.func48 K K K ?_
 have c := Q0 [] w0
 refine aQ ?_
 refine aR ?_
 refine iR 1 1 [(6, (.bool false))] ?_
 refine iF ?_
 refine aQ ?_
 refine At.join (fun ρ w => ∃ (v5 : Bool), Zi ρ [(6, (.bool v5))] ∧ SP [] w0 w [] ∧ Xw v5 = some r) ?_ ?_
 ·refine aR ?_
  refine iR 4 4 [(7, (.int .i64 p1)), (8, (.int .i64 p2)), (9, (.bool (decide (p1 ≥ p2)))), (10, (.bool (decide (p1 ≥ p2))))] ?_
  refine In.guard (t := 10) (b := (decide (p1 ≥ p2))) K (fun a => ?_) (fun a => ?_)
  ·have H := ct H a
   refine iR 5 9 [(11, (.int .i64 p1)), (12, (.int .i64 p3)), (13, (.bool (decide (p1 ≤ p3)))), (14, (.bool (decide (p1 ≤ p3)))), (6, (.bool (decide (p1 ≤ p3))))] ?_
   refine iF ?_
   exact ⟨(decide (p1 ≤ p3)), ⟨K, trivial⟩, SP.sel c [] rfl rfl, H⟩
  ·have H := cf H a
   refine iR 5 9 [(11, undef), (12, undef), (13, undef), (14, (.bool false)), (6, (.bool false))] ?_
   refine iF ?_
   exact ⟨false, ⟨K, trivial⟩, SP.sel c [] rfl rfl, H⟩
 ·rintro ρ w6 ⟨v5, hk, d, H⟩
  unfold Xw at H
  first | refine At.known [(6, (.bool v5))] hk ?_ | rw [← Q1 (l := [(6, (.bool v5))]) hk]
  refine At.ret K ?_
  refine ⟨(.bool v5), K, ?_⟩
  obtain rfl := Qf H
  exact ⟨rfl, SP.sel d [] rfl rfl⟩
def Qu (c : Int → Option (Int)) (p1 : (List (Int × Int))) (p5 : (Int → Int → Option (Bool))) (a : Int) : Option (Int) :=
  (cond (decide (a < ((List.length p1 : Nat) : Int))) ((idx p1 a).bind fun b => ((p5 b.1 b.2).bind fun d => (cond d (some (a)) (c (IntKind.wrap .i64 (a + 1)))))) (some ((-1))))
def Qn (p1 : (List (Int × Int))) (p5 : (Int → Int → Option (Bool))) : Nat → Int → Option (Int)
  | 0, _ => none
  | f + 1, a => Qu  (Qn p1 p5 f) p1 p5 a
def Vu (p1 : (List (Int × Int))) (p5 : (Int → Int → Option (Bool))) : Option (Int) :=
  (Qn p1 p5 J5 0)
set_option maxHeartbeats 40000000 in
theorem Yx (A2 : Option Addr) (c3 : Nat) (g : FuncId) (h : Array Value) (p1 : (List (Int × Int))) (p5 : (Int → Int → Option (Bool))) (w0 : World) (q : RdT (Qg (Ve .u32) (Ve .i64)) w0 A2 c3 p1) (hcf8 : ∀ (args : Array Value) (w : World), (callFunc g args).run Tryz.prog w = .ok (.enter g args) w) (a1 : ∀ (y0 : Int) (y1 : Int) (z : (Bool)) (w : World), Below w0.heap.size w0 w → p5 y0 y1 = some z → Calls Tryz.prog g (([(.agg #[(.int .u32 y0), (.int .i64 y1)])] : List Value) ++ (h).toList).toArray w (fun e w' => e = .returned (.bool z) ∧ SP [] w w' [])) (r : (Int)) (H : Vu p1 p5 = some r) :
  Calls Tryz.prog 147 #[(.slice A2 (List.length p1) c3), (.func (.func g) #[] h)] w0 (fun e w' => e = .returned (.int .i64 r) ∧ SP [] w0 w' []) := by
 unfold Vu at H
 refine Qv (n := 19) Tryz.func147 K K K ?_
 have a2 := Q0 [] w0
 refine aQ ?_
 refine aR ?_
 refine iR 1 1 [(4, (.int .i64 0))] ?_
 refine iF ?_
 refine aQ ?_
 refine aQ ?_
 refine aR ?_
 refine iR 3 3 [(6, (.slice A2 (List.length p1) c3)), (7, (.int .i64 ((List.length p1 : Nat) : Int))), (8, (.int .i64 0))] ?_
 refine iF ?_
 refine Jk K (id := 0) K ?_
 refine Rj K (fun f1 ρ w => ∃ (a : Int), Zi ρ [(0, (.slice A2 (List.length p1) c3)), (1, (.func (.func g) #[] h)), (7, (.int .i64 ((List.length p1 : Nat) : Int))), (8, (.int .i64 a))] ∧ SP [] w0 w [] ∧ Qn p1 p5 f1 a = some r) (by rintro ρ w ⟨a, hk, hs, H⟩; cases H) ?_ J5 ?_
 ·rintro f1 ρ a3 ⟨a, hk, j, H⟩
  refine At.known [(0, (.slice A2 (List.length p1) c3)), (1, (.func (.func g) #[] h)), (7, (.int .i64 ((List.length p1 : Nat) : Int))), (8, (.int .i64 a))] hk ?_
  replace H := (show Qu (Qn p1 p5 f1) p1 p5 a = some r from H)
  unfold Qu at H
  refine aQ ?_
  refine aR ?_
  refine iR 1 1 [(9, (.bool (decide (a < ((List.length p1 : Nat) : Int)))))] ?_
  refine iF ?_
  refine aQ ?_
  refine Xe K (o := (.tmp 9)) K (b := (decide (a < ((List.length p1 : Nat) : Int)))) K (fun m => ?_) (fun m => ?_)
  ·have H := ct H m
   refine At.skip K ?_
   refine aQ ?_
   refine Jk K (id := 1) K ?_
   refine aQ ?_
   refine aR ?_
   refine iR 2 2 [(10, (.int .i64 a)), (5, (.int .i64 a))] ?_
   refine iF ?_
   refine aQ ?_
   refine aR ?_
   refine iR 3 3 [(11, (.func (.func g) #[] h)), (12, (.slice A2 (List.length p1) c3)), (13, (.int .i64 a))] ?_
   obtain ⟨i, s, u, a4, H⟩ := Vk H
   refine iS 4 ?_
   refine Ql (e := (Qg (Ve .u32) (Ve .i64))) (l := p1) (A := A2) (c := c3) (T := 30) (E := 102) (x := (.tmp 12)) (ix := (.tmp 13)) (ki := .i64) (iz := a) (d := (some 14)) (k := 3) K rfl K K K K (RdT.sp q j) s u ?_
   intro a5 a6 a7 a9 hc55
   refine iS 5 ?_
   refine Qi.cells (t := 102) (x := (.tmp 14)) (b := a5) (off := (a6 + Int.toNat a * (Qg (Ve .u32) (Ve .i64)).sz)) (xs := [(.int .u32 i.1), (.int .i64 i.2)]) (d := (some 15)) (k := 4) K rfl K K K (Zl (e := (Qg (Ve .u32) (Ve .i64))) (Qm (RdT.sp q j) a7 s u) a4 rfl) ?_
   obtain ⟨v, a8, H⟩ := Qc H
   refine iS 6 ?_
   refine Xf (f := g) (fo := (.tmp 11)) (xs := #[(.tmp 15)]) (tys := #[102]) (first := #[]) (captured := h) (args := (([(.agg #[(.int .u32 i.1), (.int .i64 i.2)])] : List Value) ++ (h).toList)) (d := (some 16)) (k := 5) K rfl K K hcf8 (a1 i.1 i.2 v a3  (SP.keeps j)  a8) ?_
   rintro e b0 ⟨rfl, y⟩
   refine ⟨_, rfl, ?_⟩
   have a0 := SP.call j y
   clear y
   refine iF ?_
   refine Xe K (o := (.tmp 16)) K (b := v) K (fun p => ?_) (fun p => ?_)
   ·have H := ct H p
    refine aQ ?_
    refine aR ?_
    refine iR 2 2 [(17, (.int .i64 a)), (4, (.int .i64 a))] ?_
    refine iF ?_
    refine At.ret K ?_
    refine ⟨(.int .i64 a), K, ?_⟩
    obtain rfl := Qf H
    exact ⟨rfl, SP.sel a0 [] rfl rfl⟩
   ·have H := cf H p
    refine At.skip K ?_
    refine aR ?_
    refine iR 2 2 [(18, (.int .i64 (IntKind.wrap .i64 (a + 1)))), (8, (.int .i64 (IntKind.wrap .i64 (a + 1))))] ?_
    refine iF ?_
    exact ⟨(IntKind.wrap .i64 (a + 1)), ⟨K, K, K, K, trivial⟩, SP.sel a0 [] rfl rfl, H⟩
  ·have H := cf H m
   refine At.exit K (id := 0) K ?_
   refine aQ ?_
   refine aR ?_
   refine iR 1 1 [(4, (.int .i64 (-1)))] ?_
   refine iF ?_
   refine At.ret K ?_
   refine ⟨(.int .i64 (-1)), K, ?_⟩
   obtain rfl := Qf H
   exact ⟨rfl, SP.sel j [] rfl rfl⟩
 ·exact ⟨0, ⟨K, K, K, K, trivial⟩, SP.sel a2 [] rfl rfl, H⟩
def Vf (p1 : (List (Int × Int))) (p5 : (Int → Int → Option (Bool))) : Option (Bool) :=
  ((Vu p1 p5).bind fun a => (some ((decide (a ≥ 0)))))
set_option maxHeartbeats 40000000 in
theorem Yi (A2 : Option Addr) (c3 : Nat) (a : FuncId) (b : Array Value) (p1 : (List (Int × Int))) (p5 : (Int → Int → Option (Bool))) (w0 : World) (g : RdT (Qg (Ve .u32) (Ve .i64)) w0 A2 c3 p1) (hcf8 : ∀ (args : Array Value) (w : World), (callFunc a args).run Tryz.prog w = .ok (.enter a args) w) (h : ∀ (y0 : Int) (y1 : Int) (z : (Bool)) (w : World), Below w0.heap.size w0 w → p5 y0 y1 = some z → Calls Tryz.prog a (([(.agg #[(.int .u32 y0), (.int .i64 y1)])] : List Value) ++ (b).toList).toArray w (fun e w' => e = .returned (.bool z) ∧ SP [] w w' [])) (r : (Bool)) (H : Vf p1 p5 = some r) :
  Calls Tryz.prog 96 #[(.slice A2 (List.length p1) c3), (.func (.func a) #[] b)] w0 (fun e w' => e = .returned (.bool r) ∧ SP [] w0 w' []) := by
 unfold Vf at H
 refine Qv (n := 9) Tryz.func96 K K K ?_
 have d := Q0 [] w0
 refine aQ ?_
 refine aR ?_
 refine iR 1 1 [(4, (.bool false))] ?_
 refine iF ?_
 refine aQ ?_
 refine aR ?_
 refine iR 2 2 [(5, (.slice A2 (List.length p1) c3)), (6, (.func (.func a) #[] b))] ?_
 obtain ⟨c, i, H⟩ := Qc H
 refine iS 3 ?_
 refine cF 147 #[(.tmp 5), (.tmp 6)] #[30, 154] 7 Tryz.call147 (Yx A2 c3 a b p1 p5 w0 (RdT.sp g d) hcf8 (fun y0 y1 z w  hw  hz => h y0 y1 z w  (G3 d hw)  hz) c i) ?_
 rintro e k ⟨rfl, f⟩
 refine ⟨_, rfl, ?_⟩
 have j := SP.call d f
 clear f
 refine iR 2 5 [(8, (.bool (decide (c ≥ 0)))), (4, (.bool (decide (c ≥ 0))))] ?_
 refine iF ?_
 refine At.ret K ?_
 refine ⟨(.bool (decide (c ≥ 0))), K, ?_⟩
 obtain rfl := Qf H
 exact ⟨rfl, SP.sel j [] rfl rfl⟩
def Qs (c : Int → Option (Int)) (p1 : (List ((List UInt8) × (List UInt8) × Int))) (p5 : ((List UInt8) → (List UInt8) → Int → Option (Bool))) (a : Int) : Option (Int) :=
  (cond (decide (a < ((List.length p1 : Nat) : Int))) ((idx p1 a).bind fun b => ((p5 b.1 b.2.1 b.2.2).bind fun d => (cond d (some (a)) (c (IntKind.wrap .i64 (a + 1)))))) (some ((-1))))
def Qj (p1 : (List ((List UInt8) × (List UInt8) × Int))) (p5 : ((List UInt8) → (List UInt8) → Int → Option (Bool))) : Nat → Int → Option (Int)
  | 0, _ => none
  | f + 1, a => Qs  (Qj p1 p5 f) p1 p5 a
def Q9 (p1 : (List ((List UInt8) × (List UInt8) × Int))) (p5 : ((List UInt8) → (List UInt8) → Int → Option (Bool))) : Option (Int) :=
  (Qj p1 p5 J5 0)
set_option maxHeartbeats 40000000 in
theorem Zo (A2 : Option Addr) (c3 : Nat) (h : FuncId) (i : Array Value) (p1 : (List ((List UInt8) × (List UInt8) × Int))) (p5 : ((List UInt8) → (List UInt8) → Int → Option (Bool))) (w0 : World) (q : RdT (Qg Qo (Qg Qo (Ve .i64))) w0 A2 c3 p1) (hcf8 : ∀ (args : Array Value) (w : World), (callFunc h args).run Tryz.prog w = .ok (.enter h args) w) (a1 : ∀ (y0 : (List UInt8)) (y1 : (List UInt8)) (y2 : Int) (z : (Bool)) (w : World), Below w0.heap.size w0 w → p5 y0 y1 y2 = some z → Calls Tryz.prog h (([(.agg #[(.string ⟨List.toArray y0⟩), (.string ⟨List.toArray y1⟩), (.int .i64 y2)])] : List Value) ++ (i).toList).toArray w (fun e w' => e = .returned (.bool z) ∧ SP [] w w' [])) (r : (Int)) (H : Q9 p1 p5 = some r) :
  Calls Tryz.prog 46 #[(.slice A2 (List.length p1) c3), (.func (.func h) #[] i)] w0 (fun e w' => e = .returned (.int .i64 r) ∧ SP [] w0 w' []) := by
 unfold Q9 at H
 refine Qv (n := 19) Tryz.func46 K K K ?_
 have a2 := Q0 [] w0
 refine aQ ?_
 refine aR ?_
 refine iR 1 1 [(4, (.int .i64 0))] ?_
 refine iF ?_
 refine aQ ?_
 refine aQ ?_
 refine aR ?_
 refine iR 3 3 [(6, (.slice A2 (List.length p1) c3)), (7, (.int .i64 ((List.length p1 : Nat) : Int))), (8, (.int .i64 0))] ?_
 refine iF ?_
 refine Jk K (id := 0) K ?_
 refine Rj K (fun f1 ρ w => ∃ (a : Int), Zi ρ [(0, (.slice A2 (List.length p1) c3)), (1, (.func (.func h) #[] i)), (7, (.int .i64 ((List.length p1 : Nat) : Int))), (8, (.int .i64 a))] ∧ SP [] w0 w [] ∧ Qj p1 p5 f1 a = some r) (by rintro ρ w ⟨a, hk, hs, H⟩; cases H) ?_ J5 ?_
 ·rintro f1 ρ a3 ⟨a, hk, j, H⟩
  refine At.known [(0, (.slice A2 (List.length p1) c3)), (1, (.func (.func h) #[] i)), (7, (.int .i64 ((List.length p1 : Nat) : Int))), (8, (.int .i64 a))] hk ?_
  replace H := (show Qs (Qj p1 p5 f1) p1 p5 a = some r from H)
  unfold Qs at H
  refine aQ ?_
  refine aR ?_
  refine iR 1 1 [(9, (.bool (decide (a < ((List.length p1 : Nat) : Int)))))] ?_
  refine iF ?_
  refine aQ ?_
  refine Xe K (o := (.tmp 9)) K (b := (decide (a < ((List.length p1 : Nat) : Int)))) K (fun m => ?_) (fun m => ?_)
  ·have H := ct H m
   refine At.skip K ?_
   refine aQ ?_
   refine Jk K (id := 1) K ?_
   refine aQ ?_
   refine aR ?_
   refine iR 2 2 [(10, (.int .i64 a)), (5, (.int .i64 a))] ?_
   refine iF ?_
   refine aQ ?_
   refine aR ?_
   refine iR 3 3 [(11, (.func (.func h) #[] i)), (12, (.slice A2 (List.length p1) c3)), (13, (.int .i64 a))] ?_
   obtain ⟨g, s, u, a4, H⟩ := Vk H
   refine iS 4 ?_
   refine Ql (e := (Qg Qo (Qg Qo (Ve .i64)))) (l := p1) (A := A2) (c := c3) (T := 31) (E := 37) (x := (.tmp 12)) (ix := (.tmp 13)) (ki := .i64) (iz := a) (d := (some 14)) (k := 3) K rfl K K K K (RdT.sp q j) s u ?_
   intro a5 a6 a7 a9 hc55
   refine iS 5 ?_
   refine Qi.cells (t := 37) (x := (.tmp 14)) (b := a5) (off := (a6 + Int.toNat a * (Qg Qo (Qg Qo (Ve .i64))).sz)) (xs := [(.string ⟨List.toArray g.1⟩), (.string ⟨List.toArray g.2.1⟩), (.int .i64 g.2.2)]) (d := (some 15)) (k := 4) K rfl K K K (Zl (e := (Qg Qo (Qg Qo (Ve .i64)))) (Qm (RdT.sp q j) a7 s u) a4 rfl) ?_
   obtain ⟨v, a8, H⟩ := Qc H
   refine iS 6 ?_
   refine Xf (f := h) (fo := (.tmp 11)) (xs := #[(.tmp 15)]) (tys := #[37]) (first := #[]) (captured := i) (args := (([(.agg #[(.string ⟨List.toArray g.1⟩), (.string ⟨List.toArray g.2.1⟩), (.int .i64 g.2.2)])] : List Value) ++ (i).toList)) (d := (some 16)) (k := 5) K rfl K K hcf8 (a1 g.1 g.2.1 g.2.2 v a3  (SP.keeps j)  a8) ?_
   rintro e b0 ⟨rfl, y⟩
   refine ⟨_, rfl, ?_⟩
   have a0 := SP.call j y
   clear y
   refine iF ?_
   refine Xe K (o := (.tmp 16)) K (b := v) K (fun p => ?_) (fun p => ?_)
   ·have H := ct H p
    refine aQ ?_
    refine aR ?_
    refine iR 2 2 [(17, (.int .i64 a)), (4, (.int .i64 a))] ?_
    refine iF ?_
    refine At.ret K ?_
    refine ⟨(.int .i64 a), K, ?_⟩
    obtain rfl := Qf H
    exact ⟨rfl, SP.sel a0 [] rfl rfl⟩
   ·have H := cf H p
    refine At.skip K ?_
    refine aR ?_
    refine iR 2 2 [(18, (.int .i64 (IntKind.wrap .i64 (a + 1)))), (8, (.int .i64 (IntKind.wrap .i64 (a + 1))))] ?_
    refine iF ?_
    exact ⟨(IntKind.wrap .i64 (a + 1)), ⟨K, K, K, K, trivial⟩, SP.sel a0 [] rfl rfl, H⟩
  ·have H := cf H m
   refine At.exit K (id := 0) K ?_
   refine aQ ?_
   refine aR ?_
   refine iR 1 1 [(4, (.int .i64 (-1)))] ?_
   refine iF ?_
   refine At.ret K ?_
   refine ⟨(.int .i64 (-1)), K, ?_⟩
   obtain rfl := Qf H
   exact ⟨rfl, SP.sel j [] rfl rfl⟩
 ·exact ⟨0, ⟨K, K, K, K, trivial⟩, SP.sel a2 [] rfl rfl, H⟩
def Q4 (p1 : (List ((List UInt8) × (List UInt8) × Int))) (p5 : ((List UInt8) → (List UInt8) → Int → Option (Bool))) : Option (Bool) :=
  ((Q9 p1 p5).bind fun a => (some ((decide (a ≥ 0)))))
set_option maxHeartbeats 40000000 in
theorem X7 (A2 : Option Addr) (c3 : Nat) (a : FuncId) (b : Array Value) (p1 : (List ((List UInt8) × (List UInt8) × Int))) (p5 : ((List UInt8) → (List UInt8) → Int → Option (Bool))) (w0 : World) (g : RdT (Qg Qo (Qg Qo (Ve .i64))) w0 A2 c3 p1) (hcf8 : ∀ (args : Array Value) (w : World), (callFunc a args).run Tryz.prog w = .ok (.enter a args) w) (h : ∀ (y0 : (List UInt8)) (y1 : (List UInt8)) (y2 : Int) (z : (Bool)) (w : World), Below w0.heap.size w0 w → p5 y0 y1 y2 = some z → Calls Tryz.prog a (([(.agg #[(.string ⟨List.toArray y0⟩), (.string ⟨List.toArray y1⟩), (.int .i64 y2)])] : List Value) ++ (b).toList).toArray w (fun e w' => e = .returned (.bool z) ∧ SP [] w w' [])) (r : (Bool)) (H : Q4 p1 p5 = some r) :
  Calls Tryz.prog 98 #[(.slice A2 (List.length p1) c3), (.func (.func a) #[] b)] w0 (fun e w' => e = .returned (.bool r) ∧ SP [] w0 w' []) := by
 unfold Q4 at H
 refine Qv (n := 9) Tryz.func98 K K K ?_
 have d := Q0 [] w0
 refine aQ ?_
 refine aR ?_
 refine iR 1 1 [(4, (.bool false))] ?_
 refine iF ?_
 refine aQ ?_
 refine aR ?_
 refine iR 2 2 [(5, (.slice A2 (List.length p1) c3)), (6, (.func (.func a) #[] b))] ?_
 obtain ⟨c, i, H⟩ := Qc H
 refine iS 3 ?_
 refine cF 46 #[(.tmp 5), (.tmp 6)] #[31, 84] 7 Tryz.call46 (Zo A2 c3 a b p1 p5 w0 (RdT.sp g d) hcf8 (fun y0 y1 y2 z w  hw  hz => h y0 y1 y2 z w  (G3 d hw)  hz) c i) ?_
 rintro e k ⟨rfl, f⟩
 refine ⟨_, rfl, ?_⟩
 have j := SP.call d f
 clear f
 refine iR 2 5 [(8, (.bool (decide (c ≥ 0)))), (4, (.bool (decide (c ≥ 0))))] ?_
 refine iF ?_
 refine At.ret K ?_
 refine ⟨(.bool (decide (c ≥ 0))), K, ?_⟩
 obtain rfl := Qf H
 exact ⟨rfl, SP.sel j [] rfl rfl⟩
def Qq (c : Int → Option (Int)) (p1 : (List Qe)) (p6 : ((List UInt8) → Int → Int → (List (Int × Int)) → (List ((List UInt8) × (List UInt8) × Int)) → Option (Bool))) (b : Int) : Option (Int) :=
  (cond (decide (b < ((List.length p1 : Nat) : Int))) ((idx p1 b).bind fun a => ((p6 a.1 a.2.1 a.2.2.1 a.2.2.2.1 a.2.2.2.2).bind fun d => (cond d (some (b)) (c (IntKind.wrap .i64 (b + 1)))))) (some ((-1))))
def Qh (p1 : (List Qe)) (p6 : ((List UInt8) → Int → Int → (List (Int × Int)) → (List ((List UInt8) × (List UInt8) × Int)) → Option (Bool))) : Nat → Int → Option (Int)
  | 0, _ => none
  | f + 1, a => Qq  (Qh p1 p6 f) p1 p6 a
def Q6 (p1 : (List Qe)) (p6 : ((List UInt8) → Int → Int → (List (Int × Int)) → (List ((List UInt8) × (List UInt8) × Int)) → Option (Bool))) : Option (Int) :=
  (Qh p1 p6 J5 0)
set_option maxHeartbeats 40000000 in
theorem Zb (A2 : Option Addr) (c3 : Nat) (h : FuncId) (i : Array Value) (d5 : (List Qx)) (p6 : ((List UInt8) → Int → Int → (List (Int × Int)) → (List ((List UInt8) × (List UInt8) × Int)) → Option (Bool))) (w0 : World) (m : (dDS Zh H0).ok w0 (A2, c3, d5)) (hcf9 : ∀ (args : Array Value) (w : World), (callFunc h args).run Tryz.prog w = .ok (.enter h args) w) (a2 : ∀ (y0 : (List UInt8)) (y1 : Int) (y2 : Int) (y3 : (List (Int × Int))) (y4 : (List ((List UInt8) × (List UInt8) × Int))) (z : (Bool)) (w : World) (Ay3 : Option Addr) (cy3 : Nat) (Ay4 : Option Addr) (cy4 : Nat), Below w0.heap.size w0 w → RdT (Qg (Ve .u32) (Ve .i64)) w Ay3 cy3 y3 → RdT (Qg Qo (Qg Qo (Ve .i64))) w Ay4 cy4 y4 → p6 y0 y1 y2 y3 y4 = some z → Calls Tryz.prog h (([(.agg #[(.string ⟨List.toArray y0⟩), (.int .i64 y1), (.int .i64 y2), (.slice Ay3 (List.length y3) cy3), (.slice Ay4 (List.length y4) cy4)])] : List Value) ++ (i).toList).toArray w (fun e w' => e = .returned (.bool z) ∧ SP [] w w' [])) (r : (Int)) (H : Q6 (List.map stT d5) p6 = some r) :
  Calls Tryz.prog 44 #[(.slice A2 (List.length (List.map stT d5)) c3), (.func (.func h) #[] i)] w0 (fun e w' => e = .returned (.int .i64 r) ∧ SP [] w0 w' []) := by
 unfold Q6 at H
 refine Qv (n := 19) Tryz.func44 K K K ?_
 have a3 := Q0 [] w0
 refine aQ ?_
 refine aR ?_
 refine iR 1 1 [(4, (.int .i64 0))] ?_
 refine iF ?_
 refine aQ ?_
 refine aQ ?_
 refine aR ?_
 refine iR 3 3 [(6, (.slice A2 (List.length (List.map stT d5)) c3)), (7, (.int .i64 ((List.length (List.map stT d5) : Nat) : Int))), (8, (.int .i64 0))] ?_
 refine iF ?_
 refine Jk K (id := 0) K ?_
 refine Rj K (fun f1 ρ w => ∃ (g : Int), Zi ρ [(0, (.slice A2 (List.length (List.map stT d5)) c3)), (1, (.func (.func h) #[] i)), (7, (.int .i64 ((List.length (List.map stT d5) : Nat) : Int))), (8, (.int .i64 g))] ∧ SP [] w0 w [] ∧ Qh (List.map stT d5) p6 f1 g = some r) (by rintro ρ w ⟨g, hk, hs, H⟩; cases H) ?_ J5 ?_
 ·rintro f1 ρ a4 ⟨g, hk, j, H⟩
  refine At.known [(0, (.slice A2 (List.length (List.map stT d5)) c3)), (1, (.func (.func h) #[] i)), (7, (.int .i64 ((List.length (List.map stT d5) : Nat) : Int))), (8, (.int .i64 g))] hk ?_
  replace H := (show Qq (Qh (List.map stT d5) p6 f1) (List.map stT d5) p6 g = some r from H)
  unfold Qq at H
  refine aQ ?_
  refine aR ?_
  refine iR 1 1 [(9, (.bool (decide (g < ((List.length (List.map stT d5) : Nat) : Int)))))] ?_
  refine iF ?_
  refine aQ ?_
  refine Xe K (o := (.tmp 9)) K (b := (decide (g < ((List.length (List.map stT d5) : Nat) : Int)))) K (fun p => ?_) (fun p => ?_)
  ·have H := ct H p
   refine At.skip K ?_
   refine aQ ?_
   refine Jk K (id := 1) K ?_
   refine aQ ?_
   refine aR ?_
   refine iR 2 2 [(10, (.int .i64 g)), (5, (.int .i64 g))] ?_
   refine iF ?_
   refine aQ ?_
   refine aR ?_
   refine iR 3 3 [(11, (.func (.func h) #[] i)), (12, (.slice A2 (List.length (List.map stT d5)) c3)), (13, (.int .i64 g))] ?_
   obtain ⟨a, u, v, q, H⟩ := Nr H
   refine iS 4 ?_
   refine Ub stT (e := Zh) (l := d5) (A := A2) (c := c3) (T := 22) (E := 33) (x := (.tmp 12)) (ix := (.tmp 13)) (ki := .i64) (iz := g) (d := (some 14)) (k := 3) K rfl K K K K (RdT.sp (Uk m) j) u v ?_
   intro a5 a6 a7 a9 hc59
   refine iS 5 ?_
   refine Qi.cells (t := 33) (x := (.tmp 14)) (b := a5) (off := (a6 + Int.toNat g * Zh.sz)) (xs := [(.string ⟨List.toArray (stT a).1⟩), (.int .i64 (stT a).2.1), (.int .i64 (stT a).2.2.1), (.slice a.2.2.2.1.1 (List.length (stT a).2.2.2.1) a.2.2.2.1.2.1), (.slice a.2.2.2.2.1 (List.length (stT a).2.2.2.2) a.2.2.2.2.2.1)]) (d := (some 15)) (k := 4) K rfl K K K (Zl (e := Zh) (Qm (RdT.sp (Uk m) j) a7 u v) q rfl) ?_
   obtain ⟨y, a8, H⟩ := Qc H
   refine iS 6 ?_
   refine Xf (f := h) (fo := (.tmp 11)) (xs := #[(.tmp 15)]) (tys := #[33]) (first := #[]) (captured := i) (args := (([(.agg #[(.string ⟨List.toArray (stT a).1⟩), (.int .i64 (stT a).2.1), (.int .i64 (stT a).2.2.1), (.slice a.2.2.2.1.1 (List.length (stT a).2.2.2.1) a.2.2.2.1.2.1), (.slice a.2.2.2.2.1 (List.length (stT a).2.2.2.2) a.2.2.2.2.2.1)])] : List Value) ++ (i).toList)) (d := (some 16)) (k := 5) K rfl K K hcf9 (a2 (stT a).1 (stT a).2.1 (stT a).2.2.1 (stT a).2.2.2.1 (stT a).2.2.2.2 y a4 a.2.2.2.1.1 a.2.2.2.1.2.1 a.2.2.2.2.1 a.2.2.2.2.2.1 (SP.keeps j) (RdT.sp (Uk (dp1 (dp2 (dp2 (dp2 (D3 m q)))))) j) (RdT.sp (Uk (dp2 (dp2 (dp2 (dp2 (D3 m q)))))) j) a8) ?_
   rintro e b0 ⟨rfl, a0⟩
   refine ⟨_, rfl, ?_⟩
   have a1 := SP.call j a0
   clear a0
   refine iF ?_
   refine Xe K (o := (.tmp 16)) K (b := y) K (fun s => ?_) (fun s => ?_)
   ·have H := ct H s
    refine aQ ?_
    refine aR ?_
    refine iR 2 2 [(17, (.int .i64 g)), (4, (.int .i64 g))] ?_
    refine iF ?_
    refine At.ret K ?_
    refine ⟨(.int .i64 g), K, ?_⟩
    obtain rfl := Qf H
    exact ⟨rfl, SP.sel a1 [] rfl rfl⟩
   ·have H := cf H s
    refine At.skip K ?_
    refine aR ?_
    refine iR 2 2 [(18, (.int .i64 (IntKind.wrap .i64 (g + 1)))), (8, (.int .i64 (IntKind.wrap .i64 (g + 1))))] ?_
    refine iF ?_
    exact ⟨(IntKind.wrap .i64 (g + 1)), ⟨K, K, K, K, trivial⟩, SP.sel a1 [] rfl rfl, H⟩
  ·have H := cf H p
   refine At.exit K (id := 0) K ?_
   refine aQ ?_
   refine aR ?_
   refine iR 1 1 [(4, (.int .i64 (-1)))] ?_
   refine iF ?_
   refine At.ret K ?_
   refine ⟨(.int .i64 (-1)), K, ?_⟩
   obtain rfl := Qf H
   exact ⟨rfl, SP.sel j [] rfl rfl⟩
 ·exact ⟨0, ⟨K, K, K, K, trivial⟩, SP.sel a3 [] rfl rfl, H⟩
def Q2 (p1 : (List Qe)) (p6 : ((List UInt8) → Int → Int → (List (Int × Int)) → (List ((List UInt8) × (List UInt8) × Int)) → Option (Bool))) : Option (Bool) :=
  ((Q6 p1 p6).bind fun a => (some ((decide (a ≥ 0)))))
set_option maxHeartbeats 40000000 in
theorem Xx (A2 : Option Addr) (c3 : Nat) (a : FuncId) (b : Array Value) (d5 : (List Qx)) (p6 : ((List UInt8) → Int → Int → (List (Int × Int)) → (List ((List UInt8) × (List UInt8) × Int)) → Option (Bool))) (w0 : World) (g : (dDS Zh H0).ok w0 (A2, c3, d5)) (hcf9 : ∀ (args : Array Value) (w : World), (callFunc a args).run Tryz.prog w = .ok (.enter a args) w) (h : ∀ (y0 : (List UInt8)) (y1 : Int) (y2 : Int) (y3 : (List (Int × Int))) (y4 : (List ((List UInt8) × (List UInt8) × Int))) (z : (Bool)) (w : World) (Ay3 : Option Addr) (cy3 : Nat) (Ay4 : Option Addr) (cy4 : Nat), Below w0.heap.size w0 w → RdT (Qg (Ve .u32) (Ve .i64)) w Ay3 cy3 y3 → RdT (Qg Qo (Qg Qo (Ve .i64))) w Ay4 cy4 y4 → p6 y0 y1 y2 y3 y4 = some z → Calls Tryz.prog a (([(.agg #[(.string ⟨List.toArray y0⟩), (.int .i64 y1), (.int .i64 y2), (.slice Ay3 (List.length y3) cy3), (.slice Ay4 (List.length y4) cy4)])] : List Value) ++ (b).toList).toArray w (fun e w' => e = .returned (.bool z) ∧ SP [] w w' [])) (r : (Bool)) (H : Q2 (List.map stT d5) p6 = some r) :
  Calls Tryz.prog 49 #[(.slice A2 (List.length (List.map stT d5)) c3), (.func (.func a) #[] b)] w0 (fun e w' => e = .returned (.bool r) ∧ SP [] w0 w' []) := by
 unfold Q2 at H
 refine Qv (n := 9) Tryz.func49 K K K ?_
 have d := Q0 [] w0
 refine aQ ?_
 refine aR ?_
 refine iR 1 1 [(4, (.bool false))] ?_
 refine iF ?_
 refine aQ ?_
 refine aR ?_
 refine iR 2 2 [(5, (.slice A2 (List.length (List.map stT d5)) c3)), (6, (.func (.func a) #[] b))] ?_
 obtain ⟨c, i, H⟩ := Qc H
 refine iS 3 ?_
 refine cF 44 #[(.tmp 5), (.tmp 6)] #[22, 82] 7 Tryz.call44 (Zb A2 c3 a b d5 p6 w0 (Dp.sp g d) hcf9 (fun y0 y1 y2 y3 y4 z w Ay3 cy3 Ay4 cy4 hw hy3 hy4 hz => h y0 y1 y2 y3 y4 z w Ay3 cy3 Ay4 cy4 (G3 d hw) hy3 hy4 hz) c i) ?_
 rintro e k ⟨rfl, f⟩
 refine ⟨_, rfl, ?_⟩
 have j := SP.call d f
 clear f
 refine iR 2 5 [(8, (.bool (decide (c ≥ 0)))), (4, (.bool (decide (c ≥ 0))))] ?_
 refine iF ?_
 refine At.ret K ?_
 refine ⟨(.bool (decide (c ≥ 0))), K, ?_⟩
 obtain rfl := Qf H
 exact ⟨rfl, SP.sel j [] rfl rfl⟩
def Xh (a : Int) (b : Int) : Option (Bool) :=
  ((Ym a b).bind fun z7 => (some ((z7 == ([] : List UInt8)))))
set_option maxHeartbeats 40000000 in
theorem Gi  (c : Int) (f : Int) (w0 : World) (hL : Uj w0)  (r : (Bool)) (H : Xh c f = some r) :
  Calls Tryz.prog 97 #[(.agg #[(.int .u32 c), (.int .i64 f)])] w0 (fun e w' => e = .returned (.bool r) ∧ SP [] w0 w' []) := by
 unfold Xh at H
 refine Qv (n := 6) Tryz.func97 K K K ?_
 have i := Q0 [] w0
 refine aQ ?_
 refine aR ?_
 refine iS 1 ?_
 refine Xp (t := 102) (x := (.tmp 0)) (v := (.agg #[(.int .u32 c), (.int .i64 f)])) (d := (some 1)) (k := 0) K rfl K i ?_
 intro g3 w4 g
 refine iR 1 2 [(2, (.bool false))] ?_
 refine iF ?_
 refine aQ ?_
 refine aR ?_
 refine iS 1 ?_
 refine sL 102 1 g3 0 0 (.agg #[(.int .u32 c), (.int .i64 f)]) 3 g rfl ?_
 obtain ⟨z7, j, H⟩ := Qc H
 refine iS 2 ?_
 refine cF 60 #[(.tmp 3)] #[102] 4 Tryz.call60 (Uy  c f w4 (Qz hL (SP.keeps g)) z7 j) ?_
 rintro e w9 ⟨rfl, h⟩
 refine ⟨_, rfl, ?_⟩
 have l := SP.call g h
 clear h
 refine iS 3 ?_
 refine Xs (op := .eql) (T := 9) (T' := 9) (x := (.tmp 4)) (y := (.const (.string ⟨List.toArray ([] : List UInt8)⟩))) (a := z7) (b := ([] : List UInt8)) (r := (.bool (z7 == ([] : List UInt8)))) (d := (some 5)) (k := 2) K rfl K K rfl ?_
 refine iR 1 4 [(2, (.bool (z7 == ([] : List UInt8))))] ?_
 refine iF ?_
 refine At.ret K ?_
 refine ⟨(.bool (z7 == ([] : List UInt8))), K, ?_⟩
 obtain rfl := Qf H
 exact ⟨rfl, SP.sel l [] rfl rfl⟩
def Xi (a : Bool) : Option (Bool) :=
  (some (a))
def Jd (a : (List UInt8)) (b : (List UInt8)) (c : Int) : Option (Bool) :=
  ((Xv a).bind fun d => (cond d ((Zn ((List.length b : Nat) : Int) 1 32).bind fun e => (cond e ((Zn c 0 1099511627776).bind fun f => (Xi f)) (Xi false))) (Xi false)))
set_option maxHeartbeats 40000000 in
theorem Ro  (f : (List UInt8)) (a : (List UInt8)) (g : Int) (w0 : World)  (r : (Bool)) (H : Jd f a g = some r) :
  Calls Tryz.prog 100 #[(.agg #[(.string ⟨List.toArray f⟩), (.string ⟨List.toArray a⟩), (.int .i64 g)])] w0 (fun e w' => e = .returned (.bool r) ∧ SP [] w0 w' []) := by
 unfold Jd at H
 refine Qv (n := 17) Tryz.func100 K K K ?_
 have a0 := Q0 [] w0
 refine aQ ?_
 refine aR ?_
 refine iS 1 ?_
 refine Xp (t := 37) (x := (.tmp 0)) (v := (.agg #[(.string ⟨List.toArray f⟩), (.string ⟨List.toArray a⟩), (.int .i64 g)])) (d := (some 1)) (k := 0) K rfl K a0 ?_
 intro g4 w5 s
 refine iR 1 2 [(2, (.bool false))] ?_
 refine iF ?_
 refine aQ ?_
 refine At.join (fun ρ w => ∃ (c : Bool), Zi ρ [(2, (.bool c))] ∧ SP [] w0 w [] ∧ Xi c = some r) ?_ ?_
 ·refine aR ?_
  refine iR 1 1 [(3, (pt g4 0))] ?_
  refine iS 2 ?_
  refine sL 9 3 g4 0 0 (.string ⟨List.toArray f⟩) 4 s rfl ?_
  obtain ⟨j, a1, H⟩ := Qc H
  refine iS 3 ?_
  refine cF 101 #[(.tmp 4)] #[9] 5 Tryz.call101 (Ng  f w5  j a1) ?_
  rintro e a2 ⟨rfl, u⟩
  refine ⟨_, rfl, ?_⟩
  have m := SP.call s u
  clear u
  refine iR 1 4 [(6, (.bool j))] ?_
  refine In.guard (t := 6) (b := j) K (fun o => ?_) (fun o => ?_)
  ·have H := ct H o
   refine iR 1 5 [(7, (pt g4 1))] ?_
   refine iS 6 ?_
   refine sL 9 7 g4 1 0 (.string ⟨List.toArray a⟩) 8 m rfl ?_
   refine iR 1 7 [(9, (.int .i64 ((List.length a : Nat) : Int)))] ?_
   obtain ⟨h, a3, H⟩ := Qc H
   refine iS 8 ?_
   refine cF 48 #[(.tmp 9), (.const (.int .i64 (1))), (.const (.int .i64 (32)))] #[2, 2, 2] 10 Tryz.call48 (Xb  ((List.length a : Nat) : Int) 1 32 a2  h a3) ?_
   rintro e a4 ⟨rfl, y⟩
   refine ⟨_, rfl, ?_⟩
   have p := SP.call m y
   clear y
   refine iR 2 10 [(11, (.bool h)), (12, (.bool h))] ?_
   refine In.guard (t := 12) (b := h) K (fun q => ?_) (fun q => ?_)
   ·have H := ct H q
    refine iR 1 11 [(13, (pt g4 2))] ?_
    refine iS 12 ?_
    refine sL 2 13 g4 2 0 (.int .i64 g) 14 p rfl ?_
    obtain ⟨i, a5, H⟩ := Qc H
    refine iS 13 ?_
    refine cF 48 #[(.tmp 14), (.const (.int .i64 (0))), (.const (.int .i64 (1099511627776)))] #[2, 2, 2] 15 Tryz.call48 (Xb  g 0 1099511627776 a4  i a5) ?_
    rintro e a8 ⟨rfl, z⟩
    refine ⟨_, rfl, ?_⟩
    have a6 := SP.call p z
    clear z
    refine iR 2 15 [(16, (.bool i)), (2, (.bool i))] ?_
    refine iF ?_
    exact ⟨i, ⟨K, trivial⟩, SP.sel a6 [] rfl rfl, H⟩
   ·have H := cf H q
    refine iR 5 15 [(13, undef), (14, undef), (15, undef), (16, (.bool false)), (2, (.bool false))] ?_
    refine iF ?_
    exact ⟨false, ⟨K, trivial⟩, SP.sel p [] rfl rfl, H⟩
  ·have H := cf H o
   refine iR 11 15 [(7, undef), (8, undef), (9, undef), (10, undef), (11, (.bool false)), (12, (.bool false)), (13, undef), (14, undef), (15, undef), (16, (.bool false)), (2, (.bool false))] ?_
   refine iF ?_
   exact ⟨false, ⟨K, trivial⟩, SP.sel m [] rfl rfl, H⟩
 ·rintro ρ a9 ⟨c, hk, a7, H⟩
  unfold Xi at H
  first | refine At.known [(2, (.bool c))] hk ?_ | rw [← Q1 (l := [(2, (.bool c))]) hk]
  refine At.ret K ?_
  refine ⟨(.bool c), K, ?_⟩
  obtain rfl := Qf H
  exact ⟨rfl, SP.sel a7 [] rfl rfl⟩
def X8 (a : (List UInt8)) (b : (List UInt8)) (c : Int) : Option (Bool) :=
  ((Jd a b c).bind fun z8 => (some ((!z8))))
set_option maxHeartbeats 40000000 in
theorem Gj  (a : (List UInt8)) (b : (List UInt8)) (c : Int) (w0 : World)  (r : (Bool)) (H : X8 a b c = some r) :
  Calls Tryz.prog 99 #[(.agg #[(.string ⟨List.toArray a⟩), (.string ⟨List.toArray b⟩), (.int .i64 c)])] w0 (fun e w' => e = .returned (.bool r) ∧ SP [] w0 w' []) := by
 unfold X8 at H
 refine Qv (n := 6) Tryz.func99 K K K ?_
 have h := Q0 [] w0
 refine aQ ?_
 refine aR ?_
 refine iS 1 ?_
 refine Xp (t := 37) (x := (.tmp 0)) (v := (.agg #[(.string ⟨List.toArray a⟩), (.string ⟨List.toArray b⟩), (.int .i64 c)])) (d := (some 1)) (k := 0) K rfl K h ?_
 intro g4 w5 f
 refine iR 1 2 [(2, (.bool false))] ?_
 refine iF ?_
 refine aQ ?_
 refine aR ?_
 refine iS 1 ?_
 refine sL 37 1 g4 0 0 (.agg #[(.string ⟨List.toArray a⟩), (.string ⟨List.toArray b⟩), (.int .i64 c)]) 3 f rfl ?_
 obtain ⟨z8, i, H⟩ := Qc H
 refine iS 2 ?_
 refine cF 100 #[(.tmp 3)] #[37] 4 Tryz.call100 (Ro  a b c w5  z8 i) ?_
 rintro e l ⟨rfl, g⟩
 refine ⟨_, rfl, ?_⟩
 have j := SP.call f g
 clear g
 refine iR 2 4 [(5, (.bool (!z8))), (2, (.bool (!z8)))] ?_
 refine iF ?_
 refine At.ret K ?_
 refine ⟨(.bool (!z8)), K, ?_⟩
 obtain rfl := Qf H
 exact ⟨rfl, SP.sel j [] rfl rfl⟩
def Vg (d : Int → Option (Bool)) (p1 : (List ((List UInt8) × (List UInt8) × Int))) (p5 : ((List UInt8) → (List UInt8) → Int → Option ((List UInt8)))) (a : Int) : Option (Bool) :=
  (cond (decide (a < ((List.length p1 : Nat) : Int))) ((idx p1 (IntKind.wrap .i64 (a - 1))).bind fun b => ((p5 b.1 b.2.1 b.2.2).bind fun e => ((idx p1 a).bind fun c => ((p5 c.1 c.2.1 c.2.2).bind fun f => (cond (!(Op.bytesLess e f)) (some (false)) (d (IntKind.wrap .i64 (a + 1)))))))) (some (true)))
def Vh (p1 : (List ((List UInt8) × (List UInt8) × Int))) (p5 : ((List UInt8) → (List UInt8) → Int → Option ((List UInt8)))) : Nat → Int → Option (Bool)
  | 0, _ => none
  | f + 1, a => Vg  (Vh p1 p5 f) p1 p5 a
def V8 (p1 : (List ((List UInt8) × (List UInt8) × Int))) (p5 : ((List UInt8) → (List UInt8) → Int → Option ((List UInt8)))) : Option (Bool) :=
  (Vh p1 p5 J5 1)
set_option maxHeartbeats 40000000 in
theorem Ul (A2 : Option Addr) (c3 : Nat) (m : FuncId) (p : Array Value) (p1 : (List ((List UInt8) × (List UInt8) × Int))) (p5 : ((List UInt8) → (List UInt8) → Int → Option ((List UInt8)))) (w0 : World) (a0 : RdT (Qg Qo (Qg Qo (Ve .i64))) w0 A2 c3 p1) (hcf8 : ∀ (args : Array Value) (w : World), (callFunc m args).run Tryz.prog w = .ok (.enter m args) w) (a7 : ∀ (y0 : (List UInt8)) (y1 : (List UInt8)) (y2 : Int) (z : ((List UInt8))) (w : World), Below w0.heap.size w0 w → p5 y0 y1 y2 = some z → Calls Tryz.prog m (([(.agg #[(.string ⟨List.toArray y0⟩), (.string ⟨List.toArray y1⟩), (.int .i64 y2)])] : List Value) ++ (p).toList).toArray w (fun e w' => e = .returned (.string ⟨List.toArray z⟩) ∧ SP [] w w' [])) (r : (Bool)) (H : V8 p1 p5 = some r) :
  Calls Tryz.prog 102 #[(.slice A2 (List.length p1) c3), (.func (.func m) #[] p)] w0 (fun e w' => e = .returned (.bool r) ∧ SP [] w0 w' []) := by
 unfold V8 at H
 refine Qv (n := 26) Tryz.func102 K K K ?_
 have b6 := Q0 [] w0
 refine aQ ?_
 refine aR ?_
 refine iR 1 1 [(4, (.bool false))] ?_
 refine iF ?_
 refine aQ ?_
 refine aQ ?_
 refine aR ?_
 refine iR 1 1 [(5, (.int .i64 1))] ?_
 refine iF ?_
 refine Jk K (id := 0) K ?_
 refine Rj K (fun f1 ρ w => ∃ (g : Int), Zi ρ [(0, (.slice A2 (List.length p1) c3)), (1, (.func (.func m) #[] p)), (5, (.int .i64 g))] ∧ SP [] w0 w [] ∧ Vh p1 p5 f1 g = some r) (by rintro ρ w ⟨g, hk, hs, H⟩; cases H) ?_ J5 ?_
 ·rintro f1 ρ f3 ⟨g, hk, a8, H⟩
  refine At.known [(0, (.slice A2 (List.length p1) c3)), (1, (.func (.func m) #[] p)), (5, (.int .i64 g))] hk ?_
  replace H := (show Vg (Vh p1 p5 f1) p1 p5 g = some r from H)
  unfold Vg at H
  refine aQ ?_
  refine aQ ?_
  refine aR ?_
  refine iR 4 4 [(6, (.int .i64 g)), (7, (.slice A2 (List.length p1) c3)), (8, (.int .i64 ((List.length p1 : Nat) : Int))), (9, (.bool (decide (g < ((List.length p1 : Nat) : Int)))))] ?_
  refine iF ?_
  refine Xe K (o := (.tmp 9)) K (b := (decide (g < ((List.length p1 : Nat) : Int)))) K (fun a3 => ?_) (fun a3 => ?_)
  ·have H := ct H a3
   refine At.skip K ?_
   refine aQ ?_
   refine Jk K (id := 1) K ?_
   refine aQ ?_
   obtain ⟨s, a9, b0, b7, H⟩ := Vk H
   obtain ⟨u, b8, H⟩ := Qc H
   obtain ⟨q, a1, a2, b1, H⟩ := Vk H
   obtain ⟨v, b9, H⟩ := Qc H
   refine aG [GEq (.func (.func m) #[] p), GEq (.slice A2 (List.length p1) c3), GEq (.int .i64 g), GEq (.int .i64 (IntKind.wrap .i64 (g - 1))), Ja A2 (Qg Qo (Qg Qo (Ve .i64))).sz (IntKind.wrap .i64 (g - 1)), GEq (.agg #[(.string ⟨List.toArray s.1⟩), (.string ⟨List.toArray s.2.1⟩), (.int .i64 s.2.2)]), GEq (.string ⟨List.toArray u⟩), GEq (.func (.func m) #[] p), GEq (.slice A2 (List.length p1) c3), GEq (.int .i64 g), Ja A2 (Qg Qo (Qg Qo (Ve .i64))).sz g, GEq (.agg #[(.string ⟨List.toArray q.1⟩), (.string ⟨List.toArray q.2.1⟩), (.int .i64 q.2.2)]), GEq (.string ⟨List.toArray v⟩), GEq (.bool (!(Op.bytesLess u v)))] [6, 12] (tG [] w0 [] [([], []), ([6], [(.string ⟨List.toArray u⟩)]), ([6, 12], [(.string ⟨List.toArray u⟩), (.string ⟨List.toArray v⟩)])]) 14 2 ⟨trivial, SP.drew a8⟩ ?_ ?_
   iterate 14 refine And.intro ?_ ?_
   exact trivial
   ·exact oV (hC (hS 1 (.func (.func m) #[] p)) (h0)) (.func (.func m) #[] p)
   ·exact oV (hC (hS 0 (.slice A2 (List.length p1) c3)) (h0)) (.slice A2 (List.length p1) c3)
   ·exact oV (hC (hS 5 (.int .i64 g)) (h0)) (.int .i64 g)
   ·exact oV (hC (hA 2 14) (h0)) (.int .i64 (IntKind.wrap .i64 (g - 1)))
   ·refine oL 0 ?_
    ·rintro ρ' w' hs i ⟨f4, c0⟩
     refine kM (kc (kA i 1 13) (kc (kA i 3 15) k0)) fun j => ?_
     refine Ql (e := (Qg Qo (Qg Qo (Ve .i64)))) (l := p1) (A := A2) (c := c3) (T := 31) (E := 37) (x := (.tmp 13)) (ix := (.tmp 15)) (ki := .i64) (iz := (IntKind.wrap .i64 (g - 1))) (d := (some 16)) (k := 4) K rfl K K K K (RdT.sp a0 c0) a9 b0 ?_
     intro c1 c2 c4 f5 hc269
     exact ⟨rfl, _, Qa j, ⟨c1, c2, c4, rfl⟩⟩
   ·refine oL 0 ?_
    ·rintro ρ' w' hs i ⟨f6, c5⟩
     obtain ⟨c6, c7, c8, c9⟩ := i 4 16 K
     refine kM (kc c9 k0) fun j => ?_
     refine Qi.cells (t := 37) (x := (.tmp 16)) (b := c6) (off := (c7 + Int.toNat (IntKind.wrap .i64 (g - 1)) * (Qg Qo (Qg Qo (Ve .i64))).sz)) (xs := [(.string ⟨List.toArray s.1⟩), (.string ⟨List.toArray s.2.1⟩), (.int .i64 s.2.2)]) (d := (some 17)) (k := 5) K rfl K K K (Zl (e := (Qg Qo (Qg Qo (Ve .i64)))) (Qm (RdT.sp a0 c5) c8 a9 b0) b7 rfl) ?_
     exact eK j
   ·refine oH 0 1 ?_
    ·rintro ρ' w' hs i ⟨f7, b2⟩
     refine kM (kc (kA i 0 12) (kc (kA i 5 17) k0)) fun j => ?_
     refine Xf (f := m) (fo := (.tmp 12)) (xs := #[(.tmp 17)]) (tys := #[37]) (first := #[]) (captured := p) (args := (([(.agg #[(.string ⟨List.toArray s.1⟩), (.string ⟨List.toArray s.2.1⟩), (.int .i64 s.2.2)])] : List Value) ++ (p).toList)) (d := (some 18)) (k := 6) K rfl K K hcf8 (a7 s.1 s.2.1 s.2.2 u w'  (SP.keeps b2)  b8) ?_
     rintro e f8 ⟨rfl, b3⟩
     refine ⟨_, rfl, ?_⟩
     have d0 := SP.call b2 b3
     clear b3
     refine ⟨_, Qa j, rfl, ?_⟩
     exact (And.intro (And.intro rfl (trivial)) d0)
   ·exact oV (hC (hS 1 (.func (.func m) #[] p)) (h0)) (.func (.func m) #[] p)
   ·exact oV (hC (hS 0 (.slice A2 (List.length p1) c3)) (h0)) (.slice A2 (List.length p1) c3)
   ·exact oV (hC (hS 5 (.int .i64 g)) (h0)) (.int .i64 g)
   ·refine Owe.light K [0, 1] K (Qb ?_ (Qb ?_ Q8))
    ·rintro ρ' w' hs i ⟨f9, d1⟩
     refine kM (kc (kA i 8 20) (kc (kA i 9 21) k0)) fun j => ?_
     refine Ql (e := (Qg Qo (Qg Qo (Ve .i64)))) (l := p1) (A := A2) (c := c3) (T := 31) (E := 37) (x := (.tmp 20)) (ix := (.tmp 21)) (ki := .i64) (iz := g) (d := (some 22)) (k := 10) K rfl K K K K (RdT.sp a0 d1) a1 a2 ?_
     intro d2 d3 d4 g0 hc287
     exact ⟨rfl, _, Qa j, ⟨d2, d3, d4, rfl⟩⟩
    ·rintro ρ' w' hs i ⟨⟨g1, -⟩, d5⟩
     refine kM (kc (kA i 8 20) (kc (kA i 9 21) k0)) fun j => ?_
     refine Ql (e := (Qg Qo (Qg Qo (Ve .i64)))) (l := p1) (A := A2) (c := c3) (T := 31) (E := 37) (x := (.tmp 20)) (ix := (.tmp 21)) (ki := .i64) (iz := g) (d := (some 22)) (k := 10) K rfl K K K K (RdT.sp a0 d5) a1 a2 ?_
     intro d6 d7 d8 g2 hc295
     exact ⟨rfl, _, Qa j, ⟨d6, d7, d8, rfl⟩⟩
   ·refine Owe.light K [0, 1] K (Qb ?_ (Qb ?_ Q8))
    ·rintro ρ' w' hs i ⟨g3, d9⟩
     obtain ⟨e0, e1, e2, a4⟩ := i 10 22 K
     refine kM (kc a4 k0) fun j => ?_
     refine Qi.cells (t := 37) (x := (.tmp 22)) (b := e0) (off := (e1 + Int.toNat g * (Qg Qo (Qg Qo (Ve .i64))).sz)) (xs := [(.string ⟨List.toArray q.1⟩), (.string ⟨List.toArray q.2.1⟩), (.int .i64 q.2.2)]) (d := (some 23)) (k := 11) K rfl K K K (Zl (e := (Qg Qo (Qg Qo (Ve .i64)))) (Qm (RdT.sp a0 d9) e2 a1 a2) b1 rfl) ?_
     exact eK j
    ·rintro ρ' w' hs i ⟨⟨g4, -⟩, e3⟩
     obtain ⟨e4, e5, e6, a4⟩ := i 10 22 K
     refine kM (kc a4 k0) fun j => ?_
     refine Qi.cells (t := 37) (x := (.tmp 22)) (b := e4) (off := (e5 + Int.toNat g * (Qg Qo (Qg Qo (Ve .i64))).sz)) (xs := [(.string ⟨List.toArray q.1⟩), (.string ⟨List.toArray q.2.1⟩), (.int .i64 q.2.2)]) (d := (some 23)) (k := 11) K rfl K K K (Zl (e := (Qg Qo (Qg Qo (Ve .i64)))) (Qm (RdT.sp a0 e3) e6 a1 a2) b1 rfl) ?_
     exact eK j
   ·refine oH 1 2 ?_
    ·rintro ρ' w' hs i ⟨⟨e7, -⟩, b4⟩
     refine kM (kc (kA i 7 19) (kc (kA i 11 23) k0)) fun j => ?_
     refine Xf (f := m) (fo := (.tmp 19)) (xs := #[(.tmp 23)]) (tys := #[37]) (first := #[]) (captured := p) (args := (([(.agg #[(.string ⟨List.toArray q.1⟩), (.string ⟨List.toArray q.2.1⟩), (.int .i64 q.2.2)])] : List Value) ++ (p).toList)) (d := (some 24)) (k := 12) K rfl K K hcf8 (a7 q.1 q.2.1 q.2.2 v w'  (SP.keeps b4)  b9) ?_
     rintro e g5 ⟨rfl, b5⟩
     refine ⟨_, rfl, ?_⟩
     have e8 := SP.call b4 b5
     clear b5
     refine ⟨_, Qa j, rfl, ?_⟩
     exact (And.intro (And.intro e7 (And.intro rfl (trivial))) e8)
   ·refine oL 2 ?_
    ·rintro ρ' w' hs i ⟨⟨e9, f0, -⟩, g6⟩
     refine kN [(18, (.string ⟨List.toArray u⟩)), (24, (.string ⟨List.toArray v⟩))] ⟨(Vp (h := 6) K).symm.trans e9, (Vp (h := 12) K).symm.trans f0, trivial⟩ fun j => ?_
     refine Xs (op := .geq) (T := 9) (T' := 9) (x := (.tmp 18)) (y := (.tmp 24)) (a := u) (b := v) (r := (.bool (!(Op.bytesLess u v)))) (d := (some 25)) (k := 13) K rfl K K rfl ?_
     exact eK j
   ·rintro ρ' w' hs hf ⟨⟨g7, g8, -⟩, a5⟩
    refine V7 [(0, (.slice A2 (List.length p1) c3)), (1, (.func (.func m) #[] p)), (5, (.int .i64 g)), (25, (.bool (!(Op.bytesLess u v))))] ⟨(hs 0 K).trans K, (hs 1 K).trans K, (hs 5 K).trans K, hf 13 25 K, trivial⟩ ?_
    obtain ⟨g9, f2⟩ : ∃ x, w' = x := ⟨_, rfl⟩
    rw [f2] at a5 ⊢
    refine Xe K (o := (.tmp 25)) K (b := (!(Op.bytesLess u v))) K (fun a6 => ?_) (fun a6 => ?_)
    ·have H := ct H a6
     refine aQ ?_
     refine aR ?_
     refine iR 1 1 [(4, (.bool false))] ?_
     refine iF ?_
     refine At.ret K ?_
     refine ⟨(.bool false), K, ?_⟩
     obtain rfl := Qf H
     exact ⟨rfl, SP.sel a5 [] rfl rfl⟩
    ·have H := cf H a6
     refine At.skip K ?_
     refine aR ?_
     refine iR 3 3 [(10, (.int .i64 g)), (11, (.int .i64 (IntKind.wrap .i64 (g + 1)))), (5, (.int .i64 (IntKind.wrap .i64 (g + 1))))] ?_
     refine iF ?_
     exact ⟨(IntKind.wrap .i64 (g + 1)), ⟨K, K, K, trivial⟩, SP.sel a5 [] rfl rfl, H⟩
  ·have H := cf H a3
   refine At.exit K (id := 0) K ?_
   refine aQ ?_
   refine aR ?_
   refine iR 1 1 [(4, (.bool true))] ?_
   refine iF ?_
   refine At.ret K ?_
   refine ⟨(.bool true), K, ?_⟩
   obtain rfl := Qf H
   exact ⟨rfl, SP.sel a8 [] rfl rfl⟩
 ·exact ⟨1, ⟨K, K, K, trivial⟩, SP.sel b6 [] rfl rfl, H⟩
def Y1 (a : (List UInt8)) (b : (List UInt8)) (c : Int) : Option ((List UInt8)) :=
  (some (a))
set_option maxHeartbeats 40000000 in
theorem Gk  (a : (List UInt8)) (b : (List UInt8)) (c : Int) (w0 : World)  (r : ((List UInt8))) (H : Y1 a b c = some r) :
  Calls Tryz.prog 103 #[(.agg #[(.string ⟨List.toArray a⟩), (.string ⟨List.toArray b⟩), (.int .i64 c)])] w0 (fun e w' => e = .returned (.string ⟨List.toArray r⟩) ∧ SP [] w0 w' []) := by
 unfold Y1 at H
 refine Qv (n := 5) Tryz.func103 K K K ?_
 have g := Q0 [] w0
 refine aQ ?_
 refine aR ?_
 refine iS 1 ?_
 refine Xp (t := 37) (x := (.tmp 0)) (v := (.agg #[(.string ⟨List.toArray a⟩), (.string ⟨List.toArray b⟩), (.int .i64 c)])) (d := (some 1)) (k := 0) K rfl K g ?_
 intro g4 w5 f
 refine iR 1 2 [(2, (.string ⟨List.toArray ([] : List UInt8)⟩))] ?_
 refine iF ?_
 refine aQ ?_
 refine aR ?_
 refine iR 1 1 [(3, (pt g4 0))] ?_
 refine iS 2 ?_
 refine sL 9 3 g4 0 0 (.string ⟨List.toArray a⟩) 4 f rfl ?_
 refine iR 1 3 [(2, (.string ⟨List.toArray a⟩))] ?_
 refine iF ?_
 refine At.ret K ?_
 refine ⟨(.string ⟨List.toArray a⟩), K, ?_⟩
 obtain rfl := Qf H
 exact ⟨rfl, SP.sel f [] rfl rfl⟩
def Z5 (a : Bool) : Option (Bool) :=
  (some (a))
def Z6 (a : Int) (b : Int) (c : (List ((List UInt8) × (List UInt8) × Int))) (d : Bool) : Option (Bool) :=
  (cond d (some (false)) ((Zn a 0 8).bind fun e => (cond e ((Zn b 0 8).bind fun f => (cond f ((V8 c (fun y0 y1 y2 => Y1 y0 y1 y2)).bind fun g => (Z5 g)) (Z5 false))) (Z5 false))))
def Xy (a : Int) (b : Int) (c : (List ((List UInt8) × (List UInt8) × Int))) (d : Bool) : Option (Bool) :=
  (Z6 a b c d)
def Xz (a : Int) (b : Int) (c : (List ((List UInt8) × (List UInt8) × Int))) (d : Bool) : Option (Bool) :=
  (Xy a b c d)
def Z7 (g : (List UInt8)) (b : Int) (c : Int) (d : (List (Int × Int))) (a : (List ((List UInt8) × (List UInt8) × Int))) (e : Bool) : Option (Bool) :=
  (cond e (Z6 b c a e) ((Xv g).bind fun f => (cond (!f) (Xy b c a (!f)) (cond (decide (((List.length d : Nat) : Int) > 4)) (Xz b c a (decide (((List.length d : Nat) : Int) > 4))) (Xz b c a (decide (((List.length a : Nat) : Int) > 4)))))))
def Yy (c : (List UInt8)) (d : Int) (e : Int) (a : (List (Int × Int))) (b : (List ((List UInt8) × (List UInt8) × Int))) : Option (Bool) :=
  ((Vf a (fun y0 y1 => Xh y0 y1)).bind fun f => (cond f (Z7 c d e a b true) ((Q4 b (fun y0 y1 y2 => X8 y0 y1 y2)).bind fun g => (Z7 c d e a b g))))
set_option maxHeartbeats 40000000 in
theorem G7 (A5 : Option Addr) (c6 : Nat) (A9 : Option Addr) (i : Nat) (j : (List UInt8)) (g : Int) (h : Int) (f : (List (Int × Int))) (c : (List ((List UInt8) × (List UInt8) × Int))) (w0 : World) (hL : Uj w0) (c7 : RdT (Qg (Ve .u32) (Ve .i64)) w0 A5 c6 f) (b9 : RdT (Qg Qo (Qg Qo (Ve .i64))) w0 A9 i c) (r : (Bool)) (H : Yy j g h f c = some r) :
  Calls Tryz.prog 51 #[(.agg #[(.string ⟨List.toArray j⟩), (.int .i64 g), (.int .i64 h), (.slice A5 (List.length f) c6), (.slice A9 (List.length c) i)])] w0 (fun e w' => e = .returned (.bool r) ∧ SP [] w0 w' []) := by
 unfold Yy at H
 refine Qv (n := 40) Tryz.func51 K K K ?_
 have c8 := Q0 [] w0
 refine aQ ?_
 refine aR ?_
 refine iS 1 ?_
 refine Xp (t := 33) (x := (.tmp 0)) (v := (.agg #[(.string ⟨List.toArray j⟩), (.int .i64 g), (.int .i64 h), (.slice A5 (List.length f) c6), (.slice A9 (List.length c) i)])) (d := (some 1)) (k := 0) K rfl K c8 ?_
 intro a c9 a2
 refine iR 1 2 [(2, (.bool false))] ?_
 refine iF ?_
 refine aQ ?_
 refine aR ?_
 refine iR 1 1 [(4, (pt a 3))] ?_
 refine iS 2 ?_
 refine sL 30 4 a 3 0 (.slice A5 (List.length f) c6) 5 a2 rfl ?_
 obtain ⟨y, d0, H⟩ := Qc H
 refine iS 3 ?_
 refine cF 96 #[(.tmp 5), (.func 97)] #[30, 154] 6 Tryz.call96 (Yi A5 c6 97 #[] f (fun y0 y1 => Xh y0 y1) c9 (RdT.sp c7 a2) Tryz.call97 (fun y0 y1 z w  hw  hz => Gi  y0 y1 w (Qz (Qz hL (SP.keeps a2)) hw) z hz) y d0) ?_
 rintro e d1 ⟨rfl, c0⟩
 refine ⟨_, rfl, ?_⟩
 have a3 := SP.call a2 c0
 clear c0
 refine iR 1 4 [(3, (.bool y))] ?_
 refine iF ?_
 refine aQ ?_
 refine At.join (fun ρ w => ∃ (m : Bool), Zi ρ [(1, (pt a 0)), (3, (.bool m))] ∧ SP [] w0 w [Qw a 33 #[(.string ⟨List.toArray j⟩), (.int .i64 g), (.int .i64 h), (.slice A5 (List.length f) c6), (.slice A9 (List.length c) i)]] ∧ Z7 j g h f c m = some r) ?_ ?_
 ·refine aR ?_
  refine iR 2 2 [(7, (.bool y)), (8, (.bool y))] ?_
  refine In.guard (t := 8) (b := y) K (fun a8 => ?_) (fun a8 => ?_)
  ·have H := ct H a8
   refine iR 5 7 [(9, undef), (10, undef), (11, undef), (12, (.bool true)), (3, (.bool true))] ?_
   refine iF ?_
   exact ⟨true, ⟨K, K, trivial⟩, SP.sel a3 [0] rfl rfl, H⟩
  ·have H := cf H a8
   refine iR 1 3 [(9, (pt a 4))] ?_
   refine iS 4 ?_
   refine sL 31 9 a 4 0 (.slice A9 (List.length c) i) 10 a3 rfl ?_
   obtain ⟨a4, d2, H⟩ := Qc H
   refine iS 5 ?_
   refine cF 98 #[(.tmp 10), (.func 99)] #[31, 84] 11 Tryz.call98 (X7 A9 i 99 #[] c (fun y0 y1 y2 => X8 y0 y1 y2) d1 (RdT.sp b9 a3) Tryz.call99 (fun y0 y1 y2 z w  hw  hz => Gj  y0 y1 y2 w  z hz) a4 d2) ?_
   rintro e e6 ⟨rfl, c1⟩
   refine ⟨_, rfl, ?_⟩
   have d3 := SP.call a3 c1
   clear c1
   refine iR 2 7 [(12, (.bool a4)), (3, (.bool a4))] ?_
   refine iF ?_
   exact ⟨a4, ⟨K, K, trivial⟩, SP.sel d3 [0] rfl rfl, H⟩
 ·rintro ρ d4 ⟨m, hk, a9, H⟩
  unfold Z7 at H
  first | refine At.known [(1, (pt a 0)), (3, (.bool m))] hk ?_ | rw [← Q1 (l := [(1, (pt a 0)), (3, (.bool m))]) hk]
  refine aQ ?_
  refine Jk K (id := 0) K ?_
  refine aQ ?_
  refine aQ ?_
  refine aR ?_
  refine iR 2 2 [(14, (.bool m)), (13, (.bool m))] ?_
  refine iF ?_
  refine At.join (fun ρ w => ∃ (p : Bool), Zi ρ [(1, (pt a 0)), (13, (.bool p))] ∧ SP [] w0 w [Qw a 33 #[(.string ⟨List.toArray j⟩), (.int .i64 g), (.int .i64 h), (.slice A5 (List.length f) c6), (.slice A9 (List.length c) i)]] ∧ Z6 g h c p = some r) ?_ ?_
  ·refine Xe K (o := (.tmp 13)) K (b := m) K (fun b0 => ?_) (fun b0 => ?_)
   ·have H := ct H b0
    refine At.skip K ?_
    exact ⟨m, ⟨K, K, trivial⟩, SP.sel a9 [0] rfl rfl, H⟩
   ·have H := cf H b0
    refine aQ ?_
    refine aR ?_
    refine iR 1 1 [(15, (pt a 0))] ?_
    refine iS 2 ?_
    refine sL 9 15 a 0 0 (.string ⟨List.toArray j⟩) 16 a9 rfl ?_
    obtain ⟨a0, d5, H⟩ := Qc H
    refine iS 3 ?_
    refine cF 101 #[(.tmp 16)] #[9] 17 Tryz.call101 (Ng  j d4  a0 d5) ?_
    rintro e e7 ⟨rfl, c2⟩
    refine ⟨_, rfl, ?_⟩
    have a1 := SP.call a9 c2
    clear c2
    refine iR 2 5 [(18, (.bool (!a0))), (13, (.bool (!a0)))] ?_
    refine iF ?_
    refine At.join (fun ρ w => ∃ (q : Bool), Zi ρ [(1, (pt a 0)), (13, (.bool q))] ∧ SP [] w0 w [Qw a 33 #[(.string ⟨List.toArray j⟩), (.int .i64 g), (.int .i64 h), (.slice A5 (List.length f) c6), (.slice A9 (List.length c) i)]] ∧ Xy g h c q = some r) ?_ ?_
    ·refine Xe K (o := (.tmp 13)) K (b := (!a0)) K (fun b1 => ?_) (fun b1 => ?_)
     ·have H := ct H b1
      refine At.skip K ?_
      exact ⟨(!a0), ⟨K, K, trivial⟩, SP.sel a1 [0] rfl rfl, H⟩
     ·have H := cf H b1
      refine aQ ?_
      refine aR ?_
      refine iR 1 1 [(19, (pt a 3))] ?_
      refine iS 2 ?_
      refine sL 30 19 a 3 0 (.slice A5 (List.length f) c6) 20 a1 rfl ?_
      refine iR 3 5 [(21, (.int .i64 ((List.length f : Nat) : Int))), (22, (.bool (decide (((List.length f : Nat) : Int) > 4)))), (13, (.bool (decide (((List.length f : Nat) : Int) > 4))))] ?_
      refine iF ?_
      refine At.join (fun ρ w => ∃ (s : Bool), Zi ρ [(1, (pt a 0)), (13, (.bool s))] ∧ SP [] w0 w [Qw a 33 #[(.string ⟨List.toArray j⟩), (.int .i64 g), (.int .i64 h), (.slice A5 (List.length f) c6), (.slice A9 (List.length c) i)]] ∧ Xz g h c s = some r) ?_ ?_
      ·refine Xe K (o := (.tmp 13)) K (b := (decide (((List.length f : Nat) : Int) > 4))) K (fun b2 => ?_) (fun b2 => ?_)
       ·have H := ct H b2
        refine At.skip K ?_
        exact ⟨(decide (((List.length f : Nat) : Int) > 4)), ⟨K, K, trivial⟩, SP.sel a1 [0] rfl rfl, H⟩
       ·have H := cf H b2
        refine aR ?_
        refine iR 1 1 [(23, (pt a 4))] ?_
        refine iS 2 ?_
        refine sL 31 23 a 4 0 (.slice A9 (List.length c) i) 24 a1 rfl ?_
        refine iR 3 5 [(25, (.int .i64 ((List.length c : Nat) : Int))), (26, (.bool (decide (((List.length c : Nat) : Int) > 4)))), (13, (.bool (decide (((List.length c : Nat) : Int) > 4))))] ?_
        refine iF ?_
        exact ⟨(decide (((List.length c : Nat) : Int) > 4)), ⟨K, K, trivial⟩, SP.sel a1 [0] rfl rfl, H⟩
      ·rintro ρ e8 ⟨s, hk, d6, H⟩
       unfold Xz at H
       first | refine At.known [(1, (pt a 0)), (13, (.bool s))] hk ?_ | rw [← Q1 (l := [(1, (pt a 0)), (13, (.bool s))]) hk]
       exact ⟨s, ⟨K, K, trivial⟩, SP.sel d6 [0] rfl rfl, H⟩
    ·rintro ρ e9 ⟨q, hk, d7, H⟩
     unfold Xy at H
     first | refine At.known [(1, (pt a 0)), (13, (.bool q))] hk ?_ | rw [← Q1 (l := [(1, (pt a 0)), (13, (.bool q))]) hk]
     exact ⟨q, ⟨K, K, trivial⟩, SP.sel d7 [0] rfl rfl, H⟩
  ·rintro ρ d8 ⟨p, hk, b3, H⟩
   unfold Z6 at H
   first | refine At.known [(1, (pt a 0)), (13, (.bool p))] hk ?_ | rw [← Q1 (l := [(1, (pt a 0)), (13, (.bool p))]) hk]
   refine Xe K (o := (.tmp 13)) K (b := p) K (fun b4 => ?_) (fun b4 => ?_)
   ·have H := ct H b4
    refine aQ ?_
    refine aR ?_
    refine iR 1 1 [(2, (.bool false))] ?_
    refine iF ?_
    refine At.ret K ?_
    refine ⟨(.bool false), K, ?_⟩
    obtain rfl := Qf H
    exact ⟨rfl, SP.sel b3 [] rfl rfl⟩
   ·have H := cf H b4
    refine At.skip K ?_
    refine aQ ?_
    refine At.join (fun ρ w => ∃ (u : Bool), Zi ρ [(2, (.bool u))] ∧ SP [] w0 w [] ∧ Z5 u = some r) ?_ ?_
    ·refine aR ?_
     refine iR 1 1 [(27, (pt a 1))] ?_
     refine iS 2 ?_
     refine sL 3 27 a 1 0 (.int .i64 g) 28 b3 rfl ?_
     obtain ⟨b5, d9, H⟩ := Qc H
     refine iS 3 ?_
     refine cF 48 #[(.tmp 28), (.const (.int .i64 (0))), (.const (.int .i64 (8)))] #[2, 2, 2] 29 Tryz.call48 (Xb  g 0 8 d8  b5 d9) ?_
     rintro e e0 ⟨rfl, c3⟩
     refine ⟨_, rfl, ?_⟩
     have b6 := SP.call b3 c3
     clear c3
     refine iR 1 4 [(30, (.bool b5))] ?_
     refine In.guard (t := 30) (b := b5) K (fun b7 => ?_) (fun b7 => ?_)
     ·have H := ct H b7
      refine iR 1 5 [(31, (pt a 2))] ?_
      refine iS 6 ?_
      refine sL 3 31 a 2 0 (.int .i64 h) 32 b6 rfl ?_
      obtain ⟨a5, e1, H⟩ := Qc H
      refine iS 7 ?_
      refine cF 48 #[(.tmp 32), (.const (.int .i64 (0))), (.const (.int .i64 (8)))] #[2, 2, 2] 33 Tryz.call48 (Xb  h 0 8 e0  a5 e1) ?_
      rintro e e2 ⟨rfl, c4⟩
      refine ⟨_, rfl, ?_⟩
      have a6 := SP.call b6 c4
      clear c4
      refine iR 2 9 [(34, (.bool a5)), (35, (.bool a5))] ?_
      refine In.guard (t := 35) (b := a5) K (fun b8 => ?_) (fun b8 => ?_)
      ·have H := ct H b8
       refine iR 1 10 [(36, (pt a 4))] ?_
       refine iS 11 ?_
       refine sL 31 36 a 4 0 (.slice A9 (List.length c) i) 37 a6 rfl ?_
       obtain ⟨a7, e3, H⟩ := Qc H
       refine iS 12 ?_
       refine cF 102 #[(.tmp 37), (.func 103)] #[31, 157] 38 Tryz.call102 (Ul A9 i 103 #[] c (fun y0 y1 y2 => Y1 y0 y1 y2) e2 (RdT.sp b9 a6) Tryz.call103 (fun y0 y1 y2 z w  hw  hz => Gk  y0 y1 y2 w  z hz) a7 e3) ?_
       rintro e f0 ⟨rfl, c5⟩
       refine ⟨_, rfl, ?_⟩
       have e4 := SP.call a6 c5
       clear c5
       refine iR 2 14 [(39, (.bool a7)), (2, (.bool a7))] ?_
       refine iF ?_
       exact ⟨a7, ⟨K, trivial⟩, SP.sel e4 [] rfl rfl, H⟩
      ·have H := cf H b8
       refine iR 5 14 [(36, undef), (37, undef), (38, undef), (39, (.bool false)), (2, (.bool false))] ?_
       refine iF ?_
       exact ⟨false, ⟨K, trivial⟩, SP.sel a6 [] rfl rfl, H⟩
     ·have H := cf H b7
      refine iR 10 14 [(31, undef), (32, undef), (33, undef), (34, (.bool false)), (35, (.bool false)), (36, undef), (37, undef), (38, undef), (39, (.bool false)), (2, (.bool false))] ?_
      refine iF ?_
      exact ⟨false, ⟨K, trivial⟩, SP.sel b6 [] rfl rfl, H⟩
    ·rintro ρ f1 ⟨u, hk, e5, H⟩
     unfold Z5 at H
     first | refine At.known [(2, (.bool u))] hk ?_ | rw [← Q1 (l := [(2, (.bool u))]) hk]
     refine At.ret K ?_
     refine ⟨(.bool u), K, ?_⟩
     obtain rfl := Qf H
     exact ⟨rfl, SP.sel e5 [] rfl rfl⟩
def Yj (a : (List UInt8)) (b : Int) (c : Int) (d : (List (Int × Int))) (e : (List ((List UInt8) × (List UInt8) × Int))) : Option (Bool) :=
  ((Yy a b c d e).bind fun f => (some ((!f))))
set_option maxHeartbeats 40000000 in
theorem Gt (A5 : Option Addr) (c6 : Nat) (A9 : Option Addr) (c : Nat) (f : (List UInt8)) (g : Int) (h : Int) (a : (List (Int × Int))) (b : (List ((List UInt8) × (List UInt8) × Int))) (w0 : World) (hL : Uj w0) (m : RdT (Qg (Ve .u32) (Ve .i64)) w0 A5 c6 a) (o : RdT (Qg Qo (Qg Qo (Ve .i64))) w0 A9 c b) (r : (Bool)) (H : Yj f g h a b = some r) :
  Calls Tryz.prog 50 #[(.agg #[(.string ⟨List.toArray f⟩), (.int .i64 g), (.int .i64 h), (.slice A5 (List.length a) c6), (.slice A9 (List.length b) c)])] w0 (fun e w' => e = .returned (.bool r) ∧ SP [] w0 w' []) := by
 unfold Yj at H
 refine Qv (n := 6) Tryz.func50 K K K ?_
 have p := Q0 [] w0
 refine aQ ?_
 refine aR ?_
 refine iS 1 ?_
 refine Xp (t := 33) (x := (.tmp 0)) (v := (.agg #[(.string ⟨List.toArray f⟩), (.int .i64 g), (.int .i64 h), (.slice A5 (List.length a) c6), (.slice A9 (List.length b) c)])) (d := (some 1)) (k := 0) K rfl K p ?_
 intro q s i
 refine iR 1 2 [(2, (.bool false))] ?_
 refine iF ?_
 refine aQ ?_
 refine aR ?_
 refine iS 1 ?_
 refine sL 33 1 q 0 0 (.agg #[(.string ⟨List.toArray f⟩), (.int .i64 g), (.int .i64 h), (.slice A5 (List.length a) c6), (.slice A9 (List.length b) c)]) 3 i rfl ?_
 obtain ⟨j, u, H⟩ := Qc H
 refine iS 2 ?_
 refine cF 51 #[(.tmp 3)] #[33] 4 Tryz.call51 (G7 A5 c6 A9 c f g h a b s (Qz hL (SP.keeps i)) (RdT.sp m i) (RdT.sp o i) j u) ?_
 rintro e y ⟨rfl, l⟩
 refine ⟨_, rfl, ?_⟩
 have w := SP.call i l
 clear l
 refine iR 2 4 [(5, (.bool (!j))), (2, (.bool (!j)))] ?_
 refine iF ?_
 refine At.ret K ?_
 refine ⟨(.bool (!j)), K, ?_⟩
 obtain rfl := Qf H
 exact ⟨rfl, SP.sel w [] rfl rfl⟩
def Vb (d : Int → Option (Bool)) (p1 : (List Qe)) (p6 : ((List UInt8) → Int → Int → (List (Int × Int)) → (List ((List UInt8) × (List UInt8) × Int)) → Option ((List UInt8)))) (c : Int) : Option (Bool) :=
  (cond (decide (c < ((List.length p1 : Nat) : Int))) ((idx p1 (IntKind.wrap .i64 (c - 1))).bind fun a => ((p6 a.1 a.2.1 a.2.2.1 a.2.2.2.1 a.2.2.2.2).bind fun e => ((idx p1 c).bind fun b => ((p6 b.1 b.2.1 b.2.2.1 b.2.2.2.1 b.2.2.2.2).bind fun f => (cond (!(Op.bytesLess e f)) (some (false)) (d (IntKind.wrap .i64 (c + 1)))))))) (some (true)))
def Vc (p1 : (List Qe)) (p6 : ((List UInt8) → Int → Int → (List (Int × Int)) → (List ((List UInt8) × (List UInt8) × Int)) → Option ((List UInt8)))) : Nat → Int → Option (Bool)
  | 0, _ => none
  | f + 1, a => Vb  (Vc p1 p6 f) p1 p6 a
def V3 (p1 : (List Qe)) (p6 : ((List UInt8) → Int → Int → (List (Int × Int)) → (List ((List UInt8) × (List UInt8) × Int)) → Option ((List UInt8)))) : Option (Bool) :=
  (Vc p1 p6 J5 1)
set_option maxHeartbeats 40000000 in
theorem Uc (A2 : Option Addr) (c3 : Nat) (q : FuncId) (s : Array Value) (d5 : (List Qx)) (p6 : ((List UInt8) → Int → Int → (List (Int × Int)) → (List ((List UInt8) × (List UInt8) × Int)) → Option ((List UInt8)))) (w0 : World) (u : (dDS Zh H0).ok w0 (A2, c3, d5)) (hcf9 : ∀ (args : Array Value) (w : World), (callFunc q args).run Tryz.prog w = .ok (.enter q args) w) (b1 : ∀ (y0 : (List UInt8)) (y1 : Int) (y2 : Int) (y3 : (List (Int × Int))) (y4 : (List ((List UInt8) × (List UInt8) × Int))) (z : ((List UInt8))) (w : World) (Ay3 : Option Addr) (cy3 : Nat) (Ay4 : Option Addr) (cy4 : Nat), Below w0.heap.size w0 w → RdT (Qg (Ve .u32) (Ve .i64)) w Ay3 cy3 y3 → RdT (Qg Qo (Qg Qo (Ve .i64))) w Ay4 cy4 y4 → p6 y0 y1 y2 y3 y4 = some z → Calls Tryz.prog q (([(.agg #[(.string ⟨List.toArray y0⟩), (.int .i64 y1), (.int .i64 y2), (.slice Ay3 (List.length y3) cy3), (.slice Ay4 (List.length y4) cy4)])] : List Value) ++ (s).toList).toArray w (fun e w' => e = .returned (.string ⟨List.toArray z⟩) ∧ SP [] w w' [])) (r : (Bool)) (H : V3 (List.map stT d5) p6 = some r) :
  Calls Tryz.prog 52 #[(.slice A2 (List.length (List.map stT d5)) c3), (.func (.func q) #[] s)] w0 (fun e w' => e = .returned (.bool r) ∧ SP [] w0 w' []) := by
 unfold V3 at H
 refine Qv (n := 26) Tryz.func52 K K K ?_
 have b7 := Q0 [] w0
 refine aQ ?_
 refine aR ?_
 refine iR 1 1 [(4, (.bool false))] ?_
 refine iF ?_
 refine aQ ?_
 refine aQ ?_
 refine aR ?_
 refine iR 1 1 [(5, (.int .i64 1))] ?_
 refine iF ?_
 refine Jk K (id := 0) K ?_
 refine Rj K (fun f1 ρ w => ∃ (j : Int), Zi ρ [(0, (.slice A2 (List.length (List.map stT d5)) c3)), (1, (.func (.func q) #[] s)), (5, (.int .i64 j))] ∧ SP [] w0 w [] ∧ Vc (List.map stT d5) p6 f1 j = some r) (by rintro ρ w ⟨j, hk, hs, H⟩; cases H) ?_ J5 ?_
 ·rintro f1 ρ f4 ⟨j, hk, b2, H⟩
  refine At.known [(0, (.slice A2 (List.length (List.map stT d5)) c3)), (1, (.func (.func q) #[] s)), (5, (.int .i64 j))] hk ?_
  replace H := (show Vb (Vc (List.map stT d5) p6 f1) (List.map stT d5) p6 j = some r from H)
  unfold Vb at H
  refine aQ ?_
  refine aQ ?_
  refine aR ?_
  refine iR 4 4 [(6, (.int .i64 j)), (7, (.slice A2 (List.length (List.map stT d5)) c3)), (8, (.int .i64 ((List.length (List.map stT d5) : Nat) : Int))), (9, (.bool (decide (j < ((List.length (List.map stT d5) : Nat) : Int)))))] ?_
  refine iF ?_
  refine Xe K (o := (.tmp 9)) K (b := (decide (j < ((List.length (List.map stT d5) : Nat) : Int)))) K (fun a6 => ?_) (fun a6 => ?_)
  ·have H := ct H a6
   refine At.skip K ?_
   refine aQ ?_
   refine Jk K (id := 1) K ?_
   refine aQ ?_
   obtain ⟨i, b3, b4, a7, H⟩ := Nr H
   obtain ⟨v, b8, H⟩ := Qc H
   obtain ⟨g, a1, a2, a3, H⟩ := Nr H
   obtain ⟨a0, b9, H⟩ := Qc H
   refine aG [GEq (.func (.func q) #[] s), GEq (.slice A2 (List.length (List.map stT d5)) c3), GEq (.int .i64 j), GEq (.int .i64 (IntKind.wrap .i64 (j - 1))), Ja A2 Zh.sz (IntKind.wrap .i64 (j - 1)), GEq (.agg #[(.string ⟨List.toArray (stT i).1⟩), (.int .i64 (stT i).2.1), (.int .i64 (stT i).2.2.1), (.slice i.2.2.2.1.1 (List.length (stT i).2.2.2.1) i.2.2.2.1.2.1), (.slice i.2.2.2.2.1 (List.length (stT i).2.2.2.2) i.2.2.2.2.2.1)]), GEq (.string ⟨List.toArray v⟩), GEq (.func (.func q) #[] s), GEq (.slice A2 (List.length (List.map stT d5)) c3), GEq (.int .i64 j), Ja A2 Zh.sz j, GEq (.agg #[(.string ⟨List.toArray (stT g).1⟩), (.int .i64 (stT g).2.1), (.int .i64 (stT g).2.2.1), (.slice g.2.2.2.1.1 (List.length (stT g).2.2.2.1) g.2.2.2.1.2.1), (.slice g.2.2.2.2.1 (List.length (stT g).2.2.2.2) g.2.2.2.2.2.1)]), GEq (.string ⟨List.toArray a0⟩), GEq (.bool (!(Op.bytesLess v a0)))] [6, 12] (tG [] w0 [] [([], []), ([6], [(.string ⟨List.toArray v⟩)]), ([6, 12], [(.string ⟨List.toArray v⟩), (.string ⟨List.toArray a0⟩)])]) 14 2 ⟨trivial, SP.drew b2⟩ ?_ ?_
   iterate 14 refine And.intro ?_ ?_
   exact trivial
   ·exact oV (hC (hS 1 (.func (.func q) #[] s)) (h0)) (.func (.func q) #[] s)
   ·exact oV (hC (hS 0 (.slice A2 (List.length (List.map stT d5)) c3)) (h0)) (.slice A2 (List.length (List.map stT d5)) c3)
   ·exact oV (hC (hS 5 (.int .i64 j)) (h0)) (.int .i64 j)
   ·exact oV (hC (hA 2 14) (h0)) (.int .i64 (IntKind.wrap .i64 (j - 1)))
   ·refine oL 0 ?_
    ·rintro ρ' w' hs m ⟨f5, c0⟩
     refine kM (kc (kA m 1 13) (kc (kA m 3 15) k0)) fun p => ?_
     refine Ub stT (e := Zh) (l := d5) (A := A2) (c := c3) (T := 22) (E := 33) (x := (.tmp 13)) (ix := (.tmp 15)) (ki := .i64) (iz := (IntKind.wrap .i64 (j - 1))) (d := (some 16)) (k := 4) K rfl K K K K (RdT.sp (Uk u) c0) b3 b4 ?_
     intro c1 c2 c4 f6 hc276
     exact ⟨rfl, _, Qa p, ⟨c1, c2, c4, rfl⟩⟩
   ·refine oL 0 ?_
    ·rintro ρ' w' hs m ⟨f7, c5⟩
     obtain ⟨c6, c7, c8, c9⟩ := m 4 16 K
     refine kM (kc c9 k0) fun p => ?_
     refine Qi.cells (t := 33) (x := (.tmp 16)) (b := c6) (off := (c7 + Int.toNat (IntKind.wrap .i64 (j - 1)) * Zh.sz)) (xs := [(.string ⟨List.toArray (stT i).1⟩), (.int .i64 (stT i).2.1), (.int .i64 (stT i).2.2.1), (.slice i.2.2.2.1.1 (List.length (stT i).2.2.2.1) i.2.2.2.1.2.1), (.slice i.2.2.2.2.1 (List.length (stT i).2.2.2.2) i.2.2.2.2.2.1)]) (d := (some 17)) (k := 5) K rfl K K K (Zl (e := Zh) (Qm (RdT.sp (Uk u) c5) c8 b3 b4) a7 rfl) ?_
     exact eK p
   ·refine oH 0 1 ?_
    ·rintro ρ' w' hs m ⟨f8, a4⟩
     refine kM (kc (kA m 0 12) (kc (kA m 5 17) k0)) fun p => ?_
     refine Xf (f := q) (fo := (.tmp 12)) (xs := #[(.tmp 17)]) (tys := #[33]) (first := #[]) (captured := s) (args := (([(.agg #[(.string ⟨List.toArray (stT i).1⟩), (.int .i64 (stT i).2.1), (.int .i64 (stT i).2.2.1), (.slice i.2.2.2.1.1 (List.length (stT i).2.2.2.1) i.2.2.2.1.2.1), (.slice i.2.2.2.2.1 (List.length (stT i).2.2.2.2) i.2.2.2.2.2.1)])] : List Value) ++ (s).toList)) (d := (some 18)) (k := 6) K rfl K K hcf9 (b1 (stT i).1 (stT i).2.1 (stT i).2.2.1 (stT i).2.2.2.1 (stT i).2.2.2.2 v w' i.2.2.2.1.1 i.2.2.2.1.2.1 i.2.2.2.2.1 i.2.2.2.2.2.1 (SP.keeps a4) (RdT.sp (Uk (dp1 (dp2 (dp2 (dp2 (D3 u a7)))))) a4) (RdT.sp (Uk (dp2 (dp2 (dp2 (dp2 (D3 u a7)))))) a4) b8) ?_
     rintro e f9 ⟨rfl, b5⟩
     refine ⟨_, rfl, ?_⟩
     have d0 := SP.call a4 b5
     clear b5
     refine ⟨_, Qa p, rfl, ?_⟩
     exact (And.intro (And.intro rfl (trivial)) d0)
   ·exact oV (hC (hS 1 (.func (.func q) #[] s)) (h0)) (.func (.func q) #[] s)
   ·exact oV (hC (hS 0 (.slice A2 (List.length (List.map stT d5)) c3)) (h0)) (.slice A2 (List.length (List.map stT d5)) c3)
   ·exact oV (hC (hS 5 (.int .i64 j)) (h0)) (.int .i64 j)
   ·refine Owe.light K [0, 1] K (Qb ?_ (Qb ?_ Q8))
    ·rintro ρ' w' hs m ⟨g0, d1⟩
     refine kM (kc (kA m 8 20) (kc (kA m 9 21) k0)) fun p => ?_
     refine Ub stT (e := Zh) (l := d5) (A := A2) (c := c3) (T := 22) (E := 33) (x := (.tmp 20)) (ix := (.tmp 21)) (ki := .i64) (iz := j) (d := (some 22)) (k := 10) K rfl K K K K (RdT.sp (Uk u) d1) a1 a2 ?_
     intro d2 d3 d4 g1 hc294
     exact ⟨rfl, _, Qa p, ⟨d2, d3, d4, rfl⟩⟩
    ·rintro ρ' w' hs m ⟨⟨g2, -⟩, d6⟩
     refine kM (kc (kA m 8 20) (kc (kA m 9 21) k0)) fun p => ?_
     refine Ub stT (e := Zh) (l := d5) (A := A2) (c := c3) (T := 22) (E := 33) (x := (.tmp 20)) (ix := (.tmp 21)) (ki := .i64) (iz := j) (d := (some 22)) (k := 10) K rfl K K K K (RdT.sp (Uk u) d6) a1 a2 ?_
     intro d7 d8 d9 g3 hc302
     exact ⟨rfl, _, Qa p, ⟨d7, d8, d9, rfl⟩⟩
   ·refine Owe.light K [0, 1] K (Qb ?_ (Qb ?_ Q8))
    ·rintro ρ' w' hs m ⟨g4, e0⟩
     obtain ⟨e1, e2, e3, a8⟩ := m 10 22 K
     refine kM (kc a8 k0) fun p => ?_
     refine Qi.cells (t := 33) (x := (.tmp 22)) (b := e1) (off := (e2 + Int.toNat j * Zh.sz)) (xs := [(.string ⟨List.toArray (stT g).1⟩), (.int .i64 (stT g).2.1), (.int .i64 (stT g).2.2.1), (.slice g.2.2.2.1.1 (List.length (stT g).2.2.2.1) g.2.2.2.1.2.1), (.slice g.2.2.2.2.1 (List.length (stT g).2.2.2.2) g.2.2.2.2.2.1)]) (d := (some 23)) (k := 11) K rfl K K K (Zl (e := Zh) (Qm (RdT.sp (Uk u) e0) e3 a1 a2) a3 rfl) ?_
     exact eK p
    ·rintro ρ' w' hs m ⟨⟨g5, -⟩, e4⟩
     obtain ⟨e5, e6, e7, a8⟩ := m 10 22 K
     refine kM (kc a8 k0) fun p => ?_
     refine Qi.cells (t := 33) (x := (.tmp 22)) (b := e5) (off := (e6 + Int.toNat j * Zh.sz)) (xs := [(.string ⟨List.toArray (stT g).1⟩), (.int .i64 (stT g).2.1), (.int .i64 (stT g).2.2.1), (.slice g.2.2.2.1.1 (List.length (stT g).2.2.2.1) g.2.2.2.1.2.1), (.slice g.2.2.2.2.1 (List.length (stT g).2.2.2.2) g.2.2.2.2.2.1)]) (d := (some 23)) (k := 11) K rfl K K K (Zl (e := Zh) (Qm (RdT.sp (Uk u) e4) e7 a1 a2) a3 rfl) ?_
     exact eK p
   ·refine oH 1 2 ?_
    ·rintro ρ' w' hs m ⟨⟨e8, -⟩, a5⟩
     refine kM (kc (kA m 7 19) (kc (kA m 11 23) k0)) fun p => ?_
     refine Xf (f := q) (fo := (.tmp 19)) (xs := #[(.tmp 23)]) (tys := #[33]) (first := #[]) (captured := s) (args := (([(.agg #[(.string ⟨List.toArray (stT g).1⟩), (.int .i64 (stT g).2.1), (.int .i64 (stT g).2.2.1), (.slice g.2.2.2.1.1 (List.length (stT g).2.2.2.1) g.2.2.2.1.2.1), (.slice g.2.2.2.2.1 (List.length (stT g).2.2.2.2) g.2.2.2.2.2.1)])] : List Value) ++ (s).toList)) (d := (some 24)) (k := 12) K rfl K K hcf9 (b1 (stT g).1 (stT g).2.1 (stT g).2.2.1 (stT g).2.2.2.1 (stT g).2.2.2.2 a0 w' g.2.2.2.1.1 g.2.2.2.1.2.1 g.2.2.2.2.1 g.2.2.2.2.2.1 (SP.keeps a5) (RdT.sp (Uk (dp1 (dp2 (dp2 (dp2 (D3 u a3)))))) a5) (RdT.sp (Uk (dp2 (dp2 (dp2 (dp2 (D3 u a3)))))) a5) b9) ?_
     rintro e g6 ⟨rfl, b6⟩
     refine ⟨_, rfl, ?_⟩
     have e9 := SP.call a5 b6
     clear b6
     refine ⟨_, Qa p, rfl, ?_⟩
     exact (And.intro (And.intro e8 (And.intro rfl (trivial))) e9)
   ·refine oL 2 ?_
    ·rintro ρ' w' hs m ⟨⟨f0, f2, -⟩, g7⟩
     refine kN [(18, (.string ⟨List.toArray v⟩)), (24, (.string ⟨List.toArray a0⟩))] ⟨(Vp (h := 6) K).symm.trans f0, (Vp (h := 12) K).symm.trans f2, trivial⟩ fun p => ?_
     refine Xs (op := .geq) (T := 9) (T' := 9) (x := (.tmp 18)) (y := (.tmp 24)) (a := v) (b := a0) (r := (.bool (!(Op.bytesLess v a0)))) (d := (some 25)) (k := 13) K rfl K K rfl ?_
     exact eK p
   ·rintro ρ' w' hs hf ⟨⟨g8, g9, -⟩, a9⟩
    refine V7 [(0, (.slice A2 (List.length (List.map stT d5)) c3)), (1, (.func (.func q) #[] s)), (5, (.int .i64 j)), (25, (.bool (!(Op.bytesLess v a0))))] ⟨(hs 0 K).trans K, (hs 1 K).trans K, (hs 5 K).trans K, hf 13 25 K, trivial⟩ ?_
    obtain ⟨h1, f3⟩ : ∃ x, w' = x := ⟨_, rfl⟩
    rw [f3] at a9 ⊢
    refine Xe K (o := (.tmp 25)) K (b := (!(Op.bytesLess v a0))) K (fun b0 => ?_) (fun b0 => ?_)
    ·have H := ct H b0
     refine aQ ?_
     refine aR ?_
     refine iR 1 1 [(4, (.bool false))] ?_
     refine iF ?_
     refine At.ret K ?_
     refine ⟨(.bool false), K, ?_⟩
     obtain rfl := Qf H
     exact ⟨rfl, SP.sel a9 [] rfl rfl⟩
    ·have H := cf H b0
     refine At.skip K ?_
     refine aR ?_
     refine iR 3 3 [(10, (.int .i64 j)), (11, (.int .i64 (IntKind.wrap .i64 (j + 1)))), (5, (.int .i64 (IntKind.wrap .i64 (j + 1))))] ?_
     refine iF ?_
     exact ⟨(IntKind.wrap .i64 (j + 1)), ⟨K, K, K, trivial⟩, SP.sel a9 [] rfl rfl, H⟩
  ·have H := cf H a6
   refine At.exit K (id := 0) K ?_
   refine aQ ?_
   refine aR ?_
   refine iR 1 1 [(4, (.bool true))] ?_
   refine iF ?_
   refine At.ret K ?_
   refine ⟨(.bool true), K, ?_⟩
   obtain rfl := Qf H
   exact ⟨rfl, SP.sel b2 [] rfl rfl⟩
 ·exact ⟨1, ⟨K, K, K, trivial⟩, SP.sel b7 [] rfl rfl, H⟩
def Ji (a : (List UInt8)) (b : Int) (c : Int) (d : (List (Int × Int))) (e : (List ((List UInt8) × (List UInt8) × Int))) : Option ((List UInt8)) :=
  (some (a))
set_option maxHeartbeats 40000000 in
theorem Gu (A5 : Option Addr) (c6 : Nat) (A9 : Option Addr) (f : Nat) (a : (List UInt8)) (g : Int) (h : Int) (b : (List (Int × Int))) (c : (List ((List UInt8) × (List UInt8) × Int))) (w0 : World) (m : RdT (Qg (Ve .u32) (Ve .i64)) w0 A5 c6 b) (o : RdT (Qg Qo (Qg Qo (Ve .i64))) w0 A9 f c) (r : ((List UInt8))) (H : Ji a g h b c = some r) :
  Calls Tryz.prog 53 #[(.agg #[(.string ⟨List.toArray a⟩), (.int .i64 g), (.int .i64 h), (.slice A5 (List.length b) c6), (.slice A9 (List.length c) f)])] w0 (fun e w' => e = .returned (.string ⟨List.toArray r⟩) ∧ SP [] w0 w' []) := by
 unfold Ji at H
 refine Qv (n := 5) Tryz.func53 K K K ?_
 have l := Q0 [] w0
 refine aQ ?_
 refine aR ?_
 refine iS 1 ?_
 refine Xp (t := 33) (x := (.tmp 0)) (v := (.agg #[(.string ⟨List.toArray a⟩), (.int .i64 g), (.int .i64 h), (.slice A5 (List.length b) c6), (.slice A9 (List.length c) f)])) (d := (some 1)) (k := 0) K rfl K l ?_
 intro i p j
 refine iR 1 2 [(2, (.string ⟨List.toArray ([] : List UInt8)⟩))] ?_
 refine iF ?_
 refine aQ ?_
 refine aR ?_
 refine iR 1 1 [(3, (pt i 0))] ?_
 refine iS 2 ?_
 refine sL 9 3 i 0 0 (.string ⟨List.toArray a⟩) 4 j rfl ?_
 refine iR 1 3 [(2, (.string ⟨List.toArray a⟩))] ?_
 refine iF ?_
 refine At.ret K ?_
 refine ⟨(.string ⟨List.toArray a⟩), K, ?_⟩
 obtain rfl := Qf H
 exact ⟨rfl, SP.sel j [] rfl rfl⟩
def Xj (b : Int → Option (Bool)) (a : Bool) : Option (Bool) :=
  (some (a))
def Zc (a : Int → Option (Bool)) (d : Int) (e : Int) (f : Int) (g : Int) (b : (List Qe)) (c : Int) : Option (Bool) :=
  (cond (decide (c < ((List.length ([d, e, f, g] : List Int) : Nat) : Int))) ((idx ([d, e, f, g] : List Int) c).bind fun h => ((Zn h 1 1073741824).bind fun i => (cond (!i) (some (false)) (a (IntKind.wrap .i64 (c + 1)))))) (cond (decide (((List.length b : Nat) : Int) ≤ 8)) ((Q2 b (fun y0 y1 y2 y3 y4 => Yj y0 y1 y2 y3 y4)).bind fun j => (cond (!j) ((V3 b (fun y0 y1 y2 y3 y4 => Ji y0 y1 y2 y3 y4)).bind fun k => (Xj a k)) (Xj a false))) (Xj a false)))
def Zx (a : Int) (b : Int) (c : Int) (d : Int) (e : (List Qe)) : Nat → Int → Option (Bool)
  | 0, _ => none
  | f + 1, g => Zc  (Zx a b c d e f) a b c d e g
def Zy (a : Int) (b : Int) (c : Int) (d : Int) (e : (List Qe)) : Option (Bool) :=
  (Zx a b c d e J5 0)
set_option maxHeartbeats 40000000 in
theorem Ye (A6 : Option Addr) (c7 : Nat) (a : Int) (f : Int) (g : Int) (h : Int) (d9 : (List Qx)) (w0 : World) (hL : Uj w0) (a9 : (dDS Zh H0).ok w0 (A6, c7, d9)) (r : (Bool)) (H : Zy a f g h (List.map stT d9) = some r) :
  Calls Tryz.prog 22 #[(.agg #[(.int .i64 a), (.int .i64 f), (.int .i64 g), (.int .i64 h), (.slice A6 (List.length (List.map stT d9)) c7)])] w0 (fun e w' => e = .returned (.bool r) ∧ SP [] w0 w' []) := by
 unfold Zy at H
 refine Qv (n := 38) Tryz.func22 K K K ?_
 have b7 := Q0 [] w0
 refine aQ ?_
 refine aR ?_
 refine iS 1 ?_
 refine Xp (t := 24) (x := (.tmp 0)) (v := (.agg #[(.int .i64 a), (.int .i64 f), (.int .i64 g), (.int .i64 h), (.slice A6 (List.length (List.map stT d9)) c7)])) (d := (some 1)) (k := 0) K rfl K b7 ?_
 intro m d0 u
 refine iR 1 2 [(2, (.bool false))] ?_
 refine iF ?_
 refine aQ ?_
 refine aQ ?_
 refine aR ?_
 refine iR 1 1 [(5, (pt m 0))] ?_
 refine iS 2 ?_
 refine sL 2 5 m 0 0 (.int .i64 a) 6 u rfl ?_
 refine iR 1 3 [(7, (pt m 1))] ?_
 refine iS 4 ?_
 refine sL 2 7 m 1 0 (.int .i64 f) 8 u rfl ?_
 refine iR 1 5 [(9, (pt m 2))] ?_
 refine iS 6 ?_
 refine sL 2 9 m 2 0 (.int .i64 g) 10 u rfl ?_
 refine iR 1 7 [(11, (pt m 3))] ?_
 refine iS 8 ?_
 refine sL 2 11 m 3 0 (.int .i64 h) 12 u rfl ?_
 refine iS 9 ?_
 refine Zk (e := (Ve .i64)) (T := 85) (E := 2) (len := 4) (parts := #[(0, (.tmp 6)), (1, (.tmp 8)), (2, (.tmp 10)), (3, (.tmp 12))]) (cs := #[(.int .i64 a), (.int .i64 f), (.int .i64 g), (.int .i64 h)]) ([a, f, g, h] : List Int) (d := (some 13)) (k := 8) K rfl (fun _ => K) u rfl rfl rfl rfl ?_
 intro a0 d1 b8
 refine iR 2 11 [(14, (.int .i64 ((List.length ([a, f, g, h] : List Int) : Nat) : Int))), (15, (.int .i64 0))] ?_
 refine iF ?_
 refine Jk K (id := 0) K ?_
 refine Rj K (fun f3 ρ w => ∃ (p : Int), Zi ρ [(1, (pt m 0)), (13, (.slice (some ⟨a0, 0, none⟩) (List.length ([a, f, g, h] : List Int)) (List.length ([a, f, g, h] : List Int)))), (14, (.int .i64 ((List.length ([a, f, g, h] : List Int) : Nat) : Int))), (15, (.int .i64 p))] ∧ SP [] w0 w [Qw m 24 #[(.int .i64 a), (.int .i64 f), (.int .i64 g), (.int .i64 h), (.slice A6 (List.length (List.map stT d9)) c7)], Q7 2 (Ve .i64) (some ⟨a0, 0, none⟩) (List.length ([a, f, g, h] : List Int)) ([a, f, g, h] : List Int)] ∧ Zx a f g h (List.map stT d9) f3 p = some r) (by rintro ρ w ⟨p, hk, hs, H⟩; cases H) ?_ J5 ?_
 ·rintro f3 ρ b0 ⟨p, hk, q, H⟩
  refine At.known [(1, (pt m 0)), (13, (.slice (some ⟨a0, 0, none⟩) (List.length ([a, f, g, h] : List Int)) (List.length ([a, f, g, h] : List Int)))), (14, (.int .i64 ((List.length ([a, f, g, h] : List Int) : Nat) : Int))), (15, (.int .i64 p))] hk ?_
  replace H := (show Zc (Zx a f g h (List.map stT d9) f3) a f g h (List.map stT d9) p = some r from H)
  unfold Zc at H
  refine aQ ?_
  refine aR ?_
  refine iR 1 1 [(16, (.bool (decide (p < ((List.length ([a, f, g, h] : List Int) : Nat) : Int)))))] ?_
  refine iF ?_
  refine aQ ?_
  refine Xe K (o := (.tmp 16)) K (b := (decide (p < ((List.length ([a, f, g, h] : List Int) : Nat) : Int)))) K (fun a4 => ?_) (fun a4 => ?_)
  ·have H := ct H a4
   refine At.skip K ?_
   refine aQ ?_
   refine Jk K (id := 1) K ?_
   refine aQ ?_
   refine aR ?_
   obtain ⟨a1, b1, b2, b9, H⟩ := Vk H
   refine iS 1 ?_
   refine Ql (e := (Ve .i64)) (l := ([a, f, g, h] : List Int)) (A := (some ⟨a0, 0, none⟩)) (c := (List.length ([a, f, g, h] : List Int))) (T := 85) (E := 2) (x := (.tmp 13)) (ix := (.tmp 15)) (ki := .i64) (iz := p) (d := (some 17)) (k := 0) K rfl K K K K (Vl (SP.get q (i := 1) rfl)) b1 b2 ?_
   intro c0 c1 c2 d2 hc125
   refine iS 2 ?_
   refine sC 2 17 c0 (c1 + Int.toNat p * (Ve .i64).sz) (.int .i64 a1) 18 (Qy (e := (Ve .i64)) (Qm (Vl (SP.get q (i := 1) rfl)) c2 b1 b2) b9 (j := 0) rfl) ?_
   refine iR 1 3 [(4, (.int .i64 a1))] ?_
   refine iF ?_
   refine aQ ?_
   refine aR ?_
   refine iR 1 1 [(19, (.int .i64 a1))] ?_
   obtain ⟨a5, c3, H⟩ := Qc H
   refine iS 2 ?_
   refine cF 48 #[(.tmp 19), (.const (.int .i64 (1))), (.const (.int .i64 (1073741824)))] #[2, 2, 2] 20 Tryz.call48 (Xb  a1 1 1073741824 b0  a5 c3) ?_
   rintro e d3 ⟨rfl, b3⟩
   refine ⟨_, rfl, ?_⟩
   have b4 := SP.call q b3
   clear b3
   refine iR 1 3 [(21, (.bool (!a5)))] ?_
   refine iF ?_
   refine Xe K (o := (.tmp 21)) K (b := (!a5)) K (fun a6 => ?_) (fun a6 => ?_)
   ·have H := ct H a6
    refine aQ ?_
    refine aR ?_
    refine iR 1 1 [(2, (.bool false))] ?_
    refine iF ?_
    refine At.ret K ?_
    refine ⟨(.bool false), K, ?_⟩
    obtain rfl := Qf H
    exact ⟨rfl, SP.sel b4 [] rfl rfl⟩
   ·have H := cf H a6
    refine At.skip K ?_
    refine aR ?_
    refine iR 2 2 [(22, (.int .i64 (IntKind.wrap .i64 (p + 1)))), (15, (.int .i64 (IntKind.wrap .i64 (p + 1))))] ?_
    refine iF ?_
    exact ⟨(IntKind.wrap .i64 (p + 1)), ⟨K, K, K, K, trivial⟩, SP.sel b4 [0, 1] rfl rfl, H⟩
  ·have H := cf H a4
   refine At.exit K (id := 0) K ?_
   refine aQ ?_
   refine At.join (fun ρ w => ∃ (s : Bool), Zi ρ [(2, (.bool s))] ∧ SP [] w0 w [] ∧ Xj (Zx a f g h (List.map stT d9) f3) s = some r) ?_ ?_
   ·refine aR ?_
    refine iR 1 1 [(23, (pt m 4))] ?_
    refine iS 2 ?_
    refine sL 22 23 m 4 0 (.slice A6 (List.length (List.map stT d9)) c7) 24 q rfl ?_
    refine iR 3 5 [(25, (.int .i64 ((List.length (List.map stT d9) : Nat) : Int))), (26, (.bool (decide (((List.length (List.map stT d9) : Nat) : Int) ≤ 8)))), (27, (.bool (decide (((List.length (List.map stT d9) : Nat) : Int) ≤ 8))))] ?_
    refine In.guard (t := 27) (b := (decide (((List.length (List.map stT d9) : Nat) : Int) ≤ 8))) K (fun a7 => ?_) (fun a7 => ?_)
    ·have H := ct H a7
     refine iR 1 6 [(28, (pt m 4))] ?_
     refine iS 7 ?_
     refine sL 22 28 m 4 0 (.slice A6 (List.length (List.map stT d9)) c7) 29 q rfl ?_
     obtain ⟨y, c4, H⟩ := Qc H
     refine iS 8 ?_
     refine cF 49 #[(.tmp 29), (.func 50)] #[22, 82] 30 Tryz.call49 (Xx A6 c7 50 #[] d9 (fun y0 y1 y2 y3 y4 => Yj y0 y1 y2 y3 y4) b0 (Dp.sp a9 q) Tryz.call50 (fun y0 y1 y2 y3 y4 z w Ay3 cy3 Ay4 cy4 hw hy3 hy4 hz => Gt Ay3 cy3 Ay4 cy4 y0 y1 y2 y3 y4 w (Qz (Qz hL (SP.keeps q)) hw) hy3 hy4 z hz) y c4) ?_
     rintro e c5 ⟨rfl, b5⟩
     refine ⟨_, rfl, ?_⟩
     have a2 := SP.call q b5
     clear b5
     refine iR 3 11 [(31, (.bool (!y))), (32, (.bool (!y))), (33, (.bool (!y)))] ?_
     refine In.guard (t := 33) (b := (!y)) K (fun a8 => ?_) (fun a8 => ?_)
     ·have H := ct H a8
      refine iR 1 12 [(34, (pt m 4))] ?_
      refine iS 13 ?_
      refine sL 22 34 m 4 0 (.slice A6 (List.length (List.map stT d9)) c7) 35 a2 rfl ?_
      obtain ⟨a3, c6, H⟩ := Qc H
      refine iS 14 ?_
      refine cF 52 #[(.tmp 35), (.func 53)] #[22, 89] 36 Tryz.call52 (Uc A6 c7 53 #[] d9 (fun y0 y1 y2 y3 y4 => Ji y0 y1 y2 y3 y4) c5 (Dp.sp a9 a2) Tryz.call53 (fun y0 y1 y2 y3 y4 z w Ay3 cy3 Ay4 cy4 hw hy3 hy4 hz => Gu Ay3 cy3 Ay4 cy4 y0 y1 y2 y3 y4 w hy3 hy4 z hz) a3 c6) ?_
      rintro e d4 ⟨rfl, b6⟩
      refine ⟨_, rfl, ?_⟩
      have c8 := SP.call a2 b6
      clear b6
      refine iR 2 16 [(37, (.bool a3)), (2, (.bool a3))] ?_
      refine iF ?_
      exact ⟨a3, ⟨K, trivial⟩, SP.sel c8 [] rfl rfl, H⟩
     ·have H := cf H a8
      refine iR 5 16 [(34, undef), (35, undef), (36, undef), (37, (.bool false)), (2, (.bool false))] ?_
      refine iF ?_
      exact ⟨false, ⟨K, trivial⟩, SP.sel a2 [] rfl rfl, H⟩
    ·have H := cf H a7
     refine iR 11 16 [(28, undef), (29, undef), (30, undef), (31, undef), (32, (.bool false)), (33, (.bool false)), (34, undef), (35, undef), (36, undef), (37, (.bool false)), (2, (.bool false))] ?_
     refine iF ?_
     exact ⟨false, ⟨K, trivial⟩, SP.sel q [] rfl rfl, H⟩
   ·rintro ρ d5 ⟨s, hk, c9, H⟩
    unfold Xj at H
    first | refine At.known [(2, (.bool s))] hk ?_ | rw [← Q1 (l := [(2, (.bool s))]) hk]
    refine At.ret K ?_
    refine ⟨(.bool s), K, ?_⟩
    obtain rfl := Qf H
    exact ⟨rfl, SP.sel c9 [] rfl rfl⟩
 ·exact ⟨0, ⟨K, K, K, K, trivial⟩, SP.sel b8 [0, 1] rfl rfl, H⟩
end Go.Proofs.YtoflbpmbkmephaaGreatDoor
namespace Go.Proofs.YtoflbpmbkmephaaGreatDoor
abbrev Str := List UInt8
abbrev H1 := Int × Int
abbrev Fa := Str × Str × Int
theorem lNameM (s : Str) (h : s.length ≤ 140737488355328) : Xv s = some (Ed s) := by
  by_cases h9 : s.length ≤ 9000
  · exact lName s h9
  · unfold Xv V9 Ed
    have hne : (s == ([] : List UInt8)) = false := by rw [beq_eq_false_iff_ne]; intro e; subst e; simp at h9
    rw [hne, show decide (((List.length s : Nat) : Int) ≤ 20) = false from decide_eq_false (by omega), show decide (s.length ≤ 20) = false from decide_eq_false (by omega)]
    simp
theorem D4 (l : List H1) (P : H1 → Bool) (p : Int → Int → Option Bool) (hp : ∀ x ∈ l, p x.1 x.2 = some (P x)) (hl : l.length ≤ 140737488355328) :
    ∀ (d i f : Nat), d = l.length - i → i ≤ l.length → d < f → ∃ r, Qn l p f (i : Int) = some r ∧ decide (r ≥ 0) = (l.drop i).any P := by
  intro d
  induction d with
  | zero =>
    intro i f hd hi hf
    obtain ⟨f, rfl⟩ : ∃ g, f = g + 1 := ⟨f - 1, by omega⟩
    refine ⟨-1, ?_, ?_⟩
    · show Qu (Qn l p f) l p (i : Int) = _
      unfold Qu
      rw [show decide ((i : Int) < ((l.length : Nat) : Int)) = false from decide_eq_false (by omega), cond_false]
    · rw [List.drop_of_length_le (by omega)]
      rfl
  | succ d ih =>
    intro i f hd hi hf
    obtain ⟨f, rfl⟩ : ∃ g, f = g + 1 := ⟨f - 1, by omega⟩
    have hlt : i < l.length := by omega
    obtain ⟨r, h1, h2⟩ := ih (i + 1) f (by omega) (by omega) (by omega)
    rw [List.drop_eq_getElem_cons hlt, List.any_cons]
    have hstep : Qn l p (f + 1) (i : Int) = cond (P l[i]) (some (i : Int)) (Qn l p f ((i + 1 : Nat) : Int)) := by
      show Qu (Qn l p f) l p (i : Int) = _
      unfold Qu
      rw [show decide ((i : Int) < ((l.length : Nat) : Int)) = true from decide_eq_true (by omega), cond_true, Uz hlt, Option.bind_some, hp _ (List.getElem_mem hlt), Option.bind_some, show ((i : Int) + 1) = ((i + 1 : Nat) : Int) by omega, G6 (by omega)]
    rw [hstep]
    cases hP : P l[i] with
    | true => exact ⟨(i : Int), rfl, by rw [decide_eq_true (by omega), Bool.true_or]⟩
    | false => exact ⟨r, h1, by rw [h2, Bool.false_or]⟩
theorem F2 (l : List H1) (P : H1 → Bool) (p : Int → Int → Option Bool) (hp : ∀ x ∈ l, p x.1 x.2 = some (P x)) (hl : l.length ≤ 140737488355328) : Vf l p = some (l.any P) := by
  obtain ⟨r, h1, h2⟩ := D4 l P p hp hl l.length 0 J5 (by omega) (by omega) (by unfold J5; omega)
  unfold Vf Vu
  rw [show ((0 : Nat) : Int) = 0 from rfl] at h1
  rw [h1, Option.bind_some, h2, List.drop_zero]
theorem R2 (l : List Fa) (P : Fa → Bool) (p : Str → Str → Int → Option Bool) (hp : ∀ x ∈ l, p x.1 x.2.1 x.2.2 = some (P x)) (hl : l.length ≤ 140737488355328) :
    ∀ (d i f : Nat), d = l.length - i → i ≤ l.length → d < f → ∃ r, Qj l p f (i : Int) = some r ∧ decide (r ≥ 0) = (l.drop i).any P := by
  intro d
  induction d with
  | zero =>
    intro i f hd hi hf
    obtain ⟨f, rfl⟩ : ∃ g, f = g + 1 := ⟨f - 1, by omega⟩
    refine ⟨-1, ?_, ?_⟩
    · show Qs (Qj l p f) l p (i : Int) = _
      unfold Qs
      rw [show decide ((i : Int) < ((l.length : Nat) : Int)) = false from decide_eq_false (by omega), cond_false]
    · rw [List.drop_of_length_le (by omega)]
      rfl
  | succ d ih =>
    intro i f hd hi hf
    obtain ⟨f, rfl⟩ : ∃ g, f = g + 1 := ⟨f - 1, by omega⟩
    have hlt : i < l.length := by omega
    obtain ⟨r, h1, h2⟩ := ih (i + 1) f (by omega) (by omega) (by omega)
    rw [List.drop_eq_getElem_cons hlt, List.any_cons]
    have hstep : Qj l p (f + 1) (i : Int) = cond (P l[i]) (some (i : Int)) (Qj l p f ((i + 1 : Nat) : Int)) := by
      show Qs (Qj l p f) l p (i : Int) = _
      unfold Qs
      rw [show decide ((i : Int) < ((l.length : Nat) : Int)) = true from decide_eq_true (by omega), cond_true, Uz hlt, Option.bind_some, hp _ (List.getElem_mem hlt), Option.bind_some, show ((i : Int) + 1) = ((i + 1 : Nat) : Int) by omega, G6 (by omega)]
    rw [hstep]
    cases hP : P l[i] with
    | true => exact ⟨(i : Int), rfl, by rw [decide_eq_true (by omega), Bool.true_or]⟩
    | false => exact ⟨r, h1, by rw [h2, Bool.false_or]⟩
theorem Ef (l : List Fa) (P : Fa → Bool) (p : Str → Str → Int → Option Bool) (hp : ∀ x ∈ l, p x.1 x.2.1 x.2.2 = some (P x)) (hl : l.length ≤ 140737488355328) : Q4 l p = some (l.any P) := by
  obtain ⟨r, h1, h2⟩ := R2 l P p hp hl l.length 0 J5 (by omega) (by omega) (by unfold J5; omega)
  unfold Q4 Q9
  rw [show ((0 : Nat) : Int) = 0 from rfl] at h1
  rw [h1, Option.bind_some, h2, List.drop_zero]
theorem Rp (l : List Qe) (P : Qe → Bool) (p : Str → Int → Int → List H1 → List Fa → Option Bool) (hp : ∀ x ∈ l, p x.1 x.2.1 x.2.2.1 x.2.2.2.1 x.2.2.2.2 = some (P x)) (hl : l.length ≤ 140737488355328) :
    ∀ (d i f : Nat), d = l.length - i → i ≤ l.length → d < f → ∃ r, Qh l p f (i : Int) = some r ∧ decide (r ≥ 0) = (l.drop i).any P := by
  intro d
  induction d with
  | zero =>
    intro i f hd hi hf
    obtain ⟨f, rfl⟩ : ∃ g, f = g + 1 := ⟨f - 1, by omega⟩
    refine ⟨-1, ?_, ?_⟩
    · show Qq (Qh l p f) l p (i : Int) = _
      unfold Qq
      rw [show decide ((i : Int) < ((l.length : Nat) : Int)) = false from decide_eq_false (by omega), cond_false]
    · rw [List.drop_of_length_le (by omega)]
      rfl
  | succ d ih =>
    intro i f hd hi hf
    obtain ⟨f, rfl⟩ : ∃ g, f = g + 1 := ⟨f - 1, by omega⟩
    have hlt : i < l.length := by omega
    obtain ⟨r, h1, h2⟩ := ih (i + 1) f (by omega) (by omega) (by omega)
    rw [List.drop_eq_getElem_cons hlt, List.any_cons]
    have hstep : Qh l p (f + 1) (i : Int) = cond (P l[i]) (some (i : Int)) (Qh l p f ((i + 1 : Nat) : Int)) := by
      show Qq (Qh l p f) l p (i : Int) = _
      unfold Qq
      rw [show decide ((i : Int) < ((l.length : Nat) : Int)) = true from decide_eq_true (by omega), cond_true, Uz hlt, Option.bind_some, hp _ (List.getElem_mem hlt), Option.bind_some, show ((i : Int) + 1) = ((i + 1 : Nat) : Int) by omega, G6 (by omega)]
    rw [hstep]
    cases hP : P l[i] with
    | true => exact ⟨(i : Int), rfl, by rw [decide_eq_true (by omega), Bool.true_or]⟩
    | false => exact ⟨r, h1, by rw [h2, Bool.false_or]⟩
theorem B8 (l : List Qe) (P : Qe → Bool) (p : Str → Int → Int → List H1 → List Fa → Option Bool) (hp : ∀ x ∈ l, p x.1 x.2.1 x.2.2.1 x.2.2.2.1 x.2.2.2.2 = some (P x)) (hl : l.length ≤ 140737488355328) : Q2 l p = some (l.any P) := by
  obtain ⟨r, h1, h2⟩ := Rp l P p hp hl l.length 0 J5 (by omega) (by omega) (by unfold J5; omega)
  unfold Q2 Q6
  rw [show ((0 : Nat) : Int) = 0 from rfl] at h1
  rw [h1, Option.bind_some, h2, List.drop_zero]
def F3 : List Str → Bool
  | [] => true
  | [_] => true
  | a :: b :: r => Op.bytesLess a b && F3 (b :: r)
theorem Fb (l : List Str) (i : Nat) (h : i + 1 < l.length) : F3 (l.drop i) = (Op.bytesLess (l[i]'(by omega)) (l[i + 1]'h) && F3 (l.drop (i + 1))) := by
  rw [List.drop_eq_getElem_cons (by omega : i < l.length), List.drop_eq_getElem_cons h]
  rfl
theorem Cq (l : List Str) (i : Nat) (h : l.length ≤ i + 1) : F3 (l.drop i) = true := by
  by_cases h2 : i < l.length
  · rw [List.drop_eq_getElem_cons h2, List.drop_of_length_le (by omega)]
    rfl
  · rw [List.drop_of_length_le (by omega)]
    rfl
theorem D5 (l : List Fa) (p : Str → Str → Int → Option Str) (hp : ∀ x : Fa, p x.1 x.2.1 x.2.2 = some x.1) (hl : l.length ≤ 140737488355328) :
    ∀ (d i f : Nat), d = l.length - i → 1 ≤ i → d < f → Vh l p f (i : Int) = some (F3 ((l.map (·.1)).drop (i - 1))) := by
  intro d
  induction d with
  | zero =>
    intro i f hd hi hf
    obtain ⟨f, rfl⟩ : ∃ g, f = g + 1 := ⟨f - 1, by omega⟩
    show Vg (Vh l p f) l p (i : Int) = _
    unfold Vg
    rw [show decide ((i : Int) < ((l.length : Nat) : Int)) = false from decide_eq_false (by omega), cond_false, Cq _ _ (by simp; omega)]
  | succ d ih =>
    intro i f hd hi hf
    obtain ⟨f, rfl⟩ : ∃ g, f = g + 1 := ⟨f - 1, by omega⟩
    have hlt : i < l.length := by omega
    have hlt' : i - 1 < l.length := by omega
    show Vg (Vh l p f) l p (i : Int) = _
    unfold Vg
    rw [show decide ((i : Int) < ((l.length : Nat) : Int)) = true from decide_eq_true (by omega), cond_true, show ((i : Int) - 1) = ((i - 1 : Nat) : Int) by omega, G6 (by omega), Uz hlt', Option.bind_some, hp, Option.bind_some, Uz hlt, Option.bind_some, hp, Option.bind_some,
      show ((i : Int) + 1) = ((i + 1 : Nat) : Int) by omega, G6 (by omega), ih (i + 1) f (by omega) (by omega) (by omega), Fb _ (i - 1) (by simp; omega)]
    simp only [show i - 1 + 1 = i by omega, show i + 1 - 1 = i by omega, List.getElem_map]
    cases Op.bytesLess l[i - 1].1 l[i].1 with
    | true => rfl
    | false => rfl
theorem F4 (l : List Fa) (p : Str → Str → Int → Option Str) (hp : ∀ x : Fa, p x.1 x.2.1 x.2.2 = some x.1) (hl : l.length ≤ 140737488355328) : V8 l p = some (F3 (l.map (·.1))) := by
  have := D5 l p hp hl (l.length - 1) 1 J5 rfl (Nat.le_refl _) (by unfold J5; omega)
  unfold V8
  rw [show ((1 : Nat) : Int) = 1 from rfl] at this
  rw [this]
  rfl
theorem Dg (l : List Qe) (p : Str → Int → Int → List H1 → List Fa → Option Str) (hp : ∀ x : Qe, p x.1 x.2.1 x.2.2.1 x.2.2.2.1 x.2.2.2.2 = some x.1) (hl : l.length ≤ 140737488355328) :
    ∀ (d i f : Nat), d = l.length - i → 1 ≤ i → d < f → Vc l p f (i : Int) = some (F3 ((l.map (·.1)).drop (i - 1))) := by
  intro d
  induction d with
  | zero =>
    intro i f hd hi hf
    obtain ⟨f, rfl⟩ : ∃ g, f = g + 1 := ⟨f - 1, by omega⟩
    show Vb (Vc l p f) l p (i : Int) = _
    unfold Vb
    rw [show decide ((i : Int) < ((l.length : Nat) : Int)) = false from decide_eq_false (by omega), cond_false, Cq _ _ (by simp; omega)]
  | succ d ih =>
    intro i f hd hi hf
    obtain ⟨f, rfl⟩ : ∃ g, f = g + 1 := ⟨f - 1, by omega⟩
    have hlt : i < l.length := by omega
    have hlt' : i - 1 < l.length := by omega
    show Vb (Vc l p f) l p (i : Int) = _
    unfold Vb
    rw [show decide ((i : Int) < ((l.length : Nat) : Int)) = true from decide_eq_true (by omega), cond_true, show ((i : Int) - 1) = ((i - 1 : Nat) : Int) by omega, G6 (by omega), Uz hlt', Option.bind_some, hp, Option.bind_some, Uz hlt, Option.bind_some, hp, Option.bind_some,
      show ((i : Int) + 1) = ((i + 1 : Nat) : Int) by omega, G6 (by omega), ih (i + 1) f (by omega) (by omega) (by omega), Fb _ (i - 1) (by simp; omega)]
    simp only [show i - 1 + 1 = i by omega, show i + 1 - 1 = i by omega, List.getElem_map]
    cases Op.bytesLess l[i - 1].1 l[i].1 with
    | true => rfl
    | false => rfl
theorem Fc (l : List Qe) (p : Str → Int → Int → List H1 → List Fa → Option Str) (hp : ∀ x : Qe, p x.1 x.2.1 x.2.2.1 x.2.2.2.1 x.2.2.2.2 = some x.1) (hl : l.length ≤ 140737488355328) : V3 l p = some (F3 (l.map (·.1))) := by
  have := Dg l p hp hl (l.length - 1) 1 J5 rfl (Nat.le_refl _) (by unfold J5; omega)
  unfold V3
  rw [show ((1 : Nat) : Int) = 1 from rfl] at this
  rw [this]
  rfl
def netOk (n : H1) : Bool := Gf n.1.toNat n.2
def tokOk (x : Fa) : Bool := Ed x.1 && ((decide (1 ≤ x.2.1.length) && decide (x.2.1.length ≤ 32)) && (decide (0 ≤ x.2.2) && decide (x.2.2 ≤ 1099511627776)))
def qOk (n : Int) : Bool := decide (0 ≤ n) && decide (n ≤ 8)
def F5 (t : Qe) : Bool := (t.2.2.2.1.all netOk && t.2.2.2.2.all tokOk) && ((Ed t.1 && (decide (t.2.2.2.1.length ≤ 4) && decide (t.2.2.2.2.length ≤ 4))) && ((qOk t.2.1 && qOk t.2.2.1) && F3 (t.2.2.2.2.map (·.1))))
def Gv (n : Int) : Bool := decide (1 ≤ n) && decide (n ≤ 1073741824)
def cfgOk (w g i e : Int) (l : List Qe) : Bool := (Gv w && (Gv g && (Gv i && Gv e))) && (decide (l.length ≤ 8) && (l.all F5 && F3 (l.map (·.1))))
def TenQ (t : Qe) : Prop := t.1.length ≤ 140737488355328 ∧ t.2.2.2.1.length ≤ 140737488355328 ∧ t.2.2.2.2.length ≤ 140737488355328 ∧ (∀ n ∈ t.2.2.2.1, 0 ≤ n.1 ∧ n.1 < 4294967296) ∧ ∀ x ∈ t.2.2.2.2, x.1.length ≤ 140737488355328 ∧ x.2.1.length ≤ 140737488355328
theorem Bn (n a b : Int) : Zn n a b = some (decide (a ≤ n) && decide (n ≤ b)) := by
  unfold Zn Xw
  by_cases h : n ≥ a
  · rw [show decide (n ≥ a) = true from decide_eq_true h]
    rfl
  · rw [show decide (n ≥ a) = false from decide_eq_false h]
    rfl
theorem slash_nil (a : Nat) (b : Int) : (Bm a b == ([] : List UInt8)) = !(Gf a b) := by
  unfold Bm
  cases Gf a b with
  | true =>
    simp only [Bool.not_true, beq_eq_false_iff_ne]
    intro h
    have := congrArg List.length h
    simp at this
  | false => rfl
theorem lNetBad {n : H1} (h : 0 ≤ n.1 ∧ n.1 < 4294967296) : Xh n.1 n.2 = some (!(netOk n)) := by
  unfold Xh netOk
  obtain ⟨a, ha⟩ : ∃ a : Nat, n.1 = (a : Int) := ⟨n.1.toNat, by omega⟩
  rw [ha, lSlash a (by omega), Option.bind_some, slash_nil, Int.toNat_natCast]
theorem lToken {x : Fa} (h : x.1.length ≤ 140737488355328) : Jd x.1 x.2.1 x.2.2 = some (tokOk x) := by
  unfold Jd Xi tokOk
  rw [lNameM _ h, Option.bind_some, Bn, Bn]
  cases Ed x.1 with
  | false => rfl
  | true =>
    rw [cond_true, Option.bind_some, show decide (1 ≤ ((List.length x.2.1 : Nat) : Int)) = decide (1 ≤ x.2.1.length) from decide_eq_decide.2 (by omega), show decide (((List.length x.2.1 : Nat) : Int) ≤ 32) = decide (x.2.1.length ≤ 32) from decide_eq_decide.2 (by omega)]
    cases (decide (1 ≤ x.2.1.length) && decide (x.2.1.length ≤ 32)) <;> rfl
theorem F6 {α : Type} (p : α → Bool) (l : List α) : l.any (fun x => !(p x)) = !(l.all p) := by
  induction l with
  | nil => rfl
  | cons x l ih => rw [List.any_cons, List.all_cons, ih, Bool.not_and]
theorem lTenant {t : Qe} (h : TenQ t) : Yy t.1 t.2.1 t.2.2.1 t.2.2.2.1 t.2.2.2.2 = some (F5 t) := by
  obtain ⟨h1, h2, h3, h4, h5⟩ := h
  unfold Yy
  rw [F2 t.2.2.2.1 (fun n => !(netOk n)) _ (fun n hn => lNetBad (h4 n hn)) h2, Option.bind_some, Ef t.2.2.2.2 (fun x => !(tokOk x)) _ (fun x hx => by unfold X8; rw [lToken (h5 x hx).1]; rfl) h3, F6, F6]
  have k5 : ∀ v, Z6 t.2.1 t.2.2.1 t.2.2.2.2 v = some (!v && ((qOk t.2.1 && qOk t.2.2.1) && F3 (t.2.2.2.2.map (·.1)))) := by
    intro v
    unfold Z6 Z5
    cases v with
    | true => rfl
    | false =>
      rw [cond_false, Bn, Bn, Option.bind_some, Option.bind_some, F4 _ _ (fun x => rfl) h3]
      unfold qOk
      cases (decide (0 ≤ t.2.1) && decide (t.2.1 ≤ 8)) <;> cases (decide (0 ≤ t.2.2.1) && decide (t.2.2.1 ≤ 8)) <;> cases F3 (t.2.2.2.2.map (·.1)) <;> rfl
  have k1 : ∀ v, Z7 t.1 t.2.1 t.2.2.1 t.2.2.2.1 t.2.2.2.2 v = some (!v && ((Ed t.1 && (decide (t.2.2.2.1.length ≤ 4) && decide (t.2.2.2.2.length ≤ 4))) && ((qOk t.2.1 && qOk t.2.2.1) && F3 (t.2.2.2.2.map (·.1))))) := by
    intro v
    unfold Z7 Xz Xy
    cases v with
    | true => rw [cond_true, k5]; rfl
    | false =>
      rw [cond_false, lNameM _ h1, Option.bind_some]
      simp only [k5]
      rw [show decide (((List.length t.2.2.2.1 : Nat) : Int) > 4) = !(decide (t.2.2.2.1.length ≤ 4)) by rw [← decide_not]; exact decide_eq_decide.2 (by omega), show decide (((List.length t.2.2.2.2 : Nat) : Int) > 4) = !(decide (t.2.2.2.2.length ≤ 4)) by rw [← decide_not]; exact decide_eq_decide.2 (by omega)]
      cases Ed t.1 <;> cases decide (t.2.2.2.1.length ≤ 4) <;> cases decide (t.2.2.2.2.length ≤ 4) <;> rfl
  unfold F5
  cases t.2.2.2.1.all netOk with
  | false =>
    rw [show (!false) = true from rfl, cond_true, k1]
    rfl
  | true =>
    rw [show (!true) = false from rfl, cond_false, Option.bind_some, k1]
    cases t.2.2.2.2.all tokOk <;> rfl
theorem H2 (w g i e : Int) (l : List Qe) (rec3 : Int → Option Bool) (hl : l.length ≤ 140737488355328) (hq : ∀ t ∈ l, TenQ t) : Zc rec3 w g i e l ((0 + 1 + 1 + 1 + 1 : Nat) : Int) = some (decide (l.length ≤ 8) && (l.all F5 && F3 (l.map (·.1)))) := by
  unfold Zc Xj
  rw [show decide (((0 + 1 + 1 + 1 + 1 : Nat) : Int) < ((List.length ([w, g, i, e] : List Int) : Nat) : Int)) = false from rfl, cond_false, B8 l (fun t => !(F5 t)) _ (fun t ht => by unfold Yj; rw [lTenant (hq t ht)]; rfl) hl, F6, Fc _ _ (fun x => rfl) hl,
    show decide (((List.length l : Nat) : Int) ≤ 8) = decide (l.length ≤ 8) from decide_eq_decide.2 (by omega)]
  cases decide (l.length ≤ 8) <;> cases l.all F5 <;> cases F3 (l.map (·.1)) <;> rfl
theorem N4 (w g i e : Int) (l : List Qe) (rec3 : Int → Option Bool) (k : Nat) (x : Int) (hk : k < 4) (hx : [w, g, i, e][k]? = some x) : Zc rec3 w g i e l (k : Int) = cond (Gv x) (rec3 ((k + 1 : Nat) : Int)) (some false) := by
  unfold Zc
  rw [show decide ((k : Int) < ((List.length ([w, g, i, e] : List Int) : Nat) : Int)) = true from decide_eq_true (by simp only [List.length_cons, List.length_nil]; omega), cond_true, show idx ([w, g, i, e] : List Int) (k : Int) = some x by rw [Rn]; exact hx, Option.bind_some, Bn, Option.bind_some, show ((k : Int) + 1) = ((k + 1 : Nat) : Int) by omega, G6 (by omega)]
  unfold Gv
  cases (decide (1 ≤ x) && decide (x ≤ 1073741824)) <;> rfl
theorem lCfg (w g i e : Int) (l : List Qe) (hl : l.length ≤ 140737488355328) (hq : ∀ t ∈ l, TenQ t) : Zy w g i e l = some (cfgOk w g i e l) := by
  have unf : ∀ f (v : Int), Zx w g i e l (f + 1) v = Zc (Zx w g i e l f) w g i e l v := fun _ _ => rfl
  unfold Zy cfgOk
  rw [show J5 = 18446744073709551611 + 1 + 1 + 1 + 1 + 1 from rfl]
  rw [unf, show (0 : Int) = ((0 : Nat) : Int) from rfl, N4 w g i e l _ 0 w (by omega) rfl, unf, N4 w g i e l _ (0 + 1) g (by omega) rfl, unf, N4 w g i e l _ (0 + 1 + 1) i (by omega) rfl, unf, N4 w g i e l _ (0 + 1 + 1 + 1) e (by omega) rfl, unf, H2 w g i e l _ hl hq]
  cases Gv w <;> cases Gv g <;> cases Gv i <;> cases Gv e <;> rfl
end Go.Proofs.YtoflbpmbkmephaaGreatDoor
namespace Go.Proofs.YtoflbpmbkmephaaGreatDoor
open Go.RowKit
section
variable {w w0 : World} {es : List Ent} {S : List Nat}
theorem SP.turnE (h : SP S w0 w es) {i : Nat} {e e' : Ent} (hi : es[i]? = some e) (hok : e'.ok w) (hfp : ∀ k ∈ e'.fp, k ∈ e.fp) : SP S w0 w (es.set i e') :=
  h.set hi (T := []) (Mod.refl [] w) (by simp) hok fun k hk => ⟨.inl (hfp k hk), ((h.own.get hi).2 k (hfp k hk)).2⟩
end
section
variable {α : Type} {e : Enc α} {w w0 : World} {A : Option Addr} {c : Nat} {l m : List α} {E : TypeId} {es : List Ent} {S : List Nat} {i : Nat}
theorem cutA_zero {sz c : Nat} {A : Option Addr} (h : ∀ a, A = some a → ∃ b o, a = ⟨b, o, none⟩) : Ik sz c 0 A = A := by
  unfold Ik
  split
  · rfl
  · cases A with
    | none => rfl
    | some a =>
      obtain ⟨b, o, rfl⟩ := h _ rfl
      simp [Bf]
theorem SP.cutrow {b : Int} (h : SP S w0 w es) (hi : es[i]? = some (Q7 E e A c l)) (h1 : 0 ≤ b) (h2 : b ≤ (l.length : Int)) (hm : List.drop (Int.toNat 0) (List.take b.toNat l) = m) :
    SP S w0 w (es.set i (Q7 E e (Ik e.sz c (Int.toNat 0) A) (c - Int.toNat 0) m)) := by
  have hm' : l.take b.toNat = m := by rw [← hm]; simp
  subst hm'
  have hok : (Q7 E e A c l).ok w := h.get hi
  have hlen : (l.take b.toNat).length = b.toNat := by rw [List.length_take]; omega
  have hz : Ik e.sz c (Int.toNat 0) A = A := by
    refine cutA_zero fun a ha => ?_
    subst ha
    rcases hok.2 with ⟨h3, _⟩ | ⟨g, cap, cur, h3, _⟩
    · cases h3
    · injection h3 with h3 _ _
      injection h3 with h3
      exact ⟨g, 0, h3⟩
  have hc : c - Int.toNat 0 = c := by simp
  rw [hz, hc]
  refine h.turnE hi ?_ fun k hk => by cases A <;> exact hk
  obtain ⟨h3, h4⟩ := hok
  refine ⟨by rw [Zj], ?_⟩
  rcases h4 with ⟨h4, h5⟩ | ⟨g, cap, cur, h4, h5, h6, h7, h8, h9, h10⟩
  · left
    injection h4 with h4 h4' h4''
    have : l = [] := List.length_eq_zero_iff.1 h5
    subst this
    subst h4 h4''
    exact ⟨by simp, by simp⟩
  · right
    injection h4 with h4 h4' h4''
    subst h4 h4''
    refine ⟨g, c, cur, rfl, h5, h6, by omega, h8, h9, ?_⟩
    rw [hlen, ← Nb, ← h10, List.take_take]
    congr 1
    rw [Nat.min_eq_left (Nat.mul_le_mul_right _ (by omega))]
end
end Go.Proofs.YtoflbpmbkmephaaGreatDoor
namespace Go.Proofs.YtoflbpmbkmephaaGreatDoor
open Go.RowKit
section
variable {α : Type} {e : Enc α} {t t' : TypeId} {g m : Nat} {l : List α} {w w' w0 : World} {S : List Nat} {es : List Ent}
end
section
variable {P : Program} {n : Nat} {Q : Bb} {ρ : Fr} {w w0 : World} {B : Code} {p : List Bool} {k : Nat} {d : Option Nat} {S : List Nat} {es : List Ent} {K : Fr → World → Prop}
variable {α : Type} {e : Enc α} {l : List α} {t t' : TypeId} {g m : Nat}
theorem H3 (e : Enc α) (z : α) (hz : e.sz = 1) (v : Value) (hv : e.enc z = [v]) (q : Nat) : (madeCells #[v] q).toList = Q5 e (List.replicate q z) := by
  have h1 : Q5 e (List.replicate q z) = List.replicate q v := by
    induction q with
    | zero => rfl
    | succ q ih => rw [List.replicate_succ, X9, ih, hv, List.replicate_succ]; rfl
  rw [h1]
  simp [madeCells]
  apply List.ext_getElem
  · simp
  · intro i h1 h2
    simp [Nat.mod_one]
theorem Bo {T E : TypeId} {x y : Operand} {k1 k2 : IntKind} {iz : Int} {b : Nat} {z : α} {v : Value} {l' : List α} (ho : Nz (Qd B p) k ρ = some (.makeSlice T x y, d)) (hd : Xk n d = true) (hx : opv ρ x = .int k1 iz) (hy : opv ρ y = .int k2 iz)
    (hT : P.underlying T = some (.slice E)) (hE : (P.info? E).map (fun i => (i.zero, i.size, i.bytes)) = some (some v, 1, b)) (hb : Nat.ble b 65536 = true) (hz : e.sz = 1) (hv : e.enc z = [v]) (hc : v.cells = #[v]) (h0 : decide (0 ≤ iz ∧ iz ≤ 2147483648) = true) (hs : SP S w0 w es) (hq : List.replicate iz.toNat z = l')
    (next : ∀ (g : Nat) (w' : World), SP S w0 w' (es ++ [Q7 E e (some ⟨g, 0, none⟩) iz.toNat l']) → l'.length = iz.toNat → K (Jo ρ d (.slice (some ⟨g, 0, none⟩) l'.length iz.toNat)) w') : Qi P n B p k K ρ w := by
  subst hq
  have h0 := of_decide_eq_true h0
  have hb2 := Nat.le_of_ble_eq_true hb
  cases hi : P.info? E with
  | none => rw [hi] at hE; cases hE
  | some i =>
    rw [hi] at hE
    simp only [Option.map_some, Option.some.injEq, Prod.mk.injEq] at hE
    obtain ⟨hz1, hz2, hz3⟩ := hE
    have hbb : (i.bytes : Int) * iz ≤ 281474976710656 := by
      rw [hz3]
      have h1 : (b : Int) * iz ≤ 65536 * 2147483648 := Int.mul_le_mul (by omega) h0.2 h0.1 (by omega)
      omega
    have hr := run_make (P := P) w T E i v hT hi hz1 k1 k2 iz iz h0.1 (Int.le_refl _) hbb (by omega)
    rw [hz2, Nat.mul_one, hc] at hr
    have hlen : (List.replicate iz.toNat z).length = iz.toNat := by simp
    have hnew := hs.newrow (E := E) (cs := madeCells #[v] iz.toNat) e (List.replicate iz.toNat z) (H3 e z hz v hv iz.toNat) (by rw [hlen]; unfold maxLen; omega) (by omega)
    rw [hlen] at hnew
    refine Qi.val ho hd (v := .slice (some ⟨w.heap.size, 0, none⟩) (List.replicate iz.toNat z).length iz.toNat) (w' := w.alloc (.cells (madeCells #[v] iz.toNat) E)) (fun o hop => ?_) (next _ _ hnew hlen)
    unfold execOp; rw [hop, hlen]
    simp only [hx, hy, Sem.run_bind, hr, Result.andThen_ok]
    rfl
end
end Go.Proofs.YtoflbpmbkmephaaGreatDoor
namespace Go.Proofs.YtoflbpmbkmephaaGreatDoor
open Go.RowKit
def Xl (s : List UInt8) (c : UInt8) : Option Int := some (Lib.indexByte s c)
theorem Ns (s : List UInt8) (c : UInt8) (w0 : World) (r : Int) (H : Xl s c = some r) :
    Calls Tryz.prog 89 #[(.string ⟨List.toArray s⟩), (.int .u8 ((c).toNat : Int))] w0 (fun e w' => e = .returned (.int .i64 r) ∧ SP [] w0 w' []) := by
  unfold Xl at H
  injection H with H
  subst H
  refine (Tryz.strings_IndexByte ⟨s.toArray⟩ ((c.toNat : Nat) : Int) w0).mono ?_
  rintro e w' ⟨rfl, rfl⟩
  refine ⟨?_, Q0 [] w'⟩
  rw [show ((c.toNat : Nat) : Int).toNat.toUInt8 = c by simp]
def Js (s sep : List UInt8) : Option Int := match sep with | [c] => some ((Lib.countByte s c : Nat) : Int) | _ => none
theorem G8 (s sep : List UInt8) (w0 : World) (r : Int) (H : Js s sep = some r) :
    Calls Tryz.prog 155 #[(.string ⟨List.toArray s⟩), (.string ⟨List.toArray sep⟩)] w0 (fun e w' => e = .returned (.int .i64 r) ∧ SP [] w0 w' []) := by
  unfold Js at H
  match sep, H with
  | [c], H =>
    injection H with H
    subst H
    refine (Tryz.strings_Count_one ⟨s.toArray⟩ c w0).mono ?_
    rintro e w' ⟨rfl, rfl⟩
    exact ⟨rfl, Q0 [] w'⟩
def Nt (s : List UInt8) (n : Int) : Option (List (List UInt8)) := none
theorem Gm (s : List UInt8) (n : Int) (w0 : World) (r : List (List UInt8)) (H : Nt s n = some r) :
    Calls Tryz.prog 154 #[(.string ⟨List.toArray s⟩), (.int .i64 n)] w0 (fun e w' => ∃ (A : Option Addr) (c : Nat), e = .returned (.slice A (List.length r) c) ∧ SP [] w0 w' [Q7 9 Qo A c r]) := by
  cases H
end Go.Proofs.YtoflbpmbkmephaaGreatDoor
namespace Go.Proofs.YtoflbpmbkmephaaGreatDoor
def Qk (c : UInt8) : List UInt8 → List (List UInt8)
  | [] => [[]]
  | x :: r => if x = c then [] :: Qk c r else match Qk c r with | [] => [[x]] | p :: ps => (x :: p) :: ps
theorem Xm (c : UInt8) (s : List UInt8) : Qk c s ≠ [] := by
  cases s with
  | nil => simp [Qk]
  | cons x r =>
    unfold Qk
    split
    · simp
    · split <;> simp
theorem Jl (c : UInt8) : ∀ (s : List UInt8), ∀ p ∈ Qk c s, p.length ≤ s.length
  | [], p, hp => by simp [Qk] at hp; simp [hp]
  | x :: r, p, hp => by
    unfold Qk at hp
    by_cases h : x = c
    · rw [if_pos h] at hp
      rcases List.mem_cons.1 hp with rfl | hp
      · simp
      · have := Jl c r p hp
        simp only [List.length_cons]
        omega
    · rw [if_neg h] at hp
      cases hs : Qk c r with
      | nil => exact absurd hs (Xm c r)
      | cons q qs =>
        rw [hs] at hp
        simp only at hp
        rcases List.mem_cons.1 hp with rfl | hp
        · have := Jl c r q (by rw [hs]; simp)
          simp only [List.length_cons]
          omega
        · have := Jl c r p (by rw [hs]; simp [hp])
          simp only [List.length_cons]
          omega
theorem Jt (c : UInt8) (s : List UInt8) : (Lib.indexByte s c = -1 ∧ Qk c s = [s] ∧ c ∉ s) ∨ ∃ i : Nat, Lib.indexByte s c = (i : Int) ∧ i < s.length ∧ s[i]? = some c ∧ c ∉ s.take i ∧ Qk c s = s.take i :: Qk c (s.drop (i + 1)) := by
  induction s with
  | nil => exact .inl ⟨rfl, rfl, by simp⟩
  | cons x r ih =>
    by_cases h : x = c
    · subst h
      refine .inr ⟨0, ?_, by simp, rfl, by simp, ?_⟩
      · simp [Lib.indexByte]
      · simp [Qk]
    · have hb : (x == c) = false := by simpa using h
      rcases ih with ⟨h1, h2, h3⟩ | ⟨i, h1, h2, h3, h4, h5⟩
      · refine .inl ⟨?_, ?_, ?_⟩
        · simp [Lib.indexByte, hb, h1]
        · unfold Qk; rw [if_neg h, h2]
        · simp [h3]; exact fun e => h e.symm
      · refine .inr ⟨i + 1, ?_, by simpa using h2, by simpa using h3, ?_, ?_⟩
        · have h0 : (Lib.indexByte r c == -1) = false := by rw [h1, beq_eq_false_iff_ne]; omega
          simp only [Lib.indexByte, hb, h0, h1]
          simp
        · simp [h4]; exact fun e => h e.symm
        · rw [List.take_succ_cons, List.drop_succ_cons]
          conv => lhs; unfold Qk
          rw [if_neg h, h5]
end Go.Proofs.YtoflbpmbkmephaaGreatDoor
namespace Go.Proofs.YtoflbpmbkmephaaGreatDoor
open Go.RowKit Go.Shelf
attribute [local go_sem] Oper.semAt_some
structure Je (W : World) (bsep bs bv : Nat) (c : UInt8) (r : List UInt8) : Prop where
  sep : W.heap[bsep]? = some (.cells #[.string ⟨#[c]⟩] 9 (0, 0))
  left : W.heap[bs]? = some (.cells #[.string ⟨r.toArray⟩] 9 (0, 0))
  save : W.heap[bv]? = some (.cells #[.int .i64 0] 3 (0, 0))
theorem Je.same {W W' : World} {bsep bs bv : Nat} {c : UInt8} {r : List UInt8} (h : Je W bsep bs bv c r) (h1 : W'.heap[bsep]? = W.heap[bsep]?) (h2 : W'.heap[bs]? = W.heap[bs]?) (h3 : W'.heap[bv]? = W.heap[bv]?) : Je W' bsep bs bv c r :=
  ⟨h1.trans h.sep, h2.trans h.left, h3.trans h.save⟩
theorem U1 {W : World} {b : Nat} {v : Value} {t : TypeId} (h : W.heap[b]? = some (.cells #[v] t (0, 0))) : W.cell? ⟨b, 0, none⟩ = some v := by
  rw [cell_of_row W b 0 _ t _ h]
  rfl
theorem Nh {W : World} {b : Nat} {v : Value} {t : TypeId} (h : W.heap[b]? = some (.cells #[v] t (0, 0))) : W.frozen? ⟨b, 0, none⟩ = false := by
  simp [World.frozen?, h]
def Dh (W : World) (bs : Nat) : Nat := match W.cell? ⟨bs, 0, none⟩ with | some (.string b) => b.size | _ => 0
theorem Cr {W : World} {bsep bs bv : Nat} {c : UInt8} {r : List UInt8} (h : Je W bsep bs bv c r) : Dh W bs = r.length := by
  unfold Dh
  rw [U1 h.left]
  exact Yp r
theorem Ya {W : World} {b : Nat} {u v : Value} {t : TypeId} (h : W.heap[b]? = some (.cells #[u] t (0, 0))) : (W.setCell ⟨b, 0, none⟩ v).heap[b]? = some (.cells #[v] t (0, 0)) := by
  simp [World.setCell, h, Array.getElem?_modify]
theorem Xc {W : World} {b k : Nat} {v : Value} (h : k ≠ b) : (W.setCell ⟨b, 0, none⟩ v).heap[k]? = W.heap[k]? := by
  simp [World.setCell, Array.getElem?_modify, Ne.symm h]
theorem Je.turn {W : World} {bsep bs bv : Nat} {c : UInt8} {r : List UInt8} (h : Je W bsep bs bv c r) (h1 : bs ≠ bsep) (h2 : bs ≠ bv) (q : List UInt8) : Je (W.setCell ⟨bs, 0, none⟩ (.string ⟨q.toArray⟩)) bsep bs bv c q :=
  ⟨(Xc h1.symm).trans h.sep, Ya h.left, (Xc h2.symm).trans h.save⟩
theorem H4 (m : Nat) (l bsep bs bv : Nat) (c : UInt8) (hne1 : bs ≠ bsep) (hne2 : bs ≠ bv) (s : List UInt8) (hs : s.length ≤ maxLen) (J Jx : List (List UInt8) → World → Prop)
    (hJ : ∀ pre W1 (v : Value), J pre W1 → J pre (W1.setCell ⟨bs, 0, none⟩ v))
    (hY : ∀ pre x r W1, J pre W1 → Je W1 bsep bs bv c r → (∃ q, pre ++ x :: q = Qk c s) → YieldAt Fence.wide (m - 1) Tryz.prog l #[.string ⟨x.toArray⟩] W1 fun e W' =>
      (e = .returned (.bool true) ∧ J (pre ++ [x]) W' ∧ W'.heap[bsep]? = W1.heap[bsep]? ∧ W'.heap[bs]? = W1.heap[bs]? ∧ W'.heap[bv]? = W1.heap[bv]?) ∨ (e = .returned (.bool false) ∧ Jx (pre ++ [x]) W'))
    (W : World) (hB : Je W bsep bs bv c s) (h0 : J [] W) :
    CallsIn Fence.wide m Tryz.prog 202 #[.func (.yield l) #[] #[], .pointer (some ⟨bsep, 0, none⟩), .pointer (some ⟨bs, 0, none⟩), .pointer (some ⟨bv, 0, none⟩)] W fun e W' => (∃ v, e = .returned v) ∧
      (J (Qk c s) W' ∨ (∃ pre, pre <+: Qk c s ∧ Jx pre W')) := by
  have hsz1 : ((⟨#[c]⟩ : ByteArray).size == 0) = false := rfl
  have c1 := U1 hB.sep
  refine callsIn_of_wp Tryz.func202 rfl trivial ?_ rfl
  simp only [Tryz.ntmps202, List.size_toArray, List.length_cons, List.length_nil, Nat.reduceAdd, Nat.reduceSub, Array.replicate_succ, Array.replicate_zero, List.push_toArray, List.append_toArray, List.nil_append, List.cons_append]
  gi_wp2
  gi_loopw [7] (fun p wr => ∃ (pre : List (List UInt8)) (r : List UInt8), Je wr bsep bs bv c r ∧ pre ++ Qk c r = Qk c s ∧ r.length ≤ maxLen ∧ J pre wr) (fun p wr => Dh wr bs)
  case atStart => exact ⟨[], s, hB, rfl, hs, h0⟩
  case round =>
    obtain ⟨pre, r, hb, hp, hr, hj⟩ := hrel
    have c1 := U1 hb.sep
    have c2 := U1 hb.left
    have c3 := U1 hb.save
    have hrs := Yp r
    have hsep1 : (⟨#[c]⟩ : ByteArray).size = 1 := rfl
    unfold maxLen at hr
    rcases Jt c r with ⟨h1, h2, h3⟩ | ⟨i, h1, h2, h3, h4, h5⟩
    · have h1' : Lib.indexByte (⟨r.toArray⟩ : ByteArray).data.toList c = -1 := h1
      obtain ⟨fn, tmps, assign, body, hy, hR⟩ := hY pre r r wr hj hb ⟨[], by rw [← hp, h2]⟩
      gi_wp2_with (refine ⟨trivial, fun hh => (by cases hh), ?_⟩; gi_at_call 156; refine (callsIn_wide.2 (Tryz.strings_Index_one (⟨r.toArray⟩ : ByteArray) c wr)).mono ?_; rintro e W3 ⟨rfl, rfl⟩; rw [h1'])
      refine ⟨fun hh => (by cases hh), ?_⟩
      refine hR.mono ?_
      rintro e W3 (⟨rfl, hJ3, hk⟩ | ⟨rfl, hJx3⟩)
      · gi_wp2
        go_end0
        exact ⟨⟨_, rfl⟩, .inl (by rw [← hp, h2]; exact hJ3)⟩
      · gi_wp2
        go_end0
        exact ⟨⟨_, rfl⟩, .inr ⟨pre ++ [r], by rw [← hp, h2]; exact List.prefix_refl _, hJx3⟩⟩
    · have h1' : Lib.indexByte (⟨r.toArray⟩ : ByteArray).data.toList c = (i : Int) := h1
      have hex := Uv r 0 i (by omega)
      rw [List.drop_zero] at hex
      have hex2 := Uv r (i + 1) r.length (Nat.le_refl _)
      rw [List.take_length] at hex2
      obtain ⟨fn, tmps, assign, body, hy, hR⟩ := hY pre (r.take i) r wr hj hb ⟨Qk c (r.drop (i + 1)), by rw [← hp, h5]⟩
      have hi0 : ¬ ((i : Int) < 0) := by omega
      gi_wp2_with (refine ⟨trivial, fun hh => (by cases hh), ?_⟩; gi_at_call 156; refine (callsIn_wide.2 (Tryz.strings_Index_one (⟨r.toArray⟩ : ByteArray) c wr)).mono ?_; rintro e W3 ⟨rfl, rfl⟩; rw [h1'])
      refine ⟨fun hh => (by cases hh), ?_⟩
      refine hR.mono ?_
      rintro e W3 (⟨rfl, hJ3, k1, k2, k3⟩ | ⟨rfl, hJx3⟩)
      · have hb3 := hb.same k1 k2 k3
        have d1 := U1 hb3.sep
        have d2 := U1 hb3.left
        have d3 := U1 hb3.save
        have f2 := Nh hb3.left
        gi_wp2
        have hb4 := hb3.turn hne1 hne2 (r.drop (i + 1))
        refine ⟨⟨pre ++ [r.take i], r.drop (i + 1), hb4, by rw [← hp, h5]; simp, by unfold maxLen; rw [List.length_drop]; omega, hJ _ _ _ hJ3⟩, ?_⟩
        rw [Cr hb4, Cr hb, List.length_drop]
        omega
      · gi_wp2
        refine bodyPost_ret (results_none rfl _ _ _) rfl ?_
        exact ⟨⟨_, rfl⟩, .inr ⟨pre ++ [r.take i], ⟨Qk c (r.drop (i + 1)), by rw [← hp, h5]; simp⟩, hJx3⟩⟩
end Go.Proofs.YtoflbpmbkmephaaGreatDoor
namespace Go.Proofs.YtoflbpmbkmephaaGreatDoor
open Go.RowKit Go.Shelf
attribute [local go_sem] Oper.semAt_some
def bodyOwn {α : Type} (M : List Nat) (I : List α → World → Prop) (Ix : Code → List α → World → Prop) (xs : List α) (W : World) : Exit → Act → World → Prop
  | .normal, _, W' => Mod M W W' ∧ I xs W'
  | .ret, _, W' => Mod M W W' ∧ Ix .ret xs W'
  | .exit id, _, W' => Mod M W W' ∧ Ix (.exit id) xs W'
  | .goto t, _, W' => Mod M W W' ∧ Ix (.goto t) xs W'
  | _, _, _ => False
theorem Jm (W : World) (r : Nat) (o : Obj) : Mod [r] W (W.putObj r o) := ⟨rfl, rfl, rfl, by simp, fun k _ hk => World.putObj_heap_other (by simpa using hk)⟩
theorem Bp (W : World) (b : Nat) (v : Value) : Mod [b] W (W.setCell ⟨b, 0, none⟩ v) := (Mod.refl [b] W).setCell (p := ⟨b, 0, none⟩) (.inl (by simp)) v
def SeqOwn {α : Type} (P : Program) (m gf : Nat) (lb : Array Value) (encs : α → Array Value) (T : List Nat) (S : List α) (w : World) : Prop :=
  ∀ (l : Nat) (J Jx : List α → World → Prop) (W : World),
    (∀ pre W1 k (v : Value), k ∈ T → J pre W1 → J pre (W1.setCell ⟨k, 0, none⟩ v)) →
    (∀ pre x W1, J pre W1 → (∃ q, pre ++ x :: q = S) → YieldAt Fence.wide (m - 1) P l (encs x) W1 fun e W' =>
      (e = .returned (.bool true) ∧ J (pre ++ [x]) W' ∧ ∀ k ∈ T, W'.heap[k]? = W1.heap[k]?) ∨ (e = .returned (.bool false) ∧ Jx (pre ++ [x]) W')) →
    (∀ k ∈ T, W.heap[k]? = w.heap[k]?) → J [] W →
    CallsIn Fence.wide m P gf (#[.func (.yield l) #[] #[]] ++ lb) W fun e W' => (∃ v, e = .returned v) ∧ (J S W' ∨ ∃ pre, pre <+: S ∧ Jx pre W')
theorem range_own {α : Type} {P : Program} {g : Operand} {ps : Array Tmp} {assign body : Code} {Q : Exit → Act → World → Prop} {a : Act} {w : World} {m gf : Nat} {lb : Array Value}
    (hg : a.eval g = .func (.func gf) #[] lb) (eg : ∀ args w, (callFunc gf args).run P w = .ok (.enter gf args) w) {encs : α → Array Value} (hps : ∀ x, (encs x).size = ps.size)
    (T M : List Nat) (hT : ∀ k ∈ T, k < w.heap.size) (hM : ∀ k ∈ M, k < w.heap.size ∧ k ∉ T) {S : List α} (iter : SeqOwn P (m - 1) gf lb encs T S w)
    (I : List α → World → Prop) (Ix : Code → List α → World → Prop) (hI : ∀ xs W W', I xs W → Mod (T ++ [w.heap.size, w.heap.size + 1]) W W' → I xs W') (hIx : ∀ c xs W W', Ix c xs W → Mod (T ++ [w.heap.size, w.heap.size + 1]) W W' → Ix c xs W')
    (h0 : I [] w) (a₁ : α → Act)
    (hassign : ∀ (l : Nat) (x : α) (W : World) (K : Act → World → Prop), K (a₁ x) W →
      assign.wpIn (Fence.wide.inRound l) (m - 1 - 1) P (Exit.then K (fun _ _ _ => False)) { tmps := (ps.zip (encs x)).foldl (fun t (p, v) => t.setIfInBounds p v) a.tmps, defers := [] } W)
    (hbody : ∀ (l : Nat) (pre : List α) (x : α) (W : World), I pre W → w.heap.size ≤ W.heap.size → (∃ q, pre ++ x :: q = S) → body.wpIn (Fence.wide.inRound l) (m - 1 - 1) P (bodyOwn M I Ix (pre ++ [x]) W) (a₁ x) W)
    (hdone : ∀ (W : World), I S W → W.heap[w.heap.size]? = some (.deferred (some [])) → Q .normal { a with defers := { target := .collected w.heap.size, args := #[] } :: a.defers } W)
    (hstop : ∀ (c : Code) (pre : List α) (W : World), pre <+: S → Ix c pre W → W.heap[w.heap.size]? = some (.deferred (some [])) → c.wpIn Fence.wide m P Q { a with defers := { target := .collected w.heap.size, args := #[] } :: a.defers } W) :
    (Code.rangeFunc g ps assign body).wpIn Fence.wide m P Q a w := by
  refine wpIn_rangeFunc fun fn _ => ?_
  have hnT : ∀ j, w.heap.size ≤ j → j ∉ T := fun j hj hm => by have := hT j hm; omega
  have hnM : ∀ j, w.heap.size ≤ j → j ∉ M := fun j hj hm => by have := (hM j hm).1; omega
  generalize hrec : (fun st pe => ({ state := st, pending := pe, fn, tmps := a.tmps, params := ps, assign, body, defers := w.heap.size } : Loop)) = rec
  have hr1 : ∀ st pe, (rec st pe).state = st := fun st pe => by rw [← hrec]
  generalize hW1 : (w.alloc (.deferred (some []))).alloc (.loop (rec .ready none)) = W1
  have hmod1 : Mod (T ++ [w.heap.size, w.heap.size + 1]) w W1 := by rw [← hW1]; exact ((Mod.refl _ w).alloc _).alloc _
  have hL1 : W1.heap[w.heap.size + 1]? = some (.loop (rec .ready none)) := by
    rw [← hW1]
    have := World.alloc_heap_new (w.alloc (.deferred (some []))) (.loop (rec .ready none))
    rwa [World.size_alloc] at this
  have hK1 : W1.heap[w.heap.size]? = some (.deferred (some [])) := by
    rw [← hW1]
    exact (Below.heap_alloc _ _ _ (by simp)).trans (World.alloc_heap_new w _)
  have pb : ∀ (W : World) (o : Obj), Mod (T ++ [w.heap.size, w.heap.size + 1]) W (W.putObj (w.heap.size + 1) o) := fun W o => (Jm W _ o).more (by simp)
  refine ⟨w.heap.size + 1, [{ target := .collected w.heap.size, args := #[] }], W1, { target := .fn (.func gf) lb, args := #[.func (.yield (w.heap.size + 1)) #[] #[]] }, W1, gf, #[.func (.yield (w.heap.size + 1)) #[] #[]] ++ lb, W1, ?_, ?_, fun _ _ => trivial, ?_, fun h => (by cases h), ?_⟩
  · rw [← hW1, ← hrec]
    exact run_enterLoop_outer _ _ _ _ _
  · simp only [resolve, hg]
    simp [go_sem]
  · simp [invoke, go_sem, eg]
  · refine (iter (w.heap.size + 1) (fun pre W => I pre W ∧ W.heap[w.heap.size + 1]? = some (.loop (rec .ready none)) ∧ W.heap[w.heap.size]? = some (.deferred (some [])))
      (fun pre W => ∃ c, Ix c pre W ∧ W.heap[w.heap.size + 1]? = some (.loop (rec .done (some c))) ∧ W.heap[w.heap.size]? = some (.deferred (some []))) W1 ?_ ?_ ?_ ⟨hI _ _ _ h0 hmod1, hL1, hK1⟩).mono ?_
    · rintro pre W k v hk ⟨h1, h2, h3⟩
      have hlt := hT k hk
      exact ⟨hI _ _ _ h1 ((Bp W k v).more fun j hj => by
        have : j = k := by simpa using hj
        subst this
        simp [hk]), (Xc (by omega)).trans h2, (Xc (by omega)).trans h3⟩
    · rintro pre x W ⟨hi, hl, hk⟩ hq
      have hlt : w.heap.size + 1 < W.heap.size := (Array.getElem?_eq_some_iff.1 hl).1
      have hy := run_yield (P := P) (args := encs x) hl (by rw [← hrec]; exact hps x)
      rw [← hrec] at hy
      dsimp only at hy
      refine ⟨fn, _, assign, body, hy, ?_⟩
      refine roundIn_of_wpIn trivial ?_
      refine hassign _ x W _ ?_
      refine ⟨_, run_beginRound hl (hr1 _ _), ?_⟩
      generalize hW2 : W.putObj (w.heap.size + 1) (.loop { rec .ready none with state := .busy }) = W2
      have hm2 : Mod (T ++ [w.heap.size, w.heap.size + 1]) W W2 := by rw [← hW2]; exact pb W _
      have hs2 : W2.heap.size = W.heap.size := by rw [← hW2]; simp
      have hl2 : W2.heap[w.heap.size + 1]? = some (.loop { rec .ready none with state := .busy }) := by rw [← hW2]; exact World.putObj_heap_same hlt
      have hk2 : W2.heap[w.heap.size]? = some (.deferred (some [])) := by rw [← hW2]; exact (World.putObj_heap_other (by omega)).trans hk
      have hT2 : ∀ k ∈ T, W2.heap[k]? = W.heap[k]? := fun k hkT => by rw [← hW2]; exact World.putObj_heap_other (by have := hT k hkT; omega)
      refine wpIn_mono (hbody _ pre x W2 (hI _ _ _ hi hm2) (by omega) hq) ?_
      have fin : ∀ (jump : Option Code) (W3 : World), Mod M W2 W3 → ∃ W4, (Instr.endRound (w.heap.size + 1) jump).run P W3 = .ok (.bool jump.isNone) W4 ∧ Mod (T ++ [w.heap.size, w.heap.size + 1]) W3 W4 ∧
          W4.heap[w.heap.size + 1]? = some (.loop (rec (if jump.isNone then .ready else .done) jump)) ∧ W4.heap[w.heap.size]? = some (.deferred (some [])) ∧ ∀ k ∈ T, W4.heap[k]? = W.heap[k]? := fun jump W3 hk3 => by
        have hl3 : W3.heap[w.heap.size + 1]? = some (.loop { rec .ready none with state := .busy }) := (hk3.block _ (by omega) (hnM _ (by omega))).trans hl2
        have hd3 : W3.heap[w.heap.size]? = some (.deferred (some [])) := (hk3.block _ (by omega) (hnM _ (by omega))).trans hk2
        have hrun := run_endRound (P := P) jump hl3
        refine ⟨_, hrun, pb W3 _, ?_, (World.putObj_heap_other (by omega)).trans hd3, fun k hkT => ?_⟩
        · rw [World.putObj_heap_same (Array.getElem?_eq_some_iff.1 hl3).1, ← hrec]
        · have := hT k hkT
          exact (World.putObj_heap_other (by omega)).trans ((hk3.block _ (by omega) fun hm => (hM k hm).2 hkT).trans (hT2 k hkT))
      rintro e a3 W3 hp
      cases e with
      | normal =>
        obtain ⟨W4, h1, h2, h3, h4, h5⟩ := fin none W3 hp.1
        exact ⟨_, _, h1, .inl ⟨rfl, ⟨hI _ _ _ hp.2 h2, h3, h4⟩, h5⟩⟩
      | ret =>
        obtain ⟨W4, h1, h2, h3, h4, h5⟩ := fin (some .ret) W3 hp.1
        exact ⟨_, _, h1, .inr ⟨rfl, .ret, hIx _ _ _ _ hp.2 h2, h3, h4⟩⟩
      | exit id =>
        obtain ⟨W4, h1, h2, h3, h4, h5⟩ := fin (some (.exit id)) W3 hp.1
        exact ⟨_, _, h1, .inr ⟨rfl, .exit id, hIx _ _ _ _ hp.2 h2, h3, h4⟩⟩
      | goto t =>
        obtain ⟨W4, h1, h2, h3, h4, h5⟩ := fin (some (.goto t)) W3 hp.1
        exact ⟨_, _, h1, .inr ⟨rfl, .goto t, hIx _ _ _ _ hp.2 h2, h3, h4⟩⟩
      | panic ch => exact hp.elim
      | outgrown => exact hp.elim
    · intro k hk
      have := hT k hk
      rw [← hW1]
      exact (Below.heap_alloc _ _ _ (by simp; omega)).trans (Below.heap_alloc _ _ _ this)
    · rintro e W2 ⟨⟨v, rfl⟩, (⟨hi, hl, hk⟩ | ⟨pre, hpre, c, hi, hl, hk⟩)⟩
      · have hend := run_endLoop (P := P) hl (by rw [hr1]; simp)
        rw [show (rec .ready none).pending = none by rw [← hrec]] at hend
        exact ⟨none, _, hend, hdone _ (hI _ _ _ hi (pb W2 _)) ((World.putObj_heap_other (by omega)).trans hk)⟩
      · have hend := run_endLoop (P := P) hl (by rw [hr1]; simp)
        rw [show (rec .done (some c)).pending = some c by rw [← hrec]] at hend
        exact ⟨some c, _, hend, hstop c pre _ hpre (hIx _ _ _ _ hi (pb W2 _)) ((World.putObj_heap_other (by omega)).trans hk)⟩
end Go.Proofs.YtoflbpmbkmephaaGreatDoor
namespace Go.Proofs.YtoflbpmbkmephaaGreatDoor
open Go.Lib (decDigits)
theorem digWrap {x : UInt8} (h : 48 ≤ x.toNat) : IntKind.wrap .i64 (IntKind.wrap .u8 (((x).toNat : Int) - 48)) = ((x.toNat - 48 : Nat) : Int) := by
  have := u8_lt x
  rw [Fz (by omega), Yr (by omega)]
  omega
theorem Bq {x : UInt8} (h : x.toNat < 48 ∨ 57 < x.toNat) : B6 x = false := by
  unfold B6
  rcases h with h | h
  · rw [show decide (48 ≤ x.toNat) = false by simp; omega]; rfl
  · rw [show decide (x.toNat ≤ 57) = false by simp; omega]; simp
theorem H5 {x : UInt8} (h : 48 ≤ x.toNat) (h2 : x.toNat ≤ 57) : B6 x = true := by unfold B6; simp [h, h2]
theorem F7 (l : List UInt8) (hl : l.length ≤ maxLen) : ∀ (d k f : Nat), d = l.length - k → k ≤ l.length → d < f → (l.take k).all B6 = true → Dv (l.take k) ≤ 10995116277769 →
    Xd l f ((Dv (l.take k) : Nat) : Int) (k : Int) = some (U0 (Vw l)) := by
  unfold maxLen at hl
  intro d
  induction d with
  | zero =>
    intro k f hd hk hf hall hv
    obtain ⟨f, rfl⟩ : ∃ g, f = g + 1 := ⟨f - 1, by omega⟩
    show X4 (Xd l f) l _ _ = _
    unfold X4
    rw [show decide ((k : Int) < ((List.length l : Nat) : Int)) = false by simp; omega, Ec]
    have e : l.take k = l := List.take_of_length_le (by omega)
    rw [e] at hall hv ⊢
    simp only [cond_false, Option.bind_some, Fn]
    by_cases hm : Dv l ≤ Gs
    · have hm' := hm
      unfold Gs at hm'
      rw [if_pos (by omega), Int.toNat_natCast]
      by_cases he : decDigits (Dv l) = l
      · have hp : Vw l = some (Dv l) := by unfold Vw; rw [if_pos ⟨hall, hm, he⟩]
        rw [hp, he, beq_self_eq_true]
        rfl
      · have hp : Vw l = none := by unfold Vw; rw [if_neg fun h => he h.2.2]
        rw [hp, show (decDigits (Dv l) == l) = false by simpa using he]
        rfl
    · have hm' := hm
      unfold Gs at hm'
      have hp : Vw l = none := by unfold Vw; rw [if_neg fun h => hm h.2.1]
      rw [if_neg (by omega), hp]
      cases l with
      | nil => exact absurd (show Dv [] ≤ Gs by decide) hm
      | cons c r => rfl
  | succ d ih =>
    intro k f hd hk hf hall hv
    obtain ⟨f, rfl⟩ : ∃ g, f = g + 1 := ⟨f - 1, by omega⟩
    have hlt : k < l.length := by omega
    show X4 (Xd l f) l _ _ = _
    unfold X4
    have hx : idx l (k : Int) = some l[k] := Uz hlt
    rw [show decide ((k : Int) < ((List.length l : Nat) : Int)) = true by simp; omega, hx]
    simp only [cond_true, Option.bind_some]
    by_cases h1 : l[k].toNat < 48
    · rw [show decide (((l[k].toNat : Nat) : Int) < 48) = true by simp; omega, E8 hlt (Bq (.inl h1))]
      rfl
    · rw [show decide (((l[k].toNat : Nat) : Int) < 48) = false by simp; omega]
      simp only [cond_false]
      by_cases h2 : 57 < l[k].toNat
      · rw [show decide (((l[k].toNat : Nat) : Int) > 57) = true by simp; omega, E8 hlt (Bq (.inr h2))]
        rfl
      · rw [show decide (((l[k].toNat : Nat) : Int) > 57) = false by simp; omega]
        simp only [cond_false]
        by_cases h3 : Gs < Dv (l.take k)
        · rw [F0 h3]
          unfold Gs at h3
          rw [show decide (((Dv (l.take k) : Nat) : Int) > 1099511627776) = true by simp; omega]
          rfl
        · unfold Gs at h3
          rw [show decide (((Dv (l.take k) : Nat) : Int) > 1099511627776) = false by simp; omega]
          have hst := dval_step hlt
          have w1 : IntKind.wrap .i64 (10 * ((Dv (l.take k) : Nat) : Int)) = ((10 * Dv (l.take k) : Nat) : Int) := by rw [Yr (by omega)]; omega
          have w2 := digWrap (x := l[k]) (by omega)
          have w3 : IntKind.wrap .i64 (((10 * Dv (l.take k) : Nat) : Int) + ((l[k].toNat - 48 : Nat) : Int)) = ((Dv (l.take (k + 1)) : Nat) : Int) := by rw [hst, Yr (by omega)]; omega
          have w4 : IntKind.wrap .i64 ((k : Int) + 1) = ((k + 1 : Nat) : Int) := by rw [Yr (by omega)]; omega
          simp only [Yk, cond_false, w1, w2, w3, w4]
          exact ih (k + 1) f (by omega) (by omega) (by omega) (all_step hlt hall (H5 (by omega) (by omega))) (by omega)
theorem lParse (l : List UInt8) (hl : l.length ≤ 2147483648) : Ua l = some (U0 (Vw l)) := by
  unfold Ua
  rw [Nat.ble_eq_true_of_le (Nat.le_trans hl (by decide))]
  exact F7 l (by unfold maxLen; omega) l.length 0 J5 (by omega) (by omega) (by rw [fuel_eq]; omega) rfl (show 0 ≤ 10995116277769 by decide)
end Go.Proofs.YtoflbpmbkmephaaGreatDoor
namespace Go.Proofs.YtoflbpmbkmephaaGreatDoor
open Go.RowKit Go.Shelf
attribute [local go_sem] Oper.semAt_some
def Z8 (st : Option (Nat × Nat)) (p : List UInt8) : Option (Nat × Nat) :=
  match st with
  | none => none
  | some (a, m) => match Vw p with
    | none => none
    | some n => if 255 < n ∨ 4 ≤ m then none else some (a * 256 + n, m + 1)
def U2 (ps : List (List UInt8)) : Option (Nat × Nat) := ps.foldl Z8 (some (0, 0))
def Nu (s : List UInt8) : Option Nat := match U2 (Qk 46 s) with | none => none | some (a, m) => if m = 4 then some a else none
theorem N5 (ps : List (List UInt8)) (p : List UInt8) : U2 (ps ++ [p]) = Z8 (U2 ps) p := by simp [U2]
theorem Ur (ps : List (List UInt8)) : ps.foldl Z8 none = none := by
  induction ps with
  | nil => rfl
  | cons p ps ih => exact ih
theorem Eg {pre ps : List (List UInt8)} (h : pre <+: ps) (hn : U2 pre = none) : U2 ps = none := by
  obtain ⟨q, rfl⟩ := h
  unfold U2 at *
  rw [List.foldl_append, hn, Ur]
theorem Fd {ps : List (List UInt8)} {a m : Nat} (h : U2 ps = some (a, m)) : m ≤ 4 ∧ a < 256 ^ m := by
  suffices H : ∀ (ps : List (List UInt8)) (a0 m0 : Nat), m0 ≤ 4 → a0 < 256 ^ m0 → ps.foldl Z8 (some (a0, m0)) = some (a, m) → m ≤ 4 ∧ a < 256 ^ m by exact H ps 0 0 (by omega) (by decide) h
  intro ps
  induction ps with
  | nil => intro a0 m0 h1 h2 h3; simp at h3; obtain ⟨rfl, rfl⟩ := h3; exact ⟨h1, h2⟩
  | cons p ps ih =>
    intro a0 m0 h1 h2 h3
    rw [List.foldl_cons] at h3
    cases hp : Vw p with
    | none =>
      rw [show Z8 (some (a0, m0)) p = none by simp only [Z8, hp], Ur] at h3
      cases h3
    | some n =>
      by_cases hc : 255 < n ∨ 4 ≤ m0
      · rw [show Z8 (some (a0, m0)) p = none by simp only [Z8, hp, if_pos hc], Ur] at h3
        cases h3
      · rw [show Z8 (some (a0, m0)) p = some (a0 * 256 + n, m0 + 1) by simp only [Z8, hp, if_neg hc]] at h3
        exact ih _ _ (by omega) (by rw [Nat.pow_succ]; omega) h3
theorem u32_join (a n : Nat) (ha : a < 16777216) (hn : n < 256) : bits .or .u32 ((a : Int) * 256 % 4294967296) (n : Int) = ((a * 256 + n : Nat) : Int) := by
  rw [show (a : Int) * 256 % 4294967296 = ((a * 256 : Nat) : Int) by omega]
  have h := Nat.shiftLeft_add_eq_or_of_lt (i := 8) (b := n) (by omega) a
  rw [Nat.shiftLeft_eq] at h
  show IntKind.u32.wrap ((BitVec.ofInt 32 ((a * 256 : Nat) : Int) ||| BitVec.ofInt 32 (n : Int)).toNat : Int) = _
  rw [BitVec.toNat_or, BitVec.ofInt_natCast, BitVec.ofInt_natCast, BitVec.toNat_ofNat, BitVec.toNat_ofNat, Nat.mod_eq_of_lt (by omega), Nat.mod_eq_of_lt (by omega), show a * 256 = a * 2 ^ 8 from rfl, ← h]
  unfold IntKind.wrap
  simp only [IntKind.bits, IntKind.signed]
  simp
  omega
theorem R3 {w : World} {o : Obj} {k : Nat} (h : k = w.heap.size) : (w.alloc o).heap[k]? = some o := by subst h; exact World.alloc_heap_new w o
theorem Dw (s sep : ByteArray) (w : World) : Calls Tryz.prog 183 #[.string s, .string sep] w fun e w' =>
    e = .returned (.func (.func 202) #[] #[.pointer (some ⟨w.heap.size + 1, 0, none⟩), .pointer (some ⟨w.heap.size, 0, none⟩), .pointer (some ⟨w.heap.size + 2, 0, none⟩)]) ∧
      w' = ((w.alloc (.cells #[.string s] 9)).alloc (.cells #[.string sep] 9)).alloc (.cells #[.int .i64 0] 3) := by
  have h1 : Calls Tryz.prog 196 #[.string s, .string sep, .int .i64 0] w fun e w' =>
    e = .returned (.func (.func 202) #[] #[.pointer (some ⟨w.heap.size + 1, 0, none⟩), .pointer (some ⟨w.heap.size, 0, none⟩), .pointer (some ⟨w.heap.size + 2, 0, none⟩)]) ∧
      w' = ((w.alloc (.cells #[.string s] 9)).alloc (.cells #[.string sep] 9)).alloc (.cells #[.int .i64 0] 3) := by
    go_enter Tryz.func196, Tryz.ntmps196
    go_wp2
    go_ret
    exact ⟨by simp, rfl⟩
  go_enter Tryz.func183, Tryz.ntmps183
  go_wp2_with (go_at_call 196; refine h1.mono ?_; rintro e w' ⟨rfl, rfl⟩)
  go_ret
  exact ⟨rfl, rfl⟩
theorem addr_any (s : List UInt8) (hs : s.length ≤ 2147483648) (w : World) (hL : Uj w) :
    Calls Tryz.prog 157 #[.string ⟨s.toArray⟩] w fun e w' => e = .returned (match Nu s with | none => .tuple #[.int .u32 0, .bool false] | some a => .tuple #[.int .u32 (a : Int), .bool true]) ∧ Below w.heap.size w w' := by
  refine (callsIn_wide (n := 3)).1 ?_
  refine callsIn_of_wp_marks Tryz.func157 rfl trivial ?_ rfl
  simp only [Tryz.ntmps157, List.size_toArray, List.length_cons, List.length_nil, Nat.reduceAdd, Nat.reduceSub, Array.replicate_succ, Array.replicate_zero, List.push_toArray, List.append_toArray, List.nil_append, List.cons_append]
  gi_wp2
  refine wpIn_wide.2 (wp_scope_straight ((wpIn_wide (n := 3)).1 ?_))
  gi_wp2_with (refine ⟨trivial, fun hh => (by first | (cases hh; done) | omega), ?_⟩; gi_at_call 183; refine (callsIn_wide.2 (Dw _ _ _)).mono ?_; rintro e w' ⟨rfl, rfl⟩)
  refine wpIn_label ?_
  gi_wp2_with (refine ⟨trivial, ?_⟩; gi_at_call 183; refine (callsIn_wide.2 (Dw _ _ _)).mono ?_; rintro e w' ⟨rfl, rfl⟩)
  have hsl : s.length ≤ maxLen := by unfold maxLen; omega
  generalize hw5 : ((((((w.alloc (Obj.cells #[Value.int IntKind.u32 0] 50)).alloc (Obj.cells #[Value.int IntKind.i64 0] 3)).alloc (Obj.cells #[Value.string { data := s.toArray }] 9)).alloc (Obj.cells #[Value.string { data := #[46] }] 9)).alloc (Obj.cells #[Value.int IntKind.i64 0] 3))) = w5
  have hsz5 : w5.heap.size = w.heap.size + 5 := by rw [← hw5]; simp
  have hb5 : Below w.heap.size w w5 := by
    rw [← hw5]
    exact (((((Below.refl _ _).alloc (Nat.le_refl _) _).alloc (by simp) _).alloc (by simp; omega) _).alloc (by simp; omega) _).alloc (by simp; omega) _
  have g0 : w5.heap[w.heap.size]? = some (.cells #[.int .u32 0] 50 (0, 0)) := by rw [← hw5]; exact (Below.heap_alloc _ _ _ (by simp; try omega)).trans ((Below.heap_alloc _ _ _ (by simp; try omega)).trans ((Below.heap_alloc _ _ _ (by simp; try omega)).trans ((Below.heap_alloc _ _ _ (by simp; try omega)).trans (R3 rfl))))
  have g1 : w5.heap[w.heap.size + 1]? = some (.cells #[.int .i64 0] 3 (0, 0)) := by rw [← hw5]; exact (Below.heap_alloc _ _ _ (by simp; try omega)).trans ((Below.heap_alloc _ _ _ (by simp; try omega)).trans ((Below.heap_alloc _ _ _ (by simp; try omega)).trans (R3 (by simp))))
  have g2 : w5.heap[w.heap.size + 1 + 1]? = some (.cells #[.string ⟨s.toArray⟩] 9 (0, 0)) := by rw [← hw5]; exact (Below.heap_alloc _ _ _ (by simp; try omega)).trans ((Below.heap_alloc _ _ _ (by simp; try omega)).trans (R3 (by simp)))
  have g3 : w5.heap[w.heap.size + 1 + 1 + 1]? = some (.cells #[.string ⟨#[46]⟩] 9 (0, 0)) := by rw [← hw5]; exact (Below.heap_alloc _ _ _ (by simp; try omega)).trans (R3 (by simp))
  have g4 : w5.heap[w.heap.size + 1 + 1 + 2]? = some (.cells #[.int .i64 0] 3 (0, 0)) := by rw [← hw5]; exact R3 (by simp)
  clear hw5
  refine range_own (gf := 202) (lb := #[Value.pointer (some { block := w.heap.size + 1 + 1 + 1, off := 0 }), Value.pointer (some { block := w.heap.size + 1 + 1, off := 0 }), Value.pointer (some { block := w.heap.size + 1 + 1 + 2, off := 0 })])
    rfl (enters_of Tryz.func202 (by kernel_rfl) rfl) (encs := fun x : List UInt8 => #[.string ⟨x.toArray⟩]) (fun _ => rfl) [w.heap.size + 1 + 1 + 1, w.heap.size + 1 + 1, w.heap.size + 1 + 1 + 2] [w.heap.size, w.heap.size + 1]
    (by intro k hk; simp at hk; omega) (by intro k hk; simp at hk ⊢; omega) (S := Qk 46 s) ?iter
    (fun pre W => ∃ a m, U2 pre = some (a, m) ∧ W.heap[w.heap.size]? = some (.cells #[.int .u32 (a : Int)] 50 (0, 0)) ∧ W.heap[w.heap.size + 1]? = some (.cells #[.int .i64 (m : Int)] 3 (0, 0)) ∧ Below w.heap.size w W)
    (fun c pre W => c = .exit 0 ∧ U2 pre = none ∧ (∃ v : Int, v ≠ 4 ∧ W.heap[w.heap.size + 1]? = some (.cells #[.int .i64 v] 3 (0, 0))) ∧ Below w.heap.size w W) ?hI ?hIx ⟨0, 0, rfl, g0, g1, hb5⟩
    (fun x => { tmps := #[.string ⟨s.toArray⟩, undef, .int .u32 0, .bool false, .pointer (some ⟨w.heap.size, 0, none⟩), .pointer (some ⟨w.heap.size + 1, 0, none⟩), .string ⟨x.toArray⟩, undef, undef, .string ⟨s.toArray⟩,
      .func (.func 202) #[] #[.pointer (some ⟨w.heap.size + 1 + 1 + 1, 0, none⟩), .pointer (some ⟨w.heap.size + 1 + 1, 0, none⟩), .pointer (some ⟨w.heap.size + 1 + 1 + 2, 0, none⟩)], .string ⟨x.toArray⟩, undef, undef, undef, undef, undef, undef, undef, undef, undef, undef, undef, undef, undef, undef, undef, undef, undef, undef, undef, undef, undef, undef, undef], defers := [] }) ?assign ?body ?done ?stop
  case iter =>
    intro l J Jx W hJ hY hT hJ0
    refine H4 _ l (w.heap.size + 1 + 1 + 1) (w.heap.size + 1 + 1) (w.heap.size + 1 + 1 + 2) 46 (by omega) (by omega) s hsl J Jx (fun pre W1 v hj => hJ pre W1 _ v (by simp) hj) (fun pre x r W1 hj hb hq => ?_) W ⟨(hT _ (by simp)).trans g3, (hT _ (by simp)).trans g2, (hT _ (by simp)).trans g4⟩ hJ0
    obtain ⟨fn, tmps, assign, body, hy, hR⟩ := hY pre x W1 hj hq
    refine ⟨fn, tmps, assign, body, hy, hR.mono ?_⟩
    rintro e W' (⟨h1, h2, h3⟩ | h)
    · exact .inl ⟨h1, h2, h3 _ (by simp), h3 _ (by simp), h3 _ (by simp)⟩
    · exact .inr h
  case hI =>
    rintro xs W W' ⟨a, m, h1, h2, h3, h4⟩ hm
    have hB : Below w.heap.size W W' := ⟨hm.os, hm.tape, hm.output, hm.size, fun k hk => hm.block k (Nat.lt_of_lt_of_le hk h4.size) (by simp [hsz5]; omega)⟩
    refine ⟨a, m, h1, (hm.block _ (Array.getElem?_eq_some_iff.1 h2).1 (by simp [hsz5]; try omega)).trans h2, (hm.block _ (Array.getElem?_eq_some_iff.1 h3).1 (by simp [hsz5]; try omega)).trans h3, h4.trans hB⟩
  case hIx =>
    rintro c xs W W' ⟨h0, h1, ⟨v, hv, h3⟩, h4⟩ hm
    have hB : Below w.heap.size W W' := ⟨hm.os, hm.tape, hm.output, hm.size, fun k hk => hm.block k (Nat.lt_of_lt_of_le hk h4.size) (by simp [hsz5]; omega)⟩
    exact ⟨h0, h1, ⟨v, hv, (hm.block _ (Array.getElem?_eq_some_iff.1 h3).1 (by simp [hsz5]; try omega)).trans h3⟩, h4.trans hB⟩
  case assign =>
    intro l x W K hK
    gi_wp2
    exact hK
  case body =>
    rintro l pre x W ⟨a, m, hst, hca, hcm, hB⟩ hsz ⟨q, hq⟩
    have hx : x.length ≤ s.length := Jl 46 s x (by rw [← hq]; simp)
    have hle := Fd hst
    have hparse := lParse x (by omega)
    cases hp : Vw x with
    | none =>
      rw [hp] at hparse
      have hnone : U2 (pre ++ [x]) = none := by rw [N5, hst]; simp only [Z8, hp]
      gi_wp2_with (refine ⟨trivial, ?_⟩; gi_at_call 135; refine (CallsIn.inRound l (callsIn_wide.2 (Xt x W (Qz hL hB) (0, false) hparse))).mono ?_; rintro e w' ⟨rfl, hsp⟩; have hb' := SP.keeps hsp; have hca2 := (hb'.block _ (Array.getElem?_eq_some_iff.1 hca).1).trans hca; have hcm2 := (hb'.block _ (Array.getElem?_eq_some_iff.1 hcm).1).trans hcm; have c1 := U1 hca2; have c2 := U1 hcm2; have f1 := Nh hca2; have f2 := Nh hcm2)
      exact ⟨(Zs hb' _).setCell (p := ⟨w.heap.size + 1, 0, none⟩) (.inl (by simp)) _, rfl, hnone, ⟨0, by decide, Ya hcm2⟩, (hB.trans (hb'.mono hB.size)).setCell (p := ⟨w.heap.size + 1, 0, none⟩) (by simp) _⟩
    | some n =>
      rw [hp] at hparse
      by_cases hn : 255 < n
      · have hnone : U2 (pre ++ [x]) = none := by rw [N5, hst]; simp only [Z8, hp, if_pos (Or.inl hn : 255 < n ∨ 4 ≤ m)]
        have hn' : (255 : Int) < (n : Int) := by omega
        gi_wp2_with (refine ⟨trivial, ?_⟩; gi_at_call 135; refine (CallsIn.inRound l (callsIn_wide.2 (Xt x W (Qz hL hB) ((n : Int), true) hparse))).mono ?_; rintro e w' ⟨rfl, hsp⟩; have hb' := SP.keeps hsp; have hca2 := (hb'.block _ (Array.getElem?_eq_some_iff.1 hca).1).trans hca; have hcm2 := (hb'.block _ (Array.getElem?_eq_some_iff.1 hcm).1).trans hcm; have c1 := U1 hca2; have c2 := U1 hcm2; have f1 := Nh hca2; have f2 := Nh hcm2)
        exact ⟨(Zs hb' _).setCell (p := ⟨w.heap.size + 1, 0, none⟩) (.inl (by simp)) _, rfl, hnone, ⟨0, by decide, Ya hcm2⟩, (hB.trans (hb'.mono hB.size)).setCell (p := ⟨w.heap.size + 1, 0, none⟩) (by simp) _⟩
      · have hn' : ¬ (255 : Int) < (n : Int) := by omega
        by_cases hm : 4 ≤ m
        · have hnone : U2 (pre ++ [x]) = none := by rw [N5, hst]; simp only [Z8, hp, if_pos (Or.inr hm : 255 < n ∨ 4 ≤ m)]
          have hm' : (4 : Int) < (m : Int) + 1 := by omega
          gi_wp2_with (refine ⟨trivial, ?_⟩; gi_at_call 135; refine (CallsIn.inRound l (callsIn_wide.2 (Xt x W (Qz hL hB) ((n : Int), true) hparse))).mono ?_; rintro e w' ⟨rfl, hsp⟩; have hb' := SP.keeps hsp; have hca2 := (hb'.block _ (Array.getElem?_eq_some_iff.1 hca).1).trans hca; have hcm2 := (hb'.block _ (Array.getElem?_eq_some_iff.1 hcm).1).trans hcm; have c1 := U1 hca2; have c2 := U1 hcm2; have f1 := Nh hca2; have f2 := Nh hcm2)
          have hcm3 : (w'.setCell ⟨w.heap.size, 0, none⟩ (.int .u32 (bits .or .u32 ((a : Int) * 256 % 4294967296) (n : Int)))).heap[w.heap.size + 1]? = some (.cells #[.int .i64 (m : Int)] 3 (0, 0)) := (Xc (by omega)).trans hcm2
          exact ⟨((Zs hb' _).setCell (p := ⟨w.heap.size, 0, none⟩) (.inl (by simp)) _).setCell (p := ⟨w.heap.size + 1, 0, none⟩) (.inl (by simp)) _, rfl, hnone, ⟨(m : Int) + 1, by omega, Ya hcm3⟩,
            ((hB.trans (hb'.mono hB.size)).setCell (p := ⟨w.heap.size, 0, none⟩) (by simp) _).setCell (p := ⟨w.heap.size + 1, 0, none⟩) (by simp) _⟩
        · have hm' : ¬ (4 : Int) < (m : Int) + 1 := by omega
          gi_wp2_with (refine ⟨trivial, ?_⟩; gi_at_call 135; refine (CallsIn.inRound l (callsIn_wide.2 (Xt x W (Qz hL hB) ((n : Int), true) hparse))).mono ?_; rintro e w' ⟨rfl, hsp⟩; have hb' := SP.keeps hsp; have hca2 := (hb'.block _ (Array.getElem?_eq_some_iff.1 hca).1).trans hca; have hcm2 := (hb'.block _ (Array.getElem?_eq_some_iff.1 hcm).1).trans hcm; have c1 := U1 hca2; have c2 := U1 hcm2; have f1 := Nh hca2; have f2 := Nh hcm2)
          have hstep : U2 (pre ++ [x]) = some (a * 256 + n, m + 1) := by rw [N5, hst]; simp only [Z8, hp, if_neg (by omega : ¬ (255 < n ∨ 4 ≤ m))]
          have ha : a < 16777216 := by
            have h3 := Nat.pow_le_pow_right (show 0 < 256 by omega) (show m ≤ 3 by omega)
            have h6 : (256 : Nat) ^ 3 = 16777216 := by decide
            omega
          have hj := u32_join a n ha (by omega)
          rw [hj]
          have hca3 : (w'.setCell ⟨w.heap.size, 0, none⟩ (.int .u32 ((a * 256 + n : Nat) : Int))).heap[w.heap.size]? = some (.cells #[.int .u32 ((a * 256 + n : Nat) : Int)] 50 (0, 0)) := Ya hca2
          have hcm3 : (w'.setCell ⟨w.heap.size, 0, none⟩ (.int .u32 ((a * 256 + n : Nat) : Int))).heap[w.heap.size + 1]? = some (.cells #[.int .i64 (m : Int)] 3 (0, 0)) := (Xc (by omega)).trans hcm2
          exact ⟨((Zs hb' _).setCell (p := ⟨w.heap.size, 0, none⟩) (.inl (by simp)) _).setCell (p := ⟨w.heap.size + 1, 0, none⟩) (.inl (by simp)) _, a * 256 + n, m + 1, hstep, (Xc (by omega)).trans hca3, Ya hcm3,
            ((hB.trans (hb'.mono hB.size)).setCell (p := ⟨w.heap.size, 0, none⟩) (by simp) _).setCell (p := ⟨w.heap.size + 1, 0, none⟩) (by simp) _⟩
  case done =>
    rintro W ⟨a, m, hst, hca, hcm, hB⟩ hK
    have c1 := U1 hca
    have c2 := U1 hcm
    by_cases h4 : m = 4
    · subst h4
      have hres : Nu s = some a := by unfold Nu; rw [hst]; rfl
      gi_wp2
      refine ⟨by simp, .inl ⟨_, _, rfl, run_takeDeferred hK, ?_⟩⟩
      exact ⟨_, results_tmp2 rfl _ _ _, by rw [hres]; rfl, hB.trans ((Jm W _ _).below hB.size (by simp [hsz5]))⟩
    · have hm : ((m : Int) != 4) = true := by rw [bne_iff_ne]; omega
      have hres : Nu s = none := by unfold Nu; rw [hst]; exact if_neg h4
      gi_wp2
      refine ⟨by simp, .inl ⟨_, _, rfl, run_takeDeferred hK, ?_⟩⟩
      exact ⟨_, results_tmp2 rfl _ _ _, by rw [hres]; rfl, hB.trans ((Jm W _ _).below hB.size (by simp [hsz5]))⟩
  case stop =>
    rintro c pre W hpre ⟨rfl, hst, ⟨v, hv, hcv⟩, hB⟩ hK
    have c2 := U1 hcv
    have hm : (v != 4) = true := by rw [bne_iff_ne]; exact hv
    have hres : Nu s = none := by unfold Nu; rw [Eg hpre hst]
    gi_wp2
    refine ⟨by simp, .inl ⟨_, _, rfl, run_takeDeferred hK, ?_⟩⟩
    exact ⟨_, results_tmp2 rfl _ _ _, by rw [hres]; rfl, hB.trans ((Jm W _ _).below hB.size (by simp [hsz5]))⟩
end Go.Proofs.YtoflbpmbkmephaaGreatDoor
namespace Go.Proofs.YtoflbpmbkmephaaGreatDoor
open Go.RowKit
def Vy (s sep : List UInt8) : Option Int := match sep with | [c] => some (Lib.indexByte s c) | _ => none
theorem X0 (s sep : List UInt8) (w0 : World) (r : Int) (H : Vy s sep = some r) :
    Calls Tryz.prog 182 #[(.string ⟨List.toArray s⟩), (.string ⟨List.toArray sep⟩)] w0 (fun e w' => e = .returned (.int .i64 r) ∧ SP [] w0 w' []) := by
  unfold Vy at H
  match sep, H with
  | [c], H =>
    injection H with H
    subst H
    refine (Tryz.stringslite_Index_one ⟨s.toArray⟩ c w0).mono ?_
    rintro e w' ⟨rfl, rfl⟩
    exact ⟨rfl, Q0 [] w'⟩
def addrD (x : Option Nat) : Int × Bool := match x with | none => (0, false) | some a => ((a : Int), true)
def Ju (s : List UInt8) : Option (Int × Bool) := cond (Nat.ble s.length 2147483648) (some (addrD (Nu s))) none
theorem R4 (s : List UInt8) (w0 : World) (hL : Uj w0) (r : Int × Bool) (H : Ju s = some r) :
    Calls Tryz.prog 157 #[(.string ⟨List.toArray s⟩)] w0 (fun e w' => e = .returned (.tuple #[(.int .u32 r.1), (.bool r.2)]) ∧ SP [] w0 w' []) := by
  unfold Ju at H
  cases hs : Nat.ble s.length 2147483648 <;> rw [hs] at H
  · cases H
  injection H with H
  subst H
  refine (addr_any s (Nat.le_of_ble_eq_true hs) w0 hL).mono ?_
  rintro e w' ⟨rfl, hbel⟩
  refine ⟨?_, Bk hbel⟩
  cases Nu s with
  | none => rfl
  | some a => rfl
end Go.Proofs.YtoflbpmbkmephaaGreatDoor
namespace Go.Proofs.YtoflbpmbkmephaaGreatDoor
open Go.RowKit
def Jv (p1 : (List UInt8)) (p2 : (List UInt8)) : Option (Int) :=
  ((Vy p1 p2).bind fun z3 => (some (z3)))
set_option maxHeartbeats 40000000 in
theorem G9  (p1 : (List UInt8)) (p2 : (List UInt8)) (w0 : World)  (r : (Int)) (H : Jv p1 p2 = some r) :
  Calls Tryz.prog 156 #[(.string ⟨List.toArray p1⟩), (.string ⟨List.toArray p2⟩)] w0 (fun e w' => e = .returned (.int .i64 r) ∧ SP [] w0 w' []) := by
 unfold Jv at H
 refine Qv (n := 8) Tryz.func156 K K K ?_
 have b := Q0 [] w0
 refine aQ ?_
 refine aR ?_
 refine iR 1 1 [(4, (.int .i64 0))] ?_
 refine iF ?_
 refine aQ ?_
 refine aR ?_
 refine iR 2 2 [(5, (.string ⟨List.toArray p1⟩)), (6, (.string ⟨List.toArray p2⟩))] ?_
 obtain ⟨z3, c, H⟩ := Qc H
 refine iS 3 ?_
 refine cF 182 #[(.tmp 5), (.tmp 6)] #[9, 9] 7 Tryz.call182 (X0  p1 p2 w0  z3 c) ?_
 rintro e w5 ⟨rfl, a⟩
 refine ⟨_, rfl, ?_⟩
 have d := SP.call b a
 clear a
 refine iR 1 4 [(4, (.int .i64 z3))] ?_
 refine iF ?_
 refine At.ret K ?_
 refine ⟨(.int .i64 z3), K, ?_⟩
 obtain rfl := Qf H
 exact ⟨rfl, SP.sel d [] rfl rfl⟩
def Zd (c : (List UInt8)) (b : (List (List UInt8))) (a : Int) : Option ((List (List UInt8))) :=
  ((idx b a).bind fun f => ((some (List.set b (Int.toNat a) c)).bind fun d => ((sub d 0 (IntKind.wrap .i64 (a + 1))).bind fun e => (some (e)))))
def Z1 (f : (List UInt8) → (List (List UInt8)) → Int → Option ((List (List UInt8)))) (p1 : (List UInt8)) (p2 : (List UInt8)) (p3 : Int) (e : Int) (a : (List UInt8)) (c : (List (List UInt8))) (b : Int) : Option ((List (List UInt8))) :=
  (cond (decide (b < (IntKind.wrap .i64 ((if (IntKind.wrap .i64 (((List.length p1 : Nat) : Int) + 1)) < e then (IntKind.wrap .i64 (((List.length p1 : Nat) : Int) + 1)) else e) - 1)))) ((Jv a p2).bind fun d => (cond (decide (d < 0)) (Zd a c b) ((sub a 0 (IntKind.wrap .i64 (d + p3))).bind fun g => ((idx c b).bind fun j => ((some (List.set c (Int.toNat b) g)).bind fun h => ((sub a (IntKind.wrap .i64 (d + ((List.length p2 : Nat) : Int))) ((List.length a : Nat) : Int)).bind fun i => (f i h (IntKind.wrap .i64 (b + 1))))))))) (Zd a c b))
def Ze (p1 : (List UInt8)) (p2 : (List UInt8)) (p3 : Int) (a : Int) : Nat → (List UInt8) → (List (List UInt8)) → Int → Option ((List (List UInt8)))
  | 0, _, _, _ => none
  | f + 1, b, c, d => Z1  (Ze p1 p2 p3 a f) p1 p2 p3 a b c d
def Z2 (p1 : (List UInt8)) (p2 : (List UInt8)) (p3 : Int) (a : Int) : Option ((List (List UInt8))) :=
  ((chk (decide (0 ≤ (if (IntKind.wrap .i64 (((List.length p1 : Nat) : Int) + 1)) < a then (IntKind.wrap .i64 (((List.length p1 : Nat) : Int) + 1)) else a) ∧ (if (IntKind.wrap .i64 (((List.length p1 : Nat) : Int) + 1)) < a then (IntKind.wrap .i64 (((List.length p1 : Nat) : Int) + 1)) else a) ≤ 2147483648))).bind fun _ => ((some (List.replicate (Int.toNat (if (IntKind.wrap .i64 (((List.length p1 : Nat) : Int) + 1)) < a then (IntKind.wrap .i64 (((List.length p1 : Nat) : Int) + 1)) else a)) (([] : List UInt8) : (List UInt8)))).bind fun b => (Ze p1 p2 p3 a J5 p1 b 0)))
def Ys (p1 : (List UInt8)) (p2 : (List UInt8)) (p3 : Int) (p4 : Int) : Option ((List (List UInt8))) :=
  (cond (p4 == 0) (some (([] : List (List UInt8)))) (cond (p2 == ([] : List UInt8)) ((Nt p1 p4).bind fun a => (some (a))) (cond (decide (p4 < 0)) ((Js p1 p2).bind fun b => (Z2 p1 p2 p3 (IntKind.wrap .i64 (b + 1)))) (Z2 p1 p2 p3 p4))))
set_option maxHeartbeats 40000000 in
theorem N6  (p1 : (List UInt8)) (p2 : (List UInt8)) (p3 : Int) (p4 : Int) (w0 : World)  (r : ((List (List UInt8)))) (H : Ys p1 p2 p3 p4 = some r) :
  Calls Tryz.prog 111 #[(.string ⟨List.toArray p1⟩), (.string ⟨List.toArray p2⟩), (.int .i64 p3), (.int .i64 p4)] w0 (fun e w' => ∃ (A5 : Option Addr) (c6 : Nat), e = .returned (.slice A5 (List.length r) c6) ∧ SP [] w0 w' [Q7 9 Qo A5 c6 r]) := by
 unfold Ys at H
 refine Qv (n := 66) Tryz.func111 K K K ?_
 have a6 := Q0 [] w0
 refine aQ ?_
 refine aR ?_
 refine iR 1 1 [(8, (.slice none (List.length ([] : List (List UInt8))) 0))] ?_
 refine iF ?_
 refine aQ ?_
 refine aQ ?_
 refine aR ?_
 refine iR 2 2 [(12, (.int .i64 p4)), (13, (.bool (p4 == 0)))] ?_
 refine iF ?_
 refine Xe K (o := (.tmp 13)) K (b := (p4 == 0)) K (fun b1 => ?_) (fun b1 => ?_)
 ·have H := ct H b1
  refine aQ ?_
  refine aR ?_
  refine iR 1 1 [(8, (.slice none (List.length ([] : List (List UInt8))) 0))] ?_
  refine iF ?_
  refine At.ret K ?_
  have d7 : SP [] w0 w0 [Q7 9 Qo none 0 ([] : List (List UInt8))] := Uu a6 9 Qo
  refine ⟨(.slice none (List.length ([] : List (List UInt8))) 0), K, ?_⟩
  obtain rfl := Qf H
  exact ⟨none, 0, rfl, SP.sel d7 [0] rfl rfl⟩
 ·have H := cf H b1
  refine At.skip K ?_
  refine aQ ?_
  refine aQ ?_
  refine aR ?_
  refine iR 1 1 [(14, (.string ⟨List.toArray p2⟩))] ?_
  refine iS 2 ?_
  refine Xs (op := .eql) (T := 9) (T' := 9) (x := (.tmp 14)) (y := (.const (.string ⟨List.toArray ([] : List UInt8)⟩))) (a := p2) (b := ([] : List UInt8)) (r := (.bool (p2 == ([] : List UInt8)))) (d := (some 15)) (k := 1) K rfl K K rfl ?_
  refine iF ?_
  refine Xe K (o := (.tmp 15)) K (b := (p2 == ([] : List UInt8))) K (fun b2 => ?_) (fun b2 => ?_)
  ·have H := ct H b2
   refine aQ ?_
   refine aR ?_
   refine iR 2 2 [(16, (.string ⟨List.toArray p1⟩)), (17, (.int .i64 p4))] ?_
   obtain ⟨b3, d8, H⟩ := Qc H
   refine iS 3 ?_
   refine cF 154 #[(.tmp 16), (.tmp 17)] #[9, 3] 18 Tryz.call154 (Gm  p1 p4 w0  b3 d8) ?_
   rintro e g3 ⟨b4, b5, rfl, c1⟩
   refine ⟨_, rfl, ?_⟩
   have d9 := SP.call a6 c1
   clear c1
   refine iR 1 4 [(8, (.slice b4 (List.length b3) b5))] ?_
   refine iF ?_
   refine At.ret K ?_
   refine ⟨(.slice b4 (List.length b3) b5), K, ?_⟩
   obtain rfl := Qf H
   exact ⟨b4, b5, rfl, SP.sel d9 [0] rfl rfl⟩
  ·have H := cf H b2
   refine At.skip K ?_
   refine aQ ?_
   refine aQ ?_
   refine aR ?_
   refine iR 2 2 [(19, (.int .i64 p4)), (20, (.bool (decide (p4 < 0))))] ?_
   refine iF ?_
   refine At.join (fun ρ w => ∃ (f : Int), Zi ρ [(0, (.string ⟨List.toArray p1⟩)), (1, (.string ⟨List.toArray p2⟩)), (2, (.int .i64 p3)), (3, (.int .i64 f))] ∧ SP [] w0 w [] ∧ Z2 p1 p2 p3 f = some r) ?_ ?_
   ·refine Xe K (o := (.tmp 20)) K (b := (decide (p4 < 0))) K (fun b6 => ?_) (fun b6 => ?_)
    ·have H := ct H b6
     refine aR ?_
     refine iR 2 2 [(21, (.string ⟨List.toArray p1⟩)), (22, (.string ⟨List.toArray p2⟩))] ?_
     obtain ⟨a7, e0, H⟩ := Qc H
     refine iS 3 ?_
     refine cF 155 #[(.tmp 21), (.tmp 22)] #[9, 9] 23 Tryz.call155 (G8  p1 p2 w0  a7 e0) ?_
     rintro e g4 ⟨rfl, c2⟩
     refine ⟨_, rfl, ?_⟩
     have e1 := SP.call a6 c2
     clear c2
     refine iR 2 5 [(24, (.int .i64 (IntKind.wrap .i64 (a7 + 1)))), (3, (.int .i64 (IntKind.wrap .i64 (a7 + 1))))] ?_
     refine iF ?_
     exact ⟨(IntKind.wrap .i64 (a7 + 1)), ⟨K, K, K, K, trivial⟩, SP.sel e1 [] rfl rfl, H⟩
    ·have H := cf H b6
     refine At.skip K ?_
     exact ⟨p4, ⟨K, K, K, K, trivial⟩, SP.sel a6 [] rfl rfl, H⟩
   ·rintro ρ g5 ⟨f, hk, e2, H⟩
    unfold Z2 at H
    first | refine At.known [(0, (.string ⟨List.toArray p1⟩)), (1, (.string ⟨List.toArray p2⟩)), (2, (.int .i64 p3)), (3, (.int .i64 f))] hk ?_ | rw [← Q1 (l := [(0, (.string ⟨List.toArray p1⟩)), (1, (.string ⟨List.toArray p2⟩)), (2, (.int .i64 p3)), (3, (.int .i64 f))]) hk]
    refine aQ ?_
    refine aR ?_
    refine iR 6 6 [(25, (.int .i64 f)), (26, (.string ⟨List.toArray p1⟩)), (27, (.int .i64 ((List.length p1 : Nat) : Int))), (28, (.int .i64 (IntKind.wrap .i64 (((List.length p1 : Nat) : Int) + 1)))), (29, (.int .i64 (if (IntKind.wrap .i64 (((List.length p1 : Nat) : Int) + 1)) < f then (IntKind.wrap .i64 (((List.length p1 : Nat) : Int) + 1)) else f))), (3, (.int .i64 (if (IntKind.wrap .i64 (((List.length p1 : Nat) : Int) + 1)) < f then (IntKind.wrap .i64 (((List.length p1 : Nat) : Int) + 1)) else f)))] ?_
    refine iF ?_
    refine aQ ?_
    refine aR ?_
    refine iR 1 1 [(30, (.int .i64 (if (IntKind.wrap .i64 (((List.length p1 : Nat) : Int) + 1)) < f then (IntKind.wrap .i64 (((List.length p1 : Nat) : Int) + 1)) else f)))] ?_
    obtain ⟨hl30, H⟩ := Nd H
    obtain ⟨a8, hyl29, H⟩ := V5 H
    refine iS 2 ?_
    refine Bo (e := Qo) (l' := a8) (z := ([] : List UInt8)) (v := (.string ⟨List.toArray ([] : List UInt8)⟩)) (b := 16) (T := 79) (E := 9) (x := (.tmp 30)) (y := (.tmp 30)) (k1 := .i64) (k2 := .i64) (iz := (if (IntKind.wrap .i64 (((List.length p1 : Nat) : Int) + 1)) < f then (IntKind.wrap .i64 (((List.length p1 : Nat) : Int) + 1)) else f)) (d := (some 31)) (k := 1) K rfl K K K K K rfl rfl rfl hl30 e2 hyl29 ?_
    intro b7 w32 c3 g6
    have e3 : SP [] w0 w32 [Q7 9 Qo (some ⟨b7, 0, none⟩) (Int.toNat (if (IntKind.wrap .i64 (((List.length p1 : Nat) : Int) + 1)) < f then (IntKind.wrap .i64 (((List.length p1 : Nat) : Int) + 1)) else f)) a8] := c3
    clear c3
    refine iR 1 3 [(9, (.slice (some ⟨b7, 0, none⟩) (List.length a8) (Int.toNat (if (IntKind.wrap .i64 (((List.length p1 : Nat) : Int) + 1)) < f then (IntKind.wrap .i64 (((List.length p1 : Nat) : Int) + 1)) else f))))] ?_
    refine iF ?_
    refine aQ ?_
    refine aR ?_
    refine iR 3 3 [(32, (.int .i64 (if (IntKind.wrap .i64 (((List.length p1 : Nat) : Int) + 1)) < f then (IntKind.wrap .i64 (((List.length p1 : Nat) : Int) + 1)) else f))), (33, (.int .i64 (IntKind.wrap .i64 ((if (IntKind.wrap .i64 (((List.length p1 : Nat) : Int) + 1)) < f then (IntKind.wrap .i64 (((List.length p1 : Nat) : Int) + 1)) else f) - 1)))), (3, (.int .i64 (IntKind.wrap .i64 ((if (IntKind.wrap .i64 (((List.length p1 : Nat) : Int) + 1)) < f then (IntKind.wrap .i64 (((List.length p1 : Nat) : Int) + 1)) else f) - 1))))] ?_
    refine iF ?_
    refine aQ ?_
    refine aR ?_
    refine iR 1 1 [(10, (.int .i64 0))] ?_
    refine iF ?_
    refine aQ ?_
    refine At.join (fun ρ w => ∃ (a4 : (List UInt8)) (a3 : (List (List UInt8))) (a2 : Int) (q : Option Addr) (g : Nat), Zi ρ [(0, (.string ⟨List.toArray a4⟩)), (9, (.slice q (List.length a3) g)), (10, (.int .i64 a2))] ∧ SP [] w0 w [Q7 9 Qo q g a3] ∧ Zd a4 a3 a2 = some r) ?_ ?_
    ·refine Jk K (id := 0) K ?_
     refine Rj K (fun f4 ρ w => ∃ (h : (List UInt8)) (s : (List (List UInt8))) (p : Int) (u : Option Addr) (a0 : Nat), Zi ρ [(0, (.string ⟨List.toArray h⟩)), (1, (.string ⟨List.toArray p2⟩)), (2, (.int .i64 p3)), (3, (.int .i64 (IntKind.wrap .i64 ((if (IntKind.wrap .i64 (((List.length p1 : Nat) : Int) + 1)) < f then (IntKind.wrap .i64 (((List.length p1 : Nat) : Int) + 1)) else f) - 1)))), (9, (.slice u (List.length s) a0)), (10, (.int .i64 p))] ∧ SP [] w0 w [Q7 9 Qo u a0 s] ∧ Ze p1 p2 p3 f f4 h s p = some r) (by rintro ρ w ⟨h, s, p, u, a0, hk, hs, H⟩; cases H) ?_ J5 ?_
     ·rintro f4 ρ e4 ⟨h, s, p, u, a0, hk, c4, H⟩
      refine At.known [(0, (.string ⟨List.toArray h⟩)), (1, (.string ⟨List.toArray p2⟩)), (2, (.int .i64 p3)), (3, (.int .i64 (IntKind.wrap .i64 ((if (IntKind.wrap .i64 (((List.length p1 : Nat) : Int) + 1)) < f then (IntKind.wrap .i64 (((List.length p1 : Nat) : Int) + 1)) else f) - 1)))), (9, (.slice u (List.length s) a0)), (10, (.int .i64 p))] hk ?_
      replace H := (show Z1 (Ze p1 p2 p3 f f4) p1 p2 p3 f h s p = some r from H)
      unfold Z1 at H
      refine aQ ?_
      refine aQ ?_
      refine aR ?_
      refine iR 3 3 [(34, (.int .i64 p)), (35, (.int .i64 (IntKind.wrap .i64 ((if (IntKind.wrap .i64 (((List.length p1 : Nat) : Int) + 1)) < f then (IntKind.wrap .i64 (((List.length p1 : Nat) : Int) + 1)) else f) - 1)))), (36, (.bool (decide (p < (IntKind.wrap .i64 ((if (IntKind.wrap .i64 (((List.length p1 : Nat) : Int) + 1)) < f then (IntKind.wrap .i64 (((List.length p1 : Nat) : Int) + 1)) else f) - 1))))))] ?_
      refine iF ?_
      refine Xe K (o := (.tmp 36)) K (b := (decide (p < (IntKind.wrap .i64 ((if (IntKind.wrap .i64 (((List.length p1 : Nat) : Int) + 1)) < f then (IntKind.wrap .i64 (((List.length p1 : Nat) : Int) + 1)) else f) - 1))))) K (fun b8 => ?_) (fun b8 => ?_)
      ·have H := ct H b8
       refine At.skip K ?_
       refine Jk K (id := 1) K ?_
       refine aQ ?_
       refine aR ?_
       refine iR 2 2 [(37, (.string ⟨List.toArray h⟩)), (38, (.string ⟨List.toArray p2⟩))] ?_
       obtain ⟨a1, e5, H⟩ := Qc H
       refine iS 3 ?_
       refine cF 156 #[(.tmp 37), (.tmp 38)] #[9, 9] 39 Tryz.call156 (G9  h p2 e4  a1 e5) ?_
       rintro e g7 ⟨rfl, c5⟩
       refine ⟨_, rfl, ?_⟩
       have b9 := SP.call c4 c5
       clear c5
       refine iR 1 4 [(11, (.int .i64 a1))] ?_
       refine iF ?_
       refine aQ ?_
       refine aQ ?_
       refine aR ?_
       refine iR 2 2 [(40, (.int .i64 a1)), (41, (.bool (decide (a1 < 0))))] ?_
       refine iF ?_
       refine Xe K (o := (.tmp 41)) K (b := (decide (a1 < 0))) K (fun c0 => ?_) (fun c0 => ?_)
       ·have H := ct H c0
        refine At.exit K (id := 0) K ?_
        exact ⟨h, s, p, u, a0, ⟨K, K, K, trivial⟩, SP.sel b9 [0] rfl rfl, H⟩
       ·have H := cf H c0
        refine At.skip K ?_
        refine aQ ?_
        refine aR ?_
        refine iR 6 6 [(42, (.slice u (List.length s) a0)), (43, (.int .i64 p)), (44, (.string ⟨List.toArray h⟩)), (45, (.int .i64 a1)), (46, (.int .i64 p3)), (47, (.int .i64 (IntKind.wrap .i64 (a1 + p3))))] ?_
        obtain ⟨e6, e7, e8, H⟩ := Nc H
        obtain ⟨c7, hyl303⟩ : ∃ y, (List.drop (Int.toNat 0) (List.take (Int.toNat (IntKind.wrap .i64 (a1 + p3))) h)) = y := ⟨_, rfl⟩
        rw [hyl303] at H
        refine iS 7 ?_
        refine Yc (a := h) (T := 9) (x := (.tmp 44)) (lo := none) (hi := (some (.tmp 47))) (i := 0) (j := (IntKind.wrap .i64 (a1 + p3))) (d := (some 48)) (k := 6) K rfl K K rfl ⟨.i64, K⟩ e6 e7 e8 ?_
        rw [hyl303]
        obtain ⟨g8, c8, c9, g9, H⟩ := Vk H
        refine iS 8 ?_
        refine Ql (e := Qo) (l := s) (A := u) (c := a0) (T := 79) (E := 9) (x := (.tmp 42)) (ix := (.tmp 43)) (ki := .i64) (iz := p) (d := (some 49)) (k := 7) K rfl K K K K (Vl (SP.get b9 (i := 0) rfl)) c8 c9 ?_
        intro e9 f0 f1 h1 hc310
        obtain ⟨a9, hyl313, H⟩ := V5 H
        have hnl313 : List.length a9 = List.length s := by rw [← hyl313, List.length_set]
        refine iS 9 ?_
        refine Y9 (e := Qo) (t := 9) (E := 9) (x := (.tmp 49)) (y := (.tmp 48)) (A := u) (c := a0) (l := s) (iz := p) (b := e9) (off := f0) (i := 0) (v := (.string ⟨List.toArray c7⟩)) (x' := c7) (d := none) (k := 8) K rfl K K b9 rfl f1 rfl c9 c8 rfl K ?_
        rw [hyl313]
        intro h2 f2
        refine In.known [(9, (.slice u (List.length a9) a0)), (42, (.slice u (List.length a9) a0))] ⟨(by rw [hnl313]; kernel_rfl), (by rw [hnl313]; kernel_rfl), trivial⟩ ?_
        refine iF ?_
        refine aQ ?_
        refine aR ?_
        refine iR 5 5 [(50, (.string ⟨List.toArray h⟩)), (51, (.int .i64 a1)), (52, (.string ⟨List.toArray p2⟩)), (53, (.int .i64 ((List.length p2 : Nat) : Int))), (54, (.int .i64 (IntKind.wrap .i64 (a1 + ((List.length p2 : Nat) : Int)))))] ?_
        obtain ⟨f3, f5, f6, H⟩ := Nc H
        obtain ⟨d0, hyl320⟩ : ∃ y, (List.drop (Int.toNat (IntKind.wrap .i64 (a1 + ((List.length p2 : Nat) : Int)))) (List.take (Int.toNat ((List.length h : Nat) : Int)) h)) = y := ⟨_, rfl⟩
        rw [hyl320] at H
        refine iS 6 ?_
        refine Yc (a := h) (T := 9) (x := (.tmp 50)) (lo := (some (.tmp 54))) (hi := none) (i := (IntKind.wrap .i64 (a1 + ((List.length p2 : Nat) : Int)))) (j := ((List.length h : Nat) : Int)) (d := (some 55)) (k := 5) K rfl K K ⟨.i64, K⟩ rfl f3 f5 f6 ?_
        rw [hyl320]
        refine iR 1 7 [(0, (.string ⟨List.toArray d0⟩))] ?_
        refine iF ?_
        refine aR ?_
        refine iR 3 3 [(56, (.int .i64 p)), (57, (.int .i64 (IntKind.wrap .i64 (p + 1)))), (10, (.int .i64 (IntKind.wrap .i64 (p + 1))))] ?_
        refine iF ?_
        exact ⟨d0, a9, (IntKind.wrap .i64 (p + 1)), u, a0, ⟨K, K, K, K, K, K, trivial⟩, SP.sel f2 [0] rfl rfl, H⟩
      ·have H := cf H b8
       refine At.exit K (id := 0) K ?_
       exact ⟨h, s, p, u, a0, ⟨K, K, K, trivial⟩, SP.sel c4 [0] rfl rfl, H⟩
     ·exact ⟨p1, a8, 0, (some ⟨b7, 0, none⟩), (Int.toNat (if (IntKind.wrap .i64 (((List.length p1 : Nat) : Int) + 1)) < f then (IntKind.wrap .i64 (((List.length p1 : Nat) : Int) + 1)) else f)), ⟨K, K, K, K, K, K, trivial⟩, SP.sel e3 [0] rfl rfl, H⟩
    ·rintro ρ h3 ⟨a4, a3, a2, q, g, hk, d1, H⟩
     unfold Zd at H
     first | refine At.known [(0, (.string ⟨List.toArray a4⟩)), (9, (.slice q (List.length a3) g)), (10, (.int .i64 a2))] hk ?_ | rw [← Q1 (l := [(0, (.string ⟨List.toArray a4⟩)), (9, (.slice q (List.length a3) g)), (10, (.int .i64 a2))]) hk]
     refine aQ ?_
     refine aR ?_
     refine iR 3 3 [(58, (.slice q (List.length a3) g)), (59, (.int .i64 a2)), (60, (.string ⟨List.toArray a4⟩))] ?_
     obtain ⟨h4, d2, d3, h5, H⟩ := Vk H
     refine iS 4 ?_
     refine Ql (e := Qo) (l := a3) (A := q) (c := g) (T := 79) (E := 9) (x := (.tmp 58)) (ix := (.tmp 59)) (ki := .i64) (iz := a2) (d := (some 61)) (k := 3) K rfl K K K K (Vl (SP.get d1 (i := 0) rfl)) d2 d3 ?_
     intro f7 f8 f9 h6 hc179
     obtain ⟨a5, hyl182, H⟩ := V5 H
     have hnl182 : List.length a5 = List.length a3 := by rw [← hyl182, List.length_set]
     refine iS 5 ?_
     refine Y9 (e := Qo) (t := 9) (E := 9) (x := (.tmp 61)) (y := (.tmp 60)) (A := q) (c := g) (l := a3) (iz := a2) (b := f7) (off := f8) (i := 0) (v := (.string ⟨List.toArray a4⟩)) (x' := a4) (d := none) (k := 4) K rfl K K d1 rfl f9 rfl d3 d2 rfl K ?_
     rw [hyl182]
     intro g0 d4
     refine In.known [(9, (.slice q (List.length a5) g)), (58, (.slice q (List.length a5) g))] ⟨(by rw [hnl182]; kernel_rfl), (by rw [hnl182]; kernel_rfl), trivial⟩ ?_
     refine iF ?_
     refine aQ ?_
     refine aR ?_
     refine iR 3 3 [(62, (.slice q (List.length a5) g)), (63, (.int .i64 a2)), (64, (.int .i64 (IntKind.wrap .i64 (a2 + 1))))] ?_
     obtain ⟨g1, d5, d6, H⟩ := Nc H
     obtain ⟨b0, hyl189⟩ : ∃ y, (List.drop (Int.toNat 0) (List.take (Int.toNat (IntKind.wrap .i64 (a2 + 1))) a5)) = y := ⟨_, rfl⟩
     rw [hyl189] at H
     refine iS 4 ?_
     refine Fx (e := Qo) (l := a5) (m := b0) (A := q) (c := g) (T := 79) (E := 9) (x := (.tmp 62)) (lo := none) (hi := (some (.tmp 64))) (i := 0) (j := (IntKind.wrap .i64 (a2 + 1))) (d := (some 65)) (k := 3) K rfl K K K rfl ⟨.i64, K⟩ (RdX.le (Vl (SP.get d4 (i := 0) rfl))) g1 d5 d6 hyl189 ?_
     refine iR 1 5 [(8, (.slice (Ik Qo.sz g (Int.toNat 0) q) (List.length b0) (g - Int.toNat 0)))] ?_
     refine iF ?_
     refine At.ret K ?_
     have g2 : SP [] w0 g0 [Q7 9 Qo (Ik Qo.sz g (Int.toNat 0) q) (g - Int.toNat 0) b0] := SP.cutrow d4 (i := 0) rfl d5 d6 hyl189
     refine ⟨(.slice (Ik Qo.sz g (Int.toNat 0) q) (List.length b0) (g - Int.toNat 0)), K, ?_⟩
     obtain rfl := Qf H
     exact ⟨(Ik Qo.sz g (Int.toNat 0) q), (g - Int.toNat 0), rfl, SP.sel g2 [0] rfl rfl⟩
def Yz (p1 : (List UInt8)) (p2 : (List UInt8)) : Option ((List (List UInt8))) :=
  ((Ys p1 p2 0 (-1)).bind fun z5 => (some (z5)))
set_option maxHeartbeats 40000000 in
theorem Ra  (p1 : (List UInt8)) (p2 : (List UInt8)) (w0 : World)  (r : ((List (List UInt8)))) (H : Yz p1 p2 = some r) :
  Calls Tryz.prog 67 #[(.string ⟨List.toArray p1⟩), (.string ⟨List.toArray p2⟩)] w0 (fun e w' => ∃ (A3 : Option Addr) (c4 : Nat), e = .returned (.slice A3 (List.length r) c4) ∧ SP [] w0 w' [Q7 9 Qo A3 c4 r]) := by
 unfold Yz at H
 refine Qv (n := 8) Tryz.func67 K K K ?_
 have c := Q0 [] w0
 refine aQ ?_
 refine aR ?_
 refine iR 1 1 [(4, (.slice none (List.length ([] : List (List UInt8))) 0))] ?_
 refine iF ?_
 refine aQ ?_
 refine aR ?_
 refine iR 2 2 [(5, (.string ⟨List.toArray p1⟩)), (6, (.string ⟨List.toArray p2⟩))] ?_
 obtain ⟨z5, d, H⟩ := Qc H
 refine iS 3 ?_
 refine cF 111 #[(.tmp 5), (.tmp 6), (.const (.int .i64 (0))), (.const (.int .i64 (-1)))] #[9, 9, 3, 3] 7 Tryz.call111 (N6  p1 p2 0 (-1) w0  z5 d) ?_
 rintro e w7 ⟨A9, a, rfl, b⟩
 refine ⟨_, rfl, ?_⟩
 have f := SP.call c b
 clear b
 refine iR 1 4 [(4, (.slice A9 (List.length z5) a))] ?_
 refine iF ?_
 refine At.ret K ?_
 refine ⟨(.slice A9 (List.length z5) a), K, ?_⟩
 obtain rfl := Qf H
 exact ⟨A9, a, rfl, SP.sel f [0] rfl rfl⟩
def Vm (v8 : Bool) : Option (Bool) :=
  (some (v8))
def Vq (p1 : (List UInt8)) (p2 : (List UInt8)) : Option (Bool) :=
  (cond (decide (((List.length p1 : Nat) : Int) ≥ ((List.length p2 : Nat) : Int))) ((sub p1 (IntKind.wrap .i64 (((List.length p1 : Nat) : Int) - ((List.length p2 : Nat) : Int))) ((List.length p1 : Nat) : Int)).bind fun a => (Vm (a == p2))) (Vm false))
set_option maxHeartbeats 40000000 in
theorem Y5  (p1 : (List UInt8)) (p2 : (List UInt8)) (w0 : World)  (r : (Bool)) (H : Vq p1 p2 = some r) :
  Calls Tryz.prog 163 #[(.string ⟨List.toArray p1⟩), (.string ⟨List.toArray p2⟩)] w0 (fun e w' => e = .returned (.bool r) ∧ SP [] w0 w' []) := by
 unfold Vq at H
 refine Qv (n := 21) Tryz.func163 K K K ?_
 have g := Q0 [] w0
 refine aQ ?_
 refine aR ?_
 refine iR 1 1 [(4, (.bool false))] ?_
 refine iF ?_
 refine aQ ?_
 refine At.join (fun ρ w => ∃ (v8 : Bool), Zi ρ [(4, (.bool v8))] ∧ SP [] w0 w [] ∧ Vm v8 = some r) ?_ ?_
 ·refine aR ?_
  refine iR 6 6 [(5, (.string ⟨List.toArray p1⟩)), (6, (.int .i64 ((List.length p1 : Nat) : Int))), (7, (.string ⟨List.toArray p2⟩)), (8, (.int .i64 ((List.length p2 : Nat) : Int))), (9, (.bool (decide (((List.length p1 : Nat) : Int) ≥ ((List.length p2 : Nat) : Int))))), (10, (.bool (decide (((List.length p1 : Nat) : Int) ≥ ((List.length p2 : Nat) : Int)))))] ?_
  refine In.guard (t := 10) (b := (decide (((List.length p1 : Nat) : Int) ≥ ((List.length p2 : Nat) : Int)))) K (fun f => ?_) (fun f => ?_)
  ·have H := ct H f
   refine iR 6 12 [(11, (.string ⟨List.toArray p1⟩)), (12, (.string ⟨List.toArray p1⟩)), (13, (.int .i64 ((List.length p1 : Nat) : Int))), (14, (.string ⟨List.toArray p2⟩)), (15, (.int .i64 ((List.length p2 : Nat) : Int))), (16, (.int .i64 (IntKind.wrap .i64 (((List.length p1 : Nat) : Int) - ((List.length p2 : Nat) : Int)))))] ?_
   obtain ⟨h, m, o, H⟩ := Nc H
   obtain ⟨c, hyl15⟩ : ∃ y, (List.drop (Int.toNat (IntKind.wrap .i64 (((List.length p1 : Nat) : Int) - ((List.length p2 : Nat) : Int)))) (List.take (Int.toNat ((List.length p1 : Nat) : Int)) p1)) = y := ⟨_, rfl⟩
   rw [hyl15] at H
   refine iS 13 ?_
   refine Yc (a := p1) (T := 9) (x := (.tmp 11)) (lo := (some (.tmp 16))) (hi := none) (i := (IntKind.wrap .i64 (((List.length p1 : Nat) : Int) - ((List.length p2 : Nat) : Int)))) (j := ((List.length p1 : Nat) : Int)) (d := (some 17)) (k := 12) K rfl K K ⟨.i64, K⟩ rfl h m o ?_
   rw [hyl15]
   refine iR 1 14 [(18, (.string ⟨List.toArray p2⟩))] ?_
   refine iS 15 ?_
   refine Xs (op := .eql) (T := 9) (T' := 9) (x := (.tmp 17)) (y := (.tmp 18)) (a := c) (b := p2) (r := (.bool (c == p2))) (d := (some 19)) (k := 14) K rfl K K rfl ?_
   refine iR 2 17 [(20, (.bool (c == p2))), (4, (.bool (c == p2)))] ?_
   refine iF ?_
   exact ⟨(c == p2), ⟨K, trivial⟩, SP.sel g [] rfl rfl, H⟩
  ·have H := cf H f
   refine iR 11 17 [(11, undef), (12, undef), (13, undef), (14, undef), (15, undef), (16, undef), (17, undef), (18, undef), (19, undef), (20, (.bool false)), (4, (.bool false))] ?_
   refine iF ?_
   exact ⟨false, ⟨K, trivial⟩, SP.sel g [] rfl rfl, H⟩
 ·rintro ρ w9 ⟨v8, hk, p, H⟩
  unfold Vm at H
  first | refine At.known [(4, (.bool v8))] hk ?_ | rw [← Q1 (l := [(4, (.bool v8))]) hk]
  refine At.ret K ?_
  refine ⟨(.bool v8), K, ?_⟩
  obtain rfl := Qf H
  exact ⟨rfl, SP.sel p [] rfl rfl⟩
def V0 (p1 : (List UInt8)) (p2 : (List UInt8)) : Option ((List UInt8) × Bool) :=
  ((Vq p1 p2).bind fun z3 => (cond (!z3) (some (p1, false)) ((sub p1 0 (IntKind.wrap .i64 (((List.length p1 : Nat) : Int) - ((List.length p2 : Nat) : Int)))).bind fun a => (some (a, true)))))
set_option maxHeartbeats 40000000 in
theorem Y6  (p1 : (List UInt8)) (p2 : (List UInt8)) (w0 : World)  (r : ((List UInt8) × Bool)) (H : V0 p1 p2 = some r) :
  Calls Tryz.prog 141 #[(.string ⟨List.toArray p1⟩), (.string ⟨List.toArray p2⟩)] w0 (fun e w' => e = .returned (.tuple #[(.string ⟨List.toArray r.1⟩), (.bool r.2)]) ∧ SP [] w0 w' []) := by
 unfold V0 at H
 refine Qv (n := 18) Tryz.func141 K K K ?_
 have l := Q0 [] w0
 refine aQ ?_
 refine aR ?_
 refine iR 2 2 [(4, (.string ⟨List.toArray ([] : List UInt8)⟩)), (5, (.bool false))] ?_
 refine iF ?_
 refine aQ ?_
 refine aQ ?_
 refine aR ?_
 refine iR 2 2 [(6, (.string ⟨List.toArray p1⟩)), (7, (.string ⟨List.toArray p2⟩))] ?_
 obtain ⟨z3, m, H⟩ := Qc H
 refine iS 3 ?_
 refine cF 163 #[(.tmp 6), (.tmp 7)] #[9, 9] 8 Tryz.call163 (Y5  p1 p2 w0  z3 m) ?_
 rintro e w5 ⟨rfl, f⟩
 refine ⟨_, rfl, ?_⟩
 have g := SP.call l f
 clear f
 refine iR 1 4 [(9, (.bool (!z3)))] ?_
 refine iF ?_
 refine Xe K (o := (.tmp 9)) K (b := (!z3)) K (fun c => ?_) (fun c => ?_)
 ·have H := ct H c
  refine aQ ?_
  refine aR ?_
  refine iR 3 3 [(10, (.string ⟨List.toArray p1⟩)), (4, (.string ⟨List.toArray p1⟩)), (5, (.bool false))] ?_
  refine iF ?_
  refine At.ret K ?_
  refine ⟨(.tuple #[(.string ⟨List.toArray p1⟩), (.bool false)]), K, ?_⟩
  obtain rfl := Qf H
  exact ⟨rfl, SP.sel g [] rfl rfl⟩
 ·have H := cf H c
  refine At.skip K ?_
  refine aQ ?_
  refine aR ?_
  refine iR 6 6 [(11, (.string ⟨List.toArray p1⟩)), (12, (.string ⟨List.toArray p1⟩)), (13, (.int .i64 ((List.length p1 : Nat) : Int))), (14, (.string ⟨List.toArray p2⟩)), (15, (.int .i64 ((List.length p2 : Nat) : Int))), (16, (.int .i64 (IntKind.wrap .i64 (((List.length p1 : Nat) : Int) - ((List.length p2 : Nat) : Int)))))] ?_
  obtain ⟨p, q, s, H⟩ := Nc H
  obtain ⟨h, hyl13⟩ : ∃ y, (List.drop (Int.toNat 0) (List.take (Int.toNat (IntKind.wrap .i64 (((List.length p1 : Nat) : Int) - ((List.length p2 : Nat) : Int)))) p1)) = y := ⟨_, rfl⟩
  rw [hyl13] at H
  refine iS 7 ?_
  refine Yc (a := p1) (T := 9) (x := (.tmp 11)) (lo := none) (hi := (some (.tmp 16))) (i := 0) (j := (IntKind.wrap .i64 (((List.length p1 : Nat) : Int) - ((List.length p2 : Nat) : Int)))) (d := (some 17)) (k := 6) K rfl K K rfl ⟨.i64, K⟩ p q s ?_
  rw [hyl13]
  refine iR 2 9 [(4, (.string ⟨List.toArray h⟩)), (5, (.bool true))] ?_
  refine iF ?_
  refine At.ret K ?_
  refine ⟨(.tuple #[(.string ⟨List.toArray h⟩), (.bool true)]), K, ?_⟩
  obtain rfl := Qf H
  exact ⟨rfl, SP.sel g [] rfl rfl⟩
def Xn (p1 : (List UInt8)) (p2 : (List UInt8)) : Option ((List UInt8) × Bool) :=
  ((V0 p1 p2).bind fun z3 => (some (z3.1, z3.2)))
set_option maxHeartbeats 40000000 in
theorem Nv  (p1 : (List UInt8)) (p2 : (List UInt8)) (w0 : World)  (r : ((List UInt8) × Bool)) (H : Xn p1 p2 = some r) :
  Calls Tryz.prog 90 #[(.string ⟨List.toArray p1⟩), (.string ⟨List.toArray p2⟩)] w0 (fun e w' => e = .returned (.tuple #[(.string ⟨List.toArray r.1⟩), (.bool r.2)]) ∧ SP [] w0 w' []) := by
 unfold Xn at H
 refine Qv (n := 11) Tryz.func90 K K K ?_
 have b := Q0 [] w0
 refine aQ ?_
 refine aR ?_
 refine iR 2 2 [(4, (.string ⟨List.toArray ([] : List UInt8)⟩)), (5, (.bool false))] ?_
 refine iF ?_
 refine aQ ?_
 refine aR ?_
 refine iR 2 2 [(6, (.string ⟨List.toArray p1⟩)), (7, (.string ⟨List.toArray p2⟩))] ?_
 obtain ⟨z3, c, H⟩ := Qc H
 refine iS 3 ?_
 refine cF 141 #[(.tmp 6), (.tmp 7)] #[9, 9] 8 Tryz.call141 (Y6  p1 p2 w0  z3 c) ?_
 rintro e w5 ⟨rfl, a⟩
 refine ⟨_, rfl, ?_⟩
 have d := SP.call b a
 clear a
 refine iR 4 7 [(9, (.string ⟨List.toArray z3.1⟩)), (10, (.bool z3.2)), (4, (.string ⟨List.toArray z3.1⟩)), (5, (.bool z3.2))] ?_
 refine iF ?_
 refine At.ret K ?_
 refine ⟨(.tuple #[(.string ⟨List.toArray z3.1⟩), (.bool z3.2)]), K, ?_⟩
 obtain rfl := Qf H
 exact ⟨rfl, SP.sel d [] rfl rfl⟩
end Go.Proofs.YtoflbpmbkmephaaGreatDoor
namespace Go.Proofs.YtoflbpmbkmephaaGreatDoor
open Go.RowKit
theorem U3 (c : UInt8) : ∀ s : List UInt8, (Qk c s).length = s.count c + 1
  | [] => rfl
  | x :: r => by
    have ih := U3 c r
    unfold Qk
    by_cases h : x = c
    · subst h
      rw [if_pos rfl, List.length_cons, ih, List.count_cons_self]
    · rw [if_neg h, List.count_cons_of_ne h]
      cases hs : Qk c r with
      | nil => exact absurd hs (Xm c r)
      | cons p ps => rw [hs] at ih; simpa using ih
theorem lIndex (s : List UInt8) (c : UInt8) : Jv s [c] = some (Lib.indexByte s c) := rfl
theorem Hh {α : Type} (l : List α) (n : Nat) (x z : α) (h : 0 < n) : (l ++ List.replicate n z).set l.length x = l ++ x :: List.replicate (n - 1) z := by
  obtain ⟨m, rfl⟩ : ∃ m, n = m + 1 := ⟨n - 1, by omega⟩
  simp [List.replicate_succ]
theorem Hi {α : Type} (l : List α) (n : Nat) (z : α) (h : 0 < n) : (l ++ List.replicate n z)[l.length]? = some z := by
  obtain ⟨m, rfl⟩ : ∃ m, n = m + 1 := ⟨n - 1, by omega⟩
  simp [List.replicate_succ]
theorem split_end (done : List (List UInt8)) (r : List UInt8) (m : Nat) (hm : 0 < m) (hl : done.length + m ≤ 2000000) :
    Zd r (done ++ List.replicate m []) ((done.length : Nat) : Int) = some (done ++ [r]) := by
  unfold Zd
  rw [Rn, Hi done m [] hm]
  simp only [Option.bind_some, Int.toNat_natCast]
  rw [Hh done m r [] hm, show IntKind.wrap .i64 (((done.length : Nat) : Int) + 1) = ((done.length + 1 : Nat) : Int) by rw [Yr (by omega)]; omega]
  have := Gr (done ++ r :: List.replicate (m - 1) []) (i := 0) (j := done.length + 1) (by omega) (by simp)
  rw [show ((0 : Nat) : Int) = 0 from rfl] at this
  rw [this, List.drop_zero, show done ++ r :: List.replicate (m - 1) [] = (done ++ [r]) ++ List.replicate (m - 1) [] by simp, List.take_left' (by simp)]
  rfl
theorem H6 (s : List UInt8) (c : UInt8) (M : Int) (hs : s.length ≤ 1000000) : ∀ (m : Nat) (r : List UInt8) (done : List (List UInt8)) (f : Nat), r.length ≤ 1000000 → (Qk c r).length = m → m < f → done.length + m ≤ 2000000 → M = ((done.length + m : Nat) : Int) →
    Ze s [c] 0 M f r (done ++ List.replicate m []) ((done.length : Nat) : Int) = some (done ++ Qk c r) ∨ ¬ (M ≤ ((s.length : Nat) : Int) + 1) := by
  intro m
  induction m with
  | zero =>
    intro r done f hr hm
    have := Xm c r
    simp at hm
    exact absurd hm this
  | succ m ih =>
    intro r done f hr hm hf hd hM
    by_cases hle : M ≤ ((s.length : Nat) : Int) + 1
    · left
      obtain ⟨f, rfl⟩ : ∃ g, f = g + 1 := ⟨f - 1, by omega⟩
      show Z1 (Ze s [c] 0 M f) s [c] 0 M _ _ _ = _
      unfold Z1
      have hif : (if IntKind.wrap .i64 (((s.length : Nat) : Int) + 1) < M then IntKind.wrap .i64 (((s.length : Nat) : Int) + 1) else M) = M := by
        rw [Yr (by omega), if_neg (by omega)]
      rw [hif, hM, show IntKind.wrap .i64 (((done.length + (m + 1) : Nat) : Int) - 1) = ((done.length + m : Nat) : Int) by rw [Yr (by omega)]; omega]
      rcases Jt c r with ⟨h1, h2, h3⟩ | ⟨i, h1, h2, h3, h4, h5⟩
      · rw [h2] at hm
        have : m = 0 := by simpa using hm.symm
        subst this
        rw [show decide (((done.length : Nat) : Int) < ((done.length + 0 : Nat) : Int)) = false by rw [decide_eq_false_iff_not]; omega, h2]
        exact split_end done r 1 (by omega) (by omega)
      · rw [h5, List.length_cons] at hm
        have hm' : (Qk c (r.drop (i + 1))).length = m := by omega
        have hpos : 0 < m := by
          have := Xm c (r.drop (i + 1))
          have : 0 < (Qk c (r.drop (i + 1))).length := List.length_pos_iff.2 this
          omega
        rw [show decide (((done.length : Nat) : Int) < ((done.length + m : Nat) : Int)) = true by rw [decide_eq_true_eq]; omega, lIndex, h1]
        simp only [cond_true, Option.bind_some]
        rw [show decide ((i : Int) < 0) = false by rw [decide_eq_false_iff_not]; omega, Int.add_zero, G6 (by omega)]
        have s1 := Gr r (i := 0) (j := i) (by omega) (by omega)
        rw [show ((0 : Nat) : Int) = 0 from rfl] at s1
        have s2 := Gr r (i := i + 1) (j := r.length) (by omega) (by omega)
        rw [s1, Rn, Hi done (m + 1) [] (by omega), show IntKind.wrap .i64 ((i : Int) + ((([c] : List UInt8).length : Nat) : Int)) = ((i + 1 : Nat) : Int) by rw [Yr (by simp; omega)]; simp, s2]
        simp only [cond_false, Option.bind_some, Int.toNat_natCast, List.drop_zero, List.take_length]
        rw [Hh done (m + 1) _ [] (by omega), show IntKind.wrap .i64 (((done.length : Nat) : Int) + 1) = ((done.length + 1 : Nat) : Int) by rw [Yr (by omega)]; omega]
        have := ih (r.drop (i + 1)) (done ++ [r.take i]) f (by rw [List.length_drop]; omega) hm' (by omega) (by simp; omega) (by rw [hM]; simp; omega)
        rcases this with this | this
        · rw [List.length_append, List.append_assoc] at this
          rw [show m + 1 - 1 = m by omega, h5, ← hM]
          refine Eq.trans ?_ (this.trans ?_)
          · rfl
          · simp
        · exact absurd hle this
    · exact .inr hle
theorem lSplit (s : List UInt8) (c : UInt8) (hs : s.length ≤ 1000000) : Yz s [c] = some (Qk c s) := by
  unfold Yz Ys
  have hc := U3 c s
  have hcl : s.count c ≤ s.length := List.count_le_length
  simp only [Js, Lib.countByte]
  rw [show ((-1 : Int) == 0) = false from rfl, show (([c] : List UInt8) == []) = false from rfl, show decide ((-1 : Int) < 0) = true from rfl]
  simp only [cond_false, cond_true, Option.bind_some]
  rw [show IntKind.wrap .i64 (((s.count c : Nat) : Int) + 1) = (((Qk c s).length : Nat) : Int) by rw [Yr (by omega), hc]; omega]
  unfold Z2
  have hif : (if IntKind.wrap .i64 (((s.length : Nat) : Int) + 1) < (((Qk c s).length : Nat) : Int) then IntKind.wrap .i64 (((s.length : Nat) : Int) + 1) else (((Qk c s).length : Nat) : Int)) = (((Qk c s).length : Nat) : Int) := by
    rw [Yr (by omega), if_neg (by omega)]
  rw [hif, show decide (0 ≤ (((Qk c s).length : Nat) : Int) ∧ (((Qk c s).length : Nat) : Int) ≤ 2147483648) = true by rw [decide_eq_true_eq]; omega]
  simp only [chk, Option.bind_some, Int.toNat_natCast]
  have := H6 s c (((Qk c s).length : Nat) : Int) hs (Qk c s).length s [] J5 (by omega) rfl (by unfold J5; omega) (by simp; omega) (by simp)
  rcases this with this | this
  · rw [List.nil_append, List.nil_append] at this
    rw [show ((([] : List (List UInt8)).length : Nat) : Int) = 0 from rfl] at this
    rw [this]
    rfl
  · omega
end Go.Proofs.YtoflbpmbkmephaaGreatDoor
namespace Go.Proofs.YtoflbpmbkmephaaGreatDoor
open Go.RowKit
def Zu (p1 : (List UInt8)) (p2 : (List UInt8)) : Option ((List UInt8) × (List UInt8) × Bool) :=
  ((Vy p1 p2).bind fun z3 => (cond (decide (z3 ≥ 0)) ((sub p1 0 z3).bind fun a => ((sub p1 (IntKind.wrap .i64 (z3 + ((List.length p2 : Nat) : Int))) ((List.length p1 : Nat) : Int)).bind fun b => (some (a, b, true)))) (some (p1, ([] : List UInt8), false))))
set_option maxHeartbeats 40000000 in
theorem Ud  (p1 : (List UInt8)) (p2 : (List UInt8)) (w0 : World)  (r : ((List UInt8) × (List UInt8) × Bool)) (H : Zu p1 p2 = some r) :
  Calls Tryz.prog 160 #[(.string ⟨List.toArray p1⟩), (.string ⟨List.toArray p2⟩)] w0 (fun e w' => e = .returned (.tuple #[(.string ⟨List.toArray r.1⟩), (.string ⟨List.toArray r.2.1⟩), (.bool r.2.2)]) ∧ SP [] w0 w' []) := by
 unfold Zu at H
 refine Qv (n := 23) Tryz.func160 K K K ?_
 have s := Q0 [] w0
 refine aQ ?_
 refine aR ?_
 refine iR 3 3 [(4, (.string ⟨List.toArray ([] : List UInt8)⟩)), (5, (.string ⟨List.toArray ([] : List UInt8)⟩)), (6, (.bool false))] ?_
 refine iF ?_
 refine aQ ?_
 refine aQ ?_
 refine aR ?_
 refine iR 2 2 [(8, (.string ⟨List.toArray p1⟩)), (9, (.string ⟨List.toArray p2⟩))] ?_
 obtain ⟨z3, t, H⟩ := Qc H
 refine iS 3 ?_
 refine cF 182 #[(.tmp 8), (.tmp 9)] #[9, 9] 10 Tryz.call182 (X0  p1 p2 w0  z3 t) ?_
 rintro e w5 ⟨rfl, m⟩
 refine ⟨_, rfl, ?_⟩
 have p := SP.call s m
 clear m
 refine iR 1 4 [(7, (.int .i64 z3))] ?_
 refine iF ?_
 refine aQ ?_
 refine aR ?_
 refine iR 2 2 [(11, (.int .i64 z3)), (12, (.bool (decide (z3 ≥ 0))))] ?_
 refine iF ?_
 refine Xe K (o := (.tmp 12)) K (b := (decide (z3 ≥ 0))) K (fun h => ?_) (fun h => ?_)
 ·have H := ct H h
  refine aQ ?_
  obtain ⟨u, v, w, H⟩ := Nc H
  obtain ⟨c, hyl13⟩ : ∃ y, (List.drop (Int.toNat 0) (List.take (Int.toNat z3) p1)) = y := ⟨_, rfl⟩
  rw [hyl13] at H
  obtain ⟨z, a0, a1, H⟩ := Nc H
  obtain ⟨f, hyl17⟩ : ∃ y, (List.drop (Int.toNat (IntKind.wrap .i64 (z3 + ((List.length p2 : Nat) : Int)))) (List.take (Int.toNat ((List.length p1 : Nat) : Int)) p1)) = y := ⟨_, rfl⟩
  rw [hyl17] at H
  refine aG [GEq (.string ⟨List.toArray p1⟩), GEq (.int .i64 z3), GEq (.string ⟨List.toArray c⟩), GEq (.string ⟨List.toArray p1⟩), GEq (.int .i64 z3), GEq (.string ⟨List.toArray p2⟩), GEq (.int .i64 ((List.length p2 : Nat) : Int)), GEq (.int .i64 (IntKind.wrap .i64 (z3 + ((List.length p2 : Nat) : Int)))), GEq (.string ⟨List.toArray f⟩), GEq (.string ⟨List.toArray c⟩), GEq (.string ⟨List.toArray f⟩), GEq (.bool true)] [] (tG [] w0 [] [([], [])]) 12 0 ⟨trivial, SP.drew p⟩ ?_ ?_
  iterate 12 refine And.intro ?_ ?_
  exact trivial
  ·exact oV (hC (hS 0 (.string ⟨List.toArray p1⟩)) (h0)) (.string ⟨List.toArray p1⟩)
  ·exact oV (hC (hS 7 (.int .i64 z3)) (h0)) (.int .i64 z3)
  ·refine oL 0 ?_
   ·rintro ρ' w' hs g ⟨a3, a4⟩
    refine kM (kc (kA g 0 13) (kc (kA g 1 14) k0)) fun l => ?_
    refine Yc (a := p1) (T := 9) (x := (.tmp 13)) (lo := none) (hi := (some (.tmp 14))) (i := 0) (j := z3) (d := (some 15)) (k := 2) K rfl K K rfl ⟨.i64, K⟩ u v w ?_
    rw [hyl13]
    exact eK l
  ·exact oV (hC (hS 0 (.string ⟨List.toArray p1⟩)) (h0)) (.string ⟨List.toArray p1⟩)
  ·exact oV (hC (hS 7 (.int .i64 z3)) (h0)) (.int .i64 z3)
  ·exact oV (hC (hS 1 (.string ⟨List.toArray p2⟩)) (h0)) (.string ⟨List.toArray p2⟩)
  ·exact oV (hC (hA 5 18) (h0)) (.int .i64 ((List.length p2 : Nat) : Int))
  ·exact oV (hC (hA 4 17) (hC (hA 6 19) (h0))) (.int .i64 (IntKind.wrap .i64 (z3 + ((List.length p2 : Nat) : Int))))
  ·refine oL 0 ?_
   ·rintro ρ' w' hs g ⟨a5, a6⟩
    refine kM (kc (kA g 3 16) (kc (kA g 7 20) k0)) fun l => ?_
    refine Yc (a := p1) (T := 9) (x := (.tmp 16)) (lo := (some (.tmp 20))) (hi := none) (i := (IntKind.wrap .i64 (z3 + ((List.length p2 : Nat) : Int)))) (j := ((List.length p1 : Nat) : Int)) (d := (some 21)) (k := 8) K rfl K K ⟨.i64, K⟩ rfl z a0 a1 ?_
    rw [hyl17]
    exact eK l
  ·exact oV (hC (hA 2 15) (h0)) (.string ⟨List.toArray c⟩)
  ·exact oV (hC (hA 8 21) (h0)) (.string ⟨List.toArray f⟩)
  ·exact Owe.run K [] trivial (.bool true) (fun _ _ => K) rfl
  ·rintro ρ' w' hs hf ⟨a7, q⟩
   refine V7 [(4, (.string ⟨List.toArray c⟩)), (5, (.string ⟨List.toArray f⟩)), (6, (.bool true))] ⟨hf 9 4 K, hf 10 5 K, hf 11 6 K, trivial⟩ ?_
   obtain ⟨a8, a2⟩ : ∃ x, w' = x := ⟨_, rfl⟩
   rw [a2] at q ⊢
   refine At.ret K ?_
   refine ⟨(.tuple #[(.string ⟨List.toArray c⟩), (.string ⟨List.toArray f⟩), (.bool true)]), K, ?_⟩
   obtain rfl := Qf H
   exact ⟨rfl, SP.sel q [] rfl rfl⟩
 ·have H := cf H h
  refine At.skip K ?_
  refine aQ ?_
  refine aR ?_
  refine iR 4 4 [(22, (.string ⟨List.toArray p1⟩)), (4, (.string ⟨List.toArray p1⟩)), (5, (.string ⟨List.toArray ([] : List UInt8)⟩)), (6, (.bool false))] ?_
  refine iF ?_
  refine At.ret K ?_
  refine ⟨(.tuple #[(.string ⟨List.toArray p1⟩), (.string ⟨List.toArray ([] : List UInt8)⟩), (.bool false)]), K, ?_⟩
  obtain rfl := Qf H
  exact ⟨rfl, SP.sel p [] rfl rfl⟩
def Jw (p1 : (List UInt8)) (p2 : (List UInt8)) : Option ((List UInt8) × (List UInt8) × Bool) :=
  ((Zu p1 p2).bind fun z3 => (some (z3.1, z3.2.1, z3.2.2)))
set_option maxHeartbeats 40000000 in
theorem R5  (p1 : (List UInt8)) (p2 : (List UInt8)) (w0 : World)  (r : ((List UInt8) × (List UInt8) × Bool)) (H : Jw p1 p2 = some r) :
  Calls Tryz.prog 137 #[(.string ⟨List.toArray p1⟩), (.string ⟨List.toArray p2⟩)] w0 (fun e w' => e = .returned (.tuple #[(.string ⟨List.toArray r.1⟩), (.string ⟨List.toArray r.2.1⟩), (.bool r.2.2)]) ∧ SP [] w0 w' []) := by
 unfold Jw at H
 refine Qv (n := 13) Tryz.func137 K K K ?_
 have b := Q0 [] w0
 refine aQ ?_
 refine aR ?_
 refine iR 3 3 [(4, (.string ⟨List.toArray ([] : List UInt8)⟩)), (5, (.string ⟨List.toArray ([] : List UInt8)⟩)), (6, (.bool false))] ?_
 refine iF ?_
 refine aQ ?_
 refine aR ?_
 refine iR 2 2 [(7, (.string ⟨List.toArray p1⟩)), (8, (.string ⟨List.toArray p2⟩))] ?_
 obtain ⟨z3, c, H⟩ := Qc H
 refine iS 3 ?_
 refine cF 160 #[(.tmp 7), (.tmp 8)] #[9, 9] 9 Tryz.call160 (Ud  p1 p2 w0  z3 c) ?_
 rintro e w5 ⟨rfl, a⟩
 refine ⟨_, rfl, ?_⟩
 have d := SP.call b a
 clear a
 refine iR 6 9 [(10, (.string ⟨List.toArray z3.1⟩)), (11, (.string ⟨List.toArray z3.2.1⟩)), (12, (.bool z3.2.2)), (4, (.string ⟨List.toArray z3.1⟩)), (5, (.string ⟨List.toArray z3.2.1⟩)), (6, (.bool z3.2.2))] ?_
 refine iF ?_
 refine At.ret K ?_
 refine ⟨(.tuple #[(.string ⟨List.toArray z3.1⟩), (.string ⟨List.toArray z3.2.1⟩), (.bool z3.2.2)]), K, ?_⟩
 obtain rfl := Qf H
 exact ⟨rfl, SP.sel d [] rfl rfl⟩
def Z3 (a : (Int × Bool)) (b : (Int × Bool)) (c : Bool) : Option (Int × Int × Bool) :=
  (cond c (some (0, 0, false)) (some (a.1, b.1, true)))
def Um (p1 : (List UInt8)) : Option (Int × Int × Bool) :=
  ((Jw p1 ([47] : List UInt8)).bind fun z6 => ((Ju z6.1).bind fun b => ((Ua z6.2.1).bind fun a => (cond (!z6.2.2) (Z3 b a true) (cond (!b.2) (Z3 b a true) (cond (!a.2) (Z3 b a true) (cond (decide (a.1 > 32)) (Z3 b a true) ((Yl b.1 a.1).bind fun c => (Z3 b a (!c))))))))))
set_option maxHeartbeats 40000000 in
theorem Di  (p1 : (List UInt8)) (w0 : World) (hL : Uj w0)  (r : (Int × Int × Bool)) (H : Um p1 = some r) :
  Calls Tryz.prog 165 #[(.string ⟨List.toArray p1⟩)] w0 (fun e w' => e = .returned (.tuple #[(.agg #[(.int .u32 r.1), (.int .i64 r.2.1)]), (.bool r.2.2)]) ∧ SP [] w0 w' []) := by
 unfold Um at H
 refine Qv (n := 52) Tryz.func165 K K K ?_
 have b0 := Q0 [] w0
 refine aQ ?_
 refine aR ?_
 refine iS 1 ?_
 refine Qi.alloc (t := 102) (z := (.agg #[(.int .u32 0), (.int .i64 0)])) (d := (some 2)) (k := 0) K rfl K b0 ?_
 intro g2 w3 b1
 refine iR 1 2 [(3, (.bool false))] ?_
 refine iF ?_
 refine aQ ?_
 refine aR ?_
 refine iR 1 1 [(12, (.string ⟨List.toArray p1⟩))] ?_
 obtain ⟨z6, b2, H⟩ := Qc H
 refine iS 2 ?_
 refine cF 137 #[(.tmp 12), (.const (.string ⟨List.toArray ([47] : List UInt8)⟩))] #[9, 9] 13 Tryz.call137 (R5  p1 ([47] : List UInt8) w3  z6 b2) ?_
 rintro e w8 ⟨rfl, a1⟩
 refine ⟨_, rfl, ?_⟩
 have a2 := SP.call b1 a1
 clear a1
 refine iR 7 9 [(11, (.tuple #[(.string ⟨List.toArray z6.1⟩), (.string ⟨List.toArray z6.2.1⟩), (.bool z6.2.2)])), (14, (.string ⟨List.toArray z6.1⟩)), (15, (.string ⟨List.toArray z6.2.1⟩)), (16, (.bool z6.2.2)), (4, (.string ⟨List.toArray z6.1⟩)), (5, (.string ⟨List.toArray z6.2.1⟩)), (6, (.bool z6.2.2))] ?_
 refine iF ?_
 refine aQ ?_
 refine aR ?_
 refine iR 1 1 [(18, (.string ⟨List.toArray z6.1⟩))] ?_
 obtain ⟨f, b3, H⟩ := Qc H
 refine iS 2 ?_
 refine cF 157 #[(.tmp 18)] #[9] 19 Tryz.call157 (R4  z6.1 w8 (Qz hL (SP.keeps a2)) f b3) ?_
 rintro e b4 ⟨rfl, a3⟩
 refine ⟨_, rfl, ?_⟩
 have a4 := SP.call a2 a3
 clear a3
 refine iR 5 7 [(17, (.tuple #[(.int .u32 f.1), (.bool f.2)])), (20, (.int .u32 f.1)), (21, (.bool f.2)), (7, (.int .u32 f.1)), (8, (.bool f.2))] ?_
 refine iF ?_
 refine aQ ?_
 refine aR ?_
 refine iR 1 1 [(23, (.string ⟨List.toArray z6.2.1⟩))] ?_
 obtain ⟨c, b5, H⟩ := Qc H
 refine iS 2 ?_
 refine cF 135 #[(.tmp 23)] #[9] 24 Tryz.call135 (Xt  z6.2.1 b4 (Qz hL (SP.keeps a4)) c b5) ?_
 rintro e b6 ⟨rfl, a5⟩
 refine ⟨_, rfl, ?_⟩
 have j := SP.call a4 a5
 clear a5
 refine iR 5 7 [(22, (.tuple #[(.int .i64 c.1), (.bool c.2)])), (25, (.int .i64 c.1)), (26, (.bool c.2)), (9, (.int .i64 c.1)), (10, (.bool c.2))] ?_
 refine iF ?_
 refine aQ ?_
 refine aQ ?_
 refine At.join (fun ρ w => ∃ (h : Bool), Zi ρ [(2, (pt g2 0)), (7, (.int .u32 f.1)), (9, (.int .i64 c.1)), (47, (.bool h))] ∧ SP [] w0 w [Qw g2 102 #[(.int .u32 0), (.int .i64 0)]] ∧ Z3 f c h = some r) ?_ ?_
 ·refine aR ?_
  refine iR 3 3 [(27, (.bool z6.2.2)), (28, (.bool (!z6.2.2))), (29, (.bool (!z6.2.2)))] ?_
  refine In.guard (t := 29) (b := (!z6.2.2)) K (fun p => ?_) (fun p => ?_)
  ·have H := ct H p
   refine iR 18 21 [(30, undef), (31, undef), (32, (.bool true)), (33, (.bool true)), (34, undef), (35, undef), (36, (.bool true)), (37, (.bool true)), (38, undef), (39, undef), (40, (.bool true)), (41, (.bool true)), (42, undef), (43, undef), (44, undef), (45, undef), (46, undef), (47, (.bool true))] ?_
   refine iF ?_
   exact ⟨true, ⟨K, K, K, K, trivial⟩, SP.sel j [0] rfl rfl, H⟩
  ·have H := cf H p
   refine iR 4 7 [(30, (.bool f.2)), (31, (.bool (!f.2))), (32, (.bool (!f.2))), (33, (.bool (!f.2)))] ?_
   refine In.guard (t := 33) (b := (!f.2)) K (fun q => ?_) (fun q => ?_)
   ·have H := ct H q
    refine iR 14 21 [(34, undef), (35, undef), (36, (.bool true)), (37, (.bool true)), (38, undef), (39, undef), (40, (.bool true)), (41, (.bool true)), (42, undef), (43, undef), (44, undef), (45, undef), (46, undef), (47, (.bool true))] ?_
    refine iF ?_
    exact ⟨true, ⟨K, K, K, K, trivial⟩, SP.sel j [0] rfl rfl, H⟩
   ·have H := cf H q
    refine iR 4 11 [(34, (.bool c.2)), (35, (.bool (!c.2))), (36, (.bool (!c.2))), (37, (.bool (!c.2)))] ?_
    refine In.guard (t := 37) (b := (!c.2)) K (fun s => ?_) (fun s => ?_)
    ·have H := ct H s
     refine iR 10 21 [(38, undef), (39, undef), (40, (.bool true)), (41, (.bool true)), (42, undef), (43, undef), (44, undef), (45, undef), (46, undef), (47, (.bool true))] ?_
     refine iF ?_
     exact ⟨true, ⟨K, K, K, K, trivial⟩, SP.sel j [0] rfl rfl, H⟩
    ·have H := cf H s
     refine iR 4 15 [(38, (.int .i64 c.1)), (39, (.bool (decide (c.1 > 32)))), (40, (.bool (decide (c.1 > 32)))), (41, (.bool (decide (c.1 > 32))))] ?_
     refine In.guard (t := 41) (b := (decide (c.1 > 32))) K (fun u => ?_) (fun u => ?_)
     ·have H := ct H u
      refine iR 6 21 [(42, undef), (43, undef), (44, undef), (45, undef), (46, undef), (47, (.bool true))] ?_
      refine iF ?_
      exact ⟨true, ⟨K, K, K, K, trivial⟩, SP.sel j [0] rfl rfl, H⟩
     ·have H := cf H u
      refine iR 3 18 [(42, (.int .u32 f.1)), (43, (.int .i64 c.1)), (44, (.agg #[(.int .u32 f.1), (.int .i64 c.1)]))] ?_
      obtain ⟨m, b7, H⟩ := Qc H
      refine iS 19 ?_
      refine cF 108 #[(.tmp 44)] #[102] 45 Tryz.call108 (Ux  f.1 c.1 b6  m b7) ?_
      rintro e b9 ⟨rfl, a6⟩
      refine ⟨_, rfl, ?_⟩
      have b8 := SP.call j a6
      clear a6
      refine iR 2 21 [(46, (.bool (!m))), (47, (.bool (!m)))] ?_
      refine iF ?_
      exact ⟨(!m), ⟨K, K, K, K, trivial⟩, SP.sel b8 [0] rfl rfl, H⟩
 ·rintro ρ c0 ⟨h, hk, a7, H⟩
  unfold Z3 at H
  first | refine At.known [(2, (pt g2 0)), (7, (.int .u32 f.1)), (9, (.int .i64 c.1)), (47, (.bool h))] hk ?_ | rw [← Q1 (l := [(2, (pt g2 0)), (7, (.int .u32 f.1)), (9, (.int .i64 c.1)), (47, (.bool h))]) hk]
  refine Xe K (o := (.tmp 47)) K (b := h) K (fun a0 => ?_) (fun a0 => ?_)
  ·have H := ct H a0
   refine aQ ?_
   refine aR ?_
   refine iR 1 1 [(48, (.agg #[(.int .u32 0), (.int .i64 0)]))] ?_
   refine iS 2 ?_
   refine Qi.store (t := 102) (x := (.tmp 2)) (y := (.tmp 48)) (g := g2) (off := 0) (i := 0) (v := (.agg #[(.int .u32 0), (.int .i64 0)])) (cs' := #[(.int .u32 0), (.int .i64 0)]) (d := none) (k := 1) K rfl K K a7 rfl K ?_
   intro c1 a8
   refine iR 1 3 [(3, (.bool false))] ?_
   refine iF ?_
   refine At.ret K ?_
   refine ⟨(.tuple #[(.agg #[(.int .u32 0), (.int .i64 0)]), (.bool false)]), Hx K (Dd (a := 2) (t := 102) (g := g2) (off := 0) K (SP.get a8 (i := 0) rfl) K) (Cm (t := 3) K), ?_⟩
   obtain rfl := Qf H
   exact ⟨rfl, SP.sel a8 [] rfl rfl⟩
  ·have H := cf H a0
   refine At.skip K ?_
   refine aQ ?_
   refine aR ?_
   refine iR 3 3 [(49, (.int .u32 f.1)), (50, (.int .i64 c.1)), (51, (.agg #[(.int .u32 f.1), (.int .i64 c.1)]))] ?_
   refine iS 4 ?_
   refine Qi.store (t := 102) (x := (.tmp 2)) (y := (.tmp 51)) (g := g2) (off := 0) (i := 0) (v := (.agg #[(.int .u32 f.1), (.int .i64 c.1)])) (cs' := #[(.int .u32 f.1), (.int .i64 c.1)]) (d := none) (k := 3) K rfl K K a7 rfl K ?_
   intro c2 a9
   refine iR 1 5 [(3, (.bool true))] ?_
   refine iF ?_
   refine At.ret K ?_
   refine ⟨(.tuple #[(.agg #[(.int .u32 f.1), (.int .i64 c.1)]), (.bool true)]), Hx K (Dd (a := 2) (t := 102) (g := g2) (off := 0) K (SP.get a9 (i := 0) rfl) K) (Cm (t := 3) K), ?_⟩
   obtain rfl := Qf H
   exact ⟨rfl, SP.sel a9 [] rfl rfl⟩
end Go.Proofs.YtoflbpmbkmephaaGreatDoor
namespace Go.Proofs.YtoflbpmbkmephaaGreatDoor
open Go.Lib (decDigits)
def Il (c : UInt8) (s : List UInt8) : List UInt8 × List UInt8 × Bool := if Lib.indexByte s c < 0 then (s, [], false) else (s.take (Lib.indexByte s c).toNat, s.drop ((Lib.indexByte s c).toNat + 1), true)
theorem lCut (c : UInt8) (s : List UInt8) (hs : s.length ≤ 9000) : Jw s [c] = some (Il c s) := by
  unfold Jw Zu Vy Il
  simp only [Option.bind_some]
  rcases Jt c s with ⟨h1, _, _⟩ | ⟨i, h1, h2, _, _, _⟩
  · rw [h1]; rfl
  · rw [h1, show decide ((i : Int) ≥ 0) = true by simp, if_neg (by omega), Int.toNat_natCast]
    have w : IntKind.wrap .i64 ((i : Int) + ((List.length [c] : Nat) : Int)) = ((i + 1 : Nat) : Int) := by simp only [List.length_cons, List.length_nil]; rw [Yr (by omega)]; omega
    have s1 : sub s 0 ((i : Nat) : Int) = some (s.take i) := Gr s (i := 0) (j := i) (by omega) (by omega)
    have s2 : sub s ((i + 1 : Nat) : Int) ((s.length : Nat) : Int) = some (s.drop (i + 1)) := by rw [Gr s (by omega) (Nat.le_refl _), List.take_length]
    rw [w]
    simp only [cond_true, s1, s2, Option.bind_some]
def finA (st : Option (Nat × Nat)) : Option Nat := match st with | none => none | some (a, m) => if m = 4 then some a else none
theorem addrL_fin (s : List UInt8) : Nu s = finA ((Qk 46 s).foldl Z8 (some (0, 0))) := rfl
theorem lAddr (s : List UInt8) (hs : s.length ≤ 9000) : Ju s = some (addrD (Nu s)) := by
  unfold Ju
  rw [Nat.ble_eq_true_of_le (by omega)]
  rfl
theorem Hj {s : List UInt8} {a : Nat} (h : Nu s = some a) : a < 4294967296 := by
  unfold Nu at h
  cases hst : U2 (Qk 46 s) with
  | none => rw [hst] at h; cases h
  | some x =>
    obtain ⟨b, m⟩ := x
    rw [hst] at h
    simp only at h
    by_cases hm : m = 4
    · rw [if_pos hm] at h
      injection h with h
      subst h
      have := (Fd hst).2
      rw [hm] at this
      have h6 : (256 : Nat) ^ 4 = 4294967296 := by decide
      omega
    · rw [if_neg hm] at h; cases h
def netL (s : List UInt8) : Option (Nat × Nat) :=
  match (Il 47 s).2.2, Nu (Il 47 s).1, Vw (Il 47 s).2.1 with
  | true, some a, some n => if n ≤ 32 ∧ Gf a (n : Int) = true then some (a, n) else none
  | _, _, _ => none
def netD (x : Option (Nat × Nat)) : Int × Int × Bool := match x with | none => (0, 0, false) | some (a, n) => ((a : Int), (n : Int), true)
theorem cutL_len (c : UInt8) (s : List UInt8) : (Il c s).1.length ≤ s.length ∧ (Il c s).2.1.length ≤ s.length := by
  unfold Il
  split
  · simp
  · simp only [List.length_take, List.length_drop]; omega
theorem lNet (s : List UInt8) (hs : s.length ≤ 9000) : Um s = some (netD (netL s)) := by
  have hl := cutL_len 47 s
  unfold Um netL Z3
  rw [lCut 47 s hs]
  simp only [Option.bind_some]
  generalize Il 47 s = z at hl ⊢
  obtain ⟨x, y, b⟩ := z
  simp only at hl
  rw [lAddr x (by omega), lParse y (by omega)]
  simp only [Option.bind_some]
  cases b with
  | false => rfl
  | true =>
    rcases Option.eq_none_or_eq_some (Nu x) with hx | ⟨a, hx⟩
    · rw [show (addrD (Nu x)).2 = false by rw [hx]; rfl, hx]; rfl
    · rw [show (addrD (Nu x)).2 = true by rw [hx]; rfl, show (addrD (Nu x)).1 = (a : Int) by rw [hx]; rfl, hx]
      rcases Option.eq_none_or_eq_some (Vw y) with hy | ⟨n, hy⟩
      · rw [show (U0 (Vw y)).2 = false by rw [hy]; rfl, hy]; rfl
      · rw [show decide ((U0 (Vw y)).1 > 32) = decide (32 < n) by rw [decide_eq_decide, hy]; show ((n : Int) > 32) ↔ _; omega, show (U0 (Vw y)).2 = true by rw [hy]; rfl, show (U0 (Vw y)).1 = (n : Int) by rw [hy]; rfl, hy]
        simp only [Bool.not_true, cond_false]
        by_cases hn : n ≤ 32
        · rw [decide_eq_false (by omega : ¬ 32 < n), lRight a (Hj hx)]
          simp only [cond_false, Option.bind_some]
          cases hr : Gf a (n : Int) with
          | true => rw [if_pos ⟨hn, rfl⟩]; rfl
          | false => rw [if_neg (by rintro ⟨_, h⟩; cases h)]; rfl
        · rw [decide_eq_true (by omega : 32 < n), if_neg (fun h => hn h.1)]
          rfl
theorem Dj (c : UInt8) : ∀ (x r : List UInt8), c ∉ x → Qk c (x ++ c :: r) = x :: Qk c r
  | [], r, _ => by simp [Qk]
  | y :: x, r, h => by
    have hy : y ≠ c := fun e => h (by simp [e])
    have ih := Dj c x r (fun hm => h (by simp [hm]))
    rw [List.cons_append]
    conv => lhs; unfold Qk
    rw [if_neg hy, ih]
def B9 (c : UInt8) : List (List UInt8) → List UInt8
  | [] => []
  | [p] => p
  | p :: q :: ps => p ++ c :: B9 c (q :: ps)
theorem G4 (c : UInt8) : ∀ s : List UInt8, B9 c (Qk c s) = s
  | [] => rfl
  | x :: r => by
    have ih := G4 c r
    unfold Qk
    by_cases h : x = c
    · rw [if_pos h]
      cases hs : Qk c r with
      | nil => exact absurd hs (Xm c r)
      | cons p ps => rw [hs] at ih; show [] ++ c :: B9 c (p :: ps) = _; rw [ih, h]; rfl
    · rw [if_neg h]
      cases hs : Qk c r with
      | nil => exact absurd hs (Xm c r)
      | cons p ps =>
        rw [hs] at ih
        simp only
        cases ps with
        | nil => rw [← ih]; rfl
        | cons q qs => rw [← ih]; rfl
theorem R6 {st : Option (Nat × Nat)} {p : List UInt8} {a m : Nat} (h : Z8 st p = some (a, m)) : ∃ a0 n, st = some (a0, m - 1) ∧ 1 ≤ m ∧ Vw p = some n ∧ n ≤ 255 ∧ a = a0 * 256 + n := by
  unfold Z8 at h
  cases st with
  | none => cases h
  | some x =>
    obtain ⟨a0, m0⟩ := x
    simp only at h
    cases hp : Vw p with
    | none => rw [hp] at h; cases h
    | some n =>
      rw [hp] at h
      simp only at h
      by_cases hc : 255 < n ∨ 4 ≤ m0
      · rw [if_pos hc] at h; cases h
      · rw [if_neg hc] at h
        injection h with h
        injection h with h1 h2
        exact ⟨a0, n, by rw [← h2]; rfl, by omega, rfl, by omega, h1.symm⟩
theorem Cs : ∀ (ps : List (List UInt8)) (a0 m0 a m : Nat), ps.foldl Z8 (some (a0, m0)) = some (a, m) → m = m0 + ps.length
  | [], a0, m0, a, m, h => by simp only [List.foldl_nil, Option.some.injEq, Prod.mk.injEq] at h; rw [List.length_nil]; omega
  | p :: ps, a0, m0, a, m, h => by
    rw [List.foldl_cons] at h
    cases hs : Z8 (some (a0, m0)) p with
    | none => rw [hs, Ur] at h; cases h
    | some x =>
      obtain ⟨a1, m1⟩ := x
      rw [hs] at h
      have := Cs ps a1 m1 a m h
      obtain ⟨a2, n, h1, h2, _⟩ := R6 hs
      injection h1 with h1
      injection h1 with _ h1
      rw [List.length_cons]
      omega
theorem dots_addr {s : List UInt8} {a : Nat} (h : Nu s = some a) : B7 a = s := by
  rw [addrL_fin] at h
  cases hst : (Qk 46 s).foldl Z8 (some (0, 0)) with
  | none => rw [hst] at h; cases h
  | some x =>
    obtain ⟨b, m⟩ := x
    rw [hst] at h
    simp only [finA] at h
    by_cases hm : m = 4
    · rw [if_pos hm] at h
      injection h with h
      subst h hm
      have hlen := Cs _ _ _ _ _ hst
      have hj := G4 46 s
      generalize Qk 46 s = ps at hst hlen hj
      match ps, hlen with
      | [p0, p1, p2, p3], _ =>
        simp only [List.foldl_cons, List.foldl_nil] at hst
        obtain ⟨a3, n3, h3, _, e3, l3, v3⟩ := R6 hst
        obtain ⟨a2, n2, h2, _, e2, l2, v2⟩ := R6 h3
        obtain ⟨a1, n1, h1, _, e1, l1, v1⟩ := R6 h2
        obtain ⟨a0, n0, h0, _, e0, l0, v0⟩ := R6 h1
        injection h0 with h0
        injection h0 with h0 _
        have q0 := (Nq e0).1
        have q1 := (Nq e1).1
        have q2 := (Nq e2).1
        have q3 := (Nq e3).1
        rw [← hj]
        show B7 b = p0 ++ 46 :: (p1 ++ 46 :: (p2 ++ 46 :: p3))
        unfold B7
        rw [show b / 16777216 % 256 = n0 by omega, show b / 65536 % 256 = n1 by omega, show b / 256 % 256 = n2 by omega, show b % 256 = n3 by omega, q0, q1, q2, q3]
    · rw [if_neg hm] at h; cases h
theorem cutL_true {c : UInt8} {s x y : List UInt8} (h : Il c s = (x, y, true)) : s = x ++ c :: y := by
  unfold Il at h
  rcases Jt c s with ⟨h1, _, _⟩ | ⟨i, h1, h2, h3, _, _⟩
  · rw [h1, if_pos (by omega)] at h
    simp at h
  · rw [h1, if_neg (by omega), Int.toNat_natCast] at h
    injection h with hx h
    injection h with hy _
    subst hx hy
    have hc : s[i] = c := by rw [List.getElem?_eq_getElem h2] at h3; exact Option.some.inj h3
    rw [← hc, ← List.drop_eq_getElem_cons h2, List.take_append_drop]
theorem Fe {s : List UInt8} {a n : Nat} (h : netL s = some (a, n)) : Bm a (n : Int) = s ∧ (47 : UInt8) ∈ s ∧ a < 4294967296 := by
  unfold netL at h
  cases hz : Il 47 s with
  | mk x yb =>
    obtain ⟨y, b⟩ := yb
    rw [hz] at h
    simp only at h
    cases b with
    | false => cases h
    | true =>
      have hs := cutL_true hz
      cases hx : Nu x with
      | none => rw [hx] at h; cases h
      | some a' =>
        cases hy : Vw y with
        | none => rw [hx, hy] at h; cases h
        | some n' =>
          rw [hx, hy] at h
          simp only at h
          by_cases hc : n' ≤ 32 ∧ Gf a' (n' : Int) = true
          · rw [if_pos hc] at h
            injection h with h
            injection h with h1 h2
            subst h1 h2
            refine ⟨?_, by rw [hs]; simp, Hj hx⟩
            unfold Bm
            rw [hc.2, Int.toNat_natCast, dots_addr hx, (Nq hy).1, ← hs]
          · rw [if_neg hc] at h; cases h
end Go.Proofs.YtoflbpmbkmephaaGreatDoor
namespace Go.Proofs.YtoflbpmbkmephaaGreatDoor
open Go.RowKit
def U4 (e : (List UInt8) → Int → Option ((List UInt8))) (p1 : (List UInt8)) (b : (List UInt8)) (a : Int) : Option ((List UInt8)) :=
  (cond (decide (a < ((List.length p1 : Nat) : Int))) ((idx p1 a).bind fun c => ((idx ([48, 49, 50, 51, 52, 53, 54, 55, 56, 57, 97, 98, 99, 100, 101, 102] : List UInt8) (Hw .u8 ((c).toNat : Int) 4)).bind fun f => ((idx ([48, 49, 50, 51, 52, 53, 54, 55, 56, 57, 97, 98, 99, 100, 101, 102] : List UInt8) (bAnd .u8 ((c).toNat : Int) 15)).bind fun g => ((idx b (IntKind.wrap .i64 (2 * a))).bind fun i => ((some (List.set b (Int.toNat (IntKind.wrap .i64 (2 * a))) f)).bind fun d => ((idx d (IntKind.wrap .i64 ((IntKind.wrap .i64 (2 * a)) + 1))).bind fun j => ((some (List.set d (Int.toNat (IntKind.wrap .i64 ((IntKind.wrap .i64 (2 * a)) + 1))) g)).bind fun h => (e h (IntKind.wrap .i64 (a + 1)))))))))) (some (b)))
def Jy (p1 : (List UInt8)) : Nat → (List UInt8) → Int → Option ((List UInt8))
  | 0, _, _ => none
  | f + 1, a, b => U4  (Jy p1 f) p1 a b
def Gw (p1 : (List UInt8)) : Option ((List UInt8)) :=
  ((chk (decide (0 ≤ (IntKind.wrap .i64 (2 * ((List.length p1 : Nat) : Int))) ∧ (IntKind.wrap .i64 (2 * ((List.length p1 : Nat) : Int))) ≤ 2147483648))).bind fun _ => ((some (List.replicate (Int.toNat (IntKind.wrap .i64 (2 * ((List.length p1 : Nat) : Int)))) ((0 : UInt8) : UInt8))).bind fun l5 => (Jy p1 J5 l5 0)))
set_option maxHeartbeats 40000000 in
theorem Dk (A2 : Option Addr) (c3 : Nat) (p1 : (List UInt8)) (w0 : World) (a7 : RdT eU8 w0 A2 c3 p1) (r : ((List UInt8))) (H : Gw p1 = some r) :
  Calls Tryz.prog 61 #[(.slice A2 (List.length p1) c3)] w0 (fun e w' => e = .returned (.string ⟨List.toArray r⟩) ∧ SP [] w0 w' []) := by
 unfold Gw at H
 refine Qv (n := 35) Tryz.func61 K K K ?_
 have b8 := Q0 [] w0
 refine aQ ?_
 refine aR ?_
 refine iR 1 1 [(2, (.string ⟨List.toArray ([] : List UInt8)⟩))] ?_
 refine iF ?_
 refine aQ ?_
 refine aR ?_
 refine iR 3 3 [(6, (.slice A2 (List.length p1) c3)), (7, (.int .i64 ((List.length p1 : Nat) : Int))), (8, (.int .i64 (IntKind.wrap .i64 (2 * ((List.length p1 : Nat) : Int)))))] ?_
 obtain ⟨hl6, H⟩ := Nd H
 obtain ⟨l5, hyl5, H⟩ := V5 H
 refine iS 4 ?_
 refine Bo (e := eU8) (l' := l5) (z := (0 : UInt8)) (v := (.int .u8 0)) (b := 1) (T := 48) (E := 5) (x := (.tmp 8)) (y := (.tmp 8)) (k1 := .i64) (k2 := .i64) (iz := (IntKind.wrap .i64 (2 * ((List.length p1 : Nat) : Int)))) (d := (some 9)) (k := 3) K rfl K K K K K rfl rfl rfl hl6 b8 hyl5 ?_
 intro g7 w8 a8 f0
 have b9 : SP [] w0 w8 [Q7 5 eU8 (some ⟨g7, 0, none⟩) (Int.toNat (IntKind.wrap .i64 (2 * ((List.length p1 : Nat) : Int)))) l5] := a8
 clear a8
 refine iR 1 5 [(3, (.slice (some ⟨g7, 0, none⟩) (List.length l5) (Int.toNat (IntKind.wrap .i64 (2 * ((List.length p1 : Nat) : Int))))))] ?_
 refine iF ?_
 refine aQ ?_
 refine aQ ?_
 refine aR ?_
 refine iR 3 3 [(10, (.slice A2 (List.length p1) c3)), (11, (.int .i64 ((List.length p1 : Nat) : Int))), (12, (.int .i64 0))] ?_
 refine iF ?_
 refine Jk K (id := 0) K ?_
 refine Rj K (fun f1 ρ w => ∃ (m : (List UInt8)) (f : Int) (g : Option Addr) (h : Nat), Zi ρ [(3, (.slice g (List.length m) h)), (10, (.slice A2 (List.length p1) c3)), (11, (.int .i64 ((List.length p1 : Nat) : Int))), (12, (.int .i64 f))] ∧ SP [] w0 w [Q7 5 eU8 g h m] ∧ Jy p1 f1 m f = some r) (by rintro ρ w ⟨m, f, g, h, hk, hs, H⟩; cases H) ?_ J5 ?_
 ·rintro f1 ρ f2 ⟨m, f, g, h, hk, a1, H⟩
  refine At.known [(3, (.slice g (List.length m) h)), (10, (.slice A2 (List.length p1) c3)), (11, (.int .i64 ((List.length p1 : Nat) : Int))), (12, (.int .i64 f))] hk ?_
  replace H := (show U4 (Jy p1 f1) p1 m f = some r from H)
  unfold U4 at H
  refine aQ ?_
  refine aR ?_
  refine iR 1 1 [(13, (.bool (decide (f < ((List.length p1 : Nat) : Int)))))] ?_
  refine iF ?_
  refine aQ ?_
  refine Xe K (o := (.tmp 13)) K (b := (decide (f < ((List.length p1 : Nat) : Int)))) K (fun a5 => ?_) (fun a5 => ?_)
  ·have H := ct H a5
   refine At.skip K ?_
   refine aQ ?_
   refine Jk K (id := 1) K ?_
   refine aQ ?_
   refine aR ?_
   refine iR 1 1 [(14, (.int .i64 f))] ?_
   obtain ⟨q, a9, b0, c0, H⟩ := Vk H
   refine iS 2 ?_
   refine Ql (e := eU8) (l := p1) (A := A2) (c := c3) (T := 48) (E := 5) (x := (.tmp 10)) (ix := (.tmp 12)) (ki := .i64) (iz := f) (d := (some 15)) (k := 1) K rfl K K K K (RdT.sp a7 a1) a9 b0 ?_
   intro c1 c2 c4 f3 hc321
   refine iS 3 ?_
   refine sC 5 15 c1 (c2 + Int.toNat f * eU8.sz) (.int .u8 ((q).toNat : Int)) 16 (Qy (e := eU8) (Qm (RdT.sp a7 a1) c4 a9 b0) c0 (j := 0) rfl) ?_
   refine iR 2 5 [(4, (.int .i64 f)), (5, (.int .u8 ((q).toNat : Int)))] ?_
   refine iF ?_
   obtain ⟨a4, c5, f4, c6, H⟩ := Vk H
   obtain ⟨a2, b1, f5, b2, H⟩ := Vk H
   obtain ⟨f6, b3, b4, f7, H⟩ := Vk H
   obtain ⟨a0, hyl341, H⟩ := V5 H
   have hnl341 : List.length a0 = List.length m := by rw [← hyl341, List.length_set]
   obtain ⟨f8, b5, b6, f9, H⟩ := Vk H
   obtain ⟨a3, hyl354, H⟩ := V5 H
   have hnl354 : List.length a3 = List.length a0 := by rw [← hyl354, List.length_set]
   refine aG [GEq (.slice g (List.length m) h), GEq (.int .i64 f), GEq (.int .i64 (IntKind.wrap .i64 (2 * f))), GEq (.slice g (List.length m) h), GEq (.int .i64 f), GEq (.int .i64 (IntKind.wrap .i64 (2 * f))), GEq (.int .i64 (IntKind.wrap .i64 ((IntKind.wrap .i64 (2 * f)) + 1))), GEq (.int .u8 ((q).toNat : Int)), GEq (.int .u8 (Hw .u8 ((q).toNat : Int) 4)), GEq (.int .u8 ((a4).toNat : Int)), GEq (.int .u8 ((q).toNat : Int)), GEq (.int .u8 (bAnd .u8 ((q).toNat : Int) 15)), GEq (.int .u8 ((a2).toNat : Int)), Ja g eU8.sz (IntKind.wrap .i64 (2 * f)), G5, Ja g eU8.sz (IntKind.wrap .i64 ((IntKind.wrap .i64 (2 * f)) + 1)), G5] [14, 16] [sG [] [] [] w0 [Q7 5 eU8 g h m], sG [14] [undef] [] w0 [Q7 5 eU8 g h a0], sG [14, 16] [undef, undef] [] w0 [Q7 5 eU8 g h a3]] 17 2 ⟨trivial, SP.drew a1⟩ ?_ ?_
   iterate 17 refine And.intro ?_ ?_
   exact trivial
   ·exact oV (hC (hS 3 (.slice g (List.length m) h)) (h0)) (.slice g (List.length m) h)
   ·exact oV (hC (hS 4 (.int .i64 f)) (h0)) (.int .i64 f)
   ·exact oV (hC (hA 1 18) (h0)) (.int .i64 (IntKind.wrap .i64 (2 * f)))
   ·exact oV (hC (hS 3 (.slice g (List.length m) h)) (h0)) (.slice g (List.length m) h)
   ·exact oV (hC (hS 4 (.int .i64 f)) (h0)) (.int .i64 f)
   ·exact oV (hC (hA 4 21) (h0)) (.int .i64 (IntKind.wrap .i64 (2 * f)))
   ·exact oV (hC (hA 5 22) (h0)) (.int .i64 (IntKind.wrap .i64 ((IntKind.wrap .i64 (2 * f)) + 1)))
   ·exact oV (hC (hS 5 (.int .u8 ((q).toNat : Int))) (h0)) (.int .u8 ((q).toNat : Int))
   ·exact oV (hC (hA 7 24) (h0)) (.int .u8 (Hw .u8 ((q).toNat : Int) 4))
   ·refine oL 0 ?_
    ·rintro ρ' w' hs p ⟨g0, g1⟩
     refine kM (kc (kA p 8 25) k0) fun s => ?_
     refine Yw (a := ([48, 49, 50, 51, 52, 53, 54, 55, 56, 57, 97, 98, 99, 100, 101, 102] : List UInt8)) (u := a4) (T := 9) (x := (.const (.string ⟨List.toArray ([48, 49, 50, 51, 52, 53, 54, 55, 56, 57, 97, 98, 99, 100, 101, 102] : List UInt8)⟩))) (ix := (.tmp 25)) (ki := .u8) (iz := (Hw .u8 ((q).toNat : Int) 4)) (d := (some 26)) (k := 9) K rfl K K K c5 c6 ?_
     exact eK s
   ·exact oV (hC (hS 5 (.int .u8 ((q).toNat : Int))) (h0)) (.int .u8 ((q).toNat : Int))
   ·exact oV (hC (hA 10 27) (h0)) (.int .u8 (bAnd .u8 ((q).toNat : Int) 15))
   ·refine Owe.light K [0, 1] K (Qb ?_ (Qb ?_ Q8))
    ·rintro ρ' w' hs p ⟨g2, g3⟩
     refine kM (kc (kA p 11 28) k0) fun s => ?_
     refine Yw (a := ([48, 49, 50, 51, 52, 53, 54, 55, 56, 57, 97, 98, 99, 100, 101, 102] : List UInt8)) (u := a2) (T := 9) (x := (.const (.string ⟨List.toArray ([48, 49, 50, 51, 52, 53, 54, 55, 56, 57, 97, 98, 99, 100, 101, 102] : List UInt8)⟩))) (ix := (.tmp 28)) (ki := .u8) (iz := (bAnd .u8 ((q).toNat : Int) 15)) (d := (some 29)) (k := 12) K rfl K K K b1 b2 ?_
     exact eK s
    ·rintro ρ' w' hs p ⟨⟨g4, -⟩, g5⟩
     refine kM (kc (kA p 11 28) k0) fun s => ?_
     refine Yw (a := ([48, 49, 50, 51, 52, 53, 54, 55, 56, 57, 97, 98, 99, 100, 101, 102] : List UInt8)) (u := a2) (T := 9) (x := (.const (.string ⟨List.toArray ([48, 49, 50, 51, 52, 53, 54, 55, 56, 57, 97, 98, 99, 100, 101, 102] : List UInt8)⟩))) (ix := (.tmp 28)) (ki := .u8) (iz := (bAnd .u8 ((q).toNat : Int) 15)) (d := (some 29)) (k := 12) K rfl K K K b1 b2 ?_
     exact eK s
   ·refine oL 0 ?_
    ·rintro ρ' w' hs p ⟨g6, c7⟩
     refine kM (kc (kA p 0 17) (kc (kA p 2 19) k0)) fun s => ?_
     refine Ql (e := eU8) (l := m) (A := g) (c := h) (T := 48) (E := 5) (x := (.tmp 17)) (ix := (.tmp 19)) (ki := .i64) (iz := (IntKind.wrap .i64 (2 * f))) (d := (some 30)) (k := 13) K rfl K K K K (Vl (SP.get c7 (i := 0) rfl)) b3 b4 ?_
     intro c8 c9 d0 g8 hc378
     exact ⟨rfl, _, Qa s, ⟨c8, c9, d0, rfl⟩⟩
   ·refine oH 0 1 ?_
    ·rintro ρ' w' hs p ⟨g9, d1⟩
     obtain ⟨d2, d3, d4, d5⟩ := p 13 30 K
     refine kM (kc d5 (kc (kA p 9 26) k0)) fun s => ?_
     refine Y9 (e := eU8) (t := 5) (E := 5) (x := (.tmp 30)) (y := (.tmp 26)) (A := g) (c := h) (l := m) (iz := (IntKind.wrap .i64 (2 * f))) (b := d2) (off := d3) (i := 0) (v := (.int .u8 ((a4).toNat : Int))) (x' := a4) (d := none) (k := 14) K rfl K K d1 rfl d4 rfl b4 b3 rfl K ?_
     rw [hyl341]
     intro h1 d6
     refine ⟨_, Qa s, trivial, ?_⟩
     exact (And.intro (And.intro rfl (trivial)) d6)
   ·refine oL 1 ?_
    ·rintro ρ' w' hs p ⟨⟨h2, -⟩, d7⟩
     have a6 := p 3 20 K
     replace a6 : ρ' 20 = (.slice g (List.length a0) h) := by rw [hnl341]; exact a6
     refine kM (kc a6 (kc (kA p 6 23) k0)) fun s => ?_
     refine Ql (e := eU8) (l := a0) (A := g) (c := h) (T := 48) (E := 5) (x := (.tmp 20)) (ix := (.tmp 23)) (ki := .i64) (iz := (IntKind.wrap .i64 ((IntKind.wrap .i64 (2 * f)) + 1))) (d := (some 31)) (k := 15) K rfl K K K K (Vl (SP.get d7 (i := 0) rfl)) b5 b6 ?_
     intro d8 d9 e0 h3 hc394
     exact ⟨rfl, _, Qa s, ⟨d8, d9, e0, rfl⟩⟩
   ·refine oH 1 2 ?_
    ·rintro ρ' w' hs p ⟨⟨e1, -⟩, e2⟩
     obtain ⟨e4, e5, e6, e7⟩ := p 15 31 K
     refine kM (kc e7 (kc (kA p 12 29) k0)) fun s => ?_
     refine Y9 (e := eU8) (t := 5) (E := 5) (x := (.tmp 31)) (y := (.tmp 29)) (A := g) (c := h) (l := a0) (iz := (IntKind.wrap .i64 ((IntKind.wrap .i64 (2 * f)) + 1))) (b := e4) (off := e5) (i := 0) (v := (.int .u8 ((a2).toNat : Int))) (x' := a2) (d := none) (k := 16) K rfl K K e2 rfl e6 rfl b6 b5 rfl K ?_
     rw [hyl354]
     intro h4 e8
     refine ⟨_, Qa s, trivial, ?_⟩
     exact (And.intro (And.intro e1 (And.intro rfl (trivial))) e8)
   ·rintro ρ' w' hs hf ⟨⟨h5, h6, -⟩, b7⟩
    have e3 : ρ' 3 = (.slice g (List.length m) h) := (hs 3 K).trans K
    replace e3 : ρ' 3 = (.slice g (List.length a3) h) := by rw [hnl354, hnl341]; exact e3
    refine V7 [(3, (.slice g (List.length a3) h)), (10, (.slice A2 (List.length p1) c3)), (11, (.int .i64 ((List.length p1 : Nat) : Int))), (12, (.int .i64 f))] ⟨e3, (hs 10 K).trans K, (hs 11 K).trans K, (hs 12 K).trans K, trivial⟩ ?_
    obtain ⟨h7, e9⟩ : ∃ x, w' = x := ⟨_, rfl⟩
    rw [e9] at b7 ⊢
    refine aR ?_
    refine iR 2 2 [(32, (.int .i64 (IntKind.wrap .i64 (f + 1)))), (12, (.int .i64 (IntKind.wrap .i64 (f + 1))))] ?_
    refine iF ?_
    exact ⟨a3, (IntKind.wrap .i64 (f + 1)), g, h, ⟨K, K, K, K, trivial⟩, SP.sel b7 [0] rfl rfl, H⟩
  ·have H := cf H a5
   refine At.exit K (id := 0) K ?_
   refine aQ ?_
   refine aR ?_
   refine iR 1 1 [(33, (.slice g (List.length m) h))] ?_
   refine iS 2 ?_
   refine Nn (T := 48) (S' := 9) (E := 5) (x := (.tmp 33)) (A := g) (c := h) (l := m) (d := (some 34)) (k := 1) K rfl K K K K (Vl (SP.get a1 (i := 0) rfl)) ?_
   refine iR 1 3 [(2, (.string ⟨List.toArray m⟩))] ?_
   refine iF ?_
   refine At.ret K ?_
   refine ⟨(.string ⟨List.toArray m⟩), K, ?_⟩
   obtain rfl := Qf H
   exact ⟨rfl, SP.sel a1 [] rfl rfl⟩
 ·exact ⟨l5, 0, (some ⟨g7, 0, none⟩), (Int.toNat (IntKind.wrap .i64 (2 * ((List.length p1 : Nat) : Int)))), ⟨K, K, K, K, trivial⟩, SP.sel b9 [0] rfl rfl, H⟩
def V2 (d : (List UInt8) → Int → Option ((List UInt8) × Bool)) (p1 : (List UInt8)) (b : (List UInt8)) (a : Int) : Option ((List UInt8) × Bool) :=
  (cond (decide (a < ((List.length p1 : Nat) : Int))) ((idx p1 a).bind fun e => ((Xl ([48, 49, 50, 51, 52, 53, 54, 55, 56, 57, 97, 98, 99, 100, 101, 102] : List UInt8) e).bind fun c => (cond (decide (c < 0)) (some (([] : List UInt8), false)) ((idx b (IntKind.wrap .i64 (Int.tdiv a 2))).bind fun f => ((idx b (IntKind.wrap .i64 (Int.tdiv a 2))).bind fun h => ((some (List.set b (Int.toNat (IntKind.wrap .i64 (Int.tdiv a 2))) (toU8 (bOr .u8 (El .u8 ((f).toNat : Int) 4) (IntKind.wrap .u8 c))))).bind fun g => (d g (IntKind.wrap .i64 (a + 1))))))))) (some (b, true)))
def Zf (p1 : (List UInt8)) : Nat → (List UInt8) → Int → Option ((List UInt8) × Bool)
  | 0, _, _ => none
  | f + 1, a, b => V2  (Zf p1 f) p1 a b
def Jf (p1 : (List UInt8)) : Option ((List UInt8) × Bool) :=
  (cond (decide ((Int.tmod ((List.length p1 : Nat) : Int) 2) > 0)) (some (([] : List UInt8), false)) ((chk (decide (0 ≤ (IntKind.wrap .i64 (Int.tdiv ((List.length p1 : Nat) : Int) 2)) ∧ (IntKind.wrap .i64 (Int.tdiv ((List.length p1 : Nat) : Int) 2)) ≤ 2147483648))).bind fun _ => ((some (List.replicate (Int.toNat (IntKind.wrap .i64 (Int.tdiv ((List.length p1 : Nat) : Int) 2))) ((0 : UInt8) : UInt8))).bind fun l7 => (Zf p1 J5 l7 0))))
set_option maxHeartbeats 40000000 in
theorem Rq  (p1 : (List UInt8)) (w0 : World)  (r : ((List UInt8) × Bool)) (H : Jf p1 = some r) :
  Calls Tryz.prog 161 #[(.string ⟨List.toArray p1⟩)] w0 (fun e w' => ∃ (A2 : Option Addr) (c3 : Nat), e = .returned (.tuple #[(.slice A2 (List.length r.1) c3), (.bool r.2)]) ∧ SP [] w0 w' [Q7 5 eU8 A2 c3 r.1]) := by
 unfold Jf at H
 refine Qv (n := 41) Tryz.func161 K K K ?_
 have a4 := Q0 [] w0
 refine aQ ?_
 refine aR ?_
 refine iR 2 2 [(2, (.slice none (List.length ([] : List UInt8)) 0)), (3, (.bool false))] ?_
 refine iF ?_
 refine aQ ?_
 refine aQ ?_
 refine aR ?_
 refine iR 4 4 [(7, (.string ⟨List.toArray p1⟩)), (8, (.int .i64 ((List.length p1 : Nat) : Int))), (9, (.int .i64 (Int.tmod ((List.length p1 : Nat) : Int) 2))), (10, (.bool (decide ((Int.tmod ((List.length p1 : Nat) : Int) 2) > 0))))] ?_
 refine iF ?_
 refine Xe K (o := (.tmp 10)) K (b := (decide ((Int.tmod ((List.length p1 : Nat) : Int) 2) > 0))) K (fun a1 => ?_) (fun a1 => ?_)
 ·have H := ct H a1
  refine aQ ?_
  refine aR ?_
  refine iR 2 2 [(2, (.slice none (List.length ([] : List UInt8)) 0)), (3, (.bool false))] ?_
  refine iF ?_
  refine At.ret K ?_
  have b3 : SP [] w0 w0 [Q7 5 eU8 none 0 ([] : List UInt8)] := Uu a4 5 eU8
  refine ⟨(.tuple #[(.slice none (List.length ([] : List UInt8)) 0), (.bool false)]), K, ?_⟩
  obtain rfl := Qf H
  exact ⟨none, 0, rfl, SP.sel b3 [0] rfl rfl⟩
 ·have H := cf H a1
  refine At.skip K ?_
  refine aQ ?_
  refine aR ?_
  refine iR 3 3 [(11, (.string ⟨List.toArray p1⟩)), (12, (.int .i64 ((List.length p1 : Nat) : Int))), (13, (.int .i64 (IntKind.wrap .i64 (Int.tdiv ((List.length p1 : Nat) : Int) 2))))] ?_
  obtain ⟨hl8, H⟩ := Nd H
  obtain ⟨l7, hyl7, H⟩ := V5 H
  refine iS 4 ?_
  refine Bo (e := eU8) (l' := l7) (z := (0 : UInt8)) (v := (.int .u8 0)) (b := 1) (T := 48) (E := 5) (x := (.tmp 13)) (y := (.tmp 13)) (k1 := .i64) (k2 := .i64) (iz := (IntKind.wrap .i64 (Int.tdiv ((List.length p1 : Nat) : Int) 2))) (d := (some 14)) (k := 3) K rfl K K K K K rfl rfl rfl hl8 a4 hyl7 ?_
  intro g9 b4 a5 d1
  have b5 : SP [] w0 b4 [Q7 5 eU8 (some ⟨g9, 0, none⟩) (Int.toNat (IntKind.wrap .i64 (Int.tdiv ((List.length p1 : Nat) : Int) 2))) l7] := a5
  clear a5
  refine iR 1 5 [(4, (.slice (some ⟨g9, 0, none⟩) (List.length l7) (Int.toNat (IntKind.wrap .i64 (Int.tdiv ((List.length p1 : Nat) : Int) 2)))))] ?_
  refine iF ?_
  refine aQ ?_
  refine aQ ?_
  refine aR ?_
  refine iR 3 3 [(15, (.string ⟨List.toArray p1⟩)), (16, (.int .i64 ((List.length p1 : Nat) : Int))), (17, (.int .i64 0))] ?_
  refine iF ?_
  refine Jk K (id := 0) K ?_
  refine Rj K (fun f1 ρ w => ∃ (m : (List UInt8)) (f : Int) (g : Option Addr) (h : Nat), Zi ρ [(0, (.string ⟨List.toArray p1⟩)), (4, (.slice g (List.length m) h)), (16, (.int .i64 ((List.length p1 : Nat) : Int))), (17, (.int .i64 f))] ∧ SP [] w0 w [Q7 5 eU8 g h m] ∧ Zf p1 f1 m f = some r) (by rintro ρ w ⟨m, f, g, h, hk, hs, H⟩; cases H) ?_ J5 ?_
  ·rintro f1 ρ b6 ⟨m, f, g, h, hk, a6, H⟩
   refine At.known [(0, (.string ⟨List.toArray p1⟩)), (4, (.slice g (List.length m) h)), (16, (.int .i64 ((List.length p1 : Nat) : Int))), (17, (.int .i64 f))] hk ?_
   replace H := (show V2 (Zf p1 f1) p1 m f = some r from H)
   unfold V2 at H
   refine aQ ?_
   refine aR ?_
   refine iR 1 1 [(18, (.bool (decide (f < ((List.length p1 : Nat) : Int)))))] ?_
   refine iF ?_
   refine aQ ?_
   refine Xe K (o := (.tmp 18)) K (b := (decide (f < ((List.length p1 : Nat) : Int)))) K (fun a2 => ?_) (fun a2 => ?_)
   ·have H := ct H a2
    refine At.skip K ?_
    refine aQ ?_
    refine Jk K (id := 1) K ?_
    refine aQ ?_
    refine aR ?_
    refine iR 2 2 [(19, (.int .i64 f)), (5, (.int .i64 f))] ?_
    refine iF ?_
    refine aQ ?_
    refine aR ?_
    refine iR 2 2 [(20, (.string ⟨List.toArray p1⟩)), (21, (.int .i64 f))] ?_
    obtain ⟨a7, b7, d2, b8, H⟩ := Vk H
    refine iS 3 ?_
    refine Yw (a := p1) (u := a7) (T := 9) (x := (.tmp 20)) (ix := (.tmp 21)) (ki := .i64) (iz := f) (d := (some 22)) (k := 2) K rfl K K K b7 b8 ?_
    obtain ⟨p, b9, H⟩ := Qc H
    refine iS 4 ?_
    refine cF 89 #[(.const (.string ⟨List.toArray ([48, 49, 50, 51, 52, 53, 54, 55, 56, 57, 97, 98, 99, 100, 101, 102] : List UInt8)⟩)), (.tmp 22)] #[9, 5] 23 Tryz.call89 (Ns  ([48, 49, 50, 51, 52, 53, 54, 55, 56, 57, 97, 98, 99, 100, 101, 102] : List UInt8) a7 b6  p b9) ?_
    rintro e c0 ⟨rfl, a8⟩
    refine ⟨_, rfl, ?_⟩
    have s := SP.call a6 a8
    clear a8
    refine iR 1 5 [(6, (.int .i64 p))] ?_
    refine iF ?_
    refine aQ ?_
    refine aQ ?_
    refine aR ?_
    refine iR 2 2 [(24, (.int .i64 p)), (25, (.bool (decide (p < 0))))] ?_
    refine iF ?_
    refine Xe K (o := (.tmp 25)) K (b := (decide (p < 0))) K (fun a3 => ?_) (fun a3 => ?_)
    ·have H := ct H a3
     refine aQ ?_
     refine aR ?_
     refine iR 2 2 [(2, (.slice none (List.length ([] : List UInt8)) 0)), (3, (.bool false))] ?_
     refine iF ?_
     refine At.ret K ?_
     have c1 : SP [] w0 c0 [Q7 5 eU8 g h m, Q7 5 eU8 none 0 ([] : List UInt8)] := Uu s 5 eU8
     refine ⟨(.tuple #[(.slice none (List.length ([] : List UInt8)) 0), (.bool false)]), K, ?_⟩
     obtain rfl := Qf H
     exact ⟨none, 0, rfl, SP.sel c1 [1] rfl rfl⟩
    ·have H := cf H a3
     refine At.skip K ?_
     refine aR ?_
     refine iR 6 6 [(26, (.slice g (List.length m) h)), (27, (.int .i64 f)), (28, (.int .i64 (IntKind.wrap .i64 (Int.tdiv f 2)))), (29, (.slice g (List.length m) h)), (30, (.int .i64 f)), (31, (.int .i64 (IntKind.wrap .i64 (Int.tdiv f 2))))] ?_
     obtain ⟨q, a9, b0, c2, H⟩ := Vk H
     refine iS 7 ?_
     refine Ql (e := eU8) (l := m) (A := g) (c := h) (T := 48) (E := 5) (x := (.tmp 29)) (ix := (.tmp 31)) (ki := .i64) (iz := (IntKind.wrap .i64 (Int.tdiv f 2))) (d := (some 32)) (k := 6) K rfl K K K K (Vl (SP.get s (i := 0) rfl)) a9 b0 ?_
     intro c4 c5 c6 d3 hc153
     refine iS 8 ?_
     refine sC 5 32 c4 (c5 + Int.toNat (IntKind.wrap .i64 (Int.tdiv f 2)) * eU8.sz) (.int .u8 ((q).toNat : Int)) 33 (Qy (e := eU8) (Qm (Vl (SP.get s (i := 0) rfl)) c6 a9 b0) c2 (j := 0) rfl) ?_
     refine iR 4 12 [(34, (.int .u8 (El .u8 ((q).toNat : Int) 4))), (35, (.int .i64 p)), (36, (.int .u8 (IntKind.wrap .u8 p))), (37, (.int .u8 (bOr .u8 (El .u8 ((q).toNat : Int) 4) (IntKind.wrap .u8 p))))] ?_
     obtain ⟨d4, b1, b2, d5, H⟩ := Vk H
     refine iS 13 ?_
     refine Ql (e := eU8) (l := m) (A := g) (c := h) (T := 48) (E := 5) (x := (.tmp 26)) (ix := (.tmp 28)) (ki := .i64) (iz := (IntKind.wrap .i64 (Int.tdiv f 2))) (d := (some 38)) (k := 12) K rfl K K K K (Vl (SP.get s (i := 0) rfl)) b1 b2 ?_
     intro c7 c8 c9 d6 hc162
     obtain ⟨a0, hyl165, H⟩ := V5 H
     have hnl165 : List.length a0 = List.length m := by rw [← hyl165, List.length_set]
     refine iS 14 ?_
     refine Y9 (e := eU8) (t := 5) (E := 5) (x := (.tmp 38)) (y := (.tmp 37)) (A := g) (c := h) (l := m) (iz := (IntKind.wrap .i64 (Int.tdiv f 2))) (b := c7) (off := c8) (i := 0) (v := (.int .u8 (bOr .u8 (El .u8 ((q).toNat : Int) 4) (IntKind.wrap .u8 p)))) (x' := (toU8 (bOr .u8 (El .u8 ((q).toNat : Int) 4) (IntKind.wrap .u8 p)))) (d := none) (k := 13) K rfl K K s rfl c9 rfl b2 b1 (by show [Value.int .u8 (((toU8 (bOr .u8 (El .u8 ((q).toNat : Int) 4) (IntKind.wrap .u8 p)))).toNat : Int)] = _; rw [u8_back (u8_or _ _)]) K ?_
     rw [hyl165]
     intro d7 d0
     refine In.known [(4, (.slice g (List.length a0) h)), (26, (.slice g (List.length a0) h)), (29, (.slice g (List.length a0) h))] ⟨(by rw [hnl165]; kernel_rfl), (by rw [hnl165]; kernel_rfl), (by rw [hnl165]; kernel_rfl), trivial⟩ ?_
     refine iF ?_
     refine aR ?_
     refine iR 2 2 [(39, (.int .i64 (IntKind.wrap .i64 (f + 1)))), (17, (.int .i64 (IntKind.wrap .i64 (f + 1))))] ?_
     refine iF ?_
     exact ⟨a0, (IntKind.wrap .i64 (f + 1)), g, h, ⟨K, K, K, K, trivial⟩, SP.sel d0 [0] rfl rfl, H⟩
   ·have H := cf H a2
    refine At.exit K (id := 0) K ?_
    refine aQ ?_
    refine aR ?_
    refine iR 3 3 [(40, (.slice g (List.length m) h)), (2, (.slice g (List.length m) h)), (3, (.bool true))] ?_
    refine iF ?_
    refine At.ret K ?_
    refine ⟨(.tuple #[(.slice g (List.length m) h), (.bool true)]), K, ?_⟩
    obtain rfl := Qf H
    exact ⟨g, h, rfl, SP.sel a6 [0] rfl rfl⟩
  ·exact ⟨l7, 0, (some ⟨g9, 0, none⟩), (Int.toNat (IntKind.wrap .i64 (Int.tdiv ((List.length p1 : Nat) : Int) 2))), ⟨K, K, K, K, trivial⟩, SP.sel b5 [0] rfl rfl, H⟩
end Go.Proofs.YtoflbpmbkmephaaGreatDoor
namespace Go.Proofs.YtoflbpmbkmephaaGreatDoor
open Go.RowKit
def Ca : List UInt8 := [48, 49, 50, 51, 52, 53, 54, 55, 56, 57, 97, 98, 99, 100, 101, 102]
def hexC (c : UInt8) : List UInt8 := [Ca.getD (c.toNat / 16) 0, Ca.getD (c.toNat % 16) 0]
def hexL (b : List UInt8) : List UInt8 := b.flatMap hexC
theorem Br : ∀ b : List UInt8, (hexL b).length = 2 * b.length
  | [] => rfl
  | c :: b => by
    have := Br b
    simp [hexL, hexC] at *
    omega
def H7 (c : UInt8) : Option Nat := if 48 ≤ c.toNat ∧ c.toNat ≤ 57 then some (c.toNat - 48) else if 97 ≤ c.toNat ∧ c.toNat ≤ 102 then some (c.toNat - 87) else none
def Un : List UInt8 → Option (List UInt8)
  | [] => some []
  | [_] => none
  | a :: b :: r => match H7 a, H7 b with
    | some x, some y => (Un r).map fun l => UInt8.ofNat (16 * x + y) :: l
    | _, _ => none
def unhexD (x : Option (List UInt8)) : List UInt8 × Bool := match x with | none => ([], false) | some l => (l, true)
theorem of_fin {p : UInt8 → Prop} (h : ∀ n : Fin 256, p (UInt8.ofNat n.val)) (c : UInt8) : p c := by
  have e := h ⟨c.toNat, c.toNat_lt⟩
  have : UInt8.ofNat c.toNat = c := by simp
  rwa [this] at e
theorem Eh {c : UInt8} {x : Nat} (h : H7 c = some x) : x < 16 := by
  unfold H7 at h
  split at h
  · injection h with h; omega
  · split at h
    · injection h with h; omega
    · cases h
theorem ix_dig (c : UInt8) : Lib.indexByte Ca c = match H7 c with | some x => (x : Int) | none => -1 :=
  of_fin (p := fun c => Lib.indexByte Ca c = match H7 c with | some x => (x : Int) | none => -1) (by decide +kernel) c
theorem hex_dig (c : UInt8) : ∀ x, H7 c = some x → Ca.getD x 0 = c :=
  fun x h => by
    have := of_fin (p := fun c => ((H7 c).map fun x => Ca.getD x 0) = (H7 c).map fun _ => c) (by decide +kernel) c
    rw [h] at this
    exact Option.some.inj this
theorem hex_pair {x y : Nat} (hx : x < 16) (hy : y < 16) : hexC (UInt8.ofNat (16 * x + y)) = [Ca.getD x 0, Ca.getD y 0] :=
  (by decide +kernel : ∀ n m : Fin 16, hexC (UInt8.ofNat (16 * n.val + m.val)) = [Ca.getD n.val 0, Ca.getD m.val 0]) ⟨x, hx⟩ ⟨y, hy⟩
theorem Dl : ∀ {s b : List UInt8}, Un s = some b → hexL b = s
  | [], b, h => by injection h with h; subst h; rfl
  | [_], b, h => by cases h
  | a :: c :: r, b, h => by
    simp only [Un] at h
    cases hx : H7 a with
    | none => rw [hx] at h; cases h
    | some x =>
      cases hy : H7 c with
      | none => rw [hx, hy] at h; cases h
      | some y =>
        rw [hx, hy] at h
        simp only [Option.map_eq_some_iff] at h
        obtain ⟨l, hl, rfl⟩ := h
        show hexC _ ++ hexL l = _
        rw [hex_pair (Eh hx) (Eh hy), Dl hl, hex_dig a x hx, hex_dig c y hy]
        rfl
theorem Ct {s b : List UInt8} (h : Un s = some b) : s.length = 2 * b.length := by rw [← Dl h, Br]
theorem H8 {s : List UInt8} (h : s.length % 2 = 1) : Un s = none := by
  cases hu : Un s with
  | none => rfl
  | some b => have := Ct hu; omega
theorem set_mid {α : Type} (l r : List α) (x y : α) (k : Nat) (h : l.length = k) : (l ++ x :: r).set k y = l ++ y :: r := by
  subst h
  simp
theorem get_mid {α : Type} (l r : List α) (x : α) (k : Nat) (h : l.length = k) : (l ++ x :: r)[k]? = some x := by
  subst h
  simp
theorem drop_two {α : Type} {l : List α} {i : Nat} (h : i + 1 < l.length) : l.drop i = l[i] :: l[i + 1] :: l.drop (i + 2) := by
  rw [List.drop_eq_getElem_cons (by omega), List.drop_eq_getElem_cons h]
theorem or_hi {x : Nat} (hx : x < 16) : toU8 (bOr .u8 (El .u8 (((0 : UInt8).toNat : Nat) : Int) 4) (IntKind.wrap .u8 (x : Int))) = UInt8.ofNat x :=
  (by decide +kernel : ∀ n : Fin 16, toU8 (bOr .u8 (El .u8 (((0 : UInt8).toNat : Nat) : Int) 4) (IntKind.wrap .u8 ((n.val : Nat) : Int))) = UInt8.ofNat n.val) ⟨x, hx⟩
theorem or_lo {x y : Nat} (hx : x < 16) (hy : y < 16) : toU8 (bOr .u8 (El .u8 (((UInt8.ofNat x).toNat : Nat) : Int) 4) (IntKind.wrap .u8 (y : Int))) = UInt8.ofNat (16 * x + y) :=
  (by decide +kernel : ∀ n m : Fin 16, toU8 (bOr .u8 (El .u8 (((UInt8.ofNat n.val).toNat : Nat) : Int) 4) (IntKind.wrap .u8 ((m.val : Nat) : Int))) = UInt8.ofNat (16 * n.val + m.val)) ⟨x, hx⟩ ⟨y, hy⟩
theorem Bs (s : List UInt8) (hs : s.length ≤ 1000000) : ∀ (n k f : Nat) (dec : List UInt8), s.length = 2 * k + 2 * n → dec.length = k → 2 * n < f →
    Zf s f (dec ++ List.replicate n 0) ((2 * k : Nat) : Int) = some (match Un (s.drop (2 * k)) with | some l => (dec ++ l, true) | none => ([], false)) := by
  intro n
  induction n with
  | zero =>
    intro k f dec h1 h2 h3
    obtain ⟨f, rfl⟩ : ∃ g, f = g + 1 := ⟨f - 1, by omega⟩
    show V2 (Zf s f) s _ _ = _
    unfold V2
    rw [show decide (((2 * k : Nat) : Int) < ((s.length : Nat) : Int)) = false by rw [decide_eq_false_iff_not]; omega, List.drop_of_length_le (by omega)]
    simp [Un]
  | succ n ih =>
    intro k f dec h1 h2 h3
    obtain ⟨f, rfl⟩ : ∃ g, f = g + 1 + 1 := ⟨f - 2, by omega⟩
    have t0 : IntKind.wrap .i64 (Int.tdiv ((2 * k : Nat) : Int) 2) = (k : Int) := by
      have := Eb (2 * k) 2
      rw [show ((2 : Nat) : Int) = 2 from rfl] at this
      rw [this, show 2 * k / 2 = k by omega]
      exact G6 (by omega)
    have t1 : IntKind.wrap .i64 (Int.tdiv ((2 * k + 1 : Nat) : Int) 2) = (k : Int) := by
      have := Eb (2 * k + 1) 2
      rw [show ((2 : Nat) : Int) = 2 from rfl] at this
      rw [this, show (2 * k + 1) / 2 = k by omega]
      exact G6 (by omega)
    have w0 : IntKind.wrap .i64 (((2 * k : Nat) : Int) + 1) = ((2 * k + 1 : Nat) : Int) := by rw [Yr (by omega)]; omega
    have w1 : IntKind.wrap .i64 (((2 * k + 1 : Nat) : Int) + 1) = ((2 * (k + 1) : Nat) : Int) := by rw [Yr (by omega)]; omega
    have i0 : idx s ((2 * k : Nat) : Int) = some (s[2 * k]'(by omega)) := Uz (by omega)
    have i1 : idx s ((2 * k + 1 : Nat) : Int) = some (s[2 * k + 1]'(by omega)) := Uz (by omega)
    have e0 : ∀ (x : UInt8) (r : List UInt8), idx (dec ++ x :: r) (k : Int) = some x := fun x r => by rw [Rn]; exact get_mid dec r x k h2
    rw [drop_two (show 2 * k + 1 < s.length by omega)]
    show V2 (Zf s (f + 1)) s _ _ = _
    unfold V2
    rw [show decide (((2 * k : Nat) : Int) < ((s.length : Nat) : Int)) = true by rw [decide_eq_true_eq]; omega, i0, t0, w0]
    simp only [cond_true, Option.bind_some, Xl]
    rw [show Lib.indexByte [48, 49, 50, 51, 52, 53, 54, 55, 56, 57, 97, 98, 99, 100, 101, 102] (s[2 * k]'(by omega)) = _ from ix_dig _]
    cases ha : H7 (s[2 * k]'(by omega)) with
    | none => simp [Un, ha]
    | some x =>
      have hx := Eh ha
      rw [show decide ((x : Int) < 0) = false by rw [decide_eq_false_iff_not]; omega, show List.replicate (n + 1) (0 : UInt8) = 0 :: List.replicate n 0 from rfl]
      simp only [cond_false, e0, Option.bind_some, Int.toNat_natCast]
      rw [set_mid dec _ _ _ k h2, or_hi hx]
      show V2 (Zf s f) s _ _ = _
      unfold V2
      rw [show decide (((2 * k + 1 : Nat) : Int) < ((s.length : Nat) : Int)) = true by rw [decide_eq_true_eq]; omega, i1, t1, w1]
      simp only [cond_true, Option.bind_some, Xl]
      rw [show Lib.indexByte [48, 49, 50, 51, 52, 53, 54, 55, 56, 57, 97, 98, 99, 100, 101, 102] (s[2 * k + 1]'(by omega)) = _ from ix_dig _]
      cases hb : H7 (s[2 * k + 1]'(by omega)) with
      | none => simp [Un, ha, hb]
      | some y =>
        have hy := Eh hb
        rw [show decide ((y : Int) < 0) = false by rw [decide_eq_false_iff_not]; omega]
        simp only [cond_false, e0, Option.bind_some, Int.toNat_natCast]
        rw [set_mid dec _ _ _ k h2, or_lo hx hy]
        have := ih (k + 1) f (dec ++ [UInt8.ofNat (16 * x + y)]) (by omega) (by simp [h2]) (by omega)
        rw [List.append_assoc, List.singleton_append] at this
        rw [this, show 2 * (k + 1) = 2 * k + 2 by omega]
        simp only [Un, ha, hb]
        cases Un (s.drop (2 * k + 2)) <;> simp
theorem H9 (s : List UInt8) (hs : s.length ≤ 1000000) : Jf s = some (unhexD (Un s)) := by
  unfold Jf
  have tm := Hg s.length 2
  rw [show ((2 : Nat) : Int) = 2 from rfl] at tm
  have td := Eb s.length 2
  rw [show ((2 : Nat) : Int) = 2 from rfl] at td
  rw [tm, td, G6 (show s.length / 2 < 4611686018427387904 by omega)]
  by_cases ho : s.length % 2 = 1
  · rw [show decide (((s.length % 2 : Nat) : Int) > 0) = true by rw [decide_eq_true_eq]; omega, H8 ho]
    rfl
  · rw [show decide (((s.length % 2 : Nat) : Int) > 0) = false by rw [decide_eq_false_iff_not]; omega, show decide (0 ≤ ((s.length / 2 : Nat) : Int) ∧ ((s.length / 2 : Nat) : Int) ≤ 2147483648) = true by rw [decide_eq_true_eq]; omega]
    simp only [cond_false, chk, if_true, Option.bind_some, Int.toNat_natCast]
    have := Bs s hs (s.length / 2) 0 J5 [] (by omega) rfl (by unfold J5; omega)
    rw [List.nil_append] at this
    refine this.trans ?_
    rw [List.drop_zero]
    cases Un s <;> rfl
end Go.Proofs.YtoflbpmbkmephaaGreatDoor
namespace Go.Proofs.YtoflbpmbkmephaaGreatDoor
open Go.RowKit
open Go.Lib (decDigits)
def finB (n : Int) : Bool := decide (0 ≤ n) && decide (n ≤ 1099511627776)
theorem U5 {w : Str} {m : Nat} (h : Vw w = some m) : Fn (m : Int) = w ∧ finB (m : Int) = true := by
  obtain ⟨h1, h2⟩ := Nq h
  unfold Gs at h2
  refine ⟨?_, ?_⟩
  · unfold Fn
    rw [if_pos (by omega), Int.toNat_natCast]
    exact h1
  · unfold finB
    rw [decide_eq_true (by omega), decide_eq_true (by omega)]
    rfl
def sfx (c : UInt8) (s : Str) : Str × Bool := if s.getLast? = some c then (s.dropLast, true) else (s, false)
theorem lSfx (c : UInt8) (s : Str) (h : s.length ≤ 1000000) : Xn s [c] = some (sfx c s) := by
  have hs : Vq s [c] = some (decide (s.getLast? = some c)) := by
    unfold Vq Vm
    by_cases h0 : s = []
    · subst h0; rfl
    · have hp := List.length_pos_iff.2 h0
      rw [decide_eq_true (show ((s.length : Nat) : Int) ≥ ((([c] : List UInt8).length : Nat) : Int) by simp; omega), show IntKind.wrap .i64 (((s.length : Nat) : Int) - ((([c] : List UInt8).length : Nat) : Int)) = ((s.length - 1 : Nat) : Int) by rw [Yr (by simp; omega)]; simp; omega, Gr s (by omega) (Nat.le_refl _)]
      simp only [cond_true, Option.bind_some, List.take_length]
      congr 1
      obtain ⟨a, x, rfl⟩ : ∃ a x, s = a ++ [x] := ⟨s.dropLast, s.getLast h0, (List.dropLast_concat_getLast h0).symm⟩
      rw [show (a ++ [x]).length - 1 = a.length by simp, List.drop_left, List.getLast?_append]
      by_cases hx : x = c
      · subst hx; simp
      · rw [beq_eq_false_iff_ne.2 (by simpa using hx)]
        symm
        rw [decide_eq_false_iff_not]
        simpa using hx
  unfold Xn V0
  rw [hs]
  unfold sfx
  by_cases hc : s.getLast? = some c
  · have h0 : s ≠ [] := fun e => by rw [e] at hc; cases hc
    have hp := List.length_pos_iff.2 h0
    have s1 := Gr s (i := 0) (j := s.length - 1) (by omega) (by omega)
    rw [show ((0 : Nat) : Int) = 0 from rfl] at s1
    rw [if_pos hc, decide_eq_true hc]
    simp only [Option.bind_some, Bool.not_true, cond_false]
    rw [show IntKind.wrap .i64 (((s.length : Nat) : Int) - ((([c] : List UInt8).length : Nat) : Int)) = ((s.length - 1 : Nat) : Int) by rw [Yr (by simp; omega)]; simp; omega, s1]
    simp only [Option.bind_some, List.drop_zero]
    rw [List.dropLast_eq_take]
  · rw [if_neg hc, decide_eq_false hc]
    rfl
end Go.Proofs.YtoflbpmbkmephaaGreatDoor
namespace Go.Proofs.YtoflbpmbkmephaaGreatDoor
open Go.RowKit
open Go.MapKept (findNow_spec run_findKey run_checkKey IsKey Stamped stamped_push stamped_empty)
open Go.ChangeMaps (setBlock)
abbrev KV := List (Value × Value)
structure TabOk (m : Nat) (L : KV) (es : Array MapEntry) (clock : Nat) (w : World) : Prop where
  heap : w.heap[m]? = some (.map es clock)
  ents : es.toList.map (fun e => (e.key, e.val)) = L
  st : Stamped es clock
def Ia (m : Nat) (L : KV) : Ent := ⟨[m], fun w => ∃ es clock, TabOk m L es clock w, fun w w' hk ⟨es, clock, h⟩ => ⟨es, clock, (hk m (by simp)).trans h.heap, h.ents, h.st⟩⟩
def N7 (d : TypeDesc) (k : Value) : KV → Nat → Option (Option (Nat × Value))
  | [], _ => some none
  | x :: l, i => match Instr.sameNow d k x.1 with
    | some true => some (some (i, x.2))
    | some false => N7 d k l (i + 1)
    | none => none
theorem N8 {d : TypeDesc} {k : Value} : ∀ (es : List MapEntry) (L : KV) (i : Nat), es.map (fun e => (e.key, e.val)) = L → Instr.findNow d k es i = N7 d k L i
  | [], L, i, h => by simp at h; subst h; rfl
  | e :: es, L, i, h => by
    cases L with
    | nil => simp at h
    | cons x L =>
      simp only [List.map_cons, List.cons.injEq] at h
      obtain ⟨rfl, h⟩ := h
      simp only [Instr.findNow, N7]
      cases Instr.sameNow d k e.key with
      | none => rfl
      | some b => cases b with
        | true => rfl
        | false => exact N8 es L (i + 1) h
def keyB : TypeDesc → Value → Bool
  | .int k, .int k' _ => decide (k' = k)
  | .string, .string _ => true
  | _, _ => false
theorem Bt {d : TypeDesc} {v : Value} (h : keyB d v = true) : IsKey d v := by
  cases d <;> cases v <;> simp_all [keyB, IsKey]
section
variable {P : Program} {n : Nat} {B : Code} {p : List Bool} {o : Nat} {K : Fr → World → Prop} {ρ : Fr} {w w0 : World} {ens : List Ent} {S : List Nat} {m b : Nat} {L : KV} {dst : Option Nat} {k v : Value} {i : Nat} {kt et : TypeId} {d : TypeDesc}
theorem Ib {T : TypeId} (ho : Nz (Qd B p) o ρ = some (.makeMap T none, dst)) (hd : Xk n dst = true) (hs : SP S w0 w ens)
    (next : ∀ (m : Nat) (w' : World), SP S w0 w' (ens ++ [Ia m []]) → K (Jo ρ dst (.map (some m))) w') : Qi P n B p o K ρ w := by
  refine Qi.val ho hd (w' := w.alloc (.map #[] 0)) (v := .map (some w.heap.size)) (fun o hop => ?_) (next w.heap.size _ (hs.push ((Below.refl _ _).alloc (Nat.le_refl _) _) ⟨#[], 0, heap_alloc_new w _, rfl, stamped_empty 0⟩ fun k hk => ?_))
  · unfold execOp; rw [hop]
    simp only [Instr.makeMap, Sem.run_bind, Sem.run_pure, run_newObj, Result.andThen_ok]
    rfl
  · have : k = w.heap.size := by simpa [Ia] using hk
    subst this
    simp
theorem R7 {T : TypeId} {x ix y : Operand} (ho : Nz (Qd B p) o ρ = some (.insert T x ix y, dst)) (hd : Xk n dst = true) (hx : opv ρ x = .map (some m)) (hix : opv ρ ix = k) (hy : opv ρ y = v)
    (hT : P.underlying T = some (.map kt et)) (hkt : P.underlying kt = some d) (hk : keyB d k = true) (hL : L.all (fun x => keyB d x.1) = true) (hf : N7 d k L 0 = some none)
    (hs : SP S w0 w ens) (hi : ens[i]? = some (Ia m L)) (next : ∀ (w' : World), SP S w0 w' (ens.set i (Ia m (L ++ [(k, v)]))) → K (Jo ρ dst undef) w') : Qi P n B p o K ρ w := by
  obtain ⟨es, clock, h⟩ := hs.get hi
  have hck := run_checkKey (P := P) (w := w) hkt (Bt hk) false 9999
  have hfn : Instr.findNow d k es.toList 0 = some none := (N8 es.toList L 0 h.ents).trans hf
  have hfk := run_findKey (P := P) (w := w) hkt hfn
  have hne : ∀ e ∈ es.toList, e.key ≠ k := by
    have hall : ∀ e ∈ es.toList, IsKey d e.key := fun e he => by
      rw [List.all_eq_true] at hL
      exact Bt (hL (e.key, e.val) (by rw [← h.ents]; exact List.mem_map.2 ⟨e, he, rfl⟩))
    rcases findNow_spec (Bt hk) es.toList 0 hall with ⟨_, h2⟩ | ⟨j, e, h1, _⟩
    · exact h2
    · rw [hfn] at h1; cases h1
  have hset := (Go.MapKept.heap_set (o' := .map (es.push { key := k, val := v, born := clock }) (clock + 1)) h.heap)
  refine D8 ho hd (w' := { w with heap := w.heap.setIfInBounds m (.map (es.push { key := k, val := v, born := clock }) (clock + 1)) }) (fun o hop => ?_) (next _ ?_)
  · unfold execOp; rw [hop]
    simp only [hx, hix, hy, Instr.mapUpdate, Sem.run_bind, run_underlying hT, Go.MapKept.run_getObj_map h.heap, hck, hfk, Go.MapKept.run_setObj_map _ h.heap, Result.andThen_ok]
    rfl
  · refine hs.set hi (T := [m]) ⟨rfl, rfl, rfl, by simp, fun q _ hq => hset.2 q (by simpa using hq)⟩ (fun k hk => hk) ⟨_, _, hset.1, by rw [Array.toList_push, List.map_append, h.ents]; rfl, stamped_push h.st hne⟩ fun q hq => ⟨.inl hq, ?_⟩
    have := ((hs.own.get hi).2 q hq).2
    simpa using this
theorem Bu {T : TypeId} {x ix : Operand} (ho : Nz (Qd B p) o ρ = some (.lookup T x ix true, dst)) (hd : Xk n dst = true) (hx : opv ρ x = .map (some m)) (hix : opv ρ ix = k)
    (hT : P.underlying T = some (.map kt et)) (hkt : P.underlying kt = some d) (hk : keyB d k = true) (hf : ∃ j, N7 d k L 0 = some (some (j, v))) (h : (Ia m L).ok w)
    (next : K (Jo ρ dst (.tuple #[v, .bool true])) w) : Qi P n B p o K ρ w := by
  obtain ⟨es, clock, h⟩ := h
  obtain ⟨j, hf⟩ := hf
  have hck := run_checkKey (P := P) (w := w) hkt (Bt hk) es.isEmpty 9999
  have hfk := run_findKey (P := P) (w := w) hkt ((N8 es.toList L 0 h.ents).trans hf)
  refine Qi.val ho hd (fun o hop => ?_) next
  unfold execOp; rw [hop]
  simp only [hx, hix, Instr.lookup, Sem.run_bind, run_underlying hT, Go.MapKept.run_getObj_map h.heap, hck, hfk, Result.andThen_ok, Sem.run_pure]
  rfl
theorem Bv {T : TypeId} {x ix : Operand} (ho : Nz (Qd B p) o ρ = some (.lookup T x ix true, dst)) (hd : Xk n dst = true) (hx : opv ρ x = .map (some m)) (hix : opv ρ ix = k)
    (hT : P.underlying T = some (.map kt et)) (hkt : P.underlying kt = some d) (hz : ∀ w, (zeroValue et).run P w = .ok v w) (hk : keyB d k = true) (hf : N7 d k L 0 = some none) (h : (Ia m L).ok w)
    (next : K (Jo ρ dst (.tuple #[v, .bool false])) w) : Qi P n B p o K ρ w := by
  obtain ⟨es, clock, h⟩ := h
  have hck := run_checkKey (P := P) (w := w) hkt (Bt hk) es.isEmpty 9999
  have hfk := run_findKey (P := P) (w := w) hkt ((N8 es.toList L 0 h.ents).trans hf)
  refine Qi.val ho hd (fun o hop => ?_) next
  unfold execOp; rw [hop]
  simp only [hx, hix, Instr.lookup, Sem.run_bind, run_underlying hT, Go.MapKept.run_getObj_map h.heap, hck, hfk, hz, Result.andThen_ok, Sem.run_pure]
  rfl
end
section
variable {P : Program} {n : Nat} {B : Code} {p : List Bool} {o : Nat} {K : Fr → World → Prop} {ρ : Fr} {w w0 : World} {ens : List Ent} {S : List Nat} {m b q : Nat} {L : KV} {dst : Option Nat} {i : Nat} {kt et : TypeId} {φ : Value × Value → Prop}
end
end Go.Proofs.YtoflbpmbkmephaaGreatDoor
namespace Go.Proofs.YtoflbpmbkmephaaGreatDoor
open Go.RowKit
section
variable {S : List Nat} {B : Nat} {w w' w0 : World} {es es' : List Ent}
theorem HL.mk : ∀ {es : List Ent}, (∀ (i : Nat) (e : Ent), es[i]? = some e → e.ok w ∧ ∀ k ∈ e.fp, (B ≤ k ∨ k ∈ S) ∧ k < w.heap.size) → (∀ (i j : Nat) (e e' : Ent), i < j → es[i]? = some e → es[j]? = some e' → ∀ k ∈ e.fp, k ∉ e'.fp) → HL S B w es
  | [], _, _ => trivial
  | e :: es, h1, h2 => ⟨(h1 0 e rfl).1, fun k hk => ⟨((h1 0 e rfl).2 k hk).1, ((h1 0 e rfl).2 k hk).2, fun e' he' => by
      obtain ⟨j, hj⟩ := List.mem_iff_getElem?.1 he'
      exact h2 0 (j + 1) e e' (by omega) rfl (by simpa using hj) k hk⟩, HL.mk (fun i e' hi => h1 (i + 1) e' (by simpa using hi)) fun i j e1 e2 hij h3 h4 => h2 (i + 1) (j + 1) e1 e2 (by omega) (by simpa using h3) (by simpa using h4)⟩
theorem SP.turn2 (h : SP S w0 w es) {i : Nat} {e e1 e2 : Ent} (hi : es[i]? = some e) (h1 : e1.ok w) (h2 : e2.ok w) (hf1 : ∀ k ∈ e1.fp, k ∈ e.fp ∧ k ∉ e2.fp) (hf2 : ∀ k ∈ e2.fp, k ∈ e.fp) (he : es' = es.set i e1 ++ [e2]) : SP S w0 w es' := by
  subst he
  have hg := h.own.get hi
  have ht := h.turnE hi h1 fun k hk => (hf1 k hk).1
  refine ⟨ht.mod, ht.own.append ⟨h2, fun k hk => ⟨(hg.2 k (hf2 k hk)).1, (hg.2 k (hf2 k hk)).2, by simp⟩, trivial⟩ ?_⟩
  intro f hf k hk f' hf' hk'
  simp only [List.mem_singleton] at hf'
  subst hf'
  obtain ⟨j, hj⟩ := List.mem_iff_getElem?.1 hf
  rw [List.getElem?_set] at hj
  split at hj
  · split at hj
    · injection hj with hj
      subst hj
      exact (hf1 k hk).2 hk'
    · cases hj
  · exact h.own.apart hj hi (by omega) k hk (hf2 k hk')
theorem SP.join2 (h : SP S w0 w es) {i j : Nat} {e e1 e2 : Ent} (hi : es[i]? = some e1) (hj : es[j]? = some e2) (hij : i ≠ j) (hok : e.ok w) (hfp : ∀ k ∈ e.fp, k ∈ e1.fp ∨ k ∈ e2.fp) (he : es' = (es.set i e).eraseIdx j) : SP S w0 w es' := by
  subst he
  have g1 := h.own.get hi
  have g2 := h.own.get hj
  have hset : ∀ n x, (es.set i e)[n]? = some x → (n = i ∧ x = e) ∨ (n ≠ i ∧ es[n]? = some x) := by
    intro n x hx
    rw [List.getElem?_set] at hx
    split at hx
    · split at hx
      · injection hx with hx
        exact .inl ⟨by omega, hx.symm⟩
      · cases hx
    · exact .inr ⟨by omega, hx⟩
  have hget : ∀ n x, ((es.set i e).eraseIdx j)[n]? = some x → ∃ m, m ≠ j ∧ m = (if n < j then n else n + 1) ∧ ((m = i ∧ x = e) ∨ (m ≠ i ∧ es[m]? = some x)) := by
    intro n x hx
    rw [List.getElem?_eraseIdx] at hx
    split at hx
    · rename_i hlt
      exact ⟨n, by omega, by rw [if_pos hlt], hset n x hx⟩
    · rename_i hlt
      exact ⟨n + 1, by omega, by rw [if_neg hlt], hset (n + 1) x hx⟩
  refine ⟨h.mod, HL.mk ?_ ?_⟩
  · intro n x hx
    obtain ⟨m, hm, _, hc⟩ := hget n x hx
    rcases hc with ⟨_, rfl⟩ | ⟨_, hc⟩
    · refine ⟨hok, fun k hk => ?_⟩
      rcases hfp k hk with h1 | h1
      · exact g1.2 k h1
      · exact g2.2 k h1
    · exact h.own.get hc
  · intro n1 n2 x1 x2 hlt hx1 hx2 k hk1 hk2
    obtain ⟨m1, hm1, hq1, hc1⟩ := hget n1 x1 hx1
    obtain ⟨m2, hm2, hq2, hc2⟩ := hget n2 x2 hx2
    have hne : m1 ≠ m2 := by
      rw [hq1, hq2]
      split <;> split <;> omega
    rcases hc1 with ⟨e1', rfl⟩ | ⟨e1', hc1⟩
    · rcases hc2 with ⟨e2', rfl⟩ | ⟨e2', hc2⟩
      · omega
      · rcases hfp k hk1 with h1 | h1
        · exact h.own.apart hi hc2 (by omega) k h1 hk2
        · exact h.own.apart hj hc2 (by omega) k h1 hk2
    · rcases hc2 with ⟨e2', rfl⟩ | ⟨e2', hc2⟩
      · rcases hfp k hk2 with h1 | h1
        · exact h.own.apart hc1 hi (by omega) k hk1 h1
        · exact h.own.apart hc1 hj (by omega) k hk1 h1
      · exact h.own.apart hc1 hc2 hne k hk1 hk2
end
def blkA (A : Option Addr) : List Nat := match A with | some a => [a.block] | none => []
def Cb (y : Qx) : List Nat := blkA y.2.2.2.1.1 ++ blkA y.2.2.2.2.1
theorem X5 {α : Type} {E : TypeId} {e : Enc α} {A : Option Addr} {c : Nat} {l : List α} : (Q7 E e A c l).fp = blkA A := by cases A <;> rfl
abbrev Cc (y : Qx) : Ent := Q7 102 eNet y.2.2.2.1.1 y.2.2.2.1.2.1 y.2.2.2.1.2.2
abbrev Cd (y : Qx) : Ent := Q7 37 eTok y.2.2.2.2.1 y.2.2.2.2.2.1 y.2.2.2.2.2.2
def F8 (d : List Qx) (w : World) : Prop := (∀ y ∈ d, (Cc y).ok w ∧ (Cd y).ok w) ∧ (d.flatMap Cb).Nodup
def Rb (d : List Qx) : Ent := ⟨d.flatMap Cb, F8 d, fun w w' hk h => ⟨fun y hy => by
    have hs : ∀ k ∈ Cb y, w'.heap[k]? = w.heap[k]? := fun k hm => hk k (List.mem_flatMap.2 ⟨y, hy, hm⟩)
    refine ⟨(Cc y).loc w w' (fun k hm => hs k ?_) (h.1 y hy).1, (Cd y).loc w w' (fun k hm => hs k ?_) (h.1 y hy).2⟩
    · rw [X5] at hm; exact List.mem_append_left _ hm
    · rw [X5] at hm; exact List.mem_append_right _ hm, h.2⟩⟩
def TenOk (A : Option Addr) (c : Nat) (d : List Qx) (w : World) : Prop := (Q7 33 Zh A c d).ok w ∧ F8 d w ∧ (blkA A ++ d.flatMap Cb).Nodup
def Yo (A : Option Addr) (c : Nat) (d : List Qx) : Ent := ⟨blkA A ++ d.flatMap Cb, TenOk A c d, fun w w' hk h => ⟨(Q7 33 Zh A c d).loc w w' (fun k hm => hk k (List.mem_append_left _ (by rw [X5] at hm; exact hm))) h.1, (Rb d).loc w w' (fun k hm => hk k (List.mem_append_right _ hm)) h.2.1, h.2.2⟩⟩
section
variable {S : List Nat} {w w' w0 : World} {es es' : List Ent} {A : Option Addr} {c : Nat} {d d0 : List Qx} {y : Qx} {F : List Nat} {l : List Qe} {i j k : Nat}
theorem TenOk.rd (h : TenOk A c d w) : (dDS Zh H0).ok w (A, c, d) := ⟨Vl h.1, fun y hy => ⟨trivial, trivial, trivial, ⟨Vl (h.2.1.1 y hy).1, fun _ _ => trivial⟩, ⟨Vl (h.2.1.1 y hy).2, fun _ _ => trivial⟩⟩⟩
theorem Gx (h : (Yo A c d).ok w) : (dDS Zh H0).ok w (A, c, d) := TenOk.rd h
theorem SP.openT (h : SP S w0 w es) (hi : es[i]? = some (Yo A c d)) (he : es' = es.set i (Q7 33 Zh A c d) ++ [Rb d]) : SP S w0 w es' := by
  obtain ⟨h1, h2, h3⟩ := h.get hi
  refine h.turn2 hi h1 h2 (fun k hk => ?_) (fun k hk => List.mem_append_right _ hk) he
  rw [X5] at hk
  refine ⟨List.mem_append_left _ hk, fun hk' => ?_⟩
  exact (List.nodup_append.1 h3).2.2 k hk k hk' rfl
theorem SP.closeT (h : SP S w0 w es) (hi : es[i]? = some (Q7 33 Zh A c d)) (hj : es[j]? = some (Rb d)) (hij : i ≠ j) (he : es' = (es.set i (Yo A c d)).eraseIdx j) : SP S w0 w es' := by
  have h1 := h.get hi
  have h2 : F8 d w := h.get hj
  have h3 := h.own.apart hi hj hij
  rw [X5] at h3
  refine h.join2 (e := Yo A c d) hi hj hij ⟨h1, h2, ?_⟩ (fun k hk => ?_) he
  · refine List.nodup_append.2 ⟨?_, h2.2, fun a ha b hb hab => h3 a ha (hab ▸ hb)⟩
    cases A <;> simp [blkA]
  · rw [X5]
    exact List.mem_append.1 hk
theorem SP.innMore (h : SP S w0 w es) (hj : es[j]? = some (Rb d)) (hy : y.2.2.2 = ((none, 0, []), (none, 0, []))) : SP S w0 w (es.set j (Rb (d ++ [y]))) := by
  obtain ⟨nm, a, b, x⟩ := y
  have hy : x = ((none, 0, []), (none, 0, [])) := hy
  subst hy
  have hok : F8 d w := h.get hj
  have hfm : (d ++ [(nm, a, b, (none, 0, []), (none, 0, []))]).flatMap Cb = d.flatMap Cb := by simp [List.flatMap_append, Cb, blkA]
  refine h.turnE hj ⟨fun z hz => ?_, by rw [hfm]; exact hok.2⟩ fun k hk => ?_
  · rcases List.mem_append.1 hz with hz | hz
    · exact hok.1 z hz
    · rw [List.mem_singleton] at hz
      subst hz
      exact ⟨World.ownsRow_nil w 0 _ _, World.ownsRow_nil w 0 _ _⟩
  · have hk : k ∈ (d ++ [(nm, a, b, (none, 0, []), (none, 0, []))]).flatMap Cb := hk
    rw [hfm] at hk
    exact hk
theorem SP.splitI (h : SP S w0 w es) (hj : es[j]? = some (Rb (d0 ++ [y]))) (he : es' = es.set j (Rb d0) ++ [Cc y] ++ [Cd y]) : SP S w0 w es' := by
  have hok : F8 (d0 ++ [y]) w := h.get hj
  obtain ⟨h1, h2⟩ := hok
  have hfm : (d0 ++ [y]).flatMap Cb = d0.flatMap Cb ++ Cb y := by simp [List.flatMap_append]
  rw [hfm] at h2
  obtain ⟨n1, n2, n3⟩ := List.nodup_append.1 h2
  obtain ⟨m1, m2, m3⟩ := List.nodup_append.1 n2
  have hlt : j < es.length := (List.getElem?_eq_some_iff.1 hj).1
  have hy := h1 y (by simp)
  have hfp : (Rb (d0 ++ [y])).fp = d0.flatMap Cb ++ Cb y := hfm
  let eL : Ent := ⟨d0.flatMap Cb ++ blkA y.2.2.2.1.1, fun w => (Rb d0).ok w ∧ (Cc y).ok w, fun w w' hk hh => ⟨(Rb d0).loc w w' (fun k hm => hk k (List.mem_append_left _ hm)) hh.1, (Cc y).loc w w' (fun k hm => hk k (List.mem_append_right _ (by rw [X5] at hm; exact hm))) hh.2⟩⟩
  have hI : F8 d0 w := ⟨fun z hz => h1 z (List.mem_append_left _ hz), n1⟩
  have s1 : SP S w0 w (es.set j eL ++ [Cd y]) := h.turn2 hj (e1 := eL) ⟨hI, hy.1⟩ hy.2
    (fun k hk => by
      rw [X5, hfp]
      rcases List.mem_append.1 hk with hk | hk
      · exact ⟨List.mem_append_left _ hk, fun hk' => n3 k hk k (List.mem_append_right _ hk') rfl⟩
      · exact ⟨List.mem_append_right _ (List.mem_append_left _ hk), fun hk' => m3 k hk k hk' rfl⟩)
    (fun k hk => by rw [X5] at hk; rw [hfp]; exact List.mem_append_right _ (List.mem_append_right _ hk)) rfl
  have s2 : SP S w0 w (es.set j eL ++ [Cd y]).dropLast := s1.erase (es.length) (by simp [List.eraseIdx_append_of_length_le])
  rw [List.dropLast_concat] at s2
  have hjL : (es.set j eL)[j]? = some eL := by simp [hlt]
  have s3 : SP S w0 w (es.set j (Rb d0) ++ [Cc y]) := by
    refine s2.turn2 hjL hI hy.1 (fun k hk => ⟨List.mem_append_left _ hk, fun hk' => ?_⟩) (fun k hk => ?_) (by rw [List.set_set])
    · rw [X5] at hk'
      exact n3 k hk k (List.mem_append_left _ hk') rfl
    · rw [X5] at hk
      exact List.mem_append_right _ hk
  subst he
  refine ⟨s3.mod, s3.own.append ⟨hy.2, fun k hk => ?_, trivial⟩ ?_⟩
  · have := (h.own.get hj).2 k (by rw [X5] at hk; rw [hfp]; exact List.mem_append_right _ (List.mem_append_right _ hk))
    exact ⟨this.1, this.2, by simp⟩
  · intro f hf k hk f' hf' hk'
    simp only [List.mem_singleton] at hf'
    subst hf'
    have hk2 := hk'
    rw [X5] at hk'
    have hmem : k ∈ (Rb (d0 ++ [y])).fp := by rw [hfp]; exact List.mem_append_right _ (List.mem_append_right _ hk')
    rcases List.mem_append.1 hf with hf | hf
    · obtain ⟨n, hn⟩ := List.mem_iff_getElem?.1 hf
      rw [List.getElem?_set] at hn
      split at hn
      · rename_i hjn
        subst hjn
        injection hn with hn
        subst hn
        exact n3 k hk k (List.mem_append_right _ hk') rfl
      · exact h.own.apart hn hj (by omega) k hk hmem
    · simp only [List.mem_singleton] at hf
      subst hf
      rw [X5] at hk
      exact m3 k hk k hk' rfl
theorem SP.joinI (h : SP S w0 w es) (hi : es[i]? = some (Rb d0)) (hj : es[j]? = some (Cc y)) (hk : es[k]? = some (Cd y)) (hij : i < j) (hjk : j < k) (he : es' = ((es.set i (Rb (d0 ++ [y]))).eraseIdx k).eraseIdx j) : SP S w0 w es' := by
  have hik : i < k := by omega
  have h1 : F8 d0 w := h.get hi
  have h2 := h.get hj
  have h3 := h.get hk
  have a1 := h.own.apart hi hj (by omega)
  have a2 := h.own.apart hi hk (by omega)
  have a3 := h.own.apart hj hk (by omega)
  rw [X5] at a3
  let eL : Ent := ⟨d0.flatMap Cb ++ blkA y.2.2.2.2.1, fun w => (Rb d0).ok w ∧ (Cd y).ok w, fun w w' hk hh => ⟨(Rb d0).loc w w' (fun k hm => hk k (List.mem_append_left _ hm)) hh.1, (Cd y).loc w w' (fun k hm => hk k (List.mem_append_right _ (by rw [X5] at hm; exact hm))) hh.2⟩⟩
  have s1 : SP S w0 w ((es.set i eL).eraseIdx k) := h.join2 hi hk (by omega) (e := eL) ⟨h1, h3⟩ (fun q hq => by
    rw [X5]
    exact List.mem_append.1 hq) rfl
  have hlt : i < es.length := (List.getElem?_eq_some_iff.1 hi).1
  have hj' : ((es.set i eL).eraseIdx k)[j]? = some (Cc y) := by
    rw [List.getElem?_eraseIdx, if_pos hjk, List.getElem?_set, if_neg (by omega)]
    exact hj
  have hi' : ((es.set i eL).eraseIdx k)[i]? = some eL := by
    rw [List.getElem?_eraseIdx, if_pos hik, List.getElem?_set, if_pos rfl, if_pos hlt]
  refine s1.join2 hi' hj' (by omega) (e := Rb (d0 ++ [y])) ⟨fun z hz => ?_, ?_⟩ (fun q hq => ?_) ?_
  · rcases List.mem_append.1 hz with hz | hz
    · exact h1.1 z hz
    · rw [List.mem_singleton] at hz
      subst hz
      exact ⟨h2, h3⟩
  · have hfm : (d0 ++ [y]).flatMap Cb = d0.flatMap Cb ++ Cb y := by simp [List.flatMap_append]
    rw [hfm]
    refine List.nodup_append.2 ⟨h1.2, List.nodup_append.2 ⟨?_, ?_, fun a ha b hb hab => a3 a ha (by rw [X5]; exact hab ▸ hb)⟩, fun a ha b hb hab => ?_⟩
    · cases y.2.2.2.1.1 <;> simp [blkA]
    · cases y.2.2.2.2.1 <;> simp [blkA]
    · subst hab
      rcases List.mem_append.1 hb with hb | hb
      · exact a1 a ha (by rw [X5]; exact hb)
      · exact a2 a ha (by rw [X5]; exact hb)
  · have hq : q ∈ (d0 ++ [y]).flatMap Cb := hq
    rw [X5]
    simp only [List.flatMap_append, List.mem_append, List.flatMap_cons, List.flatMap_nil, Cb, List.append_nil] at hq
    rcases hq with hq | hq | hq
    · exact .inl (List.mem_append_left _ hq)
    · exact .inr hq
    · exact .inl (List.mem_append_right _ hq)
  · rw [he, List.eraseIdx_set_gt hik, List.eraseIdx_set_gt hik, List.set_set]
end
section
variable {P : Program} {n : Nat} {ρ : Fr} {w w0 : World} {B : Code} {p : List Bool} {k : Nat} {K : Fr → World → Prop}
theorem Ce {α : Type} {e : Enc α} {S : List Nat} {w0 : World} {es : List Ent} {i b off c f q : Nat} {d : Option Nat} {t E : TypeId} {x y : Operand} {A : Option Addr} {l : List α} {v : Value} {x0 x' : α}
    (ho : Nz (Qd B p) k ρ = some (.store t x y, d)) (hd : Xk n d = true) (hA : A = some ⟨b, off, none⟩) (hx : opv ρ x = .pointer (some ⟨b, off + q * e.sz + f, none⟩)) (hy : opv ρ y = v)
    (hs : SP S w0 w es) (hi : es[i]? = some (Q7 E e A c l)) (hl : l[q]? = some x0) (hf : f < e.sz) (hv : e.enc x' = (e.enc x0).set f v) (ht : (P.info? t).map (·.size) = some 1)
    (next : ∀ w' : World, SP S w0 w' (es.set i (Q7 E e A c (l.set q x'))) → K (Jo ρ d undef) w') : Qi P n B p k K ρ w := by
  subst hy hA
  have hown : w.ownsRow 0 E e.sz (.slice (some ⟨b, off, none⟩) l.length c) l.length (Q5 e l) := hs.get hi
  have hoff : off = 0 := by
    rcases hown.2 with ⟨hn, _⟩ | ⟨g, cap, cur, hn, _⟩
    · cases hn
    · injection hn with h1 _ _
      injection h1 with h1
      injection h1
  subst hoff
  have hlt : q < l.length := (List.getElem?_eq_some_iff.1 hl).1
  have hqf : q * e.sz + f < l.length * e.sz := by
    have : (q + 1) * e.sz ≤ l.length * e.sz := Nat.mul_le_mul_right _ hlt
    rw [Nat.succ_mul] at this
    omega
  have hcellx : ∃ u, w.cell? ⟨b, q * e.sz + f, none⟩ = some u := by
    have := World.ownsRow.cellAt (g := b) (cap := c) hown (q * e.sz + f) hqf
    rw [this]
    have hlen := Zj e l
    exact ⟨_, List.getElem?_eq_getElem (by rw [hlen]; exact hqf)⟩
  obtain ⟨u0, hu0⟩ := hcellx
  have hfr := World.ownsRow.frozenAt (g := b) (cap := c) hown (q * e.sz + f)
  obtain ⟨h2, h3⟩ := World.ownsRow.stored (g := b) (cap := c) hown (q * e.sz + f) (opv ρ y)
  have hlen0 := e.len x0
  have hone := e.one x' (opv ρ y) (by rw [hv]; exact List.mem_iff_getElem.2 ⟨f, by rw [List.length_set]; omega, by simp⟩)
  have hset : (Q5 e l).set (q * e.sz + f) (opv ρ y) = Q5 e (l.set q x') := by
    have hs1 := Rk e l q x' hlt
    have hs0 := Rk e l q x0 hlt
    have hl0 : l.set q x0 = l := by
      obtain ⟨hq1, hq2⟩ := List.getElem?_eq_some_iff.1 hl
      rw [← hq2, List.set_getElem_self]
    rw [hl0] at hs0
    have htl : ((Q5 e l).take (q * e.sz)).length = q * e.sz := by rw [List.length_take, Zj]; omega
    rw [← hs1, hv]
    conv => lhs; rw [← hs0]
    rw [List.append_assoc, List.set_append_right _ _ (by rw [htl]; omega), htl, List.set_append_left _ _ (by rw [hlen0]; omega), List.append_assoc]
    rw [show q * e.sz + f - q * e.sz = f by omega]
  have h2' : (Q7 E e (some ⟨b, 0, none⟩) c (l.set q x')).ok (w.setCell ⟨b, q * e.sz + f, none⟩ (opv ρ y)) := by
    show World.ownsRow _ 0 E e.sz (.slice (some ⟨b, 0, none⟩) (l.set q x').length c) (l.set q x').length (Q5 e (l.set q x'))
    rw [List.length_set, ← hset]
    exact h2
  refine D8 ho hd (w' := w.setCell ⟨b, q * e.sz + f, none⟩ (opv ρ y)) (fun o hop => ?_) (next _ (hs.set hi (T := [b]) (Gn h3 (fun q hq => by injection hq with hq; simp [hq])) (fun q hq => ?_) h2' fun q hq => ?_))
  · have hcs : (opv ρ y).cells = #[opv ρ y] := by
      cases hvv : opv ρ y <;> first | rfl | (rw [hvv] at hone; cases hone)
    cases hi' : P.info? t with
    | none => rw [hi'] at ht; cases ht
    | some ii =>
      rw [hi'] at ht
      have ht : ii.size = 1 := by simpa using ht
      have hsz : (sizeOf t).run P w = .ok 1 w := by simp [sizeOf, typeInfo, hi', ht]
      have hst : (Go.store ⟨b, q * e.sz + f, none⟩ (opv ρ y)).run P w = .ok () (w.setCell ⟨b, q * e.sz + f, none⟩ (opv ρ y)) := by
        cases hvv : opv ρ y <;> first | (rw [hvv] at hone; cases hone; done) | (simp [Go.store, Sem.run, hu0, hfr])
      unfold execOp; rw [hop]
      rw [Nat.zero_add] at hx
      have hadd : (⟨b, q * e.sz + f, none⟩ : Addr).add 0 = ⟨b, q * e.sz + f, none⟩ := by simp [Addr.add]
      simp only [hx, Instr.storeAt, Instr.sureAddr, Sem.run_bind, Sem.run_pure, Result.andThen_ok, storeVar, hsz, hcs]
      simp [storeCells, hadd, hst, Sem.run_bind]
  · simpa [Q7, row, Value.ownBlock] using hq
  · have hq' : q = b := by simpa [Q7, row, Value.ownBlock] using hq
    subst hq'
    refine ⟨.inl (by simp [Q7, row, Value.ownBlock]), ?_⟩
    have := (World.ownsRow.lt hown q (by simp [Value.ownBlock])).2
    simpa [World.setCell] using this
theorem Cf {S : List Nat} {w0 : World} {es : List Ent} {dst : Option Nat} {A : Option Addr} {c : Nat} {d m : List Qx} {y : Qx} {T TX : TypeId} {s x : Operand} {b i : Nat} {vx : Value} (ho : Nz (Qd B p) k ρ = some (.call { callee := .builtin .append, args := #[s, x], argTypes := #[T, TX] }, dst)) (hd : Xk n dst = true)
    (hv : opv ρ s = .slice A (List.length (List.map stT d)) c) (hx : opv ρ x = vx) (hT : P.underlying T = some (.slice 33)) (hE : (P.info? 33).map (fun i => (i.zero.map (·.cells.size), i.size, i.bytes)) = some (some Zh.sz, Zh.sz, b)) (hb : (Nat.ble 1 Zh.sz && Nat.ble b 65536) = true)
    (hs : SP S w0 w es) (hi : es[i]? = some (Yo A c d)) (hsrc : Src P Zh.sz TX vx m.length (Q5 Zh m) w) (hm : m = [y]) (hy : y.2.2.2 = ((none, 0, []), (none, 0, []))) {lm : List Qe} (hlen : (List.map stT d).length + lm.length ≤ 2147483648) (hlm : lm = [stT y])
    (next : ∀ (A' : Option Addr) (c' : Nat) (w' : World), SP S w0 w' (es.set i (Yo A' c' (d ++ [y]))) → K (Jo ρ dst (.slice A' (List.length (List.map stT (d ++ [y]))) c')) w') : Qi P n B p k K ρ w := by
  subst hm hlm
  rw [List.length_map] at hv hlen
  have hlt : i < es.length := (List.getElem?_eq_some_iff.1 hi).1
  refine Qi.append (m := [y]) ho hd hv hx hT hE hb (hs.openT hi rfl) (i := i) (by rw [List.getElem?_append_left (by simpa using hlt), List.getElem?_set, if_pos rfl, if_pos hlt]) hsrc (by simpa using hlen) fun A' c' w' hs' => ?_
  have := next A' c' w' ?_
  · rw [List.length_map] at this; exact this
  rw [List.set_append_left _ _ (by simpa using hlt), List.set_set] at hs'
  have h2 := hs'.innMore (j := es.length) (d := d) (y := y) (by rw [List.getElem?_append_right (by simp)]; simp) hy
  refine h2.closeT (i := i) (j := es.length) (A := A') (c := c') (d := d ++ [y]) ?_ ?_ (by omega) ?_
  · rw [List.getElem?_set, if_neg (by omega), List.getElem?_append_left (by simpa using hlt), List.getElem?_set, if_pos rfl, if_pos hlt]
  · rw [List.getElem?_set, if_pos rfl, if_pos (by simp)]
  · rw [List.set_append_right _ _ (by simp), List.set_append_left _ _ (by simpa using hlt), List.set_set, List.eraseIdx_append_of_length_le (by simp)]
    simp
end
theorem last_idx {α β : Type} {f : α → β} {d : List α} (hm : d.length ≤ maxLen) (h0 : 0 ≤ IntKind.wrap .i64 (((List.length (List.map f d) : Nat) : Int) - 1)) (h1 : IntKind.wrap .i64 (((List.length (List.map f d) : Nat) : Int) - 1) < (d.length : Int)) : Int.toNat (IntKind.wrap .i64 (((List.length (List.map f d) : Nat) : Int) - 1)) = List.length (List.map f d) - 1 := by
  rw [List.length_map] at *
  have hm' : d.length ≤ 9223372036854775807 := hm
  have hw : IntKind.wrap .i64 ((d.length : Int) - 1) = (d.length : Int) - 1 := IntWalk.i64_in _ (by omega)
  rw [hw] at h0 ⊢
  omega
def lastT (l : List Qe) : Qe := l.getLast?.getD ([], 0, 0, [], [])
def Ic {β : Type} (l : List Qe) (f : List Qe → Qe → List Qe → Option β) : Option β := f l.dropLast (lastT l) l
section
variable {β : Type} {d d0 : List Qx} {y : Qx} {f : List Qe → Qe → List Qe → Option β} {r : β}
theorem Cu (h : List.isEmpty (List.map stT d) = false) : ∃ d0 y, d = d0 ++ [y] := by
  rcases List.eq_nil_or_concat d with rfl | ⟨d0, y, rfl⟩
  · cases h
  · exact ⟨d0, y, by simp⟩
theorem Cv (hd : d = d0 ++ [y]) (h : Ic (List.map stT d) f = some r) : f (List.map stT d0) (stT y) (List.map stT (d0 ++ [y])) = some r := by
  subst hd
  unfold Ic lastT at h
  simpa using h
theorem Hk (y' : Qx) : List.length (List.map stT (d0 ++ [y])) = List.length (List.map stT (d0 ++ [y'])) := by simp
theorem Ei : List.map stT d0 ++ [stT y] = List.map stT (d0 ++ [y]) := by simp
end
section
variable {P : Program} {n : Nat} {ρ : Fr} {w w0 : World} {B : Code} {p : List Bool} {k : Nat} {K : Fr → World → Prop} {S : List Nat} {es es' : List Ent} {dst : Option Nat} {A : Option Addr} {c i : Nat} {d0 : List Qx} {y y' : Qx} {b off : Nat}
theorem Bw (h : SP S w0 w es) (hi : es[i]? = some (Yo A c (d0 ++ [y]))) (he : es' = es.set i (Q7 33 Zh A c (d0 ++ [y])) ++ [Rb d0] ++ [Cc y] ++ [Cd y]) : SP S w0 w es' := by
  have h1 := h.openT hi rfl
  refine h1.splitI (j := es.length) (d0 := d0) (y := y) (by rw [List.getElem?_append_right (by simp)]; simp) ?_
  rw [he, List.set_append_right _ _ (by simp)]
  simp
theorem Dx (h : SP S w0 w es) {q j m : Nat} (hi : es[i]? = some (Q7 33 Zh A c (d0 ++ [y]))) (hq : es[q]? = some (Rb d0)) (hj : es[j]? = some (Cc y)) (hm : es[m]? = some (Cd y)) (h1 : i < q) (h2 : q < j) (h3 : j < m) (he : es' = ((((es.set q (Rb (d0 ++ [y]))).eraseIdx m).eraseIdx j).set i (Yo A c (d0 ++ [y]))).eraseIdx q) : SP S w0 w es' := by
  have s1 := h.joinI hq hj hm h2 h3 rfl
  have hlt : i < es.length := (List.getElem?_eq_some_iff.1 hi).1
  have hlq : q < es.length := (List.getElem?_eq_some_iff.1 hq).1
  refine s1.closeT (i := i) (j := q) (A := A) (c := c) (d := d0 ++ [y]) ?_ ?_ (by omega) he
  · rw [List.getElem?_eraseIdx, if_pos (by omega), List.getElem?_eraseIdx, if_pos (by omega), List.getElem?_set, if_neg (by omega)]
    exact hi
  · rw [List.getElem?_eraseIdx, if_pos (by omega), List.getElem?_eraseIdx, if_pos (by omega), List.getElem?_set, if_pos rfl, if_pos hlq]
theorem Nw (h : (Q7 33 Zh A c (d0 ++ [y])).ok w) (hA : A = some ⟨b, off, none⟩) {f : Nat} {v : Value} (hv : (Zh.enc y)[f]? = some v) : w.cell? ⟨b, off + List.length d0 * Zh.sz + f, none⟩ = some v := by
  obtain ⟨_, _, _, h4⟩ := Vl h
  obtain ⟨b', off', hA', _, hc⟩ := h4 (by simp)
  rw [hA] at hA'
  injection hA' with hA'
  injection hA' with h5 h6
  subst h5 h6
  have := N0 Zh (l := d0 ++ [y]) (i := d0.length) (x := y) (by simp) hv
  rw [Nat.add_assoc]
  exact hc _ _ this
theorem set_last : (d0 ++ [y]).set d0.length y' = d0 ++ [y'] := by simp
theorem Ri {f : Nat} {t : TypeId} {x z : Operand} {v : Value} (ho : Nz (Qd B p) k ρ = some (.store t x z, dst)) (hd : Xk n dst = true) (hA : A = some ⟨b, off, none⟩) (hx : opv ρ x = .pointer (some ⟨b, off + List.length d0 * Zh.sz + f, none⟩)) (hz : opv ρ z = v)
    (hs : SP S w0 w es) (hi : es[i]? = some (Q7 33 Zh A c (d0 ++ [y]))) (hf : Nat.ble (f + 1) Zh.sz = true) (hv : Zh.enc y' = (Zh.enc y).set f v) (ht : (P.info? t).map (·.size) = some 1)
    (next : ∀ w' : World, SP S w0 w' (es.set i (Q7 33 Zh A c (d0 ++ [y']))) → K (Jo ρ dst undef) w') : Qi P n B p k K ρ w := by
  refine Ce (x0 := y) (x' := y') (q := d0.length) ho hd hA hx hz hs hi (by simp) (Nat.le_of_ble_eq_true hf) hv ht fun w' hs' => ?_
  rw [set_last] at hs'
  exact next w' hs'
end
end Go.Proofs.YtoflbpmbkmephaaGreatDoor
