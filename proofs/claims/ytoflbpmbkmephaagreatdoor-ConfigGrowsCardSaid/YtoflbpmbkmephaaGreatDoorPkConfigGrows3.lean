import Derived.Test.YtoflbpmbkmephaaGreatDoorPkConfigGrows2
set_option linter.unusedSimpArgs false
set_option linter.unusedVariables false
set_option linter.unusedSectionVars false
set_option maxRecDepth 100000
set_option maxHeartbeats 40000000
namespace Go.Proofs.YtoflbpmbkmephaaGreatDoor
open Go.RowKit
def Vq (g : Int → Option (Bool)) (e : Int → Option (Bool)) (d : (List ((List UInt8) × (List UInt8) × Int))) (f : (List ((List UInt8) × (List UInt8) × Int))) (a : Int) : Option (Bool) :=
  (cond (decide (a < ((List.length d : Nat) : Int))) ((idx d a).bind fun b => ((idx f a).bind fun c => (cond (!((b.1 == c.1) && ((b.2.1 == c.2.1) && (b.2.2 == c.2.2)))) (some (false)) (e (IntKind.wrap .i64 (a + 1)))))) (some (true)))
def Vr (a : Int → Option (Bool)) (b : (List ((List UInt8) × (List UInt8) × Int))) (c : (List ((List UInt8) × (List UInt8) × Int))) : Nat → Int → Option (Bool)
  | 0, _ => none
  | f + 1, d => Vq a (Vr a b c f) b c d
def Vs (b : Int → Option (Bool)) (c : (List (Int × Int))) (f : (List ((List UInt8) × (List UInt8) × Int))) (g : (List (Int × Int))) (h : (List ((List UInt8) × (List UInt8) × Int))) (a : Int) : Option (Bool) :=
  (cond (decide (a < ((List.length c : Nat) : Int))) ((idx c a).bind fun d => ((idx g a).bind fun e => (cond (!((d.1 == e.1) && (d.2 == e.2))) (some (false)) (b (IntKind.wrap .i64 (a + 1)))))) (Vr b f h Xx 0))
def Q2 (a : (List (Int × Int))) (b : (List ((List UInt8) × (List UInt8) × Int))) (c : (List (Int × Int))) (d : (List ((List UInt8) × (List UInt8) × Int))) : Nat → Int → Option (Bool)
  | 0, _ => none
  | f + 1, e => Vs  (Q2 a b c d f) a b c d e
def Vd (a : (List (Int × Int))) (b : (List ((List UInt8) × (List UInt8) × Int))) (c : (List (Int × Int))) (d : (List ((List UInt8) × (List UInt8) × Int))) (e : Bool) : Option (Bool) :=
  (cond e (some (false)) (Q2 a b c d Xx 0))
def Zy (e : (List UInt8)) (f : Int) (g : Int) (a : (List (Int × Int))) (b : (List ((List UInt8) × (List UInt8) × Int))) (h : (List UInt8)) (i : Int) (j : Int) (c : (List (Int × Int))) (d : (List ((List UInt8) × (List UInt8) × Int))) : Option (Bool) :=
  (cond (!(e == h)) (Vd a b c d true) (cond (f != i) (Vd a b c d true) (cond (g != j) (Vd a b c d true) (cond (((List.length a : Nat) : Int) != ((List.length c : Nat) : Int)) (Vd a b c d true) (Vd a b c d (((List.length b : Nat) : Int) != ((List.length d : Nat) : Int)))))))
set_option maxHeartbeats 40000000 in
theorem Ni (A5 : Option Addr) (c6 : Nat) (A9 : Option Addr) (a4 : Nat) (a5 : Option Addr) (b3 : Nat) (a6 : Option Addr) (b4 : Nat) (a7 : (List UInt8)) (a8 : Int) (a9 : Int) (j : (List (Int × Int))) (i : (List ((List UInt8) × (List UInt8) × Int))) (b0 : (List UInt8)) (b1 : Int) (b2 : Int) (u : (List (Int × Int))) (m : (List ((List UInt8) × (List UInt8) × Int))) (w0 : World) (d0 : RdT (Qf (Q4 .u32) (Q4 .i64)) w0 A5 c6 j) (d1 : RdT (Qf Ql (Qf Ql (Q4 .i64))) w0 A9 a4 i) (d2 : RdT (Qf (Q4 .u32) (Q4 .i64)) w0 a5 b3 u) (d3 : RdT (Qf Ql (Qf Ql (Q4 .i64))) w0 a6 b4 m) (r : (Bool)) (H : Zy a7 a8 a9 j i b0 b1 b2 u m = some r) :
  Calls Tryz.prog 27 #[(.agg #[(.string ⟨List.toArray a7⟩), (.int .i64 a8), (.int .i64 a9), (.slice A5 (List.length j) c6), (.slice A9 (List.length i) a4)]), (.agg #[(.string ⟨List.toArray b0⟩), (.int .i64 b1), (.int .i64 b2), (.slice a5 (List.length u) b3), (.slice a6 (List.length m) b4)])] w0 (fun e w' => e = .returned (.bool r) ∧ SP [] w0 w' []) := by
 unfold Zy at H
 refine Qv (n := 80) Tryz.func27 K K K ?_
 have e3 := Q1 [] w0
 refine aQ ?_
 refine aR ?_
 refine iS 1 ?_
 refine Z0 (t := 33) (x := (.tmp 0)) (v := (.agg #[(.string ⟨List.toArray a7⟩), (.int .i64 a8), (.int .i64 a9), (.slice A5 (List.length j) c6), (.slice A9 (List.length i) a4)])) (d := (some 2)) (k := 0) K rfl K e3 ?_
 intro f j4 e4
 refine iS 2 ?_
 refine Z0 (t := 33) (x := (.tmp 1)) (v := (.agg #[(.string ⟨List.toArray b0⟩), (.int .i64 b1), (.int .i64 b2), (.slice a5 (List.length u) b3), (.slice a6 (List.length m) b4)])) (d := (some 3)) (k := 1) K rfl K e4 ?_
 intro h j5 a1
 refine iR 1 3 [(4, (.bool false))] ?_
 refine iF ?_
 refine aQ ?_
 refine aQ ?_
 refine At.join (fun ρ w => ∃ (b5 : Bool), Zm ρ [(2, (pt f 0)), (3, (pt h 0)), (43, (.bool b5))] ∧ SP [] w0 w [Qq f 33 #[(.string ⟨List.toArray a7⟩), (.int .i64 a8), (.int .i64 a9), (.slice A5 (List.length j) c6), (.slice A9 (List.length i) a4)], Qq h 33 #[(.string ⟨List.toArray b0⟩), (.int .i64 b1), (.int .i64 b2), (.slice a5 (List.length u) b3), (.slice a6 (List.length m) b4)]] ∧ Vd j i u m b5 = some r) ?_ ?_
 ·refine aR ?_
  refine iR 1 1 [(7, (pt f 0))] ?_
  refine iS 2 ?_
  refine sL 9 7 f 0 0 (.string ⟨List.toArray a7⟩) 8 a1 rfl ?_
  refine iR 1 3 [(9, (pt h 0))] ?_
  refine iS 4 ?_
  refine sL 9 9 h 0 1 (.string ⟨List.toArray b0⟩) 10 a1 rfl ?_
  refine iS 5 ?_
  refine Xp (op := .neq) (T := 9) (T' := 9) (x := (.tmp 8)) (y := (.tmp 10)) (a := a7) (b := b0) (r := (.bool (!(a7 == b0)))) (d := (some 11)) (k := 4) K rfl K K rfl ?_
  refine iR 1 6 [(12, (.bool (!(a7 == b0))))] ?_
  refine In.guard (t := 12) (b := (!(a7 == b0))) K (fun b6 => ?_) (fun b6 => ?_)
  ·have H := ct H b6
   refine iR 31 37 [(13, undef), (14, undef), (15, undef), (16, undef), (17, undef), (18, (.bool true)), (19, (.bool true)), (20, undef), (21, undef), (22, undef), (23, undef), (24, undef), (25, (.bool true)), (26, (.bool true)), (27, undef), (28, undef), (29, undef), (30, undef), (31, undef), (32, undef), (33, undef), (34, (.bool true)), (35, (.bool true)), (36, undef), (37, undef), (38, undef), (39, undef), (40, undef), (41, undef), (42, undef), (43, (.bool true))] ?_
   refine iF ?_
   exact ⟨true, ⟨K, K, K, trivial⟩, SP.sel a1 [0, 1] rfl rfl, H⟩
  ·have H := cf H b6
   refine iR 1 7 [(13, (pt f 1))] ?_
   refine iS 8 ?_
   refine sL 3 13 f 1 0 (.int .i64 a8) 14 a1 rfl ?_
   refine iR 1 9 [(15, (pt h 1))] ?_
   refine iS 10 ?_
   refine sL 3 15 h 1 1 (.int .i64 b1) 16 a1 rfl ?_
   refine iR 3 13 [(17, (.bool (a8 != b1))), (18, (.bool (a8 != b1))), (19, (.bool (a8 != b1)))] ?_
   refine In.guard (t := 19) (b := (a8 != b1)) K (fun b7 => ?_) (fun b7 => ?_)
   ·have H := ct H b7
    refine iR 24 37 [(20, undef), (21, undef), (22, undef), (23, undef), (24, undef), (25, (.bool true)), (26, (.bool true)), (27, undef), (28, undef), (29, undef), (30, undef), (31, undef), (32, undef), (33, undef), (34, (.bool true)), (35, (.bool true)), (36, undef), (37, undef), (38, undef), (39, undef), (40, undef), (41, undef), (42, undef), (43, (.bool true))] ?_
    refine iF ?_
    exact ⟨true, ⟨K, K, K, trivial⟩, SP.sel a1 [0, 1] rfl rfl, H⟩
   ·have H := cf H b7
    refine iR 1 14 [(20, (pt f 2))] ?_
    refine iS 15 ?_
    refine sL 3 20 f 2 0 (.int .i64 a9) 21 a1 rfl ?_
    refine iR 1 16 [(22, (pt h 2))] ?_
    refine iS 17 ?_
    refine sL 3 22 h 2 1 (.int .i64 b2) 23 a1 rfl ?_
    refine iR 3 20 [(24, (.bool (a9 != b2))), (25, (.bool (a9 != b2))), (26, (.bool (a9 != b2)))] ?_
    refine In.guard (t := 26) (b := (a9 != b2)) K (fun b8 => ?_) (fun b8 => ?_)
    ·have H := ct H b8
     refine iR 17 37 [(27, undef), (28, undef), (29, undef), (30, undef), (31, undef), (32, undef), (33, undef), (34, (.bool true)), (35, (.bool true)), (36, undef), (37, undef), (38, undef), (39, undef), (40, undef), (41, undef), (42, undef), (43, (.bool true))] ?_
     refine iF ?_
     exact ⟨true, ⟨K, K, K, trivial⟩, SP.sel a1 [0, 1] rfl rfl, H⟩
    ·have H := cf H b8
     refine iR 1 21 [(27, (pt f 3))] ?_
     refine iS 22 ?_
     refine sL 30 27 f 3 0 (.slice A5 (List.length j) c6) 28 a1 rfl ?_
     refine iR 2 24 [(29, (.int .i64 ((List.length j : Nat) : Int))), (30, (pt h 3))] ?_
     refine iS 25 ?_
     refine sL 30 30 h 3 1 (.slice a5 (List.length u) b3) 31 a1 rfl ?_
     refine iR 4 29 [(32, (.int .i64 ((List.length u : Nat) : Int))), (33, (.bool (((List.length j : Nat) : Int) != ((List.length u : Nat) : Int)))), (34, (.bool (((List.length j : Nat) : Int) != ((List.length u : Nat) : Int)))), (35, (.bool (((List.length j : Nat) : Int) != ((List.length u : Nat) : Int))))] ?_
     refine In.guard (t := 35) (b := (((List.length j : Nat) : Int) != ((List.length u : Nat) : Int))) K (fun b9 => ?_) (fun b9 => ?_)
     ·have H := ct H b9
      refine iR 8 37 [(36, undef), (37, undef), (38, undef), (39, undef), (40, undef), (41, undef), (42, undef), (43, (.bool true))] ?_
      refine iF ?_
      exact ⟨true, ⟨K, K, K, trivial⟩, SP.sel a1 [0, 1] rfl rfl, H⟩
     ·have H := cf H b9
      refine iR 1 30 [(36, (pt f 4))] ?_
      refine iS 31 ?_
      refine sL 31 36 f 4 0 (.slice A9 (List.length i) a4) 37 a1 rfl ?_
      refine iR 2 33 [(38, (.int .i64 ((List.length i : Nat) : Int))), (39, (pt h 4))] ?_
      refine iS 34 ?_
      refine sL 31 39 h 4 1 (.slice a6 (List.length m) b4) 40 a1 rfl ?_
      refine iR 3 37 [(41, (.int .i64 ((List.length m : Nat) : Int))), (42, (.bool (((List.length i : Nat) : Int) != ((List.length m : Nat) : Int)))), (43, (.bool (((List.length i : Nat) : Int) != ((List.length m : Nat) : Int))))] ?_
      refine iF ?_
      exact ⟨(((List.length i : Nat) : Int) != ((List.length m : Nat) : Int)), ⟨K, K, K, trivial⟩, SP.sel a1 [0, 1] rfl rfl, H⟩
 ·rintro ρ j6 ⟨b5, hk, d4, H⟩
  unfold Vd at H
  first | refine At.known [(2, (pt f 0)), (3, (pt h 0)), (43, (.bool b5))] hk ?_ | rw [← Q3 (l := [(2, (pt f 0)), (3, (pt h 0)), (43, (.bool b5))]) hk]
  refine Xe K (o := (.tmp 43)) K (b := b5) K (fun c0 => ?_) (fun c0 => ?_)
  ·have H := ct H c0
   refine aQ ?_
   refine aR ?_
   refine iR 1 1 [(4, (.bool false))] ?_
   refine iF ?_
   refine At.ret K ?_
   refine ⟨(.bool false), K, ?_⟩
   obtain rfl := Qg H
   exact ⟨rfl, SP.sel d4 [] rfl rfl⟩
  ·have H := cf H c0
   refine At.skip K ?_
   refine aQ ?_
   refine aQ ?_
   refine aR ?_
   refine iR 1 1 [(5, (.int .i64 0))] ?_
   refine iF ?_
   refine Y0 K (id := 0) K ?_
   refine G3 K (fun f4 ρ w => ∃ (q : Int), Zm ρ [(2, (pt f 0)), (3, (pt h 0)), (5, (.int .i64 q))] ∧ SP [] w0 w [Qq f 33 #[(.string ⟨List.toArray a7⟩), (.int .i64 a8), (.int .i64 a9), (.slice A5 (List.length j) c6), (.slice A9 (List.length i) a4)], Qq h 33 #[(.string ⟨List.toArray b0⟩), (.int .i64 b1), (.int .i64 b2), (.slice a5 (List.length u) b3), (.slice a6 (List.length m) b4)]] ∧ Q2 j i u m f4 q = some r) (by rintro ρ w ⟨q, hk, hs, H⟩; cases H) ?_ Xx ?_
   ·rintro f4 ρ j7 ⟨q, hk, c1, H⟩
    refine At.known [(2, (pt f 0)), (3, (pt h 0)), (5, (.int .i64 q))] hk ?_
    replace H := (show Vs (Q2 j i u m f4) j i u m q = some r from H)
    unfold Vs at H
    refine aQ ?_
    refine aQ ?_
    refine aR ?_
    refine iR 2 2 [(44, (.int .i64 q)), (45, (pt f 3))] ?_
    refine iS 3 ?_
    refine sL 30 45 f 3 0 (.slice A5 (List.length j) c6) 46 c1 rfl ?_
    refine iR 2 5 [(47, (.int .i64 ((List.length j : Nat) : Int))), (48, (.bool (decide (q < ((List.length j : Nat) : Int)))))] ?_
    refine iF ?_
    refine Xe K (o := (.tmp 48)) K (b := (decide (q < ((List.length j : Nat) : Int)))) K (fun c2 => ?_) (fun c2 => ?_)
    ·have H := ct H c2
     refine At.skip K ?_
     refine aQ ?_
     refine Y0 K (id := 1) K ?_
     refine aQ ?_
     obtain ⟨a2, d5, d6, e5, H⟩ := Ve H
     obtain ⟨a3, d7, d8, e6, H⟩ := Ve H
     refine aG [GEq (pt f 3), GEq (.slice A5 (List.length j) c6), GEq (.int .i64 q), Yb A5 (Qf (Q4 .u32) (Q4 .i64)).sz q, GEq (.agg #[(.int .u32 a2.1), (.int .i64 a2.2)]), GEq (pt h 3), GEq (.slice a5 (List.length u) b3), GEq (.int .i64 q), Yb a5 (Qf (Q4 .u32) (Q4 .i64)).sz q, GEq (.agg #[(.int .u32 a3.1), (.int .i64 a3.2)]), GEq (.bool (!((a2.1 == a3.1) && (a2.2 == a3.2))))] [] (tG [] w0 [Qq f 33 #[(.string ⟨List.toArray a7⟩), (.int .i64 a8), (.int .i64 a9), (.slice A5 (List.length j) c6), (.slice A9 (List.length i) a4)], Qq h 33 #[(.string ⟨List.toArray b0⟩), (.int .i64 b1), (.int .i64 b2), (.slice a5 (List.length u) b3), (.slice a6 (List.length m) b4)]] [([], [])]) 11 0 ⟨trivial, SP.drew c1⟩ ?_ ?_
     iterate 11 refine And.intro ?_ ?_
     exact trivial
     ·exact oV (hC (hS 2 (pt f 0)) (h0)) (pt f 3)
     ·refine oL 0 ?_
      ·rintro ρ' w' hs g ⟨j8, e7⟩
       refine kM (kc (kA g 0 51) k0) fun p => ?_
       refine sL 30 51 f 3 0 (.slice A5 (List.length j) c6) 52 e7 rfl ?_
       exact eK p
     ·exact oV (hC (hS 5 (.int .i64 q)) (h0)) (.int .i64 q)
     ·refine oL 0 ?_
      ·rintro ρ' w' hs g ⟨j9, e8⟩
       refine kM (kc (kA g 1 52) (kc (kA g 2 53) k0)) fun p => ?_
       refine Qn (e := (Qf (Q4 .u32) (Q4 .i64))) (l := j) (A := A5) (c := c6) (T := 30) (E := 102) (x := (.tmp 52)) (ix := (.tmp 53)) (ki := .i64) (iz := q) (d := (some 54)) (k := 3) K rfl K K K K (RdT.sp d0 e8) d5 d6 ?_
       intro e9 f0 f1 k1 hc500
       exact ⟨rfl, _, Qa p, ⟨e9, f0, f1, rfl⟩⟩
     ·refine oL 0 ?_
      ·rintro ρ' w' hs g ⟨k2, f2⟩
       obtain ⟨f3, f6, f7, f8⟩ := g 3 54 K
       refine kM (kc f8 k0) fun p => ?_
       refine Qi.cells (t := 102) (x := (.tmp 54)) (b := f3) (off := (f6 + Int.toNat q * (Qf (Q4 .u32) (Q4 .i64)).sz)) (xs := [(.int .u32 a2.1), (.int .i64 a2.2)]) (d := (some 55)) (k := 4) K rfl K K K (Vv (e := (Qf (Q4 .u32) (Q4 .i64))) (Qj (RdT.sp d0 f2) f7 d5 d6) e5 rfl) ?_
       exact eK p
     ·exact oV (hC (hS 3 (pt h 0)) (h0)) (pt h 3)
     ·refine oL 0 ?_
      ·rintro ρ' w' hs g ⟨k3, f9⟩
       refine kM (kc (kA g 5 56) k0) fun p => ?_
       refine sL 30 56 h 3 1 (.slice a5 (List.length u) b3) 57 f9 rfl ?_
       exact eK p
     ·exact oV (hC (hS 5 (.int .i64 q)) (h0)) (.int .i64 q)
     ·refine oL 0 ?_
      ·rintro ρ' w' hs g ⟨k4, g0⟩
       refine kM (kc (kA g 6 57) (kc (kA g 7 58) k0)) fun p => ?_
       refine Qn (e := (Qf (Q4 .u32) (Q4 .i64))) (l := u) (A := a5) (c := b3) (T := 30) (E := 102) (x := (.tmp 57)) (ix := (.tmp 58)) (ki := .i64) (iz := q) (d := (some 59)) (k := 8) K rfl K K K K (RdT.sp d2 g0) d7 d8 ?_
       intro g1 g2 g3 k5 hc514
       exact ⟨rfl, _, Qa p, ⟨g1, g2, g3, rfl⟩⟩
     ·refine oL 0 ?_
      ·rintro ρ' w' hs g ⟨k6, g4⟩
       obtain ⟨g5, g6, g7, g8⟩ := g 8 59 K
       refine kM (kc g8 k0) fun p => ?_
       refine Qi.cells (t := 102) (x := (.tmp 59)) (b := g5) (off := (g6 + Int.toNat q * (Qf (Q4 .u32) (Q4 .i64)).sz)) (xs := [(.int .u32 a3.1), (.int .i64 a3.2)]) (d := (some 60)) (k := 9) K rfl K K K (Vv (e := (Qf (Q4 .u32) (Q4 .i64))) (Qj (RdT.sp d2 g4) g7 d7 d8) e6 rfl) ?_
       exact eK p
     ·refine oL 0 ?_
      ·rintro ρ' w' hs g ⟨k7, k8⟩
       refine kM (kc (kA g 4 55) (kc (kA g 9 60) k0)) fun p => ?_
       refine Ki (op := .neq) (T := 102) (T' := 102) (x := (.tmp 55)) (y := (.tmp 60)) (vx := (.agg #[(.int .u32 a2.1), (.int .i64 a2.2)])) (vy := (.agg #[(.int .u32 a3.1), (.int .i64 a3.2)])) (v := (.bool (!((a2.1 == a3.1) && (a2.2 == a3.2))))) (d := (some 61)) (k := 10) K rfl K K (by clear H; intro w; simp only [Fz]; go_simp; simp only [E7, Cz, Hm, Fz, Bool.and_true] <;> simp only [Bool.not_and]) ?_
       exact eK p
     ·rintro ρ' w' hs hf ⟨k9, c3⟩
      refine V2 [(2, (pt f 0)), (3, (pt h 0)), (5, (.int .i64 q)), (61, (.bool (!((a2.1 == a3.1) && (a2.2 == a3.2)))))] ⟨(hs 2 K).trans K, (hs 3 K).trans K, (hs 5 K).trans K, hf 10 61 K, trivial⟩ ?_
      obtain ⟨l0, g9⟩ : ∃ x, w' = x := ⟨_, rfl⟩
      rw [g9] at c3 ⊢
      refine Xe K (o := (.tmp 61)) K (b := (!((a2.1 == a3.1) && (a2.2 == a3.2)))) K (fun c4 => ?_) (fun c4 => ?_)
      ·have H := ct H c4
       refine aQ ?_
       refine aR ?_
       refine iR 1 1 [(4, (.bool false))] ?_
       refine iF ?_
       refine At.ret K ?_
       refine ⟨(.bool false), K, ?_⟩
       obtain rfl := Qg H
       exact ⟨rfl, SP.sel c3 [] rfl rfl⟩
      ·have H := cf H c4
       refine At.skip K ?_
       refine aR ?_
       refine iR 3 3 [(49, (.int .i64 q)), (50, (.int .i64 (IntKind.wrap .i64 (q + 1)))), (5, (.int .i64 (IntKind.wrap .i64 (q + 1))))] ?_
       refine iF ?_
       exact ⟨(IntKind.wrap .i64 (q + 1)), ⟨K, K, K, trivial⟩, SP.sel c3 [0, 1] rfl rfl, H⟩
    ·have H := cf H c2
     refine At.exit K (id := 0) K ?_
     refine aQ ?_
     refine aQ ?_
     refine aR ?_
     refine iR 1 1 [(6, (.int .i64 0))] ?_
     refine iF ?_
     refine Y0 K (id := 2) K ?_
     refine G3 K (fun f5 ρ w => ∃ (s : Int), Zm ρ [(2, (pt f 0)), (3, (pt h 0)), (6, (.int .i64 s))] ∧ SP [] w0 w [Qq f 33 #[(.string ⟨List.toArray a7⟩), (.int .i64 a8), (.int .i64 a9), (.slice A5 (List.length j) c6), (.slice A9 (List.length i) a4)], Qq h 33 #[(.string ⟨List.toArray b0⟩), (.int .i64 b1), (.int .i64 b2), (.slice a5 (List.length u) b3), (.slice a6 (List.length m) b4)]] ∧ Vr (Q2 j i u m f4) i m f5 s = some r) (by rintro ρ w ⟨s, hk, hs, H⟩; cases H) ?_ Xx ?_
     ·rintro f5 ρ l1 ⟨s, hk, c5, H⟩
      refine At.known [(2, (pt f 0)), (3, (pt h 0)), (6, (.int .i64 s))] hk ?_
      replace H := (show Vq (Q2 j i u m f4) (Vr (Q2 j i u m f4) i m f5) i m s = some r from H)
      unfold Vq at H
      refine aQ ?_
      refine aQ ?_
      refine aR ?_
      refine iR 2 2 [(62, (.int .i64 s)), (63, (pt f 4))] ?_
      refine iS 3 ?_
      refine sL 31 63 f 4 0 (.slice A9 (List.length i) a4) 64 c5 rfl ?_
      refine iR 2 5 [(65, (.int .i64 ((List.length i : Nat) : Int))), (66, (.bool (decide (s < ((List.length i : Nat) : Int)))))] ?_
      refine iF ?_
      refine Xe K (o := (.tmp 66)) K (b := (decide (s < ((List.length i : Nat) : Int)))) K (fun c7 => ?_) (fun c7 => ?_)
      ·have H := ct H c7
       refine At.skip K ?_
       refine aQ ?_
       refine Y0 K (id := 3) K ?_
       refine aQ ?_
       obtain ⟨z, d9, e0, h1, H⟩ := Ve H
       obtain ⟨a0, e1, e2, h2, H⟩ := Ve H
       refine aG [GEq (pt f 4), GEq (.slice A9 (List.length i) a4), GEq (.int .i64 s), Yb A9 (Qf Ql (Qf Ql (Q4 .i64))).sz s, GEq (.agg #[(.string ⟨List.toArray z.1⟩), (.string ⟨List.toArray z.2.1⟩), (.int .i64 z.2.2)]), GEq (pt h 4), GEq (.slice a6 (List.length m) b4), GEq (.int .i64 s), Yb a6 (Qf Ql (Qf Ql (Q4 .i64))).sz s, GEq (.agg #[(.string ⟨List.toArray a0.1⟩), (.string ⟨List.toArray a0.2.1⟩), (.int .i64 a0.2.2)]), GEq (.bool (!((z.1 == a0.1) && ((z.2.1 == a0.2.1) && (z.2.2 == a0.2.2)))))] [] (tG [] w0 [Qq f 33 #[(.string ⟨List.toArray a7⟩), (.int .i64 a8), (.int .i64 a9), (.slice A5 (List.length j) c6), (.slice A9 (List.length i) a4)], Qq h 33 #[(.string ⟨List.toArray b0⟩), (.int .i64 b1), (.int .i64 b2), (.slice a5 (List.length u) b3), (.slice a6 (List.length m) b4)]] [([], [])]) 11 0 ⟨trivial, SP.drew c5⟩ ?_ ?_
       iterate 11 refine And.intro ?_ ?_
       exact trivial
       ·exact oV (hC (hS 2 (pt f 0)) (h0)) (pt f 4)
       ·refine oL 0 ?_
        ·rintro ρ' w' hs g ⟨l2, h3⟩
         refine kM (kc (kA g 0 69) k0) fun p => ?_
         refine sL 31 69 f 4 0 (.slice A9 (List.length i) a4) 70 h3 rfl ?_
         exact eK p
       ·exact oV (hC (hS 6 (.int .i64 s)) (h0)) (.int .i64 s)
       ·refine oL 0 ?_
        ·rintro ρ' w' hs g ⟨l3, h4⟩
         refine kM (kc (kA g 1 70) (kc (kA g 2 71) k0)) fun p => ?_
         refine Qn (e := (Qf Ql (Qf Ql (Q4 .i64)))) (l := i) (A := A9) (c := a4) (T := 31) (E := 37) (x := (.tmp 70)) (ix := (.tmp 71)) (ki := .i64) (iz := s) (d := (some 72)) (k := 3) K rfl K K K K (RdT.sp d1 h4) d9 e0 ?_
         intro h5 h6 h7 l4 hc663
         exact ⟨rfl, _, Qa p, ⟨h5, h6, h7, rfl⟩⟩
       ·refine oL 0 ?_
        ·rintro ρ' w' hs g ⟨l5, h8⟩
         obtain ⟨h9, i0, i1, i2⟩ := g 3 72 K
         refine kM (kc i2 k0) fun p => ?_
         refine Qi.cells (t := 37) (x := (.tmp 72)) (b := h9) (off := (i0 + Int.toNat s * (Qf Ql (Qf Ql (Q4 .i64))).sz)) (xs := [(.string ⟨List.toArray z.1⟩), (.string ⟨List.toArray z.2.1⟩), (.int .i64 z.2.2)]) (d := (some 73)) (k := 4) K rfl K K K (Vv (e := (Qf Ql (Qf Ql (Q4 .i64)))) (Qj (RdT.sp d1 h8) i1 d9 e0) h1 rfl) ?_
         exact eK p
       ·exact oV (hC (hS 3 (pt h 0)) (h0)) (pt h 4)
       ·refine oL 0 ?_
        ·rintro ρ' w' hs g ⟨l6, i3⟩
         refine kM (kc (kA g 5 74) k0) fun p => ?_
         refine sL 31 74 h 4 1 (.slice a6 (List.length m) b4) 75 i3 rfl ?_
         exact eK p
       ·exact oV (hC (hS 6 (.int .i64 s)) (h0)) (.int .i64 s)
       ·refine oL 0 ?_
        ·rintro ρ' w' hs g ⟨l7, i4⟩
         refine kM (kc (kA g 6 75) (kc (kA g 7 76) k0)) fun p => ?_
         refine Qn (e := (Qf Ql (Qf Ql (Q4 .i64)))) (l := m) (A := a6) (c := b4) (T := 31) (E := 37) (x := (.tmp 75)) (ix := (.tmp 76)) (ki := .i64) (iz := s) (d := (some 77)) (k := 8) K rfl K K K K (RdT.sp d3 i4) e1 e2 ?_
         intro i5 i6 i7 l8 hc677
         exact ⟨rfl, _, Qa p, ⟨i5, i6, i7, rfl⟩⟩
       ·refine oL 0 ?_
        ·rintro ρ' w' hs g ⟨l9, i8⟩
         obtain ⟨i9, j0, j1, j2⟩ := g 8 77 K
         refine kM (kc j2 k0) fun p => ?_
         refine Qi.cells (t := 37) (x := (.tmp 77)) (b := i9) (off := (j0 + Int.toNat s * (Qf Ql (Qf Ql (Q4 .i64))).sz)) (xs := [(.string ⟨List.toArray a0.1⟩), (.string ⟨List.toArray a0.2.1⟩), (.int .i64 a0.2.2)]) (d := (some 78)) (k := 9) K rfl K K K (Vv (e := (Qf Ql (Qf Ql (Q4 .i64)))) (Qj (RdT.sp d3 i8) j1 e1 e2) h2 rfl) ?_
         exact eK p
       ·refine oL 0 ?_
        ·rintro ρ' w' hs g ⟨m0, m1⟩
         refine kM (kc (kA g 4 73) (kc (kA g 9 78) k0)) fun p => ?_
         refine Ki (op := .neq) (T := 37) (T' := 37) (x := (.tmp 73)) (y := (.tmp 78)) (vx := (.agg #[(.string ⟨List.toArray z.1⟩), (.string ⟨List.toArray z.2.1⟩), (.int .i64 z.2.2)])) (vy := (.agg #[(.string ⟨List.toArray a0.1⟩), (.string ⟨List.toArray a0.2.1⟩), (.int .i64 a0.2.2)])) (v := (.bool (!((z.1 == a0.1) && ((z.2.1 == a0.2.1) && (z.2.2 == a0.2.2)))))) (d := (some 79)) (k := 10) K rfl K K (by clear H; intro w; simp only [Fz]; go_simp; simp only [E7, Cz, Hm, Fz, Bool.and_true] <;> simp only [Bool.not_and]) ?_
         exact eK p
       ·rintro ρ' w' hs hf ⟨m2, c8⟩
        refine V2 [(2, (pt f 0)), (3, (pt h 0)), (6, (.int .i64 s)), (79, (.bool (!((z.1 == a0.1) && ((z.2.1 == a0.2.1) && (z.2.2 == a0.2.2))))))] ⟨(hs 2 K).trans K, (hs 3 K).trans K, (hs 6 K).trans K, hf 10 79 K, trivial⟩ ?_
        obtain ⟨m3, j3⟩ : ∃ x, w' = x := ⟨_, rfl⟩
        rw [j3] at c8 ⊢
        refine Xe K (o := (.tmp 79)) K (b := (!((z.1 == a0.1) && ((z.2.1 == a0.2.1) && (z.2.2 == a0.2.2))))) K (fun c9 => ?_) (fun c9 => ?_)
        ·have H := ct H c9
         refine aQ ?_
         refine aR ?_
         refine iR 1 1 [(4, (.bool false))] ?_
         refine iF ?_
         refine At.ret K ?_
         refine ⟨(.bool false), K, ?_⟩
         obtain rfl := Qg H
         exact ⟨rfl, SP.sel c8 [] rfl rfl⟩
        ·have H := cf H c9
         refine At.skip K ?_
         refine aR ?_
         refine iR 3 3 [(67, (.int .i64 s)), (68, (.int .i64 (IntKind.wrap .i64 (s + 1)))), (6, (.int .i64 (IntKind.wrap .i64 (s + 1))))] ?_
         refine iF ?_
         exact ⟨(IntKind.wrap .i64 (s + 1)), ⟨K, K, K, trivial⟩, SP.sel c8 [0, 1] rfl rfl, H⟩
      ·have H := cf H c7
       refine At.exit K (id := 2) K ?_
       refine aQ ?_
       refine aR ?_
       refine iR 1 1 [(4, (.bool true))] ?_
       refine iF ?_
       refine At.ret K ?_
       refine ⟨(.bool true), K, ?_⟩
       obtain rfl := Qg H
       exact ⟨rfl, SP.sel c5 [] rfl rfl⟩
     ·exact ⟨0, ⟨K, K, K, trivial⟩, SP.sel c1 [0, 1] rfl rfl, H⟩
   ·exact ⟨0, ⟨K, K, K, trivial⟩, SP.sel d4 [0, 1] rfl rfl, H⟩
def Ze (e : Int → Option (Bool)) (d : (List Qb)) (f : (List Qb)) (c : Int) : Option (Bool) :=
  (cond (decide (c < ((List.length d : Nat) : Int))) ((idx d c).bind fun a => ((idx f c).bind fun b => ((Zy a.1 a.2.1 a.2.2.1 a.2.2.2.1 a.2.2.2.2 b.1 b.2.1 b.2.2.1 b.2.2.2.1 b.2.2.2.2).bind fun g => (cond (!g) (some (false)) (e (IntKind.wrap .i64 (c + 1))))))) (some (true)))
def Zf (a : (List Qb)) (b : (List Qb)) : Nat → Int → Option (Bool)
  | 0, _ => none
  | f + 1, c => Ze  (Zf a b f) a b c
def V3 (a : (List Qb)) (b : (List Qb)) (c : Bool) : Option (Bool) :=
  (cond c (some (false)) (Zf a b Xx 0))
def Xt (c : Int) (d : Int) (e : Int) (f : Int) (a : (List Qb)) (g : Int) (h : Int) (i : Int) (j : Int) (b : (List Qb)) : Option (Bool) :=
  (cond (c != g) (V3 a b true) (cond (d != h) (V3 a b true) (cond (e != i) (V3 a b true) (cond (f != j) (V3 a b true) (V3 a b (((List.length a : Nat) : Int) != ((List.length b : Nat) : Int)))))))
set_option maxHeartbeats 40000000 in
theorem Rc (A6 : Option Addr) (c7 : Nat) (s : Option Addr) (a3 : Nat) (a4 : Int) (u : Int) (y : Int) (z : Int) (d9 : (List Qh)) (a5 : Int) (a0 : Int) (a1 : Int) (a2 : Int) (j : (List Qh)) (w0 : World) (a9 : (dDS V1 Fc).ok w0 (A6, c7, d9)) (b0 : (dDS V1 Fc).ok w0 (s, a3, j)) (r : (Bool)) (H : Xt a4 u y z (List.map stT d9) a5 a0 a1 a2 (List.map stT j) = some r) :
  Calls Tryz.prog 26 #[(.agg #[(.int .i64 a4), (.int .i64 u), (.int .i64 y), (.int .i64 z), (.slice A6 (List.length (List.map stT d9)) c7)]), (.agg #[(.int .i64 a5), (.int .i64 a0), (.int .i64 a1), (.int .i64 a2), (.slice s (List.length (List.map stT j)) a3)])] w0 (fun e w' => e = .returned (.bool r) ∧ SP [] w0 w' []) := by
 unfold Xt at H
 refine Qv (n := 60) Tryz.func26 K K K ?_
 have c9 := Q1 [] w0
 refine aQ ?_
 refine aR ?_
 refine iS 1 ?_
 refine Z0 (t := 24) (x := (.tmp 0)) (v := (.agg #[(.int .i64 a4), (.int .i64 u), (.int .i64 y), (.int .i64 z), (.slice A6 (List.length (List.map stT d9)) c7)])) (d := (some 2)) (k := 0) K rfl K c9 ?_
 intro h f6 d0
 refine iS 2 ?_
 refine Z0 (t := 24) (x := (.tmp 1)) (v := (.agg #[(.int .i64 a5), (.int .i64 a0), (.int .i64 a1), (.int .i64 a2), (.slice s (List.length (List.map stT j)) a3)])) (d := (some 3)) (k := 1) K rfl K d0 ?_
 intro i f7 p
 refine iR 1 3 [(4, (.bool false))] ?_
 refine iF ?_
 refine aQ ?_
 refine aQ ?_
 refine At.join (fun ρ w => ∃ (a7 : Bool), Zm ρ [(2, (pt h 0)), (3, (pt i 0)), (40, (.bool a7))] ∧ SP [] w0 w [Qq h 24 #[(.int .i64 a4), (.int .i64 u), (.int .i64 y), (.int .i64 z), (.slice A6 (List.length (List.map stT d9)) c7)], Qq i 24 #[(.int .i64 a5), (.int .i64 a0), (.int .i64 a1), (.int .i64 a2), (.slice s (List.length (List.map stT j)) a3)]] ∧ V3 (List.map stT d9) (List.map stT j) a7 = some r) ?_ ?_
 ·refine aR ?_
  refine iR 1 1 [(6, (pt h 0))] ?_
  refine iS 2 ?_
  refine sL 2 6 h 0 0 (.int .i64 a4) 7 p rfl ?_
  refine iR 1 3 [(8, (pt i 0))] ?_
  refine iS 4 ?_
  refine sL 2 8 i 0 1 (.int .i64 a5) 9 p rfl ?_
  refine iR 2 6 [(10, (.bool (a4 != a5))), (11, (.bool (a4 != a5)))] ?_
  refine In.guard (t := 11) (b := (a4 != a5)) K (fun b1 => ?_) (fun b1 => ?_)
  ·have H := ct H b1
   refine iR 29 35 [(12, undef), (13, undef), (14, undef), (15, undef), (16, undef), (17, (.bool true)), (18, (.bool true)), (19, undef), (20, undef), (21, undef), (22, undef), (23, undef), (24, (.bool true)), (25, (.bool true)), (26, undef), (27, undef), (28, undef), (29, undef), (30, undef), (31, (.bool true)), (32, (.bool true)), (33, undef), (34, undef), (35, undef), (36, undef), (37, undef), (38, undef), (39, undef), (40, (.bool true))] ?_
   refine iF ?_
   exact ⟨true, ⟨K, K, K, trivial⟩, SP.sel p [0, 1] rfl rfl, H⟩
  ·have H := cf H b1
   refine iR 1 7 [(12, (pt h 1))] ?_
   refine iS 8 ?_
   refine sL 2 12 h 1 0 (.int .i64 u) 13 p rfl ?_
   refine iR 1 9 [(14, (pt i 1))] ?_
   refine iS 10 ?_
   refine sL 2 14 i 1 1 (.int .i64 a0) 15 p rfl ?_
   refine iR 3 13 [(16, (.bool (u != a0))), (17, (.bool (u != a0))), (18, (.bool (u != a0)))] ?_
   refine In.guard (t := 18) (b := (u != a0)) K (fun b2 => ?_) (fun b2 => ?_)
   ·have H := ct H b2
    refine iR 22 35 [(19, undef), (20, undef), (21, undef), (22, undef), (23, undef), (24, (.bool true)), (25, (.bool true)), (26, undef), (27, undef), (28, undef), (29, undef), (30, undef), (31, (.bool true)), (32, (.bool true)), (33, undef), (34, undef), (35, undef), (36, undef), (37, undef), (38, undef), (39, undef), (40, (.bool true))] ?_
    refine iF ?_
    exact ⟨true, ⟨K, K, K, trivial⟩, SP.sel p [0, 1] rfl rfl, H⟩
   ·have H := cf H b2
    refine iR 1 14 [(19, (pt h 2))] ?_
    refine iS 15 ?_
    refine sL 2 19 h 2 0 (.int .i64 y) 20 p rfl ?_
    refine iR 1 16 [(21, (pt i 2))] ?_
    refine iS 17 ?_
    refine sL 2 21 i 2 1 (.int .i64 a1) 22 p rfl ?_
    refine iR 3 20 [(23, (.bool (y != a1))), (24, (.bool (y != a1))), (25, (.bool (y != a1)))] ?_
    refine In.guard (t := 25) (b := (y != a1)) K (fun b3 => ?_) (fun b3 => ?_)
    ·have H := ct H b3
     refine iR 15 35 [(26, undef), (27, undef), (28, undef), (29, undef), (30, undef), (31, (.bool true)), (32, (.bool true)), (33, undef), (34, undef), (35, undef), (36, undef), (37, undef), (38, undef), (39, undef), (40, (.bool true))] ?_
     refine iF ?_
     exact ⟨true, ⟨K, K, K, trivial⟩, SP.sel p [0, 1] rfl rfl, H⟩
    ·have H := cf H b3
     refine iR 1 21 [(26, (pt h 3))] ?_
     refine iS 22 ?_
     refine sL 2 26 h 3 0 (.int .i64 z) 27 p rfl ?_
     refine iR 1 23 [(28, (pt i 3))] ?_
     refine iS 24 ?_
     refine sL 2 28 i 3 1 (.int .i64 a2) 29 p rfl ?_
     refine iR 3 27 [(30, (.bool (z != a2))), (31, (.bool (z != a2))), (32, (.bool (z != a2)))] ?_
     refine In.guard (t := 32) (b := (z != a2)) K (fun b4 => ?_) (fun b4 => ?_)
     ·have H := ct H b4
      refine iR 8 35 [(33, undef), (34, undef), (35, undef), (36, undef), (37, undef), (38, undef), (39, undef), (40, (.bool true))] ?_
      refine iF ?_
      exact ⟨true, ⟨K, K, K, trivial⟩, SP.sel p [0, 1] rfl rfl, H⟩
     ·have H := cf H b4
      refine iR 1 28 [(33, (pt h 4))] ?_
      refine iS 29 ?_
      refine sL 22 33 h 4 0 (.slice A6 (List.length (List.map stT d9)) c7) 34 p rfl ?_
      refine iR 2 31 [(35, (.int .i64 ((List.length (List.map stT d9) : Nat) : Int))), (36, (pt i 4))] ?_
      refine iS 32 ?_
      refine sL 22 36 i 4 1 (.slice s (List.length (List.map stT j)) a3) 37 p rfl ?_
      refine iR 3 35 [(38, (.int .i64 ((List.length (List.map stT j) : Nat) : Int))), (39, (.bool (((List.length (List.map stT d9) : Nat) : Int) != ((List.length (List.map stT j) : Nat) : Int)))), (40, (.bool (((List.length (List.map stT d9) : Nat) : Int) != ((List.length (List.map stT j) : Nat) : Int))))] ?_
      refine iF ?_
      exact ⟨(((List.length (List.map stT d9) : Nat) : Int) != ((List.length (List.map stT j) : Nat) : Int)), ⟨K, K, K, trivial⟩, SP.sel p [0, 1] rfl rfl, H⟩
 ·rintro ρ w32 ⟨a7, hk, c2, H⟩
  unfold V3 at H
  first | refine At.known [(2, (pt h 0)), (3, (pt i 0)), (40, (.bool a7))] hk ?_ | rw [← Q3 (l := [(2, (pt h 0)), (3, (pt i 0)), (40, (.bool a7))]) hk]
  refine Xe K (o := (.tmp 40)) K (b := a7) K (fun b5 => ?_) (fun b5 => ?_)
  ·have H := ct H b5
   refine aQ ?_
   refine aR ?_
   refine iR 1 1 [(4, (.bool false))] ?_
   refine iF ?_
   refine At.ret K ?_
   refine ⟨(.bool false), K, ?_⟩
   obtain rfl := Qg H
   exact ⟨rfl, SP.sel c2 [] rfl rfl⟩
  ·have H := cf H b5
   refine At.skip K ?_
   refine aQ ?_
   refine aQ ?_
   refine aR ?_
   refine iR 1 1 [(5, (.int .i64 0))] ?_
   refine iF ?_
   refine Y0 K (id := 0) K ?_
   refine G3 K (fun f2 ρ w => ∃ (g : Int), Zm ρ [(2, (pt h 0)), (3, (pt i 0)), (5, (.int .i64 g))] ∧ SP [] w0 w [Qq h 24 #[(.int .i64 a4), (.int .i64 u), (.int .i64 y), (.int .i64 z), (.slice A6 (List.length (List.map stT d9)) c7)], Qq i 24 #[(.int .i64 a5), (.int .i64 a0), (.int .i64 a1), (.int .i64 a2), (.slice s (List.length (List.map stT j)) a3)]] ∧ Zf (List.map stT d9) (List.map stT j) f2 g = some r) (by rintro ρ w ⟨g, hk, hs, H⟩; cases H) ?_ Xx ?_
   ·rintro f2 ρ f8 ⟨g, hk, b6, H⟩
    refine At.known [(2, (pt h 0)), (3, (pt i 0)), (5, (.int .i64 g))] hk ?_
    replace H := (show Ze (Zf (List.map stT d9) (List.map stT j) f2) (List.map stT d9) (List.map stT j) g = some r from H)
    unfold Ze at H
    refine aQ ?_
    refine aQ ?_
    refine aR ?_
    refine iR 2 2 [(41, (.int .i64 g)), (42, (pt h 4))] ?_
    refine iS 3 ?_
    refine sL 22 42 h 4 0 (.slice A6 (List.length (List.map stT d9)) c7) 43 b6 rfl ?_
    refine iR 2 5 [(44, (.int .i64 ((List.length (List.map stT d9) : Nat) : Int))), (45, (.bool (decide (g < ((List.length (List.map stT d9) : Nat) : Int)))))] ?_
    refine iF ?_
    refine Xe K (o := (.tmp 45)) K (b := (decide (g < ((List.length (List.map stT d9) : Nat) : Int)))) K (fun b7 => ?_) (fun b7 => ?_)
    ·have H := ct H b7
     refine At.skip K ?_
     refine aQ ?_
     refine Y0 K (id := 1) K ?_
     refine aQ ?_
     obtain ⟨a, c3, c4, b8, H⟩ := J6 H
     obtain ⟨f, c5, c6, b9, H⟩ := J6 H
     obtain ⟨a6, d1, H⟩ := Qd H
     refine aG [GEq (pt h 4), GEq (.slice A6 (List.length (List.map stT d9)) c7), GEq (.int .i64 g), Yb A6 V1.sz g, GEq (.agg #[(.string ⟨List.toArray (stT a).1⟩), (.int .i64 (stT a).2.1), (.int .i64 (stT a).2.2.1), (.slice a.2.2.2.1.1 (List.length (stT a).2.2.2.1) a.2.2.2.1.2.1), (.slice a.2.2.2.2.1 (List.length (stT a).2.2.2.2) a.2.2.2.2.2.1)]), GEq (pt i 4), GEq (.slice s (List.length (List.map stT j)) a3), GEq (.int .i64 g), Yb s V1.sz g, GEq (.agg #[(.string ⟨List.toArray (stT f).1⟩), (.int .i64 (stT f).2.1), (.int .i64 (stT f).2.2.1), (.slice f.2.2.2.1.1 (List.length (stT f).2.2.2.1) f.2.2.2.1.2.1), (.slice f.2.2.2.2.1 (List.length (stT f).2.2.2.2) f.2.2.2.2.2.1)]), GEq (.bool a6), GEq (.bool (!a6))] [10] (tG [] w0 [Qq h 24 #[(.int .i64 a4), (.int .i64 u), (.int .i64 y), (.int .i64 z), (.slice A6 (List.length (List.map stT d9)) c7)], Qq i 24 #[(.int .i64 a5), (.int .i64 a0), (.int .i64 a1), (.int .i64 a2), (.slice s (List.length (List.map stT j)) a3)]] [([], []), ([10], [(.bool a6)])]) 12 1 ⟨trivial, SP.drew b6⟩ ?_ ?_
     iterate 12 refine And.intro ?_ ?_
     exact trivial
     ·exact oV (hC (hS 2 (pt h 0)) (h0)) (pt h 4)
     ·refine oL 0 ?_
      ·rintro ρ' w' hs m ⟨f9, d2⟩
       refine kM (kc (kA m 0 48) k0) fun q => ?_
       refine sL 22 48 h 4 0 (.slice A6 (List.length (List.map stT d9)) c7) 49 d2 rfl ?_
       exact eK q
     ·exact oV (hC (hS 5 (.int .i64 g)) (h0)) (.int .i64 g)
     ·refine oL 0 ?_
      ·rintro ρ' w' hs m ⟨g0, d3⟩
       refine kM (kc (kA m 1 49) (kc (kA m 2 50) k0)) fun q => ?_
       refine Yu stT (e := V1) (l := d9) (A := A6) (c := c7) (T := 22) (E := 33) (x := (.tmp 49)) (ix := (.tmp 50)) (ki := .i64) (iz := g) (d := (some 51)) (k := 3) K rfl K K K K (RdT.sp (Yh a9) d3) c3 c4 ?_
       intro d4 d5 d6 g1 hc216
       exact ⟨rfl, _, Qa q, ⟨d4, d5, d6, rfl⟩⟩
     ·refine oL 0 ?_
      ·rintro ρ' w' hs m ⟨g2, d7⟩
       obtain ⟨d8, e0, e1, e2⟩ := m 3 51 K
       refine kM (kc e2 k0) fun q => ?_
       refine Qi.cells (t := 33) (x := (.tmp 51)) (b := d8) (off := (e0 + Int.toNat g * V1.sz)) (xs := [(.string ⟨List.toArray (stT a).1⟩), (.int .i64 (stT a).2.1), (.int .i64 (stT a).2.2.1), (.slice a.2.2.2.1.1 (List.length (stT a).2.2.2.1) a.2.2.2.1.2.1), (.slice a.2.2.2.2.1 (List.length (stT a).2.2.2.2) a.2.2.2.2.2.1)]) (d := (some 52)) (k := 4) K rfl K K K (Vv (e := V1) (Qj (RdT.sp (Yh a9) d7) e1 c3 c4) b8 rfl) ?_
       exact eK q
     ·exact oV (hC (hS 3 (pt i 0)) (h0)) (pt i 4)
     ·refine oL 0 ?_
      ·rintro ρ' w' hs m ⟨g3, e3⟩
       refine kM (kc (kA m 5 53) k0) fun q => ?_
       refine sL 22 53 i 4 1 (.slice s (List.length (List.map stT j)) a3) 54 e3 rfl ?_
       exact eK q
     ·exact oV (hC (hS 5 (.int .i64 g)) (h0)) (.int .i64 g)
     ·refine oL 0 ?_
      ·rintro ρ' w' hs m ⟨g4, e4⟩
       refine kM (kc (kA m 6 54) (kc (kA m 7 55) k0)) fun q => ?_
       refine Yu stT (e := V1) (l := j) (A := s) (c := a3) (T := 22) (E := 33) (x := (.tmp 54)) (ix := (.tmp 55)) (ki := .i64) (iz := g) (d := (some 56)) (k := 8) K rfl K K K K (RdT.sp (Yh b0) e4) c5 c6 ?_
       intro e5 e6 e7 g5 hc230
       exact ⟨rfl, _, Qa q, ⟨e5, e6, e7, rfl⟩⟩
     ·refine oL 0 ?_
      ·rintro ρ' w' hs m ⟨g6, e8⟩
       obtain ⟨e9, f0, f1, f3⟩ := m 8 56 K
       refine kM (kc f3 k0) fun q => ?_
       refine Qi.cells (t := 33) (x := (.tmp 56)) (b := e9) (off := (f0 + Int.toNat g * V1.sz)) (xs := [(.string ⟨List.toArray (stT f).1⟩), (.int .i64 (stT f).2.1), (.int .i64 (stT f).2.2.1), (.slice f.2.2.2.1.1 (List.length (stT f).2.2.2.1) f.2.2.2.1.2.1), (.slice f.2.2.2.2.1 (List.length (stT f).2.2.2.2) f.2.2.2.2.2.1)]) (d := (some 57)) (k := 9) K rfl K K K (Vv (e := V1) (Qj (RdT.sp (Yh b0) e8) f1 c5 c6) b9 rfl) ?_
       exact eK q
     ·refine oH 0 1 ?_
      ·rintro ρ' w' hs m ⟨g7, a8⟩
       refine kM (kc (kA m 4 52) (kc (kA m 9 57) k0)) fun q => ?_
       refine cF 27 #[(.tmp 52), (.tmp 57)] #[33, 33] 58 Tryz.call27 (Ni a.2.2.2.1.1 a.2.2.2.1.2.1 a.2.2.2.2.1 a.2.2.2.2.2.1 f.2.2.2.1.1 f.2.2.2.1.2.1 f.2.2.2.2.1 f.2.2.2.2.2.1 (stT a).1 (stT a).2.1 (stT a).2.2.1 (stT a).2.2.2.1 (stT a).2.2.2.2 (stT f).1 (stT f).2.1 (stT f).2.2.1 (stT f).2.2.2.1 (stT f).2.2.2.2 w' (RdT.sp (Yh (dp1 (dp2 (dp2 (dp2 (Gr a9 b8)))))) a8) (RdT.sp (Yh (dp2 (dp2 (dp2 (dp2 (Gr a9 b8)))))) a8) (RdT.sp (Yh (dp1 (dp2 (dp2 (dp2 (Gr b0 b9)))))) a8) (RdT.sp (Yh (dp2 (dp2 (dp2 (dp2 (Gr b0 b9)))))) a8) a6 d1) ?_
       rintro e g8 ⟨rfl, c8⟩
       refine ⟨_, rfl, ?_⟩
       have f4 := SP.call a8 c8
       clear c8
       refine ⟨_, Qa q, rfl, ?_⟩
       exact (And.intro (And.intro rfl (trivial)) f4)
     ·exact oV (hC (hA 10 58) (h0)) (.bool (!a6))
     ·rintro ρ' w' hs hf ⟨⟨g9, -⟩, c0⟩
      refine V2 [(2, (pt h 0)), (3, (pt i 0)), (5, (.int .i64 g)), (59, (.bool (!a6)))] ⟨(hs 2 K).trans K, (hs 3 K).trans K, (hs 5 K).trans K, hf 11 59 K, trivial⟩ ?_
      obtain ⟨h1, f5⟩ : ∃ x, w' = x := ⟨_, rfl⟩
      rw [f5] at c0 ⊢
      refine Xe K (o := (.tmp 59)) K (b := (!a6)) K (fun c1 => ?_) (fun c1 => ?_)
      ·have H := ct H c1
       refine aQ ?_
       refine aR ?_
       refine iR 1 1 [(4, (.bool false))] ?_
       refine iF ?_
       refine At.ret K ?_
       refine ⟨(.bool false), K, ?_⟩
       obtain rfl := Qg H
       exact ⟨rfl, SP.sel c0 [] rfl rfl⟩
      ·have H := cf H c1
       refine At.skip K ?_
       refine aR ?_
       refine iR 3 3 [(46, (.int .i64 g)), (47, (.int .i64 (IntKind.wrap .i64 (g + 1)))), (5, (.int .i64 (IntKind.wrap .i64 (g + 1))))] ?_
       refine iF ?_
       exact ⟨(IntKind.wrap .i64 (g + 1)), ⟨K, K, K, trivial⟩, SP.sel c0 [0, 1] rfl rfl, H⟩
    ·have H := cf H b7
     refine At.exit K (id := 0) K ?_
     refine aQ ?_
     refine aR ?_
     refine iR 1 1 [(4, (.bool true))] ?_
     refine iF ?_
     refine At.ret K ?_
     refine ⟨(.bool true), K, ?_⟩
     obtain rfl := Qg H
     exact ⟨rfl, SP.sel b6 [] rfl rfl⟩
   ·exact ⟨0, ⟨K, K, K, trivial⟩, SP.sel c2 [0, 1] rfl rfl, H⟩
end Go.Proofs.YtoflbpmbkmephaaGreatDoor
namespace Go.Proofs.YtoflbpmbkmephaaGreatDoor
open Go.RowKit
open Go.Lib (decDigits)
theorem Fk (c : UInt8) : ∀ l : List (List UInt8), Lib.join l [c] = Nr c l
  | [] => rfl
  | [p] => Lib.join_one p [c]
  | p :: q :: ps => by
    have ih := Fk c (q :: ps)
    rw [Lib.join_cons] at ih ⊢
    show p ++ Lib.joinTail [c] (q :: ps) = p ++ c :: Nr c (q :: ps)
    rw [← ih]
    simp [Lib.joinTail]
theorem H8 (c : UInt8) : ∀ l : List (List UInt8), (Nr c l).length ≤ (l.map List.length).sum + l.length
  | [] => by simp [Nr]
  | [p] => by simp [Nr]
  | p :: q :: ps => by
    have ih := H8 c (q :: ps)
    simp only [Nr, List.length_append, List.length_cons, List.map_cons, List.sum_cons] at ih ⊢
    omega
theorem De (c : UInt8) : ∀ l : List (List UInt8), l ≠ [] → (∀ w ∈ l, c ∉ w) → Qx c (Nr c l) = l
  | [], h, _ => absurd rfl h
  | [p], _, h => Bz c p (h p (by simp))
  | p :: q :: ps, _, h => by
    rw [Nr, Nu c p _ (h p (by simp)), De c (q :: ps) (by simp) fun w hw => h w (by simp [hw])]
def finB (n : Int) : Bool := decide (0 ≤ n) && decide (n ≤ 1099511627776)
theorem hex_no {c : UInt8} (h : Ii c = none) (s : Str) : c ∉ Fh s := by
  induction s with
  | nil => simp [Fh]
  | cons x s ih =>
    have hx := x.toNat_lt
    have h1 := F7 (show x.toNat / 16 < 16 by omega)
    have h2 := F7 (show x.toNat % 16 < 16 by omega)
    show c ∉ N5.getD (x.toNat / 16) 0 :: N5.getD (x.toNat % 16) 0 :: Fh s
    rw [List.mem_cons, List.mem_cons]
    rintro (e | e | e)
    · rw [← e, h] at h1; cases h1
    · rw [← e, h] at h2; cases h2
    · exact ih e
theorem dec_no' {c : UInt8} (hc : Dh c = false) (n : Int) : c ∉ G7 n := by
  unfold G7
  split
  · exact Bk hc
  · simp
theorem dots_no {c : UInt8} (hc : Dh c = false) (h : c ≠ 46) (a : Nat) : c ∉ R3 a := by
  unfold R3
  simp only [List.mem_append, List.mem_cons]
  have := fun n => Bk (n := n) hc
  rintro (e | e | e | e | e | e | e)
  all_goals first | exact this _ e | exact h e
theorem name_no {c : UInt8} (hc : isNm c = false) {s : Str} (h : R2 s = true) : c ∉ s := by
  unfold R2 at h
  simp only [Bool.and_eq_true] at h
  have := h.1.1.2
  rw [List.all_eq_true] at this
  intro hm
  rw [this c hm] at hc
  cases hc
theorem Ns {n : Int} (h : finB n = true) : ∃ m : Nat, V0 (G7 n) = some m ∧ (m : Int) = n := by
  unfold finB at h
  rw [Bool.and_eq_true, decide_eq_true_eq, decide_eq_true_eq] at h
  refine ⟨n.toNat, ?_, by omega⟩
  unfold G7
  rw [if_pos h]
  exact C4 (by unfold Ut; omega)
theorem Gh (n : Int) : (G7 n).length ≤ 13 := by
  unfold G7
  split
  · exact dec_len13 (by unfold Ut; omega)
  · simp
theorem Kp {s : Str} (h : R2 s = true) : s.length ≤ 20 := by
  unfold R2 at h
  simp only [Bool.and_eq_true, decide_eq_true_eq] at h
  omega
def sfx (c : UInt8) (s : Str) : Str × Bool := if s.getLast? = some c then (s.dropLast, true) else (s, false)
theorem lSfx (c : UInt8) (s : Str) (h : s.length ≤ 1000000) : X7 s [c] = some (sfx c s) := by
  have hs : Vy s [c] = some (decide (s.getLast? = some c)) := by
    unfold Vy Vp
    by_cases h0 : s = []
    · subst h0; rfl
    · have hp := List.length_pos_iff.2 h0
      rw [decide_eq_true (show ((s.length : Nat) : Int) ≥ ((([c] : List UInt8).length : Nat) : Int) by simp; omega), show IntKind.wrap .i64 (((s.length : Nat) : Int) - ((([c] : List UInt8).length : Nat) : Int)) = ((s.length - 1 : Nat) : Int) by rw [Jk (by simp; omega)]; simp; omega, Dz s (by omega) (Nat.le_refl _)]
      simp only [cond_true, Option.bind_some, List.take_length]
      congr 1
      obtain ⟨a, x, rfl⟩ : ∃ a x, s = a ++ [x] := ⟨s.dropLast, s.getLast h0, (List.dropLast_concat_getLast h0).symm⟩
      rw [show (a ++ [x]).length - 1 = a.length by simp, List.drop_left, List.getLast?_append]
      by_cases hx : x = c
      · subst hx; simp
      · rw [beq_eq_false_iff_ne.2 (by simpa using hx)]
        symm
        rw [decide_eq_false_iff_not]
        simpa using hx
  unfold X7 Zc
  rw [hs]
  unfold sfx
  by_cases hc : s.getLast? = some c
  · have h0 : s ≠ [] := fun e => by rw [e] at hc; cases hc
    have hp := List.length_pos_iff.2 h0
    have s1 := Dz s (i := 0) (j := s.length - 1) (by omega) (by omega)
    rw [show ((0 : Nat) : Int) = 0 from rfl] at s1
    rw [if_pos hc, decide_eq_true hc]
    simp only [Option.bind_some, Bool.not_true, cond_false]
    rw [show IntKind.wrap .i64 (((s.length : Nat) : Int) - ((([c] : List UInt8).length : Nat) : Int)) = ((s.length - 1 : Nat) : Int) by rw [Jk (by simp; omega)]; simp; omega, s1]
    simp only [Option.bind_some, List.drop_zero]
    rw [List.dropLast_eq_take]
  · rw [if_neg hc, decide_eq_false hc]
    rfl
end Go.Proofs.YtoflbpmbkmephaaGreatDoor
namespace Go.Proofs.YtoflbpmbkmephaaGreatDoor
open Go.RowKit
open Go.MapKept (findNow_spec run_findKey run_checkKey IsKey Stamped stamped_push stamped_empty)
open Go.ChangeMaps (setBlock)
abbrev KV := List (Value × Value)
structure TabOk (m : Nat) (L : KV) (es : Array MapEntry) (clock : Nat) (w : World) : Prop where
  heap : w.heap[m]? = some (.map es clock)
  ents : es.toList.map (fun e => (e.key, e.val)) = L
  st : Stamped es clock
def Ll (m : Nat) (L : KV) : Ent := ⟨[m], fun w => ∃ es clock, TabOk m L es clock w, fun w w' hk ⟨es, clock, h⟩ => ⟨es, clock, (hk m (by simp)).trans h.heap, h.ents, h.st⟩⟩
def Re (d : TypeDesc) (k : Value) : KV → Nat → Option (Option (Nat × Value))
  | [], _ => some none
  | x :: l, i => match Instr.sameNow d k x.1 with
    | some true => some (some (i, x.2))
    | some false => Re d k l (i + 1)
    | none => none
theorem Rf {d : TypeDesc} {k : Value} : ∀ (es : List MapEntry) (L : KV) (i : Nat), es.map (fun e => (e.key, e.val)) = L → Instr.findNow d k es i = Re d k L i
  | [], L, i, h => by simp at h; subst h; rfl
  | e :: es, L, i, h => by
    cases L with
    | nil => simp at h
    | cons x L =>
      simp only [List.map_cons, List.cons.injEq] at h
      obtain ⟨rfl, h⟩ := h
      simp only [Instr.findNow, Re]
      cases Instr.sameNow d k e.key with
      | none => rfl
      | some b => cases b with
        | true => rfl
        | false => exact Rf es L (i + 1) h
def keyB : TypeDesc → Value → Bool
  | .int k, .int k' _ => decide (k' = k)
  | .string, .string _ => true
  | _, _ => false
theorem Ed {d : TypeDesc} {v : Value} (h : keyB d v = true) : IsKey d v := by
  cases d <;> cases v <;> simp_all [keyB, IsKey]
section
variable {P : Program} {n : Nat} {B : Code} {p : List Bool} {o : Nat} {K : Fr → World → Prop} {ρ : Fr} {w w0 : World} {ens : List Ent} {S : List Nat} {m b : Nat} {L : KV} {dst : Option Nat} {k v : Value} {i : Nat} {kt et : TypeId} {d : TypeDesc}
theorem Lm {T : TypeId} (ho : G2 (Qe B p) o ρ = some (.makeMap T none, dst)) (hd : Xz n dst = true) (hs : SP S w0 w ens)
    (next : ∀ (m : Nat) (w' : World), SP S w0 w' (ens ++ [Ll m []]) → K (Ui ρ dst (.map (some m))) w') : Qi P n B p o K ρ w := by
  refine Qi.val ho hd (w' := w.alloc (.map #[] 0)) (v := .map (some w.heap.size)) (fun o hop => ?_) (next w.heap.size _ (hs.push ((Below.refl _ _).alloc (Nat.le_refl _) _) ⟨#[], 0, heap_alloc_new w _, rfl, stamped_empty 0⟩ fun k hk => ?_))
  · unfold execOp; rw [hop]
    simp only [Instr.makeMap, Sem.run_bind, Sem.run_pure, run_newObj, Result.andThen_ok]
    rfl
  · have : k = w.heap.size := by simpa [Ll] using hk
    subst this
    simp
theorem Bn {T : TypeId} {x ix y : Operand} (ho : G2 (Qe B p) o ρ = some (.insert T x ix y, dst)) (hd : Xz n dst = true) (hx : opv ρ x = .map (some m)) (hix : opv ρ ix = k) (hy : opv ρ y = v)
    (hT : P.underlying T = some (.map kt et)) (hkt : P.underlying kt = some d) (hk : keyB d k = true) (hL : L.all (fun x => keyB d x.1) = true) (hf : Re d k L 0 = some none)
    (hs : SP S w0 w ens) (hi : ens[i]? = some (Ll m L)) (next : ∀ (w' : World), SP S w0 w' (ens.set i (Ll m (L ++ [(k, v)]))) → K (Ui ρ dst undef) w') : Qi P n B p o K ρ w := by
  obtain ⟨es, clock, h⟩ := hs.get hi
  have hck := run_checkKey (P := P) (w := w) hkt (Ed hk) false 9999
  have hfn : Instr.findNow d k es.toList 0 = some none := (Rf es.toList L 0 h.ents).trans hf
  have hfk := run_findKey (P := P) (w := w) hkt hfn
  have hne : ∀ e ∈ es.toList, e.key ≠ k := by
    have hall : ∀ e ∈ es.toList, IsKey d e.key := fun e he => by
      rw [List.all_eq_true] at hL
      exact Ed (hL (e.key, e.val) (by rw [← h.ents]; exact List.mem_map.2 ⟨e, he, rfl⟩))
    rcases findNow_spec (Ed hk) es.toList 0 hall with ⟨_, h2⟩ | ⟨j, e, h1, _⟩
    · exact h2
    · rw [hfn] at h1; cases h1
  have hset := (Go.MapKept.heap_set (o' := .map (es.push { key := k, val := v, born := clock }) (clock + 1)) h.heap)
  refine Cm ho hd (w' := { w with heap := w.heap.setIfInBounds m (.map (es.push { key := k, val := v, born := clock }) (clock + 1)) }) (fun o hop => ?_) (next _ ?_)
  · unfold execOp; rw [hop]
    simp only [hx, hix, hy, Instr.mapUpdate, Sem.run_bind, run_underlying hT, Go.MapKept.run_getObj_map h.heap, hck, hfk, Go.MapKept.run_setObj_map _ h.heap, Result.andThen_ok]
    rfl
  · refine hs.set hi (T := [m]) ⟨rfl, rfl, rfl, by simp, fun q _ hq => hset.2 q (by simpa using hq)⟩ (fun k hk => hk) ⟨_, _, hset.1, by rw [Array.toList_push, List.map_append, h.ents]; rfl, stamped_push h.st hne⟩ fun q hq => ⟨.inl hq, ?_⟩
    have := ((hs.own.get hi).2 q hq).2
    simpa using this
theorem Ee {T : TypeId} {x ix : Operand} (ho : G2 (Qe B p) o ρ = some (.lookup T x ix true, dst)) (hd : Xz n dst = true) (hx : opv ρ x = .map (some m)) (hix : opv ρ ix = k)
    (hT : P.underlying T = some (.map kt et)) (hkt : P.underlying kt = some d) (hk : keyB d k = true) (hf : ∃ j, Re d k L 0 = some (some (j, v))) (h : (Ll m L).ok w)
    (next : K (Ui ρ dst (.tuple #[v, .bool true])) w) : Qi P n B p o K ρ w := by
  obtain ⟨es, clock, h⟩ := h
  obtain ⟨j, hf⟩ := hf
  have hck := run_checkKey (P := P) (w := w) hkt (Ed hk) es.isEmpty 9999
  have hfk := run_findKey (P := P) (w := w) hkt ((Rf es.toList L 0 h.ents).trans hf)
  refine Qi.val ho hd (fun o hop => ?_) next
  unfold execOp; rw [hop]
  simp only [hx, hix, Instr.lookup, Sem.run_bind, run_underlying hT, Go.MapKept.run_getObj_map h.heap, hck, hfk, Result.andThen_ok, Sem.run_pure]
  rfl
theorem Ef {T : TypeId} {x ix : Operand} (ho : G2 (Qe B p) o ρ = some (.lookup T x ix true, dst)) (hd : Xz n dst = true) (hx : opv ρ x = .map (some m)) (hix : opv ρ ix = k)
    (hT : P.underlying T = some (.map kt et)) (hkt : P.underlying kt = some d) (hz : ∀ w, (zeroValue et).run P w = .ok v w) (hk : keyB d k = true) (hf : Re d k L 0 = some none) (h : (Ll m L).ok w)
    (next : K (Ui ρ dst (.tuple #[v, .bool false])) w) : Qi P n B p o K ρ w := by
  obtain ⟨es, clock, h⟩ := h
  have hck := run_checkKey (P := P) (w := w) hkt (Ed hk) es.isEmpty 9999
  have hfk := run_findKey (P := P) (w := w) hkt ((Rf es.toList L 0 h.ents).trans hf)
  refine Qi.val ho hd (fun o hop => ?_) next
  unfold execOp; rw [hop]
  simp only [hx, hix, Instr.lookup, Sem.run_bind, run_underlying hT, Go.MapKept.run_getObj_map h.heap, hck, hfk, hz, Result.andThen_ok, Sem.run_pure]
  rfl
end
section
variable {P : Program} {n : Nat} {B : Code} {p : List Bool} {o : Nat} {K : Fr → World → Prop} {ρ : Fr} {w w0 : World} {ens : List Ent} {S : List Nat} {m b q : Nat} {L : KV} {dst : Option Nat} {i : Nat} {kt et : TypeId} {φ : Value × Value → Prop}
end
end Go.Proofs.YtoflbpmbkmephaaGreatDoor
namespace Go.Proofs.YtoflbpmbkmephaaGreatDoor
open Go.RowKit
section
variable {S : List Nat} {B : Nat} {w w' w0 : World} {es es' : List Ent}
theorem HL.mk : ∀ {es : List Ent}, (∀ (i : Nat) (e : Ent), es[i]? = some e → e.ok w ∧ ∀ k ∈ e.fp, (B ≤ k ∨ k ∈ S) ∧ k < w.heap.size) → (∀ (i j : Nat) (e e' : Ent), i < j → es[i]? = some e → es[j]? = some e' → ∀ k ∈ e.fp, k ∉ e'.fp) → HL S B w es
  | [], _, _ => trivial
  | e :: es, h1, h2 => ⟨(h1 0 e rfl).1, fun k hk => ⟨((h1 0 e rfl).2 k hk).1, ((h1 0 e rfl).2 k hk).2, fun e' he' => by
      obtain ⟨j, hj⟩ := List.mem_iff_getElem?.1 he'
      exact h2 0 (j + 1) e e' (by omega) rfl (by simpa using hj) k hk⟩, HL.mk (fun i e' hi => h1 (i + 1) e' (by simpa using hi)) fun i j e1 e2 hij h3 h4 => h2 (i + 1) (j + 1) e1 e2 (by omega) (by simpa using h3) (by simpa using h4)⟩
theorem SP.turn2 (h : SP S w0 w es) {i : Nat} {e e1 e2 : Ent} (hi : es[i]? = some e) (h1 : e1.ok w) (h2 : e2.ok w) (hf1 : ∀ k ∈ e1.fp, k ∈ e.fp ∧ k ∉ e2.fp) (hf2 : ∀ k ∈ e2.fp, k ∈ e.fp) (he : es' = es.set i e1 ++ [e2]) : SP S w0 w es' := by
  subst he
  have hg := h.own.get hi
  have ht := h.turnE hi h1 fun k hk => (hf1 k hk).1
  refine ⟨ht.mod, ht.own.append ⟨h2, fun k hk => ⟨(hg.2 k (hf2 k hk)).1, (hg.2 k (hf2 k hk)).2, by simp⟩, trivial⟩ ?_⟩
  intro f hf k hk f' hf' hk'
  simp only [List.mem_singleton] at hf'
  subst hf'
  obtain ⟨j, hj⟩ := List.mem_iff_getElem?.1 hf
  rw [List.getElem?_set] at hj
  split at hj
  · split at hj
    · injection hj with hj
      subst hj
      exact (hf1 k hk).2 hk'
    · cases hj
  · exact h.own.apart hj hi (by omega) k hk (hf2 k hk')
theorem SP.join2 (h : SP S w0 w es) {i j : Nat} {e e1 e2 : Ent} (hi : es[i]? = some e1) (hj : es[j]? = some e2) (hij : i ≠ j) (hok : e.ok w) (hfp : ∀ k ∈ e.fp, k ∈ e1.fp ∨ k ∈ e2.fp) (he : es' = (es.set i e).eraseIdx j) : SP S w0 w es' := by
  subst he
  have g1 := h.own.get hi
  have g2 := h.own.get hj
  have hset : ∀ n x, (es.set i e)[n]? = some x → (n = i ∧ x = e) ∨ (n ≠ i ∧ es[n]? = some x) := by
    intro n x hx
    rw [List.getElem?_set] at hx
    split at hx
    · split at hx
      · injection hx with hx
        exact .inl ⟨by omega, hx.symm⟩
      · cases hx
    · exact .inr ⟨by omega, hx⟩
  have hget : ∀ n x, ((es.set i e).eraseIdx j)[n]? = some x → ∃ m, m ≠ j ∧ m = (if n < j then n else n + 1) ∧ ((m = i ∧ x = e) ∨ (m ≠ i ∧ es[m]? = some x)) := by
    intro n x hx
    rw [List.getElem?_eraseIdx] at hx
    split at hx
    · rename_i hlt
      exact ⟨n, by omega, by rw [if_pos hlt], hset n x hx⟩
    · rename_i hlt
      exact ⟨n + 1, by omega, by rw [if_neg hlt], hset (n + 1) x hx⟩
  refine ⟨h.mod, HL.mk ?_ ?_⟩
  · intro n x hx
    obtain ⟨m, hm, _, hc⟩ := hget n x hx
    rcases hc with ⟨_, rfl⟩ | ⟨_, hc⟩
    · refine ⟨hok, fun k hk => ?_⟩
      rcases hfp k hk with h1 | h1
      · exact g1.2 k h1
      · exact g2.2 k h1
    · exact h.own.get hc
  · intro n1 n2 x1 x2 hlt hx1 hx2 k hk1 hk2
    obtain ⟨m1, hm1, hq1, hc1⟩ := hget n1 x1 hx1
    obtain ⟨m2, hm2, hq2, hc2⟩ := hget n2 x2 hx2
    have hne : m1 ≠ m2 := by
      rw [hq1, hq2]
      split <;> split <;> omega
    rcases hc1 with ⟨e1', rfl⟩ | ⟨e1', hc1⟩
    · rcases hc2 with ⟨e2', rfl⟩ | ⟨e2', hc2⟩
      · omega
      · rcases hfp k hk1 with h1 | h1
        · exact h.own.apart hi hc2 (by omega) k h1 hk2
        · exact h.own.apart hj hc2 (by omega) k h1 hk2
    · rcases hc2 with ⟨e2', rfl⟩ | ⟨e2', hc2⟩
      · rcases hfp k hk2 with h1 | h1
        · exact h.own.apart hc1 hi (by omega) k hk1 h1
        · exact h.own.apart hc1 hj (by omega) k hk1 h1
      · exact h.own.apart hc1 hc2 hne k hk1 hk2
end
def blkA (A : Option Addr) : List Nat := match A with | some a => [a.block] | none => []
def Ev (y : Qh) : List Nat := blkA y.2.2.2.1.1 ++ blkA y.2.2.2.2.1
theorem Yr {α : Type} {E : TypeId} {e : Enc α} {A : Option Addr} {c : Nat} {l : List α} : (Q6 E e A c l).fp = blkA A := by cases A <;> rfl
abbrev Ew (y : Qh) : Ent := Q6 102 eNet y.2.2.2.1.1 y.2.2.2.1.2.1 y.2.2.2.1.2.2
abbrev Ex (y : Qh) : Ent := Q6 37 eTok y.2.2.2.2.1 y.2.2.2.2.2.1 y.2.2.2.2.2.2
def I8 (d : List Qh) (w : World) : Prop := (∀ y ∈ d, (Ew y).ok w ∧ (Ex y).ok w) ∧ (d.flatMap Ev).Nodup
def Dm (d : List Qh) : Ent := ⟨d.flatMap Ev, I8 d, fun w w' hk h => ⟨fun y hy => by
    have hs : ∀ k ∈ Ev y, w'.heap[k]? = w.heap[k]? := fun k hm => hk k (List.mem_flatMap.2 ⟨y, hy, hm⟩)
    refine ⟨(Ew y).loc w w' (fun k hm => hs k ?_) (h.1 y hy).1, (Ex y).loc w w' (fun k hm => hs k ?_) (h.1 y hy).2⟩
    · rw [Yr] at hm; exact List.mem_append_left _ hm
    · rw [Yr] at hm; exact List.mem_append_right _ hm, h.2⟩⟩
def TenOk (A : Option Addr) (c : Nat) (d : List Qh) (w : World) : Prop := (Q6 33 V1 A c d).ok w ∧ I8 d w ∧ (blkA A ++ d.flatMap Ev).Nodup
def Yx (A : Option Addr) (c : Nat) (d : List Qh) : Ent := ⟨blkA A ++ d.flatMap Ev, TenOk A c d, fun w w' hk h => ⟨(Q6 33 V1 A c d).loc w w' (fun k hm => hk k (List.mem_append_left _ (by rw [Yr] at hm; exact hm))) h.1, (Dm d).loc w w' (fun k hm => hk k (List.mem_append_right _ hm)) h.2.1, h.2.2⟩⟩
section
variable {S : List Nat} {w w' w0 : World} {es es' : List Ent} {A : Option Addr} {c : Nat} {d d0 : List Qh} {y : Qh} {F : List Nat} {l : List Qb} {i j k : Nat}
theorem TenOk.rd (h : TenOk A c d w) : (dDS V1 Fc).ok w (A, c, d) := ⟨Vg h.1, fun y hy => ⟨trivial, trivial, trivial, ⟨Vg (h.2.1.1 y hy).1, fun _ _ => trivial⟩, ⟨Vg (h.2.1.1 y hy).2, fun _ _ => trivial⟩⟩⟩
theorem Rg (h : (Yx A c d).ok w) : (dDS V1 Fc).ok w (A, c, d) := TenOk.rd h
theorem SP.openT (h : SP S w0 w es) (hi : es[i]? = some (Yx A c d)) (he : es' = es.set i (Q6 33 V1 A c d) ++ [Dm d]) : SP S w0 w es' := by
  obtain ⟨h1, h2, h3⟩ := h.get hi
  refine h.turn2 hi h1 h2 (fun k hk => ?_) (fun k hk => List.mem_append_right _ hk) he
  rw [Yr] at hk
  refine ⟨List.mem_append_left _ hk, fun hk' => ?_⟩
  exact (List.nodup_append.1 h3).2.2 k hk k hk' rfl
theorem SP.closeT (h : SP S w0 w es) (hi : es[i]? = some (Q6 33 V1 A c d)) (hj : es[j]? = some (Dm d)) (hij : i ≠ j) (he : es' = (es.set i (Yx A c d)).eraseIdx j) : SP S w0 w es' := by
  have h1 := h.get hi
  have h2 : I8 d w := h.get hj
  have h3 := h.own.apart hi hj hij
  rw [Yr] at h3
  refine h.join2 (e := Yx A c d) hi hj hij ⟨h1, h2, ?_⟩ (fun k hk => ?_) he
  · refine List.nodup_append.2 ⟨?_, h2.2, fun a ha b hb hab => h3 a ha (hab ▸ hb)⟩
    cases A <;> simp [blkA]
  · rw [Yr]
    exact List.mem_append.1 hk
theorem SP.innMore (h : SP S w0 w es) (hj : es[j]? = some (Dm d)) (hy : y.2.2.2 = ((none, 0, []), (none, 0, []))) : SP S w0 w (es.set j (Dm (d ++ [y]))) := by
  obtain ⟨nm, a, b, x⟩ := y
  have hy : x = ((none, 0, []), (none, 0, [])) := hy
  subst hy
  have hok : I8 d w := h.get hj
  have hfm : (d ++ [(nm, a, b, (none, 0, []), (none, 0, []))]).flatMap Ev = d.flatMap Ev := by simp [List.flatMap_append, Ev, blkA]
  refine h.turnE hj ⟨fun z hz => ?_, by rw [hfm]; exact hok.2⟩ fun k hk => ?_
  · rcases List.mem_append.1 hz with hz | hz
    · exact hok.1 z hz
    · rw [List.mem_singleton] at hz
      subst hz
      exact ⟨World.ownsRow_nil w 0 _ _, World.ownsRow_nil w 0 _ _⟩
  · have hk : k ∈ (d ++ [(nm, a, b, (none, 0, []), (none, 0, []))]).flatMap Ev := hk
    rw [hfm] at hk
    exact hk
theorem SP.splitI (h : SP S w0 w es) (hj : es[j]? = some (Dm (d0 ++ [y]))) (he : es' = es.set j (Dm d0) ++ [Ew y] ++ [Ex y]) : SP S w0 w es' := by
  have hok : I8 (d0 ++ [y]) w := h.get hj
  obtain ⟨h1, h2⟩ := hok
  have hfm : (d0 ++ [y]).flatMap Ev = d0.flatMap Ev ++ Ev y := by simp [List.flatMap_append]
  rw [hfm] at h2
  obtain ⟨n1, n2, n3⟩ := List.nodup_append.1 h2
  obtain ⟨m1, m2, m3⟩ := List.nodup_append.1 n2
  have hlt : j < es.length := (List.getElem?_eq_some_iff.1 hj).1
  have hy := h1 y (by simp)
  have hfp : (Dm (d0 ++ [y])).fp = d0.flatMap Ev ++ Ev y := hfm
  let eL : Ent := ⟨d0.flatMap Ev ++ blkA y.2.2.2.1.1, fun w => (Dm d0).ok w ∧ (Ew y).ok w, fun w w' hk hh => ⟨(Dm d0).loc w w' (fun k hm => hk k (List.mem_append_left _ hm)) hh.1, (Ew y).loc w w' (fun k hm => hk k (List.mem_append_right _ (by rw [Yr] at hm; exact hm))) hh.2⟩⟩
  have hI : I8 d0 w := ⟨fun z hz => h1 z (List.mem_append_left _ hz), n1⟩
  have s1 : SP S w0 w (es.set j eL ++ [Ex y]) := h.turn2 hj (e1 := eL) ⟨hI, hy.1⟩ hy.2
    (fun k hk => by
      rw [Yr, hfp]
      rcases List.mem_append.1 hk with hk | hk
      · exact ⟨List.mem_append_left _ hk, fun hk' => n3 k hk k (List.mem_append_right _ hk') rfl⟩
      · exact ⟨List.mem_append_right _ (List.mem_append_left _ hk), fun hk' => m3 k hk k hk' rfl⟩)
    (fun k hk => by rw [Yr] at hk; rw [hfp]; exact List.mem_append_right _ (List.mem_append_right _ hk)) rfl
  have s2 : SP S w0 w (es.set j eL ++ [Ex y]).dropLast := s1.erase (es.length) (by simp [List.eraseIdx_append_of_length_le])
  rw [List.dropLast_concat] at s2
  have hjL : (es.set j eL)[j]? = some eL := by simp [hlt]
  have s3 : SP S w0 w (es.set j (Dm d0) ++ [Ew y]) := by
    refine s2.turn2 hjL hI hy.1 (fun k hk => ⟨List.mem_append_left _ hk, fun hk' => ?_⟩) (fun k hk => ?_) (by rw [List.set_set])
    · rw [Yr] at hk'
      exact n3 k hk k (List.mem_append_left _ hk') rfl
    · rw [Yr] at hk
      exact List.mem_append_right _ hk
  subst he
  refine ⟨s3.mod, s3.own.append ⟨hy.2, fun k hk => ?_, trivial⟩ ?_⟩
  · have := (h.own.get hj).2 k (by rw [Yr] at hk; rw [hfp]; exact List.mem_append_right _ (List.mem_append_right _ hk))
    exact ⟨this.1, this.2, by simp⟩
  · intro f hf k hk f' hf' hk'
    simp only [List.mem_singleton] at hf'
    subst hf'
    have hk2 := hk'
    rw [Yr] at hk'
    have hmem : k ∈ (Dm (d0 ++ [y])).fp := by rw [hfp]; exact List.mem_append_right _ (List.mem_append_right _ hk')
    rcases List.mem_append.1 hf with hf | hf
    · obtain ⟨n, hn⟩ := List.mem_iff_getElem?.1 hf
      rw [List.getElem?_set] at hn
      split at hn
      · rename_i hjn
        subst hjn
        injection hn with hn
        subst hn
        exact n3 k hk k (List.mem_append_right _ hk') rfl
      · exact h.own.apart hn hj (by omega) k hk hmem
    · simp only [List.mem_singleton] at hf
      subst hf
      rw [Yr] at hk
      exact m3 k hk k hk' rfl
theorem SP.joinI (h : SP S w0 w es) (hi : es[i]? = some (Dm d0)) (hj : es[j]? = some (Ew y)) (hk : es[k]? = some (Ex y)) (hij : i < j) (hjk : j < k) (he : es' = ((es.set i (Dm (d0 ++ [y]))).eraseIdx k).eraseIdx j) : SP S w0 w es' := by
  have hik : i < k := by omega
  have h1 : I8 d0 w := h.get hi
  have h2 := h.get hj
  have h3 := h.get hk
  have a1 := h.own.apart hi hj (by omega)
  have a2 := h.own.apart hi hk (by omega)
  have a3 := h.own.apart hj hk (by omega)
  rw [Yr] at a3
  let eL : Ent := ⟨d0.flatMap Ev ++ blkA y.2.2.2.2.1, fun w => (Dm d0).ok w ∧ (Ex y).ok w, fun w w' hk hh => ⟨(Dm d0).loc w w' (fun k hm => hk k (List.mem_append_left _ hm)) hh.1, (Ex y).loc w w' (fun k hm => hk k (List.mem_append_right _ (by rw [Yr] at hm; exact hm))) hh.2⟩⟩
  have s1 : SP S w0 w ((es.set i eL).eraseIdx k) := h.join2 hi hk (by omega) (e := eL) ⟨h1, h3⟩ (fun q hq => by
    rw [Yr]
    exact List.mem_append.1 hq) rfl
  have hlt : i < es.length := (List.getElem?_eq_some_iff.1 hi).1
  have hj' : ((es.set i eL).eraseIdx k)[j]? = some (Ew y) := by
    rw [List.getElem?_eraseIdx, if_pos hjk, List.getElem?_set, if_neg (by omega)]
    exact hj
  have hi' : ((es.set i eL).eraseIdx k)[i]? = some eL := by
    rw [List.getElem?_eraseIdx, if_pos hik, List.getElem?_set, if_pos rfl, if_pos hlt]
  refine s1.join2 hi' hj' (by omega) (e := Dm (d0 ++ [y])) ⟨fun z hz => ?_, ?_⟩ (fun q hq => ?_) ?_
  · rcases List.mem_append.1 hz with hz | hz
    · exact h1.1 z hz
    · rw [List.mem_singleton] at hz
      subst hz
      exact ⟨h2, h3⟩
  · have hfm : (d0 ++ [y]).flatMap Ev = d0.flatMap Ev ++ Ev y := by simp [List.flatMap_append]
    rw [hfm]
    refine List.nodup_append.2 ⟨h1.2, List.nodup_append.2 ⟨?_, ?_, fun a ha b hb hab => a3 a ha (by rw [Yr]; exact hab ▸ hb)⟩, fun a ha b hb hab => ?_⟩
    · cases y.2.2.2.1.1 <;> simp [blkA]
    · cases y.2.2.2.2.1 <;> simp [blkA]
    · subst hab
      rcases List.mem_append.1 hb with hb | hb
      · exact a1 a ha (by rw [Yr]; exact hb)
      · exact a2 a ha (by rw [Yr]; exact hb)
  · have hq : q ∈ (d0 ++ [y]).flatMap Ev := hq
    rw [Yr]
    simp only [List.flatMap_append, List.mem_append, List.flatMap_cons, List.flatMap_nil, Ev, List.append_nil] at hq
    rcases hq with hq | hq | hq
    · exact .inl (List.mem_append_left _ hq)
    · exact .inr hq
    · exact .inl (List.mem_append_right _ hq)
  · rw [he, List.eraseIdx_set_gt hik, List.eraseIdx_set_gt hik, List.set_set]
end
section
variable {P : Program} {n : Nat} {ρ : Fr} {w w0 : World} {B : Code} {p : List Bool} {k : Nat} {K : Fr → World → Prop}
theorem Ey {α : Type} {e : Enc α} {S : List Nat} {w0 : World} {es : List Ent} {i b off c f q : Nat} {d : Option Nat} {t E : TypeId} {x y : Operand} {A : Option Addr} {l : List α} {v : Value} {x0 x' : α}
    (ho : G2 (Qe B p) k ρ = some (.store t x y, d)) (hd : Xz n d = true) (hA : A = some ⟨b, off, none⟩) (hx : opv ρ x = .pointer (some ⟨b, off + q * e.sz + f, none⟩)) (hy : opv ρ y = v)
    (hs : SP S w0 w es) (hi : es[i]? = some (Q6 E e A c l)) (hl : l[q]? = some x0) (hf : f < e.sz) (hv : e.enc x' = (e.enc x0).set f v) (ht : (P.info? t).map (·.size) = some 1)
    (next : ∀ w' : World, SP S w0 w' (es.set i (Q6 E e A c (l.set q x'))) → K (Ui ρ d undef) w') : Qi P n B p k K ρ w := by
  subst hy hA
  have hown : w.ownsRow 0 E e.sz (.slice (some ⟨b, off, none⟩) l.length c) l.length (Q9 e l) := hs.get hi
  have hoff : off = 0 := by
    rcases hown.2 with ⟨hn, _⟩ | ⟨g, cap, cur, hn, _⟩
    · cases hn
    · injection hn with h1 _ _
      injection h1 with h1
      injection h1
  subst hoff
  have hlt : q < l.length := (List.getElem?_eq_some_iff.1 hl).1
  have hqf : q * e.sz + f < l.length * e.sz := by
    have : (q + 1) * e.sz ≤ l.length * e.sz := Nat.mul_le_mul_right _ hlt
    rw [Nat.succ_mul] at this
    omega
  have hcellx : ∃ u, w.cell? ⟨b, q * e.sz + f, none⟩ = some u := by
    have := World.ownsRow.cellAt (g := b) (cap := c) hown (q * e.sz + f) hqf
    rw [this]
    have hlen := Zg e l
    exact ⟨_, List.getElem?_eq_getElem (by rw [hlen]; exact hqf)⟩
  obtain ⟨u0, hu0⟩ := hcellx
  have hfr := World.ownsRow.frozenAt (g := b) (cap := c) hown (q * e.sz + f)
  obtain ⟨h2, h3⟩ := World.ownsRow.stored (g := b) (cap := c) hown (q * e.sz + f) (opv ρ y)
  have hlen0 := e.len x0
  have hone := e.one x' (opv ρ y) (by rw [hv]; exact List.mem_iff_getElem.2 ⟨f, by rw [List.length_set]; omega, by simp⟩)
  have hset : (Q9 e l).set (q * e.sz + f) (opv ρ y) = Q9 e (l.set q x') := by
    have hs1 := Dv e l q x' hlt
    have hs0 := Dv e l q x0 hlt
    have hl0 : l.set q x0 = l := by
      obtain ⟨hq1, hq2⟩ := List.getElem?_eq_some_iff.1 hl
      rw [← hq2, List.set_getElem_self]
    rw [hl0] at hs0
    have htl : ((Q9 e l).take (q * e.sz)).length = q * e.sz := by rw [List.length_take, Zg]; omega
    rw [← hs1, hv]
    conv => lhs; rw [← hs0]
    rw [List.append_assoc, List.set_append_right _ _ (by rw [htl]; omega), htl, List.set_append_left _ _ (by rw [hlen0]; omega), List.append_assoc]
    rw [show q * e.sz + f - q * e.sz = f by omega]
  have h2' : (Q6 E e (some ⟨b, 0, none⟩) c (l.set q x')).ok (w.setCell ⟨b, q * e.sz + f, none⟩ (opv ρ y)) := by
    show World.ownsRow _ 0 E e.sz (.slice (some ⟨b, 0, none⟩) (l.set q x').length c) (l.set q x').length (Q9 e (l.set q x'))
    rw [List.length_set, ← hset]
    exact h2
  refine Cm ho hd (w' := w.setCell ⟨b, q * e.sz + f, none⟩ (opv ρ y)) (fun o hop => ?_) (next _ (hs.set hi (T := [b]) (Ry h3 (fun q hq => by injection hq with hq; simp [hq])) (fun q hq => ?_) h2' fun q hq => ?_))
  · have hcs : (opv ρ y).cells = #[opv ρ y] := by
      cases hvv : opv ρ y <;> first | rfl | (rw [hvv] at hone; cases hone)
    cases hi' : P.info? t with
    | none => rw [hi'] at ht; cases ht
    | some ii =>
      rw [hi'] at ht
      have ht : ii.size = 1 := by simpa using ht
      have hsz : (sizeOf t).run P w = .ok 1 w := by simp [sizeOf, typeInfo, hi', ht]
      have hst : (Go.store ⟨b, q * e.sz + f, none⟩ (opv ρ y)).run P w = .ok () (w.setCell ⟨b, q * e.sz + f, none⟩ (opv ρ y)) := by
        cases hvv : opv ρ y <;> first | (rw [hvv] at hone; cases hone; done) | (simp [Go.store, Sem.run, hu0, hfr])
      unfold execOp; rw [hop]
      rw [Nat.zero_add] at hx
      have hadd : (⟨b, q * e.sz + f, none⟩ : Addr).add 0 = ⟨b, q * e.sz + f, none⟩ := by simp [Addr.add]
      simp only [hx, Instr.storeAt, Instr.sureAddr, Sem.run_bind, Sem.run_pure, Result.andThen_ok, storeVar, hsz, hcs]
      simp [storeCells, hadd, hst, Sem.run_bind]
  · simpa [Q6, row, Value.ownBlock] using hq
  · have hq' : q = b := by simpa [Q6, row, Value.ownBlock] using hq
    subst hq'
    refine ⟨.inl (by simp [Q6, row, Value.ownBlock]), ?_⟩
    have := (World.ownsRow.lt hown q (by simp [Value.ownBlock])).2
    simpa [World.setCell] using this
theorem Ez {S : List Nat} {w0 : World} {es : List Ent} {dst : Option Nat} {A : Option Addr} {c : Nat} {d m : List Qh} {y : Qh} {T TX : TypeId} {s x : Operand} {b i : Nat} {vx : Value} (ho : G2 (Qe B p) k ρ = some (.call { callee := .builtin .append, args := #[s, x], argTypes := #[T, TX] }, dst)) (hd : Xz n dst = true)
    (hv : opv ρ s = .slice A (List.length (List.map stT d)) c) (hx : opv ρ x = vx) (hT : P.underlying T = some (.slice 33)) (hE : (P.info? 33).map (fun i => (i.zero.map (·.cells.size), i.size, i.bytes)) = some (some V1.sz, V1.sz, b)) (hb : (Nat.ble 1 V1.sz && Nat.ble b 65536) = true)
    (hs : SP S w0 w es) (hi : es[i]? = some (Yx A c d)) (hsrc : Src P V1.sz TX vx m.length (Q9 V1 m) w) (hm : m = [y]) (hy : y.2.2.2 = ((none, 0, []), (none, 0, []))) {lm : List Qb} (hlen : (List.map stT d).length + lm.length ≤ 2147483648) (hlm : lm = [stT y])
    (next : ∀ (A' : Option Addr) (c' : Nat) (w' : World), SP S w0 w' (es.set i (Yx A' c' (d ++ [y]))) → K (Ui ρ dst (.slice A' (List.length (List.map stT (d ++ [y]))) c')) w') : Qi P n B p k K ρ w := by
  subst hm hlm
  rw [List.length_map] at hv hlen
  have hlt : i < es.length := (List.getElem?_eq_some_iff.1 hi).1
  refine Qi.append (m := [y]) ho hd hv hx hT hE hb (hs.openT hi rfl) (i := i) (by rw [List.getElem?_append_left (by simpa using hlt), List.getElem?_set, if_pos rfl, if_pos hlt]) hsrc (by simpa using hlen) fun A' c' w' hs' => ?_
  have := next A' c' w' ?_
  · rw [List.length_map] at this; exact this
  rw [List.set_append_left _ _ (by simpa using hlt), List.set_set] at hs'
  have h2 := hs'.innMore (j := es.length) (d := d) (y := y) (by rw [List.getElem?_append_right (by simp)]; simp) hy
  refine h2.closeT (i := i) (j := es.length) (A := A') (c := c') (d := d ++ [y]) ?_ ?_ (by omega) ?_
  · rw [List.getElem?_set, if_neg (by omega), List.getElem?_append_left (by simpa using hlt), List.getElem?_set, if_pos rfl, if_pos hlt]
  · rw [List.getElem?_set, if_pos rfl, if_pos (by simp)]
  · rw [List.set_append_right _ _ (by simp), List.set_append_left _ _ (by simpa using hlt), List.set_set, List.eraseIdx_append_of_length_le (by simp)]
    simp
end
theorem last_idx {α β : Type} {f : α → β} {d : List α} (hm : d.length ≤ maxLen) (h0 : 0 ≤ IntKind.wrap .i64 (((List.length (List.map f d) : Nat) : Int) - 1)) (h1 : IntKind.wrap .i64 (((List.length (List.map f d) : Nat) : Int) - 1) < (d.length : Int)) : Int.toNat (IntKind.wrap .i64 (((List.length (List.map f d) : Nat) : Int) - 1)) = List.length (List.map f d) - 1 := by
  rw [List.length_map] at *
  have hm' : d.length ≤ 9223372036854775807 := hm
  have hw : IntKind.wrap .i64 ((d.length : Int) - 1) = (d.length : Int) - 1 := IntWalk.i64_in _ (by omega)
  rw [hw] at h0 ⊢
  omega
def lastT (l : List Qb) : Qb := l.getLast?.getD ([], 0, 0, [], [])
def Ln {β : Type} (l : List Qb) (f : List Qb → Qb → List Qb → Option β) : Option β := f l.dropLast (lastT l) l
section
variable {β : Type} {d d0 : List Qh} {y : Qh} {f : List Qb → Qb → List Qb → Option β} {r : β}
theorem Fl (h : List.isEmpty (List.map stT d) = false) : ∃ d0 y, d = d0 ++ [y] := by
  rcases List.eq_nil_or_concat d with rfl | ⟨d0, y, rfl⟩
  · cases h
  · exact ⟨d0, y, by simp⟩
theorem Fm (hd : d = d0 ++ [y]) (h : Ln (List.map stT d) f = some r) : f (List.map stT d0) (stT y) (List.map stT (d0 ++ [y])) = some r := by
  subst hd
  unfold Ln lastT at h
  simpa using h
theorem Kq (y' : Qh) : List.length (List.map stT (d0 ++ [y])) = List.length (List.map stT (d0 ++ [y'])) := by simp
theorem F8 : List.map stT d0 ++ [stT y] = List.map stT (d0 ++ [y]) := by simp
end
section
variable {P : Program} {n : Nat} {ρ : Fr} {w w0 : World} {B : Code} {p : List Bool} {k : Nat} {K : Fr → World → Prop} {S : List Nat} {es es' : List Ent} {dst : Option Nat} {A : Option Addr} {c i : Nat} {d0 : List Qh} {y y' : Qh} {b off : Nat}
theorem Eg (h : SP S w0 w es) (hi : es[i]? = some (Yx A c (d0 ++ [y]))) (he : es' = es.set i (Q6 33 V1 A c (d0 ++ [y])) ++ [Dm d0] ++ [Ew y] ++ [Ex y]) : SP S w0 w es' := by
  have h1 := h.openT hi rfl
  refine h1.splitI (j := es.length) (d0 := d0) (y := y) (by rw [List.getElem?_append_right (by simp)]; simp) ?_
  rw [he, List.set_append_right _ _ (by simp)]
  simp
theorem Cb (h : SP S w0 w es) {q j m : Nat} (hi : es[i]? = some (Q6 33 V1 A c (d0 ++ [y]))) (hq : es[q]? = some (Dm d0)) (hj : es[j]? = some (Ew y)) (hm : es[m]? = some (Ex y)) (h1 : i < q) (h2 : q < j) (h3 : j < m) (he : es' = ((((es.set q (Dm (d0 ++ [y]))).eraseIdx m).eraseIdx j).set i (Yx A c (d0 ++ [y]))).eraseIdx q) : SP S w0 w es' := by
  have s1 := h.joinI hq hj hm h2 h3 rfl
  have hlt : i < es.length := (List.getElem?_eq_some_iff.1 hi).1
  have hlq : q < es.length := (List.getElem?_eq_some_iff.1 hq).1
  refine s1.closeT (i := i) (j := q) (A := A) (c := c) (d := d0 ++ [y]) ?_ ?_ (by omega) he
  · rw [List.getElem?_eraseIdx, if_pos (by omega), List.getElem?_eraseIdx, if_pos (by omega), List.getElem?_set, if_neg (by omega)]
    exact hi
  · rw [List.getElem?_eraseIdx, if_pos (by omega), List.getElem?_eraseIdx, if_pos (by omega), List.getElem?_set, if_pos rfl, if_pos hlq]
theorem Gw (h : (Q6 33 V1 A c (d0 ++ [y])).ok w) (hA : A = some ⟨b, off, none⟩) {f : Nat} {v : Value} (hv : (V1.enc y)[f]? = some v) : w.cell? ⟨b, off + List.length d0 * V1.sz + f, none⟩ = some v := by
  obtain ⟨_, _, _, h4⟩ := Vg h
  obtain ⟨b', off', hA', _, hc⟩ := h4 (by simp)
  rw [hA] at hA'
  injection hA' with hA'
  injection hA' with h5 h6
  subst h5 h6
  have := Nw V1 (l := d0 ++ [y]) (i := d0.length) (x := y) (by simp) hv
  rw [Nat.add_assoc]
  exact hc _ _ this
theorem set_last : (d0 ++ [y]).set d0.length y' = d0 ++ [y'] := by simp
theorem Dt {f : Nat} {t : TypeId} {x z : Operand} {v : Value} (ho : G2 (Qe B p) k ρ = some (.store t x z, dst)) (hd : Xz n dst = true) (hA : A = some ⟨b, off, none⟩) (hx : opv ρ x = .pointer (some ⟨b, off + List.length d0 * V1.sz + f, none⟩)) (hz : opv ρ z = v)
    (hs : SP S w0 w es) (hi : es[i]? = some (Q6 33 V1 A c (d0 ++ [y]))) (hf : Nat.ble (f + 1) V1.sz = true) (hv : V1.enc y' = (V1.enc y).set f v) (ht : (P.info? t).map (·.size) = some 1)
    (next : ∀ w' : World, SP S w0 w' (es.set i (Q6 33 V1 A c (d0 ++ [y']))) → K (Ui ρ dst undef) w') : Qi P n B p k K ρ w := by
  refine Ey (x0 := y) (x' := y') (q := d0.length) ho hd hA hx hz hs hi (by simp) (Nat.le_of_ble_eq_true hf) hv ht fun w' hs' => ?_
  rw [set_last] at hs'
  exact next w' hs'
end
end Go.Proofs.YtoflbpmbkmephaaGreatDoor
namespace Go.Proofs.YtoflbpmbkmephaaGreatDoor
open Go.RowKit
def Xh (q2 : Int) (q3 : Int) (q4 : Int) (q5 : Int) (q7 : Int) (a : (Int × Bool)) (b : Bool) : Option (Int × Int × Int × Int × Int × Int × Bool) :=
  (some (a.1, q2, q3, q4, q5, q7, b))
def Vj (q2 : Int) (q3 : Int) (q4 : Int) (q5 : Int) (q7 : Int) (q8 : Bool) (p9 : (List UInt8)) : Option (Int × Int × Int × Int × Int × Int × Bool) :=
  ((U0 p9).bind fun a => (cond q8 (Xh q2 q3 q4 q5 q7 a true) (Xh q2 q3 q4 q5 q7 a (!a.2))))
set_option maxHeartbeats 40000000 in
theorem Va {S : List Nat} (g1 : Nat) (v6 : Value) (q2 : Int) (q3 : Int) (q4 : Int) (q5 : Int) (q7 : Int) (q8 : Bool) (p9 : (List UInt8)) (w0 : World) (hL : ∀ w, Mod S w0 w → U9 w) (hO : SP S w0 w0 [Qq g1 72 #[(.int .i64 q2), (.int .i64 q3), (.int .i64 q4), (.int .i64 q5), v6, (.int .i64 q7), (.bool q8)]])  (r : (Int × Int × Int × Int × Int × Int × Bool)) (H : Vj q2 q3 q4 q5 q7 q8 p9 = some r) :
  Calls Tryz.prog 164 #[(pt g1 0), (.string ⟨List.toArray p9⟩)] w0 (fun e w' => e = .returned (.int .i64 r.1) ∧ SP S w0 w' [Qq g1 72 #[(.int .i64 r.2.1), (.int .i64 r.2.2.1), (.int .i64 r.2.2.2.1), (.int .i64 r.2.2.2.2.1), v6, (.int .i64 r.2.2.2.2.2.1), (.bool r.2.2.2.2.2.2)]]) := by
 unfold Vj at H
 refine Qv (n := 24) Tryz.func164 K K K ?_
 have j := hO
 refine aQ ?_
 refine aR ?_
 refine iR 1 1 [(4, (.int .i64 0))] ?_
 refine iF ?_
 refine aQ ?_
 refine aR ?_
 refine iR 1 1 [(8, (.string ⟨List.toArray p9⟩))] ?_
 obtain ⟨a, o, H⟩ := Qd H
 refine iS 2 ?_
 refine cF 135 #[(.tmp 8)] #[9] 9 Tryz.call135 (Yd  p9 w0 (hL w0 (SP.mod j)) a o) ?_
 rintro e u ⟨rfl, m⟩
 refine ⟨_, rfl, ?_⟩
 have c := SP.call j m
 clear m
 refine iR 5 7 [(7, (.tuple #[(.int .i64 a.1), (.bool a.2)])), (10, (.int .i64 a.1)), (11, (.bool a.2)), (5, (.int .i64 a.1)), (6, (.bool a.2))] ?_
 refine iF ?_
 refine aQ ?_
 refine At.join (fun ρ w => ∃ (f : Bool), Zm ρ [(5, (.int .i64 a.1))] ∧ SP S w0 w [Qq g1 72 #[(.int .i64 q2), (.int .i64 q3), (.int .i64 q4), (.int .i64 q5), v6, (.int .i64 q7), (.bool f)]] ∧ Xh q2 q3 q4 q5 q7 a f = some r) ?_ ?_
 ·refine aR ?_
  refine iR 4 4 [(12, (pt g1 0)), (13, (pt g1 0)), (14, (pt g1 0)), (15, (pt g1 6))] ?_
  refine iS 5 ?_
  refine sL 4 15 g1 6 0 (.bool q8) 16 c rfl ?_
  refine iR 1 6 [(17, (.bool q8))] ?_
  refine In.guard (t := 17) (b := q8) K (fun h => ?_) (fun h => ?_)
  ·have H := ct H h
   refine iR 5 11 [(18, undef), (19, undef), (20, (.bool true)), (21, (pt g1 0)), (22, (pt g1 6))] ?_
   refine iS 12 ?_
   refine Qi.store (t := 4) (x := (.tmp 22)) (y := (.tmp 20)) (g := g1) (off := 6) (i := 0) (v := (.bool true)) (cs' := #[(.int .i64 q2), (.int .i64 q3), (.int .i64 q4), (.int .i64 q5), v6, (.int .i64 q7), (.bool true)]) (d := none) (k := 11) K rfl K K c rfl K ?_
   intro z p
   refine iF ?_
   exact ⟨true, ⟨K, trivial⟩, SP.sel p [0] rfl rfl, H⟩
  ·have H := cf H h
   refine iR 5 11 [(18, (.bool a.2)), (19, (.bool (!a.2))), (20, (.bool (!a.2))), (21, (pt g1 0)), (22, (pt g1 6))] ?_
   refine iS 12 ?_
   refine Qi.store (t := 4) (x := (.tmp 22)) (y := (.tmp 20)) (g := g1) (off := 6) (i := 0) (v := (.bool (!a.2))) (cs' := #[(.int .i64 q2), (.int .i64 q3), (.int .i64 q4), (.int .i64 q5), v6, (.int .i64 q7), (.bool (!a.2))]) (d := none) (k := 11) K rfl K K c rfl K ?_
   intro a0 q
   refine iF ?_
   exact ⟨(!a.2), ⟨K, trivial⟩, SP.sel q [0] rfl rfl, H⟩
 ·rintro ρ a1 ⟨f, hk, s, H⟩
  unfold Xh at H
  first | refine At.known [(5, (.int .i64 a.1))] hk ?_ | rw [← Q3 (l := [(5, (.int .i64 a.1))]) hk]
  refine aQ ?_
  refine aR ?_
  refine iR 2 2 [(23, (.int .i64 a.1)), (4, (.int .i64 a.1))] ?_
  refine iF ?_
  refine At.ret K ?_
  refine ⟨(.int .i64 a.1), K, ?_⟩
  obtain rfl := Qg H
  exact ⟨rfl, SP.sel s [0] rfl rfl⟩
def Yn (q2 : Int) (q3 : Int) (q4 : Int) (q5 : Int) (q7 : Int) (q8 : Bool) (p9 : (List (List UInt8))) : Option (Int × Int × Int × Int × Int × Bool) :=
  ((idx p9 1).bind fun e => ((Vj q2 q3 q4 q5 q7 (decide (q7 > 0)) e).bind fun a => ((idx p9 2).bind fun f => ((Vj a.2.1 a.2.2.1 a.2.2.2.1 a.2.2.2.2.1 a.2.2.2.2.2.1 a.2.2.2.2.2.2 f).bind fun b => ((idx p9 3).bind fun g => ((Vj b.2.1 b.2.2.1 b.2.2.2.1 b.2.2.2.2.1 b.2.2.2.2.2.1 b.2.2.2.2.2.2 g).bind fun c => ((idx p9 4).bind fun h => ((Vj c.2.1 c.2.2.1 c.2.2.2.1 c.2.2.2.2.1 c.2.2.2.2.2.1 c.2.2.2.2.2.2 h).bind fun d => (some (a.1, b.1, c.1, d.1, d.2.2.2.2.2.1, d.2.2.2.2.2.2))))))))))
set_option maxHeartbeats 40000000 in
theorem Ga {S : List Nat} (g1 : Nat) (v6 : Value) (q : Option Addr) (s : Nat) (q2 : Int) (q3 : Int) (q4 : Int) (q5 : Int) (q7 : Int) (q8 : Bool) (p9 : (List (List UInt8))) (w0 : World) (hL : ∀ w, Mod S w0 w → U9 w) (hO : SP S w0 w0 [Qq g1 72 #[(.int .i64 q2), (.int .i64 q3), (.int .i64 q4), (.int .i64 q5), v6, (.int .i64 q7), (.bool q8)]]) (u : ∀ w, Mod S w0 w → RdT Ql w q s p9) (r : (Int × Int × Int × Int × Int × Bool)) (H : Yn q2 q3 q4 q5 q7 q8 p9 = some r) :
  Calls Tryz.prog 142 #[(pt g1 0), (.slice q (List.length p9) s)] w0 (fun e w' => e = .returned (.tuple #[]) ∧ SP S w0 w' [Qq g1 72 #[(.int .i64 r.1), (.int .i64 r.2.1), (.int .i64 r.2.2.1), (.int .i64 r.2.2.2.1), v6, (.int .i64 r.2.2.2.2.1), (.bool r.2.2.2.2.2)]]) := by
 unfold Yn at H
 refine Qv (n := 48) Tryz.func142 K K K ?_
 have b8 := hO
 refine aQ ?_
 refine aR ?_
 refine iR 4 4 [(4, (pt g1 0)), (5, (pt g1 0)), (6, (pt g1 0)), (7, (pt g1 5))] ?_
 refine iS 5 ?_
 refine sL 3 7 g1 5 0 (.int .i64 q7) 8 b8 rfl ?_
 refine iR 3 8 [(9, (.bool (decide (q7 > 0)))), (10, (pt g1 0)), (11, (pt g1 6))] ?_
 refine iS 9 ?_
 refine Qi.store (t := 4) (x := (.tmp 11)) (y := (.tmp 9)) (g := g1) (off := 6) (i := 0) (v := (.bool (decide (q7 > 0)))) (cs' := #[(.int .i64 q2), (.int .i64 q3), (.int .i64 q4), (.int .i64 q5), v6, (.int .i64 q7), (.bool (decide (q7 > 0)))]) (d := none) (k := 8) K rfl K K b8 rfl K ?_
 intro q9 d1
 refine iF ?_
 obtain ⟨b1, b9, c0, d2, H⟩ := Ve H
 obtain ⟨m, d3, H⟩ := Qd H
 obtain ⟨a7, a8, a9, c1, H⟩ := Ve H
 obtain ⟨o, d4, H⟩ := Qd H
 obtain ⟨a5, a2, a3, b2, H⟩ := Ve H
 obtain ⟨p, d5, H⟩ := Qd H
 obtain ⟨a4, z, a0, b0, H⟩ := Ve H
 obtain ⟨f, d6, H⟩ := Qd H
 refine aG [GEq (pt g1 0), GEq (pt g1 0), GEq (pt g1 0), GEq (pt g1 0), GEq (pt g1 0), GEq (.slice q (List.length p9) s), Yb q Ql.sz 1, GEq (.string ⟨List.toArray b1⟩), GEq (.int .i64 m.1), GEq (pt g1 0), GEq (.slice q (List.length p9) s), Yb q Ql.sz 2, GEq (.string ⟨List.toArray a7⟩), GEq (.int .i64 o.1), GEq (pt g1 0), GEq (.slice q (List.length p9) s), Yb q Ql.sz 3, GEq (.string ⟨List.toArray a5⟩), GEq (.int .i64 p.1), GEq (pt g1 0), GEq (.slice q (List.length p9) s), Yb q Ql.sz 4, GEq (.string ⟨List.toArray a4⟩), GEq (.int .i64 f.1), GEq (pt g1 0), GEq (pt g1 0), GEq (pt g1 0), Rp, GEq (pt g1 0), GEq (pt g1 0), GEq (pt g1 1), Rp, GEq (pt g1 0), GEq (pt g1 0), GEq (pt g1 2), Rp, GEq (pt g1 0), GEq (pt g1 0), GEq (pt g1 3), Rp] [8, 13, 18, 23, 27, 31, 35, 39] [sG [] [] S w0 [Qq g1 72 #[(.int .i64 q2), (.int .i64 q3), (.int .i64 q4), (.int .i64 q5), v6, (.int .i64 q7), (.bool (decide (q7 > 0)))]], sG [8] [(.int .i64 m.1)] S w0 [Qq g1 72 #[(.int .i64 m.2.1), (.int .i64 m.2.2.1), (.int .i64 m.2.2.2.1), (.int .i64 m.2.2.2.2.1), v6, (.int .i64 m.2.2.2.2.2.1), (.bool m.2.2.2.2.2.2)]], sG [8, 13] [(.int .i64 m.1), (.int .i64 o.1)] S w0 [Qq g1 72 #[(.int .i64 o.2.1), (.int .i64 o.2.2.1), (.int .i64 o.2.2.2.1), (.int .i64 o.2.2.2.2.1), v6, (.int .i64 o.2.2.2.2.2.1), (.bool o.2.2.2.2.2.2)]], sG [8, 13, 18] [(.int .i64 m.1), (.int .i64 o.1), (.int .i64 p.1)] S w0 [Qq g1 72 #[(.int .i64 p.2.1), (.int .i64 p.2.2.1), (.int .i64 p.2.2.2.1), (.int .i64 p.2.2.2.2.1), v6, (.int .i64 p.2.2.2.2.2.1), (.bool p.2.2.2.2.2.2)]], sG [8, 13, 18, 23] [(.int .i64 m.1), (.int .i64 o.1), (.int .i64 p.1), (.int .i64 f.1)] S w0 [Qq g1 72 #[(.int .i64 f.2.1), (.int .i64 f.2.2.1), (.int .i64 f.2.2.2.1), (.int .i64 f.2.2.2.2.1), v6, (.int .i64 f.2.2.2.2.2.1), (.bool f.2.2.2.2.2.2)]], sG [8, 13, 18, 23, 27] [(.int .i64 m.1), (.int .i64 o.1), (.int .i64 p.1), (.int .i64 f.1), undef] S w0 [Qq g1 72 #[(.int .i64 m.1), (.int .i64 f.2.2.1), (.int .i64 f.2.2.2.1), (.int .i64 f.2.2.2.2.1), v6, (.int .i64 f.2.2.2.2.2.1), (.bool f.2.2.2.2.2.2)]], sG [8, 13, 18, 23, 27, 31] [(.int .i64 m.1), (.int .i64 o.1), (.int .i64 p.1), (.int .i64 f.1), undef, undef] S w0 [Qq g1 72 #[(.int .i64 m.1), (.int .i64 o.1), (.int .i64 f.2.2.2.1), (.int .i64 f.2.2.2.2.1), v6, (.int .i64 f.2.2.2.2.2.1), (.bool f.2.2.2.2.2.2)]], sG [8, 13, 18, 23, 27, 31, 35] [(.int .i64 m.1), (.int .i64 o.1), (.int .i64 p.1), (.int .i64 f.1), undef, undef, undef] S w0 [Qq g1 72 #[(.int .i64 m.1), (.int .i64 o.1), (.int .i64 p.1), (.int .i64 f.2.2.2.2.1), v6, (.int .i64 f.2.2.2.2.2.1), (.bool f.2.2.2.2.2.2)]], sG [8, 13, 18, 23, 27, 31, 35, 39] [(.int .i64 m.1), (.int .i64 o.1), (.int .i64 p.1), (.int .i64 f.1), undef, undef, undef, undef] S w0 [Qq g1 72 #[(.int .i64 m.1), (.int .i64 o.1), (.int .i64 p.1), (.int .i64 f.1), v6, (.int .i64 f.2.2.2.2.2.1), (.bool f.2.2.2.2.2.2)]]] 40 8 ⟨trivial, SP.drew d1⟩ ?_ ?_
 iterate 40 refine And.intro ?_ ?_
 exact trivial
 ·exact oV (hC (hS 0 (pt g1 0)) (h0)) (pt g1 0)
 ·exact oV (hC (hS 0 (pt g1 0)) (h0)) (pt g1 0)
 ·exact oV (hC (hS 0 (pt g1 0)) (h0)) (pt g1 0)
 ·exact oV (hC (hS 0 (pt g1 0)) (h0)) (pt g1 0)
 ·exact oV (hC (hS 0 (pt g1 0)) (h0)) (pt g1 0)
 ·exact oV (hC (hS 1 (.slice q (List.length p9) s)) (h0)) (.slice q (List.length p9) s)
 ·refine oL 0 ?_
  ·rintro ρ' w' hs a ⟨r0, d7⟩
   refine kM (kc (kA a 5 17) k0) fun b => ?_
   refine Qn (e := Ql) (l := p9) (A := q) (c := s) (T := 79) (E := 9) (x := (.tmp 17)) (ix := (.const (.int .i64 (1)))) (ki := .i64) (iz := 1) (d := (some 18)) (k := 6) K rfl K K K K (u w' (SP.mod d7)) b9 c0 ?_
   intro d8 d9 e0 r1 hc658
   exact ⟨rfl, _, Qa b, ⟨d8, d9, e0, rfl⟩⟩
 ·refine oL 0 ?_
  ·rintro ρ' w' hs a ⟨r2, e1⟩
   obtain ⟨e2, e3, e4, e5⟩ := a 6 18 K
   refine kM (kc e5 k0) fun b => ?_
   refine sC 9 18 e2 (e3 + Int.toNat 1 * Ql.sz) (.string ⟨List.toArray b1⟩) 19 (Qw (e := Ql) (Qj (u w' (SP.mod e1)) e4 b9 c0) d2 (j := 0) rfl) ?_
   exact eK b
 ·refine oH 0 1 ?_
  ·rintro ρ' w' hs a ⟨r3, b3⟩
   refine kM (kc (kA a 4 16) (kc (kA a 7 19) k0)) fun b => ?_
   refine cF 164 #[(.tmp 16), (.tmp 19)] #[70, 9] 20 Tryz.call164 (Va g1 v6 q2 q3 q4 q5 q7 (decide (q7 > 0)) b1 w' (fun w hm => hL w (SP.through b3 (l := [0]) rfl hm)) (Jw b3 [0] rfl rfl) m d3) ?_
   rintro e e6 ⟨rfl, c2⟩
   refine ⟨_, rfl, ?_⟩
   have e7 : SP S w0 e6 [Qq g1 72 #[(.int .i64 m.2.1), (.int .i64 m.2.2.1), (.int .i64 m.2.2.2.1), (.int .i64 m.2.2.2.2.1), v6, (.int .i64 m.2.2.2.2.2.1), (.bool m.2.2.2.2.2.2)]] := Z2 b3 [0] [] rfl rfl c2 rfl
   clear c2
   refine ⟨_, Qa b, rfl, ?_⟩
   exact (And.intro (And.intro rfl (trivial)) e7)
 ·exact oV (hC (hS 0 (pt g1 0)) (h0)) (pt g1 0)
 ·exact oV (hC (hS 1 (.slice q (List.length p9) s)) (h0)) (.slice q (List.length p9) s)
 ·refine Owe.light K [0, 1] K (Qc ?_ (Qc ?_ Q8))
  ·rintro ρ' w' hs a ⟨r4, e8⟩
   refine kM (kc (kA a 10 22) k0) fun b => ?_
   refine Qn (e := Ql) (l := p9) (A := q) (c := s) (T := 79) (E := 9) (x := (.tmp 22)) (ix := (.const (.int .i64 (2)))) (ki := .i64) (iz := 2) (d := (some 23)) (k := 11) K rfl K K K K (u w' (SP.mod e8)) a8 a9 ?_
   intro e9 f0 f1 r5 hc676
   exact ⟨rfl, _, Qa b, ⟨e9, f0, f1, rfl⟩⟩
  ·rintro ρ' w' hs a ⟨⟨r6, -⟩, f2⟩
   refine kM (kc (kA a 10 22) k0) fun b => ?_
   refine Qn (e := Ql) (l := p9) (A := q) (c := s) (T := 79) (E := 9) (x := (.tmp 22)) (ix := (.const (.int .i64 (2)))) (ki := .i64) (iz := 2) (d := (some 23)) (k := 11) K rfl K K K K (u w' (SP.mod f2)) a8 a9 ?_
   intro f3 f4 f5 r7 hc684
   exact ⟨rfl, _, Qa b, ⟨f3, f4, f5, rfl⟩⟩
 ·refine Owe.light K [0, 1] K (Qc ?_ (Qc ?_ Q8))
  ·rintro ρ' w' hs a ⟨r8, f6⟩
   obtain ⟨f7, f8, f9, b4⟩ := a 11 23 K
   refine kM (kc b4 k0) fun b => ?_
   refine sC 9 23 f7 (f8 + Int.toNat 2 * Ql.sz) (.string ⟨List.toArray a7⟩) 24 (Qw (e := Ql) (Qj (u w' (SP.mod f6)) f9 a8 a9) c1 (j := 0) rfl) ?_
   exact eK b
  ·rintro ρ' w' hs a ⟨⟨r9, -⟩, g0⟩
   obtain ⟨g2, g3, g4, b4⟩ := a 11 23 K
   refine kM (kc b4 k0) fun b => ?_
   refine sC 9 23 g2 (g3 + Int.toNat 2 * Ql.sz) (.string ⟨List.toArray a7⟩) 24 (Qw (e := Ql) (Qj (u w' (SP.mod g0)) g4 a8 a9) c1 (j := 0) rfl) ?_
   exact eK b
 ·refine oH 1 2 ?_
  ·rintro ρ' w' hs a ⟨⟨g5, -⟩, b5⟩
   refine kM (kc (kA a 9 21) (kc (kA a 12 24) k0)) fun b => ?_
   refine cF 164 #[(.tmp 21), (.tmp 24)] #[70, 9] 25 Tryz.call164 (Va g1 v6 m.2.1 m.2.2.1 m.2.2.2.1 m.2.2.2.2.1 m.2.2.2.2.2.1 m.2.2.2.2.2.2 a7 w' (fun w hm => hL w (SP.through b5 (l := [0]) rfl hm)) (Jw b5 [0] rfl rfl) o d4) ?_
   rintro e g6 ⟨rfl, c3⟩
   refine ⟨_, rfl, ?_⟩
   have g7 : SP S w0 g6 [Qq g1 72 #[(.int .i64 o.2.1), (.int .i64 o.2.2.1), (.int .i64 o.2.2.2.1), (.int .i64 o.2.2.2.2.1), v6, (.int .i64 o.2.2.2.2.2.1), (.bool o.2.2.2.2.2.2)]] := Z2 b5 [0] [] rfl rfl c3 rfl
   clear c3
   refine ⟨_, Qa b, rfl, ?_⟩
   exact (And.intro (And.intro g5 (And.intro rfl (trivial))) g7)
 ·exact oV (hC (hS 0 (pt g1 0)) (h0)) (pt g1 0)
 ·exact oV (hC (hS 1 (.slice q (List.length p9) s)) (h0)) (.slice q (List.length p9) s)
 ·refine Owe.light K [0, 1, 2] K (Qc ?_ (Qc ?_ (Qc ?_ Q8)))
  ·rintro ρ' w' hs a ⟨s0, g8⟩
   refine kM (kc (kA a 15 27) k0) fun b => ?_
   refine Qn (e := Ql) (l := p9) (A := q) (c := s) (T := 79) (E := 9) (x := (.tmp 27)) (ix := (.const (.int .i64 (3)))) (ki := .i64) (iz := 3) (d := (some 28)) (k := 16) K rfl K K K K (u w' (SP.mod g8)) a2 a3 ?_
   intro g9 h1 h2 s1 hc709
   exact ⟨rfl, _, Qa b, ⟨g9, h1, h2, rfl⟩⟩
  ·rintro ρ' w' hs a ⟨⟨s2, -⟩, h3⟩
   refine kM (kc (kA a 15 27) k0) fun b => ?_
   refine Qn (e := Ql) (l := p9) (A := q) (c := s) (T := 79) (E := 9) (x := (.tmp 27)) (ix := (.const (.int .i64 (3)))) (ki := .i64) (iz := 3) (d := (some 28)) (k := 16) K rfl K K K K (u w' (SP.mod h3)) a2 a3 ?_
   intro h4 h5 h6 s3 hc717
   exact ⟨rfl, _, Qa b, ⟨h4, h5, h6, rfl⟩⟩
  ·rintro ρ' w' hs a ⟨⟨s4, s5, -⟩, h7⟩
   refine kM (kc (kA a 15 27) k0) fun b => ?_
   refine Qn (e := Ql) (l := p9) (A := q) (c := s) (T := 79) (E := 9) (x := (.tmp 27)) (ix := (.const (.int .i64 (3)))) (ki := .i64) (iz := 3) (d := (some 28)) (k := 16) K rfl K K K K (u w' (SP.mod h7)) a2 a3 ?_
   intro h8 h9 i0 s6 hc726
   exact ⟨rfl, _, Qa b, ⟨h8, h9, i0, rfl⟩⟩
 ·refine Owe.light K [0, 1, 2] K (Qc ?_ (Qc ?_ (Qc ?_ Q8)))
  ·rintro ρ' w' hs a ⟨s7, i1⟩
   obtain ⟨i2, i3, i4, a6⟩ := a 16 28 K
   refine kM (kc a6 k0) fun b => ?_
   refine sC 9 28 i2 (i3 + Int.toNat 3 * Ql.sz) (.string ⟨List.toArray a5⟩) 29 (Qw (e := Ql) (Qj (u w' (SP.mod i1)) i4 a2 a3) b2 (j := 0) rfl) ?_
   exact eK b
  ·rintro ρ' w' hs a ⟨⟨s8, -⟩, i5⟩
   obtain ⟨i6, i7, i8, a6⟩ := a 16 28 K
   refine kM (kc a6 k0) fun b => ?_
   refine sC 9 28 i6 (i7 + Int.toNat 3 * Ql.sz) (.string ⟨List.toArray a5⟩) 29 (Qw (e := Ql) (Qj (u w' (SP.mod i5)) i8 a2 a3) b2 (j := 0) rfl) ?_
   exact eK b
  ·rintro ρ' w' hs a ⟨⟨s9, t0, -⟩, i9⟩
   obtain ⟨j0, j1, j2, a6⟩ := a 16 28 K
   refine kM (kc a6 k0) fun b => ?_
   refine sC 9 28 j0 (j1 + Int.toNat 3 * Ql.sz) (.string ⟨List.toArray a5⟩) 29 (Qw (e := Ql) (Qj (u w' (SP.mod i9)) j2 a2 a3) b2 (j := 0) rfl) ?_
   exact eK b
 ·refine oH 2 3 ?_
  ·rintro ρ' w' hs a ⟨⟨j3, j4, -⟩, b6⟩
   refine kM (kc (kA a 14 26) (kc (kA a 17 29) k0)) fun b => ?_
   refine cF 164 #[(.tmp 26), (.tmp 29)] #[70, 9] 30 Tryz.call164 (Va g1 v6 o.2.1 o.2.2.1 o.2.2.2.1 o.2.2.2.2.1 o.2.2.2.2.2.1 o.2.2.2.2.2.2 a5 w' (fun w hm => hL w (SP.through b6 (l := [0]) rfl hm)) (Jw b6 [0] rfl rfl) p d5) ?_
   rintro e j5 ⟨rfl, c4⟩
   refine ⟨_, rfl, ?_⟩
   have j6 : SP S w0 j5 [Qq g1 72 #[(.int .i64 p.2.1), (.int .i64 p.2.2.1), (.int .i64 p.2.2.2.1), (.int .i64 p.2.2.2.2.1), v6, (.int .i64 p.2.2.2.2.2.1), (.bool p.2.2.2.2.2.2)]] := Z2 b6 [0] [] rfl rfl c4 rfl
   clear c4
   refine ⟨_, Qa b, rfl, ?_⟩
   exact (And.intro (And.intro j3 (And.intro j4 (And.intro rfl (trivial)))) j6)
 ·exact oV (hC (hS 0 (pt g1 0)) (h0)) (pt g1 0)
 ·exact oV (hC (hS 1 (.slice q (List.length p9) s)) (h0)) (.slice q (List.length p9) s)
 ·refine Owe.light K [0, 1, 2, 3] K (Qc ?_ (Qc ?_ (Qc ?_ (Qc ?_ Q8))))
  ·rintro ρ' w' hs a ⟨t1, j7⟩
   refine kM (kc (kA a 20 32) k0) fun b => ?_
   refine Qn (e := Ql) (l := p9) (A := q) (c := s) (T := 79) (E := 9) (x := (.tmp 32)) (ix := (.const (.int .i64 (4)))) (ki := .i64) (iz := 4) (d := (some 33)) (k := 21) K rfl K K K K (u w' (SP.mod j7)) z a0 ?_
   intro j8 j9 k1 t2 hc759
   exact ⟨rfl, _, Qa b, ⟨j8, j9, k1, rfl⟩⟩
  ·rintro ρ' w' hs a ⟨⟨t3, -⟩, k2⟩
   refine kM (kc (kA a 20 32) k0) fun b => ?_
   refine Qn (e := Ql) (l := p9) (A := q) (c := s) (T := 79) (E := 9) (x := (.tmp 32)) (ix := (.const (.int .i64 (4)))) (ki := .i64) (iz := 4) (d := (some 33)) (k := 21) K rfl K K K K (u w' (SP.mod k2)) z a0 ?_
   intro k3 k4 k5 t4 hc767
   exact ⟨rfl, _, Qa b, ⟨k3, k4, k5, rfl⟩⟩
  ·rintro ρ' w' hs a ⟨⟨t5, t6, -⟩, k6⟩
   refine kM (kc (kA a 20 32) k0) fun b => ?_
   refine Qn (e := Ql) (l := p9) (A := q) (c := s) (T := 79) (E := 9) (x := (.tmp 32)) (ix := (.const (.int .i64 (4)))) (ki := .i64) (iz := 4) (d := (some 33)) (k := 21) K rfl K K K K (u w' (SP.mod k6)) z a0 ?_
   intro k7 k8 k9 t7 hc776
   exact ⟨rfl, _, Qa b, ⟨k7, k8, k9, rfl⟩⟩
  ·rintro ρ' w' hs a ⟨⟨t8, t9, u0, -⟩, l0⟩
   refine kM (kc (kA a 20 32) k0) fun b => ?_
   refine Qn (e := Ql) (l := p9) (A := q) (c := s) (T := 79) (E := 9) (x := (.tmp 32)) (ix := (.const (.int .i64 (4)))) (ki := .i64) (iz := 4) (d := (some 33)) (k := 21) K rfl K K K K (u w' (SP.mod l0)) z a0 ?_
   intro l1 l2 l3 u1 hc786
   exact ⟨rfl, _, Qa b, ⟨l1, l2, l3, rfl⟩⟩
 ·refine Owe.light K [0, 1, 2, 3] K (Qc ?_ (Qc ?_ (Qc ?_ (Qc ?_ Q8))))
  ·rintro ρ' w' hs a ⟨u2, l4⟩
   obtain ⟨l5, l6, l7, a1⟩ := a 21 33 K
   refine kM (kc a1 k0) fun b => ?_
   refine sC 9 33 l5 (l6 + Int.toNat 4 * Ql.sz) (.string ⟨List.toArray a4⟩) 34 (Qw (e := Ql) (Qj (u w' (SP.mod l4)) l7 z a0) b0 (j := 0) rfl) ?_
   exact eK b
  ·rintro ρ' w' hs a ⟨⟨u3, -⟩, l8⟩
   obtain ⟨l9, m0, m1, a1⟩ := a 21 33 K
   refine kM (kc a1 k0) fun b => ?_
   refine sC 9 33 l9 (m0 + Int.toNat 4 * Ql.sz) (.string ⟨List.toArray a4⟩) 34 (Qw (e := Ql) (Qj (u w' (SP.mod l8)) m1 z a0) b0 (j := 0) rfl) ?_
   exact eK b
  ·rintro ρ' w' hs a ⟨⟨u4, u5, -⟩, m2⟩
   obtain ⟨m3, m4, m5, a1⟩ := a 21 33 K
   refine kM (kc a1 k0) fun b => ?_
   refine sC 9 33 m3 (m4 + Int.toNat 4 * Ql.sz) (.string ⟨List.toArray a4⟩) 34 (Qw (e := Ql) (Qj (u w' (SP.mod m2)) m5 z a0) b0 (j := 0) rfl) ?_
   exact eK b
  ·rintro ρ' w' hs a ⟨⟨u6, u7, u8, -⟩, m6⟩
   obtain ⟨m7, m8, m9, a1⟩ := a 21 33 K
   refine kM (kc a1 k0) fun b => ?_
   refine sC 9 33 m7 (m8 + Int.toNat 4 * Ql.sz) (.string ⟨List.toArray a4⟩) 34 (Qw (e := Ql) (Qj (u w' (SP.mod m6)) m9 z a0) b0 (j := 0) rfl) ?_
   exact eK b
 ·refine oH 3 4 ?_
  ·rintro ρ' w' hs a ⟨⟨n0, n1, n2, -⟩, b7⟩
   refine kM (kc (kA a 19 31) (kc (kA a 22 34) k0)) fun b => ?_
   refine cF 164 #[(.tmp 31), (.tmp 34)] #[70, 9] 35 Tryz.call164 (Va g1 v6 p.2.1 p.2.2.1 p.2.2.2.1 p.2.2.2.2.1 p.2.2.2.2.2.1 p.2.2.2.2.2.2 a4 w' (fun w hm => hL w (SP.through b7 (l := [0]) rfl hm)) (Jw b7 [0] rfl rfl) f d6) ?_
   rintro e n3 ⟨rfl, c5⟩
   refine ⟨_, rfl, ?_⟩
   have n4 : SP S w0 n3 [Qq g1 72 #[(.int .i64 f.2.1), (.int .i64 f.2.2.1), (.int .i64 f.2.2.2.1), (.int .i64 f.2.2.2.2.1), v6, (.int .i64 f.2.2.2.2.2.1), (.bool f.2.2.2.2.2.2)]] := Z2 b7 [0] [] rfl rfl c5 rfl
   clear c5
   refine ⟨_, Qa b, rfl, ?_⟩
   exact (And.intro (And.intro n0 (And.intro n1 (And.intro n2 (And.intro rfl (trivial))))) n4)
 ·exact oV (hC (hA 0 12) (h0)) (pt g1 0)
 ·exact oV (hC (hA 24 36) (h0)) (pt g1 0)
 ·exact oV (hC (hA 25 37) (h0)) (pt g1 0)
 ·refine oH 4 5 ?_
  ·rintro ρ' w' hs a ⟨⟨c6, n5, n6, n7, -⟩, n8⟩
   refine kN [(38, (pt g1 0)), (20, (.int .i64 m.1))] ⟨a 26 38 K, (Vo (h := 8) K).symm.trans c6, trivial⟩ fun b => ?_
   refine Qi.store (t := 2) (x := (.tmp 38)) (y := (.tmp 20)) (g := g1) (off := 0) (i := 0) (v := (.int .i64 m.1)) (cs' := #[(.int .i64 m.1), (.int .i64 f.2.2.1), (.int .i64 f.2.2.2.1), (.int .i64 f.2.2.2.2.1), v6, (.int .i64 f.2.2.2.2.2.1), (.bool f.2.2.2.2.2.2)]) (d := none) (k := 27) K rfl K K n8 rfl K ?_
   intro u9 n9
   refine ⟨_, Qa b, trivial, ?_⟩
   exact (And.intro (And.intro c6 (And.intro n5 (And.intro n6 (And.intro n7 (And.intro rfl (trivial)))))) n9)
 ·exact oV (hC (hA 1 13) (h0)) (pt g1 0)
 ·exact oV (hC (hA 28 39) (h0)) (pt g1 0)
 ·exact oV (hC (hA 29 40) (h0)) (pt g1 1)
 ·refine oH 5 6 ?_
  ·rintro ρ' w' hs a ⟨⟨o0, c7, o1, o2, o3, -⟩, o4⟩
   refine kN [(41, (pt g1 1)), (25, (.int .i64 o.1))] ⟨a 30 41 K, (Vo (h := 13) K).symm.trans c7, trivial⟩ fun b => ?_
   refine Qi.store (t := 2) (x := (.tmp 41)) (y := (.tmp 25)) (g := g1) (off := 1) (i := 0) (v := (.int .i64 o.1)) (cs' := #[(.int .i64 m.1), (.int .i64 o.1), (.int .i64 f.2.2.2.1), (.int .i64 f.2.2.2.2.1), v6, (.int .i64 f.2.2.2.2.2.1), (.bool f.2.2.2.2.2.2)]) (d := none) (k := 31) K rfl K K o4 rfl K ?_
   intro v0 o5
   refine ⟨_, Qa b, trivial, ?_⟩
   exact (And.intro (And.intro o0 (And.intro c7 (And.intro o1 (And.intro o2 (And.intro o3 (And.intro rfl (trivial))))))) o5)
 ·exact oV (hC (hA 2 14) (h0)) (pt g1 0)
 ·exact oV (hC (hA 32 42) (h0)) (pt g1 0)
 ·exact oV (hC (hA 33 43) (h0)) (pt g1 2)
 ·refine oH 6 7 ?_
  ·rintro ρ' w' hs a ⟨⟨o6, o7, c8, o8, o9, p0, -⟩, p1⟩
   refine kN [(44, (pt g1 2)), (30, (.int .i64 p.1))] ⟨a 34 44 K, (Vo (h := 18) K).symm.trans c8, trivial⟩ fun b => ?_
   refine Qi.store (t := 2) (x := (.tmp 44)) (y := (.tmp 30)) (g := g1) (off := 2) (i := 0) (v := (.int .i64 p.1)) (cs' := #[(.int .i64 m.1), (.int .i64 o.1), (.int .i64 p.1), (.int .i64 f.2.2.2.2.1), v6, (.int .i64 f.2.2.2.2.2.1), (.bool f.2.2.2.2.2.2)]) (d := none) (k := 35) K rfl K K p1 rfl K ?_
   intro v1 p2
   refine ⟨_, Qa b, trivial, ?_⟩
   exact (And.intro (And.intro o6 (And.intro o7 (And.intro c8 (And.intro o8 (And.intro o9 (And.intro p0 (And.intro rfl (trivial)))))))) p2)
 ·exact oV (hC (hA 3 15) (h0)) (pt g1 0)
 ·exact oV (hC (hA 36 45) (h0)) (pt g1 0)
 ·exact oV (hC (hA 37 46) (h0)) (pt g1 3)
 ·refine oH 7 8 ?_
  ·rintro ρ' w' hs a ⟨⟨p3, p4, p5, c9, p6, p7, p8, -⟩, q0⟩
   refine kN [(47, (pt g1 3)), (35, (.int .i64 f.1))] ⟨a 38 47 K, (Vo (h := 23) K).symm.trans c9, trivial⟩ fun b => ?_
   refine Qi.store (t := 2) (x := (.tmp 47)) (y := (.tmp 35)) (g := g1) (off := 3) (i := 0) (v := (.int .i64 f.1)) (cs' := #[(.int .i64 m.1), (.int .i64 o.1), (.int .i64 p.1), (.int .i64 f.1), v6, (.int .i64 f.2.2.2.2.2.1), (.bool f.2.2.2.2.2.2)]) (d := none) (k := 39) K rfl K K q0 rfl K ?_
   intro v2 q1
   refine ⟨_, Qa b, trivial, ?_⟩
   exact (And.intro (And.intro p3 (And.intro p4 (And.intro p5 (And.intro c9 (And.intro p6 (And.intro p7 (And.intro p8 (And.intro rfl (trivial))))))))) q1)
 ·rintro ρ' w' hs hf ⟨⟨v3, v4, v5, v7, v8, v9, w1, w2, -⟩, d0⟩
  refine V2 [] trivial ?_
  obtain ⟨w3, q6⟩ : ∃ x, w' = x := ⟨_, rfl⟩
  rw [q6] at d0 ⊢
  refine ⟨(.tuple #[]), K, ?_⟩
  obtain rfl := Qg H
  exact ⟨rfl, SP.sel d0 [0] rfl rfl⟩
def Ya (q2 : Int) (q3 : Int) (q4 : Int) (q5 : Int) (q6 : (List Qb)) (d : Int) (e : Bool) (c : (List (List UInt8))) : Option (Int × Int × Int × Int × (List Qb) × Int × Bool) :=
  ((idx c 1).bind fun f => ((idx c 2).bind fun g => ((Vj q2 q3 q4 q5 d e g).bind fun a => ((idx c 3).bind fun h => ((Vj a.2.1 a.2.2.1 a.2.2.2.1 a.2.2.2.2.1 a.2.2.2.2.2.1 a.2.2.2.2.2.2 h).bind fun b => ((app q6 ([(f, a.1, b.1, ([] : List (Int × Int)), ([] : List ((List UInt8) × (List UInt8) × Int)))] : List Qb)).bind fun i => (some (b.2.1, b.2.2.1, b.2.2.2.1, b.2.2.2.2.1, i, b.2.2.2.2.2.1, b.2.2.2.2.2.2))))))))
set_option maxHeartbeats 40000000 in
theorem N7 {S : List Nat} (g1 : Nat) (A7 : Option Addr) (c8 : Nat) (u : Option Addr) (a2 : Nat) (q2 : Int) (q3 : Int) (q4 : Int) (q5 : Int) (d9 : (List Qh)) (b6 : Int) (b7 : Bool) (a0 : (List (List UInt8))) (w0 : World) (hL : ∀ w, Mod S w0 w → U9 w) (hO : SP S w0 w0 [Qq g1 72 #[(.int .i64 q2), (.int .i64 q3), (.int .i64 q4), (.int .i64 q5), (.slice A7 (List.length (List.map stT d9)) c8), (.int .i64 b6), (.bool b7)], Yx A7 c8 d9]) (a1 : ∀ w, Mod S w0 w → RdT Ql w u a2 a0) (r : (Int × Int × Int × Int × (List Qb) × Int × Bool)) (H : Ya q2 q3 q4 q5 (List.map stT d9) b6 b7 a0 = some r) :
  Calls Tryz.prog 143 #[(pt g1 0), (.slice u (List.length a0) a2)] w0 (fun e w' => ∃ (d5 : Option Addr) (d6 : Nat) (c6 : List Qh), e = .returned (.tuple #[]) ∧ r.2.2.2.2.1 = List.map stT c6 ∧ SP S w0 w' [Qq g1 72 #[(.int .i64 r.1), (.int .i64 r.2.1), (.int .i64 r.2.2.1), (.int .i64 r.2.2.2.1), (.slice d5 (List.length (List.map stT c6)) d6), (.int .i64 r.2.2.2.2.2.1), (.bool r.2.2.2.2.2.2)], Yx d5 d6 c6]) := by
 unfold Ya at H
 refine Qv (n := 31) Tryz.func143 K K K ?_
 have f2 := hO
 refine aQ ?_
 obtain ⟨q, a3, a4, b8, H⟩ := Ve H
 obtain ⟨b9, c2, c3, d7, H⟩ := Ve H
 obtain ⟨f, d8, H⟩ := Qd H
 obtain ⟨b1, a8, a9, c4, H⟩ := Ve H
 obtain ⟨a, e0, H⟩ := Qd H
 refine aG [GEq (.slice u (List.length a0) a2), Yb u Ql.sz 1, GEq (.string ⟨List.toArray q⟩), GEq (pt g1 0), GEq (.slice u (List.length a0) a2), Yb u Ql.sz 2, GEq (.string ⟨List.toArray b9⟩), GEq (.int .i64 f.1), GEq (pt g1 0), GEq (.slice u (List.length a0) a2), Yb u Ql.sz 3, GEq (.string ⟨List.toArray b1⟩), GEq (.int .i64 a.1), GEq (.agg #[(.string ⟨List.toArray q⟩), (.int .i64 f.1), (.int .i64 a.1), (.slice none (List.length ([] : List (Int × Int))) 0), (.slice none (List.length ([] : List ((List UInt8) × (List UInt8) × Int))) 0)]), Rp, Rp] [7, 12, 14, 15] [([], fun vs w => VL vs [] ∧ SP S w0 w [Qq g1 72 #[(.int .i64 q2), (.int .i64 q3), (.int .i64 q4), (.int .i64 q5), (.slice A7 (List.length (List.map stT d9)) c8), (.int .i64 b6), (.bool b7)], Yx A7 c8 d9]), ([7], fun vs w => VL vs [(.int .i64 f.1)] ∧ SP S w0 w [Yx A7 c8 d9, Qq g1 72 #[(.int .i64 f.2.1), (.int .i64 f.2.2.1), (.int .i64 f.2.2.2.1), (.int .i64 f.2.2.2.2.1), (.slice A7 (List.length (List.map stT d9)) c8), (.int .i64 f.2.2.2.2.2.1), (.bool f.2.2.2.2.2.2)]]), ([14], fun vs w => ∃ (a5 : Nat), VL vs [(pt a5 0)] ∧ SP S w0 w [Qq g1 72 #[(.int .i64 q2), (.int .i64 q3), (.int .i64 q4), (.int .i64 q5), (.slice A7 (List.length (List.map stT d9)) c8), (.int .i64 b6), (.bool b7)], Yx A7 c8 d9, Qq a5 33 #[(.string ⟨List.toArray ([] : List UInt8)⟩), (.int .i64 0), (.int .i64 0), (.slice none (List.length ([] : List (Int × Int))) 0), (.slice none (List.length ([] : List ((List UInt8) × (List UInt8) × Int))) 0)]]), ([7, 12], fun vs w => VL vs [(.int .i64 f.1), (.int .i64 a.1)] ∧ SP S w0 w [Yx A7 c8 d9, Qq g1 72 #[(.int .i64 a.2.1), (.int .i64 a.2.2.1), (.int .i64 a.2.2.2.1), (.int .i64 a.2.2.2.2.1), (.slice A7 (List.length (List.map stT d9)) c8), (.int .i64 a.2.2.2.2.2.1), (.bool a.2.2.2.2.2.2)]]), ([7, 14], fun vs w => ∃ (a7 : Nat), VL vs [(.int .i64 f.1), (pt a7 0)] ∧ SP S w0 w [Yx A7 c8 d9, Qq g1 72 #[(.int .i64 f.2.1), (.int .i64 f.2.2.1), (.int .i64 f.2.2.2.1), (.int .i64 f.2.2.2.2.1), (.slice A7 (List.length (List.map stT d9)) c8), (.int .i64 f.2.2.2.2.2.1), (.bool f.2.2.2.2.2.2)], Qq a7 33 #[(.string ⟨List.toArray ([] : List UInt8)⟩), (.int .i64 0), (.int .i64 0), (.slice none (List.length ([] : List (Int × Int))) 0), (.slice none (List.length ([] : List ((List UInt8) × (List UInt8) × Int))) 0)]]), ([7, 12, 14], fun vs w => ∃ (b0 : Nat), VL vs [(.int .i64 f.1), (.int .i64 a.1), (pt b0 0)] ∧ SP S w0 w [Yx A7 c8 d9, Qq g1 72 #[(.int .i64 a.2.1), (.int .i64 a.2.2.1), (.int .i64 a.2.2.2.1), (.int .i64 a.2.2.2.2.1), (.slice A7 (List.length (List.map stT d9)) c8), (.int .i64 a.2.2.2.2.2.1), (.bool a.2.2.2.2.2.2)], Qq b0 33 #[(.string ⟨List.toArray ([] : List UInt8)⟩), (.int .i64 0), (.int .i64 0), (.slice none (List.length ([] : List (Int × Int))) 0), (.slice none (List.length ([] : List ((List UInt8) × (List UInt8) × Int))) 0)]]), ([7, 12, 14, 15], fun vs w => ∃ (a6 : Nat), VL vs [(.int .i64 f.1), (.int .i64 a.1), (pt a6 0), undef] ∧ SP S w0 w [Yx A7 c8 d9, Qq g1 72 #[(.int .i64 a.2.1), (.int .i64 a.2.2.1), (.int .i64 a.2.2.2.1), (.int .i64 a.2.2.2.2.1), (.slice A7 (List.length (List.map stT d9)) c8), (.int .i64 a.2.2.2.2.2.1), (.bool a.2.2.2.2.2.2)], Qq a6 33 #[(.string ⟨List.toArray q⟩), (.int .i64 f.1), (.int .i64 a.1), (.slice none (List.length ([] : List (Int × Int))) 0), (.slice none (List.length ([] : List ((List UInt8) × (List UInt8) × Int))) 0)]])] 16 6 ⟨trivial, SP.drew f2⟩ ?_ ?_
 iterate 16 refine And.intro ?_ ?_
 exact trivial
 ·exact oV (hC (hS 1 (.slice u (List.length a0) a2)) (h0)) (.slice u (List.length a0) a2)
 ·refine Owe.light K [0, 1, 2, 3, 4, 5] K (Qc ?_ (Qc ?_ (Qc ?_ (Qc ?_ (Qc ?_ (Qc ?_ Q8))))))
  ·rintro ρ' w' hs o ⟨t9, f3⟩
   refine kM (kc (kA o 0 5) k0) fun p => ?_
   refine Qn (e := Ql) (l := a0) (A := u) (c := a2) (T := 79) (E := 9) (x := (.tmp 5)) (ix := (.const (.int .i64 (1)))) (ki := .i64) (iz := 1) (d := (some 6)) (k := 1) K rfl K K K K (a1 w' (SP.mod f3)) a3 a4 ?_
   intro f4 f5 f6 u0 hc526
   exact ⟨rfl, _, Qa p, ⟨f4, f5, f6, rfl⟩⟩
  ·rintro ρ' w' hs o ⟨⟨u1, -⟩, f7⟩
   refine kM (kc (kA o 0 5) k0) fun p => ?_
   refine Qn (e := Ql) (l := a0) (A := u) (c := a2) (T := 79) (E := 9) (x := (.tmp 5)) (ix := (.const (.int .i64 (1)))) (ki := .i64) (iz := 1) (d := (some 6)) (k := 1) K rfl K K K K (a1 w' (SP.mod f7)) a3 a4 ?_
   intro f8 f9 g0 u2 hc534
   exact ⟨rfl, _, Qa p, ⟨f8, f9, g0, rfl⟩⟩
  ·rintro ρ' w' hs o ⟨a5, ⟨u3, -⟩, g2⟩
   refine kM (kc (kA o 0 5) k0) fun p => ?_
   refine Qn (e := Ql) (l := a0) (A := u) (c := a2) (T := 79) (E := 9) (x := (.tmp 5)) (ix := (.const (.int .i64 (1)))) (ki := .i64) (iz := 1) (d := (some 6)) (k := 1) K rfl K K K K (a1 w' (SP.mod g2)) a3 a4 ?_
   intro g3 g4 g5 u4 hc542
   exact ⟨rfl, _, Qa p, ⟨g3, g4, g5, rfl⟩⟩
  ·rintro ρ' w' hs o ⟨⟨u5, u6, -⟩, g6⟩
   refine kM (kc (kA o 0 5) k0) fun p => ?_
   refine Qn (e := Ql) (l := a0) (A := u) (c := a2) (T := 79) (E := 9) (x := (.tmp 5)) (ix := (.const (.int .i64 (1)))) (ki := .i64) (iz := 1) (d := (some 6)) (k := 1) K rfl K K K K (a1 w' (SP.mod g6)) a3 a4 ?_
   intro g7 g8 g9 u7 hc551
   exact ⟨rfl, _, Qa p, ⟨g7, g8, g9, rfl⟩⟩
  ·rintro ρ' w' hs o ⟨a7, ⟨u8, u9, -⟩, h1⟩
   refine kM (kc (kA o 0 5) k0) fun p => ?_
   refine Qn (e := Ql) (l := a0) (A := u) (c := a2) (T := 79) (E := 9) (x := (.tmp 5)) (ix := (.const (.int .i64 (1)))) (ki := .i64) (iz := 1) (d := (some 6)) (k := 1) K rfl K K K K (a1 w' (SP.mod h1)) a3 a4 ?_
   intro h2 h3 h4 v0 hc560
   exact ⟨rfl, _, Qa p, ⟨h2, h3, h4, rfl⟩⟩
  ·rintro ρ' w' hs o ⟨b0, ⟨v1, v2, v3, -⟩, h5⟩
   refine kM (kc (kA o 0 5) k0) fun p => ?_
   refine Qn (e := Ql) (l := a0) (A := u) (c := a2) (T := 79) (E := 9) (x := (.tmp 5)) (ix := (.const (.int .i64 (1)))) (ki := .i64) (iz := 1) (d := (some 6)) (k := 1) K rfl K K K K (a1 w' (SP.mod h5)) a3 a4 ?_
   intro h6 h7 h8 v4 hc570
   exact ⟨rfl, _, Qa p, ⟨h6, h7, h8, rfl⟩⟩
 ·refine Owe.light K [0, 1, 2, 3, 4, 5] K (Qc ?_ (Qc ?_ (Qc ?_ (Qc ?_ (Qc ?_ (Qc ?_ Q8))))))
  ·rintro ρ' w' hs o ⟨v5, h9⟩
   obtain ⟨i0, i1, i2, e6⟩ := o 1 6 K
   refine kM (kc e6 k0) fun p => ?_
   refine sC 9 6 i0 (i1 + Int.toNat 1 * Ql.sz) (.string ⟨List.toArray q⟩) 7 (Qw (e := Ql) (Qj (a1 w' (SP.mod h9)) i2 a3 a4) b8 (j := 0) rfl) ?_
   exact eK p
  ·rintro ρ' w' hs o ⟨⟨v6, -⟩, i3⟩
   obtain ⟨i4, i5, i6, e6⟩ := o 1 6 K
   refine kM (kc e6 k0) fun p => ?_
   refine sC 9 6 i4 (i5 + Int.toNat 1 * Ql.sz) (.string ⟨List.toArray q⟩) 7 (Qw (e := Ql) (Qj (a1 w' (SP.mod i3)) i6 a3 a4) b8 (j := 0) rfl) ?_
   exact eK p
  ·rintro ρ' w' hs o ⟨a5, ⟨v7, -⟩, i7⟩
   obtain ⟨i8, i9, j0, e6⟩ := o 1 6 K
   refine kM (kc e6 k0) fun p => ?_
   refine sC 9 6 i8 (i9 + Int.toNat 1 * Ql.sz) (.string ⟨List.toArray q⟩) 7 (Qw (e := Ql) (Qj (a1 w' (SP.mod i7)) j0 a3 a4) b8 (j := 0) rfl) ?_
   exact eK p
  ·rintro ρ' w' hs o ⟨⟨v8, v9, -⟩, j1⟩
   obtain ⟨j2, j3, j4, e6⟩ := o 1 6 K
   refine kM (kc e6 k0) fun p => ?_
   refine sC 9 6 j2 (j3 + Int.toNat 1 * Ql.sz) (.string ⟨List.toArray q⟩) 7 (Qw (e := Ql) (Qj (a1 w' (SP.mod j1)) j4 a3 a4) b8 (j := 0) rfl) ?_
   exact eK p
  ·rintro ρ' w' hs o ⟨a7, ⟨w1, w2, -⟩, j5⟩
   obtain ⟨j6, j7, j8, e6⟩ := o 1 6 K
   refine kM (kc e6 k0) fun p => ?_
   refine sC 9 6 j6 (j7 + Int.toNat 1 * Ql.sz) (.string ⟨List.toArray q⟩) 7 (Qw (e := Ql) (Qj (a1 w' (SP.mod j5)) j8 a3 a4) b8 (j := 0) rfl) ?_
   exact eK p
  ·rintro ρ' w' hs o ⟨b0, ⟨w3, w4, w5, -⟩, j9⟩
   obtain ⟨k1, k2, k3, e6⟩ := o 1 6 K
   refine kM (kc e6 k0) fun p => ?_
   refine sC 9 6 k1 (k2 + Int.toNat 1 * Ql.sz) (.string ⟨List.toArray q⟩) 7 (Qw (e := Ql) (Qj (a1 w' (SP.mod j9)) k3 a3 a4) b8 (j := 0) rfl) ?_
   exact eK p
 ·exact oV (hC (hS 0 (pt g1 0)) (h0)) (pt g1 0)
 ·exact oV (hC (hS 1 (.slice u (List.length a0) a2)) (h0)) (.slice u (List.length a0) a2)
 ·refine Owe.light K [0, 2] K (Qc ?_ (Qc ?_ Q8))
  ·rintro ρ' w' hs o ⟨w6, k4⟩
   refine kM (kc (kA o 4 9) k0) fun p => ?_
   refine Qn (e := Ql) (l := a0) (A := u) (c := a2) (T := 79) (E := 9) (x := (.tmp 9)) (ix := (.const (.int .i64 (2)))) (ki := .i64) (iz := 2) (d := (some 10)) (k := 5) K rfl K K K K (a1 w' (SP.mod k4)) c2 c3 ?_
   intro k5 k6 k7 w7 hc616
   exact ⟨rfl, _, Qa p, ⟨k5, k6, k7, rfl⟩⟩
  ·rintro ρ' w' hs o ⟨a5, ⟨w8, -⟩, k8⟩
   refine kM (kc (kA o 4 9) k0) fun p => ?_
   refine Qn (e := Ql) (l := a0) (A := u) (c := a2) (T := 79) (E := 9) (x := (.tmp 9)) (ix := (.const (.int .i64 (2)))) (ki := .i64) (iz := 2) (d := (some 10)) (k := 5) K rfl K K K K (a1 w' (SP.mod k8)) c2 c3 ?_
   intro k9 l0 l1 w9 hc624
   exact ⟨rfl, _, Qa p, ⟨k9, l0, l1, rfl⟩⟩
 ·refine Owe.light K [0, 2] K (Qc ?_ (Qc ?_ Q8))
  ·rintro ρ' w' hs o ⟨x0, l2⟩
   obtain ⟨l3, l4, l5, c7⟩ := o 5 10 K
   refine kM (kc c7 k0) fun p => ?_
   refine sC 9 10 l3 (l4 + Int.toNat 2 * Ql.sz) (.string ⟨List.toArray b9⟩) 11 (Qw (e := Ql) (Qj (a1 w' (SP.mod l2)) l5 c2 c3) d7 (j := 0) rfl) ?_
   exact eK p
  ·rintro ρ' w' hs o ⟨a5, ⟨x1, -⟩, l6⟩
   obtain ⟨l7, l8, l9, c7⟩ := o 5 10 K
   refine kM (kc c7 k0) fun p => ?_
   refine sC 9 10 l7 (l8 + Int.toNat 2 * Ql.sz) (.string ⟨List.toArray b9⟩) 11 (Qw (e := Ql) (Qj (a1 w' (SP.mod l6)) l9 c2 c3) d7 (j := 0) rfl) ?_
   exact eK p
 ·refine Owe.heavy K [(0, 1), (2, 4)] K (Qc ⟨K, K, ?_⟩ (Qc ⟨K, K, ?_⟩ Q8))
  ·rintro ρ' w' hs o ⟨x2, c9⟩
   refine kM (kc (kA o 3 8) (kc (kA o 6 11) k0)) fun p => ?_
   refine cF 164 #[(.tmp 8), (.tmp 11)] #[70, 9] 12 Tryz.call164 (Va g1 (.slice A7 (List.length (List.map stT d9)) c8) q2 q3 q4 q5 b6 b7 b9 w' (fun w hm => hL w (SP.through c9 (l := [0]) rfl hm)) (Jw c9 [0] rfl rfl) f d8) ?_
   rintro e m0 ⟨rfl, e1⟩
   refine ⟨_, rfl, ?_⟩
   have m1 : SP S w0 m0 [Yx A7 c8 d9, Qq g1 72 #[(.int .i64 f.2.1), (.int .i64 f.2.2.1), (.int .i64 f.2.2.2.1), (.int .i64 f.2.2.2.2.1), (.slice A7 (List.length (List.map stT d9)) c8), (.int .i64 f.2.2.2.2.2.1), (.bool f.2.2.2.2.2.2)]] := Z2 c9 [0] [1] rfl rfl e1 rfl
   clear e1
   refine ⟨_, Qa p, rfl, ?_⟩
   exact (And.intro (And.intro rfl (trivial)) m1)
  ·rintro ρ' w' hs o ⟨a5, ⟨m2, -⟩, d1⟩
   refine kM (kc (kA o 3 8) (kc (kA o 6 11) k0)) fun p => ?_
   refine cF 164 #[(.tmp 8), (.tmp 11)] #[70, 9] 12 Tryz.call164 (Va g1 (.slice A7 (List.length (List.map stT d9)) c8) q2 q3 q4 q5 b6 b7 b9 w' (fun w hm => hL w (SP.through d1 (l := [0]) rfl hm)) (Jw d1 [0] rfl rfl) f d8) ?_
   rintro e m3 ⟨rfl, e2⟩
   refine ⟨_, rfl, ?_⟩
   have m4 : SP S w0 m3 [Yx A7 c8 d9, Qq a5 33 #[(.string ⟨List.toArray ([] : List UInt8)⟩), (.int .i64 0), (.int .i64 0), (.slice none (List.length ([] : List (Int × Int))) 0), (.slice none (List.length ([] : List ((List UInt8) × (List UInt8) × Int))) 0)], Qq g1 72 #[(.int .i64 f.2.1), (.int .i64 f.2.2.1), (.int .i64 f.2.2.2.1), (.int .i64 f.2.2.2.2.1), (.slice A7 (List.length (List.map stT d9)) c8), (.int .i64 f.2.2.2.2.2.1), (.bool f.2.2.2.2.2.2)]] := Z2 d1 [0] [1, 2] rfl rfl e2 rfl
   clear e2
   refine ⟨_, Qa p, rfl, ?_⟩
   exact (Exists.intro a5 (And.intro (And.intro rfl (And.intro m2 (trivial))) (SP.sel m4 [0, 2, 1] rfl rfl)))
 ·exact oV (hC (hS 0 (pt g1 0)) (h0)) (pt g1 0)
 ·exact oV (hC (hS 1 (.slice u (List.length a0) a2)) (h0)) (.slice u (List.length a0) a2)
 ·refine Owe.light K [0, 1, 2, 4] K (Qc ?_ (Qc ?_ (Qc ?_ (Qc ?_ Q8))))
  ·rintro ρ' w' hs o ⟨x3, m5⟩
   refine kM (kc (kA o 9 14) k0) fun p => ?_
   refine Qn (e := Ql) (l := a0) (A := u) (c := a2) (T := 79) (E := 9) (x := (.tmp 14)) (ix := (.const (.int .i64 (3)))) (ki := .i64) (iz := 3) (d := (some 15)) (k := 10) K rfl K K K K (a1 w' (SP.mod m5)) a8 a9 ?_
   intro m6 m7 m8 x4 hc655
   exact ⟨rfl, _, Qa p, ⟨m6, m7, m8, rfl⟩⟩
  ·rintro ρ' w' hs o ⟨⟨x5, -⟩, m9⟩
   refine kM (kc (kA o 9 14) k0) fun p => ?_
   refine Qn (e := Ql) (l := a0) (A := u) (c := a2) (T := 79) (E := 9) (x := (.tmp 14)) (ix := (.const (.int .i64 (3)))) (ki := .i64) (iz := 3) (d := (some 15)) (k := 10) K rfl K K K K (a1 w' (SP.mod m9)) a8 a9 ?_
   intro n0 n1 n2 x6 hc663
   exact ⟨rfl, _, Qa p, ⟨n0, n1, n2, rfl⟩⟩
  ·rintro ρ' w' hs o ⟨a5, ⟨x7, -⟩, n3⟩
   refine kM (kc (kA o 9 14) k0) fun p => ?_
   refine Qn (e := Ql) (l := a0) (A := u) (c := a2) (T := 79) (E := 9) (x := (.tmp 14)) (ix := (.const (.int .i64 (3)))) (ki := .i64) (iz := 3) (d := (some 15)) (k := 10) K rfl K K K K (a1 w' (SP.mod n3)) a8 a9 ?_
   intro n4 n5 n6 x8 hc671
   exact ⟨rfl, _, Qa p, ⟨n4, n5, n6, rfl⟩⟩
  ·rintro ρ' w' hs o ⟨a7, ⟨x9, y0, -⟩, n7⟩
   refine kM (kc (kA o 9 14) k0) fun p => ?_
   refine Qn (e := Ql) (l := a0) (A := u) (c := a2) (T := 79) (E := 9) (x := (.tmp 14)) (ix := (.const (.int .i64 (3)))) (ki := .i64) (iz := 3) (d := (some 15)) (k := 10) K rfl K K K K (a1 w' (SP.mod n7)) a8 a9 ?_
   intro n8 n9 o0 y1 hc680
   exact ⟨rfl, _, Qa p, ⟨n8, n9, o0, rfl⟩⟩
 ·refine Owe.light K [0, 1, 2, 4] K (Qc ?_ (Qc ?_ (Qc ?_ (Qc ?_ Q8))))
  ·rintro ρ' w' hs o ⟨y2, o1⟩
   obtain ⟨o2, o3, o4, b2⟩ := o 10 15 K
   refine kM (kc b2 k0) fun p => ?_
   refine sC 9 15 o2 (o3 + Int.toNat 3 * Ql.sz) (.string ⟨List.toArray b1⟩) 16 (Qw (e := Ql) (Qj (a1 w' (SP.mod o1)) o4 a8 a9) c4 (j := 0) rfl) ?_
   exact eK p
  ·rintro ρ' w' hs o ⟨⟨y3, -⟩, o5⟩
   obtain ⟨o6, o7, o8, b2⟩ := o 10 15 K
   refine kM (kc b2 k0) fun p => ?_
   refine sC 9 15 o6 (o7 + Int.toNat 3 * Ql.sz) (.string ⟨List.toArray b1⟩) 16 (Qw (e := Ql) (Qj (a1 w' (SP.mod o5)) o8 a8 a9) c4 (j := 0) rfl) ?_
   exact eK p
  ·rintro ρ' w' hs o ⟨a5, ⟨y4, -⟩, o9⟩
   obtain ⟨p0, p1, p2, b2⟩ := o 10 15 K
   refine kM (kc b2 k0) fun p => ?_
   refine sC 9 15 p0 (p1 + Int.toNat 3 * Ql.sz) (.string ⟨List.toArray b1⟩) 16 (Qw (e := Ql) (Qj (a1 w' (SP.mod o9)) p2 a8 a9) c4 (j := 0) rfl) ?_
   exact eK p
  ·rintro ρ' w' hs o ⟨a7, ⟨y5, y6, -⟩, p3⟩
   obtain ⟨p4, p5, p6, b2⟩ := o 10 15 K
   refine kM (kc b2 k0) fun p => ?_
   refine sC 9 15 p4 (p5 + Int.toNat 3 * Ql.sz) (.string ⟨List.toArray b1⟩) 16 (Qw (e := Ql) (Qj (a1 w' (SP.mod p3)) p6 a8 a9) c4 (j := 0) rfl) ?_
   exact eK p
 ·refine Owe.heavy K [(1, 3), (4, 5)] K (Qc ⟨K, K, ?_⟩ (Qc ⟨K, K, ?_⟩ Q8))
  ·rintro ρ' w' hs o ⟨⟨p7, -⟩, d2⟩
   refine kM (kc (kA o 8 13) (kc (kA o 11 16) k0)) fun p => ?_
   refine cF 164 #[(.tmp 13), (.tmp 16)] #[70, 9] 17 Tryz.call164 (Va g1 (.slice A7 (List.length (List.map stT d9)) c8) f.2.1 f.2.2.1 f.2.2.2.1 f.2.2.2.2.1 f.2.2.2.2.2.1 f.2.2.2.2.2.2 b1 w' (fun w hm => hL w (SP.through d2 (l := [1]) rfl hm)) (Jw d2 [1] rfl rfl) a e0) ?_
   rintro e p8 ⟨rfl, e3⟩
   refine ⟨_, rfl, ?_⟩
   have p9 : SP S w0 p8 [Yx A7 c8 d9, Qq g1 72 #[(.int .i64 a.2.1), (.int .i64 a.2.2.1), (.int .i64 a.2.2.2.1), (.int .i64 a.2.2.2.2.1), (.slice A7 (List.length (List.map stT d9)) c8), (.int .i64 a.2.2.2.2.2.1), (.bool a.2.2.2.2.2.2)]] := Z2 d2 [1] [0] rfl rfl e3 rfl
   clear e3
   refine ⟨_, Qa p, rfl, ?_⟩
   exact (And.intro (And.intro p7 (And.intro rfl (trivial))) p9)
  ·rintro ρ' w' hs o ⟨a7, ⟨q0, q1, -⟩, d3⟩
   refine kM (kc (kA o 8 13) (kc (kA o 11 16) k0)) fun p => ?_
   refine cF 164 #[(.tmp 13), (.tmp 16)] #[70, 9] 17 Tryz.call164 (Va g1 (.slice A7 (List.length (List.map stT d9)) c8) f.2.1 f.2.2.1 f.2.2.2.1 f.2.2.2.2.1 f.2.2.2.2.2.1 f.2.2.2.2.2.2 b1 w' (fun w hm => hL w (SP.through d3 (l := [1]) rfl hm)) (Jw d3 [1] rfl rfl) a e0) ?_
   rintro e q6 ⟨rfl, e4⟩
   refine ⟨_, rfl, ?_⟩
   have q7 : SP S w0 q6 [Yx A7 c8 d9, Qq a7 33 #[(.string ⟨List.toArray ([] : List UInt8)⟩), (.int .i64 0), (.int .i64 0), (.slice none (List.length ([] : List (Int × Int))) 0), (.slice none (List.length ([] : List ((List UInt8) × (List UInt8) × Int))) 0)], Qq g1 72 #[(.int .i64 a.2.1), (.int .i64 a.2.2.1), (.int .i64 a.2.2.2.1), (.int .i64 a.2.2.2.2.1), (.slice A7 (List.length (List.map stT d9)) c8), (.int .i64 a.2.2.2.2.2.1), (.bool a.2.2.2.2.2.2)]] := Z2 d3 [1] [0, 2] rfl rfl e4 rfl
   clear e4
   refine ⟨_, Qa p, rfl, ?_⟩
   exact (Exists.intro a7 (And.intro (And.intro q0 (And.intro rfl (And.intro q1 (trivial)))) (SP.sel q7 [0, 2, 1] rfl rfl)))
 ·exact oV (hC (hA 2 7) (hC (hA 7 12) (hC (hA 12 17) (h0)))) (.agg #[(.string ⟨List.toArray q⟩), (.int .i64 f.1), (.int .i64 a.1), (.slice none (List.length ([] : List (Int × Int))) 0), (.slice none (List.length ([] : List ((List UInt8) × (List UInt8) × Int))) 0)])
 ·refine Owe.heavy K [(0, 2), (1, 4), (3, 5)] K (Qc ⟨K, K, ?_⟩ (Qc ⟨K, K, ?_⟩ (Qc ⟨K, K, ?_⟩ Q8)))
  ·rintro ρ' w' hs o ⟨y7, q8⟩
   refine kN [] trivial fun p => ?_
   refine Qi.alloc (t := 33) (z := (.agg #[(.string ⟨List.toArray ([] : List UInt8)⟩), (.int .i64 0), (.int .i64 0), (.slice none (List.length ([] : List (Int × Int))) 0), (.slice none (List.length ([] : List ((List UInt8) × (List UInt8) × Int))) 0)])) (d := (some 4)) (k := 14) K rfl K q8 ?_
   intro q9 y8 r0
   refine ⟨_, Qa p, trivial, ?_⟩
   exact (Exists.intro q9 (And.intro (And.intro rfl (trivial)) r0))
  ·rintro ρ' w' hs o ⟨⟨r1, -⟩, r2⟩
   refine kN [] trivial fun p => ?_
   refine Qi.alloc (t := 33) (z := (.agg #[(.string ⟨List.toArray ([] : List UInt8)⟩), (.int .i64 0), (.int .i64 0), (.slice none (List.length ([] : List (Int × Int))) 0), (.slice none (List.length ([] : List ((List UInt8) × (List UInt8) × Int))) 0)])) (d := (some 4)) (k := 14) K rfl K r2 ?_
   intro r3 y9 r4
   refine ⟨_, Qa p, trivial, ?_⟩
   exact (Exists.intro r3 (And.intro (And.intro r1 (And.intro rfl (trivial))) r4))
  ·rintro ρ' w' hs o ⟨⟨r5, r6, -⟩, r7⟩
   refine kN [] trivial fun p => ?_
   refine Qi.alloc (t := 33) (z := (.agg #[(.string ⟨List.toArray ([] : List UInt8)⟩), (.int .i64 0), (.int .i64 0), (.slice none (List.length ([] : List (Int × Int))) 0), (.slice none (List.length ([] : List ((List UInt8) × (List UInt8) × Int))) 0)])) (d := (some 4)) (k := 14) K rfl K r7 ?_
   intro r8 z0 r9
   refine ⟨_, Qa p, trivial, ?_⟩
   exact (Exists.intro r8 (And.intro (And.intro r5 (And.intro r6 (And.intro rfl (trivial)))) r9))
 ·refine oH 5 6 ?_
  ·rintro ρ' w' hs o ⟨b0, ⟨s0, s1, e5, -⟩, s2⟩
   refine kN [(4, (pt b0 0)), (18, (.agg #[(.string ⟨List.toArray q⟩), (.int .i64 f.1), (.int .i64 a.1), (.slice none (List.length ([] : List (Int × Int))) 0), (.slice none (List.length ([] : List ((List UInt8) × (List UInt8) × Int))) 0)]))] ⟨(Vo (h := 14) K).symm.trans e5, o 13 18 K, trivial⟩ fun p => ?_
   refine Qi.store (t := 33) (x := (.tmp 4)) (y := (.tmp 18)) (g := b0) (off := 0) (i := 2) (v := (.agg #[(.string ⟨List.toArray q⟩), (.int .i64 f.1), (.int .i64 a.1), (.slice none (List.length ([] : List (Int × Int))) 0), (.slice none (List.length ([] : List ((List UInt8) × (List UInt8) × Int))) 0)])) (cs' := #[(.string ⟨List.toArray q⟩), (.int .i64 f.1), (.int .i64 a.1), (.slice none (List.length ([] : List (Int × Int))) 0), (.slice none (List.length ([] : List ((List UInt8) × (List UInt8) × Int))) 0)]) (d := none) (k := 15) K rfl K K s2 rfl K ?_
   intro z1 s3
   refine ⟨_, Qa p, trivial, ?_⟩
   exact (Exists.intro b0 (And.intro (And.intro s0 (And.intro s1 (And.intro e5 (And.intro rfl (trivial))))) s3))
 ·rintro ρ' w' hs hf ⟨a6, ⟨z2, z3, s4, z4, -⟩, e7⟩
  refine V2 [(0, (pt g1 0)), (4, (pt a6 0))] ⟨(hs 0 K).trans K, (Vo (h := 14) K).symm.trans s4, trivial⟩ ?_
  obtain ⟨z5, s5⟩ : ∃ x, w' = x := ⟨_, rfl⟩
  rw [s5] at e7 ⊢
  obtain ⟨hl762, H⟩ := Yf H
  rw [show (List.map stT d9) ++ ([(q, f.1, a.1, ([] : List (Int × Int)), ([] : List ((List UInt8) × (List UInt8) × Int)))] : List Qb) = (List.map stT (d9 ++ [(q, f.1, a.1, (none, 0, ([] : List (Int × Int))), (none, 0, ([] : List ((List UInt8) × (List UInt8) × Int))))])) from F8 (d0 := d9) (y := (q, f.1, a.1, (none, 0, ([] : List (Int × Int))), (none, 0, ([] : List ((List UInt8) × (List UInt8) × Int)))))] at H
  refine aG [GEq (pt g1 0), GEq (pt g1 0), GEq (pt g1 0), GEq (pt g1 0), GEq (pt g1 4), GEq (.slice A7 (List.length (List.map stT d9)) c8), GEq (.agg #[(.string ⟨List.toArray q⟩), (.int .i64 f.1), (.int .i64 a.1), (.slice none (List.length ([] : List (Int × Int))) 0), (.slice none (List.length ([] : List ((List UInt8) × (List UInt8) × Int))) 0)]), Rp, Rp, GEq (pt g1 0), GEq (pt g1 0), GEq (pt g1 4), Rp] [7, 8, 12] [([], fun vs w => VL vs [] ∧ SP S w0 w [Yx A7 c8 d9, Qq g1 72 #[(.int .i64 a.2.1), (.int .i64 a.2.2.1), (.int .i64 a.2.2.2.1), (.int .i64 a.2.2.2.2.1), (.slice A7 (List.length (List.map stT d9)) c8), (.int .i64 a.2.2.2.2.2.1), (.bool a.2.2.2.2.2.2)], Qq a6 33 #[(.string ⟨List.toArray q⟩), (.int .i64 f.1), (.int .i64 a.1), (.slice none (List.length ([] : List (Int × Int))) 0), (.slice none (List.length ([] : List ((List UInt8) × (List UInt8) × Int))) 0)]]), ([7], fun vs w => ∃ (b3 : Nat), VL vs [(.slice (some ⟨b3, 0, none⟩) (List.length ([(q, f.1, a.1, ([] : List (Int × Int)), ([] : List ((List UInt8) × (List UInt8) × Int)))] : List Qb)) (List.length ([(q, f.1, a.1, ([] : List (Int × Int)), ([] : List ((List UInt8) × (List UInt8) × Int)))] : List Qb)))] ∧ SP S w0 w [Yx A7 c8 d9, Qq g1 72 #[(.int .i64 a.2.1), (.int .i64 a.2.2.1), (.int .i64 a.2.2.2.1), (.int .i64 a.2.2.2.2.1), (.slice A7 (List.length (List.map stT d9)) c8), (.int .i64 a.2.2.2.2.2.1), (.bool a.2.2.2.2.2.2)], Qq a6 33 #[(.string ⟨List.toArray q⟩), (.int .i64 f.1), (.int .i64 a.1), (.slice none (List.length ([] : List (Int × Int))) 0), (.slice none (List.length ([] : List ((List UInt8) × (List UInt8) × Int))) 0)], Q6 33 V1 (some ⟨b3, 0, none⟩) (List.length ([(q, f.1, a.1, ([] : List (Int × Int)), ([] : List ((List UInt8) × (List UInt8) × Int)))] : List Qb)) ([(q, f.1, a.1, (none, 0, ([] : List (Int × Int))), (none, 0, ([] : List ((List UInt8) × (List UInt8) × Int))))] : List Qh)]), ([7, 8], fun vs w => ∃ (c5 : Nat), ∃ (b4 : Option Addr), ∃ (b5 : Nat), VL vs [(.slice (some ⟨c5, 0, none⟩) (List.length ([(q, f.1, a.1, ([] : List (Int × Int)), ([] : List ((List UInt8) × (List UInt8) × Int)))] : List Qb)) (List.length ([(q, f.1, a.1, ([] : List (Int × Int)), ([] : List ((List UInt8) × (List UInt8) × Int)))] : List Qb))), (.slice b4 (List.length (List.map stT (d9 ++ [(q, f.1, a.1, (none, 0, ([] : List (Int × Int))), (none, 0, ([] : List ((List UInt8) × (List UInt8) × Int))))]))) b5)] ∧ SP S w0 w [Yx b4 b5 (d9 ++ [(q, f.1, a.1, (none, 0, ([] : List (Int × Int))), (none, 0, ([] : List ((List UInt8) × (List UInt8) × Int))))]), Qq g1 72 #[(.int .i64 a.2.1), (.int .i64 a.2.2.1), (.int .i64 a.2.2.2.1), (.int .i64 a.2.2.2.2.1), (.slice A7 (List.length (List.map stT d9)) c8), (.int .i64 a.2.2.2.2.2.1), (.bool a.2.2.2.2.2.2)], Qq a6 33 #[(.string ⟨List.toArray q⟩), (.int .i64 f.1), (.int .i64 a.1), (.slice none (List.length ([] : List (Int × Int))) 0), (.slice none (List.length ([] : List ((List UInt8) × (List UInt8) × Int))) 0)], Q6 33 V1 (some ⟨c5, 0, none⟩) (List.length ([(q, f.1, a.1, ([] : List (Int × Int)), ([] : List ((List UInt8) × (List UInt8) × Int)))] : List Qb)) ([(q, f.1, a.1, (none, 0, ([] : List (Int × Int))), (none, 0, ([] : List ((List UInt8) × (List UInt8) × Int))))] : List Qh)]), ([7, 8, 12], fun vs w => ∃ (d4 : Nat), ∃ (c0 : Option Addr), ∃ (c1 : Nat), VL vs [(.slice (some ⟨d4, 0, none⟩) (List.length ([(q, f.1, a.1, ([] : List (Int × Int)), ([] : List ((List UInt8) × (List UInt8) × Int)))] : List Qb)) (List.length ([(q, f.1, a.1, ([] : List (Int × Int)), ([] : List ((List UInt8) × (List UInt8) × Int)))] : List Qb))), (.slice c0 (List.length (List.map stT (d9 ++ [(q, f.1, a.1, (none, 0, ([] : List (Int × Int))), (none, 0, ([] : List ((List UInt8) × (List UInt8) × Int))))]))) c1), undef] ∧ SP S w0 w [Yx c0 c1 (d9 ++ [(q, f.1, a.1, (none, 0, ([] : List (Int × Int))), (none, 0, ([] : List ((List UInt8) × (List UInt8) × Int))))]), Qq g1 72 #[(.int .i64 a.2.1), (.int .i64 a.2.2.1), (.int .i64 a.2.2.2.1), (.int .i64 a.2.2.2.2.1), (.slice c0 (List.length (List.map stT (d9 ++ [(q, f.1, a.1, (none, 0, ([] : List (Int × Int))), (none, 0, ([] : List ((List UInt8) × (List UInt8) × Int))))]))) c1), (.int .i64 a.2.2.2.2.2.1), (.bool a.2.2.2.2.2.2)], Qq a6 33 #[(.string ⟨List.toArray q⟩), (.int .i64 f.1), (.int .i64 a.1), (.slice none (List.length ([] : List (Int × Int))) 0), (.slice none (List.length ([] : List ((List UInt8) × (List UInt8) × Int))) 0)], Q6 33 V1 (some ⟨d4, 0, none⟩) (List.length ([(q, f.1, a.1, ([] : List (Int × Int)), ([] : List ((List UInt8) × (List UInt8) × Int)))] : List Qb)) ([(q, f.1, a.1, (none, 0, ([] : List (Int × Int))), (none, 0, ([] : List ((List UInt8) × (List UInt8) × Int))))] : List Qh)])] 13 3 ⟨trivial, SP.drew e7⟩ ?_ ?_
  iterate 13 refine And.intro ?_ ?_
  exact trivial
  ·exact oV (hC (hS 0 (pt g1 0)) (h0)) (pt g1 0)
  ·exact oV (hC (hS 0 (pt g1 0)) (h0)) (pt g1 0)
  ·exact oV (hC (hA 1 20) (h0)) (pt g1 0)
  ·exact oV (hC (hA 2 21) (h0)) (pt g1 0)
  ·exact oV (hC (hA 3 22) (h0)) (pt g1 4)
  ·refine Owe.light K [0, 1] K (Qc ?_ (Qc ?_ Q8))
   ·rintro ρ' w' hs o ⟨z6, s6⟩
    refine kM (kc (kA o 4 23) k0) fun p => ?_
    refine sL 22 23 g1 4 1 (.slice A7 (List.length (List.map stT d9)) c8) 24 s6 rfl ?_
    exact eK p
   ·rintro ρ' w' hs o ⟨b3, ⟨z7, -⟩, s7⟩
    refine kM (kc (kA o 4 23) k0) fun p => ?_
    refine sL 22 23 g1 4 1 (.slice A7 (List.length (List.map stT d9)) c8) 24 s7 rfl ?_
    exact eK p
  ·refine oL 0 ?_
   ·rintro ρ' w' hs o ⟨z8, s8⟩
    refine kM (kc (kS hs 4 (pt a6 0)) k0) fun p => ?_
    refine sL 33 4 a6 0 2 (.agg #[(.string ⟨List.toArray q⟩), (.int .i64 f.1), (.int .i64 a.1), (.slice none (List.length ([] : List (Int × Int))) 0), (.slice none (List.length ([] : List ((List UInt8) × (List UInt8) × Int))) 0)]) 25 s8 rfl ?_
    exact eK p
  ·refine oH 0 1 ?_
   ·rintro ρ' w' hs o ⟨z9, s9⟩
    refine kM (kc (kA o 6 25) k0) fun p => ?_
    refine Vt (e := V1) (T := 22) (E := 33) (len := 1) (parts := #[(0, (.tmp 25))]) (cs := #[(.string ⟨List.toArray q⟩), (.int .i64 f.1), (.int .i64 a.1), (.slice none (List.length ([] : List (Int × Int))) 0), (.slice none (List.length ([] : List ((List UInt8) × (List UInt8) × Int))) 0)]) ([(q, f.1, a.1, (none, 0, ([] : List (Int × Int))), (none, 0, ([] : List ((List UInt8) × (List UInt8) × Int))))] : List Qh) (d := (some 26)) (k := 7) K rfl (fun _ => K) s9 rfl rfl rfl rfl ?_
    intro t0 aa0 t1
    refine ⟨_, Qa p, trivial, ?_⟩
    exact (Exists.intro t0 (And.intro (And.intro rfl (trivial)) t1))
  ·refine oH 1 2 ?_
   ·rintro ρ' w' hs o ⟨b3, ⟨e8, -⟩, e9⟩
    refine kN [(24, (.slice A7 (List.length (List.map stT d9)) c8)), (26, (.slice (some ⟨b3, 0, none⟩) (List.length ([(q, f.1, a.1, ([] : List (Int × Int)), ([] : List ((List UInt8) × (List UInt8) × Int)))] : List Qb)) (List.length ([(q, f.1, a.1, ([] : List (Int × Int)), ([] : List ((List UInt8) × (List UInt8) × Int)))] : List Qb))))] ⟨o 5 24 K, (Vo (h := 7) K).symm.trans e8, trivial⟩ fun p => ?_
    refine Ez (d := d9) (m := ([(q, f.1, a.1, (none, 0, ([] : List (Int × Int))), (none, 0, ([] : List ((List UInt8) × (List UInt8) × Int))))] : List Qh)) (y := (q, f.1, a.1, (none, 0, ([] : List (Int × Int))), (none, 0, ([] : List ((List UInt8) × (List UInt8) × Int))))) (A := A7) (c := c8) (T := 22) (TX := 22) (b := 80) (s := (.tmp 24)) (x := (.tmp 26)) (i := 0) (vx := (.slice (some ⟨b3, 0, none⟩) (List.length ([(q, f.1, a.1, ([] : List (Int × Int)), ([] : List ((List UInt8) × (List UInt8) × Int)))] : List Qb)) (List.length ([(q, f.1, a.1, ([] : List (Int × Int)), ([] : List ((List UInt8) × (List UInt8) × Int)))] : List Qb)))) (dst := (some 27)) (k := 8) K rfl K K K K K e9 rfl (Dw (E := 33) K (Vg (SP.get e9 (i := 3) rfl))) rfl rfl (lm := ([(q, f.1, a.1, ([] : List (Int × Int)), ([] : List ((List UInt8) × (List UInt8) × Int)))] : List Qb)) hl762 rfl ?_
    intro t2 t3 aa1 t4
    refine ⟨_, Qa p, trivial, ?_⟩
    exact (Exists.intro b3 (Exists.intro t2 (Exists.intro t3 (And.intro (And.intro e8 (And.intro rfl (trivial))) t4))))
  ·exact oV (hC (hA 0 19) (h0)) (pt g1 0)
  ·exact oV (hC (hA 9 28) (h0)) (pt g1 0)
  ·exact oV (hC (hA 10 29) (h0)) (pt g1 4)
  ·refine oH 2 3 ?_
   ·rintro ρ' w' hs o ⟨c5, b4, b5, ⟨t5, f0, -⟩, t6⟩
    refine kN [(30, (pt g1 4)), (27, (.slice b4 (List.length (List.map stT (d9 ++ [(q, f.1, a.1, (none, 0, ([] : List (Int × Int))), (none, 0, ([] : List ((List UInt8) × (List UInt8) × Int))))]))) b5))] ⟨o 11 30 K, (Vo (h := 8) K).symm.trans f0, trivial⟩ fun p => ?_
    refine Qi.store (t := 22) (x := (.tmp 30)) (y := (.tmp 27)) (g := g1) (off := 4) (i := 1) (v := (.slice b4 (List.length (List.map stT (d9 ++ [(q, f.1, a.1, (none, 0, ([] : List (Int × Int))), (none, 0, ([] : List ((List UInt8) × (List UInt8) × Int))))]))) b5)) (cs' := #[(.int .i64 a.2.1), (.int .i64 a.2.2.1), (.int .i64 a.2.2.2.1), (.int .i64 a.2.2.2.2.1), (.slice b4 (List.length (List.map stT (d9 ++ [(q, f.1, a.1, (none, 0, ([] : List (Int × Int))), (none, 0, ([] : List ((List UInt8) × (List UInt8) × Int))))]))) b5), (.int .i64 a.2.2.2.2.2.1), (.bool a.2.2.2.2.2.2)]) (d := none) (k := 12) K rfl K K t6 rfl K ?_
    intro aa2 t7
    refine ⟨_, Qa p, trivial, ?_⟩
    exact (Exists.intro c5 (Exists.intro b4 (Exists.intro b5 (And.intro (And.intro t5 (And.intro f0 (And.intro rfl (trivial)))) t7))))
  ·rintro ρ' w' hs hf ⟨d4, c0, c1, ⟨aa3, aa4, aa5, -⟩, f1⟩
   refine V2 [] trivial ?_
   obtain ⟨aa6, t8⟩ : ∃ x, w' = x := ⟨_, rfl⟩
   rw [t8] at f1 ⊢
   refine ⟨(.tuple #[]), K, ?_⟩
   obtain rfl := Qg H
   exact ⟨c0, c1, (d9 ++ [(q, f.1, a.1, (none, 0, ([] : List (Int × Int))), (none, 0, ([] : List ((List UInt8) × (List UInt8) × Int))))]), rfl, rfl, SP.sel f1 [1,0] rfl rfl⟩
def Xo (q2 : Int) (q3 : Int) (q4 : Int) (q5 : Int) (q6 : (List Qb)) (a : Int) (b : Bool) : Option ((List UInt8) × Int × Int × (List (Int × Int)) × (List ((List UInt8) × (List UInt8) × Int)) × Int × Int × Int × Int × Int × Bool) :=
  (cond (((List.length q6 : Nat) : Int) == 0) (some (([] : List UInt8), 0, 0, ([] : List (Int × Int)), ([] : List ((List UInt8) × (List UInt8) × Int)), q2, q3, q4, q5, a, true)) none)
set_option maxHeartbeats 40000000 in
theorem Jy {S : List Nat} (g1 : Nat) (A7 : Option Addr) (c8 : Nat) (q2 : Int) (q3 : Int) (q4 : Int) (q5 : Int) (a : (List Qh)) (c : Int) (j : Bool) (w0 : World) (hO : SP S w0 w0 [Qq g1 72 #[(.int .i64 q2), (.int .i64 q3), (.int .i64 q4), (.int .i64 q5), (.slice A7 (List.length (List.map stT a)) c8), (.int .i64 c), (.bool j)]]) (a4 : ∀ w, Mod S w0 w → (dDS V1 Fc).ok w (A7, c8, a)) (r : ((List UInt8) × Int × Int × (List (Int × Int)) × (List ((List UInt8) × (List UInt8) × Int)) × Int × Int × Int × Int × Int × Bool)) (H : Xo q2 q3 q4 q5 (List.map stT a) c j = some r) :
  Calls Tryz.prog 166 #[(pt g1 0)] w0 (fun e w' => ∃ (l : Nat) (m : Option Addr) (p : Nat) (q : Option Addr) (s : Nat), e = .returned (pt l 0) ∧ SP S w0 w' [Qq l 33 #[(.string ⟨List.toArray r.1⟩), (.int .i64 r.2.1), (.int .i64 r.2.2.1), (.slice m (List.length r.2.2.2.1) p), (.slice q (List.length r.2.2.2.2.1) s)], Q6 102 (Qf (Q4 .u32) (Q4 .i64)) m p r.2.2.2.1, Q6 37 (Qf Ql (Qf Ql (Q4 .i64))) q s r.2.2.2.2.1, Qq g1 72 #[(.int .i64 r.2.2.2.2.2.1), (.int .i64 r.2.2.2.2.2.2.1), (.int .i64 r.2.2.2.2.2.2.2.1), (.int .i64 r.2.2.2.2.2.2.2.2.1), (.slice A7 (List.length (List.map stT a)) c8), (.int .i64 r.2.2.2.2.2.2.2.2.2.1), (.bool r.2.2.2.2.2.2.2.2.2.2)]]) := by
 unfold Xo at H
 refine Qv (n := 28) Tryz.func166 K K K ?_
 have u := hO
 refine aQ ?_
 refine aR ?_
 refine iR 1 1 [(2, (.pointer none))] ?_
 refine iF ?_
 refine aQ ?_
 refine aQ ?_
 refine aR ?_
 refine iR 4 4 [(3, (pt g1 0)), (4, (pt g1 0)), (5, (pt g1 0)), (6, (pt g1 4))] ?_
 refine iS 5 ?_
 refine sL 22 6 g1 4 0 (.slice A7 (List.length (List.map stT a)) c8) 7 u rfl ?_
 refine iR 2 7 [(8, (.int .i64 ((List.length (List.map stT a) : Nat) : Int))), (9, (.bool (((List.length (List.map stT a) : Nat) : Int) == 0)))] ?_
 refine iF ?_
 refine Xe K (o := (.tmp 9)) K (b := (((List.length (List.map stT a) : Nat) : Int) == 0)) K (fun h => ?_) (fun h => ?_)
 ·have H := ct H h
  refine aQ ?_
  refine aR ?_
  refine iR 3 3 [(10, (pt g1 0)), (11, (pt g1 0)), (12, (pt g1 6))] ?_
  refine iS 4 ?_
  refine Qi.store (t := 4) (x := (.tmp 12)) (y := (.const (.bool true))) (g := g1) (off := 6) (i := 0) (v := (.bool true)) (cs' := #[(.int .i64 q2), (.int .i64 q3), (.int .i64 q4), (.int .i64 q5), (.slice A7 (List.length (List.map stT a)) c8), (.int .i64 c), (.bool true)]) (d := none) (k := 3) K rfl K K u rfl K ?_
  intro a5 a0
  refine iF ?_
  refine aQ ?_
  refine aR ?_
  refine iR 1 1 [(13, (.agg #[(.string ⟨List.toArray ([] : List UInt8)⟩), (.int .i64 0), (.int .i64 0), (.slice none (List.length ([] : List (Int × Int))) 0), (.slice none (List.length ([] : List ((List UInt8) × (List UInt8) × Int))) 0)]))] ?_
  refine iS 2 ?_
  refine Z0 (t := 33) (x := (.tmp 13)) (v := (.agg #[(.string ⟨List.toArray ([] : List UInt8)⟩), (.int .i64 0), (.int .i64 0), (.slice none (List.length ([] : List (Int × Int))) 0), (.slice none (List.length ([] : List ((List UInt8) × (List UInt8) × Int))) 0)])) (d := (some 14)) (k := 1) K rfl K a0 ?_
  intro f z a1
  refine iR 1 3 [(2, (pt f 0))] ?_
  refine iF ?_
  refine At.ret K ?_
  have a2 : SP S w0 z [Qq g1 72 #[(.int .i64 q2), (.int .i64 q3), (.int .i64 q4), (.int .i64 q5), (.slice A7 (List.length (List.map stT a)) c8), (.int .i64 c), (.bool true)], Qq f 33 #[(.string ⟨List.toArray ([] : List UInt8)⟩), (.int .i64 0), (.int .i64 0), (.slice none (List.length ([] : List (Int × Int))) 0), (.slice none (List.length ([] : List ((List UInt8) × (List UInt8) × Int))) 0)], Q6 102 (Qf (Q4 .u32) (Q4 .i64)) none 0 ([] : List (Int × Int))] := Nx a1 102 (Qf (Q4 .u32) (Q4 .i64))
  have a3 : SP S w0 z [Qq g1 72 #[(.int .i64 q2), (.int .i64 q3), (.int .i64 q4), (.int .i64 q5), (.slice A7 (List.length (List.map stT a)) c8), (.int .i64 c), (.bool true)], Qq f 33 #[(.string ⟨List.toArray ([] : List UInt8)⟩), (.int .i64 0), (.int .i64 0), (.slice none (List.length ([] : List (Int × Int))) 0), (.slice none (List.length ([] : List ((List UInt8) × (List UInt8) × Int))) 0)], Q6 102 (Qf (Q4 .u32) (Q4 .i64)) none 0 ([] : List (Int × Int)), Q6 37 (Qf Ql (Qf Ql (Q4 .i64))) none 0 ([] : List ((List UInt8) × (List UInt8) × Int))] := Nx a2 37 (Qf Ql (Qf Ql (Q4 .i64)))
  refine ⟨(pt f 0), K, ?_⟩
  obtain rfl := Qg H
  exact ⟨f, none, 0, none, 0, rfl, SP.sel a3 [1,2,3,0] rfl rfl⟩
 ·have H := cf H h
  cases H
def Zz (q2 : Int) (q3 : Int) (q4 : Int) (q5 : Int) (q6 : (List Qb)) (a : Int) (b : Bool) : Option Unit :=
  (cond (((List.length q6 : Nat) : Int) == 0) none ((idx q6 (IntKind.wrap .i64 (((List.length q6 : Nat) : Int) - 1))).bind fun c => (some ())))
set_option maxHeartbeats 40000000 in
theorem Jz {S : List Nat} (g1 : Nat) (A7 : Option Addr) (c8 : Nat) (q2 : Int) (q3 : Int) (q4 : Int) (q5 : Int) (a : (List Qh)) (h : Int) (i : Bool) (w0 : World) (hO : SP S w0 w0 [Qq g1 72 #[(.int .i64 q2), (.int .i64 q3), (.int .i64 q4), (.int .i64 q5), (.slice A7 (List.length (List.map stT a)) c8), (.int .i64 h), (.bool i)]]) (s : ∀ w, Mod S w0 w → (dDS V1 Fc).ok w (A7, c8, a)) (r : Unit) (H : Zz q2 q3 q4 q5 (List.map stT a) h i = some r) :
  Calls Tryz.prog 166 #[(pt g1 0)] w0 (fun e w' => ∃ (t : Nat) (u : Nat), e = .returned (.pointer (some ⟨t, (u + (List.length (List.map stT a) - 1) * V1.sz), none⟩)) ∧ A7 = some ⟨t, u, none⟩ ∧ SP S w0 w' [Qq g1 72 #[(.int .i64 q2), (.int .i64 q3), (.int .i64 q4), (.int .i64 q5), (.slice A7 (List.length (List.map stT a)) c8), (.int .i64 h), (.bool i)]]) := by
 unfold Zz at H
 refine Qv (n := 28) Tryz.func166 K K K ?_
 have y := hO
 refine aQ ?_
 refine aR ?_
 refine iR 1 1 [(2, (.pointer none))] ?_
 refine iF ?_
 refine aQ ?_
 refine aQ ?_
 refine aR ?_
 refine iR 4 4 [(3, (pt g1 0)), (4, (pt g1 0)), (5, (pt g1 0)), (6, (pt g1 4))] ?_
 refine iS 5 ?_
 refine sL 22 6 g1 4 0 (.slice A7 (List.length (List.map stT a)) c8) 7 y rfl ?_
 refine iR 2 7 [(8, (.int .i64 ((List.length (List.map stT a) : Nat) : Int))), (9, (.bool (((List.length (List.map stT a) : Nat) : Int) == 0)))] ?_
 refine iF ?_
 refine Xe K (o := (.tmp 9)) K (b := (((List.length (List.map stT a) : Nat) : Int) == 0)) K (fun j => ?_) (fun j => ?_)
 ·have H := ct H j
  cases H
 ·have H := cf H j
  refine At.skip K ?_
  refine aQ ?_
  obtain ⟨b4, z, a0, b5, H⟩ := J6 H
  refine aG [GEq (pt g1 0), GEq (pt g1 0), GEq (pt g1 0), GEq (pt g1 4), GEq (.slice A7 (List.length (List.map stT a)) c8), GEq (pt g1 0), GEq (pt g1 0), GEq (pt g1 0), GEq (pt g1 4), GEq (.slice A7 (List.length (List.map stT a)) c8), GEq (.int .i64 ((List.length (List.map stT a) : Nat) : Int)), GEq (.int .i64 (IntKind.wrap .i64 (((List.length (List.map stT a) : Nat) : Int) - 1))), Yb A7 V1.sz (IntKind.wrap .i64 (((List.length (List.map stT a) : Nat) : Int) - 1)), Yb A7 V1.sz (IntKind.wrap .i64 (((List.length (List.map stT a) : Nat) : Int) - 1))] [] (tG S w0 [Qq g1 72 #[(.int .i64 q2), (.int .i64 q3), (.int .i64 q4), (.int .i64 q5), (.slice A7 (List.length (List.map stT a)) c8), (.int .i64 h), (.bool i)]] [([], [])]) 14 0 ⟨trivial, SP.drew y⟩ ?_ ?_
  iterate 14 refine And.intro ?_ ?_
  exact trivial
  ·exact oV (hC (hS 0 (pt g1 0)) (h0)) (pt g1 0)
  ·exact oV (hC (hA 0 15) (h0)) (pt g1 0)
  ·exact oV (hC (hA 1 16) (h0)) (pt g1 0)
  ·exact oV (hC (hA 2 17) (h0)) (pt g1 4)
  ·refine oL 0 ?_
   ·rintro ρ' w' hs f ⟨b6, a3⟩
    refine kM (kc (kA f 3 18) k0) fun g => ?_
    refine sL 22 18 g1 4 0 (.slice A7 (List.length (List.map stT a)) c8) 19 a3 rfl ?_
    exact eK g
  ·exact oV (hC (hS 0 (pt g1 0)) (h0)) (pt g1 0)
  ·exact oV (hC (hA 5 20) (h0)) (pt g1 0)
  ·exact oV (hC (hA 6 21) (h0)) (pt g1 0)
  ·exact oV (hC (hA 7 22) (h0)) (pt g1 4)
  ·refine oL 0 ?_
   ·rintro ρ' w' hs f ⟨b7, a4⟩
    refine kM (kc (kA f 8 23) k0) fun g => ?_
    refine sL 22 23 g1 4 0 (.slice A7 (List.length (List.map stT a)) c8) 24 a4 rfl ?_
    exact eK g
  ·exact oV (hC (hA 9 24) (h0)) (.int .i64 ((List.length (List.map stT a) : Nat) : Int))
  ·exact oV (hC (hA 10 25) (h0)) (.int .i64 (IntKind.wrap .i64 (((List.length (List.map stT a) : Nat) : Int) - 1)))
  ·refine oL 0 ?_
   ·rintro ρ' w' hs f ⟨b8, a5⟩
    refine kM (kc (kA f 4 19) (kc (kA f 11 26) k0)) fun g => ?_
    refine Yu stT (e := V1) (l := a) (A := A7) (c := c8) (T := 22) (E := 33) (x := (.tmp 19)) (ix := (.tmp 26)) (ki := .i64) (iz := (IntKind.wrap .i64 (((List.length (List.map stT a) : Nat) : Int) - 1))) (d := (some 27)) (k := 12) K rfl K K K K ((fun w hm => (Yh (s w hm))) w' (SP.mod a5)) z a0 ?_
    intro a6 a7 a8 b9 hc68
    exact ⟨rfl, _, Qa g, ⟨a6, a7, a8, rfl⟩⟩
  ·refine oL 0 ?_
   ·rintro ρ' w' hs f ⟨c0, c1⟩
    obtain ⟨a1, a2, a9, b0⟩ := f 12 27 K
    refine kM (kc b0 k0) fun g => ?_
    refine Qi.run (k := 13) (v := (.pointer (some ⟨a1, (a2 + Int.toNat (IntKind.wrap .i64 (((List.length (List.map stT a) : Nat) : Int) - 1)) * V1.sz), none⟩))) K ?_
    exact ⟨rfl, _, Qa g, ⟨a1, a2, a9, rfl⟩⟩
  ·rintro ρ' w' hs hf ⟨c2, m⟩
   obtain ⟨p, q, b1, e2⟩ := hf 13 2 K
   refine V2 [(2, (.pointer (some ⟨p, (q + Int.toNat (IntKind.wrap .i64 (((List.length (List.map stT a) : Nat) : Int) - 1)) * V1.sz), none⟩)))] ⟨e2, trivial⟩ ?_
   obtain ⟨b2, b3⟩ : ∃ x, w' = x := ⟨_, rfl⟩
   rw [b3] at m ⊢
   refine At.ret K ?_
   refine ⟨(.pointer (some ⟨p, (q + Int.toNat (IntKind.wrap .i64 (((List.length (List.map stT a) : Nat) : Int) - 1)) * V1.sz), none⟩)), K, ?_⟩
   obtain rfl := Qg H
   exact ⟨p, q, (by rw [last_idx (RdT.max ((fun w hm => (Yh (s w hm))) b2 (SP.mod m))) z a0]), b1, SP.sel m [0] rfl rfl⟩
def Xi (q6 : (List Qb)) (b : (Int × Int × Bool)) (a : ((List UInt8) × Int × Int × (List (Int × Int)) × (List ((List UInt8) × (List UInt8) × Int)) × Int × Int × Int × Int × Int × Bool)) (c : Bool) : Option (Int × Int × Int × Int × (List Qb) × Int × Bool) :=
  ((app a.2.2.2.1 ([(b.1, b.2.1)] : List (Int × Int))).bind fun d => (some (a.2.2.2.2.2.1, a.2.2.2.2.2.2.1, a.2.2.2.2.2.2.2.1, a.2.2.2.2.2.2.2.2.1, q6, a.2.2.2.2.2.2.2.2.2.1, c)))
def Zn (q2 : Int) (q3 : Int) (q4 : Int) (q5 : Int) (c : Int) (b : (Int × Int × Bool)) (d : (List Qb)) (a : Qb) (e : Bool) : Option (Int × Int × Int × Int × (List Qb) × Int × Bool) :=
  ((app a.2.2.2.1 ([(b.1, b.2.1)] : List (Int × Int))).bind fun f => (some (q2, q3, q4, q5, (d ++ [(a.1, a.2.1, a.2.2.1, f, a.2.2.2.2)]), c, e)))
def Y5 (q2 : Int) (q3 : Int) (q4 : Int) (q5 : Int) (q6 : (List Qb)) (b : Int) (e : Bool) (g : (List (List UInt8))) : Option (Int × Int × Int × Int × (List Qb) × Int × Bool) :=
  ((idx g 1).bind fun h => ((Nc h).bind fun a => (cond (List.isEmpty q6) ((Xo q2 q3 q4 q5 q6 b e).bind fun c => (cond c.2.2.2.2.2.2.2.2.2.2 (Xi q6 a c true) (cond (!a.2.2) (Xi q6 a c true) (Xi q6 a c (decide (((List.length c.2.2.2.2.1 : Nat) : Int) > 0)))))) ((Zz q2 q3 q4 q5 q6 b e).bind fun i => (Ln q6 (fun f d j => (cond e (Zn q2 q3 q4 q5 b a f d true) (cond (!a.2.2) (Zn q2 q3 q4 q5 b a f d true) (Zn q2 q3 q4 q5 b a f d (decide (((List.length d.2.2.2.2 : Nat) : Int) > 0)))))))))))
set_option maxHeartbeats 40000000 in
theorem Gx {S : List Nat} (g1 : Nat) (A7 : Option Addr) (c8 : Nat) (d1 : Option Addr) (d2 : Nat) (q2 : Int) (q3 : Int) (q4 : Int) (q5 : Int) (d9 : (List Qh)) (a6 : Int) (b4 : Bool) (c5 : (List (List UInt8))) (w0 : World) (hL : ∀ w, Mod S w0 w → U9 w) (hO : SP S w0 w0 [Qq g1 72 #[(.int .i64 q2), (.int .i64 q3), (.int .i64 q4), (.int .i64 q5), (.slice A7 (List.length (List.map stT d9)) c8), (.int .i64 a6), (.bool b4)], Yx A7 c8 d9]) (e8 : ∀ w, Mod S w0 w → RdT Ql w d1 d2 c5) (r : (Int × Int × Int × Int × (List Qb) × Int × Bool)) (H : Y5 q2 q3 q4 q5 (List.map stT d9) a6 b4 c5 = some r) :
  Calls Tryz.prog 144 #[(pt g1 0), (.slice d1 (List.length c5) d2)] w0 (fun e w' => ∃ (e9 : Option Addr) (f0 : Nat) (e1 : List Qh), e = .returned (.tuple #[]) ∧ r.2.2.2.2.1 = List.map stT e1 ∧ SP S w0 w' [Qq g1 72 #[(.int .i64 r.1), (.int .i64 r.2.1), (.int .i64 r.2.2.1), (.int .i64 r.2.2.2.1), (.slice e9 (List.length (List.map stT e1)) f0), (.int .i64 r.2.2.2.2.2.1), (.bool r.2.2.2.2.2.2)], Yx e9 f0 e1]) := by
 unfold Y5 at H
 refine Qv (n := 45) Tryz.func144 K K K ?_
 have d3 := hO
 refine aQ ?_
 refine aR ?_
 refine iR 1 1 [(8, (.slice d1 (List.length c5) d2))] ?_
 obtain ⟨f1, f2, f3, g9, H⟩ := Ve H
 refine iS 2 ?_
 refine Qn (e := Ql) (l := c5) (A := d1) (c := d2) (T := 79) (E := 9) (x := (.tmp 8)) (ix := (.const (.int .i64 (1)))) (ki := .i64) (iz := 1) (d := (some 9)) (k := 1) K rfl K K K K (e8 w0 (SP.mod d3)) f2 f3 ?_
 intro h1 h2 h3 l9 hc272
 refine iS 3 ?_
 refine sC 9 9 h1 (h2 + Int.toNat 1 * Ql.sz) (.string ⟨List.toArray f1⟩) 10 (Qw (e := Ql) (Qj (e8 w0 (SP.mod d3)) h3 f2 f3) g9 (j := 0) rfl) ?_
 obtain ⟨a, h4, H⟩ := Qd H
 refine iS 4 ?_
 refine cF 165 #[(.tmp 10)] #[9] 11 Tryz.call165 (By  f1 w0 (hL w0 (SP.mod d3)) a h4) ?_
 rintro e m0 ⟨rfl, f4⟩
 refine ⟨_, rfl, ?_⟩
 have h5 := SP.call d3 f4
 clear f4
 refine iR 3 7 [(7, (.tuple #[(.agg #[(.int .u32 a.1), (.int .i64 a.2.1)]), (.bool a.2.2)])), (12, (.agg #[(.int .u32 a.1), (.int .i64 a.2.1)])), (13, (.bool a.2.2))] ?_
 refine iS 8 ?_
 refine Qi.alloc (t := 102) (z := (.agg #[(.int .u32 0), (.int .i64 0)])) (d := (some 4)) (k := 7) K rfl K h5 ?_
 intro a1 m1 h6
 refine iS 9 ?_
 refine Qi.store (t := 102) (x := (.tmp 4)) (y := (.tmp 12)) (g := a1) (off := 0) (i := 2) (v := (.agg #[(.int .u32 a.1), (.int .i64 a.2.1)])) (cs' := #[(.int .u32 a.1), (.int .i64 a.2.1)]) (d := none) (k := 8) K rfl K K h6 rfl K ?_
 intro f5 c4
 refine iR 1 10 [(5, (.bool a.2.2))] ?_
 refine iF ?_
 refine aQ ?_
 refine aR ?_
 refine iR 1 1 [(14, (pt g1 0))] ?_
 rcases Bool.eq_false_or_eq_true (List.isEmpty (List.map stT d9)) with d4 | d4
 ·have H := ct H d4
  obtain ⟨p, h7, H⟩ := Qd H
  refine iS 2 ?_
  refine cF 166 #[(.tmp 14)] #[70] 15 Tryz.call166 (Jy g1 A7 c8 q2 q3 q4 q5 d9 a6 b4 f5 (Jw c4 [0] rfl rfl) (fun w hm => Rg (SP.still c4 (l := [0]) (i := 1) rfl rfl rfl hm)) p h7) ?_
  rintro e h8 ⟨a0, a8, a9, b0, b1, rfl, f6⟩
  refine ⟨_, rfl, ?_⟩
  have c6 : SP S w0 h8 [Yx A7 c8 d9, Qq a1 102 #[(.int .u32 a.1), (.int .i64 a.2.1)], Qq a0 33 #[(.string ⟨List.toArray p.1⟩), (.int .i64 p.2.1), (.int .i64 p.2.2.1), (.slice a8 (List.length p.2.2.2.1) a9), (.slice b0 (List.length p.2.2.2.2.1) b1)], Q6 102 (Qf (Q4 .u32) (Q4 .i64)) a8 a9 p.2.2.2.1, Q6 37 (Qf Ql (Qf Ql (Q4 .i64))) b0 b1 p.2.2.2.2.1, Qq g1 72 #[(.int .i64 p.2.2.2.2.2.1), (.int .i64 p.2.2.2.2.2.2.1), (.int .i64 p.2.2.2.2.2.2.2.1), (.int .i64 p.2.2.2.2.2.2.2.2.1), (.slice A7 (List.length (List.map stT d9)) c8), (.int .i64 p.2.2.2.2.2.2.2.2.2.1), (.bool p.2.2.2.2.2.2.2.2.2.2)]] := Z2 c4 [0] [1, 2] rfl rfl f6 rfl
  clear f6
  refine iR 1 3 [(6, (pt a0 0))] ?_
  refine iF ?_
  refine aQ ?_
  refine At.join (fun ρ w => ∃ (b7 : Bool), Zm ρ [(4, (pt a1 0)), (6, (pt a0 0))] ∧ SP S w0 w [Yx A7 c8 d9, Qq g1 72 #[(.int .i64 p.2.2.2.2.2.1), (.int .i64 p.2.2.2.2.2.2.1), (.int .i64 p.2.2.2.2.2.2.2.1), (.int .i64 p.2.2.2.2.2.2.2.2.1), (.slice A7 (List.length (List.map stT d9)) c8), (.int .i64 p.2.2.2.2.2.2.2.2.2.1), (.bool b7)], Qq a1 102 #[(.int .u32 a.1), (.int .i64 a.2.1)], Q6 102 (Qf (Q4 .u32) (Q4 .i64)) a8 a9 p.2.2.2.1, Q6 37 (Qf Ql (Qf Ql (Q4 .i64))) b0 b1 p.2.2.2.2.1, Qq a0 33 #[(.string ⟨List.toArray p.1⟩), (.int .i64 p.2.1), (.int .i64 p.2.2.1), (.slice a8 (List.length p.2.2.2.1) a9), (.slice b0 (List.length p.2.2.2.2.1) b1)]] ∧ Xi (List.map stT d9) a p b7 = some r) ?_ ?_
  ·refine aR ?_
   refine iR 4 4 [(16, (pt g1 0)), (17, (pt g1 0)), (18, (pt g1 0)), (19, (pt g1 6))] ?_
   refine iS 5 ?_
   refine sL 4 19 g1 6 5 (.bool p.2.2.2.2.2.2.2.2.2.2) 20 c6 rfl ?_
   refine iR 1 6 [(21, (.bool p.2.2.2.2.2.2.2.2.2.2))] ?_
   refine In.guard (t := 21) (b := p.2.2.2.2.2.2.2.2.2.2) K (fun e2 => ?_) (fun e2 => ?_)
   ·have H := ct H e2
    refine iR 13 19 [(22, undef), (23, undef), (24, (.bool true)), (25, (.bool true)), (26, undef), (27, undef), (28, undef), (29, undef), (30, undef), (31, undef), (32, (.bool true)), (33, (pt g1 0)), (34, (pt g1 6))] ?_
    refine iS 20 ?_
    refine Qi.store (t := 4) (x := (.tmp 34)) (y := (.tmp 32)) (g := g1) (off := 6) (i := 5) (v := (.bool true)) (cs' := #[(.int .i64 p.2.2.2.2.2.1), (.int .i64 p.2.2.2.2.2.2.1), (.int .i64 p.2.2.2.2.2.2.2.1), (.int .i64 p.2.2.2.2.2.2.2.2.1), (.slice A7 (List.length (List.map stT d9)) c8), (.int .i64 p.2.2.2.2.2.2.2.2.2.1), (.bool true)]) (d := none) (k := 19) K rfl K K c6 rfl K ?_
    intro m2 h9
    refine iF ?_
    exact ⟨true, ⟨K, K, trivial⟩, SP.sel h9 [0, 5, 1, 3, 4, 2] rfl rfl, H⟩
   ·have H := cf H e2
    refine iR 4 10 [(22, (.bool a.2.2)), (23, (.bool (!a.2.2))), (24, (.bool (!a.2.2))), (25, (.bool (!a.2.2)))] ?_
    refine In.guard (t := 25) (b := (!a.2.2)) K (fun e3 => ?_) (fun e3 => ?_)
    ·have H := ct H e3
     refine iR 9 19 [(26, undef), (27, undef), (28, undef), (29, undef), (30, undef), (31, undef), (32, (.bool true)), (33, (pt g1 0)), (34, (pt g1 6))] ?_
     refine iS 20 ?_
     refine Qi.store (t := 4) (x := (.tmp 34)) (y := (.tmp 32)) (g := g1) (off := 6) (i := 5) (v := (.bool true)) (cs' := #[(.int .i64 p.2.2.2.2.2.1), (.int .i64 p.2.2.2.2.2.2.1), (.int .i64 p.2.2.2.2.2.2.2.1), (.int .i64 p.2.2.2.2.2.2.2.2.1), (.slice A7 (List.length (List.map stT d9)) c8), (.int .i64 p.2.2.2.2.2.2.2.2.2.1), (.bool true)]) (d := none) (k := 19) K rfl K K c6 rfl K ?_
     intro m3 i0
     refine iF ?_
     exact ⟨true, ⟨K, K, trivial⟩, SP.sel i0 [0, 5, 1, 3, 4, 2] rfl rfl, H⟩
    ·have H := cf H e3
     refine iR 3 13 [(26, (pt a0 0)), (27, (pt a0 0)), (28, (pt a0 4))] ?_
     refine iS 14 ?_
     refine sL 31 28 a0 4 2 (.slice b0 (List.length p.2.2.2.2.1) b1) 29 c6 rfl ?_
     refine iR 5 19 [(30, (.int .i64 ((List.length p.2.2.2.2.1 : Nat) : Int))), (31, (.bool (decide (((List.length p.2.2.2.2.1 : Nat) : Int) > 0)))), (32, (.bool (decide (((List.length p.2.2.2.2.1 : Nat) : Int) > 0)))), (33, (pt g1 0)), (34, (pt g1 6))] ?_
     refine iS 20 ?_
     refine Qi.store (t := 4) (x := (.tmp 34)) (y := (.tmp 32)) (g := g1) (off := 6) (i := 5) (v := (.bool (decide (((List.length p.2.2.2.2.1 : Nat) : Int) > 0)))) (cs' := #[(.int .i64 p.2.2.2.2.2.1), (.int .i64 p.2.2.2.2.2.2.1), (.int .i64 p.2.2.2.2.2.2.2.1), (.int .i64 p.2.2.2.2.2.2.2.2.1), (.slice A7 (List.length (List.map stT d9)) c8), (.int .i64 p.2.2.2.2.2.2.2.2.2.1), (.bool (decide (((List.length p.2.2.2.2.1 : Nat) : Int) > 0)))]) (d := none) (k := 19) K rfl K K c6 rfl K ?_
     intro m4 i1
     refine iF ?_
     exact ⟨(decide (((List.length p.2.2.2.2.1 : Nat) : Int) > 0)), ⟨K, K, trivial⟩, SP.sel i1 [0, 5, 1, 3, 4, 2] rfl rfl, H⟩
  ·rintro ρ m5 ⟨b7, hk, i2, H⟩
   unfold Xi at H
   first | refine At.known [(4, (pt a1 0)), (6, (pt a0 0))] hk ?_ | rw [← Q3 (l := [(4, (pt a1 0)), (6, (pt a0 0))]) hk]
   obtain ⟨hl318, H⟩ := Yf H
   obtain ⟨b6, hyl319⟩ : ∃ y, p.2.2.2.1 ++ ([(a.1, a.2.1)] : List (Int × Int)) = y := ⟨_, rfl⟩
   try rw [hyl319] at H
   refine aG [GEq (pt a0 0), GEq (pt a0 0), GEq (pt a0 0), GEq (pt a0 3), GEq (.slice a8 (List.length p.2.2.2.1) a9), GEq (.agg #[(.int .u32 a.1), (.int .i64 a.2.1)]), Rp, Rp, GEq (pt a0 0), GEq (pt a0 3), Rp] [6, 7, 10] [([], fun vs w => VL vs [] ∧ SP S w0 w [Yx A7 c8 d9, Qq g1 72 #[(.int .i64 p.2.2.2.2.2.1), (.int .i64 p.2.2.2.2.2.2.1), (.int .i64 p.2.2.2.2.2.2.2.1), (.int .i64 p.2.2.2.2.2.2.2.2.1), (.slice A7 (List.length (List.map stT d9)) c8), (.int .i64 p.2.2.2.2.2.2.2.2.2.1), (.bool b7)], Qq a1 102 #[(.int .u32 a.1), (.int .i64 a.2.1)], Q6 102 (Qf (Q4 .u32) (Q4 .i64)) a8 a9 p.2.2.2.1, Q6 37 (Qf Ql (Qf Ql (Q4 .i64))) b0 b1 p.2.2.2.2.1, Qq a0 33 #[(.string ⟨List.toArray p.1⟩), (.int .i64 p.2.1), (.int .i64 p.2.2.1), (.slice a8 (List.length p.2.2.2.1) a9), (.slice b0 (List.length p.2.2.2.2.1) b1)]]), ([6], fun vs w => ∃ (b8 : Nat), VL vs [(.slice (some ⟨b8, 0, none⟩) (List.length ([(a.1, a.2.1)] : List (Int × Int))) (List.length ([(a.1, a.2.1)] : List (Int × Int))))] ∧ SP S w0 w [Yx A7 c8 d9, Qq g1 72 #[(.int .i64 p.2.2.2.2.2.1), (.int .i64 p.2.2.2.2.2.2.1), (.int .i64 p.2.2.2.2.2.2.2.1), (.int .i64 p.2.2.2.2.2.2.2.2.1), (.slice A7 (List.length (List.map stT d9)) c8), (.int .i64 p.2.2.2.2.2.2.2.2.2.1), (.bool b7)], Qq a1 102 #[(.int .u32 a.1), (.int .i64 a.2.1)], Q6 102 (Qf (Q4 .u32) (Q4 .i64)) a8 a9 p.2.2.2.1, Q6 37 (Qf Ql (Qf Ql (Q4 .i64))) b0 b1 p.2.2.2.2.1, Qq a0 33 #[(.string ⟨List.toArray p.1⟩), (.int .i64 p.2.1), (.int .i64 p.2.2.1), (.slice a8 (List.length p.2.2.2.1) a9), (.slice b0 (List.length p.2.2.2.2.1) b1)], Q6 102 (Qf (Q4 .u32) (Q4 .i64)) (some ⟨b8, 0, none⟩) (List.length ([(a.1, a.2.1)] : List (Int × Int))) ([(a.1, a.2.1)] : List (Int × Int))]), ([6, 7], fun vs w => ∃ (d5 : Nat), ∃ (b9 : Option Addr), ∃ (c0 : Nat), VL vs [(.slice (some ⟨d5, 0, none⟩) (List.length ([(a.1, a.2.1)] : List (Int × Int))) (List.length ([(a.1, a.2.1)] : List (Int × Int)))), (.slice b9 (List.length b6) c0)] ∧ SP S w0 w [Yx A7 c8 d9, Qq g1 72 #[(.int .i64 p.2.2.2.2.2.1), (.int .i64 p.2.2.2.2.2.2.1), (.int .i64 p.2.2.2.2.2.2.2.1), (.int .i64 p.2.2.2.2.2.2.2.2.1), (.slice A7 (List.length (List.map stT d9)) c8), (.int .i64 p.2.2.2.2.2.2.2.2.2.1), (.bool b7)], Qq a1 102 #[(.int .u32 a.1), (.int .i64 a.2.1)], Q6 102 (Qf (Q4 .u32) (Q4 .i64)) b9 c0 b6, Q6 37 (Qf Ql (Qf Ql (Q4 .i64))) b0 b1 p.2.2.2.2.1, Qq a0 33 #[(.string ⟨List.toArray p.1⟩), (.int .i64 p.2.1), (.int .i64 p.2.2.1), (.slice a8 (List.length p.2.2.2.1) a9), (.slice b0 (List.length p.2.2.2.2.1) b1)], Q6 102 (Qf (Q4 .u32) (Q4 .i64)) (some ⟨d5, 0, none⟩) (List.length ([(a.1, a.2.1)] : List (Int × Int))) ([(a.1, a.2.1)] : List (Int × Int))]), ([6, 7, 10], fun vs w => ∃ (e4 : Nat), ∃ (d6 : Option Addr), ∃ (d7 : Nat), VL vs [(.slice (some ⟨e4, 0, none⟩) (List.length ([(a.1, a.2.1)] : List (Int × Int))) (List.length ([(a.1, a.2.1)] : List (Int × Int)))), (.slice d6 (List.length b6) d7), undef] ∧ SP S w0 w [Yx A7 c8 d9, Qq g1 72 #[(.int .i64 p.2.2.2.2.2.1), (.int .i64 p.2.2.2.2.2.2.1), (.int .i64 p.2.2.2.2.2.2.2.1), (.int .i64 p.2.2.2.2.2.2.2.2.1), (.slice A7 (List.length (List.map stT d9)) c8), (.int .i64 p.2.2.2.2.2.2.2.2.2.1), (.bool b7)], Qq a1 102 #[(.int .u32 a.1), (.int .i64 a.2.1)], Q6 102 (Qf (Q4 .u32) (Q4 .i64)) d6 d7 b6, Q6 37 (Qf Ql (Qf Ql (Q4 .i64))) b0 b1 p.2.2.2.2.1, Qq a0 33 #[(.string ⟨List.toArray p.1⟩), (.int .i64 p.2.1), (.int .i64 p.2.2.1), (.slice d6 (List.length b6) d7), (.slice b0 (List.length p.2.2.2.2.1) b1)], Q6 102 (Qf (Q4 .u32) (Q4 .i64)) (some ⟨e4, 0, none⟩) (List.length ([(a.1, a.2.1)] : List (Int × Int))) ([(a.1, a.2.1)] : List (Int × Int))])] 11 3 ⟨trivial, SP.drew i2⟩ ?_ ?_
   iterate 11 refine And.intro ?_ ?_
   exact trivial
   ·exact oV (hC (hS 6 (pt a0 0)) (h0)) (pt a0 0)
   ·exact oV (hC (hS 6 (pt a0 0)) (h0)) (pt a0 0)
   ·exact oV (hC (hA 1 36) (h0)) (pt a0 0)
   ·exact oV (hC (hA 2 37) (h0)) (pt a0 3)
   ·refine Owe.light K [0, 1] K (Qc ?_ (Qc ?_ Q8))
    ·rintro ρ' w' hs a5 ⟨m6, i3⟩
     refine kM (kc (kA a5 3 38) k0) fun a4 => ?_
     refine sL 30 38 a0 3 5 (.slice a8 (List.length p.2.2.2.1) a9) 39 i3 rfl ?_
     exact eK a4
    ·rintro ρ' w' hs a5 ⟨b8, ⟨m7, -⟩, i4⟩
     refine kM (kc (kA a5 3 38) k0) fun a4 => ?_
     refine sL 30 38 a0 3 5 (.slice a8 (List.length p.2.2.2.1) a9) 39 i4 rfl ?_
     exact eK a4
   ·refine oL 0 ?_
    ·rintro ρ' w' hs a5 ⟨m8, i5⟩
     refine kM (kc (kS hs 4 (pt a1 0)) k0) fun a4 => ?_
     refine sL 102 4 a1 0 2 (.agg #[(.int .u32 a.1), (.int .i64 a.2.1)]) 40 i5 rfl ?_
     exact eK a4
   ·refine oH 0 1 ?_
    ·rintro ρ' w' hs a5 ⟨m9, i6⟩
     refine kM (kc (kA a5 5 40) k0) fun a4 => ?_
     refine Vt (e := (Qf (Q4 .u32) (Q4 .i64))) (T := 30) (E := 102) (len := 1) (parts := #[(0, (.tmp 40))]) (cs := #[(.int .u32 a.1), (.int .i64 a.2.1)]) ([(a.1, a.2.1)] : List (Int × Int)) (d := (some 41)) (k := 6) K rfl (fun _ => K) i6 rfl rfl rfl rfl ?_
     intro i7 n0 i8
     refine ⟨_, Qa a4, trivial, ?_⟩
     exact (Exists.intro i7 (And.intro (And.intro rfl (trivial)) i8))
   ·refine oH 1 2 ?_
    ·rintro ρ' w' hs a5 ⟨b8, ⟨f7, -⟩, f8⟩
     refine kN [(39, (.slice a8 (List.length p.2.2.2.1) a9)), (41, (.slice (some ⟨b8, 0, none⟩) (List.length ([(a.1, a.2.1)] : List (Int × Int))) (List.length ([(a.1, a.2.1)] : List (Int × Int)))))] ⟨a5 4 39 K, (Vo (h := 6) K).symm.trans f7, trivial⟩ fun a4 => ?_
     refine Qi.append (e := (Qf (Q4 .u32) (Q4 .i64))) (l := p.2.2.2.1) (m := ([(a.1, a.2.1)] : List (Int × Int))) (A := a8) (c := a9) (T := 30) (TX := 30) (E := 102) (b := 16) (s := (.tmp 39)) (x := (.tmp 41)) (i := 3) (vx := (.slice (some ⟨b8, 0, none⟩) (List.length ([(a.1, a.2.1)] : List (Int × Int))) (List.length ([(a.1, a.2.1)] : List (Int × Int))))) (d := (some 42)) (k := 7) K rfl K K K K rfl f8 rfl (Dw (E := 102) K (Vg (SP.get f8 (i := 6) rfl))) hl318 ?_
     rw [hyl319]
     intro i9 j0 n1 j1
     refine ⟨_, Qa a4, trivial, ?_⟩
     exact (Exists.intro b8 (Exists.intro i9 (Exists.intro j0 (And.intro (And.intro f7 (And.intro rfl (trivial))) j1))))
   ·exact oV (hC (hA 0 35) (h0)) (pt a0 0)
   ·exact oV (hC (hA 8 43) (h0)) (pt a0 3)
   ·refine oH 2 3 ?_
    ·rintro ρ' w' hs a5 ⟨d5, b9, c0, ⟨j2, f9, -⟩, j3⟩
     refine kN [(44, (pt a0 3)), (42, (.slice b9 (List.length b6) c0))] ⟨a5 9 44 K, (Vo (h := 7) K).symm.trans f9, trivial⟩ fun a4 => ?_
     refine Qi.store (t := 30) (x := (.tmp 44)) (y := (.tmp 42)) (g := a0) (off := 3) (i := 5) (v := (.slice b9 (List.length b6) c0)) (cs' := #[(.string ⟨List.toArray p.1⟩), (.int .i64 p.2.1), (.int .i64 p.2.2.1), (.slice b9 (List.length b6) c0), (.slice b0 (List.length p.2.2.2.2.1) b1)]) (d := none) (k := 10) K rfl K K j3 rfl K ?_
     intro n2 j4
     refine ⟨_, Qa a4, trivial, ?_⟩
     exact (Exists.intro d5 (Exists.intro b9 (Exists.intro c0 (And.intro (And.intro j2 (And.intro f9 (And.intro rfl (trivial)))) j4))))
   ·rintro ρ' w' hs hf ⟨e4, d6, d7, ⟨n3, n4, n5, -⟩, g0⟩
    refine V2 [] trivial ?_
    obtain ⟨n6, j5⟩ : ∃ x, w' = x := ⟨_, rfl⟩
    rw [j5] at g0 ⊢
    refine ⟨(.tuple #[]), K, ?_⟩
    obtain rfl := Qg H
    exact ⟨A7, c8, d9, rfl, rfl, SP.sel g0 [1,0] rfl rfl⟩
 ·have H := cf H d4
  obtain ⟨j6, j7, H⟩ := Qd H
  refine iS 2 ?_
  refine cF 166 #[(.tmp 14)] #[70] 15 Tryz.call166 (Jz g1 A7 c8 q2 q3 q4 q5 d9 a6 b4 f5 (Jw c4 [0] rfl rfl) (fun w hm => Rg (SP.still c4 (l := [0]) (i := 1) rfl rfl rfl hm)) j6 j7) ?_
  rintro e g2 ⟨a2, a3, rfl, d8, g3⟩
  refine ⟨_, rfl, ?_⟩
  have j8 : SP S w0 g2 [Yx A7 c8 d9, Qq a1 102 #[(.int .u32 a.1), (.int .i64 a.2.1)], Qq g1 72 #[(.int .i64 q2), (.int .i64 q3), (.int .i64 q4), (.int .i64 q5), (.slice A7 (List.length (List.map stT d9)) c8), (.int .i64 a6), (.bool b4)]] := Z2 c4 [0] [1, 2] rfl rfl g3 rfl
  clear g3
  obtain ⟨u, o, e5⟩ := Fl d4
  have Hd407 := Fm e5 H
  have hnd407 : List.length (List.map stT d9) - 1 = List.length u := by rw [e5]; simp
  rw [hnd407]
  subst e5
  have H := Hd407
  have c7 : SP S w0 g2 [Q6 33 V1 A7 c8 (u ++ [o]), Qq a1 102 #[(.int .u32 a.1), (.int .i64 a.2.1)], Qq g1 72 #[(.int .i64 q2), (.int .i64 q3), (.int .i64 q4), (.int .i64 q5), (.slice A7 (List.length (List.map stT (u ++ [o]))) c8), (.int .i64 a6), (.bool b4)], Dm u, Q6 102 (Qf (Q4 .u32) (Q4 .i64)) o.2.2.2.1.1 o.2.2.2.1.2.1 (stT o).2.2.2.1, Q6 37 (Qf Ql (Qf Ql (Q4 .i64))) o.2.2.2.2.1 o.2.2.2.2.2.1 (stT o).2.2.2.2] := Eg j8 (i := 0) rfl rfl
  refine iR 1 3 [(6, (.pointer (some ⟨a2, (a3 + (List.length u) * V1.sz), none⟩)))] ?_
  refine iF ?_
  refine aQ ?_
  refine At.join (fun ρ w => ∃ (b5 : Bool), Zm ρ [(4, (pt a1 0)), (6, (.pointer (some ⟨a2, (a3 + (List.length u) * V1.sz), none⟩)))] ∧ SP S w0 w [Q6 33 V1 A7 c8 (u ++ [o]), Dm u, Q6 102 (Qf (Q4 .u32) (Q4 .i64)) o.2.2.2.1.1 o.2.2.2.1.2.1 (stT o).2.2.2.1, Q6 37 (Qf Ql (Qf Ql (Q4 .i64))) o.2.2.2.2.1 o.2.2.2.2.2.1 (stT o).2.2.2.2, Qq g1 72 #[(.int .i64 q2), (.int .i64 q3), (.int .i64 q4), (.int .i64 q5), (.slice A7 (List.length (List.map stT (u ++ [o]))) c8), (.int .i64 a6), (.bool b5)], Qq a1 102 #[(.int .u32 a.1), (.int .i64 a.2.1)]] ∧ Zn q2 q3 q4 q5 a6 a (List.map stT u) (stT o) b5 = some r) ?_ ?_
  ·refine aR ?_
   refine iR 4 4 [(16, (pt g1 0)), (17, (pt g1 0)), (18, (pt g1 0)), (19, (pt g1 6))] ?_
   refine iS 5 ?_
   refine sL 4 19 g1 6 2 (.bool b4) 20 c7 rfl ?_
   refine iR 1 6 [(21, (.bool b4))] ?_
   refine In.guard (t := 21) (b := b4) K (fun e6 => ?_) (fun e6 => ?_)
   ·have H := ct H e6
    refine iR 13 19 [(22, undef), (23, undef), (24, (.bool true)), (25, (.bool true)), (26, undef), (27, undef), (28, undef), (29, undef), (30, undef), (31, undef), (32, (.bool true)), (33, (pt g1 0)), (34, (pt g1 6))] ?_
    refine iS 20 ?_
    refine Qi.store (t := 4) (x := (.tmp 34)) (y := (.tmp 32)) (g := g1) (off := 6) (i := 2) (v := (.bool true)) (cs' := #[(.int .i64 q2), (.int .i64 q3), (.int .i64 q4), (.int .i64 q5), (.slice A7 (List.length (List.map stT (u ++ [o]))) c8), (.int .i64 a6), (.bool true)]) (d := none) (k := 19) K rfl K K c7 rfl K ?_
    intro n7 j9
    refine iF ?_
    exact ⟨true, ⟨K, K, trivial⟩, SP.sel j9 [0, 3, 4, 5, 2, 1] rfl rfl, H⟩
   ·have H := cf H e6
    refine iR 4 10 [(22, (.bool a.2.2)), (23, (.bool (!a.2.2))), (24, (.bool (!a.2.2))), (25, (.bool (!a.2.2)))] ?_
    refine In.guard (t := 25) (b := (!a.2.2)) K (fun e7 => ?_) (fun e7 => ?_)
    ·have H := ct H e7
     refine iR 9 19 [(26, undef), (27, undef), (28, undef), (29, undef), (30, undef), (31, undef), (32, (.bool true)), (33, (pt g1 0)), (34, (pt g1 6))] ?_
     refine iS 20 ?_
     refine Qi.store (t := 4) (x := (.tmp 34)) (y := (.tmp 32)) (g := g1) (off := 6) (i := 2) (v := (.bool true)) (cs' := #[(.int .i64 q2), (.int .i64 q3), (.int .i64 q4), (.int .i64 q5), (.slice A7 (List.length (List.map stT (u ++ [o]))) c8), (.int .i64 a6), (.bool true)]) (d := none) (k := 19) K rfl K K c7 rfl K ?_
     intro n8 k1
     refine iF ?_
     exact ⟨true, ⟨K, K, trivial⟩, SP.sel k1 [0, 3, 4, 5, 2, 1] rfl rfl, H⟩
    ·have H := cf H e7
     refine iR 3 13 [(26, (.pointer (some ⟨a2, (a3 + (List.length u) * V1.sz), none⟩))), (27, (.pointer (some ⟨a2, (a3 + (List.length u) * V1.sz), none⟩))), (28, (.pointer (some ⟨a2, (a3 + (List.length u) * V1.sz + 4), none⟩)))] ?_
     refine iS 14 ?_
     refine sC 31 28 a2 (a3 + (List.length u) * V1.sz + 4) (.slice o.2.2.2.2.1 (List.length (stT o).2.2.2.2) o.2.2.2.2.2.1) 29 (Gw (SP.get c7 (i := 0) rfl) d8 (f := 4) rfl) ?_
     refine iR 5 19 [(30, (.int .i64 ((List.length (stT o).2.2.2.2 : Nat) : Int))), (31, (.bool (decide (((List.length (stT o).2.2.2.2 : Nat) : Int) > 0)))), (32, (.bool (decide (((List.length (stT o).2.2.2.2 : Nat) : Int) > 0)))), (33, (pt g1 0)), (34, (pt g1 6))] ?_
     refine iS 20 ?_
     refine Qi.store (t := 4) (x := (.tmp 34)) (y := (.tmp 32)) (g := g1) (off := 6) (i := 2) (v := (.bool (decide (((List.length (stT o).2.2.2.2 : Nat) : Int) > 0)))) (cs' := #[(.int .i64 q2), (.int .i64 q3), (.int .i64 q4), (.int .i64 q5), (.slice A7 (List.length (List.map stT (u ++ [o]))) c8), (.int .i64 a6), (.bool (decide (((List.length (stT o).2.2.2.2 : Nat) : Int) > 0)))]) (d := none) (k := 19) K rfl K K c7 rfl K ?_
     intro n9 k2
     refine iF ?_
     exact ⟨(decide (((List.length (stT o).2.2.2.2 : Nat) : Int) > 0)), ⟨K, K, trivial⟩, SP.sel k2 [0, 3, 4, 5, 2, 1] rfl rfl, H⟩
  ·rintro ρ o0 ⟨b5, hk, k3, H⟩
   unfold Zn at H
   first | refine At.known [(4, (pt a1 0)), (6, (.pointer (some ⟨a2, (a3 + (List.length u) * V1.sz), none⟩)))] hk ?_ | rw [← Q3 (l := [(4, (pt a1 0)), (6, (.pointer (some ⟨a2, (a3 + (List.length u) * V1.sz), none⟩)))]) hk]
   obtain ⟨hl433, H⟩ := Yf H
   obtain ⟨a7, hyl434⟩ : ∃ y, (stT o).2.2.2.1 ++ ([(a.1, a.2.1)] : List (Int × Int)) = y := ⟨_, rfl⟩
   try rw [hyl434] at H
   refine aG [GEq (.pointer (some ⟨a2, (a3 + (List.length u) * V1.sz), none⟩)), GEq (.pointer (some ⟨a2, (a3 + (List.length u) * V1.sz), none⟩)), GEq (.pointer (some ⟨a2, (a3 + (List.length u) * V1.sz), none⟩)), GEq (.pointer (some ⟨a2, (a3 + (List.length u) * V1.sz + 3), none⟩)), GEq (.slice o.2.2.2.1.1 (List.length (stT o).2.2.2.1) o.2.2.2.1.2.1), GEq (.agg #[(.int .u32 a.1), (.int .i64 a.2.1)]), Rp, Rp, GEq (.pointer (some ⟨a2, (a3 + (List.length u) * V1.sz), none⟩)), GEq (.pointer (some ⟨a2, (a3 + (List.length u) * V1.sz + 3), none⟩)), Rp] [6, 7, 10] [([], fun vs w => VL vs [] ∧ SP S w0 w [Q6 33 V1 A7 c8 (u ++ [o]), Dm u, Q6 102 (Qf (Q4 .u32) (Q4 .i64)) o.2.2.2.1.1 o.2.2.2.1.2.1 (stT o).2.2.2.1, Q6 37 (Qf Ql (Qf Ql (Q4 .i64))) o.2.2.2.2.1 o.2.2.2.2.2.1 (stT o).2.2.2.2, Qq g1 72 #[(.int .i64 q2), (.int .i64 q3), (.int .i64 q4), (.int .i64 q5), (.slice A7 (List.length (List.map stT (u ++ [o]))) c8), (.int .i64 a6), (.bool b5)], Qq a1 102 #[(.int .u32 a.1), (.int .i64 a.2.1)]]), ([6], fun vs w => ∃ (c1 : Nat), VL vs [(.slice (some ⟨c1, 0, none⟩) (List.length ([(a.1, a.2.1)] : List (Int × Int))) (List.length ([(a.1, a.2.1)] : List (Int × Int))))] ∧ SP S w0 w [Q6 33 V1 A7 c8 (u ++ [o]), Dm u, Q6 102 (Qf (Q4 .u32) (Q4 .i64)) o.2.2.2.1.1 o.2.2.2.1.2.1 (stT o).2.2.2.1, Q6 37 (Qf Ql (Qf Ql (Q4 .i64))) o.2.2.2.2.1 o.2.2.2.2.2.1 (stT o).2.2.2.2, Qq g1 72 #[(.int .i64 q2), (.int .i64 q3), (.int .i64 q4), (.int .i64 q5), (.slice A7 (List.length (List.map stT (u ++ [o]))) c8), (.int .i64 a6), (.bool b5)], Qq a1 102 #[(.int .u32 a.1), (.int .i64 a.2.1)], Q6 102 (Qf (Q4 .u32) (Q4 .i64)) (some ⟨c1, 0, none⟩) (List.length ([(a.1, a.2.1)] : List (Int × Int))) ([(a.1, a.2.1)] : List (Int × Int))]), ([6, 7], fun vs w => ∃ (e0 : Nat), ∃ (c2 : Option Addr), ∃ (c3 : Nat), VL vs [(.slice (some ⟨e0, 0, none⟩) (List.length ([(a.1, a.2.1)] : List (Int × Int))) (List.length ([(a.1, a.2.1)] : List (Int × Int)))), (.slice c2 (List.length a7) c3)] ∧ SP S w0 w [Q6 33 V1 A7 c8 (u ++ [o]), Dm u, Q6 102 (Qf (Q4 .u32) (Q4 .i64)) c2 c3 a7, Q6 37 (Qf Ql (Qf Ql (Q4 .i64))) o.2.2.2.2.1 o.2.2.2.2.2.1 (stT o).2.2.2.2, Qq g1 72 #[(.int .i64 q2), (.int .i64 q3), (.int .i64 q4), (.int .i64 q5), (.slice A7 (List.length (List.map stT (u ++ [o]))) c8), (.int .i64 a6), (.bool b5)], Qq a1 102 #[(.int .u32 a.1), (.int .i64 a.2.1)], Q6 102 (Qf (Q4 .u32) (Q4 .i64)) (some ⟨e0, 0, none⟩) (List.length ([(a.1, a.2.1)] : List (Int × Int))) ([(a.1, a.2.1)] : List (Int × Int))]), ([6, 7, 10], fun vs w => ∃ (c9 : Nat), ∃ (b2 : Option Addr), ∃ (b3 : Nat), VL vs [(.slice (some ⟨c9, 0, none⟩) (List.length ([(a.1, a.2.1)] : List (Int × Int))) (List.length ([(a.1, a.2.1)] : List (Int × Int)))), (.slice b2 (List.length a7) b3), undef] ∧ SP S w0 w [Q6 33 V1 A7 c8 (u ++ [((o.1, o.2.1, o.2.2.1, (b2, b3, a7), o.2.2.2.2) : Qh)]), Dm u, Q6 102 (Qf (Q4 .u32) (Q4 .i64)) b2 b3 a7, Q6 37 (Qf Ql (Qf Ql (Q4 .i64))) o.2.2.2.2.1 o.2.2.2.2.2.1 (stT o).2.2.2.2, Qq g1 72 #[(.int .i64 q2), (.int .i64 q3), (.int .i64 q4), (.int .i64 q5), (.slice A7 (List.length (List.map stT (u ++ [o]))) c8), (.int .i64 a6), (.bool b5)], Qq a1 102 #[(.int .u32 a.1), (.int .i64 a.2.1)], Q6 102 (Qf (Q4 .u32) (Q4 .i64)) (some ⟨c9, 0, none⟩) (List.length ([(a.1, a.2.1)] : List (Int × Int))) ([(a.1, a.2.1)] : List (Int × Int))])] 11 3 ⟨trivial, SP.drew k3⟩ ?_ ?_
   iterate 11 refine And.intro ?_ ?_
   exact trivial
   ·exact oV (hC (hS 6 (.pointer (some ⟨a2, (a3 + (List.length u) * V1.sz), none⟩))) (h0)) (.pointer (some ⟨a2, (a3 + (List.length u) * V1.sz), none⟩))
   ·exact oV (hC (hS 6 (.pointer (some ⟨a2, (a3 + (List.length u) * V1.sz), none⟩))) (h0)) (.pointer (some ⟨a2, (a3 + (List.length u) * V1.sz), none⟩))
   ·exact oV (hC (hA 1 36) (h0)) (.pointer (some ⟨a2, (a3 + (List.length u) * V1.sz), none⟩))
   ·exact oV (hC (hA 2 37) (h0)) (.pointer (some ⟨a2, (a3 + (List.length u) * V1.sz + 3), none⟩))
   ·refine Owe.light K [0, 1] K (Qc ?_ (Qc ?_ Q8))
    ·rintro ρ' w' hs a5 ⟨o1, k4⟩
     refine kM (kc (kA a5 3 38) k0) fun a4 => ?_
     refine sC 30 38 a2 (a3 + (List.length u) * V1.sz + 3) (.slice o.2.2.2.1.1 (List.length (stT o).2.2.2.1) o.2.2.2.1.2.1) 39 (Gw (SP.get k4 (i := 0) rfl) d8 (f := 3) rfl) ?_
     exact eK a4
    ·rintro ρ' w' hs a5 ⟨c1, ⟨o2, -⟩, k5⟩
     refine kM (kc (kA a5 3 38) k0) fun a4 => ?_
     refine sC 30 38 a2 (a3 + (List.length u) * V1.sz + 3) (.slice o.2.2.2.1.1 (List.length (stT o).2.2.2.1) o.2.2.2.1.2.1) 39 (Gw (SP.get k5 (i := 0) rfl) d8 (f := 3) rfl) ?_
     exact eK a4
   ·refine oL 0 ?_
    ·rintro ρ' w' hs a5 ⟨o3, k6⟩
     refine kM (kc (kS hs 4 (pt a1 0)) k0) fun a4 => ?_
     refine sL 102 4 a1 0 5 (.agg #[(.int .u32 a.1), (.int .i64 a.2.1)]) 40 k6 rfl ?_
     exact eK a4
   ·refine oH 0 1 ?_
    ·rintro ρ' w' hs a5 ⟨o4, k7⟩
     refine kM (kc (kA a5 5 40) k0) fun a4 => ?_
     refine Vt (e := (Qf (Q4 .u32) (Q4 .i64))) (T := 30) (E := 102) (len := 1) (parts := #[(0, (.tmp 40))]) (cs := #[(.int .u32 a.1), (.int .i64 a.2.1)]) ([(a.1, a.2.1)] : List (Int × Int)) (d := (some 41)) (k := 6) K rfl (fun _ => K) k7 rfl rfl rfl rfl ?_
     intro k8 o5 k9
     refine ⟨_, Qa a4, trivial, ?_⟩
     exact (Exists.intro k8 (And.intro (And.intro rfl (trivial)) k9))
   ·refine oH 1 2 ?_
    ·rintro ρ' w' hs a5 ⟨c1, ⟨g4, -⟩, g5⟩
     refine kN [(39, (.slice o.2.2.2.1.1 (List.length (stT o).2.2.2.1) o.2.2.2.1.2.1)), (41, (.slice (some ⟨c1, 0, none⟩) (List.length ([(a.1, a.2.1)] : List (Int × Int))) (List.length ([(a.1, a.2.1)] : List (Int × Int)))))] ⟨a5 4 39 K, (Vo (h := 6) K).symm.trans g4, trivial⟩ fun a4 => ?_
     refine Qi.append (e := (Qf (Q4 .u32) (Q4 .i64))) (l := (stT o).2.2.2.1) (m := ([(a.1, a.2.1)] : List (Int × Int))) (A := o.2.2.2.1.1) (c := o.2.2.2.1.2.1) (T := 30) (TX := 30) (E := 102) (b := 16) (s := (.tmp 39)) (x := (.tmp 41)) (i := 2) (vx := (.slice (some ⟨c1, 0, none⟩) (List.length ([(a.1, a.2.1)] : List (Int × Int))) (List.length ([(a.1, a.2.1)] : List (Int × Int))))) (d := (some 42)) (k := 7) K rfl K K K K rfl g5 rfl (Dw (E := 102) K (Vg (SP.get g5 (i := 6) rfl))) hl433 ?_
     rw [hyl434]
     intro l0 l1 o6 l2
     refine ⟨_, Qa a4, trivial, ?_⟩
     exact (Exists.intro c1 (Exists.intro l0 (Exists.intro l1 (And.intro (And.intro g4 (And.intro rfl (trivial))) l2))))
   ·exact oV (hC (hA 0 35) (h0)) (.pointer (some ⟨a2, (a3 + (List.length u) * V1.sz), none⟩))
   ·exact oV (hC (hA 8 43) (h0)) (.pointer (some ⟨a2, (a3 + (List.length u) * V1.sz + 3), none⟩))
   ·refine oH 2 3 ?_
    ·rintro ρ' w' hs a5 ⟨e0, c2, c3, ⟨l3, g6, -⟩, l4⟩
     refine kN [(44, (.pointer (some ⟨a2, (a3 + (List.length u) * V1.sz + 3), none⟩))), (42, (.slice c2 (List.length a7) c3))] ⟨a5 9 44 K, (Vo (h := 7) K).symm.trans g6, trivial⟩ fun a4 => ?_
     refine Dt (t := 30) (x := (.tmp 44)) (z := (.tmp 42)) (A := A7) (c := c8) (d0 := u) (y := o) (y' := ((o.1, o.2.1, o.2.2.1, (c2, c3, a7), o.2.2.2.2) : Qh)) (b := a2) (off := a3) (f := 3) (i := 0) (v := (.slice c2 (List.length a7) c3)) (dst := none) (k := 10) K rfl d8 K K l4 rfl K rfl K ?_
     intro o7 l5
     refine ⟨_, Qa a4, trivial, ?_⟩
     exact (Exists.intro e0 (Exists.intro c2 (Exists.intro c3 (And.intro (And.intro l3 (And.intro g6 (And.intro rfl (trivial)))) l5))))
   ·rintro ρ' w' hs hf ⟨c9, b2, b3, ⟨o8, o9, p0, -⟩, g7⟩
    refine V2 [] trivial ?_
    obtain ⟨g8, l6⟩ : ∃ x, w' = x := ⟨_, rfl⟩
    rw [l6] at g7 ⊢
    have l7 : SP S w0 g8 [Yx A7 c8 (u ++ [((o.1, o.2.1, o.2.2.1, (b2, b3, a7), o.2.2.2.2) : Qh)]), Qq g1 72 #[(.int .i64 q2), (.int .i64 q3), (.int .i64 q4), (.int .i64 q5), (.slice A7 (List.length (List.map stT (u ++ [o]))) c8), (.int .i64 a6), (.bool b5)], Qq a1 102 #[(.int .u32 a.1), (.int .i64 a.2.1)], Q6 102 (Qf (Q4 .u32) (Q4 .i64)) (some ⟨c9, 0, none⟩) (List.length ([(a.1, a.2.1)] : List (Int × Int))) ([(a.1, a.2.1)] : List (Int × Int))] := Cb g7 (A := A7) (c := c8) (d0 := u) (y := ((o.1, o.2.1, o.2.2.1, (b2, b3, a7), o.2.2.2.2) : Qh)) (i := 0) (q := 1) (j := 2) (m := 3) rfl rfl rfl rfl (by decide) (by decide) (by decide) rfl
    have l8 : SP S w0 g8 [Yx A7 c8 (u ++ [((o.1, o.2.1, o.2.2.1, (b2, b3, a7), o.2.2.2.2) : Qh)]), Qq g1 72 #[(.int .i64 q2), (.int .i64 q3), (.int .i64 q4), (.int .i64 q5), (.slice A7 (List.length (List.map stT (u ++ [((o.1, o.2.1, o.2.2.1, (b2, b3, a7), o.2.2.2.2) : Qh)]))) c8), (.int .i64 a6), (.bool b5)], Qq a1 102 #[(.int .u32 a.1), (.int .i64 a.2.1)], Q6 102 (Qf (Q4 .u32) (Q4 .i64)) (some ⟨c9, 0, none⟩) (List.length ([(a.1, a.2.1)] : List (Int × Int))) ([(a.1, a.2.1)] : List (Int × Int))] := by have h := l7; rw [Kq (d0 := u) (y := o) ((o.1, o.2.1, o.2.2.1, (b2, b3, a7), o.2.2.2.2) : Qh)] at h; exact h
    refine ⟨(.tuple #[]), K, ?_⟩
    obtain rfl := Qg H
    exact ⟨A7, c8, (u ++ [((o.1, o.2.1, o.2.2.1, (b2, b3, a7), o.2.2.2.2) : Qh)]), rfl, (F8 (d0 := u) (y := ((o.1, o.2.1, o.2.2.1, (b2, b3, a7), o.2.2.2.2) : Qh))), SP.sel l8 [1,0] rfl rfl⟩
def Zb (q2 : Int) (q3 : Int) (q4 : Int) (q5 : Int) (q6 : (List Qb)) (f : Int) (e : (List (List UInt8))) (h : ((List UInt8) × Bool)) (g : Bool) : Option (Int × Int × Int × Int × (List Qb) × Int × Bool) :=
  (cond (List.isEmpty q6) ((Xo q2 q3 q4 q5 q6 f g).bind fun a => ((idx e 1).bind fun i => ((idx e 3).bind fun j => ((Vj a.2.2.2.2.2.1 a.2.2.2.2.2.2.1 a.2.2.2.2.2.2.2.1 a.2.2.2.2.2.2.2.2.1 a.2.2.2.2.2.2.2.2.2.1 a.2.2.2.2.2.2.2.2.2.2 j).bind fun b => ((app a.2.2.2.2.1 ([(i, h.1, b.1)] : List ((List UInt8) × (List UInt8) × Int))).bind fun o => (some (b.2.1, b.2.2.1, b.2.2.2.1, b.2.2.2.2.1, q6, b.2.2.2.2.2.1, b.2.2.2.2.2.2))))))) ((Zz q2 q3 q4 q5 q6 f g).bind fun p => (Ln q6 (fun k d q => ((idx e 1).bind fun l => ((idx e 3).bind fun m => ((Vj q2 q3 q4 q5 f g m).bind fun c => ((app d.2.2.2.2 ([(l, h.1, c.1)] : List ((List UInt8) × (List UInt8) × Int))).bind fun n => (some (c.2.1, c.2.2.1, c.2.2.2.1, c.2.2.2.2.1, (k ++ [(d.1, d.2.1, d.2.2.1, d.2.2.2.1, n)]), c.2.2.2.2.2.1, c.2.2.2.2.2.2))))))))))
def Yo (q2 : Int) (q3 : Int) (q4 : Int) (q5 : Int) (q6 : (List Qb)) (c : Int) (d : Bool) (a : (List (List UInt8))) : Option (Int × Int × Int × Int × (List Qb) × Int × Bool) :=
  ((idx a 2).bind fun e => ((J9 e).bind fun b => (cond d (Zb q2 q3 q4 q5 q6 c a b true) (Zb q2 q3 q4 q5 q6 c a b (!b.2)))))
set_option maxHeartbeats 40000000 in
theorem Gb {S : List Nat} (g1 : Nat) (A7 : Option Addr) (c8 : Nat) (a6 : Option Addr) (b0 : Nat) (q2 : Int) (q3 : Int) (q4 : Int) (q5 : Int) (d9 : (List Qh)) (c0 : Int) (d5 : Bool) (a8 : (List (List UInt8))) (w0 : World) (hL : ∀ w, Mod S w0 w → U9 w) (hO : SP S w0 w0 [Qq g1 72 #[(.int .i64 q2), (.int .i64 q3), (.int .i64 q4), (.int .i64 q5), (.slice A7 (List.length (List.map stT d9)) c8), (.int .i64 c0), (.bool d5)], Yx A7 c8 d9]) (b9 : ∀ w, Mod S w0 w → RdT Ql w a6 b0 a8) (r : (Int × Int × Int × Int × (List Qb) × Int × Bool)) (H : Yo q2 q3 q4 q5 (List.map stT d9) c0 d5 a8 = some r) :
  Calls Tryz.prog 145 #[(pt g1 0), (.slice a6 (List.length a8) b0)] w0 (fun e w' => ∃ (f9 : Option Addr) (g0 : Nat) (e8 : List Qh), e = .returned (.tuple #[]) ∧ r.2.2.2.2.1 = List.map stT e8 ∧ SP S w0 w' [Qq g1 72 #[(.int .i64 r.1), (.int .i64 r.2.1), (.int .i64 r.2.2.1), (.int .i64 r.2.2.2.1), (.slice f9 (List.length (List.map stT e8)) g0), (.int .i64 r.2.2.2.2.2.1), (.bool r.2.2.2.2.2.2)], Yx f9 g0 e8]) := by
 unfold Yo at H
 refine Qv (n := 47) Tryz.func145 K K K ?_
 have e9 := hO
 refine aQ ?_
 refine aR ?_
 refine iR 1 1 [(8, (.slice a6 (List.length a8) b0))] ?_
 obtain ⟨g2, g3, g4, i8, H⟩ := Ve H
 refine iS 2 ?_
 refine Qn (e := Ql) (l := a8) (A := a6) (c := b0) (T := 79) (E := 9) (x := (.tmp 8)) (ix := (.const (.int .i64 (2)))) (ki := .i64) (iz := 2) (d := (some 9)) (k := 1) K rfl K K K K (b9 w0 (SP.mod e9)) g3 g4 ?_
 intro i9 j0 j1 u1 hc424
 refine iS 3 ?_
 refine sC 9 9 i9 (j0 + Int.toNat 2 * Ql.sz) (.string ⟨List.toArray g2⟩) 10 (Qw (e := Ql) (Qj (b9 w0 (SP.mod e9)) j1 g3 g4) i8 (j := 0) rfl) ?_
 obtain ⟨o, j2, H⟩ := Qd H
 refine iS 4 ?_
 refine cF 161 #[(.tmp 10)] #[9] 11 Tryz.call161 (D4  g2 w0  o j2) ?_
 rintro e u2 ⟨a4, a5, rfl, g5⟩
 refine ⟨_, rfl, ?_⟩
 have f0 := SP.call e9 g5
 clear g5
 refine iR 5 9 [(7, (.tuple #[(.slice a4 (List.length o.1) a5), (.bool o.2)])), (12, (.slice a4 (List.length o.1) a5)), (13, (.bool o.2)), (4, (.slice a4 (List.length o.1) a5)), (5, (.bool o.2))] ?_
 refine iF ?_
 refine aQ ?_
 refine At.join (fun ρ w => ∃ (c3 : Bool), Zm ρ [(0, (pt g1 0)), (1, (.slice a6 (List.length a8) b0)), (4, (.slice a4 (List.length o.1) a5))] ∧ SP S w0 w [Yx A7 c8 d9, Qq g1 72 #[(.int .i64 q2), (.int .i64 q3), (.int .i64 q4), (.int .i64 q5), (.slice A7 (List.length (List.map stT d9)) c8), (.int .i64 c0), (.bool c3)], Q6 5 eU8 a4 a5 o.1] ∧ Zb q2 q3 q4 q5 (List.map stT d9) c0 a8 o c3 = some r) ?_ ?_
 ·refine aR ?_
  refine iR 4 4 [(14, (pt g1 0)), (15, (pt g1 0)), (16, (pt g1 0)), (17, (pt g1 6))] ?_
  refine iS 5 ?_
  refine sL 4 17 g1 6 0 (.bool d5) 18 f0 rfl ?_
  refine iR 1 6 [(19, (.bool d5))] ?_
  refine In.guard (t := 19) (b := d5) K (fun f1 => ?_) (fun f1 => ?_)
  ·have H := ct H f1
   refine iR 5 11 [(20, undef), (21, undef), (22, (.bool true)), (23, (pt g1 0)), (24, (pt g1 6))] ?_
   refine iS 12 ?_
   refine Qi.store (t := 4) (x := (.tmp 24)) (y := (.tmp 22)) (g := g1) (off := 6) (i := 0) (v := (.bool true)) (cs' := #[(.int .i64 q2), (.int .i64 q3), (.int .i64 q4), (.int .i64 q5), (.slice A7 (List.length (List.map stT d9)) c8), (.int .i64 c0), (.bool true)]) (d := none) (k := 11) K rfl K K f0 rfl K ?_
   intro u3 j3
   refine iF ?_
   exact ⟨true, ⟨K, K, K, trivial⟩, SP.sel j3 [1, 0, 2] rfl rfl, H⟩
  ·have H := cf H f1
   refine iR 5 11 [(20, (.bool o.2)), (21, (.bool (!o.2))), (22, (.bool (!o.2))), (23, (pt g1 0)), (24, (pt g1 6))] ?_
   refine iS 12 ?_
   refine Qi.store (t := 4) (x := (.tmp 24)) (y := (.tmp 22)) (g := g1) (off := 6) (i := 0) (v := (.bool (!o.2))) (cs' := #[(.int .i64 q2), (.int .i64 q3), (.int .i64 q4), (.int .i64 q5), (.slice A7 (List.length (List.map stT d9)) c8), (.int .i64 c0), (.bool (!o.2))]) (d := none) (k := 11) K rfl K K f0 rfl K ?_
   intro u4 j4
   refine iF ?_
   exact ⟨(!o.2), ⟨K, K, K, trivial⟩, SP.sel j4 [1, 0, 2] rfl rfl, H⟩
 ·rintro ρ g6 ⟨c3, hk, d4, H⟩
  unfold Zb at H
  first | refine At.known [(0, (pt g1 0)), (1, (.slice a6 (List.length a8) b0)), (4, (.slice a4 (List.length o.1) a5))] hk ?_ | rw [← Q3 (l := [(0, (pt g1 0)), (1, (.slice a6 (List.length a8) b0)), (4, (.slice a4 (List.length o.1) a5))]) hk]
  refine aQ ?_
  refine aR ?_
  refine iR 1 1 [(25, (pt g1 0))] ?_
  rcases Bool.eq_false_or_eq_true (List.isEmpty (List.map stT d9)) with d7 | d7
  ·have H := ct H d7
   obtain ⟨p, j5, H⟩ := Qd H
   refine iS 2 ?_
   refine cF 166 #[(.tmp 25)] #[70] 26 Tryz.call166 (Jy g1 A7 c8 q2 q3 q4 q5 d9 c0 c3 g6 (Jw d4 [1] rfl rfl) (fun w hm => Rg (SP.still d4 (l := [1]) (i := 0) rfl rfl rfl hm)) p j5) ?_
   rintro e j6 ⟨a9, b6, b7, b4, b5, rfl, g7⟩
   refine ⟨_, rfl, ?_⟩
   have j7 : SP S w0 j6 [Yx A7 c8 d9, Q6 5 eU8 a4 a5 o.1, Qq a9 33 #[(.string ⟨List.toArray p.1⟩), (.int .i64 p.2.1), (.int .i64 p.2.2.1), (.slice b6 (List.length p.2.2.2.1) b7), (.slice b4 (List.length p.2.2.2.2.1) b5)], Q6 102 (Qf (Q4 .u32) (Q4 .i64)) b6 b7 p.2.2.2.1, Q6 37 (Qf Ql (Qf Ql (Q4 .i64))) b4 b5 p.2.2.2.2.1, Qq g1 72 #[(.int .i64 p.2.2.2.2.2.1), (.int .i64 p.2.2.2.2.2.2.1), (.int .i64 p.2.2.2.2.2.2.2.1), (.int .i64 p.2.2.2.2.2.2.2.2.1), (.slice A7 (List.length (List.map stT d9)) c8), (.int .i64 p.2.2.2.2.2.2.2.2.2.1), (.bool p.2.2.2.2.2.2.2.2.2.2)]] := Z2 d4 [1] [0, 2] rfl rfl g7 rfl
   clear g7
   refine iR 1 3 [(6, (pt a9 0))] ?_
   refine iF ?_
   obtain ⟨b1, d8, e0, g8, H⟩ := Ve H
   obtain ⟨f2, g9, h1, j8, H⟩ := Ve H
   obtain ⟨a2, j9, H⟩ := Qd H
   obtain ⟨hl485, H⟩ := Yf H
   obtain ⟨c4, hyl486⟩ : ∃ y, p.2.2.2.2.1 ++ ([(b1, o.1, a2.1)] : List ((List UInt8) × (List UInt8) × Int)) = y := ⟨_, rfl⟩
   try rw [hyl486] at H
   refine aG [GEq (pt a9 0), GEq (pt a9 0), GEq (pt a9 0), GEq (pt a9 4), GEq (.slice b4 (List.length p.2.2.2.2.1) b5), GEq (.slice a6 (List.length a8) b0), Yb a6 Ql.sz 1, GEq (.string ⟨List.toArray b1⟩), GEq (.slice a4 (List.length o.1) a5), GEq (.string ⟨List.toArray o.1⟩), GEq (pt g1 0), GEq (.slice a6 (List.length a8) b0), Yb a6 Ql.sz 3, GEq (.string ⟨List.toArray f2⟩), GEq (.int .i64 a2.1), GEq (.agg #[(.string ⟨List.toArray b1⟩), (.string ⟨List.toArray o.1⟩), (.int .i64 a2.1)]), Rp, Rp, GEq (pt a9 0), GEq (pt a9 4), Rp] [14, 16, 17, 20] [([], fun vs w => VL vs [] ∧ SP S w0 w [Yx A7 c8 d9, Q6 5 eU8 a4 a5 o.1, Qq a9 33 #[(.string ⟨List.toArray p.1⟩), (.int .i64 p.2.1), (.int .i64 p.2.2.1), (.slice b6 (List.length p.2.2.2.1) b7), (.slice b4 (List.length p.2.2.2.2.1) b5)], Q6 102 (Qf (Q4 .u32) (Q4 .i64)) b6 b7 p.2.2.2.1, Q6 37 (Qf Ql (Qf Ql (Q4 .i64))) b4 b5 p.2.2.2.2.1, Qq g1 72 #[(.int .i64 p.2.2.2.2.2.1), (.int .i64 p.2.2.2.2.2.2.1), (.int .i64 p.2.2.2.2.2.2.2.1), (.int .i64 p.2.2.2.2.2.2.2.2.1), (.slice A7 (List.length (List.map stT d9)) c8), (.int .i64 p.2.2.2.2.2.2.2.2.2.1), (.bool p.2.2.2.2.2.2.2.2.2.2)]]), ([14], fun vs w => VL vs [(.int .i64 a2.1)] ∧ SP S w0 w [Yx A7 c8 d9, Q6 5 eU8 a4 a5 o.1, Qq a9 33 #[(.string ⟨List.toArray p.1⟩), (.int .i64 p.2.1), (.int .i64 p.2.2.1), (.slice b6 (List.length p.2.2.2.1) b7), (.slice b4 (List.length p.2.2.2.2.1) b5)], Q6 102 (Qf (Q4 .u32) (Q4 .i64)) b6 b7 p.2.2.2.1, Q6 37 (Qf Ql (Qf Ql (Q4 .i64))) b4 b5 p.2.2.2.2.1, Qq g1 72 #[(.int .i64 a2.2.1), (.int .i64 a2.2.2.1), (.int .i64 a2.2.2.2.1), (.int .i64 a2.2.2.2.2.1), (.slice A7 (List.length (List.map stT d9)) c8), (.int .i64 a2.2.2.2.2.2.1), (.bool a2.2.2.2.2.2.2)]]), ([14, 16], fun vs w => ∃ (c5 : Nat), VL vs [(.int .i64 a2.1), (.slice (some ⟨c5, 0, none⟩) (List.length ([(b1, o.1, a2.1)] : List ((List UInt8) × (List UInt8) × Int))) (List.length ([(b1, o.1, a2.1)] : List ((List UInt8) × (List UInt8) × Int))))] ∧ SP S w0 w [Yx A7 c8 d9, Q6 5 eU8 a4 a5 o.1, Qq a9 33 #[(.string ⟨List.toArray p.1⟩), (.int .i64 p.2.1), (.int .i64 p.2.2.1), (.slice b6 (List.length p.2.2.2.1) b7), (.slice b4 (List.length p.2.2.2.2.1) b5)], Q6 102 (Qf (Q4 .u32) (Q4 .i64)) b6 b7 p.2.2.2.1, Q6 37 (Qf Ql (Qf Ql (Q4 .i64))) b4 b5 p.2.2.2.2.1, Qq g1 72 #[(.int .i64 a2.2.1), (.int .i64 a2.2.2.1), (.int .i64 a2.2.2.2.1), (.int .i64 a2.2.2.2.2.1), (.slice A7 (List.length (List.map stT d9)) c8), (.int .i64 a2.2.2.2.2.2.1), (.bool a2.2.2.2.2.2.2)], Q6 37 (Qf Ql (Qf Ql (Q4 .i64))) (some ⟨c5, 0, none⟩) (List.length ([(b1, o.1, a2.1)] : List ((List UInt8) × (List UInt8) × Int))) ([(b1, o.1, a2.1)] : List ((List UInt8) × (List UInt8) × Int))]), ([14, 16, 17], fun vs w => ∃ (e1 : Nat), ∃ (c6 : Option Addr), ∃ (c7 : Nat), VL vs [(.int .i64 a2.1), (.slice (some ⟨e1, 0, none⟩) (List.length ([(b1, o.1, a2.1)] : List ((List UInt8) × (List UInt8) × Int))) (List.length ([(b1, o.1, a2.1)] : List ((List UInt8) × (List UInt8) × Int)))), (.slice c6 (List.length c4) c7)] ∧ SP S w0 w [Yx A7 c8 d9, Q6 5 eU8 a4 a5 o.1, Qq a9 33 #[(.string ⟨List.toArray p.1⟩), (.int .i64 p.2.1), (.int .i64 p.2.2.1), (.slice b6 (List.length p.2.2.2.1) b7), (.slice b4 (List.length p.2.2.2.2.1) b5)], Q6 102 (Qf (Q4 .u32) (Q4 .i64)) b6 b7 p.2.2.2.1, Q6 37 (Qf Ql (Qf Ql (Q4 .i64))) c6 c7 c4, Qq g1 72 #[(.int .i64 a2.2.1), (.int .i64 a2.2.2.1), (.int .i64 a2.2.2.2.1), (.int .i64 a2.2.2.2.2.1), (.slice A7 (List.length (List.map stT d9)) c8), (.int .i64 a2.2.2.2.2.2.1), (.bool a2.2.2.2.2.2.2)], Q6 37 (Qf Ql (Qf Ql (Q4 .i64))) (some ⟨e1, 0, none⟩) (List.length ([(b1, o.1, a2.1)] : List ((List UInt8) × (List UInt8) × Int))) ([(b1, o.1, a2.1)] : List ((List UInt8) × (List UInt8) × Int))]), ([14, 16, 17, 20], fun vs w => ∃ (f3 : Nat), ∃ (e2 : Option Addr), ∃ (e3 : Nat), VL vs [(.int .i64 a2.1), (.slice (some ⟨f3, 0, none⟩) (List.length ([(b1, o.1, a2.1)] : List ((List UInt8) × (List UInt8) × Int))) (List.length ([(b1, o.1, a2.1)] : List ((List UInt8) × (List UInt8) × Int)))), (.slice e2 (List.length c4) e3), undef] ∧ SP S w0 w [Yx A7 c8 d9, Q6 5 eU8 a4 a5 o.1, Qq a9 33 #[(.string ⟨List.toArray p.1⟩), (.int .i64 p.2.1), (.int .i64 p.2.2.1), (.slice b6 (List.length p.2.2.2.1) b7), (.slice e2 (List.length c4) e3)], Q6 102 (Qf (Q4 .u32) (Q4 .i64)) b6 b7 p.2.2.2.1, Q6 37 (Qf Ql (Qf Ql (Q4 .i64))) e2 e3 c4, Qq g1 72 #[(.int .i64 a2.2.1), (.int .i64 a2.2.2.1), (.int .i64 a2.2.2.2.1), (.int .i64 a2.2.2.2.2.1), (.slice A7 (List.length (List.map stT d9)) c8), (.int .i64 a2.2.2.2.2.2.1), (.bool a2.2.2.2.2.2.2)], Q6 37 (Qf Ql (Qf Ql (Q4 .i64))) (some ⟨f3, 0, none⟩) (List.length ([(b1, o.1, a2.1)] : List ((List UInt8) × (List UInt8) × Int))) ([(b1, o.1, a2.1)] : List ((List UInt8) × (List UInt8) × Int))])] 21 4 ⟨trivial, SP.drew j7⟩ ?_ ?_
   iterate 21 refine And.intro ?_ ?_
   exact trivial
   ·exact oV (hC (hS 6 (pt a9 0)) (h0)) (pt a9 0)
   ·exact oV (hC (hS 6 (pt a9 0)) (h0)) (pt a9 0)
   ·exact oV (hC (hA 1 28) (h0)) (pt a9 0)
   ·exact oV (hC (hA 2 29) (h0)) (pt a9 4)
   ·refine Owe.light K [0, 1, 2] K (Qc ?_ (Qc ?_ (Qc ?_ Q8)))
    ·rintro ρ' w' hs a0 ⟨u5, k1⟩
     refine kM (kc (kA a0 3 30) k0) fun a1 => ?_
     refine sL 31 30 a9 4 2 (.slice b4 (List.length p.2.2.2.2.1) b5) 31 k1 rfl ?_
     exact eK a1
    ·rintro ρ' w' hs a0 ⟨⟨u6, -⟩, k2⟩
     refine kM (kc (kA a0 3 30) k0) fun a1 => ?_
     refine sL 31 30 a9 4 2 (.slice b4 (List.length p.2.2.2.2.1) b5) 31 k2 rfl ?_
     exact eK a1
    ·rintro ρ' w' hs a0 ⟨c5, ⟨u7, u8, -⟩, k3⟩
     refine kM (kc (kA a0 3 30) k0) fun a1 => ?_
     refine sL 31 30 a9 4 2 (.slice b4 (List.length p.2.2.2.2.1) b5) 31 k3 rfl ?_
     exact eK a1
   ·exact oV (hC (hS 1 (.slice a6 (List.length a8) b0)) (h0)) (.slice a6 (List.length a8) b0)
   ·refine Owe.light K [0, 1] K (Qc ?_ (Qc ?_ Q8))
    ·rintro ρ' w' hs a0 ⟨u9, k4⟩
     refine kM (kc (kA a0 5 32) k0) fun a1 => ?_
     refine Qn (e := Ql) (l := a8) (A := a6) (c := b0) (T := 79) (E := 9) (x := (.tmp 32)) (ix := (.const (.int .i64 (1)))) (ki := .i64) (iz := 1) (d := (some 33)) (k := 6) K rfl K K K K (b9 w' (SP.mod k4)) d8 e0 ?_
     intro k5 k6 k7 v0 hc549
     exact ⟨rfl, _, Qa a1, ⟨k5, k6, k7, rfl⟩⟩
    ·rintro ρ' w' hs a0 ⟨⟨v1, -⟩, k8⟩
     refine kM (kc (kA a0 5 32) k0) fun a1 => ?_
     refine Qn (e := Ql) (l := a8) (A := a6) (c := b0) (T := 79) (E := 9) (x := (.tmp 32)) (ix := (.const (.int .i64 (1)))) (ki := .i64) (iz := 1) (d := (some 33)) (k := 6) K rfl K K K K (b9 w' (SP.mod k8)) d8 e0 ?_
     intro k9 l0 l1 v2 hc557
     exact ⟨rfl, _, Qa a1, ⟨k9, l0, l1, rfl⟩⟩
   ·refine Owe.light K [0, 1] K (Qc ?_ (Qc ?_ Q8))
    ·rintro ρ' w' hs a0 ⟨v3, l2⟩
     obtain ⟨l3, l4, l5, c9⟩ := a0 6 33 K
     refine kM (kc c9 k0) fun a1 => ?_
     refine sC 9 33 l3 (l4 + Int.toNat 1 * Ql.sz) (.string ⟨List.toArray b1⟩) 34 (Qw (e := Ql) (Qj (b9 w' (SP.mod l2)) l5 d8 e0) g8 (j := 0) rfl) ?_
     exact eK a1
    ·rintro ρ' w' hs a0 ⟨⟨v4, -⟩, l6⟩
     obtain ⟨l7, l8, l9, c9⟩ := a0 6 33 K
     refine kM (kc c9 k0) fun a1 => ?_
     refine sC 9 33 l7 (l8 + Int.toNat 1 * Ql.sz) (.string ⟨List.toArray b1⟩) 34 (Qw (e := Ql) (Qj (b9 w' (SP.mod l6)) l9 d8 e0) g8 (j := 0) rfl) ?_
     exact eK a1
   ·exact oV (hC (hS 4 (.slice a4 (List.length o.1) a5)) (h0)) (.slice a4 (List.length o.1) a5)
   ·refine Owe.light K [0, 1] K (Qc ?_ (Qc ?_ Q8))
    ·rintro ρ' w' hs a0 ⟨v5, m0⟩
     refine kM (kc (kA a0 8 35) k0) fun a1 => ?_
     refine Uy (T := 48) (S' := 9) (E := 5) (x := (.tmp 35)) (A := a4) (c := a5) (l := o.1) (d := (some 36)) (k := 9) K rfl K K K K (Vg (SP.get m0 (i := 1) rfl)) ?_
     exact eK a1
    ·rintro ρ' w' hs a0 ⟨⟨v6, -⟩, m1⟩
     refine kM (kc (kA a0 8 35) k0) fun a1 => ?_
     refine Uy (T := 48) (S' := 9) (E := 5) (x := (.tmp 35)) (A := a4) (c := a5) (l := o.1) (d := (some 36)) (k := 9) K rfl K K K K (Vg (SP.get m1 (i := 1) rfl)) ?_
     exact eK a1
   ·exact oV (hC (hS 0 (pt g1 0)) (h0)) (pt g1 0)
   ·exact oV (hC (hS 1 (.slice a6 (List.length a8) b0)) (h0)) (.slice a6 (List.length a8) b0)
   ·refine oL 0 ?_
    ·rintro ρ' w' hs a0 ⟨v7, m2⟩
     refine kM (kc (kA a0 11 38) k0) fun a1 => ?_
     refine Qn (e := Ql) (l := a8) (A := a6) (c := b0) (T := 79) (E := 9) (x := (.tmp 38)) (ix := (.const (.int .i64 (3)))) (ki := .i64) (iz := 3) (d := (some 39)) (k := 12) K rfl K K K K (b9 w' (SP.mod m2)) g9 h1 ?_
     intro m3 m4 m5 v8 hc580
     exact ⟨rfl, _, Qa a1, ⟨m3, m4, m5, rfl⟩⟩
   ·refine oL 0 ?_
    ·rintro ρ' w' hs a0 ⟨v9, m6⟩
     obtain ⟨m7, m8, m9, f4⟩ := a0 12 39 K
     refine kM (kc f4 k0) fun a1 => ?_
     refine sC 9 39 m7 (m8 + Int.toNat 3 * Ql.sz) (.string ⟨List.toArray f2⟩) 40 (Qw (e := Ql) (Qj (b9 w' (SP.mod m6)) m9 g9 h1) j8 (j := 0) rfl) ?_
     exact eK a1
   ·refine oH 0 1 ?_
    ·rintro ρ' w' hs a0 ⟨w1, f5⟩
     refine kM (kc (kA a0 10 37) (kc (kA a0 13 40) k0)) fun a1 => ?_
     refine cF 164 #[(.tmp 37), (.tmp 40)] #[70, 9] 41 Tryz.call164 (Va g1 (.slice A7 (List.length (List.map stT d9)) c8) p.2.2.2.2.2.1 p.2.2.2.2.2.2.1 p.2.2.2.2.2.2.2.1 p.2.2.2.2.2.2.2.2.1 p.2.2.2.2.2.2.2.2.2.1 p.2.2.2.2.2.2.2.2.2.2 f2 w' (fun w hm => hL w (SP.through f5 (l := [5]) rfl hm)) (Jw f5 [5] rfl rfl) a2 j9) ?_
     rintro e n0 ⟨rfl, h2⟩
     refine ⟨_, rfl, ?_⟩
     have n1 : SP S w0 n0 [Yx A7 c8 d9, Q6 5 eU8 a4 a5 o.1, Qq a9 33 #[(.string ⟨List.toArray p.1⟩), (.int .i64 p.2.1), (.int .i64 p.2.2.1), (.slice b6 (List.length p.2.2.2.1) b7), (.slice b4 (List.length p.2.2.2.2.1) b5)], Q6 102 (Qf (Q4 .u32) (Q4 .i64)) b6 b7 p.2.2.2.1, Q6 37 (Qf Ql (Qf Ql (Q4 .i64))) b4 b5 p.2.2.2.2.1, Qq g1 72 #[(.int .i64 a2.2.1), (.int .i64 a2.2.2.1), (.int .i64 a2.2.2.2.1), (.int .i64 a2.2.2.2.2.1), (.slice A7 (List.length (List.map stT d9)) c8), (.int .i64 a2.2.2.2.2.2.1), (.bool a2.2.2.2.2.2.2)]] := Z2 f5 [5] [0, 1, 2, 3, 4] rfl rfl h2 rfl
     clear h2
     refine ⟨_, Qa a1, rfl, ?_⟩
     exact (And.intro (And.intro rfl (trivial)) n1)
   ·exact oV (hC (hA 7 34) (hC (hA 9 36) (hC (hA 14 41) (h0)))) (.agg #[(.string ⟨List.toArray b1⟩), (.string ⟨List.toArray o.1⟩), (.int .i64 a2.1)])
   ·refine oH 1 2 ?_
    ·rintro ρ' w' hs a0 ⟨⟨n2, -⟩, n3⟩
     refine kM (kc (kA a0 15 42) k0) fun a1 => ?_
     refine Vt (e := (Qf Ql (Qf Ql (Q4 .i64)))) (T := 31) (E := 37) (len := 1) (parts := #[(0, (.tmp 42))]) (cs := #[(.string ⟨List.toArray b1⟩), (.string ⟨List.toArray o.1⟩), (.int .i64 a2.1)]) ([(b1, o.1, a2.1)] : List ((List UInt8) × (List UInt8) × Int)) (d := (some 43)) (k := 16) K rfl (fun _ => K) n3 rfl rfl rfl rfl ?_
     intro n4 w2 n5
     refine ⟨_, Qa a1, trivial, ?_⟩
     exact (Exists.intro n4 (And.intro (And.intro n2 (And.intro rfl (trivial))) n5))
   ·refine oH 2 3 ?_
    ·rintro ρ' w' hs a0 ⟨c5, ⟨n6, h3, -⟩, h4⟩
     refine kN [(31, (.slice b4 (List.length p.2.2.2.2.1) b5)), (43, (.slice (some ⟨c5, 0, none⟩) (List.length ([(b1, o.1, a2.1)] : List ((List UInt8) × (List UInt8) × Int))) (List.length ([(b1, o.1, a2.1)] : List ((List UInt8) × (List UInt8) × Int)))))] ⟨a0 4 31 K, (Vo (h := 16) K).symm.trans h3, trivial⟩ fun a1 => ?_
     refine Qi.append (e := (Qf Ql (Qf Ql (Q4 .i64)))) (l := p.2.2.2.2.1) (m := ([(b1, o.1, a2.1)] : List ((List UInt8) × (List UInt8) × Int))) (A := b4) (c := b5) (T := 31) (TX := 31) (E := 37) (b := 40) (s := (.tmp 31)) (x := (.tmp 43)) (i := 4) (vx := (.slice (some ⟨c5, 0, none⟩) (List.length ([(b1, o.1, a2.1)] : List ((List UInt8) × (List UInt8) × Int))) (List.length ([(b1, o.1, a2.1)] : List ((List UInt8) × (List UInt8) × Int))))) (d := (some 44)) (k := 17) K rfl K K K K rfl h4 rfl (Dw (E := 37) K (Vg (SP.get h4 (i := 6) rfl))) hl485 ?_
     rw [hyl486]
     intro n7 n8 w3 n9
     refine ⟨_, Qa a1, trivial, ?_⟩
     exact (Exists.intro c5 (Exists.intro n7 (Exists.intro n8 (And.intro (And.intro n6 (And.intro h3 (And.intro rfl (trivial)))) n9))))
   ·exact oV (hC (hA 0 27) (h0)) (pt a9 0)
   ·exact oV (hC (hA 18 45) (h0)) (pt a9 4)
   ·refine oH 3 4 ?_
    ·rintro ρ' w' hs a0 ⟨e1, c6, c7, ⟨o0, o1, h5, -⟩, o2⟩
     refine kN [(46, (pt a9 4)), (44, (.slice c6 (List.length c4) c7))] ⟨a0 19 46 K, (Vo (h := 17) K).symm.trans h5, trivial⟩ fun a1 => ?_
     refine Qi.store (t := 31) (x := (.tmp 46)) (y := (.tmp 44)) (g := a9) (off := 4) (i := 2) (v := (.slice c6 (List.length c4) c7)) (cs' := #[(.string ⟨List.toArray p.1⟩), (.int .i64 p.2.1), (.int .i64 p.2.2.1), (.slice b6 (List.length p.2.2.2.1) b7), (.slice c6 (List.length c4) c7)]) (d := none) (k := 20) K rfl K K o2 rfl K ?_
     intro w4 o3
     refine ⟨_, Qa a1, trivial, ?_⟩
     exact (Exists.intro e1 (Exists.intro c6 (Exists.intro c7 (And.intro (And.intro o0 (And.intro o1 (And.intro h5 (And.intro rfl (trivial))))) o3))))
   ·rintro ρ' w' hs hf ⟨f3, e2, e3, ⟨w5, w6, w7, w8, -⟩, h6⟩
    refine V2 [] trivial ?_
    obtain ⟨w9, o4⟩ : ∃ x, w' = x := ⟨_, rfl⟩
    rw [o4] at h6 ⊢
    refine ⟨(.tuple #[]), K, ?_⟩
    obtain rfl := Qg H
    exact ⟨A7, c8, d9, rfl, rfl, SP.sel h6 [5,0] rfl rfl⟩
  ·have H := cf H d7
   obtain ⟨o5, o6, H⟩ := Qd H
   refine iS 2 ?_
   refine cF 166 #[(.tmp 25)] #[70] 26 Tryz.call166 (Jz g1 A7 c8 q2 q3 q4 q5 d9 c0 c3 g6 (Jw d4 [1] rfl rfl) (fun w hm => Rg (SP.still d4 (l := [1]) (i := 0) rfl rfl rfl hm)) o5 o6) ?_
   rintro e h7 ⟨b2, b3, rfl, e4, h8⟩
   refine ⟨_, rfl, ?_⟩
   have o7 : SP S w0 h7 [Yx A7 c8 d9, Q6 5 eU8 a4 a5 o.1, Qq g1 72 #[(.int .i64 q2), (.int .i64 q3), (.int .i64 q4), (.int .i64 q5), (.slice A7 (List.length (List.map stT d9)) c8), (.int .i64 c0), (.bool c3)]] := Z2 d4 [1] [0, 2] rfl rfl h8 rfl
   clear h8
   obtain ⟨a3, a, f6⟩ := Fl d7
   have Hd634 := Fm f6 H
   have hnd634 : List.length (List.map stT d9) - 1 = List.length a3 := by rw [f6]; simp
   rw [hnd634]
   subst f6
   have H := Hd634
   have o8 : SP S w0 h7 [Q6 33 V1 A7 c8 (a3 ++ [a]), Q6 5 eU8 a4 a5 o.1, Qq g1 72 #[(.int .i64 q2), (.int .i64 q3), (.int .i64 q4), (.int .i64 q5), (.slice A7 (List.length (List.map stT (a3 ++ [a]))) c8), (.int .i64 c0), (.bool c3)], Dm a3, Q6 102 (Qf (Q4 .u32) (Q4 .i64)) a.2.2.2.1.1 a.2.2.2.1.2.1 (stT a).2.2.2.1, Q6 37 (Qf Ql (Qf Ql (Q4 .i64))) a.2.2.2.2.1 a.2.2.2.2.2.1 (stT a).2.2.2.2] := Eg o7 (i := 0) rfl rfl
   refine iR 1 3 [(6, (.pointer (some ⟨b2, (b3 + (List.length a3) * V1.sz), none⟩)))] ?_
   refine iF ?_
   obtain ⟨a7, e5, e6, h9, H⟩ := Ve H
   obtain ⟨f7, i0, i1, o9, H⟩ := Ve H
   obtain ⟨u, p0, H⟩ := Qd H
   obtain ⟨hl670, H⟩ := Yf H
   obtain ⟨b8, hyl671⟩ : ∃ y, (stT a).2.2.2.2 ++ ([(a7, o.1, u.1)] : List ((List UInt8) × (List UInt8) × Int)) = y := ⟨_, rfl⟩
   try rw [hyl671] at H
   refine aG [GEq (.pointer (some ⟨b2, (b3 + (List.length a3) * V1.sz), none⟩)), GEq (.pointer (some ⟨b2, (b3 + (List.length a3) * V1.sz), none⟩)), GEq (.pointer (some ⟨b2, (b3 + (List.length a3) * V1.sz), none⟩)), GEq (.pointer (some ⟨b2, (b3 + (List.length a3) * V1.sz + 4), none⟩)), GEq (.slice a.2.2.2.2.1 (List.length (stT a).2.2.2.2) a.2.2.2.2.2.1), GEq (.slice a6 (List.length a8) b0), Yb a6 Ql.sz 1, GEq (.string ⟨List.toArray a7⟩), GEq (.slice a4 (List.length o.1) a5), GEq (.string ⟨List.toArray o.1⟩), GEq (pt g1 0), GEq (.slice a6 (List.length a8) b0), Yb a6 Ql.sz 3, GEq (.string ⟨List.toArray f7⟩), GEq (.int .i64 u.1), GEq (.agg #[(.string ⟨List.toArray a7⟩), (.string ⟨List.toArray o.1⟩), (.int .i64 u.1)]), Rp, Rp, GEq (.pointer (some ⟨b2, (b3 + (List.length a3) * V1.sz), none⟩)), GEq (.pointer (some ⟨b2, (b3 + (List.length a3) * V1.sz + 4), none⟩)), Rp] [14, 16, 17, 20] [([], fun vs w => VL vs [] ∧ SP S w0 w [Q6 33 V1 A7 c8 (a3 ++ [a]), Q6 5 eU8 a4 a5 o.1, Qq g1 72 #[(.int .i64 q2), (.int .i64 q3), (.int .i64 q4), (.int .i64 q5), (.slice A7 (List.length (List.map stT (a3 ++ [a]))) c8), (.int .i64 c0), (.bool c3)], Dm a3, Q6 102 (Qf (Q4 .u32) (Q4 .i64)) a.2.2.2.1.1 a.2.2.2.1.2.1 (stT a).2.2.2.1, Q6 37 (Qf Ql (Qf Ql (Q4 .i64))) a.2.2.2.2.1 a.2.2.2.2.2.1 (stT a).2.2.2.2]), ([14], fun vs w => VL vs [(.int .i64 u.1)] ∧ SP S w0 w [Q6 33 V1 A7 c8 (a3 ++ [a]), Q6 5 eU8 a4 a5 o.1, Dm a3, Q6 102 (Qf (Q4 .u32) (Q4 .i64)) a.2.2.2.1.1 a.2.2.2.1.2.1 (stT a).2.2.2.1, Q6 37 (Qf Ql (Qf Ql (Q4 .i64))) a.2.2.2.2.1 a.2.2.2.2.2.1 (stT a).2.2.2.2, Qq g1 72 #[(.int .i64 u.2.1), (.int .i64 u.2.2.1), (.int .i64 u.2.2.2.1), (.int .i64 u.2.2.2.2.1), (.slice A7 (List.length (List.map stT (a3 ++ [a]))) c8), (.int .i64 u.2.2.2.2.2.1), (.bool u.2.2.2.2.2.2)]]), ([14, 16], fun vs w => ∃ (d1 : Nat), VL vs [(.int .i64 u.1), (.slice (some ⟨d1, 0, none⟩) (List.length ([(a7, o.1, u.1)] : List ((List UInt8) × (List UInt8) × Int))) (List.length ([(a7, o.1, u.1)] : List ((List UInt8) × (List UInt8) × Int))))] ∧ SP S w0 w [Q6 33 V1 A7 c8 (a3 ++ [a]), Q6 5 eU8 a4 a5 o.1, Dm a3, Q6 102 (Qf (Q4 .u32) (Q4 .i64)) a.2.2.2.1.1 a.2.2.2.1.2.1 (stT a).2.2.2.1, Q6 37 (Qf Ql (Qf Ql (Q4 .i64))) a.2.2.2.2.1 a.2.2.2.2.2.1 (stT a).2.2.2.2, Qq g1 72 #[(.int .i64 u.2.1), (.int .i64 u.2.2.1), (.int .i64 u.2.2.2.1), (.int .i64 u.2.2.2.2.1), (.slice A7 (List.length (List.map stT (a3 ++ [a]))) c8), (.int .i64 u.2.2.2.2.2.1), (.bool u.2.2.2.2.2.2)], Q6 37 (Qf Ql (Qf Ql (Q4 .i64))) (some ⟨d1, 0, none⟩) (List.length ([(a7, o.1, u.1)] : List ((List UInt8) × (List UInt8) × Int))) ([(a7, o.1, u.1)] : List ((List UInt8) × (List UInt8) × Int))]), ([14, 16, 17], fun vs w => ∃ (e7 : Nat), ∃ (d2 : Option Addr), ∃ (d3 : Nat), VL vs [(.int .i64 u.1), (.slice (some ⟨e7, 0, none⟩) (List.length ([(a7, o.1, u.1)] : List ((List UInt8) × (List UInt8) × Int))) (List.length ([(a7, o.1, u.1)] : List ((List UInt8) × (List UInt8) × Int)))), (.slice d2 (List.length b8) d3)] ∧ SP S w0 w [Q6 33 V1 A7 c8 (a3 ++ [a]), Q6 5 eU8 a4 a5 o.1, Dm a3, Q6 102 (Qf (Q4 .u32) (Q4 .i64)) a.2.2.2.1.1 a.2.2.2.1.2.1 (stT a).2.2.2.1, Q6 37 (Qf Ql (Qf Ql (Q4 .i64))) d2 d3 b8, Qq g1 72 #[(.int .i64 u.2.1), (.int .i64 u.2.2.1), (.int .i64 u.2.2.2.1), (.int .i64 u.2.2.2.2.1), (.slice A7 (List.length (List.map stT (a3 ++ [a]))) c8), (.int .i64 u.2.2.2.2.2.1), (.bool u.2.2.2.2.2.2)], Q6 37 (Qf Ql (Qf Ql (Q4 .i64))) (some ⟨e7, 0, none⟩) (List.length ([(a7, o.1, u.1)] : List ((List UInt8) × (List UInt8) × Int))) ([(a7, o.1, u.1)] : List ((List UInt8) × (List UInt8) × Int))]), ([14, 16, 17, 20], fun vs w => ∃ (d6 : Nat), ∃ (c1 : Option Addr), ∃ (c2 : Nat), VL vs [(.int .i64 u.1), (.slice (some ⟨d6, 0, none⟩) (List.length ([(a7, o.1, u.1)] : List ((List UInt8) × (List UInt8) × Int))) (List.length ([(a7, o.1, u.1)] : List ((List UInt8) × (List UInt8) × Int)))), (.slice c1 (List.length b8) c2), undef] ∧ SP S w0 w [Q6 33 V1 A7 c8 (a3 ++ [((a.1, a.2.1, a.2.2.1, a.2.2.2.1, (c1, c2, b8)) : Qh)]), Q6 5 eU8 a4 a5 o.1, Dm a3, Q6 102 (Qf (Q4 .u32) (Q4 .i64)) a.2.2.2.1.1 a.2.2.2.1.2.1 (stT a).2.2.2.1, Q6 37 (Qf Ql (Qf Ql (Q4 .i64))) c1 c2 b8, Qq g1 72 #[(.int .i64 u.2.1), (.int .i64 u.2.2.1), (.int .i64 u.2.2.2.1), (.int .i64 u.2.2.2.2.1), (.slice A7 (List.length (List.map stT (a3 ++ [a]))) c8), (.int .i64 u.2.2.2.2.2.1), (.bool u.2.2.2.2.2.2)], Q6 37 (Qf Ql (Qf Ql (Q4 .i64))) (some ⟨d6, 0, none⟩) (List.length ([(a7, o.1, u.1)] : List ((List UInt8) × (List UInt8) × Int))) ([(a7, o.1, u.1)] : List ((List UInt8) × (List UInt8) × Int))])] 21 4 ⟨trivial, SP.drew o8⟩ ?_ ?_
   iterate 21 refine And.intro ?_ ?_
   exact trivial
   ·exact oV (hC (hS 6 (.pointer (some ⟨b2, (b3 + (List.length a3) * V1.sz), none⟩))) (h0)) (.pointer (some ⟨b2, (b3 + (List.length a3) * V1.sz), none⟩))
   ·exact oV (hC (hS 6 (.pointer (some ⟨b2, (b3 + (List.length a3) * V1.sz), none⟩))) (h0)) (.pointer (some ⟨b2, (b3 + (List.length a3) * V1.sz), none⟩))
   ·exact oV (hC (hA 1 28) (h0)) (.pointer (some ⟨b2, (b3 + (List.length a3) * V1.sz), none⟩))
   ·exact oV (hC (hA 2 29) (h0)) (.pointer (some ⟨b2, (b3 + (List.length a3) * V1.sz + 4), none⟩))
   ·refine Owe.light K [0, 1, 2] K (Qc ?_ (Qc ?_ (Qc ?_ Q8)))
    ·rintro ρ' w' hs a0 ⟨x0, p1⟩
     refine kM (kc (kA a0 3 30) k0) fun a1 => ?_
     refine sC 31 30 b2 (b3 + (List.length a3) * V1.sz + 4) (.slice a.2.2.2.2.1 (List.length (stT a).2.2.2.2) a.2.2.2.2.2.1) 31 (Gw (SP.get p1 (i := 0) rfl) e4 (f := 4) rfl) ?_
     exact eK a1
    ·rintro ρ' w' hs a0 ⟨⟨x1, -⟩, p2⟩
     refine kM (kc (kA a0 3 30) k0) fun a1 => ?_
     refine sC 31 30 b2 (b3 + (List.length a3) * V1.sz + 4) (.slice a.2.2.2.2.1 (List.length (stT a).2.2.2.2) a.2.2.2.2.2.1) 31 (Gw (SP.get p2 (i := 0) rfl) e4 (f := 4) rfl) ?_
     exact eK a1
    ·rintro ρ' w' hs a0 ⟨d1, ⟨x2, x3, -⟩, p3⟩
     refine kM (kc (kA a0 3 30) k0) fun a1 => ?_
     refine sC 31 30 b2 (b3 + (List.length a3) * V1.sz + 4) (.slice a.2.2.2.2.1 (List.length (stT a).2.2.2.2) a.2.2.2.2.2.1) 31 (Gw (SP.get p3 (i := 0) rfl) e4 (f := 4) rfl) ?_
     exact eK a1
   ·exact oV (hC (hS 1 (.slice a6 (List.length a8) b0)) (h0)) (.slice a6 (List.length a8) b0)
   ·refine Owe.light K [0, 1] K (Qc ?_ (Qc ?_ Q8))
    ·rintro ρ' w' hs a0 ⟨x4, p4⟩
     refine kM (kc (kA a0 5 32) k0) fun a1 => ?_
     refine Qn (e := Ql) (l := a8) (A := a6) (c := b0) (T := 79) (E := 9) (x := (.tmp 32)) (ix := (.const (.int .i64 (1)))) (ki := .i64) (iz := 1) (d := (some 33)) (k := 6) K rfl K K K K (b9 w' (SP.mod p4)) e5 e6 ?_
     intro p5 p6 p7 x5 hc734
     exact ⟨rfl, _, Qa a1, ⟨p5, p6, p7, rfl⟩⟩
    ·rintro ρ' w' hs a0 ⟨⟨x6, -⟩, p8⟩
     refine kM (kc (kA a0 5 32) k0) fun a1 => ?_
     refine Qn (e := Ql) (l := a8) (A := a6) (c := b0) (T := 79) (E := 9) (x := (.tmp 32)) (ix := (.const (.int .i64 (1)))) (ki := .i64) (iz := 1) (d := (some 33)) (k := 6) K rfl K K K K (b9 w' (SP.mod p8)) e5 e6 ?_
     intro p9 q0 q1 x7 hc742
     exact ⟨rfl, _, Qa a1, ⟨p9, q0, q1, rfl⟩⟩
   ·refine Owe.light K [0, 1] K (Qc ?_ (Qc ?_ Q8))
    ·rintro ρ' w' hs a0 ⟨x8, q6⟩
     obtain ⟨q7, q8, q9, c9⟩ := a0 6 33 K
     refine kM (kc c9 k0) fun a1 => ?_
     refine sC 9 33 q7 (q8 + Int.toNat 1 * Ql.sz) (.string ⟨List.toArray a7⟩) 34 (Qw (e := Ql) (Qj (b9 w' (SP.mod q6)) q9 e5 e6) h9 (j := 0) rfl) ?_
     exact eK a1
    ·rintro ρ' w' hs a0 ⟨⟨x9, -⟩, r0⟩
     obtain ⟨r1, r2, r3, c9⟩ := a0 6 33 K
     refine kM (kc c9 k0) fun a1 => ?_
     refine sC 9 33 r1 (r2 + Int.toNat 1 * Ql.sz) (.string ⟨List.toArray a7⟩) 34 (Qw (e := Ql) (Qj (b9 w' (SP.mod r0)) r3 e5 e6) h9 (j := 0) rfl) ?_
     exact eK a1
   ·exact oV (hC (hS 4 (.slice a4 (List.length o.1) a5)) (h0)) (.slice a4 (List.length o.1) a5)
   ·refine Owe.light K [0, 1] K (Qc ?_ (Qc ?_ Q8))
    ·rintro ρ' w' hs a0 ⟨y0, r4⟩
     refine kM (kc (kA a0 8 35) k0) fun a1 => ?_
     refine Uy (T := 48) (S' := 9) (E := 5) (x := (.tmp 35)) (A := a4) (c := a5) (l := o.1) (d := (some 36)) (k := 9) K rfl K K K K (Vg (SP.get r4 (i := 1) rfl)) ?_
     exact eK a1
    ·rintro ρ' w' hs a0 ⟨⟨y1, -⟩, r5⟩
     refine kM (kc (kA a0 8 35) k0) fun a1 => ?_
     refine Uy (T := 48) (S' := 9) (E := 5) (x := (.tmp 35)) (A := a4) (c := a5) (l := o.1) (d := (some 36)) (k := 9) K rfl K K K K (Vg (SP.get r5 (i := 1) rfl)) ?_
     exact eK a1
   ·exact oV (hC (hS 0 (pt g1 0)) (h0)) (pt g1 0)
   ·exact oV (hC (hS 1 (.slice a6 (List.length a8) b0)) (h0)) (.slice a6 (List.length a8) b0)
   ·refine oL 0 ?_
    ·rintro ρ' w' hs a0 ⟨y2, r6⟩
     refine kM (kc (kA a0 11 38) k0) fun a1 => ?_
     refine Qn (e := Ql) (l := a8) (A := a6) (c := b0) (T := 79) (E := 9) (x := (.tmp 38)) (ix := (.const (.int .i64 (3)))) (ki := .i64) (iz := 3) (d := (some 39)) (k := 12) K rfl K K K K (b9 w' (SP.mod r6)) i0 i1 ?_
     intro r7 r8 r9 y3 hc765
     exact ⟨rfl, _, Qa a1, ⟨r7, r8, r9, rfl⟩⟩
   ·refine oL 0 ?_
    ·rintro ρ' w' hs a0 ⟨y4, s0⟩
     obtain ⟨s1, s2, s3, f4⟩ := a0 12 39 K
     refine kM (kc f4 k0) fun a1 => ?_
     refine sC 9 39 s1 (s2 + Int.toNat 3 * Ql.sz) (.string ⟨List.toArray f7⟩) 40 (Qw (e := Ql) (Qj (b9 w' (SP.mod s0)) s3 i0 i1) o9 (j := 0) rfl) ?_
     exact eK a1
   ·refine oH 0 1 ?_
    ·rintro ρ' w' hs a0 ⟨y5, f8⟩
     refine kM (kc (kA a0 10 37) (kc (kA a0 13 40) k0)) fun a1 => ?_
     refine cF 164 #[(.tmp 37), (.tmp 40)] #[70, 9] 41 Tryz.call164 (Va g1 (.slice A7 (List.length (List.map stT (a3 ++ [a]))) c8) q2 q3 q4 q5 c0 c3 f7 w' (fun w hm => hL w (SP.through f8 (l := [2]) rfl hm)) (Jw f8 [2] rfl rfl) u p0) ?_
     rintro e s4 ⟨rfl, i2⟩
     refine ⟨_, rfl, ?_⟩
     have s5 : SP S w0 s4 [Q6 33 V1 A7 c8 (a3 ++ [a]), Q6 5 eU8 a4 a5 o.1, Dm a3, Q6 102 (Qf (Q4 .u32) (Q4 .i64)) a.2.2.2.1.1 a.2.2.2.1.2.1 (stT a).2.2.2.1, Q6 37 (Qf Ql (Qf Ql (Q4 .i64))) a.2.2.2.2.1 a.2.2.2.2.2.1 (stT a).2.2.2.2, Qq g1 72 #[(.int .i64 u.2.1), (.int .i64 u.2.2.1), (.int .i64 u.2.2.2.1), (.int .i64 u.2.2.2.2.1), (.slice A7 (List.length (List.map stT (a3 ++ [a]))) c8), (.int .i64 u.2.2.2.2.2.1), (.bool u.2.2.2.2.2.2)]] := Z2 f8 [2] [0, 1, 3, 4, 5] rfl rfl i2 rfl
     clear i2
     refine ⟨_, Qa a1, rfl, ?_⟩
     exact (And.intro (And.intro rfl (trivial)) s5)
   ·exact oV (hC (hA 7 34) (hC (hA 9 36) (hC (hA 14 41) (h0)))) (.agg #[(.string ⟨List.toArray a7⟩), (.string ⟨List.toArray o.1⟩), (.int .i64 u.1)])
   ·refine oH 1 2 ?_
    ·rintro ρ' w' hs a0 ⟨⟨s6, -⟩, s7⟩
     refine kM (kc (kA a0 15 42) k0) fun a1 => ?_
     refine Vt (e := (Qf Ql (Qf Ql (Q4 .i64)))) (T := 31) (E := 37) (len := 1) (parts := #[(0, (.tmp 42))]) (cs := #[(.string ⟨List.toArray a7⟩), (.string ⟨List.toArray o.1⟩), (.int .i64 u.1)]) ([(a7, o.1, u.1)] : List ((List UInt8) × (List UInt8) × Int)) (d := (some 43)) (k := 16) K rfl (fun _ => K) s7 rfl rfl rfl rfl ?_
     intro s8 y6 s9
     refine ⟨_, Qa a1, trivial, ?_⟩
     exact (Exists.intro s8 (And.intro (And.intro s6 (And.intro rfl (trivial))) s9))
   ·refine oH 2 3 ?_
    ·rintro ρ' w' hs a0 ⟨d1, ⟨t0, i3, -⟩, i4⟩
     refine kN [(31, (.slice a.2.2.2.2.1 (List.length (stT a).2.2.2.2) a.2.2.2.2.2.1)), (43, (.slice (some ⟨d1, 0, none⟩) (List.length ([(a7, o.1, u.1)] : List ((List UInt8) × (List UInt8) × Int))) (List.length ([(a7, o.1, u.1)] : List ((List UInt8) × (List UInt8) × Int)))))] ⟨a0 4 31 K, (Vo (h := 16) K).symm.trans i3, trivial⟩ fun a1 => ?_
     refine Qi.append (e := (Qf Ql (Qf Ql (Q4 .i64)))) (l := (stT a).2.2.2.2) (m := ([(a7, o.1, u.1)] : List ((List UInt8) × (List UInt8) × Int))) (A := a.2.2.2.2.1) (c := a.2.2.2.2.2.1) (T := 31) (TX := 31) (E := 37) (b := 40) (s := (.tmp 31)) (x := (.tmp 43)) (i := 4) (vx := (.slice (some ⟨d1, 0, none⟩) (List.length ([(a7, o.1, u.1)] : List ((List UInt8) × (List UInt8) × Int))) (List.length ([(a7, o.1, u.1)] : List ((List UInt8) × (List UInt8) × Int))))) (d := (some 44)) (k := 17) K rfl K K K K rfl i4 rfl (Dw (E := 37) K (Vg (SP.get i4 (i := 6) rfl))) hl670 ?_
     rw [hyl671]
     intro t1 t2 y7 t3
     refine ⟨_, Qa a1, trivial, ?_⟩
     exact (Exists.intro d1 (Exists.intro t1 (Exists.intro t2 (And.intro (And.intro t0 (And.intro i3 (And.intro rfl (trivial)))) t3))))
   ·exact oV (hC (hA 0 27) (h0)) (.pointer (some ⟨b2, (b3 + (List.length a3) * V1.sz), none⟩))
   ·exact oV (hC (hA 18 45) (h0)) (.pointer (some ⟨b2, (b3 + (List.length a3) * V1.sz + 4), none⟩))
   ·refine oH 3 4 ?_
    ·rintro ρ' w' hs a0 ⟨e7, d2, d3, ⟨t4, t5, i5, -⟩, t6⟩
     refine kN [(46, (.pointer (some ⟨b2, (b3 + (List.length a3) * V1.sz + 4), none⟩))), (44, (.slice d2 (List.length b8) d3))] ⟨a0 19 46 K, (Vo (h := 17) K).symm.trans i5, trivial⟩ fun a1 => ?_
     refine Dt (t := 31) (x := (.tmp 46)) (z := (.tmp 44)) (A := A7) (c := c8) (d0 := a3) (y := a) (y' := ((a.1, a.2.1, a.2.2.1, a.2.2.2.1, (d2, d3, b8)) : Qh)) (b := b2) (off := b3) (f := 4) (i := 0) (v := (.slice d2 (List.length b8) d3)) (dst := none) (k := 20) K rfl e4 K K t6 rfl K rfl K ?_
     intro y8 t7
     refine ⟨_, Qa a1, trivial, ?_⟩
     exact (Exists.intro e7 (Exists.intro d2 (Exists.intro d3 (And.intro (And.intro t4 (And.intro t5 (And.intro i5 (And.intro rfl (trivial))))) t7))))
   ·rintro ρ' w' hs hf ⟨d6, c1, c2, ⟨y9, z0, z1, z2, -⟩, i6⟩
    refine V2 [] trivial ?_
    obtain ⟨i7, t8⟩ : ∃ x, w' = x := ⟨_, rfl⟩
    rw [t8] at i6 ⊢
    have t9 : SP S w0 i7 [Yx A7 c8 (a3 ++ [((a.1, a.2.1, a.2.2.1, a.2.2.2.1, (c1, c2, b8)) : Qh)]), Q6 5 eU8 a4 a5 o.1, Qq g1 72 #[(.int .i64 u.2.1), (.int .i64 u.2.2.1), (.int .i64 u.2.2.2.1), (.int .i64 u.2.2.2.2.1), (.slice A7 (List.length (List.map stT (a3 ++ [a]))) c8), (.int .i64 u.2.2.2.2.2.1), (.bool u.2.2.2.2.2.2)], Q6 37 (Qf Ql (Qf Ql (Q4 .i64))) (some ⟨d6, 0, none⟩) (List.length ([(a7, o.1, u.1)] : List ((List UInt8) × (List UInt8) × Int))) ([(a7, o.1, u.1)] : List ((List UInt8) × (List UInt8) × Int))] := Cb i6 (A := A7) (c := c8) (d0 := a3) (y := ((a.1, a.2.1, a.2.2.1, a.2.2.2.1, (c1, c2, b8)) : Qh)) (i := 0) (q := 2) (j := 3) (m := 4) rfl rfl rfl rfl (by decide) (by decide) (by decide) rfl
    have u0 : SP S w0 i7 [Yx A7 c8 (a3 ++ [((a.1, a.2.1, a.2.2.1, a.2.2.2.1, (c1, c2, b8)) : Qh)]), Q6 5 eU8 a4 a5 o.1, Qq g1 72 #[(.int .i64 u.2.1), (.int .i64 u.2.2.1), (.int .i64 u.2.2.2.1), (.int .i64 u.2.2.2.2.1), (.slice A7 (List.length (List.map stT (a3 ++ [((a.1, a.2.1, a.2.2.1, a.2.2.2.1, (c1, c2, b8)) : Qh)]))) c8), (.int .i64 u.2.2.2.2.2.1), (.bool u.2.2.2.2.2.2)], Q6 37 (Qf Ql (Qf Ql (Q4 .i64))) (some ⟨d6, 0, none⟩) (List.length ([(a7, o.1, u.1)] : List ((List UInt8) × (List UInt8) × Int))) ([(a7, o.1, u.1)] : List ((List UInt8) × (List UInt8) × Int))] := by have h := t9; rw [Kq (d0 := a3) (y := a) ((a.1, a.2.1, a.2.2.1, a.2.2.2.1, (c1, c2, b8)) : Qh)] at h; exact h
    refine ⟨(.tuple #[]), K, ?_⟩
    obtain rfl := Qg H
    exact ⟨A7, c8, (a3 ++ [((a.1, a.2.1, a.2.2.1, a.2.2.2.1, (c1, c2, b8)) : Qh)]), rfl, (F8 (d0 := a3) (y := ((a.1, a.2.1, a.2.2.1, a.2.2.2.1, (c1, c2, b8)) : Qh))), SP.sel u0 [2,0] rfl rfl⟩
end Go.Proofs.YtoflbpmbkmephaaGreatDoor
namespace Go.Proofs.YtoflbpmbkmephaaGreatDoor
open Go.RowKit
open Go.MapKept (sameNow_of_keys IsKey)
abbrev Za : List UInt8 := [116, 105, 109, 101, 115]
abbrev Zd : List UInt8 := [116, 101, 110, 97, 110, 116]
abbrev Gy : List UInt8 := [110, 101, 116]
abbrev Js : List UInt8 := [116, 111, 107, 101, 110]
def cin (w : List UInt8) : Bool := w == Za || (w == Zd || (w == Gy || w == Js))
def Nf (w : List UInt8) : Int := cond (w == Za) 5 (cond (w == Zd) 4 (cond (w == Gy) 2 4))
def Uq (w : List UInt8) : FuncId := cond (w == Za) 142 (cond (w == Zd) 143 (cond (w == Gy) 144 145))
def cval (w : List UInt8) : Value := .agg #[.int .i64 (Nf w), .func (.func (Uq w)) #[] #[]]
def Kr : KV := [(.string ⟨List.toArray Za⟩, cval Za), (.string ⟨List.toArray Zd⟩, cval Zd), (.string ⟨List.toArray Gy⟩, cval Gy), (.string ⟨List.toArray Js⟩, cval Js)]
theorem Eh {w : List UInt8} (h : cin w = true) : w = Za ∨ w = Zd ∨ w = Gy ∨ w = Js := by
  unfold cin at h
  rw [Bool.or_eq_true, Bool.or_eq_true, Bool.or_eq_true] at h
  rcases h with h | h | h | h
  · exact .inl (eq_of_beq h)
  · exact .inr (.inl (eq_of_beq h))
  · exact .inr (.inr (.inl (eq_of_beq h)))
  · exact .inr (.inr (.inr (eq_of_beq h)))
theorem ctab_in {w : List UInt8} (h : cin w = true) : ∃ j, Re .string (.string ⟨List.toArray w⟩) Kr 0 = some (some (j, cval w)) := by
  rcases Eh h with rfl | rfl | rfl | rfl
  · exact ⟨0, by kernel_rfl⟩
  · exact ⟨1, by kernel_rfl⟩
  · exact ⟨2, by kernel_rfl⟩
  · exact ⟨3, by kernel_rfl⟩
theorem F9 {a b : List UInt8} (h : (a == b) = false) : Instr.sameNow .string (.string ⟨List.toArray a⟩) (.string ⟨List.toArray b⟩) = some false := by
  obtain ⟨r, h1, h2⟩ := sameNow_of_keys (d := .string) (a := .string ⟨List.toArray a⟩) (b := .string ⟨List.toArray b⟩) trivial trivial
  cases r
  · exact h1
  · have h3 := h2.1 rfl
    injection h3 with h3
    injection h3 with h3
    have h4 : a = b := by simpa using congrArg Array.toList h3
    rw [h4] at h
    simp at h
theorem Ks {w : List UInt8} (h : cin w = false) : Re .string (.string ⟨List.toArray w⟩) Kr 0 = some none := by
  unfold cin at h
  rw [Bool.or_eq_false_iff, Bool.or_eq_false_iff, Bool.or_eq_false_iff] at h
  obtain ⟨h1, h2, h3, h4⟩ := h
  simp only [Kr, Re, F9 h1, F9 h2, F9 h3, F9 h4]
theorem I9 (w : List UInt8) (args : Array Value) (w0 : World) : (callFunc (Uq w) args).run Tryz.prog w0 = .ok (.enter (Uq w) args) w0 := by
  unfold Uq
  cases (w == Za)
  · cases (w == Zd)
    · cases (w == Gy)
      · exact Tryz.call145 args w0
      · exact Tryz.call144 args w0
    · exact Tryz.call143 args w0
  · exact Tryz.call142 args w0
def Ei (w : List UInt8) (q2 q3 q4 q5 : Int) (l : List Qb) (q7 : Int) (q8 : Bool) (p : List (List UInt8)) : Option (Int × Int × Int × Int × List Qb × Int × Bool) :=
  cond (w == Za) ((Yn q2 q3 q4 q5 q7 q8 p).bind fun z => some (z.1, z.2.1, z.2.2.1, z.2.2.2.1, l, z.2.2.2.2.1, z.2.2.2.2.2))
    (cond (w == Zd) (Ya q2 q3 q4 q5 l q7 q8 p) (cond (w == Gy) (Y5 q2 q3 q4 q5 l q7 q8 p) (Yo q2 q3 q4 q5 l q7 q8 p)))
theorem H9 (w : List UInt8) {S : List Nat} (g1 : Nat) (A7 : Option Addr) (c8 : Nat) (A13 : Option Addr) (c14 : Nat) (q2 q3 q4 q5 : Int) (d9 : List Qh) (q10 : Int) (q11 : Bool) (p12 : List (List UInt8)) (w0 : World) (hL : ∀ w, Mod S w0 w → U9 w)
    (hO : SP S w0 w0 [Qq g1 72 #[(.int .i64 q2), (.int .i64 q3), (.int .i64 q4), (.int .i64 q5), (.slice A7 (List.length (List.map stT d9)) c8), (.int .i64 q10), (.bool q11)], Yx A7 c8 d9]) (hr15 : ∀ w, Mod S w0 w → RdT Ql w A13 c14 p12)
    (r : Int × Int × Int × Int × List Qb × Int × Bool) (H : Ei w q2 q3 q4 q5 (List.map stT d9) q10 q11 p12 = some r) :
    Calls Tryz.prog (Uq w) #[(.pointer (some ⟨g1, 0, none⟩)), (.slice A13 (List.length p12) c14)] w0 (fun e w' => ∃ (A : Option Addr) (c : Nat) (d : List Qh), e = .returned (.tuple #[]) ∧ r.2.2.2.2.1 = List.map stT d ∧ SP S w0 w' [Qq g1 72 #[(.int .i64 r.1), (.int .i64 r.2.1), (.int .i64 r.2.2.1), (.int .i64 r.2.2.2.1), (.slice A (List.length (List.map stT d)) c), (.int .i64 r.2.2.2.2.2.1), (.bool r.2.2.2.2.2.2)], Yx A c d]) := by
  unfold Ei at H
  unfold Uq
  cases h1 : (w == Za) <;> rw [h1] at H
  · cases h2 : (w == Zd) <;> rw [h2] at H
    · cases h3 : (w == Gy) <;> rw [h3] at H
      · exact Gb g1 A7 c8 A13 c14 q2 q3 q4 q5 d9 q10 q11 p12 w0 hL hO hr15 r H
      · exact Gx g1 A7 c8 A13 c14 q2 q3 q4 q5 d9 q10 q11 p12 w0 hL hO hr15 r H
    · exact N7 g1 A7 c8 A13 c14 q2 q3 q4 q5 d9 q10 q11 p12 w0 hL hO hr15 r H
  · obtain ⟨z, hz, H⟩ := Qd H
    have hw := Ga g1 (.slice A7 (List.length (List.map stT d9)) c8) A13 c14 q2 q3 q4 q5 q10 q11 p12 w0 (fun w hm => hL w (SP.through hO (l := [0]) rfl hm)) (Jw hO [0] rfl rfl) (fun w hm => hr15 w (SP.through hO (l := [0]) rfl hm)) z hz
    refine hw.mono fun e w' hp => ?_
    obtain ⟨he, hs⟩ := hp
    injection H with H
    subst H
    have h2 : SP S w0 w' [Yx A7 c8 d9, Qq g1 72 #[(.int .i64 z.1), (.int .i64 z.2.1), (.int .i64 z.2.2.1), (.int .i64 z.2.2.2.1), (.slice A7 (List.length (List.map stT d9)) c8), (.int .i64 z.2.2.2.2.1), (.bool z.2.2.2.2.2)]] := Z2 hO [0] [1] rfl rfl hs rfl
    exact ⟨A7, c8, d9, he, rfl, SP.sel h2 [1, 0] rfl rfl⟩
end Go.Proofs.YtoflbpmbkmephaaGreatDoor
namespace Go.Proofs.YtoflbpmbkmephaaGreatDoor
open Go.RowKit
def Ua  : Option Unit :=
  (some ())
set_option maxHeartbeats 40000000 in
theorem Y6   (w0 : World)  (r : Unit) (H : Ua  = some r) :
  Calls Tryz.prog 91 #[] w0 (fun e w' => ∃ (g1 : Nat), e = .returned (.map (some g1)) ∧ SP [] w0 w' [Ll g1 Kr]) := by
 unfold Ua at H
 refine Qv (n := 7) Tryz.func91 K K K ?_
 have a := Q1 [] w0
 refine aQ ?_
 refine aR ?_
 refine iR 1 1 [(0, (.map none))] ?_
 refine iF ?_
 refine aQ ?_
 refine aR ?_
 refine iS 1 ?_
 refine Lm (T := 144) (dst := (some 1)) (o := 0) K rfl a ?_
 intro g2 w3 b
 refine iR 1 2 [(2, (.agg #[(.int .i64 5), (.func (.func 142) #[] #[])]))] ?_
 refine iS 3 ?_
 refine Bn (T := 144) (kt := 9) (et := 142) (m := g2) (L := []) (k := (.string ⟨List.toArray ([116, 105, 109, 101, 115] : List UInt8)⟩)) (v := (.agg #[(.int .i64 5), (.func (.func 142) #[] #[])])) (d := .string) (x := (.tmp 1)) (ix := (.const (.string ⟨List.toArray ([116, 105, 109, 101, 115] : List UInt8)⟩))) (y := (.tmp 2)) (i := 0) (dst := none) (o := 2) K rfl K K K K K K K K b rfl ?_
 intro w6 c
 refine iR 1 4 [(3, (.agg #[(.int .i64 4), (.func (.func 143) #[] #[])]))] ?_
 refine iS 5 ?_
 refine Bn (T := 144) (kt := 9) (et := 142) (m := g2) (L := ([] ++ [((.string ⟨List.toArray ([116, 105, 109, 101, 115] : List UInt8)⟩), (.agg #[(.int .i64 5), (.func (.func 142) #[] #[])]))])) (k := (.string ⟨List.toArray ([116, 101, 110, 97, 110, 116] : List UInt8)⟩)) (v := (.agg #[(.int .i64 4), (.func (.func 143) #[] #[])])) (d := .string) (x := (.tmp 1)) (ix := (.const (.string ⟨List.toArray ([116, 101, 110, 97, 110, 116] : List UInt8)⟩))) (y := (.tmp 3)) (i := 0) (dst := none) (o := 4) K rfl K K K K K K K K c rfl ?_
 intro w9 f
 refine iR 1 6 [(4, (.agg #[(.int .i64 2), (.func (.func 144) #[] #[])]))] ?_
 refine iS 7 ?_
 refine Bn (T := 144) (kt := 9) (et := 142) (m := g2) (L := (([] ++ [((.string ⟨List.toArray ([116, 105, 109, 101, 115] : List UInt8)⟩), (.agg #[(.int .i64 5), (.func (.func 142) #[] #[])]))]) ++ [((.string ⟨List.toArray ([116, 101, 110, 97, 110, 116] : List UInt8)⟩), (.agg #[(.int .i64 4), (.func (.func 143) #[] #[])]))])) (k := (.string ⟨List.toArray ([110, 101, 116] : List UInt8)⟩)) (v := (.agg #[(.int .i64 2), (.func (.func 144) #[] #[])])) (d := .string) (x := (.tmp 1)) (ix := (.const (.string ⟨List.toArray ([110, 101, 116] : List UInt8)⟩))) (y := (.tmp 4)) (i := 0) (dst := none) (o := 6) K rfl K K K K K K K K f rfl ?_
 intro j g
 refine iR 1 8 [(5, (.agg #[(.int .i64 4), (.func (.func 145) #[] #[])]))] ?_
 refine iS 9 ?_
 refine Bn (T := 144) (kt := 9) (et := 142) (m := g2) (L := ((([] ++ [((.string ⟨List.toArray ([116, 105, 109, 101, 115] : List UInt8)⟩), (.agg #[(.int .i64 5), (.func (.func 142) #[] #[])]))]) ++ [((.string ⟨List.toArray ([116, 101, 110, 97, 110, 116] : List UInt8)⟩), (.agg #[(.int .i64 4), (.func (.func 143) #[] #[])]))]) ++ [((.string ⟨List.toArray ([110, 101, 116] : List UInt8)⟩), (.agg #[(.int .i64 2), (.func (.func 144) #[] #[])]))])) (k := (.string ⟨List.toArray ([116, 111, 107, 101, 110] : List UInt8)⟩)) (v := (.agg #[(.int .i64 4), (.func (.func 145) #[] #[])])) (d := .string) (x := (.tmp 1)) (ix := (.const (.string ⟨List.toArray ([116, 111, 107, 101, 110] : List UInt8)⟩))) (y := (.tmp 5)) (i := 0) (dst := none) (o := 8) K rfl K K K K K K K K g rfl ?_
 intro l h
 refine iR 2 11 [(6, (.map (some g2))), (0, (.map (some g2)))] ?_
 refine iF ?_
 refine At.ret K ?_
 refine ⟨(.map (some g2)), K, ?_⟩
 obtain rfl := Qg H
 exact ⟨g2, rfl, SP.sel h [0] rfl rfl⟩
def Z5 (a : (Int × Int × Int × Int × (List Qb) × Int × Bool)) (b : (List Qb)) (c : Bool) : Option (Bool × Int × Int × Int × Int × (List Qb) × Int × Bool) :=
  (some (c, a.1, a.2.1, a.2.2.1, a.2.2.2.1, b, (IntKind.wrap .i64 (a.2.2.2.2.2.1 + 1)), a.2.2.2.2.2.2))
def Z6 (q2 : Int) (q3 : Int) (q4 : Int) (q5 : Int) (q6 : (List Qb)) (c : Int) (d : Bool) (e : ((List (List UInt8)))) (f : (List UInt8)) (g : Bool) : Option (Bool × Int × Int × Int × Int × (List Qb) × Int × Bool) :=
  (cond g (some (false, q2, q3, q4, q5, q6, c, d)) ((Ei f q2 q3 q4 q5 q6 c d e).bind fun a => ((some a.2.2.2.2.1).bind fun b => (cond (!a.2.2.2.2.2.2) ((Z1 a.1 a.2.1 a.2.2.1 a.2.2.2.1 b).bind fun h => (Z5 a b h)) (Z5 a b false)))))
def Zl (q2 : Int) (q3 : Int) (q4 : Int) (q5 : Int) (q6 : (List Qb)) (c : Int) (d : Bool) (f : (List UInt8)) : Option (Bool × Int × Int × Int × Int × (List Qb) × Int × Bool) :=
  ((X7 f ([10] : List UInt8)).bind fun e => ((Jr e.1 ([32] : List UInt8)).bind fun a => ((Ua ).bind fun g => ((idx a 0).bind fun b => (cond (cin b) (cond (!e.2) (Z6 q2 q3 q4 q5 q6 c d a b true) (Z6 q2 q3 q4 q5 q6 c d a b (((List.length a : Nat) : Int) != (Nf b)))) (some (false, q2, q3, q4, q5, q6, c, d)))))))
set_option maxHeartbeats 40000000 in
theorem Gk {S : List Nat} (g1 : Nat) (A7 : Option Addr) (c8 : Nat) (q2 : Int) (q3 : Int) (q4 : Int) (q5 : Int) (d9 : (List Qh)) (a5 : Int) (a6 : Bool) (c6 : (List UInt8)) (w0 : World) (hL : ∀ w, Mod S w0 w → U9 w) (hO : SP S w0 w0 [Qq g1 72 #[(.int .i64 q2), (.int .i64 q3), (.int .i64 q4), (.int .i64 q5), (.slice A7 (List.length (List.map stT d9)) c8), (.int .i64 a5), (.bool a6)], Yx A7 c8 d9])  (r : (Bool × Int × Int × Int × Int × (List Qb) × Int × Bool)) (H : Zl q2 q3 q4 q5 (List.map stT d9) a5 a6 c6 = some r) :
  Calls Tryz.prog 41 #[(pt g1 0), (.string ⟨List.toArray c6⟩)] w0 (fun e w' => ∃ (e0 : Option Addr) (e1 : Nat) (d3 : List Qh), e = .returned (.bool r.1) ∧ r.2.2.2.2.2.1 = List.map stT d3 ∧ SP S w0 w' [Qq g1 72 #[(.int .i64 r.2.1), (.int .i64 r.2.2.1), (.int .i64 r.2.2.2.1), (.int .i64 r.2.2.2.2.1), (.slice e0 (List.length (List.map stT d3)) e1), (.int .i64 r.2.2.2.2.2.2.1), (.bool r.2.2.2.2.2.2.2)], Yx e0 e1 d3]) := by
 unfold Zl at H
 refine Qv (n := 61) Tryz.func41 K K K ?_
 have f7 := hO
 refine aQ ?_
 refine aR ?_
 refine iR 1 1 [(4, (.bool false))] ?_
 refine iF ?_
 refine aQ ?_
 refine aR ?_
 refine iR 1 1 [(10, (.string ⟨List.toArray c6⟩))] ?_
 obtain ⟨a2, f8, H⟩ := Qd H
 refine iS 2 ?_
 refine cF 90 #[(.tmp 10), (.const (.string ⟨List.toArray ([10] : List UInt8)⟩))] #[9, 9] 11 Tryz.call90 (Gv  c6 ([10] : List UInt8) w0  a2 f8) ?_
 rintro e f9 ⟨rfl, e2⟩
 refine ⟨_, rfl, ?_⟩
 have g0 := SP.call f7 e2
 clear e2
 refine iR 5 7 [(9, (.tuple #[(.string ⟨List.toArray a2.1⟩), (.bool a2.2)])), (12, (.string ⟨List.toArray a2.1⟩)), (13, (.bool a2.2)), (1, (.string ⟨List.toArray a2.1⟩)), (5, (.bool a2.2))] ?_
 refine iF ?_
 refine aQ ?_
 refine aR ?_
 refine iR 1 1 [(14, (.string ⟨List.toArray a2.1⟩))] ?_
 obtain ⟨s, g2, H⟩ := Qd H
 refine iS 2 ?_
 refine cF 67 #[(.tmp 14), (.const (.string ⟨List.toArray ([32] : List UInt8)⟩))] #[9, 9] 15 Tryz.call67 (Dl  a2.1 ([32] : List UInt8) f9  s g2) ?_
 rintro e s6 ⟨u, a0, rfl, e3⟩
 refine ⟨_, rfl, ?_⟩
 have e4 := SP.call g0 e3
 clear e3
 refine iR 1 3 [(6, (.slice u (List.length s) a0))] ?_
 refine iF ?_
 refine aQ ?_
 obtain ⟨c7, c9, H⟩ := Qd H
 obtain ⟨p, a3, a4, b6, H⟩ := Ve H
 rcases Bool.eq_false_or_eq_true (cin p) with b9 | b9
 ·have H := ct H b9
  refine aG [Rp, GEq (.slice u (List.length s) a0), Yb u Ql.sz 0, GEq (.string ⟨List.toArray p⟩), GEq (.tuple #[(.agg #[(.int .i64 (Nf p)), (.func (.func (Uq p)) #[] #[])]), (.bool true)]), GEq (.tuple #[(.agg #[(.int .i64 (Nf p)), (.func (.func (Uq p)) #[] #[])]), (.bool true)]), GEq (.agg #[(.int .i64 (Nf p)), (.func (.func (Uq p)) #[] #[])]), GEq (.bool true), Rp, Rp, GEq (.bool true)] [0, 8, 9] [([], fun vs w => VL vs [] ∧ SP S w0 w [Qq g1 72 #[(.int .i64 q2), (.int .i64 q3), (.int .i64 q4), (.int .i64 q5), (.slice A7 (List.length (List.map stT d9)) c8), (.int .i64 a5), (.bool a6)], Yx A7 c8 d9, Q6 9 Ql u a0 s]), ([0], fun vs w => ∃ (a9 : Nat), VL vs [(.map (some a9))] ∧ SP S w0 w [Qq g1 72 #[(.int .i64 q2), (.int .i64 q3), (.int .i64 q4), (.int .i64 q5), (.slice A7 (List.length (List.map stT d9)) c8), (.int .i64 a5), (.bool a6)], Yx A7 c8 d9, Q6 9 Ql u a0 s, Ll a9 Kr]), ([8], fun vs w => ∃ (c0 : Nat), VL vs [(pt c0 0)] ∧ SP S w0 w [Qq g1 72 #[(.int .i64 q2), (.int .i64 q3), (.int .i64 q4), (.int .i64 q5), (.slice A7 (List.length (List.map stT d9)) c8), (.int .i64 a5), (.bool a6)], Yx A7 c8 d9, Q6 9 Ql u a0 s, Qq c0 142 #[(.int .i64 0), .nilFunc]]), ([0, 8], fun vs w => ∃ (b0 : Nat), ∃ (b1 : Nat), VL vs [(.map (some b0)), (pt b1 0)] ∧ SP S w0 w [Qq g1 72 #[(.int .i64 q2), (.int .i64 q3), (.int .i64 q4), (.int .i64 q5), (.slice A7 (List.length (List.map stT d9)) c8), (.int .i64 a5), (.bool a6)], Yx A7 c8 d9, Q6 9 Ql u a0 s, Ll b0 Kr, Qq b1 142 #[(.int .i64 0), .nilFunc]]), ([0, 8, 9], fun vs w => ∃ (d4 : Nat), ∃ (a8 : Nat), VL vs [(.map (some d4)), (pt a8 0), undef] ∧ SP S w0 w [Qq g1 72 #[(.int .i64 q2), (.int .i64 q3), (.int .i64 q4), (.int .i64 q5), (.slice A7 (List.length (List.map stT d9)) c8), (.int .i64 a5), (.bool a6)], Yx A7 c8 d9, Q6 9 Ql u a0 s, Ll d4 Kr, Qq a8 142 #[(.int .i64 (Nf p)), (.func (.func (Uq p)) #[] #[])]])] 11 4 ⟨trivial, SP.drew e4⟩ ?_ ?_
  iterate 11 refine And.intro ?_ ?_
  exact trivial
  ·refine Owe.heavy K [(0, 1), (2, 3)] K (Qc ⟨K, K, ?_⟩ (Qc ⟨K, K, ?_⟩ Q8))
   ·rintro ρ' w' hs q ⟨s7, g3⟩
    refine kN [] trivial fun a => ?_
    refine cF 91 #[] #[] 17 Tryz.call91 (Y6   w'  c7 c9) ?_
    rintro e s8 ⟨g4, rfl, e5⟩
    refine ⟨_, rfl, ?_⟩
    have g5 := SP.call g3 e5
    clear e5
    refine ⟨_, Qa a, trivial, ?_⟩
    exact (Exists.intro g4 (And.intro (And.intro rfl (trivial)) g5))
   ·rintro ρ' w' hs q ⟨c0, ⟨g6, -⟩, g7⟩
    refine kN [] trivial fun a => ?_
    refine cF 91 #[] #[] 17 Tryz.call91 (Y6   w'  c7 c9) ?_
    rintro e s9 ⟨g8, rfl, e6⟩
    refine ⟨_, rfl, ?_⟩
    have g9 := SP.call g7 e6
    clear e6
    refine ⟨_, Qa a, trivial, ?_⟩
    exact (Exists.intro g8 (Exists.intro c0 (And.intro (And.intro rfl (And.intro g6 (trivial))) (SP.sel g9 [0, 1, 2, 4, 3] rfl rfl))))
  ·exact oV (hC (hS 6 (.slice u (List.length s) a0)) (h0)) (.slice u (List.length s) a0)
  ·refine Owe.light K [0, 1, 2, 3] K (Qc ?_ (Qc ?_ (Qc ?_ (Qc ?_ Q8))))
   ·rintro ρ' w' hs q ⟨t0, h1⟩
    refine kM (kc (kA q 1 18) k0) fun a => ?_
    refine Qn (e := Ql) (l := s) (A := u) (c := a0) (T := 79) (E := 9) (x := (.tmp 18)) (ix := (.const (.int .i64 (0)))) (ki := .i64) (iz := 0) (d := (some 19)) (k := 2) K rfl K K K K (Vg (SP.get h1 (i := 2) rfl)) a3 a4 ?_
    intro h2 h3 h4 t1 hc454
    exact ⟨rfl, _, Qa a, ⟨h2, h3, h4, rfl⟩⟩
   ·rintro ρ' w' hs q ⟨a9, ⟨t2, -⟩, h5⟩
    refine kM (kc (kA q 1 18) k0) fun a => ?_
    refine Qn (e := Ql) (l := s) (A := u) (c := a0) (T := 79) (E := 9) (x := (.tmp 18)) (ix := (.const (.int .i64 (0)))) (ki := .i64) (iz := 0) (d := (some 19)) (k := 2) K rfl K K K K (Vg (SP.get h5 (i := 2) rfl)) a3 a4 ?_
    intro h6 h7 h8 t3 hc462
    exact ⟨rfl, _, Qa a, ⟨h6, h7, h8, rfl⟩⟩
   ·rintro ρ' w' hs q ⟨c0, ⟨t4, -⟩, h9⟩
    refine kM (kc (kA q 1 18) k0) fun a => ?_
    refine Qn (e := Ql) (l := s) (A := u) (c := a0) (T := 79) (E := 9) (x := (.tmp 18)) (ix := (.const (.int .i64 (0)))) (ki := .i64) (iz := 0) (d := (some 19)) (k := 2) K rfl K K K K (Vg (SP.get h9 (i := 2) rfl)) a3 a4 ?_
    intro i0 i1 i2 t5 hc470
    exact ⟨rfl, _, Qa a, ⟨i0, i1, i2, rfl⟩⟩
   ·rintro ρ' w' hs q ⟨b0, b1, ⟨t6, t7, -⟩, i3⟩
    refine kM (kc (kA q 1 18) k0) fun a => ?_
    refine Qn (e := Ql) (l := s) (A := u) (c := a0) (T := 79) (E := 9) (x := (.tmp 18)) (ix := (.const (.int .i64 (0)))) (ki := .i64) (iz := 0) (d := (some 19)) (k := 2) K rfl K K K K (Vg (SP.get i3 (i := 2) rfl)) a3 a4 ?_
    intro i4 i5 i6 t8 hc479
    exact ⟨rfl, _, Qa a, ⟨i4, i5, i6, rfl⟩⟩
  ·refine Owe.light K [0, 1, 2, 3] K (Qc ?_ (Qc ?_ (Qc ?_ (Qc ?_ Q8))))
   ·rintro ρ' w' hs q ⟨t9, i7⟩
    obtain ⟨i8, i9, j0, a7⟩ := q 2 19 K
    refine kM (kc a7 k0) fun a => ?_
    refine sC 9 19 i8 (i9 + Int.toNat 0 * Ql.sz) (.string ⟨List.toArray p⟩) 20 (Qw (e := Ql) (Qj (Vg (SP.get i7 (i := 2) rfl)) j0 a3 a4) b6 (j := 0) rfl) ?_
    exact eK a
   ·rintro ρ' w' hs q ⟨a9, ⟨u0, -⟩, j1⟩
    obtain ⟨j2, j3, j4, a7⟩ := q 2 19 K
    refine kM (kc a7 k0) fun a => ?_
    refine sC 9 19 j2 (j3 + Int.toNat 0 * Ql.sz) (.string ⟨List.toArray p⟩) 20 (Qw (e := Ql) (Qj (Vg (SP.get j1 (i := 2) rfl)) j4 a3 a4) b6 (j := 0) rfl) ?_
    exact eK a
   ·rintro ρ' w' hs q ⟨c0, ⟨u1, -⟩, j5⟩
    obtain ⟨j6, j7, j8, a7⟩ := q 2 19 K
    refine kM (kc a7 k0) fun a => ?_
    refine sC 9 19 j6 (j7 + Int.toNat 0 * Ql.sz) (.string ⟨List.toArray p⟩) 20 (Qw (e := Ql) (Qj (Vg (SP.get j5 (i := 2) rfl)) j8 a3 a4) b6 (j := 0) rfl) ?_
    exact eK a
   ·rintro ρ' w' hs q ⟨b0, b1, ⟨u2, u3, -⟩, j9⟩
    obtain ⟨k1, k2, k3, a7⟩ := q 2 19 K
    refine kM (kc a7 k0) fun a => ?_
    refine sC 9 19 k1 (k2 + Int.toNat 0 * Ql.sz) (.string ⟨List.toArray p⟩) 20 (Qw (e := Ql) (Qj (Vg (SP.get j9 (i := 2) rfl)) k3 a3 a4) b6 (j := 0) rfl) ?_
    exact eK a
  ·refine Owe.light K [1, 3] K (Qc ?_ (Qc ?_ Q8))
   ·rintro ρ' w' hs q ⟨a9, ⟨k4, -⟩, k5⟩
    refine kN [(17, (.map (some a9))), (20, (.string ⟨List.toArray p⟩))] ⟨(Vo (h := 0) K).symm.trans k4, q 3 20 K, trivial⟩ fun a => ?_
    refine Ee (T := 144) (kt := 9) (et := 142) (m := a9) (L := Kr) (k := (.string ⟨List.toArray p⟩)) (d := .string) (x := (.tmp 17)) (ix := (.tmp 20)) (dst := (some 21)) (o := 4) (v := cval p) K rfl K K K K K (ctab_in b9) (SP.get k5 (i := 3) rfl) ?_
    exact eK a
   ·rintro ρ' w' hs q ⟨b0, b1, ⟨k6, u4, -⟩, k7⟩
    refine kN [(17, (.map (some b0))), (20, (.string ⟨List.toArray p⟩))] ⟨(Vo (h := 0) K).symm.trans k6, q 3 20 K, trivial⟩ fun a => ?_
    refine Ee (T := 144) (kt := 9) (et := 142) (m := b0) (L := Kr) (k := (.string ⟨List.toArray p⟩)) (d := .string) (x := (.tmp 17)) (ix := (.tmp 20)) (dst := (some 21)) (o := 4) (v := cval p) K rfl K K K K K (ctab_in b9) (SP.get k7 (i := 3) rfl) ?_
    exact eK a
  ·exact oV (hC (hA 4 21) (h0)) (.tuple #[(.agg #[(.int .i64 (Nf p)), (.func (.func (Uq p)) #[] #[])]), (.bool true)])
  ·exact oV (hC (hA 5 16) (h0)) (.agg #[(.int .i64 (Nf p)), (.func (.func (Uq p)) #[] #[])])
  ·exact oV (hC (hA 5 16) (h0)) (.bool true)
  ·refine Owe.heavy K [(0, 2), (1, 3)] K (Qc ⟨K, K, ?_⟩ (Qc ⟨K, K, ?_⟩ Q8))
   ·rintro ρ' w' hs q ⟨u5, k8⟩
    refine kN [] trivial fun a => ?_
    refine Qi.alloc (t := 142) (z := (.agg #[(.int .i64 0), .nilFunc])) (d := (some 7)) (k := 8) K rfl K k8 ?_
    intro k9 u6 l0
    refine ⟨_, Qa a, trivial, ?_⟩
    exact (Exists.intro k9 (And.intro (And.intro rfl (trivial)) l0))
   ·rintro ρ' w' hs q ⟨a9, ⟨l1, -⟩, l2⟩
    refine kN [] trivial fun a => ?_
    refine Qi.alloc (t := 142) (z := (.agg #[(.int .i64 0), .nilFunc])) (d := (some 7)) (k := 8) K rfl K l2 ?_
    intro l3 u7 l4
    refine ⟨_, Qa a, trivial, ?_⟩
    exact (Exists.intro a9 (Exists.intro l3 (And.intro (And.intro l1 (And.intro rfl (trivial))) l4)))
  ·refine oH 3 4 ?_
   ·rintro ρ' w' hs q ⟨b0, b1, ⟨l5, e7, -⟩, l6⟩
    refine kN [(7, (pt b1 0)), (22, (.agg #[(.int .i64 (Nf p)), (.func (.func (Uq p)) #[] #[])]))] ⟨(Vo (h := 8) K).symm.trans e7, q 6 22 K, trivial⟩ fun a => ?_
    refine Qi.store (t := 142) (x := (.tmp 7)) (y := (.tmp 22)) (g := b1) (off := 0) (i := 4) (v := (.agg #[(.int .i64 (Nf p)), (.func (.func (Uq p)) #[] #[])])) (cs' := #[(.int .i64 (Nf p)), (.func (.func (Uq p)) #[] #[])]) (d := none) (k := 9) K rfl K K l6 rfl K ?_
    intro u8 l7
    refine ⟨_, Qa a, trivial, ?_⟩
    exact (Exists.intro b0 (Exists.intro b1 (And.intro (And.intro l5 (And.intro e7 (And.intro rfl (trivial)))) l7)))
  ·exact oV (hC (hA 7 23) (h0)) (.bool true)
  ·rintro ρ' w' hs hf ⟨d4, a8, ⟨u9, l8, v0, -⟩, d0⟩
   refine V2 [(0, (pt g1 0)), (5, (.bool a2.2)), (6, (.slice u (List.length s) a0)), (7, (pt a8 0)), (8, (.bool true))] ⟨(hs 0 K).trans K, (hs 5 K).trans K, (hs 6 K).trans K, (Vo (h := 8) K).symm.trans l8, hf 10 8 K, trivial⟩ ?_
   obtain ⟨v1, l9⟩ : ∃ x, w' = x := ⟨_, rfl⟩
   rw [l9] at d0 ⊢
   refine aQ ?_
   refine aQ ?_
   refine At.join (fun ρ w => ∃ (c1 : Bool), Zm ρ [(0, (pt g1 0)), (6, (.slice u (List.length s) a0)), (7, (pt a8 0)), (36, (.bool c1))] ∧ SP S w0 w [Yx A7 c8 d9, Qq g1 72 #[(.int .i64 q2), (.int .i64 q3), (.int .i64 q4), (.int .i64 q5), (.slice A7 (List.length (List.map stT d9)) c8), (.int .i64 a5), (.bool a6)], Qq a8 142 #[(.int .i64 (Nf p)), (.func (.func (Uq p)) #[] #[])], Q6 9 Ql u a0 s] ∧ Z6 q2 q3 q4 q5 (List.map stT d9) a5 a6 s p c1 = some r) ?_ ?_
   ·refine aR ?_
    refine iR 7 7 [(24, (.bool true)), (25, (.bool false)), (26, (.bool false)), (27, (.bool a2.2)), (28, (.bool (!a2.2))), (29, (.bool (!a2.2))), (30, (.bool (!a2.2)))] ?_
    refine In.guard (t := 30) (b := (!a2.2)) K (fun d5 => ?_) (fun d5 => ?_)
    ·have H := ct H d5
     refine iR 6 13 [(31, undef), (32, undef), (33, undef), (34, undef), (35, undef), (36, (.bool true))] ?_
     refine iF ?_
     exact ⟨true, ⟨K, K, K, K, trivial⟩, SP.sel d0 [1, 0, 4, 2] rfl rfl, H⟩
    ·have H := cf H d5
     refine iR 3 10 [(31, (.slice u (List.length s) a0)), (32, (.int .i64 ((List.length s : Nat) : Int))), (33, (pt a8 0))] ?_
     refine iS 11 ?_
     refine sL 3 33 a8 0 4 (.int .i64 (Nf p)) 34 d0 rfl ?_
     refine iR 2 13 [(35, (.bool (((List.length s : Nat) : Int) != (Nf p)))), (36, (.bool (((List.length s : Nat) : Int) != (Nf p))))] ?_
     refine iF ?_
     exact ⟨(((List.length s : Nat) : Int) != (Nf p)), ⟨K, K, K, K, trivial⟩, SP.sel d0 [1, 0, 4, 2] rfl rfl, H⟩
   ·rintro ρ m0 ⟨c1, hk, c2, H⟩
    unfold Z6 at H
    first | refine At.known [(0, (pt g1 0)), (6, (.slice u (List.length s) a0)), (7, (pt a8 0)), (36, (.bool c1))] hk ?_ | rw [← Q3 (l := [(0, (pt g1 0)), (6, (.slice u (List.length s) a0)), (7, (pt a8 0)), (36, (.bool c1))]) hk]
    refine Xe K (o := (.tmp 36)) K (b := c1) K (fun d6 => ?_) (fun d6 => ?_)
    ·have H := ct H d6
     refine aQ ?_
     refine aR ?_
     refine iR 1 1 [(4, (.bool false))] ?_
     refine iF ?_
     refine At.ret K ?_
     refine ⟨(.bool false), K, ?_⟩
     obtain rfl := Qg H
     exact ⟨A7, c8, d9, rfl, rfl, SP.sel c2 [1,0] rfl rfl⟩
    ·have H := cf H d6
     refine At.skip K ?_
     refine aQ ?_
     refine aR ?_
     refine iR 1 1 [(37, (pt a8 1))] ?_
     refine iS 2 ?_
     refine sL 140 37 a8 1 2 (.func (.func (Uq p)) #[] #[]) 38 c2 rfl ?_
     refine iR 2 4 [(39, (pt g1 0)), (40, (.slice u (List.length s) a0))] ?_
     obtain ⟨a1, m1, H⟩ := Qd H
     refine iS 5 ?_
     refine X0 (f := (Uq p)) (fo := (.tmp 38)) (xs := #[(.tmp 39), (.tmp 40)]) (tys := #[70, 79]) (first := #[]) (captured := #[]) (d := (some 41)) (k := 4) K rfl K K (I9 p) (H9 p g1 A7 c8 u a0 q2 q3 q4 q5 d9 a5 a6 s m0 (fun w hm => hL w (SP.through c2 (l := [1, 0]) rfl hm)) (Jw c2 [1, 0] rfl rfl) (fun w hm => (Vg (SP.still c2 (l := [1, 0]) (i := 3) rfl rfl rfl hm))) a1 m1) ?_
     rintro e m2 ⟨b7, b8, b2, rfl, m3, e8⟩
     obtain ⟨v2, hll552, H⟩ := Zs H
     rw [m3] at hll552
     subst hll552
     refine ⟨_, rfl, ?_⟩
     have e9 : SP S w0 m2 [Qq a8 142 #[(.int .i64 (Nf p)), (.func (.func (Uq p)) #[] #[])], Q6 9 Ql u a0 s, Qq g1 72 #[(.int .i64 a1.1), (.int .i64 a1.2.1), (.int .i64 a1.2.2.1), (.int .i64 a1.2.2.2.1), (.slice b7 (List.length (List.map stT b2)) b8), (.int .i64 a1.2.2.2.2.2.1), (.bool a1.2.2.2.2.2.2)], Yx b7 b8 b2] := Z2 c2 [1, 0] [2, 3] rfl rfl e8 rfl
     clear e8
     refine iF ?_
     refine aQ ?_
     refine aR ?_
     refine iR 3 3 [(42, (pt g1 0)), (43, (pt g1 0)), (44, (pt g1 5))] ?_
     refine iS 4 ?_
     refine sL 3 44 g1 5 2 (.int .i64 a1.2.2.2.2.2.1) 45 e9 rfl ?_
     refine iR 3 7 [(46, (.int .i64 (IntKind.wrap .i64 (a1.2.2.2.2.2.1 + 1)))), (47, (pt g1 0)), (48, (pt g1 5))] ?_
     refine iS 8 ?_
     refine Qi.store (t := 3) (x := (.tmp 48)) (y := (.tmp 46)) (g := g1) (off := 5) (i := 2) (v := (.int .i64 (IntKind.wrap .i64 (a1.2.2.2.2.2.1 + 1)))) (cs' := #[(.int .i64 a1.1), (.int .i64 a1.2.1), (.int .i64 a1.2.2.1), (.int .i64 a1.2.2.2.1), (.slice b7 (List.length (List.map stT b2)) b8), (.int .i64 (IntKind.wrap .i64 (a1.2.2.2.2.2.1 + 1))), (.bool a1.2.2.2.2.2.2)]) (d := none) (k := 7) K rfl K K e9 rfl K ?_
     intro f0 c3
     refine iF ?_
     refine aQ ?_
     refine At.join (fun ρ w => ∃ (c4 : Bool), Zm ρ [(4, (.bool c4))] ∧ SP S w0 w [Yx b7 b8 b2, Qq g1 72 #[(.int .i64 a1.1), (.int .i64 a1.2.1), (.int .i64 a1.2.2.1), (.int .i64 a1.2.2.2.1), (.slice b7 (List.length (List.map stT b2)) b8), (.int .i64 (IntKind.wrap .i64 (a1.2.2.2.2.2.1 + 1))), (.bool a1.2.2.2.2.2.2)]] ∧ Z5 a1 (List.map stT b2) c4 = some r) ?_ ?_
     ·refine aR ?_
      refine iR 3 3 [(49, (pt g1 0)), (50, (pt g1 0)), (51, (pt g1 6))] ?_
      refine iS 4 ?_
      refine sL 4 51 g1 6 2 (.bool a1.2.2.2.2.2.2) 52 c3 rfl ?_
      refine iR 2 6 [(53, (.bool (!a1.2.2.2.2.2.2))), (54, (.bool (!a1.2.2.2.2.2.2)))] ?_
      refine In.guard (t := 54) (b := (!a1.2.2.2.2.2.2)) K (fun d7 => ?_) (fun d7 => ?_)
      ·have H := ct H d7
       refine iR 3 9 [(55, (pt g1 0)), (56, (pt g1 0)), (57, (pt g1 0))] ?_
       refine iS 10 ?_
       refine sL 24 57 g1 0 2 (.agg #[(.int .i64 a1.1), (.int .i64 a1.2.1), (.int .i64 a1.2.2.1), (.int .i64 a1.2.2.2.1), (.slice b7 (List.length (List.map stT b2)) b8)]) 58 c3 rfl ?_
       obtain ⟨d1, m4, H⟩ := Qd H
       refine iS 11 ?_
       refine cF 22 #[(.tmp 58)] #[24] 59 Tryz.call22 (X5 b7 b8 a1.1 a1.2.1 a1.2.2.1 a1.2.2.2.1 b2 f0 (hL f0 (SP.mod c3)) (Rg (SP.get c3 (i := 3) rfl)) d1 m4) ?_
       rintro e v3 ⟨rfl, f1⟩
       refine ⟨_, rfl, ?_⟩
       have m5 := SP.call c3 f1
       clear f1
       refine iR 2 13 [(60, (.bool d1)), (4, (.bool d1))] ?_
       refine iF ?_
       exact ⟨d1, ⟨K, trivial⟩, SP.sel m5 [3, 2] rfl rfl, H⟩
      ·have H := cf H d7
       refine iR 7 13 [(55, undef), (56, undef), (57, undef), (58, undef), (59, undef), (60, (.bool false)), (4, (.bool false))] ?_
       refine iF ?_
       exact ⟨false, ⟨K, trivial⟩, SP.sel c3 [3, 2] rfl rfl, H⟩
     ·rintro ρ v4 ⟨c4, hk, m6, H⟩
      unfold Z5 at H
      first | refine At.known [(4, (.bool c4))] hk ?_ | rw [← Q3 (l := [(4, (.bool c4))]) hk]
      refine At.ret K ?_
      refine ⟨(.bool c4), K, ?_⟩
      obtain rfl := Qg H
      exact ⟨b7, b8, b2, rfl, rfl, SP.sel m6 [1,0] rfl rfl⟩
 ·have H := cf H b9
  refine aG [Rp, GEq (.slice u (List.length s) a0), Yb u Ql.sz 0, GEq (.string ⟨List.toArray p⟩), GEq (.tuple #[(.agg #[(.int .i64 0), .nilFunc]), (.bool false)]), GEq (.tuple #[(.agg #[(.int .i64 0), .nilFunc]), (.bool false)]), GEq (.agg #[(.int .i64 0), .nilFunc]), GEq (.bool false), Rp, Rp, GEq (.bool false)] [0, 8, 9] [([], fun vs w => VL vs [] ∧ SP S w0 w [Qq g1 72 #[(.int .i64 q2), (.int .i64 q3), (.int .i64 q4), (.int .i64 q5), (.slice A7 (List.length (List.map stT d9)) c8), (.int .i64 a5), (.bool a6)], Yx A7 c8 d9, Q6 9 Ql u a0 s]), ([0], fun vs w => ∃ (b3 : Nat), VL vs [(.map (some b3))] ∧ SP S w0 w [Qq g1 72 #[(.int .i64 q2), (.int .i64 q3), (.int .i64 q4), (.int .i64 q5), (.slice A7 (List.length (List.map stT d9)) c8), (.int .i64 a5), (.bool a6)], Yx A7 c8 d9, Q6 9 Ql u a0 s, Ll b3 Kr]), ([8], fun vs w => ∃ (c5 : Nat), VL vs [(pt c5 0)] ∧ SP S w0 w [Qq g1 72 #[(.int .i64 q2), (.int .i64 q3), (.int .i64 q4), (.int .i64 q5), (.slice A7 (List.length (List.map stT d9)) c8), (.int .i64 a5), (.bool a6)], Yx A7 c8 d9, Q6 9 Ql u a0 s, Qq c5 142 #[(.int .i64 0), .nilFunc]]), ([0, 8], fun vs w => ∃ (b4 : Nat), ∃ (b5 : Nat), VL vs [(.map (some b4)), (pt b5 0)] ∧ SP S w0 w [Qq g1 72 #[(.int .i64 q2), (.int .i64 q3), (.int .i64 q4), (.int .i64 q5), (.slice A7 (List.length (List.map stT d9)) c8), (.int .i64 a5), (.bool a6)], Yx A7 c8 d9, Q6 9 Ql u a0 s, Ll b4 Kr, Qq b5 142 #[(.int .i64 0), .nilFunc]]), ([0, 8, 9], fun vs w => ∃ (d8 : Nat), ∃ (d2 : Nat), VL vs [(.map (some d8)), (pt d2 0), undef] ∧ SP S w0 w [Qq g1 72 #[(.int .i64 q2), (.int .i64 q3), (.int .i64 q4), (.int .i64 q5), (.slice A7 (List.length (List.map stT d9)) c8), (.int .i64 a5), (.bool a6)], Yx A7 c8 d9, Q6 9 Ql u a0 s, Ll d8 Kr, Qq d2 142 #[(.int .i64 0), .nilFunc]])] 11 4 ⟨trivial, SP.drew e4⟩ ?_ ?_
  iterate 11 refine And.intro ?_ ?_
  exact trivial
  ·refine Owe.heavy K [(0, 1), (2, 3)] K (Qc ⟨K, K, ?_⟩ (Qc ⟨K, K, ?_⟩ Q8))
   ·rintro ρ' w' hs q ⟨v5, m7⟩
    refine kN [] trivial fun a => ?_
    refine cF 91 #[] #[] 17 Tryz.call91 (Y6   w'  c7 c9) ?_
    rintro e v6 ⟨m8, rfl, f2⟩
    refine ⟨_, rfl, ?_⟩
    have m9 := SP.call m7 f2
    clear f2
    refine ⟨_, Qa a, trivial, ?_⟩
    exact (Exists.intro m8 (And.intro (And.intro rfl (trivial)) m9))
   ·rintro ρ' w' hs q ⟨c5, ⟨n0, -⟩, n1⟩
    refine kN [] trivial fun a => ?_
    refine cF 91 #[] #[] 17 Tryz.call91 (Y6   w'  c7 c9) ?_
    rintro e v7 ⟨n2, rfl, f3⟩
    refine ⟨_, rfl, ?_⟩
    have n3 := SP.call n1 f3
    clear f3
    refine ⟨_, Qa a, trivial, ?_⟩
    exact (Exists.intro n2 (Exists.intro c5 (And.intro (And.intro rfl (And.intro n0 (trivial))) (SP.sel n3 [0, 1, 2, 4, 3] rfl rfl))))
  ·exact oV (hC (hS 6 (.slice u (List.length s) a0)) (h0)) (.slice u (List.length s) a0)
  ·refine Owe.light K [0, 1, 2, 3] K (Qc ?_ (Qc ?_ (Qc ?_ (Qc ?_ Q8))))
   ·rintro ρ' w' hs q ⟨v8, n4⟩
    refine kM (kc (kA q 1 18) k0) fun a => ?_
    refine Qn (e := Ql) (l := s) (A := u) (c := a0) (T := 79) (E := 9) (x := (.tmp 18)) (ix := (.const (.int .i64 (0)))) (ki := .i64) (iz := 0) (d := (some 19)) (k := 2) K rfl K K K K (Vg (SP.get n4 (i := 2) rfl)) a3 a4 ?_
    intro n5 n6 n7 v9 hc632
    exact ⟨rfl, _, Qa a, ⟨n5, n6, n7, rfl⟩⟩
   ·rintro ρ' w' hs q ⟨b3, ⟨w1, -⟩, n8⟩
    refine kM (kc (kA q 1 18) k0) fun a => ?_
    refine Qn (e := Ql) (l := s) (A := u) (c := a0) (T := 79) (E := 9) (x := (.tmp 18)) (ix := (.const (.int .i64 (0)))) (ki := .i64) (iz := 0) (d := (some 19)) (k := 2) K rfl K K K K (Vg (SP.get n8 (i := 2) rfl)) a3 a4 ?_
    intro n9 o0 o1 w2 hc640
    exact ⟨rfl, _, Qa a, ⟨n9, o0, o1, rfl⟩⟩
   ·rintro ρ' w' hs q ⟨c5, ⟨w3, -⟩, o2⟩
    refine kM (kc (kA q 1 18) k0) fun a => ?_
    refine Qn (e := Ql) (l := s) (A := u) (c := a0) (T := 79) (E := 9) (x := (.tmp 18)) (ix := (.const (.int .i64 (0)))) (ki := .i64) (iz := 0) (d := (some 19)) (k := 2) K rfl K K K K (Vg (SP.get o2 (i := 2) rfl)) a3 a4 ?_
    intro o3 o4 o5 w4 hc648
    exact ⟨rfl, _, Qa a, ⟨o3, o4, o5, rfl⟩⟩
   ·rintro ρ' w' hs q ⟨b4, b5, ⟨w5, w6, -⟩, o6⟩
    refine kM (kc (kA q 1 18) k0) fun a => ?_
    refine Qn (e := Ql) (l := s) (A := u) (c := a0) (T := 79) (E := 9) (x := (.tmp 18)) (ix := (.const (.int .i64 (0)))) (ki := .i64) (iz := 0) (d := (some 19)) (k := 2) K rfl K K K K (Vg (SP.get o6 (i := 2) rfl)) a3 a4 ?_
    intro o7 o8 o9 w7 hc657
    exact ⟨rfl, _, Qa a, ⟨o7, o8, o9, rfl⟩⟩
  ·refine Owe.light K [0, 1, 2, 3] K (Qc ?_ (Qc ?_ (Qc ?_ (Qc ?_ Q8))))
   ·rintro ρ' w' hs q ⟨w8, p0⟩
    obtain ⟨p1, p2, p3, a7⟩ := q 2 19 K
    refine kM (kc a7 k0) fun a => ?_
    refine sC 9 19 p1 (p2 + Int.toNat 0 * Ql.sz) (.string ⟨List.toArray p⟩) 20 (Qw (e := Ql) (Qj (Vg (SP.get p0 (i := 2) rfl)) p3 a3 a4) b6 (j := 0) rfl) ?_
    exact eK a
   ·rintro ρ' w' hs q ⟨b3, ⟨w9, -⟩, p4⟩
    obtain ⟨p5, p6, p7, a7⟩ := q 2 19 K
    refine kM (kc a7 k0) fun a => ?_
    refine sC 9 19 p5 (p6 + Int.toNat 0 * Ql.sz) (.string ⟨List.toArray p⟩) 20 (Qw (e := Ql) (Qj (Vg (SP.get p4 (i := 2) rfl)) p7 a3 a4) b6 (j := 0) rfl) ?_
    exact eK a
   ·rintro ρ' w' hs q ⟨c5, ⟨x0, -⟩, p8⟩
    obtain ⟨p9, q0, q1, a7⟩ := q 2 19 K
    refine kM (kc a7 k0) fun a => ?_
    refine sC 9 19 p9 (q0 + Int.toNat 0 * Ql.sz) (.string ⟨List.toArray p⟩) 20 (Qw (e := Ql) (Qj (Vg (SP.get p8 (i := 2) rfl)) q1 a3 a4) b6 (j := 0) rfl) ?_
    exact eK a
   ·rintro ρ' w' hs q ⟨b4, b5, ⟨x1, x2, -⟩, q6⟩
    obtain ⟨q7, q8, q9, a7⟩ := q 2 19 K
    refine kM (kc a7 k0) fun a => ?_
    refine sC 9 19 q7 (q8 + Int.toNat 0 * Ql.sz) (.string ⟨List.toArray p⟩) 20 (Qw (e := Ql) (Qj (Vg (SP.get q6 (i := 2) rfl)) q9 a3 a4) b6 (j := 0) rfl) ?_
    exact eK a
  ·refine Owe.light K [1, 3] K (Qc ?_ (Qc ?_ Q8))
   ·rintro ρ' w' hs q ⟨b3, ⟨r0, -⟩, r1⟩
    refine kN [(17, (.map (some b3))), (20, (.string ⟨List.toArray p⟩))] ⟨(Vo (h := 0) K).symm.trans r0, q 3 20 K, trivial⟩ fun a => ?_
    refine Ef (T := 144) (kt := 9) (et := 142) (m := b3) (L := Kr) (k := (.string ⟨List.toArray p⟩)) (d := .string) (x := (.tmp 17)) (ix := (.tmp 20)) (dst := (some 21)) (o := 4) (v := (.agg #[(.int .i64 0), .nilFunc])) K rfl K K K K (fun _ => K) K (Ks b9) (SP.get r1 (i := 3) rfl) ?_
    exact eK a
   ·rintro ρ' w' hs q ⟨b4, b5, ⟨r2, x3, -⟩, r3⟩
    refine kN [(17, (.map (some b4))), (20, (.string ⟨List.toArray p⟩))] ⟨(Vo (h := 0) K).symm.trans r2, q 3 20 K, trivial⟩ fun a => ?_
    refine Ef (T := 144) (kt := 9) (et := 142) (m := b4) (L := Kr) (k := (.string ⟨List.toArray p⟩)) (d := .string) (x := (.tmp 17)) (ix := (.tmp 20)) (dst := (some 21)) (o := 4) (v := (.agg #[(.int .i64 0), .nilFunc])) K rfl K K K K (fun _ => K) K (Ks b9) (SP.get r3 (i := 3) rfl) ?_
    exact eK a
  ·exact oV (hC (hA 4 21) (h0)) (.tuple #[(.agg #[(.int .i64 0), .nilFunc]), (.bool false)])
  ·exact oV (hC (hA 5 16) (h0)) (.agg #[(.int .i64 0), .nilFunc])
  ·exact oV (hC (hA 5 16) (h0)) (.bool false)
  ·refine Owe.heavy K [(0, 2), (1, 3)] K (Qc ⟨K, K, ?_⟩ (Qc ⟨K, K, ?_⟩ Q8))
   ·rintro ρ' w' hs q ⟨x4, r4⟩
    refine kN [] trivial fun a => ?_
    refine Qi.alloc (t := 142) (z := (.agg #[(.int .i64 0), .nilFunc])) (d := (some 7)) (k := 8) K rfl K r4 ?_
    intro r5 x5 r6
    refine ⟨_, Qa a, trivial, ?_⟩
    exact (Exists.intro r5 (And.intro (And.intro rfl (trivial)) r6))
   ·rintro ρ' w' hs q ⟨b3, ⟨r7, -⟩, r8⟩
    refine kN [] trivial fun a => ?_
    refine Qi.alloc (t := 142) (z := (.agg #[(.int .i64 0), .nilFunc])) (d := (some 7)) (k := 8) K rfl K r8 ?_
    intro r9 x6 s0
    refine ⟨_, Qa a, trivial, ?_⟩
    exact (Exists.intro b3 (Exists.intro r9 (And.intro (And.intro r7 (And.intro rfl (trivial))) s0)))
  ·refine oH 3 4 ?_
   ·rintro ρ' w' hs q ⟨b4, b5, ⟨s1, f4, -⟩, s2⟩
    refine kN [(7, (pt b5 0)), (22, (.agg #[(.int .i64 0), .nilFunc]))] ⟨(Vo (h := 8) K).symm.trans f4, q 6 22 K, trivial⟩ fun a => ?_
    refine Qi.store (t := 142) (x := (.tmp 7)) (y := (.tmp 22)) (g := b5) (off := 0) (i := 4) (v := (.agg #[(.int .i64 0), .nilFunc])) (cs' := #[(.int .i64 0), .nilFunc]) (d := none) (k := 9) K rfl K K s2 rfl K ?_
    intro x7 s3
    refine ⟨_, Qa a, trivial, ?_⟩
    exact (Exists.intro b4 (Exists.intro b5 (And.intro (And.intro s1 (And.intro f4 (And.intro rfl (trivial)))) s3)))
  ·exact oV (hC (hA 7 23) (h0)) (.bool false)
  ·rintro ρ' w' hs hf ⟨d8, d2, ⟨x8, s4, x9, -⟩, f5⟩
   refine V2 [(0, (pt g1 0)), (5, (.bool a2.2)), (6, (.slice u (List.length s) a0)), (7, (pt d2 0)), (8, (.bool false))] ⟨(hs 0 K).trans K, (hs 5 K).trans K, (hs 6 K).trans K, (Vo (h := 8) K).symm.trans s4, hf 10 8 K, trivial⟩ ?_
   obtain ⟨y0, s5⟩ : ∃ x, w' = x := ⟨_, rfl⟩
   rw [s5] at f5 ⊢
   refine aQ ?_
   refine aQ ?_
   refine aR ?_
   refine iR 13 13 [(24, (.bool false)), (25, (.bool true)), (26, (.bool true)), (27, undef), (28, undef), (29, (.bool true)), (30, (.bool true)), (31, undef), (32, undef), (33, undef), (34, undef), (35, undef), (36, (.bool true))] ?_
   refine iF ?_
   refine Xe K (o := (.tmp 36)) K (b := true) K (fun f6 => ?_) (fun f6 => ?_)
   rotate_left
   ·cases f6
   refine aQ ?_
   refine aR ?_
   refine iR 1 1 [(4, (.bool false))] ?_
   refine iF ?_
   refine At.ret K ?_
   refine ⟨(.bool false), K, ?_⟩
   obtain rfl := Qg H
   exact ⟨A7, c8, d9, rfl, rfl, SP.sel f5 [0,1] rfl rfl⟩
end Go.Proofs.YtoflbpmbkmephaaGreatDoor
namespace Go.Proofs.YtoflbpmbkmephaaGreatDoor
open Go.RowKit
def DeepR (Q : World → Prop) (E : Ent) (A : Option Addr) (c : Nat) (l : List Qb) : Prop := ∃ d : List Qh, l = List.map stT d ∧ ∀ w, Q w → E.ok w → (dDS V1 Fc).ok w (A, c, d)
section
variable {S : List Nat} {w w' w0 : World} {es : List Ent} {Q Q' : World → Prop} {E E' e1 e2 : Ent} {A : Option Addr} {c : Nat} {l : List Qb} {d : List Qh} {i j : Nat} {T : TypeId}
theorem DeepR.nil (Q : World → Prop) (E : Ent) : DeepR Q E none 0 [] := ⟨[], rfl, fun w _ _ => ds_nil V1 Fc w⟩
end
section
variable {α : Type} {e : Enc α} {p : Dp α} {w w0 : World} {Q : World → Prop} {A : Option Addr} {c : Nat} {l m : List α}
theorem el_below (h : (dDS e p).ok w0 (A, c, l)) : ∀ w, Below w0.heap.size w0 w → ∀ y ∈ l, p.ok w y := fun w hb => ((dDS e p).mono hb h).2
theorem elq_nil : ∀ w, Q w → ∀ y ∈ ([] : List α), p.ok w y := fun w _ y hy => by cases hy
theorem elq_app (h1 : ∀ w, Q w → ∀ y ∈ l, p.ok w y) (h2 : ∀ w, Q w → ∀ y ∈ m, p.ok w y) : ∀ w, Q w → ∀ y ∈ l ++ m, p.ok w y := fun w hq y hy => by
  rcases List.mem_append.1 hy with hy | hy
  · exact h1 w hq y hy
  · exact h2 w hq y hy
end
theorem elq_ten {Q : World → Prop} {nm : List UInt8} {a b : Int} {A1 A2 : Option Addr} {c1 c2 : Nat} {l1 : List (Int × Int)} {l2 : List (List UInt8 × List UInt8 × Int)} (h1 : ∀ w, Q w → RdT eNet w A1 c1 l1) (h2 : ∀ w, Q w → RdT eTok w A2 c2 l2) : ∀ w, Q w → ∀ y ∈ ([(nm, a, b, (A1, c1, l1), (A2, c2, l2))] : List Qh), Fc.ok w y := fun w hq y hy => by
  rw [List.mem_singleton] at hy
  subst hy
  exact ⟨trivial, trivial, trivial, ⟨h1 w hq, fun _ _ => trivial⟩, ⟨h2 w hq, fun _ _ => trivial⟩⟩
theorem Kt {l m : List Qh} : List.map stT l ++ List.map stT m = List.map stT (l ++ m) := List.map_append.symm
section
variable {α γ : Type} {P : Program} {n : Nat} {ρ : Fr} {w w0 : World} {B : Code} {p : List Bool} {k : Nat} {K : Fr → World → Prop} {S : List Nat} {es : List Ent} {d : Option Nat} {e : Enc α} {A A2 : Option Addr} {c c2 i b : Nat} {l m : List α}
theorem R6 (f : α → γ) {T TX E E2 : TypeId} {s x : Operand} (ho : G2 (Qe B p) k ρ = some (.call { callee := .builtin .append, args := #[s, x], argTypes := #[T, TX] }, d)) (hd : Xz n d = true)
    (hv : opv ρ s = .slice A (List.length (List.map f l)) c) (hx : opv ρ x = .slice A2 (List.length (List.map f m)) c2) (hT : P.underlying T = some (.slice E)) (hE : (P.info? E).map (fun i => (i.zero.map (·.cells.size), i.size, i.bytes)) = some (some e.sz, e.sz, b)) (hb : (Nat.ble 1 e.sz && Nat.ble b 65536) = true)
    (hs : SP S w0 w es) (hi : es[i]? = some (Q6 E e A c l)) (hTX : P.underlying TX = some (.slice E2)) (hrd : RdT e w A2 c2 m) (hlen : (List.map f l).length + (List.map f m).length ≤ 2147483648)
    (next : ∀ (A' : Option Addr) (c' : Nat) (w' : World), SP S w0 w' (es.set i (Q6 E e A' c' (l ++ m))) → K (Ui ρ d (.slice A' (List.length (List.map f (l ++ m))) c')) w') : Qi P n B p k K ρ w := by
  rw [List.length_map] at hv hx
  rw [List.length_map, List.length_map] at hlen
  refine Qi.append ho hd hv hx hT hE hb hs hi (Dw hTX hrd) hlen fun A' c' w' hs' => ?_
  have := next A' c' w' hs'
  rw [List.length_map] at this
  exact this
end
end Go.Proofs.YtoflbpmbkmephaaGreatDoor
namespace Go.Proofs.YtoflbpmbkmephaaGreatDoor
open Go.RowKit
abbrev Nj := Int × Int × Int × Int × List Qb
def okC (c : Nj) : Bool := H3 c.1 c.2.1 c.2.2.1 c.2.2.2.1 c.2.2.2.2
def c0C : Nj := (0, 0, 0, 0, [])
def Rh (c : Nj) (l : List Qb) : Nj := (c.1, c.2.1, c.2.2.1, c.2.2.2.1, l)
def Cc (t : Qb) (n : H0) : Qb := (t.1, t.2.1, t.2.2.1, t.2.2.2.1 ++ [n], t.2.2.2.2)
def Ej (t : Qb) (x : C6) : Qb := (t.1, t.2.1, t.2.2.1, t.2.2.2.1, t.2.2.2.2 ++ [x])
def Nk (c : Nj) (k : Str) (q : List Str) : Option Nj :=
  if k = Za then match q with
    | [a, b, d, e] => (V0 a).bind fun (n1 : Nat) => (V0 b).bind fun (n2 : Nat) => (V0 d).bind fun (n3 : Nat) => (V0 e).map fun (n4 : Nat) => ((n1 : Int), (n2 : Int), (n3 : Int), (n4 : Int), [])
    | _ => none
  else if k = Zd then match q with
    | [a, b, d] => (V0 b).bind fun (n : Nat) => (V0 d).map fun (m : Nat) => Rh c (c.2.2.2.2 ++ [(a, (n : Int), (m : Int), [], [])])
    | _ => none
  else if k = Gy then match q with
    | [a] => c.2.2.2.2.getLast?.bind fun t => if t.2.2.2.2 = [] then (netL a).map fun n => Rh c (c.2.2.2.2.dropLast ++ [Cc t ((n.1 : Int), (n.2 : Int))]) else none
    | _ => none
  else if k = Js then match q with
    | [a, b, d] => c.2.2.2.2.getLast?.bind fun t => (Uf b).bind fun x => (V0 d).map fun (n : Nat) => Rh c (c.2.2.2.2.dropLast ++ [Ej t (a, x, (n : Int))])
    | _ => none
  else none
def BndT (k : Nat) (t : Qb) : Prop := t.1.length ≤ 5000 ∧ t.2.2.2.1.length ≤ k + 4 ∧ t.2.2.2.2.length ≤ k + 4 ∧ (∀ n ∈ t.2.2.2.1, 0 ≤ n.1 ∧ n.1 < 4294967296) ∧ ∀ x ∈ t.2.2.2.2, x.1.length ≤ 5000 ∧ x.2.1.length ≤ 5000
def Lo (k : Nat) (c : Nj) : Prop := c.2.2.2.2.length ≤ k + 8 ∧ ∀ t ∈ c.2.2.2.2, BndT k t
theorem bnd_tenQ {t : Qb} (h : BndT 1 t) : TenQ t := ⟨by have := h.1; omega, by have := h.2.1; omega, by have := h.2.2.1; omega, h.2.2.2.1, fun x hx => ⟨by have := (h.2.2.2.2 x hx).1; omega, by have := (h.2.2.2.2 x hx).2; omega⟩⟩
theorem bnd_le {t : Qb} (h : BndT 0 t) : BndT 1 t := ⟨h.1, by have := h.2.1; omega, by have := h.2.2.1; omega, h.2.2.2⟩
theorem okC_bnd {c : Nj} (h : Lo 1 c) (ho : okC c = true) : Lo 0 c := by
  unfold okC H3 at ho
  simp only [Bool.and_eq_true, decide_eq_true_eq, List.all_eq_true] at ho
  obtain ⟨_, h1, h2, _⟩ := ho
  refine ⟨by omega, fun t ht => ?_⟩
  have h3 := h2 t ht
  unfold D2 at h3
  simp only [Bool.and_eq_true, decide_eq_true_eq] at h3
  obtain ⟨_, ⟨_, h4, h5⟩, _⟩ := h3
  obtain ⟨b1, b2, b3, b4⟩ := h.2 t ht
  exact ⟨b1, by omega, by omega, b4⟩
theorem pCfg {c : Nj} (h : Lo 1 c) : Z1 c.1 c.2.1 c.2.2.1 c.2.2.2.1 c.2.2.2.2 = some (okC c) := lCfg _ _ _ _ _ (by have := h.1; omega) fun t ht => bnd_tenQ (h.2 t ht)
theorem netL_rng {a : Str} {n : Nat × Nat} (h : netL a = some n) : (n.1 : Int) < 4294967296 := by
  obtain ⟨x, y⟩ := n
  have := (slash_net h).2.2
  show (x : Int) < _
  omega
theorem Ku {c c' : Nj} {k : Str} {q : List Str} (h : Lo 0 c) (hq : ∀ w ∈ q, w.length ≤ 5000) (hw : Nk c k q = some c') : Lo 1 c' := by
  unfold Nk at hw
  have up : ∀ t ∈ c.2.2.2.2, BndT 1 t := fun t ht => bnd_le (h.2 t ht)
  have dl : ∀ (t t' : Qb), c.2.2.2.2.getLast? = some t → BndT 1 t' → Lo 1 (Rh c (c.2.2.2.2.dropLast ++ [t'])) := by
    intro t t' ht ht'
    refine ⟨by have := h.1; simp [Rh]; omega, fun y hy => ?_⟩
    rcases List.mem_append.1 hy with hy | hy
    · exact up y (List.dropLast_subset _ hy)
    · rw [List.mem_singleton] at hy
      subst hy
      exact ht'
  split at hw
  · split at hw
    · simp only [Option.bind_eq_some_iff, Option.map_eq_some_iff] at hw
      obtain ⟨_, _, _, _, _, _, _, _, rfl⟩ := hw
      exact ⟨Nat.zero_le _, fun t ht => by cases ht⟩
    · cases hw
  · split at hw
    · split at hw
      · simp only [Option.bind_eq_some_iff, Option.map_eq_some_iff] at hw
        obtain ⟨_, _, _, _, rfl⟩ := hw
        refine ⟨by have := h.1; simp [Rh]; omega, fun t ht => ?_⟩
        rcases List.mem_append.1 ht with ht | ht
        · exact up t ht
        · rw [List.mem_singleton] at ht
          subst ht
          exact ⟨hq _ (by simp), Nat.zero_le _, Nat.zero_le _, fun n hn => (by cases hn), fun x hx => (by cases hx)⟩
      · cases hw
    · split at hw
      · split at hw
        · simp only [Option.bind_eq_some_iff] at hw
          obtain ⟨t, ht, hw⟩ := hw
          split at hw
          · simp only [Option.map_eq_some_iff] at hw
            obtain ⟨n, hn, rfl⟩ := hw
            obtain ⟨b1, b2, b3, b4, b5⟩ := h.2 t (List.mem_of_getLast? ht)
            refine dl t _ ht ⟨b1, by simp [Cc]; omega, by simp only [Cc]; omega, fun y hy => ?_, b5⟩
            rcases List.mem_append.1 hy with hy | hy
            · exact b4 y hy
            · rw [List.mem_singleton] at hy
              subst hy
              exact ⟨by simp, netL_rng hn⟩
          · cases hw
        · cases hw
      · split at hw
        · split at hw
          · simp only [Option.bind_eq_some_iff, Option.map_eq_some_iff] at hw
            obtain ⟨t, ht, x, hx, n, hn, rfl⟩ := hw
            obtain ⟨b1, b2, b3, b4, b5⟩ := h.2 t (List.mem_of_getLast? ht)
            refine dl t _ ht ⟨b1, by simp only [Ej]; omega, by simp [Ej]; omega, b4, fun y hy => ?_⟩
            rcases List.mem_append.1 hy with hy | hy
            · exact b5 y hy
            · rw [List.mem_singleton] at hy
              subst hy
              refine ⟨hq _ (by simp), ?_⟩
              have h1 := Fj hx
              rename_i a b d
              have h3 := hq b (by simp)
              show x.length ≤ 5000
              omega
          · cases hw
        · cases hw
theorem Kv {l : List Qb} {t : Qb} (hl : l.length ≤ 9000) (h : l.getLast? = some t) : idx l (IntKind.wrap .i64 (((List.length l : Nat) : Int) - 1)) = some t := by
  have hne : l ≠ [] := fun e => by rw [e] at h; cases h
  have hp := List.length_pos_iff.2 hne
  rw [show (((List.length l : Nat) : Int) - 1) = ((l.length - 1 : Nat) : Int) by omega, J5 (by omega), Dy, ← List.getLast?_eq_getElem?, h]
end Go.Proofs.YtoflbpmbkmephaaGreatDoor
namespace Go.Proofs.YtoflbpmbkmephaaGreatDoor
open Go.RowKit
def Ek (c : Nj) (first : Bool) (ws : List Str) : Option Nj := match ws with
  | [] => none
  | k :: q => if (k == Za) == first then (Nk c k q).filter okC else none
theorem Ia (q2 q3 q4 q5 q7 : Int) (q8 : Bool) (p : Str) (hp : p.length ≤ 9000) : Vj q2 q3 q4 q5 q7 q8 p = some ((N2 (V0 p)).1, q2, q3, q4, q5, q7, q8 || !(N2 (V0 p)).2) := by
  unfold Vj Xh
  rw [lParse p (by omega), Option.bind_some]
  cases q8 <;> rfl
def ResP (r : Option Nj) (many : Nat) (z : Int × Int × Int × Int × List Qb × Int × Bool) : Prop := match r with
  | some c => z = (c.1, c.2.1, c.2.2.1, c.2.2.2.1, c.2.2.2.2, (many : Int), false)
  | none => z.2.2.2.2.2.2 = true
theorem Fn {β : Type} {l : List Qb} {t : Qb} (f : List Qb → Qb → List Qb → Option β) (h : l.getLast? = some t) : Ln l f = f l.dropLast t l := by
  unfold Ln lastT
  rw [h]
  rfl
theorem Kw (c : Nj) {t : Qb} (m : Int) (b : Bool) (hl : c.2.2.2.2.length ≤ 9000) (h : c.2.2.2.2.getLast? = some t) : Zz c.1 c.2.1 c.2.2.1 c.2.2.2.1 c.2.2.2.2 m b = some () := by
  have hne : c.2.2.2.2 ≠ [] := fun e => by rw [e] at h; cases h
  have hp := List.length_pos_iff.2 hne
  unfold Zz
  rw [show (((List.length c.2.2.2.2 : Nat) : Int) == 0) = false by rw [beq_eq_false_iff_ne]; omega, cond_false, Kv hl h]
  rfl
theorem El (c : Nj) (a b d e : Str) : Nk c Za [a, b, d, e] = (V0 a).bind fun (n1 : Nat) => (V0 b).bind fun (n2 : Nat) => (V0 d).bind fun (n3 : Nat) => (V0 e).map fun (n4 : Nat) => ((n1 : Int), (n2 : Int), (n3 : Int), (n4 : Int), []) := by
  unfold Nk
  rw [if_pos rfl]
theorem R7 (c : Nj) (a b d : Str) : Nk c Zd [a, b, d] = (V0 b).bind fun (n : Nat) => (V0 d).map fun (m : Nat) => Rh c (c.2.2.2.2 ++ [(a, (n : Int), (m : Int), [], [])]) := by
  unfold Nk
  rw [if_neg (by decide), if_pos rfl]
theorem Ib (c : Nj) (a : Str) : Nk c Gy [a] = c.2.2.2.2.getLast?.bind fun t => if t.2.2.2.2 = [] then (netL a).map fun n => Rh c (c.2.2.2.2.dropLast ++ [Cc t ((n.1 : Int), (n.2 : Int))]) else none := by
  unfold Nk
  rw [if_neg (by decide), if_neg (by decide), if_pos rfl]
theorem Em (c : Nj) (a b d : Str) : Nk c Js [a, b, d] = c.2.2.2.2.getLast?.bind fun t => (Uf b).bind fun x => (V0 d).map fun (n : Nat) => Rh c (c.2.2.2.2.dropLast ++ [Ej t (a, x, (n : Int))]) := by
  unfold Nk
  rw [if_neg (by decide), if_neg (by decide), if_neg (by decide), if_pos rfl]
theorem pRead (c : Nj) (many : Nat) (k : Str) (q : List Str) (hc : Lo 0 c) (hm : many = 0 → c = c0C) (hk : cin k = true) (hlen : ((List.length (k :: q) : Nat) : Int) = Nf k) (hw : ∀ w ∈ q, w.length ≤ 5000) :
    ∃ z, Ei k c.1 c.2.1 c.2.2.1 c.2.2.2.1 c.2.2.2.2 (many : Int) false (k :: q) = some z ∧ ResP (if k = Za ∧ many ≠ 0 then none else Nk c k q) many z := by
  have hw' : ∀ w ∈ q, w.length ≤ 9000 := fun w h => by have := hw w h; omega
  have hcl : c.2.2.2.2.length ≤ 9000 := by have := hc.1; omega
  unfold Ei
  rcases Eh hk with rfl | rfl | rfl | rfl
  ·
    have h5 : q.length = 4 := by rw [List.length_cons, show Nf Za = 5 from rfl] at hlen; omega
    obtain ⟨a, b, d, e, rfl⟩ : ∃ a b d e, q = [a, b, d, e] := by
      match q, h5 with
      | [a, b, d, e], _ => exact ⟨a, b, d, e, rfl⟩
    rw [show (Za == Za) = true from rfl, cond_true]
    unfold Yn
    rw [show idx [Za, a, b, d, e] 1 = some a from rfl, Option.bind_some, Ia _ _ _ _ _ _ _ (hw' a (by simp)), Option.bind_some, show idx [Za, a, b, d, e] 2 = some b from rfl, Option.bind_some, Ia _ _ _ _ _ _ _ (hw' b (by simp)), Option.bind_some, show idx [Za, a, b, d, e] 3 = some d from rfl, Option.bind_some, Ia _ _ _ _ _ _ _ (hw' d (by simp)), Option.bind_some, show idx [Za, a, b, d, e] 4 = some e from rfl, Option.bind_some, Ia _ _ _ _ _ _ _ (hw' e (by simp)), Option.bind_some, Option.bind_some]
    refine ⟨_, rfl, ?_⟩
    by_cases h0 : many = 0
    · rw [if_neg (fun h => h.2 h0), hm h0]
      subst h0
      rw [El]
      cases V0 a with
      | none => exact (by simp [ResP, N2])
      | some n1 =>
        cases V0 b with
        | none => exact (by simp [ResP, N2])
        | some n2 =>
          cases V0 d with
          | none => exact (by simp [ResP, N2])
          | some n3 =>
            cases V0 e with
            | none => exact (by simp [ResP, N2])
            | some n4 => rfl
    · rw [if_pos ⟨rfl, h0⟩, show decide ((many : Int) > 0) = true from decide_eq_true (by omega)]
      simp [ResP]
  ·
    have h5 : q.length = 3 := by rw [List.length_cons, show Nf Zd = 4 from rfl] at hlen; omega
    obtain ⟨a, b, d, rfl⟩ : ∃ a b d, q = [a, b, d] := by
      match q, h5 with
      | [a, b, d], _ => exact ⟨a, b, d, rfl⟩
    rw [show (Zd == Za) = false from rfl, cond_false, show (Zd == Zd) = true from rfl, cond_true, if_neg (fun h => absurd h.1 (by decide))]
    rw [R7]
    unfold Ya
    rw [show idx [Zd, a, b, d] 1 = some a from rfl, Option.bind_some, show idx [Zd, a, b, d] 2 = some b from rfl, Option.bind_some, Ia _ _ _ _ _ _ _ (hw' b (by simp)), Option.bind_some, show idx [Zd, a, b, d] 3 = some d from rfl, Option.bind_some, Ia _ _ _ _ _ _ _ (hw' d (by simp)), Option.bind_some, Nm (by simp; omega), Option.bind_some]
    refine ⟨_, rfl, ?_⟩
    cases V0 b with
    | none => exact (by simp [ResP, N2])
    | some n =>
      cases V0 d with
      | none => exact (by simp [ResP, N2])
      | some m => rfl
  ·
    have h5 : q.length = 1 := by rw [List.length_cons, show Nf Gy = 2 from rfl] at hlen; omega
    obtain ⟨a, rfl⟩ : ∃ a, q = [a] := by
      match q, h5 with
      | [a], _ => exact ⟨a, rfl⟩
    rw [show (Gy == Za) = false from rfl, cond_false, show (Gy == Zd) = false from rfl, cond_false, show (Gy == Gy) = true from rfl, cond_true, if_neg (fun h => absurd h.1 (by decide))]
    rw [Ib]
    unfold Y5
    rw [show idx [Gy, a] 1 = some a from rfl, Option.bind_some, lNet a (hw' a (by simp)), Option.bind_some]
    cases ht : c.2.2.2.2.getLast? with
    | none =>
      have h0 : c.2.2.2.2 = [] := List.getLast?_eq_none_iff.1 ht
      rw [h0]
      exact ⟨_, rfl, rfl⟩
    | some t =>
      have hne : c.2.2.2.2 ≠ [] := fun e => by rw [e] at ht; cases ht
      obtain ⟨b1, b2, b3, b4, b5⟩ := hc.2 t (List.mem_of_getLast? ht)
      rw [show List.isEmpty c.2.2.2.2 = false by rw [List.isEmpty_eq_false_iff]; exact hne, cond_false, Kw c _ _ hcl ht, Option.bind_some, Fn _ ht]
      unfold Zn
      rw [Nm (by simp; omega)]
      simp only [Option.bind_some, cond_false]
      cases netL a with
      | none => exact ⟨_, rfl, by split <;> rfl⟩
      | some n =>
        by_cases h6 : t.2.2.2.2 = []
        · rw [if_pos h6, show decide (((List.length t.2.2.2.2 : Nat) : Int) > 0) = false by rw [h6]; rfl]
          exact ⟨_, rfl, rfl⟩
        · rw [if_neg h6, show decide (((List.length t.2.2.2.2 : Nat) : Int) > 0) = true from decide_eq_true (by have := List.length_pos_iff.2 h6; omega)]
          exact ⟨_, rfl, rfl⟩
  ·
    have h5 : q.length = 3 := by rw [List.length_cons, show Nf Js = 4 from rfl] at hlen; omega
    obtain ⟨a, b, d, rfl⟩ : ∃ a b d, q = [a, b, d] := by
      match q, h5 with
      | [a, b, d], _ => exact ⟨a, b, d, rfl⟩
    rw [show (Js == Za) = false from rfl, cond_false, show (Js == Zd) = false from rfl, cond_false, show (Js == Gy) = false from rfl, cond_false, if_neg (fun h => absurd h.1 (by decide))]
    rw [Em]
    unfold Yo
    rw [show idx [Js, a, b, d] 2 = some b from rfl, Option.bind_some, Lk b (by have := hw' b (by simp); omega), Option.bind_some, cond_false]
    cases ht : c.2.2.2.2.getLast? with
    | none =>
      have h0 : c.2.2.2.2 = [] := List.getLast?_eq_none_iff.1 ht
      unfold Zb Xo
      rw [h0]
      simp only [List.isEmpty_nil, cond_true, List.length_nil, Option.bind_some]
      rw [show (((0 : Nat) : Int) == 0) = true from rfl, cond_true, Option.bind_some, show idx [Js, a, b, d] 1 = some a from rfl, Option.bind_some, show idx [Js, a, b, d] 3 = some d from rfl, Option.bind_some, Ia _ _ _ _ _ _ _ (hw' d (by simp)), Option.bind_some, Nm (by simp), Option.bind_some]
      exact ⟨_, rfl, rfl⟩
    | some t =>
      have hne : c.2.2.2.2 ≠ [] := fun e => by rw [e] at ht; cases ht
      obtain ⟨b1, b2, b3, b4, b5⟩ := hc.2 t (List.mem_of_getLast? ht)
      unfold Zb
      rw [show List.isEmpty c.2.2.2.2 = false by rw [List.isEmpty_eq_false_iff]; exact hne, cond_false, Kw c _ _ hcl ht, Option.bind_some, Fn _ ht, show idx [Js, a, b, d] 1 = some a from rfl, Option.bind_some, show idx [Js, a, b, d] 3 = some d from rfl, Option.bind_some, Ia _ _ _ _ _ _ _ (hw' d (by simp)), Option.bind_some, Nm (by simp; omega), Option.bind_some]
      refine ⟨_, rfl, ?_⟩
      cases Uf b with
      | none => exact (by simp [ResP, unhexD])
      | some x =>
        cases V0 d with
        | none => exact (by simp [ResP, unhexD, N2])
        | some n => rfl
theorem cin_not {k : Str} (h : cin k = false) (c : Nj) (q : List Str) : Nk c k q = none := by
  unfold cin at h
  rw [Bool.or_eq_false_iff, Bool.or_eq_false_iff, Bool.or_eq_false_iff] at h
  obtain ⟨h1, h2, h3, h4⟩ := h
  unfold Nk
  rw [if_neg (by simpa using h1), if_neg (by simpa using h2), if_neg (by simpa using h3), if_neg (by simpa using h4)]
theorem len_not {k : Str} (hk : cin k = true) {q : List Str} (h : ((List.length (k :: q) : Nat) : Int) ≠ Nf k) (c : Nj) : Nk c k q = none := by
  unfold Nk
  rcases Eh hk with rfl | rfl | rfl | rfl
  · rw [if_pos rfl]
    split
    · exact absurd rfl h
    · rfl
  · rw [if_neg (by decide), if_pos rfl]
    split
    · exact absurd rfl h
    · rfl
  · rw [if_neg (by decide), if_neg (by decide), if_pos rfl]
    split
    · exact absurd rfl h
    · rfl
  · rw [if_neg (by decide), if_neg (by decide), if_neg (by decide), if_pos rfl]
    split
    · exact absurd rfl h
    · rfl
theorem first_not {k : Str} {q : List Str} {c' : Nj} (hk : k ≠ Za) (h : Nk c0C k q = some c') : okC c' = false := by
  have hz : c'.1 = 0 := by
    unfold Nk at h
    rw [if_neg hk] at h
    split at h
    · split at h
      · simp only [Option.bind_eq_some_iff, Option.map_eq_some_iff] at h
        obtain ⟨_, _, _, _, rfl⟩ := h
        rfl
      · cases h
    · split at h
      · split at h <;> cases h
      · split at h
        · split at h <;> cases h
        · cases h
  unfold okC H3
  rw [hz, show Nb 0 = false from rfl, Bool.false_and, Bool.false_and]
def ResL (r : Option Nj) (many : Nat) (z : Bool × Int × Int × Int × Int × List Qb × Int × Bool) : Prop := match r with
  | some c => z = (true, c.1, c.2.1, c.2.2.1, c.2.2.2.1, c.2.2.2.2, ((many + 1 : Nat) : Int), false)
  | none => z.1 = false
theorem pLineB (c : Nj) (many : Nat) (p : Str) (hc : Lo 0 c) (hm : many = 0 → c = c0C) (hmm : many ≤ 1000000) (hp : p.length ≤ 5000) :
    ∃ z, Zl c.1 c.2.1 c.2.2.1 c.2.2.2.1 c.2.2.2.2 (many : Int) false (p ++ [10]) = some z ∧ ResL (Ek c (decide (many = 0)) (Qx 32 p)) many z := by
  have hl := U2 32 p
  unfold Zl
  rw [lSfx 10 (p ++ [10]) (by simp; omega), Option.bind_some, show sfx 10 (p ++ [10]) = (p, true) by simp [sfx], lSplit p 32 (by omega), Option.bind_some, show Ua = some () from rfl, Option.bind_some]
  cases hs : Qx 32 p with
  | nil => exact absurd hs (Yw 32 p)
  | cons k q =>
    rw [hs] at hl
    rw [show idx (k :: q) 0 = some k from rfl, Option.bind_some]
    show ∃ z, _ ∧ ResL (if (k == Za) == decide (many = 0) then (Nk c k q).filter okC else none) many z
    cases hk : cin k with
    | false =>
      rw [cond_false, cin_not hk]
      refine ⟨_, rfl, ?_⟩
      split <;> rfl
    | true =>
      rw [cond_true]
      simp only [Bool.not_true, cond_false]
      by_cases hlen : ((List.length (k :: q) : Nat) : Int) = Nf k
      · rw [show (((List.length (k :: q) : Nat) : Int) != Nf k) = false by rw [bne_eq_false_iff_eq]; exact hlen]
        unfold Z6
        rw [cond_false]
        have hq : ∀ w ∈ q, w.length ≤ 5000 := fun w h => Nat.le_trans (hl w (by simp [h])) hp
        obtain ⟨z, hz, hr⟩ := pRead c many k q hc hm hk hlen hq
        rw [hz, Option.bind_some, Option.bind_some]
        unfold Z5
        by_cases hb : k = Za ∧ many ≠ 0
        · rw [if_pos hb] at hr
          have hr : z.2.2.2.2.2.2 = true := hr
          rw [hr, if_neg (by simp [hb.1, hb.2])]
          exact ⟨_, rfl, rfl⟩
        · rw [if_neg hb] at hr
          cases hw : Nk c k q with
          | none =>
            rw [hw] at hr
            have hr : z.2.2.2.2.2.2 = true := hr
            rw [hr]
            refine ⟨_, rfl, ?_⟩
            split <;> rfl
          | some c' =>
            rw [hw] at hr
            have hr : z = (c'.1, c'.2.1, c'.2.2.1, c'.2.2.2.1, c'.2.2.2.2, (many : Int), false) := hr
            subst hr
            have hbn := Ku hc hq hw
            simp only [Bool.not_false, cond_true]
            rw [pCfg hbn, Option.bind_some, show ((many : Int) + 1) = ((many + 1 : Nat) : Int) by omega, J5 (by omega)]
            refine ⟨_, rfl, ?_⟩
            by_cases hf : ((k == Za) == decide (many = 0)) = true
            · rw [if_pos hf]
              cases ho : okC c' with
              | false => rw [Option.filter_some_neg (by simp [ho])]; first | done | rfl
              | true => rw [Option.filter_some_pos ho]; rfl
            · rw [if_neg hf]
              have h0 : many = 0 ∧ k ≠ Za := by
                by_cases h0 : many = 0
                · refine ⟨h0, fun e => hf (by rw [e, decide_eq_true h0]; rfl)⟩
                · refine absurd ?_ hf
                  rw [decide_eq_false h0, beq_eq_false_iff_ne.2 (fun e => hb ⟨e, h0⟩)]
                  rfl
              rw [hm h0.1] at hw
              exact first_not h0.2 hw
      · rw [show (((List.length (k :: q) : Nat) : Int) != Nf k) = true by rw [bne_iff_ne]; exact hlen, len_not hk hlen]
        refine ⟨_, rfl, ?_⟩
        split <;> rfl
theorem pLineE (c : Nj) (many : Int) (p : Str) (hp : p.length ≤ 5000) (h10 : p.getLast? ≠ some 10) : ∃ z, Zl c.1 c.2.1 c.2.2.1 c.2.2.2.1 c.2.2.2.2 many false p = some z ∧ z.1 = false := by
  unfold Zl
  rw [lSfx 10 p (by omega), Option.bind_some, show sfx 10 p = (p, false) by simp [sfx, h10], lSplit p 32 (by omega), Option.bind_some, show Ua = some () from rfl, Option.bind_some]
  cases hs : Qx 32 p with
  | nil => exact absurd hs (Yw 32 p)
  | cons k q =>
    rw [show idx (k :: q) 0 = some k from rfl, Option.bind_some]
    cases cin k with
    | false => exact ⟨_, rfl, rfl⟩
    | true => exact ⟨_, rfl, rfl⟩
end Go.Proofs.YtoflbpmbkmephaaGreatDoor
