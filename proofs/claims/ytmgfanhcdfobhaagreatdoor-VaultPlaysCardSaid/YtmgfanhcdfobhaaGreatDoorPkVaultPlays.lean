import Derived.Test.YtmgfanhcdfobhaaGreatDoorPkVaultPlays5
set_option linter.unusedSimpArgs false
set_option linter.unusedVariables false
set_option linter.unusedSectionVars false
namespace Go.Proofs.YtmgfanhcdfobhaaGreatDoor
open Go.RowKit
def X7 (a : Bool) : Option (Bool) :=
  (some (a))
def X8 (a : Bool) : Option (Bool) :=
  (some (a))
def X9 (a : Bool) : Option (Bool) :=
  (some (a))
def Zw (a : Int → Int → Int → Int → N5 → Int → Int → Int → Int → (List (List UInt8)) → Int → Option (Bool)) (b : Int) (c : Int) (d : Int) (e : Int) (f : Int) (g : N5) (h : Int) (i : Int) (j : Int) (k : Int) (l : (List (List UInt8))) (m : Bool) : Option (Bool) :=
  (cond m (some (false)) (a c d e f g h i j k l (IntKind.wrap .i64 (b + 1))))
def Zx (j : Int → Int → Int → Int → N5 → Int → Int → Int → Int → (List (List UInt8)) → Int → Option (Bool)) (c : (List Qi)) (k : Int) (a : (Int × (List UInt8) × (List UInt8) × (List UInt8) × (List UInt8) × Int)) (d : Int) (e : Int) (f : Int) (g : Int) (h : N5) (l : Int) (m : Int) (n : Int) (o : Int) (p : (List (List UInt8))) : Option (Bool) :=
  ((Yj d e f g c h a.2.1 a.2.2.1 a.2.2.2.2.2).bind fun q => ((Xu l m n o c p a.2.1 a.2.2.1 a.2.2.2.2.2).bind fun b => (cond (!(q == b.1)) (Zw j k d e f g h b.2.1 b.2.2.1 b.2.2.2.1 b.2.2.2.2.1 b.2.2.2.2.2 true) ((Yk d e f g c h a.2.1 a.2.2.1 a.2.2.2.1).bind fun r => ((Xv b.2.1 b.2.2.1 b.2.2.2.1 b.2.2.2.2.1 c b.2.2.2.2.2 a.2.1 a.2.2.1 a.2.2.2.1).bind fun s => (cond (!(r == s)) (Zw j k d e f g h b.2.1 b.2.2.1 b.2.2.2.1 b.2.2.2.2.1 b.2.2.2.2.2 true) ((Xd d e f g c h a.2.1 a.2.2.1 a.2.2.2.1 a.2.2.2.2.1 a.2.2.2.2.2).bind fun t => ((Yt b.2.1 b.2.2.1 b.2.2.2.1 b.2.2.2.2.1 c b.2.2.2.2.2 a.2.1 a.2.2.1 a.2.2.2.1 a.2.2.2.2.1 a.2.2.2.2.2).bind fun i => (Zw j k d e f g h i.2.1 i.2.2.1 i.2.2.2.1 i.2.2.2.2.1 i.2.2.2.2.2 (t != i.1))))))))))
def Zn (f : Int → Int → Int → Int → N5 → Int → Int → Int → Int → (List (List UInt8)) → Int → Option (Bool)) (d : (List Qi)) (g : (List (Int × (List UInt8) × (List UInt8) × (List UInt8) × (List UInt8) × Int))) (r : (Bool)) (h : Int) (i : Int) (j : Int) (k : Int) (l : N5) (m : Int) (n : Int) (o : Int) (p : Int) (q : (List (List UInt8))) (e : Int) : Option (Bool) :=
  (cond (decide (e < ((List.length g : Nat) : Int))) ((idx g e).bind fun a => (cond (a.1 == 0) ((Yh h i j k d l a.2.1 a.2.2.1).bind fun b => ((Ye m n o p d q a.2.1 a.2.2.1).bind fun c => (cond (!(b.1 == c.1)) (some (false)) (Zx f d e a b.2.1 b.2.2.1 b.2.2.2.1 b.2.2.2.2.1 b.2.2.2.2.2 c.2.1 c.2.2.1 c.2.2.2.1 c.2.2.2.2.1 c.2.2.2.2.2)))) (Zx f d e a h i j k l m n o p q))) (some (r)))
def Vg (a : (List Qi)) (b : (List (Int × (List UInt8) × (List UInt8) × (List UInt8) × (List UInt8) × Int))) (c : (Bool)) : Nat → Int → Int → Int → Int → N5 → Int → Int → Int → Int → (List (List UInt8)) → Int → Option (Bool)
  | 0, _, _, _, _, _, _, _, _, _, _, _ => none
  | f + 1, d, e, g, h, i, j, k, l, m, n, o => Zn  (Vg a b c f) a b c d e g h i j k l m n o
def Zo (e : Int) (f : Int) (g : Int) (h : Int) (d : (List Qi)) (i : (List (Int × (List UInt8) × (List UInt8) × (List UInt8) × (List UInt8) × Int))) (a : (Bool)) (j : Bool) : Option (Bool) :=
  (cond j (some (a)) ((Ny e f g h d).bind fun k => (optE k ((Uk e f g h d).bind fun l => (optE l (cond a (X7 (true == true)) (X7 false)) (fun n => (cond a (X8 (true == false)) (X8 false))))) (fun b => ((Uk e f g h d).bind fun m => (optE m (cond a (X9 (false == true)) (X9 false)) (fun c => (Vg d i a Zj b.1 b.2.1 b.2.2.1 b.2.2.2.1 b.2.2.2.2 c.1 c.2.1 c.2.2.1 c.2.2.2.1 c.2.2.2.2 0))))))))
def Jw (a : Int) (b : Int) (c : Int) (d : Int) (e : (List Qi)) (f : (List (Int × (List UInt8) × (List UInt8) × (List UInt8) × (List UInt8) × Int))) : Option (Bool) :=
  ((U5 ).bind fun g => ((Nq a b c d e).bind fun h => (cond h (Zo a b c d e f g true) ((Nz f).bind fun i => (Zo a b c d e f g i)))))
set_option maxRecDepth 100000 in
set_option maxHeartbeats 4000000 in
theorem R8 (A6 : Option Addr) (c7 : Nat) (b8 : Option Addr) (b9 : Nat) (c4 : Int) (c5 : Int) (c6 : Int) (c8 : Int) (d9 : (List Vl)) (a9 : (List (Int × (List UInt8) × (List UInt8) × (List UInt8) × (List UInt8) × Int))) (w0 : World) (hL : Ep w0) (c0 : (dDS Ua Eh).ok w0 (A6, c7, d9)) (j0 : RdT (Qf (Qd .i64) (Qf Qs (Qf Qs (Qf Qs (Qf Qs (Qd .i64)))))) w0 b8 b9 a9) (r : (Bool)) (H : Jw c4 c5 c6 c8 (List.map stT d9) a9 = some r) :
  Calls Tryz.prog 3 #[(.agg #[(.int .i64 c4), (.int .i64 c5), (.int .i64 c6), (.int .i64 c8), (.slice A6 (List.length (List.map stT d9)) c7)]), (.slice b8 (List.length a9) b9)] w0 (fun e w' => e = .returned (.bool r) ∧ SP [] w0 w' []) := by
 unfold Jw at H
 refine Qu (n := 130) Tryz.func3 K K K ?_
 have u0 := Q1 [] w0
 refine aQ ?_
 refine aR ?_
 refine iS 1 ?_
 refine V6 (t := 24) (x := (.tmp 0)) (v := (.agg #[(.int .i64 c4), (.int .i64 c5), (.int .i64 c6), (.int .i64 c8), (.slice A6 (List.length (List.map stT d9)) c7)])) (d := (some 2)) (k := 0) K rfl K u0 ?_
 intro e3 u1 p2
 refine iR 1 2 [(4, (.bool false))] ?_
 refine iF ?_
 refine aQ ?_
 refine aR ?_
 obtain ⟨a7, u2, H⟩ := Qe H
 refine iS 1 ?_
 refine cF 15 #[] #[] 12 Tryz.call15 (B1   u1 (Yl hL (SP.keeps p2)) a7 u2) ?_
 rintro e u3 ⟨rfl, p3⟩
 refine ⟨_, rfl, ?_⟩
 have j1 := SP.call p2 p3
 clear p3
 refine iR 1 2 [(5, (.bool a7))] ?_
 refine iF ?_
 refine aQ ?_
 refine aQ ?_
 refine At.join (fun ρ w => ∃ (g4 : Bool), V3 ρ [(1, (.slice b8 (List.length a9) b9)), (2, (pt e3 0)), (5, (.bool a7)), (18, (.bool g4))] ∧ SP [] w0 w [Qv e3 24 #[(.int .i64 c4), (.int .i64 c5), (.int .i64 c6), (.int .i64 c8), (.slice A6 (List.length (List.map stT d9)) c7)]] ∧ Zo c4 c5 c6 c8 (List.map stT d9) a9 a7 g4 = some r) ?_ ?_
 ·refine aR ?_
  refine iS 1 ?_
  refine sL 24 2 e3 0 0 (.agg #[(.int .i64 c4), (.int .i64 c5), (.int .i64 c6), (.int .i64 c8), (.slice A6 (List.length (List.map stT d9)) c7)]) 13 j1 rfl ?_
  obtain ⟨j2, u4, H⟩ := Qe H
  refine iS 2 ?_
  refine cF 16 #[(.tmp 13)] #[24] 14 Tryz.call16 (Ba A6 c7 c4 c5 c6 c8 d9 u3 (Dp.sp c0 j1) j2 u4) ?_
  rintro e u5 ⟨rfl, p4⟩
  refine ⟨_, rfl, ?_⟩
  have j3 := SP.call j1 p4
  clear p4
  refine iR 1 3 [(15, (.bool j2))] ?_
  refine In.guard (t := 15) (b := j2) K (fun j4 => ?_) (fun j4 => ?_)
  ·have H := ct H j4
   refine iR 3 6 [(16, undef), (17, undef), (18, (.bool true))] ?_
   refine iF ?_
   exact ⟨true, ⟨K, K, K, K, trivial⟩, SP.sel j3 [0] rfl rfl, H⟩
  ·have H := cf H j4
   refine iR 1 4 [(16, (.slice b8 (List.length a9) b9))] ?_
   obtain ⟨j5, u6, H⟩ := Qe H
   refine iS 5 ?_
   refine cF 17 #[(.tmp 16)] #[25] 17 Tryz.call17 (Bg b8 b9 a9 u5 (RdT.sp j0 j3) j5 u6) ?_
   rintro e ak0 ⟨rfl, p5⟩
   refine ⟨_, rfl, ?_⟩
   have u7 := SP.call j3 p5
   clear p5
   refine iR 1 6 [(18, (.bool j5))] ?_
   refine iF ?_
   exact ⟨j5, ⟨K, K, K, K, trivial⟩, SP.sel u7 [0] rfl rfl, H⟩
 ·rintro ρ p6 ⟨g4, hk, e4, H⟩
  unfold Zo at H
  first | refine At.known [(1, (.slice b8 (List.length a9) b9)), (2, (pt e3 0)), (5, (.bool a7)), (18, (.bool g4))] hk ?_ | rw [← Qz (l := [(1, (.slice b8 (List.length a9) b9)), (2, (pt e3 0)), (5, (.bool a7)), (18, (.bool g4))]) hk]
  refine Zk K (o := (.tmp 18)) K (b := g4) K (fun j6 => ?_) (fun j6 => ?_)
  ·have H := ct H j6
   refine aQ ?_
   refine aR ?_
   refine iR 2 2 [(19, (.bool a7)), (4, (.bool a7))] ?_
   refine iF ?_
   refine At.ret K ?_
   refine ⟨(.bool a7), K, ?_⟩
   obtain rfl := Qh H
   exact ⟨rfl, SP.sel e4 [] rfl rfl⟩
  ·have H := cf H j6
   refine At.skip K ?_
   refine aQ ?_
   refine aR ?_
   refine iS 1 ?_
   refine sL 24 2 e3 0 0 (.agg #[(.int .i64 c4), (.int .i64 c5), (.int .i64 c6), (.int .i64 c8), (.slice A6 (List.length (List.map stT d9)) c7)]) 20 e4 rfl ?_
   obtain ⟨u8, p7, H⟩ := Qe H
   rcases u8 with _ | g5
   ·have H := optN H
    refine iS 2 ?_
    refine cF 18 #[(.tmp 20)] #[24] 21 Tryz.call18 (Uw A6 c7 c4 c5 c6 c8 d9 p6 (Yl hL (SP.keeps e4)) (Dp.sp c0 e4) none p7) ?_
    rintro e p8 ⟨rfl, p9⟩
    refine ⟨_, rfl, ?_⟩
    have h2 := SP.call e4 p9
    clear p9
    refine iR 1 3 [(6, (.pointer none))] ?_
    refine iF ?_
    refine aQ ?_
    refine aR ?_
    refine iS 1 ?_
    refine sL 24 2 e3 0 0 (.agg #[(.int .i64 c4), (.int .i64 c5), (.int .i64 c6), (.int .i64 c8), (.slice A6 (List.length (List.map stT d9)) c7)]) 22 h2 rfl ?_
    obtain ⟨u9, q0, H⟩ := Qe H
    rcases u9 with _ | v0
    ·have H := optN H
     refine iS 2 ?_
     refine cF 19 #[(.tmp 22)] #[24] 23 Tryz.call19 (Us A6 c7 c4 c5 c6 c8 d9 p8 (Dp.sp c0 h2) none q0) ?_
     rintro e w51 ⟨rfl, q1⟩
     refine ⟨_, rfl, ?_⟩
     have q2 := SP.call h2 q1
     clear q1
     refine iR 1 3 [(7, (.pointer none))] ?_
     refine iF ?_
     refine aQ ?_
     refine aQ ?_
     refine aR ?_
     refine iR 6 6 [(24, (.pointer none)), (25, (.bool true)), (26, (.bool true)), (27, undef), (28, undef), (29, (.bool true))] ?_
     refine iF ?_
     refine Zk K (o := (.tmp 29)) K (b := true) K (fun q3 => ?_) (fun q3 => ?_)
     rotate_left
     ·cases q3
     refine aQ ?_
     refine At.join (fun ρ w => ∃ (g6 : Bool), V3 ρ [(4, (.bool g6))] ∧ SP [] w0 w [] ∧ X7 g6 = some r) ?_ ?_
     ·refine aR ?_
      refine iR 2 2 [(30, (.bool a7)), (31, (.bool a7))] ?_
      refine In.guard (t := 31) (b := a7) K (fun j7 => ?_) (fun j7 => ?_)
      ·have H := ct H j7
       refine iR 7 9 [(32, (.pointer none)), (33, (.bool true)), (34, (.pointer none)), (35, (.bool true)), (36, (.bool (true == true))), (37, (.bool (true == true))), (4, (.bool (true == true)))] ?_
       refine iF ?_
       exact ⟨(true == true), ⟨K, trivial⟩, SP.sel q2 [] rfl rfl, H⟩
      ·have H := cf H j7
       refine iR 7 9 [(32, undef), (33, undef), (34, undef), (35, undef), (36, undef), (37, (.bool false)), (4, (.bool false))] ?_
       refine iF ?_
       exact ⟨false, ⟨K, trivial⟩, SP.sel q2 [] rfl rfl, H⟩
     ·rintro ρ w58 ⟨g6, hk, v1, H⟩
      unfold X7 at H
      first | refine At.known [(4, (.bool g6))] hk ?_ | rw [← Qz (l := [(4, (.bool g6))]) hk]
      refine At.ret K ?_
      refine ⟨(.bool g6), K, ?_⟩
      obtain rfl := Qh H
      exact ⟨rfl, SP.sel v1 [] rfl rfl⟩
    ·have H := optS H
     refine iS 2 ?_
     refine cF 19 #[(.tmp 22)] #[24] 23 Tryz.call19 (Us A6 c7 c4 c5 c6 c8 d9 p8 (Dp.sp c0 h2) (some v0) q0) ?_
     rintro e w61 ⟨q4, A64, c65, rfl, q5⟩
     refine ⟨_, rfl, ?_⟩
     have q6 := SP.call h2 q5
     clear q5
     refine iR 1 3 [(7, (pt q4 0))] ?_
     refine iF ?_
     refine aQ ?_
     refine aQ ?_
     refine aR ?_
     refine iR 6 6 [(24, (.pointer none)), (25, (.bool true)), (26, (.bool true)), (27, undef), (28, undef), (29, (.bool true))] ?_
     refine iF ?_
     refine Zk K (o := (.tmp 29)) K (b := true) K (fun q7 => ?_) (fun q7 => ?_)
     rotate_left
     ·cases q7
     refine aQ ?_
     refine At.join (fun ρ w => ∃ (g7 : Bool), V3 ρ [(4, (.bool g7))] ∧ SP [] w0 w [] ∧ X8 g7 = some r) ?_ ?_
     ·refine aR ?_
      refine iR 2 2 [(30, (.bool a7)), (31, (.bool a7))] ?_
      refine In.guard (t := 31) (b := a7) K (fun j8 => ?_) (fun j8 => ?_)
      ·have H := ct H j8
       refine iR 7 9 [(32, (.pointer none)), (33, (.bool true)), (34, (pt q4 0)), (35, (.bool false)), (36, (.bool (true == false))), (37, (.bool (true == false))), (4, (.bool (true == false)))] ?_
       refine iF ?_
       exact ⟨(true == false), ⟨K, trivial⟩, SP.sel q6 [] rfl rfl, H⟩
      ·have H := cf H j8
       refine iR 7 9 [(32, undef), (33, undef), (34, undef), (35, undef), (36, undef), (37, (.bool false)), (4, (.bool false))] ?_
       refine iF ?_
       exact ⟨false, ⟨K, trivial⟩, SP.sel q6 [] rfl rfl, H⟩
     ·rintro ρ w71 ⟨g7, hk, v2, H⟩
      unfold X8 at H
      first | refine At.known [(4, (.bool g7))] hk ?_ | rw [← Qz (l := [(4, (.bool g7))]) hk]
      refine At.ret K ?_
      refine ⟨(.bool g7), K, ?_⟩
      obtain rfl := Qh H
      exact ⟨rfl, SP.sel v2 [] rfl rfl⟩
   ·have H := optS H
    refine iS 2 ?_
    refine cF 18 #[(.tmp 20)] #[24] 21 Tryz.call18 (Uw A6 c7 c4 c5 c6 c8 d9 p6 (Yl hL (SP.keeps e4)) (Dp.sp c0 e4) (some g5) p7) ?_
    rintro e q8 ⟨p, s, rfl, q9⟩
    refine ⟨_, rfl, ?_⟩
    have h3 := SP.call e4 q9
    clear q9
    refine iR 1 3 [(6, (pt p 0))] ?_
    refine iF ?_
    refine aQ ?_
    refine aR ?_
    refine iS 1 ?_
    refine sL 24 2 e3 0 0 (.agg #[(.int .i64 c4), (.int .i64 c5), (.int .i64 c6), (.int .i64 c8), (.slice A6 (List.length (List.map stT d9)) c7)]) 22 h3 rfl ?_
    obtain ⟨v3, r0, H⟩ := Qe H
    rcases v3 with _ | g8
    ·have H := optN H
     refine iS 2 ?_
     refine cF 19 #[(.tmp 22)] #[24] 23 Tryz.call19 (Us A6 c7 c4 c5 c6 c8 d9 q8 (Dp.sp c0 h3) none r0) ?_
     rintro e w83 ⟨rfl, r1⟩
     refine ⟨_, rfl, ?_⟩
     have r2 := SP.call h3 r1
     clear r1
     refine iR 1 3 [(7, (.pointer none))] ?_
     refine iF ?_
     refine aQ ?_
     refine aQ ?_
     refine aR ?_
     refine iR 6 6 [(24, (pt p 0)), (25, (.bool false)), (26, (.bool false)), (27, (.pointer none)), (28, (.bool true)), (29, (.bool true))] ?_
     refine iF ?_
     refine Zk K (o := (.tmp 29)) K (b := true) K (fun r3 => ?_) (fun r3 => ?_)
     rotate_left
     ·cases r3
     refine aQ ?_
     refine At.join (fun ρ w => ∃ (g9 : Bool), V3 ρ [(4, (.bool g9))] ∧ SP [] w0 w [] ∧ X9 g9 = some r) ?_ ?_
     ·refine aR ?_
      refine iR 2 2 [(30, (.bool a7)), (31, (.bool a7))] ?_
      refine In.guard (t := 31) (b := a7) K (fun j9 => ?_) (fun j9 => ?_)
      ·have H := ct H j9
       refine iR 7 9 [(32, (pt p 0)), (33, (.bool false)), (34, (.pointer none)), (35, (.bool true)), (36, (.bool (false == true))), (37, (.bool (false == true))), (4, (.bool (false == true)))] ?_
       refine iF ?_
       exact ⟨(false == true), ⟨K, trivial⟩, SP.sel r2 [] rfl rfl, H⟩
      ·have H := cf H j9
       refine iR 7 9 [(32, undef), (33, undef), (34, undef), (35, undef), (36, undef), (37, (.bool false)), (4, (.bool false))] ?_
       refine iF ?_
       exact ⟨false, ⟨K, trivial⟩, SP.sel r2 [] rfl rfl, H⟩
     ·rintro ρ w90 ⟨g9, hk, v4, H⟩
      unfold X9 at H
      first | refine At.known [(4, (.bool g9))] hk ?_ | rw [← Qz (l := [(4, (.bool g9))]) hk]
      refine At.ret K ?_
      refine ⟨(.bool g9), K, ?_⟩
      obtain rfl := Qh H
      exact ⟨rfl, SP.sel v4 [] rfl rfl⟩
    ·have H := optS H
     refine iS 2 ?_
     refine cF 19 #[(.tmp 22)] #[24] 23 Tryz.call19 (Us A6 c7 c4 c5 c6 c8 d9 q8 (Dp.sp c0 h3) (some g8) r0) ?_
     rintro e w93 ⟨q, v5, v6, rfl, r4⟩
     refine ⟨_, rfl, ?_⟩
     have v7 := SP.call h3 r4
     clear r4
     refine iR 1 3 [(7, (pt q 0))] ?_
     refine iF ?_
     refine aQ ?_
     refine aQ ?_
     refine aR ?_
     refine iR 6 6 [(24, (pt p 0)), (25, (.bool false)), (26, (.bool false)), (27, (pt q 0)), (28, (.bool false)), (29, (.bool false))] ?_
     refine iF ?_
     refine Zk K (o := (.tmp 29)) K (b := false) K (fun r5 => ?_) (fun r5 => ?_)
     ·cases r5
     refine At.skip K ?_
     refine aQ ?_
     refine aQ ?_
     refine aR ?_
     refine iR 1 1 [(8, (.int .i64 0))] ?_
     refine iF ?_
     refine Z1 K (id := 0) K ?_
     refine Nf K (fun h4 ρ w => ∃ (f1 : Int) (f2 : Int) (f3 : Int) (f4 : Int) (f5 : N5) (e5 : Int) (e6 : Int) (e7 : Int) (e8 : Int) (d8 : (List (List UInt8))) (b2 : Int) (e9 : Option Addr) (f0 : Nat), V3 ρ [(1, (.slice b8 (List.length a9) b9)), (5, (.bool a7)), (6, (pt p 0)), (7, (pt q 0)), (8, (.int .i64 b2))] ∧ SP [] w0 w [Qv p 79 #[(.int .i64 f1), (.int .i64 f2), (.int .i64 f3), (.int .i64 f4), (.slice A6 (List.length (List.map stT d9)) c7), (.map (some s))], Zs s f5, Xi 9 Qs e9 f0 d8, Qv q 81 #[(.int .i64 e5), (.int .i64 e6), (.int .i64 e7), (.int .i64 e8), (.slice A6 (List.length (List.map stT d9)) c7), (.slice e9 (List.length d8) f0)]] ∧ Vg (List.map stT d9) a9 a7 h4 f1 f2 f3 f4 f5 e5 e6 e7 e8 d8 b2 = some r) (by rintro ρ w ⟨f1, f2, f3, f4, f5, e5, e6, e7, e8, d8, b2, e9, f0, hk, hs, H⟩; cases H) ?_ Zj ?_
     ·rintro h4 ρ al0 ⟨f1, f2, f3, f4, f5, e5, e6, e7, e8, d8, b2, e9, f0, hk, h9, H⟩
      refine At.known [(1, (.slice b8 (List.length a9) b9)), (5, (.bool a7)), (6, (pt p 0)), (7, (pt q 0)), (8, (.int .i64 b2))] hk ?_
      replace H := (show Zn (Vg (List.map stT d9) a9 a7 h4) (List.map stT d9) a9 a7 f1 f2 f3 f4 f5 e5 e6 e7 e8 d8 b2 = some r from H)
      unfold Zn at H
      refine aQ ?_
      refine aQ ?_
      refine aR ?_
      refine iR 4 4 [(38, (.int .i64 b2)), (39, (.slice b8 (List.length a9) b9)), (40, (.int .i64 ((List.length a9 : Nat) : Int))), (41, (.bool (decide (b2 < ((List.length a9 : Nat) : Int)))))] ?_
      refine iF ?_
      refine Zk K (o := (.tmp 41)) K (b := (decide (b2 < ((List.length a9 : Nat) : Int)))) K (fun k1 => ?_) (fun k1 => ?_)
      ·have H := ct H k1
       refine At.skip K ?_
       refine aQ ?_
       refine Z1 K (id := 1) K ?_
       refine aQ ?_
       refine aR ?_
       refine iR 2 2 [(44, (.slice b8 (List.length a9) b9)), (45, (.int .i64 b2))] ?_
       obtain ⟨f, r6, r7, v8, H⟩ := Qn H
       refine iS 3 ?_
       refine Ve (e := (Qf (Qd .i64) (Qf Qs (Qf Qs (Qf Qs (Qf Qs (Qd .i64))))))) (l := a9) (A := b8) (c := b9) (T := 25) (E := 34) (x := (.tmp 44)) (ix := (.tmp 45)) (ki := .i64) (iz := b2) (d := (some 46)) (k := 2) K rfl K K K K (RdT.sp j0 h9) r6 r7 ?_
       intro v9 w1 w2 al1 hc3857
       refine iS 4 ?_
       refine Qk.cells (t := 34) (x := (.tmp 46)) (b := v9) (off := (w1 + Int.toNat b2 * (Qf (Qd .i64) (Qf Qs (Qf Qs (Qf Qs (Qf Qs (Qd .i64)))))).sz)) (xs := [(.int .i64 f.1), (.string ⟨List.toArray f.2.1⟩), (.string ⟨List.toArray f.2.2.1⟩), (.string ⟨List.toArray f.2.2.2.1⟩), (.string ⟨List.toArray f.2.2.2.2.1⟩), (.int .i64 f.2.2.2.2.2)]) (d := (some 47)) (k := 3) K rfl K K K (Z2 (e := (Qf (Qd .i64) (Qf Qs (Qf Qs (Qf Qs (Qf Qs (Qd .i64))))))) (Qg (RdT.sp j0 h9) w2 r6 r7) v8 rfl) ?_
       refine iS 5 ?_
       refine Qk.alloc (t := 34) (z := (.agg #[(.int .i64 0), (.string ⟨List.toArray ([] : List UInt8)⟩), (.string ⟨List.toArray ([] : List UInt8)⟩), (.string ⟨List.toArray ([] : List UInt8)⟩), (.string ⟨List.toArray ([] : List UInt8)⟩), (.int .i64 0)])) (d := (some 9)) (k := 4) K rfl K h9 ?_
       intro j al2 w3
       refine iS 6 ?_
       refine Qk.store (t := 34) (x := (.tmp 9)) (y := (.tmp 47)) (g := j) (off := 0) (i := 4) (v := (.agg #[(.int .i64 f.1), (.string ⟨List.toArray f.2.1⟩), (.string ⟨List.toArray f.2.2.1⟩), (.string ⟨List.toArray f.2.2.2.1⟩), (.string ⟨List.toArray f.2.2.2.2.1⟩), (.int .i64 f.2.2.2.2.2)])) (cs' := #[(.int .i64 f.1), (.string ⟨List.toArray f.2.1⟩), (.string ⟨List.toArray f.2.2.1⟩), (.string ⟨List.toArray f.2.2.2.1⟩), (.string ⟨List.toArray f.2.2.2.2.1⟩), (.int .i64 f.2.2.2.2.2)]) (d := none) (k := 5) K rfl K K w3 rfl K ?_
       intro w4 f6
       refine iF ?_
       refine aQ ?_
       refine aQ ?_
       refine aR ?_
       refine iR 1 1 [(48, (pt j 0))] ?_
       refine iS 2 ?_
       refine sL 3 48 j 0 4 (.int .i64 f.1) 49 f6 rfl ?_
       refine iR 1 3 [(50, (.bool (f.1 == 0)))] ?_
       refine iF ?_
       refine At.join (fun ρ w => ∃ (a2 : Int) (a3 : Int) (a4 : Int) (a5 : Int) (a6 : N5) (d0 : Int) (d1 : Int) (d2 : Int) (d3 : Int) (b5 : (List (List UInt8))) (b6 : Option Addr) (b7 : Nat), V3 ρ [(1, (.slice b8 (List.length a9) b9)), (5, (.bool a7)), (6, (pt p 0)), (7, (pt q 0)), (8, (.int .i64 b2)), (9, (pt j 0))] ∧ SP [] w0 w [Qv p 79 #[(.int .i64 a2), (.int .i64 a3), (.int .i64 a4), (.int .i64 a5), (.slice A6 (List.length (List.map stT d9)) c7), (.map (some s))], Zs s a6, Xi 9 Qs b6 b7 b5, Qv q 81 #[(.int .i64 d0), (.int .i64 d1), (.int .i64 d2), (.int .i64 d3), (.slice A6 (List.length (List.map stT d9)) c7), (.slice b6 (List.length b5) b7)], Qv j 34 #[(.int .i64 f.1), (.string ⟨List.toArray f.2.1⟩), (.string ⟨List.toArray f.2.2.1⟩), (.string ⟨List.toArray f.2.2.2.1⟩), (.string ⟨List.toArray f.2.2.2.2.1⟩), (.int .i64 f.2.2.2.2.2)]] ∧ Zx (Vg (List.map stT d9) a9 a7 h4) (List.map stT d9) b2 f a2 a3 a4 a5 a6 d0 d1 d2 d3 b5 = some r) ?_ ?_
       ·refine Zk K (o := (.tmp 50)) K (b := (f.1 == 0)) K (fun k2 => ?_) (fun k2 => ?_)
        ·have H := ct H k2
         refine aQ ?_
         refine aR ?_
         refine iR 2 2 [(51, (pt p 0)), (52, (pt j 1))] ?_
         refine iS 3 ?_
         refine sL 9 52 j 1 4 (.string ⟨List.toArray f.2.1⟩) 53 f6 rfl ?_
         refine iR 1 4 [(54, (pt j 2))] ?_
         refine iS 5 ?_
         refine sL 9 54 j 2 4 (.string ⟨List.toArray f.2.2.1⟩) 55 f6 rfl ?_
         obtain ⟨c1, w5, H⟩ := Qe H
         refine iS 6 ?_
         refine cF 20 #[(.tmp 51), (.tmp 53), (.tmp 55)] #[29, 9, 9] 56 Tryz.call20 (U9 p A6 c7 s f1 f2 f3 f4 d9 f5 f.2.1 f.2.2.1 w4 (Y3 f6 [0, 1] rfl rfl) (fun w hm => Dp.mono _ (Y4 f6 (l := [0, 1]) rfl hm) c0) c1 w5) ?_
         rintro e r8 ⟨rfl, r9⟩
         refine ⟨_, rfl, ?_⟩
         have h5 : SP [] w0 r8 [Xi 9 Qs e9 f0 d8, Qv q 81 #[(.int .i64 e5), (.int .i64 e6), (.int .i64 e7), (.int .i64 e8), (.slice A6 (List.length (List.map stT d9)) c7), (.slice e9 (List.length d8) f0)], Qv j 34 #[(.int .i64 f.1), (.string ⟨List.toArray f.2.1⟩), (.string ⟨List.toArray f.2.2.1⟩), (.string ⟨List.toArray f.2.2.2.1⟩), (.string ⟨List.toArray f.2.2.2.2.1⟩), (.int .i64 f.2.2.2.2.2)], Qv p 79 #[(.int .i64 c1.2.1), (.int .i64 c1.2.2.1), (.int .i64 c1.2.2.2.1), (.int .i64 c1.2.2.2.2.1), (.slice A6 (List.length (List.map stT d9)) c7), (.map (some s))], Zs s c1.2.2.2.2.2] := Za f6 [0, 1] [2, 3, 4] rfl rfl r9 rfl
         clear r9
         refine iR 1 7 [(10, (.bool c1.1))] ?_
         refine iF ?_
         refine aQ ?_
         refine aR ?_
         refine iR 2 2 [(57, (pt q 0)), (58, (pt j 1))] ?_
         refine iS 3 ?_
         refine sL 9 58 j 1 2 (.string ⟨List.toArray f.2.1⟩) 59 h5 rfl ?_
         refine iR 1 4 [(60, (pt j 2))] ?_
         refine iS 5 ?_
         refine sL 9 60 j 2 2 (.string ⟨List.toArray f.2.2.1⟩) 61 h5 rfl ?_
         obtain ⟨c9, w6, H⟩ := Qe H
         refine iS 6 ?_
         refine cF 21 #[(.tmp 57), (.tmp 59), (.tmp 61)] #[31, 9, 9] 62 Tryz.call21 (Rv q A6 c7 e9 f0 e5 e6 e7 e8 d9 d8 f.2.1 f.2.2.1 r8 (Y3 h5 [1, 0] rfl rfl) (fun w hm => Dp.mono _ (Y4 h5 (l := [1, 0]) rfl hm) c0) c9 w6) ?_
         rintro e w7 ⟨k3, k4, rfl, s0⟩
         refine ⟨_, rfl, ?_⟩
         have s1 : SP [] w0 w7 [Qv j 34 #[(.int .i64 f.1), (.string ⟨List.toArray f.2.1⟩), (.string ⟨List.toArray f.2.2.1⟩), (.string ⟨List.toArray f.2.2.2.1⟩), (.string ⟨List.toArray f.2.2.2.2.1⟩), (.int .i64 f.2.2.2.2.2)], Qv p 79 #[(.int .i64 c1.2.1), (.int .i64 c1.2.2.1), (.int .i64 c1.2.2.2.1), (.int .i64 c1.2.2.2.2.1), (.slice A6 (List.length (List.map stT d9)) c7), (.map (some s))], Zs s c1.2.2.2.2.2, Qv q 81 #[(.int .i64 c9.2.1), (.int .i64 c9.2.2.1), (.int .i64 c9.2.2.2.1), (.int .i64 c9.2.2.2.2.1), (.slice A6 (List.length (List.map stT d9)) c7), (.slice k3 (List.length c9.2.2.2.2.2) k4)], Xi 9 Qs k3 k4 c9.2.2.2.2.2] := Za h5 [1, 0] [2, 3, 4] rfl rfl s0 rfl
         clear s0
         refine iR 1 7 [(11, (.bool c9.1))] ?_
         refine iF ?_
         refine aQ ?_
         refine aR ?_
         refine iR 3 3 [(63, (.bool c1.1)), (64, (.bool c9.1)), (65, (.bool (!(c1.1 == c9.1))))] ?_
         refine iF ?_
         refine Zk K (o := (.tmp 65)) K (b := (!(c1.1 == c9.1))) K (fun k5 => ?_) (fun k5 => ?_)
         ·have H := ct H k5
          refine aQ ?_
          refine aR ?_
          refine iR 1 1 [(4, (.bool false))] ?_
          refine iF ?_
          refine At.ret K ?_
          refine ⟨(.bool false), K, ?_⟩
          obtain rfl := Qh H
          exact ⟨rfl, SP.sel s1 [] rfl rfl⟩
         ·have H := cf H k5
          refine At.skip K ?_
          exact ⟨c1.2.1, c1.2.2.1, c1.2.2.2.1, c1.2.2.2.2.1, c1.2.2.2.2.2, c9.2.1, c9.2.2.1, c9.2.2.2.1, c9.2.2.2.2.1, c9.2.2.2.2.2, k3, k4, ⟨K, K, K, K, K, K, trivial⟩, SP.sel s1 [1, 2, 4, 3, 0] rfl rfl, H⟩
        ·have H := cf H k2
         refine At.skip K ?_
         exact ⟨f1, f2, f3, f4, f5, e5, e6, e7, e8, d8, e9, f0, ⟨K, K, K, K, K, K, trivial⟩, SP.sel f6 [0, 1, 2, 3, 4] rfl rfl, H⟩
       ·rintro ρ al3 ⟨a2, a3, a4, a5, a6, d0, d1, d2, d3, b5, b6, b7, hk, k6, H⟩
        unfold Zx at H
        first | refine At.known [(1, (.slice b8 (List.length a9) b9)), (5, (.bool a7)), (6, (pt p 0)), (7, (pt q 0)), (8, (.int .i64 b2)), (9, (pt j 0))] hk ?_ | rw [← Qz (l := [(1, (.slice b8 (List.length a9) b9)), (5, (.bool a7)), (6, (pt p 0)), (7, (pt q 0)), (8, (.int .i64 b2)), (9, (pt j 0))]) hk]
        refine aQ ?_
        refine At.join (fun ρ w => ∃ (i0 : Int) (i1 : Int) (i2 : Int) (i3 : Int) (h6 : (List (List UInt8))) (h1 : Bool) (i4 : Option Addr) (i5 : Nat), V3 ρ [(1, (.slice b8 (List.length a9) b9)), (5, (.bool a7)), (6, (pt p 0)), (7, (pt q 0)), (8, (.int .i64 b2)), (128, (.bool h1))] ∧ SP [] w0 w [Qv p 79 #[(.int .i64 a2), (.int .i64 a3), (.int .i64 a4), (.int .i64 a5), (.slice A6 (List.length (List.map stT d9)) c7), (.map (some s))], Zs s a6, Xi 9 Qs i4 i5 h6, Qv q 81 #[(.int .i64 i0), (.int .i64 i1), (.int .i64 i2), (.int .i64 i3), (.slice A6 (List.length (List.map stT d9)) c7), (.slice i4 (List.length h6) i5)]] ∧ Zw (Vg (List.map stT d9) a9 a7 h4) b2 a2 a3 a4 a5 a6 i0 i1 i2 i3 h6 h1 = some r) ?_ ?_
        ·obtain ⟨b0, k7, H⟩ := Qe H
         obtain ⟨m, k8, H⟩ := Qe H
         rcases Bool.eq_false_or_eq_true (!(b0 == m.1)) with u | u
         ·have H := ct H u
          refine aG [GEq (pt p 0), GEq (pt j 1), GEq (.string ⟨List.toArray f.2.1⟩), GEq (pt j 2), GEq (.string ⟨List.toArray f.2.2.1⟩), GEq (pt j 5), GEq (.int .i64 f.2.2.2.2.2), GEq (.bool b0), GEq (pt q 0), GEq (pt j 1), GEq (.string ⟨List.toArray f.2.1⟩), GEq (pt j 2), GEq (.string ⟨List.toArray f.2.2.1⟩), GEq (pt j 5), GEq (.int .i64 f.2.2.2.2.2), GEq (.bool m.1), GEq (.bool (!(b0 == m.1))), GEq (.bool (!(b0 == m.1))), GEq undef, GEq undef, GEq undef, GEq undef, GEq undef, GEq undef, GEq undef, GEq undef, GEq undef, GEq undef, GEq undef, GEq undef, GEq undef, GEq undef, GEq undef, GEq undef, GEq undef, GEq (.bool true), GEq (.bool true), GEq undef, GEq undef, GEq undef, GEq undef, GEq undef, GEq undef, GEq undef, GEq undef, GEq undef, GEq undef, GEq undef, GEq undef, GEq undef, GEq undef, GEq undef, GEq undef, GEq undef, GEq undef, GEq undef, GEq undef, GEq undef, GEq undef, GEq undef, GEq undef, GEq undef, GEq (.bool true)] [7, 15] [([], fun vs w => VL vs [] ∧ SP [] w0 w [Qv p 79 #[(.int .i64 a2), (.int .i64 a3), (.int .i64 a4), (.int .i64 a5), (.slice A6 (List.length (List.map stT d9)) c7), (.map (some s))], Zs s a6, Xi 9 Qs b6 b7 b5, Qv q 81 #[(.int .i64 d0), (.int .i64 d1), (.int .i64 d2), (.int .i64 d3), (.slice A6 (List.length (List.map stT d9)) c7), (.slice b6 (List.length b5) b7)], Qv j 34 #[(.int .i64 f.1), (.string ⟨List.toArray f.2.1⟩), (.string ⟨List.toArray f.2.2.1⟩), (.string ⟨List.toArray f.2.2.2.1⟩), (.string ⟨List.toArray f.2.2.2.2.1⟩), (.int .i64 f.2.2.2.2.2)]]), ([7], fun vs w => VL vs [(.bool b0)] ∧ SP [] w0 w [Xi 9 Qs b6 b7 b5, Qv q 81 #[(.int .i64 d0), (.int .i64 d1), (.int .i64 d2), (.int .i64 d3), (.slice A6 (List.length (List.map stT d9)) c7), (.slice b6 (List.length b5) b7)], Qv j 34 #[(.int .i64 f.1), (.string ⟨List.toArray f.2.1⟩), (.string ⟨List.toArray f.2.2.1⟩), (.string ⟨List.toArray f.2.2.2.1⟩), (.string ⟨List.toArray f.2.2.2.2.1⟩), (.int .i64 f.2.2.2.2.2)], Qv p 79 #[(.int .i64 a2), (.int .i64 a3), (.int .i64 a4), (.int .i64 a5), (.slice A6 (List.length (List.map stT d9)) c7), (.map (some s))], Zs s a6]), ([7, 15], fun vs w => ∃ (i6 : Option Addr), ∃ (i7 : Nat), VL vs [(.bool b0), (.bool m.1)] ∧ SP [] w0 w [Qv j 34 #[(.int .i64 f.1), (.string ⟨List.toArray f.2.1⟩), (.string ⟨List.toArray f.2.2.1⟩), (.string ⟨List.toArray f.2.2.2.1⟩), (.string ⟨List.toArray f.2.2.2.2.1⟩), (.int .i64 f.2.2.2.2.2)], Qv p 79 #[(.int .i64 a2), (.int .i64 a3), (.int .i64 a4), (.int .i64 a5), (.slice A6 (List.length (List.map stT d9)) c7), (.map (some s))], Zs s a6, Qv q 81 #[(.int .i64 m.2.1), (.int .i64 m.2.2.1), (.int .i64 m.2.2.2.1), (.int .i64 m.2.2.2.2.1), (.slice A6 (List.length (List.map stT d9)) c7), (.slice i6 (List.length m.2.2.2.2.2) i7)], Xi 9 Qs i6 i7 m.2.2.2.2.2])] 63 2 ⟨trivial, SP.drew k6⟩ ?_ ?_
          iterate 63 refine And.intro ?_ ?_
          exact trivial
          ·exact oV (hC (hS 6 (pt p 0)) (h0)) (pt p 0)
          ·exact oV (hC (hS 9 (pt j 0)) (h0)) (pt j 1)
          ·refine oL 0 ?_
           ·rintro ρ' w' hs hah ⟨al4, w8⟩
            refine kM (kc (kA hah 1 67) k0) fun hkn => ?_
            refine sL 9 67 j 1 4 (.string ⟨List.toArray f.2.1⟩) 68 w8 rfl ?_
            exact eK hkn
          ·exact oV (hC (hS 9 (pt j 0)) (h0)) (pt j 2)
          ·refine oL 0 ?_
           ·rintro ρ' w' hs hah ⟨al5, w9⟩
            refine kM (kc (kA hah 3 69) k0) fun hkn => ?_
            refine sL 9 69 j 2 4 (.string ⟨List.toArray f.2.2.1⟩) 70 w9 rfl ?_
            exact eK hkn
          ·exact oV (hC (hS 9 (pt j 0)) (h0)) (pt j 5)
          ·refine oL 0 ?_
           ·rintro ρ' w' hs hah ⟨al6, x0⟩
            refine kM (kc (kA hah 5 71) k0) fun hkn => ?_
            refine sL 2 71 j 5 4 (.int .i64 f.2.2.2.2.2) 72 x0 rfl ?_
            exact eK hkn
          ·refine oH 0 1 ?_
           ·rintro ρ' w' hs hah ⟨al7, k9⟩
            refine kM (kc (kA hah 0 66) (kc (kA hah 2 68) (kc (kA hah 4 70) (kc (kA hah 6 72) k0)))) fun hkn => ?_
            refine cF 22 #[(.tmp 66), (.tmp 68), (.tmp 70), (.tmp 72)] #[29, 9, 9, 2] 73 Tryz.call22 (Yc p A6 c7 s a2 a3 a4 a5 d9 a6 f.2.1 f.2.2.1 f.2.2.2.2.2 w' (Y3 k9 [0, 1] rfl rfl) (fun w hm => Dp.mono _ (Y4 k9 (l := [0, 1]) rfl hm) c0) b0 k7) ?_
            rintro e x1 ⟨rfl, s2⟩
            refine ⟨_, rfl, ?_⟩
            have x2 : SP [] w0 x1 [Xi 9 Qs b6 b7 b5, Qv q 81 #[(.int .i64 d0), (.int .i64 d1), (.int .i64 d2), (.int .i64 d3), (.slice A6 (List.length (List.map stT d9)) c7), (.slice b6 (List.length b5) b7)], Qv j 34 #[(.int .i64 f.1), (.string ⟨List.toArray f.2.1⟩), (.string ⟨List.toArray f.2.2.1⟩), (.string ⟨List.toArray f.2.2.2.1⟩), (.string ⟨List.toArray f.2.2.2.2.1⟩), (.int .i64 f.2.2.2.2.2)], Qv p 79 #[(.int .i64 a2), (.int .i64 a3), (.int .i64 a4), (.int .i64 a5), (.slice A6 (List.length (List.map stT d9)) c7), (.map (some s))], Zs s a6] := Za k9 [0, 1] [2, 3, 4] rfl rfl s2 rfl
            clear s2
            refine ⟨_, Qa hkn, rfl, ?_⟩
            exact (And.intro (And.intro rfl (trivial)) (x2))
          ·exact oV (hC (hS 7 (pt q 0)) (h0)) (pt q 0)
          ·exact oV (hC (hS 9 (pt j 0)) (h0)) (pt j 1)
          ·refine Owe.light K [0, 1] K (Qb ?_ (Qb ?_ Qx))
           ·rintro ρ' w' hs hah ⟨al8, x3⟩
            refine kM (kc (kA hah 9 75) k0) fun hkn => ?_
            refine sL 9 75 j 1 4 (.string ⟨List.toArray f.2.1⟩) 76 x3 rfl ?_
            exact eK hkn
           ·rintro ρ' w' hs hah ⟨⟨al9, -⟩, x4⟩
            refine kM (kc (kA hah 9 75) k0) fun hkn => ?_
            refine sL 9 75 j 1 2 (.string ⟨List.toArray f.2.1⟩) 76 x4 rfl ?_
            exact eK hkn
          ·exact oV (hC (hS 9 (pt j 0)) (h0)) (pt j 2)
          ·refine Owe.light K [0, 1] K (Qb ?_ (Qb ?_ Qx))
           ·rintro ρ' w' hs hah ⟨am0, x5⟩
            refine kM (kc (kA hah 11 77) k0) fun hkn => ?_
            refine sL 9 77 j 2 4 (.string ⟨List.toArray f.2.2.1⟩) 78 x5 rfl ?_
            exact eK hkn
           ·rintro ρ' w' hs hah ⟨⟨am1, -⟩, x6⟩
            refine kM (kc (kA hah 11 77) k0) fun hkn => ?_
            refine sL 9 77 j 2 2 (.string ⟨List.toArray f.2.2.1⟩) 78 x6 rfl ?_
            exact eK hkn
          ·exact oV (hC (hS 9 (pt j 0)) (h0)) (pt j 5)
          ·refine Owe.light K [0, 1] K (Qb ?_ (Qb ?_ Qx))
           ·rintro ρ' w' hs hah ⟨am2, x7⟩
            refine kM (kc (kA hah 13 79) k0) fun hkn => ?_
            refine sL 2 79 j 5 4 (.int .i64 f.2.2.2.2.2) 80 x7 rfl ?_
            exact eK hkn
           ·rintro ρ' w' hs hah ⟨⟨am3, -⟩, x8⟩
            refine kM (kc (kA hah 13 79) k0) fun hkn => ?_
            refine sL 2 79 j 5 2 (.int .i64 f.2.2.2.2.2) 80 x8 rfl ?_
            exact eK hkn
          ·refine oH 1 2 ?_
           ·rintro ρ' w' hs hah ⟨⟨x9, -⟩, l0⟩
            refine kM (kc (kA hah 8 74) (kc (kA hah 10 76) (kc (kA hah 12 78) (kc (kA hah 14 80) k0)))) fun hkn => ?_
            refine cF 23 #[(.tmp 74), (.tmp 76), (.tmp 78), (.tmp 80)] #[31, 9, 9, 2] 81 Tryz.call23 (Yv q A6 c7 b6 b7 d0 d1 d2 d3 d9 b5 f.2.1 f.2.2.1 f.2.2.2.2.2 w' (Y3 l0 [1, 0] rfl rfl) (fun w hm => Dp.mono _ (Y4 l0 (l := [1, 0]) rfl hm) c0) m k8) ?_
            rintro e y0 ⟨l1, l2, rfl, s3⟩
            refine ⟨_, rfl, ?_⟩
            have y1 : SP [] w0 y0 [Qv j 34 #[(.int .i64 f.1), (.string ⟨List.toArray f.2.1⟩), (.string ⟨List.toArray f.2.2.1⟩), (.string ⟨List.toArray f.2.2.2.1⟩), (.string ⟨List.toArray f.2.2.2.2.1⟩), (.int .i64 f.2.2.2.2.2)], Qv p 79 #[(.int .i64 a2), (.int .i64 a3), (.int .i64 a4), (.int .i64 a5), (.slice A6 (List.length (List.map stT d9)) c7), (.map (some s))], Zs s a6, Qv q 81 #[(.int .i64 m.2.1), (.int .i64 m.2.2.1), (.int .i64 m.2.2.2.1), (.int .i64 m.2.2.2.2.1), (.slice A6 (List.length (List.map stT d9)) c7), (.slice l1 (List.length m.2.2.2.2.2) l2)], Xi 9 Qs l1 l2 m.2.2.2.2.2] := Za l0 [1, 0] [2, 3, 4] rfl rfl s3 rfl
            clear s3
            refine ⟨_, Qa hkn, rfl, ?_⟩
            exact (Exists.intro l1 (Exists.intro l2 (And.intro (And.intro x9 (And.intro rfl (trivial))) (y1))))
          ·exact oV (hC (hA 7 73) (hC (hA 15 81) (h0))) (.bool (!(b0 == m.1)))
          ·exact oV (hC (hA 16 82) (h0)) (.bool (!(b0 == m.1)))
          ·exact oW (hC (hB 17 83 u) (h0)) 84
          ·exact oW (hC (hB 17 83 u) (h0)) 85
          ·exact oW (hC (hB 17 83 u) (h0)) 86
          ·exact oW (hC (hB 17 83 u) (h0)) 87
          ·exact oW (hC (hB 17 83 u) (h0)) 88
          ·exact oW (hC (hB 17 83 u) (h0)) 89
          ·exact oW (hC (hB 17 83 u) (h0)) 90
          ·exact oW (hC (hB 17 83 u) (h0)) 91
          ·exact oW (hC (hB 17 83 u) (h0)) 92
          ·exact oW (hC (hB 17 83 u) (h0)) 93
          ·exact oW (hC (hB 17 83 u) (h0)) 94
          ·exact oW (hC (hB 17 83 u) (h0)) 95
          ·exact oW (hC (hB 17 83 u) (h0)) 96
          ·exact oW (hC (hB 17 83 u) (h0)) 97
          ·exact oW (hC (hB 17 83 u) (h0)) 98
          ·exact oW (hC (hB 17 83 u) (h0)) 99
          ·exact oW (hC (hB 17 83 u) (h0)) 100
          ·exact oV (hC (hB 17 83 u) (hC (hA 34 100) (h0))) (.bool true)
          ·exact oV (hC (hA 35 101) (h0)) (.bool true)
          ·exact oW (hC (hA 36 102) (h0)) 103
          ·exact oW (hC (hA 36 102) (h0)) 104
          ·exact oW (hC (hA 36 102) (h0)) 105
          ·exact oW (hC (hA 36 102) (h0)) 106
          ·exact oW (hC (hA 36 102) (h0)) 107
          ·exact oW (hC (hA 36 102) (h0)) 108
          ·exact oW (hC (hA 36 102) (h0)) 109
          ·exact oW (hC (hA 36 102) (h0)) 110
          ·exact oW (hC (hA 36 102) (h0)) 111
          ·exact oW (hC (hA 36 102) (h0)) 112
          ·exact oW (hC (hA 36 102) (h0)) 113
          ·exact oW (hC (hA 36 102) (h0)) 114
          ·exact oW (hC (hA 36 102) (h0)) 115
          ·exact oW (hC (hA 36 102) (h0)) 116
          ·exact oW (hC (hA 36 102) (h0)) 117
          ·exact oW (hC (hA 36 102) (h0)) 118
          ·exact oW (hC (hA 36 102) (h0)) 119
          ·exact oW (hC (hA 36 102) (h0)) 120
          ·exact oW (hC (hA 36 102) (h0)) 121
          ·exact oW (hC (hA 36 102) (h0)) 122
          ·exact oW (hC (hA 36 102) (h0)) 123
          ·exact oW (hC (hA 36 102) (h0)) 124
          ·exact oW (hC (hA 36 102) (h0)) 125
          ·exact oW (hC (hA 36 102) (h0)) 126
          ·exact oW (hC (hA 36 102) (h0)) 127
          ·exact oV (hC (hA 36 102) (hC (hA 61 127) (h0))) (.bool true)
          ·rintro ρ' w' hs hf ⟨i6, i7, ⟨am4, am5, -⟩, s4⟩
           refine Q4 [(1, (.slice b8 (List.length a9) b9)), (5, (.bool a7)), (6, (pt p 0)), (7, (pt q 0)), (8, (.int .i64 b2)), (128, (.bool true))] ⟨(hs 1 K).trans K, (hs 5 K).trans K, (hs 6 K).trans K, (hs 7 K).trans K, (hs 8 K).trans K, hf 62 128 K, trivial⟩ ?_
           obtain ⟨am6, y2⟩ : ∃ x, w' = x := ⟨_, rfl⟩
           rw [y2] at s4 ⊢
           exact ⟨m.2.1, m.2.2.1, m.2.2.2.1, m.2.2.2.2.1, m.2.2.2.2.2, true, i6, i7, ⟨K, K, K, K, K, K, trivial⟩, SP.sel s4 [1, 2, 4, 3] rfl rfl, H⟩
         ·have H := cf H u
          obtain ⟨b1, s5, H⟩ := Qe H
          obtain ⟨b3, s6, H⟩ := Qe H
          rcases Bool.eq_false_or_eq_true (!(b1 == b3)) with a0 | a0
          ·have H := ct H a0
           refine aG [GEq (pt p 0), GEq (pt j 1), GEq (.string ⟨List.toArray f.2.1⟩), GEq (pt j 2), GEq (.string ⟨List.toArray f.2.2.1⟩), GEq (pt j 5), GEq (.int .i64 f.2.2.2.2.2), GEq (.bool b0), GEq (pt q 0), GEq (pt j 1), GEq (.string ⟨List.toArray f.2.1⟩), GEq (pt j 2), GEq (.string ⟨List.toArray f.2.2.1⟩), GEq (pt j 5), GEq (.int .i64 f.2.2.2.2.2), GEq (.bool m.1), GEq (.bool (!(b0 == m.1))), GEq (.bool (!(b0 == m.1))), GEq (pt p 0), GEq (pt j 1), GEq (.string ⟨List.toArray f.2.1⟩), GEq (pt j 2), GEq (.string ⟨List.toArray f.2.2.1⟩), GEq (pt j 3), GEq (.string ⟨List.toArray f.2.2.2.1⟩), GEq (.string ⟨List.toArray b1⟩), GEq (pt q 0), GEq (pt j 1), GEq (.string ⟨List.toArray f.2.1⟩), GEq (pt j 2), GEq (.string ⟨List.toArray f.2.2.1⟩), GEq (pt j 3), GEq (.string ⟨List.toArray f.2.2.2.1⟩), GEq (.string ⟨List.toArray b3⟩), GEq (.bool (!(b1 == b3))), GEq (.bool (!(b1 == b3))), GEq (.bool (!(b1 == b3))), GEq undef, GEq undef, GEq undef, GEq undef, GEq undef, GEq undef, GEq undef, GEq undef, GEq undef, GEq undef, GEq undef, GEq undef, GEq undef, GEq undef, GEq undef, GEq undef, GEq undef, GEq undef, GEq undef, GEq undef, GEq undef, GEq undef, GEq undef, GEq undef, GEq undef, GEq (.bool true)] [7, 15, 25, 33] [([], fun vs w => VL vs [] ∧ SP [] w0 w [Qv p 79 #[(.int .i64 a2), (.int .i64 a3), (.int .i64 a4), (.int .i64 a5), (.slice A6 (List.length (List.map stT d9)) c7), (.map (some s))], Zs s a6, Xi 9 Qs b6 b7 b5, Qv q 81 #[(.int .i64 d0), (.int .i64 d1), (.int .i64 d2), (.int .i64 d3), (.slice A6 (List.length (List.map stT d9)) c7), (.slice b6 (List.length b5) b7)], Qv j 34 #[(.int .i64 f.1), (.string ⟨List.toArray f.2.1⟩), (.string ⟨List.toArray f.2.2.1⟩), (.string ⟨List.toArray f.2.2.2.1⟩), (.string ⟨List.toArray f.2.2.2.2.1⟩), (.int .i64 f.2.2.2.2.2)]]), ([7], fun vs w => VL vs [(.bool b0)] ∧ SP [] w0 w [Xi 9 Qs b6 b7 b5, Qv q 81 #[(.int .i64 d0), (.int .i64 d1), (.int .i64 d2), (.int .i64 d3), (.slice A6 (List.length (List.map stT d9)) c7), (.slice b6 (List.length b5) b7)], Qv j 34 #[(.int .i64 f.1), (.string ⟨List.toArray f.2.1⟩), (.string ⟨List.toArray f.2.2.1⟩), (.string ⟨List.toArray f.2.2.2.1⟩), (.string ⟨List.toArray f.2.2.2.2.1⟩), (.int .i64 f.2.2.2.2.2)], Qv p 79 #[(.int .i64 a2), (.int .i64 a3), (.int .i64 a4), (.int .i64 a5), (.slice A6 (List.length (List.map stT d9)) c7), (.map (some s))], Zs s a6]), ([7, 15], fun vs w => ∃ (d4 : Option Addr), ∃ (d5 : Nat), VL vs [(.bool b0), (.bool m.1)] ∧ SP [] w0 w [Qv j 34 #[(.int .i64 f.1), (.string ⟨List.toArray f.2.1⟩), (.string ⟨List.toArray f.2.2.1⟩), (.string ⟨List.toArray f.2.2.2.1⟩), (.string ⟨List.toArray f.2.2.2.2.1⟩), (.int .i64 f.2.2.2.2.2)], Qv p 79 #[(.int .i64 a2), (.int .i64 a3), (.int .i64 a4), (.int .i64 a5), (.slice A6 (List.length (List.map stT d9)) c7), (.map (some s))], Zs s a6, Qv q 81 #[(.int .i64 m.2.1), (.int .i64 m.2.2.1), (.int .i64 m.2.2.2.1), (.int .i64 m.2.2.2.2.1), (.slice A6 (List.length (List.map stT d9)) c7), (.slice d4 (List.length m.2.2.2.2.2) d5)], Xi 9 Qs d4 d5 m.2.2.2.2.2]), ([7, 15, 25], fun vs w => ∃ (f7 : Option Addr), ∃ (f8 : Nat), VL vs [(.bool b0), (.bool m.1), (.string ⟨List.toArray b1⟩)] ∧ SP [] w0 w [Qv j 34 #[(.int .i64 f.1), (.string ⟨List.toArray f.2.1⟩), (.string ⟨List.toArray f.2.2.1⟩), (.string ⟨List.toArray f.2.2.2.1⟩), (.string ⟨List.toArray f.2.2.2.2.1⟩), (.int .i64 f.2.2.2.2.2)], Qv q 81 #[(.int .i64 m.2.1), (.int .i64 m.2.2.1), (.int .i64 m.2.2.2.1), (.int .i64 m.2.2.2.2.1), (.slice A6 (List.length (List.map stT d9)) c7), (.slice f7 (List.length m.2.2.2.2.2) f8)], Xi 9 Qs f7 f8 m.2.2.2.2.2, Qv p 79 #[(.int .i64 a2), (.int .i64 a3), (.int .i64 a4), (.int .i64 a5), (.slice A6 (List.length (List.map stT d9)) c7), (.map (some s))], Zs s a6]), ([7, 15, 25, 33], fun vs w => ∃ (h7 : Option Addr), ∃ (h8 : Nat), VL vs [(.bool b0), (.bool m.1), (.string ⟨List.toArray b1⟩), (.string ⟨List.toArray b3⟩)] ∧ SP [] w0 w [Qv j 34 #[(.int .i64 f.1), (.string ⟨List.toArray f.2.1⟩), (.string ⟨List.toArray f.2.2.1⟩), (.string ⟨List.toArray f.2.2.2.1⟩), (.string ⟨List.toArray f.2.2.2.2.1⟩), (.int .i64 f.2.2.2.2.2)], Qv p 79 #[(.int .i64 a2), (.int .i64 a3), (.int .i64 a4), (.int .i64 a5), (.slice A6 (List.length (List.map stT d9)) c7), (.map (some s))], Zs s a6, Qv q 81 #[(.int .i64 m.2.1), (.int .i64 m.2.2.1), (.int .i64 m.2.2.2.1), (.int .i64 m.2.2.2.2.1), (.slice A6 (List.length (List.map stT d9)) c7), (.slice h7 (List.length m.2.2.2.2.2) h8)], Xi 9 Qs h7 h8 m.2.2.2.2.2])] 63 4 ⟨trivial, SP.drew k6⟩ ?_ ?_
           iterate 63 refine And.intro ?_ ?_
           exact trivial
           ·exact oV (hC (hS 6 (pt p 0)) (h0)) (pt p 0)
           ·exact oV (hC (hS 9 (pt j 0)) (h0)) (pt j 1)
           ·refine oL 0 ?_
            ·rintro ρ' w' hs hah ⟨am7, y3⟩
             refine kM (kc (kA hah 1 67) k0) fun hkn => ?_
             refine sL 9 67 j 1 4 (.string ⟨List.toArray f.2.1⟩) 68 y3 rfl ?_
             exact eK hkn
           ·exact oV (hC (hS 9 (pt j 0)) (h0)) (pt j 2)
           ·refine oL 0 ?_
            ·rintro ρ' w' hs hah ⟨am8, y4⟩
             refine kM (kc (kA hah 3 69) k0) fun hkn => ?_
             refine sL 9 69 j 2 4 (.string ⟨List.toArray f.2.2.1⟩) 70 y4 rfl ?_
             exact eK hkn
           ·exact oV (hC (hS 9 (pt j 0)) (h0)) (pt j 5)
           ·refine oL 0 ?_
            ·rintro ρ' w' hs hah ⟨am9, y5⟩
             refine kM (kc (kA hah 5 71) k0) fun hkn => ?_
             refine sL 2 71 j 5 4 (.int .i64 f.2.2.2.2.2) 72 y5 rfl ?_
             exact eK hkn
           ·refine oH 0 1 ?_
            ·rintro ρ' w' hs hah ⟨an0, l3⟩
             refine kM (kc (kA hah 0 66) (kc (kA hah 2 68) (kc (kA hah 4 70) (kc (kA hah 6 72) k0)))) fun hkn => ?_
             refine cF 22 #[(.tmp 66), (.tmp 68), (.tmp 70), (.tmp 72)] #[29, 9, 9, 2] 73 Tryz.call22 (Yc p A6 c7 s a2 a3 a4 a5 d9 a6 f.2.1 f.2.2.1 f.2.2.2.2.2 w' (Y3 l3 [0, 1] rfl rfl) (fun w hm => Dp.mono _ (Y4 l3 (l := [0, 1]) rfl hm) c0) b0 k7) ?_
             rintro e y6 ⟨rfl, s7⟩
             refine ⟨_, rfl, ?_⟩
             have y7 : SP [] w0 y6 [Xi 9 Qs b6 b7 b5, Qv q 81 #[(.int .i64 d0), (.int .i64 d1), (.int .i64 d2), (.int .i64 d3), (.slice A6 (List.length (List.map stT d9)) c7), (.slice b6 (List.length b5) b7)], Qv j 34 #[(.int .i64 f.1), (.string ⟨List.toArray f.2.1⟩), (.string ⟨List.toArray f.2.2.1⟩), (.string ⟨List.toArray f.2.2.2.1⟩), (.string ⟨List.toArray f.2.2.2.2.1⟩), (.int .i64 f.2.2.2.2.2)], Qv p 79 #[(.int .i64 a2), (.int .i64 a3), (.int .i64 a4), (.int .i64 a5), (.slice A6 (List.length (List.map stT d9)) c7), (.map (some s))], Zs s a6] := Za l3 [0, 1] [2, 3, 4] rfl rfl s7 rfl
             clear s7
             refine ⟨_, Qa hkn, rfl, ?_⟩
             exact (And.intro (And.intro rfl (trivial)) (y7))
           ·exact oV (hC (hS 7 (pt q 0)) (h0)) (pt q 0)
           ·exact oV (hC (hS 9 (pt j 0)) (h0)) (pt j 1)
           ·refine Owe.light K [0, 1] K (Qb ?_ (Qb ?_ Qx))
            ·rintro ρ' w' hs hah ⟨an1, y8⟩
             refine kM (kc (kA hah 9 75) k0) fun hkn => ?_
             refine sL 9 75 j 1 4 (.string ⟨List.toArray f.2.1⟩) 76 y8 rfl ?_
             exact eK hkn
            ·rintro ρ' w' hs hah ⟨⟨an2, -⟩, y9⟩
             refine kM (kc (kA hah 9 75) k0) fun hkn => ?_
             refine sL 9 75 j 1 2 (.string ⟨List.toArray f.2.1⟩) 76 y9 rfl ?_
             exact eK hkn
           ·exact oV (hC (hS 9 (pt j 0)) (h0)) (pt j 2)
           ·refine Owe.light K [0, 1] K (Qb ?_ (Qb ?_ Qx))
            ·rintro ρ' w' hs hah ⟨an3, z0⟩
             refine kM (kc (kA hah 11 77) k0) fun hkn => ?_
             refine sL 9 77 j 2 4 (.string ⟨List.toArray f.2.2.1⟩) 78 z0 rfl ?_
             exact eK hkn
            ·rintro ρ' w' hs hah ⟨⟨an4, -⟩, z1⟩
             refine kM (kc (kA hah 11 77) k0) fun hkn => ?_
             refine sL 9 77 j 2 2 (.string ⟨List.toArray f.2.2.1⟩) 78 z1 rfl ?_
             exact eK hkn
           ·exact oV (hC (hS 9 (pt j 0)) (h0)) (pt j 5)
           ·refine Owe.light K [0, 1] K (Qb ?_ (Qb ?_ Qx))
            ·rintro ρ' w' hs hah ⟨an5, z2⟩
             refine kM (kc (kA hah 13 79) k0) fun hkn => ?_
             refine sL 2 79 j 5 4 (.int .i64 f.2.2.2.2.2) 80 z2 rfl ?_
             exact eK hkn
            ·rintro ρ' w' hs hah ⟨⟨an6, -⟩, z3⟩
             refine kM (kc (kA hah 13 79) k0) fun hkn => ?_
             refine sL 2 79 j 5 2 (.int .i64 f.2.2.2.2.2) 80 z3 rfl ?_
             exact eK hkn
           ·refine oH 1 2 ?_
            ·rintro ρ' w' hs hah ⟨⟨z4, -⟩, l4⟩
             refine kM (kc (kA hah 8 74) (kc (kA hah 10 76) (kc (kA hah 12 78) (kc (kA hah 14 80) k0)))) fun hkn => ?_
             refine cF 23 #[(.tmp 74), (.tmp 76), (.tmp 78), (.tmp 80)] #[31, 9, 9, 2] 81 Tryz.call23 (Yv q A6 c7 b6 b7 d0 d1 d2 d3 d9 b5 f.2.1 f.2.2.1 f.2.2.2.2.2 w' (Y3 l4 [1, 0] rfl rfl) (fun w hm => Dp.mono _ (Y4 l4 (l := [1, 0]) rfl hm) c0) m k8) ?_
             rintro e z5 ⟨l5, l6, rfl, s8⟩
             refine ⟨_, rfl, ?_⟩
             have z6 : SP [] w0 z5 [Qv j 34 #[(.int .i64 f.1), (.string ⟨List.toArray f.2.1⟩), (.string ⟨List.toArray f.2.2.1⟩), (.string ⟨List.toArray f.2.2.2.1⟩), (.string ⟨List.toArray f.2.2.2.2.1⟩), (.int .i64 f.2.2.2.2.2)], Qv p 79 #[(.int .i64 a2), (.int .i64 a3), (.int .i64 a4), (.int .i64 a5), (.slice A6 (List.length (List.map stT d9)) c7), (.map (some s))], Zs s a6, Qv q 81 #[(.int .i64 m.2.1), (.int .i64 m.2.2.1), (.int .i64 m.2.2.2.1), (.int .i64 m.2.2.2.2.1), (.slice A6 (List.length (List.map stT d9)) c7), (.slice l5 (List.length m.2.2.2.2.2) l6)], Xi 9 Qs l5 l6 m.2.2.2.2.2] := Za l4 [1, 0] [2, 3, 4] rfl rfl s8 rfl
             clear s8
             refine ⟨_, Qa hkn, rfl, ?_⟩
             exact (Exists.intro l5 (Exists.intro l6 (And.intro (And.intro z4 (And.intro rfl (trivial))) (z6))))
           ·exact oV (hC (hA 7 73) (hC (hA 15 81) (h0))) (.bool (!(b0 == m.1)))
           ·exact oV (hC (hA 16 82) (h0)) (.bool (!(b0 == m.1)))
           ·exact oV (hC (hS 6 (pt p 0)) (hC (hB 17 83 u) (h0))) (pt p 0)
           ·exact oV (hC (hS 9 (pt j 0)) (hC (hB 17 83 u) (h0))) (pt j 1)
           ·refine oL 2 ?_
            ·rintro ρ' w' hs hah ⟨d4, d5, ⟨an7, an8, -⟩, z7⟩
             have l7 := hah 19 85 K
             have a1 := hah 17 83 K
             refine kN [(85, (pt j 1)), (83, (.bool false))] ⟨l7, (Eq.trans a1 (congrArg Value.bool u)), trivial⟩ fun hkn => ?_
             refine sL 9 85 j 1 0 (.string ⟨List.toArray f.2.1⟩) 86 z7 rfl ?_
             exact eK hkn
           ·exact oV (hC (hS 9 (pt j 0)) (hC (hB 17 83 u) (h0))) (pt j 2)
           ·refine oL 2 ?_
            ·rintro ρ' w' hs hah ⟨d4, d5, ⟨an9, ao0, -⟩, z8⟩
             have l8 := hah 21 87 K
             have a1 := hah 17 83 K
             refine kN [(87, (pt j 2)), (83, (.bool false))] ⟨l8, (Eq.trans a1 (congrArg Value.bool u)), trivial⟩ fun hkn => ?_
             refine sL 9 87 j 2 0 (.string ⟨List.toArray f.2.2.1⟩) 88 z8 rfl ?_
             exact eK hkn
           ·exact oV (hC (hS 9 (pt j 0)) (hC (hB 17 83 u) (h0))) (pt j 3)
           ·refine oL 2 ?_
            ·rintro ρ' w' hs hah ⟨d4, d5, ⟨ao1, ao2, -⟩, z9⟩
             have l9 := hah 23 89 K
             have a1 := hah 17 83 K
             refine kN [(89, (pt j 3)), (83, (.bool false))] ⟨l9, (Eq.trans a1 (congrArg Value.bool u)), trivial⟩ fun hkn => ?_
             refine sL 9 89 j 3 0 (.string ⟨List.toArray f.2.2.2.1⟩) 90 z9 rfl ?_
             exact eK hkn
           ·refine oH 2 3 ?_
            ·rintro ρ' w' hs hah ⟨d4, d5, ⟨aa0, aa1, -⟩, m0⟩
             have m1 := hah 18 84 K
             have m2 := hah 20 86 K
             have m3 := hah 22 88 K
             have m4 := hah 24 90 K
             have a1 := hah 17 83 K
             refine kN [(84, (pt p 0)), (86, (.string ⟨List.toArray f.2.1⟩)), (88, (.string ⟨List.toArray f.2.2.1⟩)), (90, (.string ⟨List.toArray f.2.2.2.1⟩)), (83, (.bool false))] ⟨m1, m2, m3, m4, (Eq.trans a1 (congrArg Value.bool u)), trivial⟩ fun hkn => ?_
             refine cF 24 #[(.tmp 84), (.tmp 86), (.tmp 88), (.tmp 90)] #[29, 9, 9, 9] 91 Tryz.call24 (Y9 p A6 c7 s a2 a3 a4 a5 d9 a6 f.2.1 f.2.2.1 f.2.2.2.1 w' (Y3 m0 [1, 2] rfl rfl) (fun w hm => Dp.mono _ (Y4 m0 (l := [1, 2]) rfl hm) c0) b1 s5) ?_
             rintro e aa2 ⟨rfl, s9⟩
             refine ⟨_, rfl, ?_⟩
             have aa3 : SP [] w0 aa2 [Qv j 34 #[(.int .i64 f.1), (.string ⟨List.toArray f.2.1⟩), (.string ⟨List.toArray f.2.2.1⟩), (.string ⟨List.toArray f.2.2.2.1⟩), (.string ⟨List.toArray f.2.2.2.2.1⟩), (.int .i64 f.2.2.2.2.2)], Qv q 81 #[(.int .i64 m.2.1), (.int .i64 m.2.2.1), (.int .i64 m.2.2.2.1), (.int .i64 m.2.2.2.2.1), (.slice A6 (List.length (List.map stT d9)) c7), (.slice d4 (List.length m.2.2.2.2.2) d5)], Xi 9 Qs d4 d5 m.2.2.2.2.2, Qv p 79 #[(.int .i64 a2), (.int .i64 a3), (.int .i64 a4), (.int .i64 a5), (.slice A6 (List.length (List.map stT d9)) c7), (.map (some s))], Zs s a6] := Za m0 [1, 2] [0, 3, 4] rfl rfl s9 rfl
             clear s9
             refine ⟨_, Qa hkn, rfl, ?_⟩
             exact (Exists.intro d4 (Exists.intro d5 (And.intro (And.intro aa0 (And.intro aa1 (And.intro rfl (trivial)))) (aa3))))
           ·exact oV (hC (hS 7 (pt q 0)) (hC (hB 17 83 u) (h0))) (pt q 0)
           ·exact oV (hC (hS 9 (pt j 0)) (hC (hB 17 83 u) (h0))) (pt j 1)
           ·refine Owe.light K [2, 3] K (Qb ?_ (Qb ?_ Qx))
            ·rintro ρ' w' hs hah ⟨d4, d5, ⟨ao3, ao4, -⟩, aa4⟩
             have f9 := hah 27 93 K
             have a1 := hah 17 83 K
             refine kN [(93, (pt j 1)), (83, (.bool false))] ⟨f9, (Eq.trans a1 (congrArg Value.bool u)), trivial⟩ fun hkn => ?_
             refine sL 9 93 j 1 0 (.string ⟨List.toArray f.2.1⟩) 94 aa4 rfl ?_
             exact eK hkn
            ·rintro ρ' w' hs hah ⟨f7, f8, ⟨ao5, ao6, ao7, -⟩, aa5⟩
             have f9 := hah 27 93 K
             have a1 := hah 17 83 K
             refine kN [(93, (pt j 1)), (83, (.bool false))] ⟨f9, (Eq.trans a1 (congrArg Value.bool u)), trivial⟩ fun hkn => ?_
             refine sL 9 93 j 1 0 (.string ⟨List.toArray f.2.1⟩) 94 aa5 rfl ?_
             exact eK hkn
           ·exact oV (hC (hS 9 (pt j 0)) (hC (hB 17 83 u) (h0))) (pt j 2)
           ·refine Owe.light K [2, 3] K (Qb ?_ (Qb ?_ Qx))
            ·rintro ρ' w' hs hah ⟨d4, d5, ⟨ao8, ao9, -⟩, aa6⟩
             have g0 := hah 29 95 K
             have a1 := hah 17 83 K
             refine kN [(95, (pt j 2)), (83, (.bool false))] ⟨g0, (Eq.trans a1 (congrArg Value.bool u)), trivial⟩ fun hkn => ?_
             refine sL 9 95 j 2 0 (.string ⟨List.toArray f.2.2.1⟩) 96 aa6 rfl ?_
             exact eK hkn
            ·rintro ρ' w' hs hah ⟨f7, f8, ⟨ap0, ap1, ap2, -⟩, aa7⟩
             have g0 := hah 29 95 K
             have a1 := hah 17 83 K
             refine kN [(95, (pt j 2)), (83, (.bool false))] ⟨g0, (Eq.trans a1 (congrArg Value.bool u)), trivial⟩ fun hkn => ?_
             refine sL 9 95 j 2 0 (.string ⟨List.toArray f.2.2.1⟩) 96 aa7 rfl ?_
             exact eK hkn
           ·exact oV (hC (hS 9 (pt j 0)) (hC (hB 17 83 u) (h0))) (pt j 3)
           ·refine Owe.light K [2, 3] K (Qb ?_ (Qb ?_ Qx))
            ·rintro ρ' w' hs hah ⟨d4, d5, ⟨ap3, ap4, -⟩, aa8⟩
             have g1 := hah 31 97 K
             have a1 := hah 17 83 K
             refine kN [(97, (pt j 3)), (83, (.bool false))] ⟨g1, (Eq.trans a1 (congrArg Value.bool u)), trivial⟩ fun hkn => ?_
             refine sL 9 97 j 3 0 (.string ⟨List.toArray f.2.2.2.1⟩) 98 aa8 rfl ?_
             exact eK hkn
            ·rintro ρ' w' hs hah ⟨f7, f8, ⟨ap5, ap6, ap7, -⟩, aa9⟩
             have g1 := hah 31 97 K
             have a1 := hah 17 83 K
             refine kN [(97, (pt j 3)), (83, (.bool false))] ⟨g1, (Eq.trans a1 (congrArg Value.bool u)), trivial⟩ fun hkn => ?_
             refine sL 9 97 j 3 0 (.string ⟨List.toArray f.2.2.2.1⟩) 98 aa9 rfl ?_
             exact eK hkn
           ·refine oH 3 4 ?_
            ·rintro ρ' w' hs hah ⟨f7, f8, ⟨ab0, ab1, ab2, -⟩, m5⟩
             have m6 := hah 26 92 K
             have m7 := hah 28 94 K
             have m8 := hah 30 96 K
             have m9 := hah 32 98 K
             have a1 := hah 17 83 K
             refine kN [(92, (pt q 0)), (94, (.string ⟨List.toArray f.2.1⟩)), (96, (.string ⟨List.toArray f.2.2.1⟩)), (98, (.string ⟨List.toArray f.2.2.2.1⟩)), (83, (.bool false))] ⟨m6, m7, m8, m9, (Eq.trans a1 (congrArg Value.bool u)), trivial⟩ fun hkn => ?_
             refine cF 25 #[(.tmp 92), (.tmp 94), (.tmp 96), (.tmp 98)] #[31, 9, 9, 9] 99 Tryz.call25 (J7 q A6 c7 f7 f8 m.2.1 m.2.2.1 m.2.2.2.1 m.2.2.2.2.1 d9 m.2.2.2.2.2 f.2.1 f.2.2.1 f.2.2.2.1 w' (Y3 m5 [1, 2] rfl rfl) (fun w hm => Dp.mono _ (Y4 m5 (l := [1, 2]) rfl hm) c0) b3 s6) ?_
             rintro e ab3 ⟨n0, n1, rfl, t0⟩
             refine ⟨_, rfl, ?_⟩
             have ab4 : SP [] w0 ab3 [Qv j 34 #[(.int .i64 f.1), (.string ⟨List.toArray f.2.1⟩), (.string ⟨List.toArray f.2.2.1⟩), (.string ⟨List.toArray f.2.2.2.1⟩), (.string ⟨List.toArray f.2.2.2.2.1⟩), (.int .i64 f.2.2.2.2.2)], Qv p 79 #[(.int .i64 a2), (.int .i64 a3), (.int .i64 a4), (.int .i64 a5), (.slice A6 (List.length (List.map stT d9)) c7), (.map (some s))], Zs s a6, Qv q 81 #[(.int .i64 m.2.1), (.int .i64 m.2.2.1), (.int .i64 m.2.2.2.1), (.int .i64 m.2.2.2.2.1), (.slice A6 (List.length (List.map stT d9)) c7), (.slice n0 (List.length m.2.2.2.2.2) n1)], Xi 9 Qs n0 n1 m.2.2.2.2.2] := Za m5 [1, 2] [0, 3, 4] rfl rfl t0 rfl
             clear t0
             refine ⟨_, Qa hkn, rfl, ?_⟩
             exact (Exists.intro n0 (Exists.intro n1 (And.intro (And.intro ab0 (And.intro ab1 (And.intro ab2 (And.intro rfl (trivial))))) (ab4))))
           ·refine oL 4 ?_
            ·rintro ρ' w' hs hah ⟨h7, h8, ⟨ap8, ap9, ab5, ab6, -⟩, aq0⟩
             have n2 : ρ' 91 = (.string ⟨List.toArray b1⟩) := (Y2 (h := 25) K).symm.trans ab5
             have n3 : ρ' 99 = (.string ⟨List.toArray b3⟩) := (Y2 (h := 33) K).symm.trans ab6
             have a1 := hah 17 83 K
             refine kN [(91, (.string ⟨List.toArray b1⟩)), (99, (.string ⟨List.toArray b3⟩)), (83, (.bool false))] ⟨n2, n3, (Eq.trans a1 (congrArg Value.bool u)), trivial⟩ fun hkn => ?_
             refine Vt (op := .neq) (T := 9) (T' := 9) (x := (.tmp 91)) (y := (.tmp 99)) (a := b1) (b := b3) (r := (.bool (!(b1 == b3)))) (d := (some 100)) (k := 34) K rfl K K rfl ?_
             exact eK hkn
           ·exact oV (hC (hB 17 83 u) (hC (hA 34 100) (h0))) (.bool (!(b1 == b3)))
           ·exact oV (hC (hA 35 101) (h0)) (.bool (!(b1 == b3)))
           ·exact oW (hC (hB 36 102 a0) (h0)) 103
           ·exact oW (hC (hB 36 102 a0) (h0)) 104
           ·exact oW (hC (hB 36 102 a0) (h0)) 105
           ·exact oW (hC (hB 36 102 a0) (h0)) 106
           ·exact oW (hC (hB 36 102 a0) (h0)) 107
           ·exact oW (hC (hB 36 102 a0) (h0)) 108
           ·exact oW (hC (hB 36 102 a0) (h0)) 109
           ·exact oW (hC (hB 36 102 a0) (h0)) 110
           ·exact oW (hC (hB 36 102 a0) (h0)) 111
           ·exact oW (hC (hB 36 102 a0) (h0)) 112
           ·exact oW (hC (hB 36 102 a0) (h0)) 113
           ·exact oW (hC (hB 36 102 a0) (h0)) 114
           ·exact oW (hC (hB 36 102 a0) (h0)) 115
           ·exact oW (hC (hB 36 102 a0) (h0)) 116
           ·exact oW (hC (hB 36 102 a0) (h0)) 117
           ·exact oW (hC (hB 36 102 a0) (h0)) 118
           ·exact oW (hC (hB 36 102 a0) (h0)) 119
           ·exact oW (hC (hB 36 102 a0) (h0)) 120
           ·exact oW (hC (hB 36 102 a0) (h0)) 121
           ·exact oW (hC (hB 36 102 a0) (h0)) 122
           ·exact oW (hC (hB 36 102 a0) (h0)) 123
           ·exact oW (hC (hB 36 102 a0) (h0)) 124
           ·exact oW (hC (hB 36 102 a0) (h0)) 125
           ·exact oW (hC (hB 36 102 a0) (h0)) 126
           ·exact oW (hC (hB 36 102 a0) (h0)) 127
           ·exact oV (hC (hB 36 102 a0) (hC (hA 61 127) (h0))) (.bool true)
           ·rintro ρ' w' hs hf ⟨h7, h8, ⟨aq1, aq2, aq3, aq4, -⟩, t1⟩
            refine Q4 [(1, (.slice b8 (List.length a9) b9)), (5, (.bool a7)), (6, (pt p 0)), (7, (pt q 0)), (8, (.int .i64 b2)), (128, (.bool true))] ⟨(hs 1 K).trans K, (hs 5 K).trans K, (hs 6 K).trans K, (hs 7 K).trans K, (hs 8 K).trans K, hf 62 128 K, trivial⟩ ?_
            obtain ⟨aq5, ab7⟩ : ∃ x, w' = x := ⟨_, rfl⟩
            rw [ab7] at t1 ⊢
            exact ⟨m.2.1, m.2.2.1, m.2.2.2.1, m.2.2.2.2.1, m.2.2.2.2.2, true, h7, h8, ⟨K, K, K, K, K, K, trivial⟩, SP.sel t1 [1, 2, 4, 3] rfl rfl, H⟩
          ·have H := cf H a0
           obtain ⟨e0, ab8, H⟩ := Qe H
           obtain ⟨b4, ab9, H⟩ := Qe H
           refine aG [GEq (pt p 0), GEq (pt j 1), GEq (.string ⟨List.toArray f.2.1⟩), GEq (pt j 2), GEq (.string ⟨List.toArray f.2.2.1⟩), GEq (pt j 5), GEq (.int .i64 f.2.2.2.2.2), GEq (.bool b0), GEq (pt q 0), GEq (pt j 1), GEq (.string ⟨List.toArray f.2.1⟩), GEq (pt j 2), GEq (.string ⟨List.toArray f.2.2.1⟩), GEq (pt j 5), GEq (.int .i64 f.2.2.2.2.2), GEq (.bool m.1), GEq (.bool (!(b0 == m.1))), GEq (.bool (!(b0 == m.1))), GEq (pt p 0), GEq (pt j 1), GEq (.string ⟨List.toArray f.2.1⟩), GEq (pt j 2), GEq (.string ⟨List.toArray f.2.2.1⟩), GEq (pt j 3), GEq (.string ⟨List.toArray f.2.2.2.1⟩), GEq (.string ⟨List.toArray b1⟩), GEq (pt q 0), GEq (pt j 1), GEq (.string ⟨List.toArray f.2.1⟩), GEq (pt j 2), GEq (.string ⟨List.toArray f.2.2.1⟩), GEq (pt j 3), GEq (.string ⟨List.toArray f.2.2.2.1⟩), GEq (.string ⟨List.toArray b3⟩), GEq (.bool (!(b1 == b3))), GEq (.bool (!(b1 == b3))), GEq (.bool (!(b1 == b3))), GEq (pt p 0), GEq (pt j 1), GEq (.string ⟨List.toArray f.2.1⟩), GEq (pt j 2), GEq (.string ⟨List.toArray f.2.2.1⟩), GEq (pt j 3), GEq (.string ⟨List.toArray f.2.2.2.1⟩), GEq (pt j 4), GEq (.string ⟨List.toArray f.2.2.2.2.1⟩), GEq (pt j 5), GEq (.int .i64 f.2.2.2.2.2), GEq (.int .i64 e0), GEq (pt q 0), GEq (pt j 1), GEq (.string ⟨List.toArray f.2.1⟩), GEq (pt j 2), GEq (.string ⟨List.toArray f.2.2.1⟩), GEq (pt j 3), GEq (.string ⟨List.toArray f.2.2.2.1⟩), GEq (pt j 4), GEq (.string ⟨List.toArray f.2.2.2.2.1⟩), GEq (pt j 5), GEq (.int .i64 f.2.2.2.2.2), GEq (.int .i64 b4.1), GEq (.bool (e0 != b4.1)), GEq (.bool (e0 != b4.1))] [7, 15, 25, 33, 48, 60] [([], fun vs w => VL vs [] ∧ SP [] w0 w [Qv p 79 #[(.int .i64 a2), (.int .i64 a3), (.int .i64 a4), (.int .i64 a5), (.slice A6 (List.length (List.map stT d9)) c7), (.map (some s))], Zs s a6, Xi 9 Qs b6 b7 b5, Qv q 81 #[(.int .i64 d0), (.int .i64 d1), (.int .i64 d2), (.int .i64 d3), (.slice A6 (List.length (List.map stT d9)) c7), (.slice b6 (List.length b5) b7)], Qv j 34 #[(.int .i64 f.1), (.string ⟨List.toArray f.2.1⟩), (.string ⟨List.toArray f.2.2.1⟩), (.string ⟨List.toArray f.2.2.2.1⟩), (.string ⟨List.toArray f.2.2.2.2.1⟩), (.int .i64 f.2.2.2.2.2)]]), ([7], fun vs w => VL vs [(.bool b0)] ∧ SP [] w0 w [Xi 9 Qs b6 b7 b5, Qv q 81 #[(.int .i64 d0), (.int .i64 d1), (.int .i64 d2), (.int .i64 d3), (.slice A6 (List.length (List.map stT d9)) c7), (.slice b6 (List.length b5) b7)], Qv j 34 #[(.int .i64 f.1), (.string ⟨List.toArray f.2.1⟩), (.string ⟨List.toArray f.2.2.1⟩), (.string ⟨List.toArray f.2.2.2.1⟩), (.string ⟨List.toArray f.2.2.2.2.1⟩), (.int .i64 f.2.2.2.2.2)], Qv p 79 #[(.int .i64 a2), (.int .i64 a3), (.int .i64 a4), (.int .i64 a5), (.slice A6 (List.length (List.map stT d9)) c7), (.map (some s))], Zs s a6]), ([7, 15], fun vs w => ∃ (d6 : Option Addr), ∃ (d7 : Nat), VL vs [(.bool b0), (.bool m.1)] ∧ SP [] w0 w [Qv j 34 #[(.int .i64 f.1), (.string ⟨List.toArray f.2.1⟩), (.string ⟨List.toArray f.2.2.1⟩), (.string ⟨List.toArray f.2.2.2.1⟩), (.string ⟨List.toArray f.2.2.2.2.1⟩), (.int .i64 f.2.2.2.2.2)], Qv p 79 #[(.int .i64 a2), (.int .i64 a3), (.int .i64 a4), (.int .i64 a5), (.slice A6 (List.length (List.map stT d9)) c7), (.map (some s))], Zs s a6, Qv q 81 #[(.int .i64 m.2.1), (.int .i64 m.2.2.1), (.int .i64 m.2.2.2.1), (.int .i64 m.2.2.2.2.1), (.slice A6 (List.length (List.map stT d9)) c7), (.slice d6 (List.length m.2.2.2.2.2) d7)], Xi 9 Qs d6 d7 m.2.2.2.2.2]), ([7, 15, 25], fun vs w => ∃ (g2 : Option Addr), ∃ (g3 : Nat), VL vs [(.bool b0), (.bool m.1), (.string ⟨List.toArray b1⟩)] ∧ SP [] w0 w [Qv j 34 #[(.int .i64 f.1), (.string ⟨List.toArray f.2.1⟩), (.string ⟨List.toArray f.2.2.1⟩), (.string ⟨List.toArray f.2.2.2.1⟩), (.string ⟨List.toArray f.2.2.2.2.1⟩), (.int .i64 f.2.2.2.2.2)], Qv q 81 #[(.int .i64 m.2.1), (.int .i64 m.2.2.1), (.int .i64 m.2.2.2.1), (.int .i64 m.2.2.2.2.1), (.slice A6 (List.length (List.map stT d9)) c7), (.slice g2 (List.length m.2.2.2.2.2) g3)], Xi 9 Qs g2 g3 m.2.2.2.2.2, Qv p 79 #[(.int .i64 a2), (.int .i64 a3), (.int .i64 a4), (.int .i64 a5), (.slice A6 (List.length (List.map stT d9)) c7), (.map (some s))], Zs s a6]), ([7, 15, 25, 33], fun vs w => ∃ (c2 : Option Addr), ∃ (c3 : Nat), VL vs [(.bool b0), (.bool m.1), (.string ⟨List.toArray b1⟩), (.string ⟨List.toArray b3⟩)] ∧ SP [] w0 w [Qv j 34 #[(.int .i64 f.1), (.string ⟨List.toArray f.2.1⟩), (.string ⟨List.toArray f.2.2.1⟩), (.string ⟨List.toArray f.2.2.2.1⟩), (.string ⟨List.toArray f.2.2.2.2.1⟩), (.int .i64 f.2.2.2.2.2)], Qv p 79 #[(.int .i64 a2), (.int .i64 a3), (.int .i64 a4), (.int .i64 a5), (.slice A6 (List.length (List.map stT d9)) c7), (.map (some s))], Zs s a6, Qv q 81 #[(.int .i64 m.2.1), (.int .i64 m.2.2.1), (.int .i64 m.2.2.2.1), (.int .i64 m.2.2.2.2.1), (.slice A6 (List.length (List.map stT d9)) c7), (.slice c2 (List.length m.2.2.2.2.2) c3)], Xi 9 Qs c2 c3 m.2.2.2.2.2]), ([7, 15, 25, 33, 48], fun vs w => ∃ (e1 : Option Addr), ∃ (e2 : Nat), VL vs [(.bool b0), (.bool m.1), (.string ⟨List.toArray b1⟩), (.string ⟨List.toArray b3⟩), (.int .i64 e0)] ∧ SP [] w0 w [Qv j 34 #[(.int .i64 f.1), (.string ⟨List.toArray f.2.1⟩), (.string ⟨List.toArray f.2.2.1⟩), (.string ⟨List.toArray f.2.2.2.1⟩), (.string ⟨List.toArray f.2.2.2.2.1⟩), (.int .i64 f.2.2.2.2.2)], Qv q 81 #[(.int .i64 m.2.1), (.int .i64 m.2.2.1), (.int .i64 m.2.2.2.1), (.int .i64 m.2.2.2.2.1), (.slice A6 (List.length (List.map stT d9)) c7), (.slice e1 (List.length m.2.2.2.2.2) e2)], Xi 9 Qs e1 e2 m.2.2.2.2.2, Qv p 79 #[(.int .i64 a2), (.int .i64 a3), (.int .i64 a4), (.int .i64 a5), (.slice A6 (List.length (List.map stT d9)) c7), (.map (some s))], Zs s a6]), ([7, 15, 25, 33, 48, 60], fun vs w => ∃ (i8 : Option Addr), ∃ (i9 : Nat), VL vs [(.bool b0), (.bool m.1), (.string ⟨List.toArray b1⟩), (.string ⟨List.toArray b3⟩), (.int .i64 e0), (.int .i64 b4.1)] ∧ SP [] w0 w [Qv j 34 #[(.int .i64 f.1), (.string ⟨List.toArray f.2.1⟩), (.string ⟨List.toArray f.2.2.1⟩), (.string ⟨List.toArray f.2.2.2.1⟩), (.string ⟨List.toArray f.2.2.2.2.1⟩), (.int .i64 f.2.2.2.2.2)], Qv p 79 #[(.int .i64 a2), (.int .i64 a3), (.int .i64 a4), (.int .i64 a5), (.slice A6 (List.length (List.map stT d9)) c7), (.map (some s))], Zs s a6, Qv q 81 #[(.int .i64 b4.2.1), (.int .i64 b4.2.2.1), (.int .i64 b4.2.2.2.1), (.int .i64 b4.2.2.2.2.1), (.slice A6 (List.length (List.map stT d9)) c7), (.slice i8 (List.length b4.2.2.2.2.2) i9)], Xi 9 Qs i8 i9 b4.2.2.2.2.2])] 63 6 ⟨trivial, SP.drew k6⟩ ?_ ?_
           iterate 63 refine And.intro ?_ ?_
           exact trivial
           ·exact oV (hC (hS 6 (pt p 0)) (h0)) (pt p 0)
           ·exact oV (hC (hS 9 (pt j 0)) (h0)) (pt j 1)
           ·refine oL 0 ?_
            ·rintro ρ' w' hs hah ⟨aq6, ac0⟩
             refine kM (kc (kA hah 1 67) k0) fun hkn => ?_
             refine sL 9 67 j 1 4 (.string ⟨List.toArray f.2.1⟩) 68 ac0 rfl ?_
             exact eK hkn
           ·exact oV (hC (hS 9 (pt j 0)) (h0)) (pt j 2)
           ·refine oL 0 ?_
            ·rintro ρ' w' hs hah ⟨aq7, ac1⟩
             refine kM (kc (kA hah 3 69) k0) fun hkn => ?_
             refine sL 9 69 j 2 4 (.string ⟨List.toArray f.2.2.1⟩) 70 ac1 rfl ?_
             exact eK hkn
           ·exact oV (hC (hS 9 (pt j 0)) (h0)) (pt j 5)
           ·refine oL 0 ?_
            ·rintro ρ' w' hs hah ⟨aq8, ac2⟩
             refine kM (kc (kA hah 5 71) k0) fun hkn => ?_
             refine sL 2 71 j 5 4 (.int .i64 f.2.2.2.2.2) 72 ac2 rfl ?_
             exact eK hkn
           ·refine oH 0 1 ?_
            ·rintro ρ' w' hs hah ⟨aq9, n4⟩
             refine kM (kc (kA hah 0 66) (kc (kA hah 2 68) (kc (kA hah 4 70) (kc (kA hah 6 72) k0)))) fun hkn => ?_
             refine cF 22 #[(.tmp 66), (.tmp 68), (.tmp 70), (.tmp 72)] #[29, 9, 9, 2] 73 Tryz.call22 (Yc p A6 c7 s a2 a3 a4 a5 d9 a6 f.2.1 f.2.2.1 f.2.2.2.2.2 w' (Y3 n4 [0, 1] rfl rfl) (fun w hm => Dp.mono _ (Y4 n4 (l := [0, 1]) rfl hm) c0) b0 k7) ?_
             rintro e ac3 ⟨rfl, t2⟩
             refine ⟨_, rfl, ?_⟩
             have ac4 : SP [] w0 ac3 [Xi 9 Qs b6 b7 b5, Qv q 81 #[(.int .i64 d0), (.int .i64 d1), (.int .i64 d2), (.int .i64 d3), (.slice A6 (List.length (List.map stT d9)) c7), (.slice b6 (List.length b5) b7)], Qv j 34 #[(.int .i64 f.1), (.string ⟨List.toArray f.2.1⟩), (.string ⟨List.toArray f.2.2.1⟩), (.string ⟨List.toArray f.2.2.2.1⟩), (.string ⟨List.toArray f.2.2.2.2.1⟩), (.int .i64 f.2.2.2.2.2)], Qv p 79 #[(.int .i64 a2), (.int .i64 a3), (.int .i64 a4), (.int .i64 a5), (.slice A6 (List.length (List.map stT d9)) c7), (.map (some s))], Zs s a6] := Za n4 [0, 1] [2, 3, 4] rfl rfl t2 rfl
             clear t2
             refine ⟨_, Qa hkn, rfl, ?_⟩
             exact (And.intro (And.intro rfl (trivial)) (ac4))
           ·exact oV (hC (hS 7 (pt q 0)) (h0)) (pt q 0)
           ·exact oV (hC (hS 9 (pt j 0)) (h0)) (pt j 1)
           ·refine Owe.light K [0, 1] K (Qb ?_ (Qb ?_ Qx))
            ·rintro ρ' w' hs hah ⟨ar0, ac5⟩
             refine kM (kc (kA hah 9 75) k0) fun hkn => ?_
             refine sL 9 75 j 1 4 (.string ⟨List.toArray f.2.1⟩) 76 ac5 rfl ?_
             exact eK hkn
            ·rintro ρ' w' hs hah ⟨⟨ar1, -⟩, ac6⟩
             refine kM (kc (kA hah 9 75) k0) fun hkn => ?_
             refine sL 9 75 j 1 2 (.string ⟨List.toArray f.2.1⟩) 76 ac6 rfl ?_
             exact eK hkn
           ·exact oV (hC (hS 9 (pt j 0)) (h0)) (pt j 2)
           ·refine Owe.light K [0, 1] K (Qb ?_ (Qb ?_ Qx))
            ·rintro ρ' w' hs hah ⟨ar2, ac7⟩
             refine kM (kc (kA hah 11 77) k0) fun hkn => ?_
             refine sL 9 77 j 2 4 (.string ⟨List.toArray f.2.2.1⟩) 78 ac7 rfl ?_
             exact eK hkn
            ·rintro ρ' w' hs hah ⟨⟨ar3, -⟩, ac8⟩
             refine kM (kc (kA hah 11 77) k0) fun hkn => ?_
             refine sL 9 77 j 2 2 (.string ⟨List.toArray f.2.2.1⟩) 78 ac8 rfl ?_
             exact eK hkn
           ·exact oV (hC (hS 9 (pt j 0)) (h0)) (pt j 5)
           ·refine Owe.light K [0, 1] K (Qb ?_ (Qb ?_ Qx))
            ·rintro ρ' w' hs hah ⟨ar4, ac9⟩
             refine kM (kc (kA hah 13 79) k0) fun hkn => ?_
             refine sL 2 79 j 5 4 (.int .i64 f.2.2.2.2.2) 80 ac9 rfl ?_
             exact eK hkn
            ·rintro ρ' w' hs hah ⟨⟨ar5, -⟩, ad0⟩
             refine kM (kc (kA hah 13 79) k0) fun hkn => ?_
             refine sL 2 79 j 5 2 (.int .i64 f.2.2.2.2.2) 80 ad0 rfl ?_
             exact eK hkn
           ·refine oH 1 2 ?_
            ·rintro ρ' w' hs hah ⟨⟨ad1, -⟩, n5⟩
             refine kM (kc (kA hah 8 74) (kc (kA hah 10 76) (kc (kA hah 12 78) (kc (kA hah 14 80) k0)))) fun hkn => ?_
             refine cF 23 #[(.tmp 74), (.tmp 76), (.tmp 78), (.tmp 80)] #[31, 9, 9, 2] 81 Tryz.call23 (Yv q A6 c7 b6 b7 d0 d1 d2 d3 d9 b5 f.2.1 f.2.2.1 f.2.2.2.2.2 w' (Y3 n5 [1, 0] rfl rfl) (fun w hm => Dp.mono _ (Y4 n5 (l := [1, 0]) rfl hm) c0) m k8) ?_
             rintro e ad2 ⟨n6, n7, rfl, t3⟩
             refine ⟨_, rfl, ?_⟩
             have ad3 : SP [] w0 ad2 [Qv j 34 #[(.int .i64 f.1), (.string ⟨List.toArray f.2.1⟩), (.string ⟨List.toArray f.2.2.1⟩), (.string ⟨List.toArray f.2.2.2.1⟩), (.string ⟨List.toArray f.2.2.2.2.1⟩), (.int .i64 f.2.2.2.2.2)], Qv p 79 #[(.int .i64 a2), (.int .i64 a3), (.int .i64 a4), (.int .i64 a5), (.slice A6 (List.length (List.map stT d9)) c7), (.map (some s))], Zs s a6, Qv q 81 #[(.int .i64 m.2.1), (.int .i64 m.2.2.1), (.int .i64 m.2.2.2.1), (.int .i64 m.2.2.2.2.1), (.slice A6 (List.length (List.map stT d9)) c7), (.slice n6 (List.length m.2.2.2.2.2) n7)], Xi 9 Qs n6 n7 m.2.2.2.2.2] := Za n5 [1, 0] [2, 3, 4] rfl rfl t3 rfl
             clear t3
             refine ⟨_, Qa hkn, rfl, ?_⟩
             exact (Exists.intro n6 (Exists.intro n7 (And.intro (And.intro ad1 (And.intro rfl (trivial))) (ad3))))
           ·exact oV (hC (hA 7 73) (hC (hA 15 81) (h0))) (.bool (!(b0 == m.1)))
           ·exact oV (hC (hA 16 82) (h0)) (.bool (!(b0 == m.1)))
           ·exact oV (hC (hS 6 (pt p 0)) (hC (hB 17 83 u) (h0))) (pt p 0)
           ·exact oV (hC (hS 9 (pt j 0)) (hC (hB 17 83 u) (h0))) (pt j 1)
           ·refine oL 2 ?_
            ·rintro ρ' w' hs hah ⟨d6, d7, ⟨ar6, ar7, -⟩, ad4⟩
             have l7 := hah 19 85 K
             have a1 := hah 17 83 K
             refine kN [(85, (pt j 1)), (83, (.bool false))] ⟨l7, (Eq.trans a1 (congrArg Value.bool u)), trivial⟩ fun hkn => ?_
             refine sL 9 85 j 1 0 (.string ⟨List.toArray f.2.1⟩) 86 ad4 rfl ?_
             exact eK hkn
           ·exact oV (hC (hS 9 (pt j 0)) (hC (hB 17 83 u) (h0))) (pt j 2)
           ·refine oL 2 ?_
            ·rintro ρ' w' hs hah ⟨d6, d7, ⟨ar8, ar9, -⟩, ad5⟩
             have l8 := hah 21 87 K
             have a1 := hah 17 83 K
             refine kN [(87, (pt j 2)), (83, (.bool false))] ⟨l8, (Eq.trans a1 (congrArg Value.bool u)), trivial⟩ fun hkn => ?_
             refine sL 9 87 j 2 0 (.string ⟨List.toArray f.2.2.1⟩) 88 ad5 rfl ?_
             exact eK hkn
           ·exact oV (hC (hS 9 (pt j 0)) (hC (hB 17 83 u) (h0))) (pt j 3)
           ·refine oL 2 ?_
            ·rintro ρ' w' hs hah ⟨d6, d7, ⟨as0, as1, -⟩, ad6⟩
             have l9 := hah 23 89 K
             have a1 := hah 17 83 K
             refine kN [(89, (pt j 3)), (83, (.bool false))] ⟨l9, (Eq.trans a1 (congrArg Value.bool u)), trivial⟩ fun hkn => ?_
             refine sL 9 89 j 3 0 (.string ⟨List.toArray f.2.2.2.1⟩) 90 ad6 rfl ?_
             exact eK hkn
           ·refine oH 2 3 ?_
            ·rintro ρ' w' hs hah ⟨d6, d7, ⟨ad7, ad8, -⟩, n8⟩
             have m1 := hah 18 84 K
             have m2 := hah 20 86 K
             have m3 := hah 22 88 K
             have m4 := hah 24 90 K
             have a1 := hah 17 83 K
             refine kN [(84, (pt p 0)), (86, (.string ⟨List.toArray f.2.1⟩)), (88, (.string ⟨List.toArray f.2.2.1⟩)), (90, (.string ⟨List.toArray f.2.2.2.1⟩)), (83, (.bool false))] ⟨m1, m2, m3, m4, (Eq.trans a1 (congrArg Value.bool u)), trivial⟩ fun hkn => ?_
             refine cF 24 #[(.tmp 84), (.tmp 86), (.tmp 88), (.tmp 90)] #[29, 9, 9, 9] 91 Tryz.call24 (Y9 p A6 c7 s a2 a3 a4 a5 d9 a6 f.2.1 f.2.2.1 f.2.2.2.1 w' (Y3 n8 [1, 2] rfl rfl) (fun w hm => Dp.mono _ (Y4 n8 (l := [1, 2]) rfl hm) c0) b1 s5) ?_
             rintro e ad9 ⟨rfl, t4⟩
             refine ⟨_, rfl, ?_⟩
             have ae0 : SP [] w0 ad9 [Qv j 34 #[(.int .i64 f.1), (.string ⟨List.toArray f.2.1⟩), (.string ⟨List.toArray f.2.2.1⟩), (.string ⟨List.toArray f.2.2.2.1⟩), (.string ⟨List.toArray f.2.2.2.2.1⟩), (.int .i64 f.2.2.2.2.2)], Qv q 81 #[(.int .i64 m.2.1), (.int .i64 m.2.2.1), (.int .i64 m.2.2.2.1), (.int .i64 m.2.2.2.2.1), (.slice A6 (List.length (List.map stT d9)) c7), (.slice d6 (List.length m.2.2.2.2.2) d7)], Xi 9 Qs d6 d7 m.2.2.2.2.2, Qv p 79 #[(.int .i64 a2), (.int .i64 a3), (.int .i64 a4), (.int .i64 a5), (.slice A6 (List.length (List.map stT d9)) c7), (.map (some s))], Zs s a6] := Za n8 [1, 2] [0, 3, 4] rfl rfl t4 rfl
             clear t4
             refine ⟨_, Qa hkn, rfl, ?_⟩
             exact (Exists.intro d6 (Exists.intro d7 (And.intro (And.intro ad7 (And.intro ad8 (And.intro rfl (trivial)))) (ae0))))
           ·exact oV (hC (hS 7 (pt q 0)) (hC (hB 17 83 u) (h0))) (pt q 0)
           ·exact oV (hC (hS 9 (pt j 0)) (hC (hB 17 83 u) (h0))) (pt j 1)
           ·refine Owe.light K [2, 3] K (Qb ?_ (Qb ?_ Qx))
            ·rintro ρ' w' hs hah ⟨d6, d7, ⟨as2, as3, -⟩, ae1⟩
             have f9 := hah 27 93 K
             have a1 := hah 17 83 K
             refine kN [(93, (pt j 1)), (83, (.bool false))] ⟨f9, (Eq.trans a1 (congrArg Value.bool u)), trivial⟩ fun hkn => ?_
             refine sL 9 93 j 1 0 (.string ⟨List.toArray f.2.1⟩) 94 ae1 rfl ?_
             exact eK hkn
            ·rintro ρ' w' hs hah ⟨g2, g3, ⟨as4, as5, as6, -⟩, ae2⟩
             have f9 := hah 27 93 K
             have a1 := hah 17 83 K
             refine kN [(93, (pt j 1)), (83, (.bool false))] ⟨f9, (Eq.trans a1 (congrArg Value.bool u)), trivial⟩ fun hkn => ?_
             refine sL 9 93 j 1 0 (.string ⟨List.toArray f.2.1⟩) 94 ae2 rfl ?_
             exact eK hkn
           ·exact oV (hC (hS 9 (pt j 0)) (hC (hB 17 83 u) (h0))) (pt j 2)
           ·refine Owe.light K [2, 3] K (Qb ?_ (Qb ?_ Qx))
            ·rintro ρ' w' hs hah ⟨d6, d7, ⟨as7, as8, -⟩, ae3⟩
             have g0 := hah 29 95 K
             have a1 := hah 17 83 K
             refine kN [(95, (pt j 2)), (83, (.bool false))] ⟨g0, (Eq.trans a1 (congrArg Value.bool u)), trivial⟩ fun hkn => ?_
             refine sL 9 95 j 2 0 (.string ⟨List.toArray f.2.2.1⟩) 96 ae3 rfl ?_
             exact eK hkn
            ·rintro ρ' w' hs hah ⟨g2, g3, ⟨as9, at0, at1, -⟩, ae4⟩
             have g0 := hah 29 95 K
             have a1 := hah 17 83 K
             refine kN [(95, (pt j 2)), (83, (.bool false))] ⟨g0, (Eq.trans a1 (congrArg Value.bool u)), trivial⟩ fun hkn => ?_
             refine sL 9 95 j 2 0 (.string ⟨List.toArray f.2.2.1⟩) 96 ae4 rfl ?_
             exact eK hkn
           ·exact oV (hC (hS 9 (pt j 0)) (hC (hB 17 83 u) (h0))) (pt j 3)
           ·refine Owe.light K [2, 3] K (Qb ?_ (Qb ?_ Qx))
            ·rintro ρ' w' hs hah ⟨d6, d7, ⟨at2, at3, -⟩, ae5⟩
             have g1 := hah 31 97 K
             have a1 := hah 17 83 K
             refine kN [(97, (pt j 3)), (83, (.bool false))] ⟨g1, (Eq.trans a1 (congrArg Value.bool u)), trivial⟩ fun hkn => ?_
             refine sL 9 97 j 3 0 (.string ⟨List.toArray f.2.2.2.1⟩) 98 ae5 rfl ?_
             exact eK hkn
            ·rintro ρ' w' hs hah ⟨g2, g3, ⟨at4, at5, at6, -⟩, ae6⟩
             have g1 := hah 31 97 K
             have a1 := hah 17 83 K
             refine kN [(97, (pt j 3)), (83, (.bool false))] ⟨g1, (Eq.trans a1 (congrArg Value.bool u)), trivial⟩ fun hkn => ?_
             refine sL 9 97 j 3 0 (.string ⟨List.toArray f.2.2.2.1⟩) 98 ae6 rfl ?_
             exact eK hkn
           ·refine oH 3 4 ?_
            ·rintro ρ' w' hs hah ⟨g2, g3, ⟨ae7, ae8, ae9, -⟩, n9⟩
             have m6 := hah 26 92 K
             have m7 := hah 28 94 K
             have m8 := hah 30 96 K
             have m9 := hah 32 98 K
             have a1 := hah 17 83 K
             refine kN [(92, (pt q 0)), (94, (.string ⟨List.toArray f.2.1⟩)), (96, (.string ⟨List.toArray f.2.2.1⟩)), (98, (.string ⟨List.toArray f.2.2.2.1⟩)), (83, (.bool false))] ⟨m6, m7, m8, m9, (Eq.trans a1 (congrArg Value.bool u)), trivial⟩ fun hkn => ?_
             refine cF 25 #[(.tmp 92), (.tmp 94), (.tmp 96), (.tmp 98)] #[31, 9, 9, 9] 99 Tryz.call25 (J7 q A6 c7 g2 g3 m.2.1 m.2.2.1 m.2.2.2.1 m.2.2.2.2.1 d9 m.2.2.2.2.2 f.2.1 f.2.2.1 f.2.2.2.1 w' (Y3 n9 [1, 2] rfl rfl) (fun w hm => Dp.mono _ (Y4 n9 (l := [1, 2]) rfl hm) c0) b3 s6) ?_
             rintro e af0 ⟨o0, o1, rfl, t5⟩
             refine ⟨_, rfl, ?_⟩
             have af1 : SP [] w0 af0 [Qv j 34 #[(.int .i64 f.1), (.string ⟨List.toArray f.2.1⟩), (.string ⟨List.toArray f.2.2.1⟩), (.string ⟨List.toArray f.2.2.2.1⟩), (.string ⟨List.toArray f.2.2.2.2.1⟩), (.int .i64 f.2.2.2.2.2)], Qv p 79 #[(.int .i64 a2), (.int .i64 a3), (.int .i64 a4), (.int .i64 a5), (.slice A6 (List.length (List.map stT d9)) c7), (.map (some s))], Zs s a6, Qv q 81 #[(.int .i64 m.2.1), (.int .i64 m.2.2.1), (.int .i64 m.2.2.2.1), (.int .i64 m.2.2.2.2.1), (.slice A6 (List.length (List.map stT d9)) c7), (.slice o0 (List.length m.2.2.2.2.2) o1)], Xi 9 Qs o0 o1 m.2.2.2.2.2] := Za n9 [1, 2] [0, 3, 4] rfl rfl t5 rfl
             clear t5
             refine ⟨_, Qa hkn, rfl, ?_⟩
             exact (Exists.intro o0 (Exists.intro o1 (And.intro (And.intro ae7 (And.intro ae8 (And.intro ae9 (And.intro rfl (trivial))))) (af1))))
           ·refine oL 4 ?_
            ·rintro ρ' w' hs hah ⟨c2, c3, ⟨at7, at8, af2, af3, -⟩, at9⟩
             have n2 : ρ' 91 = (.string ⟨List.toArray b1⟩) := (Y2 (h := 25) K).symm.trans af2
             have n3 : ρ' 99 = (.string ⟨List.toArray b3⟩) := (Y2 (h := 33) K).symm.trans af3
             have a1 := hah 17 83 K
             refine kN [(91, (.string ⟨List.toArray b1⟩)), (99, (.string ⟨List.toArray b3⟩)), (83, (.bool false))] ⟨n2, n3, (Eq.trans a1 (congrArg Value.bool u)), trivial⟩ fun hkn => ?_
             refine Vt (op := .neq) (T := 9) (T' := 9) (x := (.tmp 91)) (y := (.tmp 99)) (a := b1) (b := b3) (r := (.bool (!(b1 == b3)))) (d := (some 100)) (k := 34) K rfl K K rfl ?_
             exact eK hkn
           ·exact oV (hC (hB 17 83 u) (hC (hA 34 100) (h0))) (.bool (!(b1 == b3)))
           ·exact oV (hC (hA 35 101) (h0)) (.bool (!(b1 == b3)))
           ·exact oV (hC (hS 6 (pt p 0)) (hC (hB 36 102 a0) (h0))) (pt p 0)
           ·exact oV (hC (hS 9 (pt j 0)) (hC (hB 36 102 a0) (h0))) (pt j 1)
           ·refine oL 4 ?_
            ·rintro ρ' w' hs hah ⟨c2, c3, ⟨au0, au1, au2, au3, -⟩, af4⟩
             have af5 := hah 38 104 K
             have a8 := hah 36 102 K
             refine kN [(104, (pt j 1)), (102, (.bool false))] ⟨af5, (Eq.trans a8 (congrArg Value.bool a0)), trivial⟩ fun hkn => ?_
             refine sL 9 104 j 1 0 (.string ⟨List.toArray f.2.1⟩) 105 af4 rfl ?_
             exact eK hkn
           ·exact oV (hC (hS 9 (pt j 0)) (hC (hB 36 102 a0) (h0))) (pt j 2)
           ·refine oL 4 ?_
            ·rintro ρ' w' hs hah ⟨c2, c3, ⟨au4, au5, au6, au7, -⟩, af6⟩
             have af7 := hah 40 106 K
             have a8 := hah 36 102 K
             refine kN [(106, (pt j 2)), (102, (.bool false))] ⟨af7, (Eq.trans a8 (congrArg Value.bool a0)), trivial⟩ fun hkn => ?_
             refine sL 9 106 j 2 0 (.string ⟨List.toArray f.2.2.1⟩) 107 af6 rfl ?_
             exact eK hkn
           ·exact oV (hC (hS 9 (pt j 0)) (hC (hB 36 102 a0) (h0))) (pt j 3)
           ·refine oL 4 ?_
            ·rintro ρ' w' hs hah ⟨c2, c3, ⟨au8, au9, av0, av1, -⟩, af8⟩
             have af9 := hah 42 108 K
             have a8 := hah 36 102 K
             refine kN [(108, (pt j 3)), (102, (.bool false))] ⟨af9, (Eq.trans a8 (congrArg Value.bool a0)), trivial⟩ fun hkn => ?_
             refine sL 9 108 j 3 0 (.string ⟨List.toArray f.2.2.2.1⟩) 109 af8 rfl ?_
             exact eK hkn
           ·exact oV (hC (hS 9 (pt j 0)) (hC (hB 36 102 a0) (h0))) (pt j 4)
           ·refine oL 4 ?_
            ·rintro ρ' w' hs hah ⟨c2, c3, ⟨av2, av3, av4, av5, -⟩, ag0⟩
             have ag1 := hah 44 110 K
             have a8 := hah 36 102 K
             refine kN [(110, (pt j 4)), (102, (.bool false))] ⟨ag1, (Eq.trans a8 (congrArg Value.bool a0)), trivial⟩ fun hkn => ?_
             refine sL 9 110 j 4 0 (.string ⟨List.toArray f.2.2.2.2.1⟩) 111 ag0 rfl ?_
             exact eK hkn
           ·exact oV (hC (hS 9 (pt j 0)) (hC (hB 36 102 a0) (h0))) (pt j 5)
           ·refine oL 4 ?_
            ·rintro ρ' w' hs hah ⟨c2, c3, ⟨av6, av7, av8, av9, -⟩, ag2⟩
             have ag3 := hah 46 112 K
             have a8 := hah 36 102 K
             refine kN [(112, (pt j 5)), (102, (.bool false))] ⟨ag3, (Eq.trans a8 (congrArg Value.bool a0)), trivial⟩ fun hkn => ?_
             refine sL 2 112 j 5 0 (.int .i64 f.2.2.2.2.2) 113 ag2 rfl ?_
             exact eK hkn
           ·refine oH 4 5 ?_
            ·rintro ρ' w' hs hah ⟨c2, c3, ⟨ag4, ag5, ag6, ag7, -⟩, o2⟩
             have ag8 := hah 37 103 K
             have ag9 := hah 39 105 K
             have ah0 := hah 41 107 K
             have ah1 := hah 43 109 K
             have ah2 := hah 45 111 K
             have ah3 := hah 47 113 K
             have a8 := hah 36 102 K
             refine kN [(103, (pt p 0)), (105, (.string ⟨List.toArray f.2.1⟩)), (107, (.string ⟨List.toArray f.2.2.1⟩)), (109, (.string ⟨List.toArray f.2.2.2.1⟩)), (111, (.string ⟨List.toArray f.2.2.2.2.1⟩)), (113, (.int .i64 f.2.2.2.2.2)), (102, (.bool false))] ⟨ag8, ag9, ah0, ah1, ah2, ah3, (Eq.trans a8 (congrArg Value.bool a0)), trivial⟩ fun hkn => ?_
             refine cF 26 #[(.tmp 103), (.tmp 105), (.tmp 107), (.tmp 109), (.tmp 111), (.tmp 113)] #[29, 9, 9, 9, 9, 2] 114 Tryz.call26 (Y1 p A6 c7 s a2 a3 a4 a5 d9 a6 f.2.1 f.2.2.1 f.2.2.2.1 f.2.2.2.2.1 f.2.2.2.2.2 w' (Y3 o2 [1, 2] rfl rfl) (fun w hm => Dp.mono _ (Y4 o2 (l := [1, 2]) rfl hm) c0) e0 ab8) ?_
             rintro e ah4 ⟨rfl, t6⟩
             refine ⟨_, rfl, ?_⟩
             have ah5 : SP [] w0 ah4 [Qv j 34 #[(.int .i64 f.1), (.string ⟨List.toArray f.2.1⟩), (.string ⟨List.toArray f.2.2.1⟩), (.string ⟨List.toArray f.2.2.2.1⟩), (.string ⟨List.toArray f.2.2.2.2.1⟩), (.int .i64 f.2.2.2.2.2)], Qv q 81 #[(.int .i64 m.2.1), (.int .i64 m.2.2.1), (.int .i64 m.2.2.2.1), (.int .i64 m.2.2.2.2.1), (.slice A6 (List.length (List.map stT d9)) c7), (.slice c2 (List.length m.2.2.2.2.2) c3)], Xi 9 Qs c2 c3 m.2.2.2.2.2, Qv p 79 #[(.int .i64 a2), (.int .i64 a3), (.int .i64 a4), (.int .i64 a5), (.slice A6 (List.length (List.map stT d9)) c7), (.map (some s))], Zs s a6] := Za o2 [1, 2] [0, 3, 4] rfl rfl t6 rfl
             clear t6
             refine ⟨_, Qa hkn, rfl, ?_⟩
             exact (Exists.intro c2 (Exists.intro c3 (And.intro (And.intro ag4 (And.intro ag5 (And.intro ag6 (And.intro ag7 (And.intro rfl (trivial)))))) (ah5))))
           ·exact oV (hC (hS 7 (pt q 0)) (hC (hB 36 102 a0) (h0))) (pt q 0)
           ·exact oV (hC (hS 9 (pt j 0)) (hC (hB 36 102 a0) (h0))) (pt j 1)
           ·refine Owe.light K [4, 5] K (Qb ?_ (Qb ?_ Qx))
            ·rintro ρ' w' hs hah ⟨c2, c3, ⟨aw0, aw1, aw2, aw3, -⟩, ah6⟩
             have o3 := hah 50 116 K
             have a8 := hah 36 102 K
             refine kN [(116, (pt j 1)), (102, (.bool false))] ⟨o3, (Eq.trans a8 (congrArg Value.bool a0)), trivial⟩ fun hkn => ?_
             refine sL 9 116 j 1 0 (.string ⟨List.toArray f.2.1⟩) 117 ah6 rfl ?_
             exact eK hkn
            ·rintro ρ' w' hs hah ⟨e1, e2, ⟨aw4, aw5, aw6, aw7, aw8, -⟩, ah7⟩
             have o3 := hah 50 116 K
             have a8 := hah 36 102 K
             refine kN [(116, (pt j 1)), (102, (.bool false))] ⟨o3, (Eq.trans a8 (congrArg Value.bool a0)), trivial⟩ fun hkn => ?_
             refine sL 9 116 j 1 0 (.string ⟨List.toArray f.2.1⟩) 117 ah7 rfl ?_
             exact eK hkn
           ·exact oV (hC (hS 9 (pt j 0)) (hC (hB 36 102 a0) (h0))) (pt j 2)
           ·refine Owe.light K [4, 5] K (Qb ?_ (Qb ?_ Qx))
            ·rintro ρ' w' hs hah ⟨c2, c3, ⟨aw9, ax0, ax1, ax2, -⟩, ah8⟩
             have o4 := hah 52 118 K
             have a8 := hah 36 102 K
             refine kN [(118, (pt j 2)), (102, (.bool false))] ⟨o4, (Eq.trans a8 (congrArg Value.bool a0)), trivial⟩ fun hkn => ?_
             refine sL 9 118 j 2 0 (.string ⟨List.toArray f.2.2.1⟩) 119 ah8 rfl ?_
             exact eK hkn
            ·rintro ρ' w' hs hah ⟨e1, e2, ⟨ax3, ax4, ax5, ax6, ax7, -⟩, ah9⟩
             have o4 := hah 52 118 K
             have a8 := hah 36 102 K
             refine kN [(118, (pt j 2)), (102, (.bool false))] ⟨o4, (Eq.trans a8 (congrArg Value.bool a0)), trivial⟩ fun hkn => ?_
             refine sL 9 118 j 2 0 (.string ⟨List.toArray f.2.2.1⟩) 119 ah9 rfl ?_
             exact eK hkn
           ·exact oV (hC (hS 9 (pt j 0)) (hC (hB 36 102 a0) (h0))) (pt j 3)
           ·refine Owe.light K [4, 5] K (Qb ?_ (Qb ?_ Qx))
            ·rintro ρ' w' hs hah ⟨c2, c3, ⟨ax8, ax9, ay0, ay1, -⟩, ai0⟩
             have o5 := hah 54 120 K
             have a8 := hah 36 102 K
             refine kN [(120, (pt j 3)), (102, (.bool false))] ⟨o5, (Eq.trans a8 (congrArg Value.bool a0)), trivial⟩ fun hkn => ?_
             refine sL 9 120 j 3 0 (.string ⟨List.toArray f.2.2.2.1⟩) 121 ai0 rfl ?_
             exact eK hkn
            ·rintro ρ' w' hs hah ⟨e1, e2, ⟨ay2, ay3, ay4, ay5, ay6, -⟩, ai1⟩
             have o5 := hah 54 120 K
             have a8 := hah 36 102 K
             refine kN [(120, (pt j 3)), (102, (.bool false))] ⟨o5, (Eq.trans a8 (congrArg Value.bool a0)), trivial⟩ fun hkn => ?_
             refine sL 9 120 j 3 0 (.string ⟨List.toArray f.2.2.2.1⟩) 121 ai1 rfl ?_
             exact eK hkn
           ·exact oV (hC (hS 9 (pt j 0)) (hC (hB 36 102 a0) (h0))) (pt j 4)
           ·refine Owe.light K [4, 5] K (Qb ?_ (Qb ?_ Qx))
            ·rintro ρ' w' hs hah ⟨c2, c3, ⟨ay7, ay8, ay9, az0, -⟩, ai2⟩
             have o6 := hah 56 122 K
             have a8 := hah 36 102 K
             refine kN [(122, (pt j 4)), (102, (.bool false))] ⟨o6, (Eq.trans a8 (congrArg Value.bool a0)), trivial⟩ fun hkn => ?_
             refine sL 9 122 j 4 0 (.string ⟨List.toArray f.2.2.2.2.1⟩) 123 ai2 rfl ?_
             exact eK hkn
            ·rintro ρ' w' hs hah ⟨e1, e2, ⟨az1, az2, az3, az4, az5, -⟩, ai3⟩
             have o6 := hah 56 122 K
             have a8 := hah 36 102 K
             refine kN [(122, (pt j 4)), (102, (.bool false))] ⟨o6, (Eq.trans a8 (congrArg Value.bool a0)), trivial⟩ fun hkn => ?_
             refine sL 9 122 j 4 0 (.string ⟨List.toArray f.2.2.2.2.1⟩) 123 ai3 rfl ?_
             exact eK hkn
           ·exact oV (hC (hS 9 (pt j 0)) (hC (hB 36 102 a0) (h0))) (pt j 5)
           ·refine Owe.light K [4, 5] K (Qb ?_ (Qb ?_ Qx))
            ·rintro ρ' w' hs hah ⟨c2, c3, ⟨az6, az7, az8, az9, -⟩, ai4⟩
             have o7 := hah 58 124 K
             have a8 := hah 36 102 K
             refine kN [(124, (pt j 5)), (102, (.bool false))] ⟨o7, (Eq.trans a8 (congrArg Value.bool a0)), trivial⟩ fun hkn => ?_
             refine sL 2 124 j 5 0 (.int .i64 f.2.2.2.2.2) 125 ai4 rfl ?_
             exact eK hkn
            ·rintro ρ' w' hs hah ⟨e1, e2, ⟨ba0, ba1, ba2, ba3, ba4, -⟩, ai5⟩
             have o7 := hah 58 124 K
             have a8 := hah 36 102 K
             refine kN [(124, (pt j 5)), (102, (.bool false))] ⟨o7, (Eq.trans a8 (congrArg Value.bool a0)), trivial⟩ fun hkn => ?_
             refine sL 2 124 j 5 0 (.int .i64 f.2.2.2.2.2) 125 ai5 rfl ?_
             exact eK hkn
           ·refine oH 5 6 ?_
            ·rintro ρ' w' hs hah ⟨e1, e2, ⟨ai6, ai7, ai8, ai9, aj0, -⟩, o8⟩
             have aj1 := hah 49 115 K
             have aj2 := hah 51 117 K
             have aj3 := hah 53 119 K
             have aj4 := hah 55 121 K
             have aj5 := hah 57 123 K
             have aj6 := hah 59 125 K
             have a8 := hah 36 102 K
             refine kN [(115, (pt q 0)), (117, (.string ⟨List.toArray f.2.1⟩)), (119, (.string ⟨List.toArray f.2.2.1⟩)), (121, (.string ⟨List.toArray f.2.2.2.1⟩)), (123, (.string ⟨List.toArray f.2.2.2.2.1⟩)), (125, (.int .i64 f.2.2.2.2.2)), (102, (.bool false))] ⟨aj1, aj2, aj3, aj4, aj5, aj6, (Eq.trans a8 (congrArg Value.bool a0)), trivial⟩ fun hkn => ?_
             refine cF 27 #[(.tmp 115), (.tmp 117), (.tmp 119), (.tmp 121), (.tmp 123), (.tmp 125)] #[31, 9, 9, 9, 9, 2] 126 Tryz.call27 (R6 q A6 c7 e1 e2 m.2.1 m.2.2.1 m.2.2.2.1 m.2.2.2.2.1 d9 m.2.2.2.2.2 f.2.1 f.2.2.1 f.2.2.2.1 f.2.2.2.2.1 f.2.2.2.2.2 w' (Y3 o8 [1, 2] rfl rfl) (fun w hm => Dp.mono _ (Y4 o8 (l := [1, 2]) rfl hm) c0) b4 ab9) ?_
             rintro e aj7 ⟨o9, p0, rfl, t7⟩
             refine ⟨_, rfl, ?_⟩
             have aj8 : SP [] w0 aj7 [Qv j 34 #[(.int .i64 f.1), (.string ⟨List.toArray f.2.1⟩), (.string ⟨List.toArray f.2.2.1⟩), (.string ⟨List.toArray f.2.2.2.1⟩), (.string ⟨List.toArray f.2.2.2.2.1⟩), (.int .i64 f.2.2.2.2.2)], Qv p 79 #[(.int .i64 a2), (.int .i64 a3), (.int .i64 a4), (.int .i64 a5), (.slice A6 (List.length (List.map stT d9)) c7), (.map (some s))], Zs s a6, Qv q 81 #[(.int .i64 b4.2.1), (.int .i64 b4.2.2.1), (.int .i64 b4.2.2.2.1), (.int .i64 b4.2.2.2.2.1), (.slice A6 (List.length (List.map stT d9)) c7), (.slice o9 (List.length b4.2.2.2.2.2) p0)], Xi 9 Qs o9 p0 b4.2.2.2.2.2] := Za o8 [1, 2] [0, 3, 4] rfl rfl t7 rfl
             clear t7
             refine ⟨_, Qa hkn, rfl, ?_⟩
             exact (Exists.intro o9 (Exists.intro p0 (And.intro (And.intro ai6 (And.intro ai7 (And.intro ai8 (And.intro ai9 (And.intro aj0 (And.intro rfl (trivial))))))) (aj8))))
           ·exact oV (hC (hA 48 114) (hC (hA 60 126) (hC (hB 36 102 a0) (h0)))) (.bool (e0 != b4.1))
           ·exact oV (hC (hB 36 102 a0) (hC (hA 61 127) (h0))) (.bool (e0 != b4.1))
           ·rintro ρ' w' hs hf ⟨i8, i9, ⟨ba5, ba6, ba7, ba8, ba9, bb0, -⟩, t8⟩
            refine Q4 [(1, (.slice b8 (List.length a9) b9)), (5, (.bool a7)), (6, (pt p 0)), (7, (pt q 0)), (8, (.int .i64 b2)), (128, (.bool (e0 != b4.1)))] ⟨(hs 1 K).trans K, (hs 5 K).trans K, (hs 6 K).trans K, (hs 7 K).trans K, (hs 8 K).trans K, hf 62 128 K, trivial⟩ ?_
            obtain ⟨bb1, aj9⟩ : ∃ x, w' = x := ⟨_, rfl⟩
            rw [aj9] at t8 ⊢
            exact ⟨b4.2.1, b4.2.2.1, b4.2.2.2.1, b4.2.2.2.2.1, b4.2.2.2.2.2, (e0 != b4.1), i8, i9, ⟨K, K, K, K, K, K, trivial⟩, SP.sel t8 [1, 2, 4, 3] rfl rfl, H⟩
        ·rintro ρ bb2 ⟨i0, i1, i2, i3, h6, h1, i4, i5, hk, t9, H⟩
         unfold Zw at H
         first | refine At.known [(1, (.slice b8 (List.length a9) b9)), (5, (.bool a7)), (6, (pt p 0)), (7, (pt q 0)), (8, (.int .i64 b2)), (128, (.bool h1))] hk ?_ | rw [← Qz (l := [(1, (.slice b8 (List.length a9) b9)), (5, (.bool a7)), (6, (pt p 0)), (7, (pt q 0)), (8, (.int .i64 b2)), (128, (.bool h1))]) hk]
         refine Zk K (o := (.tmp 128)) K (b := h1) K (fun p1 => ?_) (fun p1 => ?_)
         ·have H := ct H p1
          refine aQ ?_
          refine aR ?_
          refine iR 1 1 [(4, (.bool false))] ?_
          refine iF ?_
          refine At.ret K ?_
          refine ⟨(.bool false), K, ?_⟩
          obtain rfl := Qh H
          exact ⟨rfl, SP.sel t9 [] rfl rfl⟩
         ·have H := cf H p1
          refine At.skip K ?_
          refine aR ?_
          refine iR 3 3 [(42, (.int .i64 b2)), (43, (.int .i64 (IntKind.wrap .i64 (b2 + 1)))), (8, (.int .i64 (IntKind.wrap .i64 (b2 + 1))))] ?_
          refine iF ?_
          exact ⟨a2, a3, a4, a5, a6, i0, i1, i2, i3, h6, (IntKind.wrap .i64 (b2 + 1)), i4, i5, ⟨K, K, K, K, K, trivial⟩, SP.sel t9 [0, 1, 2, 3] rfl rfl, H⟩
      ·have H := cf H k1
       refine At.exit K (id := 0) K ?_
       refine aQ ?_
       refine aR ?_
       refine iR 2 2 [(129, (.bool a7)), (4, (.bool a7))] ?_
       refine iF ?_
       refine At.ret K ?_
       refine ⟨(.bool a7), K, ?_⟩
       obtain rfl := Qh H
       exact ⟨rfl, SP.sel h9 [] rfl rfl⟩
     ·exact ⟨g5.1, g5.2.1, g5.2.2.1, g5.2.2.2.1, g5.2.2.2.2, g8.1, g8.2.1, g8.2.2.1, g8.2.2.2.1, g8.2.2.2.2, 0, v5, v6, ⟨K, K, K, K, K, trivial⟩, SP.sel v7 [1, 2, 4, 3] rfl rfl, H⟩
end Go.Proofs.YtmgfanhcdfobhaaGreatDoor
namespace Go.Proofs.YtmgfanhcdfobhaaGreatDoor
theorem Mt {l : List Qi} {M : N5} {ps : List (Str × Str)} (h : Rel l M ps) (t k : Str) (now : Int) : Ok l ps t k now = Oi l M t k now := by
  unfold Ok Oi
  cases hx : (Cy l t k).2.2.2 with
  | false => rfl
  | true => rw [h t k hx]
theorem rel_check {l : List Qi} {M : N5} {ps : List (Str × Str)} (h : Rel l M ps) (t k n p : Str) (now : Int) : Ms l ps t k n p now = Mp l M t k n p now := by
  unfold Ms Mp
  rw [Mt h]
theorem rel_rev {l : List Qi} {M : N5} {ps : List (Str × Str)} (h : Rel l M ps) (t k : Str) : Kx l ps t k = vRevB l M t k := by
  unfold Kx vRevB
  cases hx : (Cy l t k).2.2.2 with
  | false => rfl
  | true => rw [h t k hx]
theorem rel_step {l : List Qi} {M : N5} {ps : List (Str × Str)} {n : Nat} (h : Rel l M ps) (hM : MB n M) (a b : Str) : Rel l (L4 l M a b) (Oj l ps a b) := by
  unfold Oj
  cases hr : Kx l ps a b with
  | true => exact rel_next h hM a b
  | false =>
    rw [cond_false]
    intro t k htk
    rw [L5]
    by_cases e : (Cy l a b).2.2.2 = true ∧ (a, b) = (t, k)
    · obtain ⟨e1, e2⟩ := e
      injection e2 with e2 e3
      subst e2; subst e3
      rw [if_pos ⟨e1, rfl⟩]
      unfold Kx at hr
      rw [e1, Bool.true_and] at hr
      have hin : inP ps a b = true := by simpa using hr
      have := hM (a, b)
      rw [hin]
      simp
      omega
    · rw [if_neg e, h t k htk]
theorem rRevP_len (l : List Qi) (ps : List (Str × Str)) (t k : Str) : (Oj l ps t k).length ≤ ps.length + 1 := by
  unfold Oj
  cases Kx l ps t k <;> simp
theorem L6 (w g i0 e : Int) {l : List Qi} (hv : VC l) (ops : List OpV) (hops : ops.length ≤ 100) (hoq : ∀ o ∈ ops, OpVQ o) :
    ∀ (d i f : Nat) (M : N5) (ps : List (Str × Str)), d = ops.length - i → i ≤ ops.length → d < f → MB i M → ps.length ≤ i → Rel l M ps → Vg l ops true f w g i0 e M w g i0 e (gf ps) (i : Int) = some true := by
  intro d
  induction d with
  | zero =>
    intro i f M ps hd hi hf hM hp hr
    obtain ⟨f, rfl⟩ : ∃ g, f = g + 1 := ⟨f - 1, by omega⟩
    show Zn (Vg l ops true f) l ops true w g i0 e M w g i0 e (gf ps) (i : Int) = _
    unfold Zn
    rw [show decide ((i : Int) < ((ops.length : Nat) : Int)) = false from decide_eq_false (by omega), cond_false]
  | succ d ih =>
    intro i f M ps hd hi hf hM hp hr
    obtain ⟨f, rfl⟩ : ∃ g, f = g + 1 := ⟨f - 1, by omega⟩
    have hlt : i < ops.length := by omega
    have hx := hoq ops[i] (List.getElem_mem hlt)
    show Zn (Vg l ops true f) l ops true w g i0 e M w g i0 e (gf ps) (i : Int) = _
    generalize hR : Vg l ops true f = R at *
    unfold Zn
    rw [show decide ((i : Int) < ((ops.length : Nat) : Int)) = true from decide_eq_true (by omega), cond_true, Jo hlt, Option.bind_some]
    generalize ops[i] = x at *
    have k12 : ∀ M' ps', MB (i + 1) M' → ps'.length ≤ i + 1 → Rel l M' ps' → Zx R l (i : Int) x w g i0 e M' w g i0 e (gf ps') = some true := by
      intro M' ps' hM' hp' hr'
      unfold Zx Zw
      rw [pVGood hv, Option.bind_some, rVGood hv _ _ _ _ _ _ ps' (by omega), Option.bind_some]
      simp only []
      rw [Mt hr', beq_self_eq_true, show (!true) = false from rfl, cond_false, pVWant hv, Option.bind_some, rVWant hv, Option.bind_some, beq_self_eq_true, show (!true) = false from rfl, cond_false, pVCheck hv _ _ _ _ _ _ _ _ _ hx.2.2.2, Option.bind_some, rVCheck hv _ _ _ _ _ _ ps' (by omega), Option.bind_some]
      simp only []
      rw [rel_check hr', bne_self_eq_false, cond_false, show ((i : Int) + 1) = ((i + 1 : Nat) : Int) by omega, Xj (by omega), ← hR]
      exact ih (i + 1) f M' ps' (by omega) (by omega) (by omega) hM' hp' hr'
    cases (x.1 == 0) with
    | false => rw [cond_false]; exact k12 M ps (mb_le hM (by omega)) (by omega) hr
    | true =>
      rw [cond_true, pVRevoke hv _ _ _ _ _ _ _ (by have := hM (x.2.1, x.2.2.1); omega), Option.bind_some, rVRevoke hv _ _ _ _ _ _ ps (by omega), Option.bind_some]
      simp only []
      rw [rel_rev hr, beq_self_eq_true, show (!true) = false from rfl, cond_false]
      exact k12 _ _ (mb_rev hM l _ _) (by have := rRevP_len l ps x.2.1 x.2.2.1; omega) (rel_step hr hM _ _)
theorem Fu (w g i0 e : Int) (l : List Qi) (ops : List OpV) (hl : l.length ≤ 140737488355328) (hq : ∀ t ∈ l, Lg t) (hops : ops.length ≤ 140737488355328) (hoq : ∀ o ∈ ops, OpVQ o) : Jw w g i0 e l ops = some true := by
  unfold Jw
  obtain ⟨c, hc, hc'⟩ := cfg_great w g i0 e l hl hq
  obtain ⟨b, hb, hb'⟩ := Ol ops hops hoq
  have hup : Zo w g i0 e l ops true true = some true := by unfold Zo; rw [cond_true]
  rw [vaultHead, Option.bind_some, hc, Option.bind_some]
  cases c with
  | true => rw [cond_true]; exact hup
  | false =>
    obtain ⟨s1, s2⟩ := hc' rfl
    rw [cond_false, hb, Option.bind_some]
    cases b with
    | true => exact hup
    | false =>
      unfold Zo X7 X8 X9
      rw [cond_false, pVNew w g i0 e l hl hq, Option.bind_some, rVNew w g i0 e l (by omega) hq s2, Option.bind_some]
      cases hk : Fb w g i0 e l with
      | false => rfl
      | true =>
        have hv := vc_of hk (by omega) hq s2
        rw [cond_true, cond_true, optE_s, Option.bind_some, optE_s]
        have := L6 w g i0 e hv ops (hb' rfl) hoq ops.length 0 Zj [] [] (by omega) (by omega) (by have := hb' rfl; unfold Zj; omega) mb_nil (by simp) (fun t k _ => rfl)
        rw [show ((0 : Nat) : Int) = 0 from rfl] at this
        exact this
end Go.Proofs.YtmgfanhcdfobhaaGreatDoor
namespace Go.Proofs.YtmgfanhcdfobhaaGreatDoor
open Go.RowKit Go.ChangeShapes Go.WideShapes Go.Deep
theorem own : ownKnob Tryz.prog.godebug = none := by kernel_rfl
theorem laidOut : laidOutB Tryz.prog = true := by kernel_rfl
section
variable {H : Type} {enc : TypeId × Value → H} {W : World} {spare : Nat → Bool} {held : Bool} {base b0 : Nat} {r : Reach}
end
end Go.Proofs.YtmgfanhcdfobhaaGreatDoor
namespace Go.Proofs.YtmgfanhcdfobhaaGreatDoor
open Go.RowKit Go.ChangeShapes Go.WideShapes Go.Deep
section
variable {H : Type} {enc : TypeId × Value → H} {P : Program} {W : World}
def Rds (enc : TypeId × Value → H) (P : Program) (W : World) (t : TypeId) {α : Type} (e : Enc α) (Q : Nat → α → Prop) : Prop :=
  ∀ (Zj : Nat) (cs : List Value) (x : DataW H × List MemPlace), DataW.trod enc P W 0 (fun _ => true) true Zj t cs = some x → ∃ a, cs = e.enc a ∧ ∀ r, (x.1.weights P t).all (· ≤ r) = true → Q r a
def RdsFs (enc : TypeId × Value → H) (P : Program) (W : World) (o : Nat) (fs : List (TypeId × Nat)) {α : Type} (e : Enc α) (Q : Nat → α → Prop) : Prop :=
  ∀ (Zj : Nat) (cs : List Value) (xs : List (DataW H × List MemPlace)), xs.length = fs.length → (∀ (i : Nat) f, fs[i]? = some f → DataW.trod enc P W 0 (fun _ => true) true Zj f.1 ((cs.drop f.2).take (P.cellsOf f.1)) = xs[i]?) →
    ∃ a, (cs.drop o).take e.sz = e.enc a ∧ ∀ r, (DataW.weightsEach P (fs.map (·.1)) (xs.map (·.1))).all (· ≤ r) = true → Q r a
theorem Dk {t : TypeId} {k : IntKind} (ht : P.underlying t = some (.int k)) : Rds enc P W t (Qd k) (fun _ n => (Lit.int k n).wf = true) := by
  intro Zj cs x h
  obtain ⟨n, rfl, rfl, hw⟩ := DataW.trod_int ht h
  exact ⟨n, rfl, fun _ _ => hw⟩
theorem Ee {t : TypeId} (ht : P.underlying t = some .string) : Rds enc P W t Qs (fun r s => s.length ≤ r) := by
  intro Zj cs x h
  obtain ⟨s, rfl, rfl, hs⟩ := DataW.trod_string ht h
  refine ⟨s.data.toList, rfl, fun r hr => ?_⟩
  simpa [DataW.weights] using hr
theorem Ky {t : TypeId} {o : Nat} {α : Type} {e : Enc α} {Q : Nat → α → Prop} (h : Rds enc P W t e Q) (hc : P.cellsOf t = e.sz) : RdsFs enc P W o [(t, o)] e Q := by
  intro Zj cs xs hl hf
  match xs, hl with
  | [x], _ =>
    have := hf 0 (t, o) rfl
    obtain ⟨a, ha, hq⟩ := h Zj _ _ this
    rw [hc] at ha
    refine ⟨a, ha, fun r hr => hq r ?_⟩
    simpa [DataW.weightsEach] using hr
theorem Gu {t : TypeId} {o : Nat} {fs : List (TypeId × Nat)} {α β : Type} {e : Enc α} {e' : Enc β} {Q : Nat → α → Prop} {Q' : Nat → β → Prop} (h : Rds enc P W t e Q) (hc : P.cellsOf t = e.sz) (hr : RdsFs enc P W (o + e.sz) fs e' Q') :
    RdsFs enc P W o ((t, o) :: fs) (Qf e e') (fun r a => Q r a.1 ∧ Q' r a.2) := by
  intro Zj cs xs hl hf
  match xs, hl with
  | x :: xs, hl =>
    have := hf 0 (t, o) rfl
    obtain ⟨a, ha, hq⟩ := h Zj _ _ this
    obtain ⟨b, hb, hq'⟩ := hr Zj cs xs (by simpa using hl) (fun i f hi => by have := hf (i + 1) f (by simpa using hi); simpa using this)
    refine ⟨(a, b), ?_, fun r hw => ?_⟩
    · show (cs.drop o).take (e.sz + e'.sz) = e.enc a ++ e'.enc b
      rw [hc] at ha
      rw [← ha, ← hb, List.take_add, List.drop_drop]
    · simp only [List.map_cons, DataW.weightsEach, List.all_append, Bool.and_eq_true] at hw
      exact ⟨hq r hw.1, hq' r hw.2⟩
theorem Bh {t : TypeId} {l : List (TypeId × Nat)} {α : Type} {e : Enc α} {Q : Nat → α → Prop} (hl : (match P.underlying t with | some (.struct fs) => some (fs.toList.map (fun f => (f.type, f.offset))) | _ => none) = some l) (hc : P.cellsOf t = e.sz)
    (hr : RdsFs enc P W 0 l e Q) : Rds enc P W t e Q := by
  intro Zj cs x hx
  split at hl
  · rename_i fs hs
    simp only [Option.some.injEq] at hl
    subst hl
    obtain ⟨xs, n, _, rfl, hlen, hxs, hg⟩ := DataW.trod_struct hs hx
    obtain ⟨a, ha, hq⟩ := hr n cs xs (by simpa using hxs) (fun i f hi => by
      rw [List.getElem?_map, Option.map_eq_some_iff] at hi
      obtain ⟨f', hf', rfl⟩ := hi
      exact hg i f' (by simpa using hf'))
    rw [List.drop_zero, List.take_of_length_le (by omega)] at ha
    refine ⟨a, ha, fun r hw => hq r ?_⟩
    simp only [DataW.weights, hs] at hw
    simpa [List.map_map, Function.comp_def] using hw
  · cases hl
theorem C2 {t : TypeId} {n : Nat} : ∀ {ds : List (DataW H)} {d : DataW H}, d ∈ ds → n ∈ d.weights P t → n ∈ DataW.weightsAll P t ds
  | d0 :: ds, d, hd, hn => by
    simp only [DataW.weightsAll, List.mem_append]
    rcases List.mem_cons.1 hd with rfl | h
    · exact .inl hn
    · exact .inr (C2 h hn)
theorem rds_row {t te : TypeId} {α : Type} {e : Enc α} {Q : Nat → α → Prop} (ht : P.underlying t = some (.slice te)) (h : Rds enc P W te e Q) (hc : P.cellsOf te = e.sz) (h0 : 0 < e.sz) {Zj : Nat} {cs : List Value} {x : DataW H × List MemPlace}
    (hx : DataW.trod enc P W 0 (fun _ => true) true Zj t cs = some x) :
    ∃ (A : Option Addr) (c : Nat) (l : List α), cs = [.slice A l.length c] ∧ RdT e W A c l ∧ ∀ r, (x.1.weights P t).all (· ≤ r) = true → l.length * P.bytesOf te ≤ r ∧ ∀ a ∈ l, Q r a := by
  rcases DataW.trod_slice ht hx with ⟨rfl, rfl⟩ | ⟨a, len, cap, elems, rest, n, _, rfl, rfl, _, hl, hm, hlen, hel, _, _⟩
  · exact ⟨none, 0, [], rfl, RdT.nil _ W, fun r _ => ⟨by simp, fun a ha => by cases ha⟩⟩
  · have each : ∀ i, i ≤ len → ∃ l : List α, l.length = i ∧ ∀ j (hj : j < l.length), W.cells? 0 (a.add (j * P.cellsOf te)) (P.cellsOf te) = some (e.enc l[j]) ∧ ∀ y, elems[j]? = some y → ∀ r, (y.1.weights P te).all (· ≤ r) = true → Q r l[j] := by
      intro i
      induction i with
      | zero => exact fun _ => ⟨[], rfl, fun j hj => by simp at hj⟩
      | succ i ih =>
        intro hi
        obtain ⟨l, hll, hlg⟩ := ih (by omega)
        have := hel i (by omega)
        rw [List.getElem?_eq_getElem (by omega), Option.bind_eq_some_iff] at this
        obtain ⟨cs', h1, h2⟩ := this
        obtain ⟨b, rfl, hb⟩ := h n cs' _ h2
        refine ⟨l ++ [b], by simp [hll], fun j hj => ?_⟩
        by_cases hji : j < l.length
        · rw [List.getElem_append_left hji]
          exact hlg j hji
        · obtain rfl : j = i := by simp at hj; omega
          subst hll
          rw [List.getElem_concat_length rfl]
          refine ⟨h1, fun y hy => ?_⟩
          rw [List.getElem?_eq_getElem (by omega), Option.some.injEq] at hy
          subst hy
          exact hb
    obtain ⟨l, hll, hlg⟩ := each len (Nat.le_refl _)
    subst hll
    refine ⟨some a, cap, l, rfl, ⟨by rw [Vx], hl, hm, fun hn => ?_⟩, fun r hw => ?_⟩
    · have cell : ∀ j (hj : j < l.length) k, k < e.sz → W.cell? ((a.add (j * e.sz)).add k) = (e.enc l[j])[k]? := by
        intro j hj k hk
        have := (hlg j hj).1
        rw [hc] at this
        exact (World.cells?_some this).2.2 k hk
      have c0 := cell 0 hn 0 h0
      rw [Nat.zero_mul, List.getElem?_eq_getElem (by rw [e.len]; exact h0)] at c0
      obtain ⟨b, off, spot⟩ := a
      obtain rfl : spot = none := by simpa [Addr.add] using World.cell?_spot c0
      have hadd : ∀ i j : Nat, ((⟨b, off, none⟩ : Addr).add i).add j = ⟨b, off + (i + j), none⟩ := by
        intro i j
        unfold Addr.add
        by_cases hi : i = 0 <;> by_cases hj : j = 0 <;> simp [hi, hj, Nat.add_assoc]
      rw [hadd] at c0
      refine ⟨b, off, rfl, block_lt_of_cell c0, fun j u hu => ?_⟩
      have hlen2 := (List.getElem?_eq_some_iff.1 hu).1
      rw [Vx] at hlen2
      have hq : j / e.sz < l.length := Nat.div_lt_of_lt_mul (by rw [Nat.mul_comm]; exact hlen2)
      have hk : j % e.sz < e.sz := Nat.mod_lt _ h0
      have hj : j = j / e.sz * e.sz + j % e.sz := by rw [Nat.mul_comm]; exact (Nat.div_add_mod j e.sz).symm
      have hce := cell (j / e.sz) hq (j % e.sz) hk
      rw [hadd, ← hj] at hce
      rw [hce]
      have hgt := Bj e (l := l) (i := j / e.sz) (x := l[j / e.sz]) (List.getElem?_eq_getElem hq) (j := j % e.sz) (u := (e.enc l[j / e.sz])[j % e.sz]'(by rw [e.len]; exact hk)) (List.getElem?_eq_getElem _)
      rw [← hj, hu] at hgt
      rw [List.getElem?_eq_getElem (by rw [e.len]; exact hk), ← hgt]
    · simp only [DataW.weights, ht, List.all_cons, Bool.and_eq_true, decide_eq_true_eq, List.all_append] at hw
      refine ⟨Nat.le_trans (Nat.mul_le_mul_right _ (by simp; omega)) hw.1, fun b hb => ?_⟩
      obtain ⟨j, hj, rfl⟩ := List.mem_iff_getElem.1 hb
      refine (hlg j hj).2 _ (List.getElem?_eq_getElem (by omega)) r ?_
      rw [List.all_eq_true] at hw ⊢
      intro m hm'
      exact hw.2.1 m (C2 (List.mem_map.2 ⟨_, List.getElem_mem (by omega), rfl⟩) hm')
variable {r0 : Reach} {b0 : Nat}
theorem open_agg {t : TypeId} {fs : Array Field} {α : Type} {e : Enc α} {Q : Nat → α → Prop} (hs : P.underlying t = some (.struct fs)) (h : Rds enc P W t e Q) {v : Value} {d : DataW H} {p : List MemPlace} (hv : Value.okWide P W r0 b0 t v)
    (hd : DataW.Trod enc P W 0 (fun _ => true) true t v d p) (hr : ∀ n ∈ d.weights P t, n ≤ reachBytes) : ∃ a, v = .agg ⟨e.enc a⟩ ∧ Q reachBytes a := by
  obtain ⟨cs, rfl, hsz⟩ := okWide_struct hs hv
  obtain ⟨Zj, hf⟩ := hd
  obtain ⟨a, ha, hq⟩ := h Zj _ _ hf
  refine ⟨a, ?_, hq _ (by rw [List.all_eq_true]; intro n hn; exact decide_eq_true (hr n hn))⟩
  simp only [Value.cells] at ha
  rw [← ha]
theorem open_row {t te : TypeId} {α : Type} {e : Enc α} {Q : Nat → α → Prop} (ht : P.underlying t = some (.slice te)) (h : Rds enc P W te e Q) (hc : P.cellsOf te = e.sz) (h0 : 0 < e.sz) {v : Value} {d : DataW H} {p : List MemPlace} (hv : Value.okWide P W r0 b0 t v)
    (hd : DataW.Trod enc P W 0 (fun _ => true) true t v d p) (hr : ∀ n ∈ d.weights P t, n ≤ reachBytes) : ∃ (A : Option Addr) (c : Nat) (l : List α), v = .slice A l.length c ∧ RdT e W A c l ∧ l.length * P.bytesOf te ≤ reachBytes ∧ ∀ a ∈ l, Q reachBytes a := by
  obtain ⟨A, n, c, rfl⟩ := okWide_slice ht hv
  obtain ⟨Zj, hf⟩ := hd
  obtain ⟨A', c', l, hl, hrd, hq⟩ := rds_row ht h hc h0 hf
  simp [Value.cells] at hl
  obtain ⟨rfl, rfl, rfl⟩ := hl
  have := hq reachBytes (by rw [List.all_eq_true]; intro n hn; exact decide_eq_true (hr n hn))
  exact ⟨A, c, l, rfl, hrd, this.1, this.2⟩
end
end Go.Proofs.YtmgfanhcdfobhaaGreatDoor
namespace Go.Proofs.YtmgfanhcdfobhaaGreatDoor
theorem reachM : reachBytes ≤ 140737488355328 := by decide
section
variable {H : Type} {enc : TypeId × Value → H} {P : Program} {W : World}
theorem rds_ds {t te : TypeId} {α : Type} {e : Enc α} {Q : Nat → α → Prop} (p : Dp α) (ht : P.underlying t = some (.slice te)) (h : Rds enc P W te e Q) (hc : P.cellsOf te = e.sz) (h0 : 0 < e.sz) (hb : Nat.ble 1 (P.bytesOf te) = true) (hp : ∀ r a, Q r a → p.ok W a) :
    Rds enc P W t (eDS e) (fun r x => (dDS e p).ok W x ∧ x.2.2.length ≤ r ∧ ∀ a ∈ x.2.2, Q r a) := by
  intro Zj cs x hx
  obtain ⟨A, c, l, rfl, hr, hq⟩ := rds_row ht h hc h0 hx
  refine ⟨(A, c, l), rfl, fun r hw => ?_⟩
  obtain ⟨h1, h2⟩ := hq r hw
  exact ⟨⟨hr, fun y hy => hp r y (h2 y hy)⟩, Nat.le_trans (Nat.le_mul_of_pos_right _ (Nat.le_of_ble_eq_true hb)) h1, h2⟩
def NetQ (r : Nat) (n : Int × Int) : Prop := (Lit.int .u32 n.1).wf = true ∧ (Lit.int .i64 n.2).wf = true
def TokQ (r : Nat) (x : List UInt8 × List UInt8 × Int) : Prop := x.1.length ≤ r ∧ x.2.1.length ≤ r ∧ (Lit.int .i64 x.2.2).wf = true
def TenDQ (W : World) (r : Nat) (y : Vl) : Prop := y.1.length ≤ r ∧ (Lit.int .i64 y.2.1).wf = true ∧ (Lit.int .i64 y.2.2.1).wf = true ∧
  ((dDS eNet dT).ok W y.2.2.2.1 ∧ y.2.2.2.1.2.2.length ≤ r ∧ ∀ n ∈ y.2.2.2.1.2.2, NetQ r n) ∧ ((dDS eTok dT).ok W y.2.2.2.2 ∧ y.2.2.2.2.2.2.length ≤ r ∧ ∀ x ∈ y.2.2.2.2.2.2, TokQ r x)
def CfgQ (W : World) (r : Nat) (c : Int × Int × Int × Int × DS Vl) : Prop := (Lit.int .i64 c.1).wf = true ∧ (Lit.int .i64 c.2.1).wf = true ∧ (Lit.int .i64 c.2.2.1).wf = true ∧ (Lit.int .i64 c.2.2.2.1).wf = true ∧
  ((dDS Ua Eh).ok W c.2.2.2.2 ∧ c.2.2.2.2.2.2.length ≤ r ∧ ∀ y ∈ c.2.2.2.2.2.2, TenDQ W r y)
set_option maxRecDepth 100000 in
theorem net_rds : Rds enc Tryz.prog W 113 eNet NetQ :=
  Bh (l := [(111, 0), (3, 1)]) (by kernel_rfl) (by kernel_rfl) (Gu (Dk Tryz.underlying111) (by kernel_rfl) (Ky (Dk Tryz.underlying3) (by kernel_rfl)))
set_option maxRecDepth 100000 in
theorem tok_rds : Rds enc Tryz.prog W 48 eTok TokQ :=
  Bh (l := [(9, 0), (9, 1), (2, 2)]) (by kernel_rfl) (by kernel_rfl) (Gu (Ee Tryz.underlying9) (by kernel_rfl) (Gu (Ee Tryz.underlying9) (by kernel_rfl) (Ky (Dk Tryz.underlying2) (by kernel_rfl))))
set_option maxRecDepth 100000 in
theorem ten_rds : Rds enc Tryz.prog W 44 Ua (TenDQ W) :=
  Bh (l := [(9, 0), (3, 1), (3, 2), (41, 3), (42, 4)]) (by kernel_rfl) (by kernel_rfl)
    (Gu (Ee Tryz.underlying9) (by kernel_rfl) (Gu (Dk Tryz.underlying3) (by kernel_rfl) (Gu (Dk Tryz.underlying3) (by kernel_rfl)
      (Gu (rds_ds dT Tryz.underlying41 net_rds (by kernel_rfl) (by decide) (by kernel_rfl) (fun _ _ _ => trivial)) (by kernel_rfl) (Ky (rds_ds dT Tryz.underlying42 tok_rds (by kernel_rfl) (by decide) (by kernel_rfl) (fun _ _ _ => trivial)) (by kernel_rfl))))))
set_option maxRecDepth 100000 in
theorem cfg_rds : Rds enc Tryz.prog W 24 (Qf (Qd .i64) (Qf (Qd .i64) (Qf (Qd .i64) (Qf (Qd .i64) (eDS Ua))))) (CfgQ W) :=
  Bh (l := [(2, 0), (2, 1), (2, 2), (2, 3), (22, 4)]) (by kernel_rfl) (by kernel_rfl)
    (Gu (Dk Tryz.underlying2) (by kernel_rfl) (Gu (Dk Tryz.underlying2) (by kernel_rfl) (Gu (Dk Tryz.underlying2) (by kernel_rfl) (Gu (Dk Tryz.underlying2) (by kernel_rfl)
      (Ky (rds_ds Eh Tryz.underlying22 ten_rds (by kernel_rfl) (by decide) (by kernel_rfl) (fun _ _ h => ⟨trivial, trivial, trivial, h.2.2.2.1.1, h.2.2.2.2.1⟩)) (by kernel_rfl))))))
set_option maxRecDepth 100000 in
theorem open_cfg {r0 : Reach} {b0 : Nat} {v : Value} {d : DataW H} {p : List MemPlace} (hv : Value.okWide Tryz.prog W r0 b0 24 v) (hd : DataW.Trod enc Tryz.prog W 0 (fun _ => true) true 24 v d p) (hr : ∀ n ∈ d.weights Tryz.prog 24, n ≤ reachBytes) :
    ∃ (a b c e : Int) (A : Option Addr) (k : Nat) (l : List Vl), v = .agg #[.int .i64 a, .int .i64 b, .int .i64 c, .int .i64 e, .slice A (List.length (List.map stT l)) k] ∧ CfgQ W reachBytes (a, b, c, e, A, k, l) := by
  obtain ⟨⟨a, b, c, e, A, k, l⟩, rfl, q⟩ := open_agg Tryz.underlying24 cfg_rds hv hd hr
  refine ⟨a, b, c, e, A, k, l, ?_, q⟩
  rw [List.length_map]
  rfl
theorem cfg_q {W : World} {a b c d : Int} {A : Option Addr} {k : Nat} {x : List Vl} (h : CfgQ W reachBytes (a, b, c, d, A, k, x)) : (List.map stT x).length ≤ 140737488355328 ∧ ∀ t ∈ List.map stT x, Lg t := by
  have hM := reachM
  obtain ⟨_, _, _, _, _, h1, h2⟩ := h
  refine ⟨by rw [List.length_map]; exact Nat.le_trans h1 hM, fun t ht => ?_⟩
  obtain ⟨y, hy, rfl⟩ := List.mem_map.1 ht
  obtain ⟨q1, q2, q3, ⟨_, q4, q5⟩, _, q6, q7⟩ := h2 y hy
  refine ⟨Nat.le_trans q1 hM, Nat.le_trans q4 hM, Nat.le_trans q6 hM, fun n hn => ?_, fun z hz => ⟨Nat.le_trans (q7 z hz).1 hM, Nat.le_trans (q7 z hz).2.1 hM⟩⟩
  have := (q5 n hn).1
  simp [Lit.wf, IntKind.min, IntKind.max, IntKind.signed, IntKind.bits] at this
  omega
end
end Go.Proofs.YtmgfanhcdfobhaaGreatDoor
namespace Go.Proofs.YtmgfanhcdfobhaaGreatDoor
def OpVW (r : Nat) (o : OpV) : Prop := (Lit.int .i64 o.1).wf = true ∧ o.2.1.length ≤ r ∧ o.2.2.1.length ≤ r ∧ o.2.2.2.1.length ≤ r ∧ o.2.2.2.2.1.length ≤ r ∧ (Lit.int .i64 o.2.2.2.2.2).wf = true
section
variable {H : Type} {enc : TypeId × Value → H} {W : World}
set_option maxRecDepth 100000 in
theorem opv_rds : Rds enc Tryz.prog W 34 (Qf (Qd .i64) (Qf Qs (Qf Qs (Qf Qs (Qf Qs (Qd .i64)))))) OpVW :=
  Bh (l := [(3, 0), (9, 1), (9, 2), (9, 3), (9, 4), (2, 5)]) (by kernel_rfl) (by kernel_rfl)
    (Gu (Dk Tryz.underlying3) (by kernel_rfl) (Gu (Ee Tryz.underlying9) (by kernel_rfl) (Gu (Ee Tryz.underlying9) (by kernel_rfl) (Gu (Ee Tryz.underlying9) (by kernel_rfl)
      (Gu (Ee Tryz.underlying9) (by kernel_rfl) (Ky (Dk Tryz.underlying2) (by kernel_rfl)))))))
theorem opv_q {l : List OpV} (hl : l.length ≤ reachBytes) (h : ∀ o ∈ l, OpVW reachBytes o) : l.length ≤ 140737488355328 ∧ ∀ o ∈ l, OpVQ o := by
  have hM := reachM
  refine ⟨Nat.le_trans hl hM, fun o ho => ?_⟩
  obtain ⟨q1, q2, q3, q4, q5, q6⟩ := h o ho
  exact ⟨Nat.le_trans q2 hM, Nat.le_trans q3 hM, Nat.le_trans q4 hM, Nat.le_trans q5 hM⟩
end
end Go.Proofs.YtmgfanhcdfobhaaGreatDoor
namespace Go.Proofs.YtmgfanhcdfobhaaGreatDoor
open Go.RowKit
abbrev Mu : List (String × DataW Unit) := [("math/bits.deBruijn32tab", Rows.laid_math_bits_deBruijn32tab), ("math/bits.deBruijn64tab", Rows.laid_math_bits_deBruijn64tab), ("internal/strconv.uint64pow10", Rows.laid_internal_strconv_uint64pow10)
  , ("unicode/utf8.acceptRanges", Rows.laid_unicode_utf8_acceptRanges), ("unicode/utf8.first", Rows.laid_unicode_utf8_first)
  ]
theorem gTab : Tryz.prog.globalNamed Ch = some 0 := by kernel_rfl
theorem gTabType : (Tryz.prog.globals[0]?).map (·.type) = some 183 := by kernel_rfl
theorem cellsTab : Tryz.prog.cellsOf 183 = 20 := by kernel_rfl
theorem cellsU64 : Tryz.prog.cellsOf 153 = 1 := by kernel_rfl
theorem laid_of {W : World} (h : laidMetH Tryz.prog Mu W) : Ep W := by
  have h1 := h.filter (fun x => x.1 == Ch)
  have e : Mu.filter (fun x => x.1 == Ch) = [(Ch, Lib.tabData .u64 Lib.pow10Tab)] := by kernel_rfl
  rw [e] at h1
  have ht : Lib.TabIs Tryz.prog W Ch .u64 Lib.pow10Tab := Lib.tabIs_of_head (rest := []) gTab gTabType Tryz.underlying183 Tryz.underlying153 cellsU64 cellsTab h1
  refine ⟨ht, fun g hg => ?_⟩
  obtain rfl := Option.some.inj (gTab.symm.trans hg)
  have := ht.cell gTab 0 (by decide)
  exact block_lt_of_cell this
def cells1 : DataW Unit → List Value
  | .lit (.int k z) => [.int k z]
  | .lit (.bool b) => [.bool b]
  | _ => []
def cells2 : DataW Unit → List Value
  | .agg l => l.flatMap cells1
  | d => cells1 d
def cells3 : DataW Unit → List Value
  | .agg l => l.flatMap cells2
  | d => cells2 d
def E3 (d : DataW Unit) : Obj → Obj
  | .cells _ t frozen => .cells (cells3 d).toArray t frozen
  | o => o
noncomputable def Hp (os : Os) : World :=
  { World.holding Tryz.prog os ⟨#[], #[], []⟩ with heap := ((((World.holding Tryz.prog os ⟨#[], #[], []⟩).heap.modify 4 (E3 Rows.laid_math_bits_deBruijn32tab)).modify 5 (E3 Rows.laid_math_bits_deBruijn64tab)).modify 0 (E3 Rows.laid_internal_strconv_uint64pow10)
    |>.modify 2 (E3 Rows.laid_unicode_utf8_acceptRanges) |>.modify 1 (E3 Rows.laid_unicode_utf8_first)
    ) }
end Go.Proofs.YtmgfanhcdfobhaaGreatDoor
namespace Go.Proofs.YtmgfanhcdfobhaaGreatDoor
open Go.ChangeShapes Go.WideShapes Go.ChangeAt Go.RowKit
open Go.ChangeMaps (open_string shut_string)
set_option maxRecDepth 100000 in
theorem Ef (H : Type) (enc : TypeId × Value → H) (W : World) (base : Nat) (args : Array Value) (ds gs : List (DataW H)) (before : List MemPlace) (vt : List TypeId)
    (hval : ∀ (j : Nat) t v, Tryz.f3.params[j]? = some t → args[j]? = some v → Value.okWide Tryz.prog W .any base t v)
    (hW : DataW.Whole enc Tryz.prog Tryz.f3.params.toList Rows.vaultPlaysSpec.vars false W args.toList ds gs before) (hL : laidMetH Tryz.prog Rows.vaultPlaysRow.laid W)
    (hZ : (DataW.weightsEach Tryz.prog (Tryz.f3.params.toList ++ vt) (ds ++ gs)).all (· ≤ reachBytes) = true) :
    Calls Tryz.prog 3 args W fun e W' => ∃ v, e = .returned v ∧ Rows.vaultPlaysSpec.post enc Tryz.prog Tryz.f3 false true false false W args v W' := by
  have hW' := hW
  obtain ⟨p, q, hA0, hV, rfl, hfz, hnd⟩ := hW
  have hA : DataW.TrodAll enc Tryz.prog W 0 (fun _ => true) true Tryz.f3.params.toList args.toList ds p := hA0
  rw [Tryz.params3] at hA hval hZ
  obtain ⟨v0, vs0, d0, ds0, p0, q0, hargs, rfl, rfl, h0, r0⟩ := trodAll_cons hA
  obtain ⟨v1, vs1, d1, ds1, p1, q1, rfl, rfl, rfl, h1, r1⟩ := trodAll_cons r0
  obtain ⟨rfl, rfl, rfl⟩ := trodAll_nil r1
  obtain rfl : args = #[v0, v1] := by cases args; simp_all
  obtain ⟨rfl, rfl⟩ := trodVars_none hV
  have wz : ∀ (j : Nat) t d, _ → _ → ∀ n ∈ DataW.weights Tryz.prog t d, n ≤ reachBytes := fun j t d ht hd n hn => of_decide_eq_true (List.all_eq_true.1 hZ n (DataW.weights_mem_each (j := j) ht hd n hn))
  have k0 := h0
  have lt0 : ∀ x ∈ p0, x.block < W.heap.size := by obtain ⟨m, hm⟩ := k0; exact DataW.trod_lt m _ _ _ hm
  have k1 := h1
  have lt1 : ∀ x ∈ p1, x.block < W.heap.size := by obtain ⟨m, hm⟩ := k1; exact DataW.trod_lt m _ _ _ hm
  obtain ⟨a0_0, a0_1, a0_2, a0_3, A0_, c0_, l0_, rfl, q0_⟩ := open_cfg (hval 0 24 v0 rfl rfl) h0 (wz 0 24 d0 rfl rfl)
  obtain ⟨A1_, c1_, l1_, rfl, hr1_, hb1_, hq1_⟩ := open_row Tryz.underlying25 opv_rds (by kernel_rfl) (by decide) (hval 1 25 v1 rfl rfl) h1 (wz 1 25 d1 rfl rfl)
  have hl1_ : l1_.length ≤ reachBytes := Nat.le_trans (Nat.le_mul_of_pos_right _ (of_decide_eq_true (by kernel_rfl))) hb1_
  clear hA0
  refine (R8 A0_ c0_ A1_ c1_ a0_0 a0_1 a0_2 a0_3 l0_ l1_ W (laid_of hL) q0_.2.2.2.2.1 hr1_ true (Fu _ _ _ _ _ _ (cfg_q q0_).1 (cfg_q q0_).2 (opv_q hl1_ hq1_).1 (opv_q hl1_ hq1_).2)).mono fun e W' ⟨he, bel0⟩ => ?_
  have bel := SP.keeps bel0
  subst he
  exact ⟨_, rfl, _, _, _, [], _, [], hW', trodAll_mk1 (shut_bool Tryz.underlying4 _), (trodAll_cons_mk (Below.trod laidOut (by kernel_rfl) (of_decide_eq_true (by kernel_rfl)) k0 bel lt0) (trodAll_cons_mk (Below.trod laidOut (by kernel_rfl) (of_decide_eq_true (by kernel_rfl)) k1 bel lt1) trodAll_mk0)), rfl, bel.frame _, fun h => by cases h⟩
theorem Eg (os : Os) : laidMet Tryz.prog Rows.vaultPlaysRow.laid ((Hp os).forCall (fun _ _ => 0) ⟨#[], #[.agg #[.int .i64 0, .int .i64 0, .int .i64 0, .int .i64 0, .slice none 0 0], .slice none 0 0], []⟩).memory :=
  laidMet_of_run' 8 (by kernel_rfl) (by kernel_rfl)
theorem Fv (os : Os) {H : Type} (enc : TypeId × Value → H) : ∃ places, DataW.whole enc Tryz.prog ((Hp os).forCall (fun _ _ => 0) ⟨#[], #[.agg #[.int .i64 0, .int .i64 0, .int .i64 0, .int .i64 0, .slice none 0 0], .slice none 0 0], []⟩).memory Tryz.f3.params.toList Rows.vaultPlaysSpec.vars false [.agg #[.int .i64 0, .int .i64 0, .int .i64 0, .int .i64 0, .slice none 0 0], .slice none 0 0] 8 = some ([.agg [.lit (.int .i64 0), .lit (.int .i64 0), .lit (.int .i64 0), .lit (.int .i64 0), .nil], .nil], [], places) :=
  ⟨[], by kernel_rfl⟩
set_option maxRecDepth 100000 in
theorem Fj (os : Os) (started : os.Started) (H : Type) (enc : TypeId × Value → H) (F : Stop.Interp) :
    ReturnsInHanded {} Tryz.checked os 3 .any ((OpenSpec.ofChange Rows.vaultPlaysSpec).preRow enc Tryz.prog Tryz.f3 Rows.vaultPlaysRow.domain false Rows.vaultPlaysRow.laid) (((OpenSpec.ofChange Rows.vaultPlaysSpec).at F).post enc Tryz.prog Tryz.f3 false true false false) := by
  obtain ⟨places, hx⟩ := Fv os enc
  refine returnsInHanded_of_row (C := Tryz.checked) (s := OpenSpec.ofChange Rows.vaultPlaysSpec) own started (by kernel_rfl) Tryz.func3
    (witness_row_at (enc := enc) (C := Tryz.checked) false (Hp os) #[.agg #[.int .i64 0, .int .i64 0, .int .i64 0, .int .i64 0, .slice none 0 0], .slice none 0 0] rfl (by kernel_rfl) (by kernel_rfl) (by kernel_rfl)
      (OpenSpec.preRow_of_cond 8 hx (by kernel_rfl) (fun k hk => by cases hk) (by kernel_rfl) (Eg os))) ?_
  intro W base args ds gs before hval hW _ _ hZ hL _ _
  exact Ef H enc W base args ds gs before _ hval hW hL hZ
theorem Hq : Rows.VaultPlaysSaid :=
  OpenClaim.holds_of_cond 3 Tryz.f3 rfl rfl rfl rfl rfl rfl rfl ⟨rfl, rfl, rfl, rfl, rfl⟩ rfl rfl rfl rfl rfl (by kernel_rfl) Tryz.func3 (by kernel_rfl)
    (of_decide_eq_true (by kernel_rfl)) (by unfold Func.isWrapper; first | (rw [if_pos (by decide +kernel)]; kernel_rfl) | (rw [if_neg (by decide +kernel)]; exact ⟨rfl, rfl⟩))
    (fun os started H enc _ F => by rw [OpenClaim.pre_eq_preRow]; exact Fj os started H enc F)
theorem Cz (f : FuncId) (fn : Func) (hf : Tryz.pinned.checked.prog.funcNamed Rows.vaultPlaysRow.func = some f) (hfn : Tryz.pinned.checked.prog.funcs[f]? = some fn) :
    false = Tryz.pinned.checked.prog.looks [] ∧ ∀ (j : Nat) t, fn.params[j]? = some t → Tryz.pinned.checked.prog.wantsStandIn t = false := by
  obtain rfl : f = 3 := Option.some.inj ((show Tryz.prog.funcNamed Rows.vaultPlaysRow.func = some 3 by kernel_rfl).symm.trans hf) |>.symm
  obtain rfl : fn = Tryz.f3 := (Option.some.inj (Tryz.func3.symm.trans hfn)).symm
  refine ⟨by kernel_rfl, fun j t ht => ?_⟩
  have ha : (Tryz.f3.params.toList.all fun t => !Tryz.prog.wantsStandIn t) = true := by kernel_rfl
  rw [List.all_eq_true] at ha
  have := ha t (by rw [← Array.getElem?_toList] at ht; exact List.mem_of_getElem? ht)
  have h2 : Tryz.prog.wantsStandIn t = false := by simpa using this
  exact h2
theorem vaultPlays_card : Rows.VaultPlaysCardSaid :=
  Claim7.holds_tied_plain_at .later [] _ _ _ _ Hq (fun _ h => by cases h) (by kernel_rfl) (fun _ h => by cases h) vaultPlays_row_tie rfl ⟨rfl, rfl⟩ (by kernel_rfl) rfl Cz (by kernel_rfl)
#print axioms vaultPlays_card
end Go.Proofs.YtmgfanhcdfobhaaGreatDoor
