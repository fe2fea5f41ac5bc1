import Derived.Test.YtmgfanhcdfobhaaGreatDoorPkShakeJust4
set_option linter.unusedSimpArgs false
set_option linter.unusedVariables false
set_option linter.unusedSectionVars false
namespace Go.Proofs.YtmgfanhcdfobhaaGreatDoor
open Go.RowKit
def Zf (b : Int → (List UInt8) → (List UInt8) → (List UInt8) → Bool → Int → Option (Bool)) (a : Bool) : Option (Bool) :=
  (some (a))
def Q1 (b : Int → (List UInt8) → (List UInt8) → (List UInt8) → Bool → Int → Option (Bool)) (a : Bool) : Option (Bool) :=
  (some (a))
def Vd (a : Int → (List UInt8) → (List UInt8) → (List UInt8) → Bool → Int → Option (Bool)) (d : (Bool)) (b : ((List UInt8) × Bool)) (c : (Int × Int × (List UInt8) × (List UInt8) × Int × Int × Int × (List UInt8))) (e : Bool) : Option (Bool) :=
  (cond d (cond (b.2 == e) (cond (!b.2) (cond (b.1 == ([] : List UInt8)) (Q1 a true) (cond b.2 (Q1 a (b.1 == c.2.2.1)) (Q1 a false))) (cond b.2 (Q1 a (b.1 == c.2.2.1)) (Q1 a false))) (Q1 a false)) (Q1 a false))
def Vs (d : Int → (List UInt8) → (List UInt8) → (List UInt8) → Bool → Int → Option (Bool)) (j : (List Qf)) (b : (List (Int × Int × (List UInt8) × (List UInt8) × Int × Int × Int × (List UInt8)))) (e : (Bool)) (a : (Int × Int × Int × Int × U3)) (l : Int) (m : (List UInt8)) (n : (List UInt8)) (o : (List UInt8)) (p : Bool) (g : Int) : Option (Bool) :=
  (cond (decide (g < ((List.length b : Nat) : Int))) ((idx b g).bind fun h => ((idx b g).bind fun r => ((idx b g).bind fun s => ((V9 a.1 a.2.1 a.2.2.1 a.2.2.2.1 j a.2.2.2.2 l m n o p h.2.1 h.2.2.1 h.2.2.2.1 h.2.2.2.2.1 h.2.2.2.2.2.1 r.2.2.2.2.2.2.1 s.2.2.2.2.2.2.2).bind fun i => (d i.2.2.2.2.2.2.1 i.2.2.2.2.2.2.2.1 i.2.2.2.2.2.2.2.2.1 i.2.2.2.2.2.2.2.2.2.1 i.2.2.2.2.2.2.2.2.2.2 (IntKind.wrap .i64 (g + 1))))))) ((Xc a.1 a.2.1 a.2.2.1 a.2.2.2.1 j a.2.2.2.2 l m n o p).bind fun f => (cond (decide (((List.length b : Nat) : Int) < 2)) (cond e (Zf d (!f.2)) (Zf d false)) ((idx b 0).bind fun c => ((idx b 1).bind fun k => ((idx b 0).bind fun t => ((idx b 0).bind fun q => ((sub t.2.2.2.2.2.2.2 0 (if 64 < ((List.length q.2.2.2.2.2.2.2 : Nat) : Int) then 64 else ((List.length q.2.2.2.2.2.2.2 : Nat) : Int))).bind fun u => (cond (c.2.1 == 1) (cond (k.2.1 == 3) ((idx b 1).bind fun v => ((Xk a.1 a.2.1 a.2.2.1 a.2.2.2.1 j a.2.2.2.2 c.2.2.1 c.2.2.2.1 v.2.2.2.2.2.2.1).bind fun w => (cond w (cond (!(k.2.2.1 == ([] : List UInt8))) ((Z2 a.1 a.2.1 a.2.2.1 a.2.2.2.1 j a.2.2.2.2 c.2.2.1 c.2.2.2.1 u).bind fun x => (Vd d e f c (k.2.2.1 == x))) (Vd d e f c false)) (Vd d e f c false)))) (Vd d e f c false)) (Vd d e f c false))))))))))
def Qz (a : (List Qf)) (b : (List (Int × Int × (List UInt8) × (List UInt8) × Int × Int × Int × (List UInt8)))) (c : (Bool)) (d : (Int × Int × Int × Int × U3)) : Nat → Int → (List UInt8) → (List UInt8) → (List UInt8) → Bool → Int → Option (Bool)
  | 0, _, _, _, _, _, _ => none
  | f + 1, e, g, h, i, j, k => Vs  (Qz a b c d f) a b c d e g h i j k
def Vt (c : (List Qf)) (e : (List (Int × Int × (List UInt8) × (List UInt8) × Int × Int × Int × (List UInt8)))) (d : (Bool)) (a : (Int × Int × Int × Int × U3)) (f : Bool) : Option (Bool) :=
  (cond f (some (d)) ((Ut a.1 a.2.1 a.2.2.1 a.2.2.2.1 c a.2.2.2.2).bind fun b => (Qz c e d a Zv b.1 b.2.1 b.2.2.1 b.2.2.2.1 b.2.2.2.2 0)))
def Xz (d : Int) (e : Int) (f : Int) (g : Int) (a : (List Qf)) (b : (List (Int × Int × (List UInt8) × (List UInt8) × Int × Int × Int × (List UInt8)))) : Option (Bool) :=
  ((Yh ).bind fun c => ((J9 d e f g a).bind fun i => (optE i (some (c)) (fun h => ((Yx d e f g a).bind fun j => (cond j (Vt a b c h true) ((Y6 b).bind fun k => (Vt a b c h k))))))))
set_option maxRecDepth 100000 in
set_option maxHeartbeats 4000000 in
theorem Na (A6 : Option Addr) (c7 : Nat) (u : Option Addr) (a3 : Nat) (d2 : Int) (d3 : Int) (d4 : Int) (d5 : Int) (d9 : (List Vc)) (a1 : (List (Int × Int × (List UInt8) × (List UInt8) × Int × Int × Int × (List UInt8)))) (w0 : World) (hL : R5 w0) (c8 : (dDS Uk Bs).ok w0 (A6, c7, d9)) (b9 : RdT (Qa (Qb .i64) (Qa (Qb .i64) (Qa Qr (Qa Qr (Qa (Qb .i64) (Qa (Qb .i64) (Qa (Qb .i64) Qr))))))) w0 u a3 a1) (r : (Bool)) (H : Xz d2 d3 d4 d5 (List.map stT d9) a1 = some r) :
  Calls Tryz.prog 9 #[(.agg #[(.int .i64 d2), (.int .i64 d3), (.int .i64 d4), (.int .i64 d5), (.slice A6 (List.length (List.map stT d9)) c7)]), (.slice u (List.length a1) a3)] w0 (fun e w' => e = .returned (.bool r) ∧ SP [] w0 w' []) := by
 unfold Xz at H
 refine Qx (n := 148) Tryz.func9 K K K ?_
 have p5 := Q4 [] w0
 refine aQ ?_
 refine aR ?_
 refine iS 1 ?_
 refine Vw (t := 24) (x := (.tmp 0)) (v := (.agg #[(.int .i64 d2), (.int .i64 d3), (.int .i64 d4), (.int .i64 d5), (.slice A6 (List.length (List.map stT d9)) c7)])) (d := (some 2)) (k := 0) K rfl K p5 ?_
 intro j6 p6 j7
 refine iR 1 2 [(4, (.bool false))] ?_
 refine iF ?_
 refine aQ ?_
 refine aR ?_
 obtain ⟨a8, p7, H⟩ := Qe H
 refine iS 1 ?_
 refine cF 31 #[] #[] 15 Tryz.call31 (Gk   p6 (Z4 hL (SP.keeps j7)) a8 p7) ?_
 rintro e j8 ⟨rfl, j9⟩
 refine ⟨_, rfl, ?_⟩
 have d6 := SP.call j7 j9
 clear j9
 refine iR 1 2 [(5, (.bool a8))] ?_
 refine iF ?_
 refine aQ ?_
 refine aR ?_
 refine iS 1 ?_
 refine sL 24 2 j6 0 0 (.agg #[(.int .i64 d2), (.int .i64 d3), (.int .i64 d4), (.int .i64 d5), (.slice A6 (List.length (List.map stT d9)) c7)]) 16 d6 rfl ?_
 obtain ⟨p8, k1, H⟩ := Qe H
 rcases p8 with _ | p
 ·have H := optN H
  refine iS 2 ?_
  refine cF 18 #[(.tmp 16)] #[24] 17 Tryz.call18 (J5 A6 c7 d2 d3 d4 d5 d9 j8 (Z4 hL (SP.keeps d6)) (Dp.sp c8 d6) none k1) ?_
  rintro e w27 ⟨rfl, k2⟩
  refine ⟨_, rfl, ?_⟩
  have p9 := SP.call d6 k2
  clear k2
  refine iR 1 3 [(6, (.pointer none))] ?_
  refine iF ?_
  refine aQ ?_
  refine aQ ?_
  refine aR ?_
  refine iR 10 10 [(18, (.pointer none)), (19, (.bool true)), (20, (.bool true)), (21, undef), (22, undef), (23, (.bool true)), (24, (.bool true)), (25, undef), (26, undef), (27, (.bool true))] ?_
  refine iF ?_
  refine Zw K (o := (.tmp 27)) K (b := true) K (fun k3 => ?_) (fun k3 => ?_)
  rotate_left
  ·cases k3
  refine aQ ?_
  refine aR ?_
  refine iR 2 2 [(28, (.bool a8)), (4, (.bool a8))] ?_
  refine iF ?_
  refine At.ret K ?_
  refine ⟨(.bool a8), K, ?_⟩
  obtain rfl := Qh H
  exact ⟨rfl, SP.sel p9 [] rfl rfl⟩
 ·have H := optS H
  refine iS 2 ?_
  refine cF 18 #[(.tmp 16)] #[24] 17 Tryz.call18 (J5 A6 c7 d2 d3 d4 d5 d9 j8 (Z4 hL (SP.keeps d6)) (Dp.sp c8 d6) (some p) k1) ?_
  rintro e w32 ⟨s, a5, rfl, k4⟩
  refine ⟨_, rfl, ?_⟩
  have g2 := SP.call d6 k4
  clear k4
  refine iR 1 3 [(6, (pt s 0))] ?_
  refine iF ?_
  refine aQ ?_
  refine aQ ?_
  refine At.join (fun ρ w => ∃ (e1 : Bool), Zj ρ [(1, (.slice u (List.length a1) a3)), (5, (.bool a8)), (6, (pt s 0)), (27, (.bool e1))] ∧ SP [] w0 w [Qp s 79 #[(.int .i64 p.1), (.int .i64 p.2.1), (.int .i64 p.2.2.1), (.int .i64 p.2.2.2.1), (.slice A6 (List.length (List.map stT d9)) c7), (.map (some a5))], Vn a5 p.2.2.2.2] ∧ Vt (List.map stT d9) a1 a8 p e1 = some r) ?_ ?_
  ·refine aR ?_
   refine iR 3 3 [(18, (pt s 0)), (19, (.bool false)), (20, (.bool false))] ?_
   refine iS 4 ?_
   refine sL 24 2 j6 0 0 (.agg #[(.int .i64 d2), (.int .i64 d3), (.int .i64 d4), (.int .i64 d5), (.slice A6 (List.length (List.map stT d9)) c7)]) 21 g2 rfl ?_
   obtain ⟨f8, q0, H⟩ := Qe H
   refine iS 5 ?_
   refine cF 16 #[(.tmp 21)] #[24] 22 Tryz.call16 (Nx A6 c7 d2 d3 d4 d5 d9 w32 (Dp.sp c8 g2) f8 q0) ?_
   rintro e q1 ⟨rfl, k5⟩
   refine ⟨_, rfl, ?_⟩
   have g3 := SP.call g2 k5
   clear k5
   refine iR 2 7 [(23, (.bool f8)), (24, (.bool f8))] ?_
   refine In.guard (t := 24) (b := f8) K (fun g4 => ?_) (fun g4 => ?_)
   ·have H := ct H g4
    refine iR 3 10 [(25, undef), (26, undef), (27, (.bool true))] ?_
    refine iF ?_
    exact ⟨true, ⟨K, K, K, K, trivial⟩, SP.sel g3 [1, 2] rfl rfl, H⟩
   ·have H := cf H g4
    refine iR 1 8 [(25, (.slice u (List.length a1) a3))] ?_
    obtain ⟨g5, q2, H⟩ := Qe H
    refine iS 9 ?_
    refine cF 32 #[(.tmp 25)] #[58] 26 Tryz.call32 (N6 u a3 a1 q1 (RdT.sp b9 g3) g5 q2) ?_
    rintro e af6 ⟨rfl, k6⟩
    refine ⟨_, rfl, ?_⟩
    have q3 := SP.call g3 k6
    clear k6
    refine iR 1 10 [(27, (.bool g5))] ?_
    refine iF ?_
    exact ⟨g5, ⟨K, K, K, K, trivial⟩, SP.sel q3 [1, 2] rfl rfl, H⟩
  ·rintro ρ q4 ⟨e1, hk, f9, H⟩
   unfold Vt at H
   first | refine At.known [(1, (.slice u (List.length a1) a3)), (5, (.bool a8)), (6, (pt s 0)), (27, (.bool e1))] hk ?_ | rw [← Q7 (l := [(1, (.slice u (List.length a1) a3)), (5, (.bool a8)), (6, (pt s 0)), (27, (.bool e1))]) hk]
   refine Zw K (o := (.tmp 27)) K (b := e1) K (fun g6 => ?_) (fun g6 => ?_)
   ·have H := ct H g6
    refine aQ ?_
    refine aR ?_
    refine iR 2 2 [(28, (.bool a8)), (4, (.bool a8))] ?_
    refine iF ?_
    refine At.ret K ?_
    refine ⟨(.bool a8), K, ?_⟩
    obtain rfl := Qh H
    exact ⟨rfl, SP.sel f9 [] rfl rfl⟩
   ·have H := cf H g6
    refine At.skip K ?_
    refine aQ ?_
    refine aR ?_
    refine iR 1 1 [(29, (pt s 0))] ?_
    obtain ⟨c5, q5, H⟩ := Qe H
    refine iS 2 ?_
    refine cF 33 #[(.tmp 29)] #[29] 30 Tryz.call33 (U5 s A6 c7 a5 p.1 p.2.1 p.2.2.1 p.2.2.2.1 d9 p.2.2.2.2 q4 (X8 f9 [0, 1] rfl rfl) (fun w hm => Dp.mono _ (J6 f9 (l := [0, 1]) rfl hm) c8) c5 q5) ?_
    rintro e q6 ⟨a4, rfl, k7⟩
    refine ⟨_, rfl, ?_⟩
    have q7 : SP [] w0 q6 [Qp a4 95 #[(pt s 0), (Vz c5.1 a4), (.string ⟨List.toArray c5.2.1⟩), (.string ⟨List.toArray c5.2.2.1⟩), (.string ⟨List.toArray c5.2.2.2.1⟩), (.bool c5.2.2.2.2)], Qp s 79 #[(.int .i64 p.1), (.int .i64 p.2.1), (.int .i64 p.2.2.1), (.int .i64 p.2.2.2.1), (.slice A6 (List.length (List.map stT d9)) c7), (.map (some a5))], Vn a5 p.2.2.2.2] := V4 f9 [0, 1] [] rfl rfl k7 rfl
    clear k7
    refine iR 1 3 [(7, (pt a4 0))] ?_
    refine iF ?_
    refine aQ ?_
    refine aQ ?_
    refine aR ?_
    refine iR 2 2 [(31, (pt a4 0)), (32, (.bool false))] ?_
    refine iF ?_
    refine Zw K (o := (.tmp 32)) K (b := false) K (fun k8 => ?_) (fun k8 => ?_)
    ·cases k8
    refine At.skip K ?_
    refine aQ ?_
    refine aQ ?_
    refine aR ?_
    refine iR 1 1 [(8, (.int .i64 0))] ?_
    refine iF ?_
    refine X4 K (id := 0) K ?_
    refine Ne K (fun e2 ρ w => ∃ (b2 : Int) (b3 : (List UInt8)) (b4 : (List UInt8)) (b5 : (List UInt8)) (b6 : Bool) (a7 : Int), Zj ρ [(1, (.slice u (List.length a1) a3)), (5, (.bool a8)), (6, (pt s 0)), (7, (pt a4 0)), (8, (.int .i64 a7))] ∧ SP [] w0 w [Qp s 79 #[(.int .i64 p.1), (.int .i64 p.2.1), (.int .i64 p.2.2.1), (.int .i64 p.2.2.2.1), (.slice A6 (List.length (List.map stT d9)) c7), (.map (some a5))], Vn a5 p.2.2.2.2, Qp a4 95 #[(pt s 0), (Vz b2 a4), (.string ⟨List.toArray b3⟩), (.string ⟨List.toArray b4⟩), (.string ⟨List.toArray b5⟩), (.bool b6)]] ∧ Qz (List.map stT d9) a1 a8 p e2 b2 b3 b4 b5 b6 a7 = some r) (by rintro ρ w ⟨b2, b3, b4, b5, b6, a7, hk, hs, H⟩; cases H) ?_ Zv ?_
    ·rintro e2 ρ q8 ⟨b2, b3, b4, b5, b6, a7, hk, g0, H⟩
     refine At.known [(1, (.slice u (List.length a1) a3)), (5, (.bool a8)), (6, (pt s 0)), (7, (pt a4 0)), (8, (.int .i64 a7))] hk ?_
     replace H := (show Vs (Qz (List.map stT d9) a1 a8 p e2) (List.map stT d9) a1 a8 p b2 b3 b4 b5 b6 a7 = some r from H)
     unfold Vs at H
     refine aQ ?_
     refine aQ ?_
     refine aR ?_
     refine iR 4 4 [(33, (.int .i64 a7)), (34, (.slice u (List.length a1) a3)), (35, (.int .i64 ((List.length a1 : Nat) : Int))), (36, (.bool (decide (a7 < ((List.length a1 : Nat) : Int)))))] ?_
     refine iF ?_
     refine Zw K (o := (.tmp 36)) K (b := (decide (a7 < ((List.length a1 : Nat) : Int)))) K (fun g7 => ?_) (fun g7 => ?_)
     ·have H := ct H g7
      refine At.skip K ?_
      refine aQ ?_
      refine X4 K (id := 1) K ?_
      obtain ⟨c0, k9, l0, q9, H⟩ := Qw H
      obtain ⟨g8, l1, l2, r0, H⟩ := Qw H
      obtain ⟨g9, l3, l4, r1, H⟩ := Qw H
      obtain ⟨b0, r2, H⟩ := Qe H
      refine aG [GEq (pt a4 0), GEq (.slice u (List.length a1) a3), GEq (.int .i64 a7), Zx u (Qa (Qb .i64) (Qa (Qb .i64) (Qa Qr (Qa Qr (Qa (Qb .i64) (Qa (Qb .i64) (Qa (Qb .i64) Qr))))))).sz a7, C1 u (Qa (Qb .i64) (Qa (Qb .i64) (Qa Qr (Qa Qr (Qa (Qb .i64) (Qa (Qb .i64) (Qa (Qb .i64) Qr))))))).sz a7 1, GEq (.agg #[(.int .i64 c0.2.1), (.string ⟨List.toArray c0.2.2.1⟩), (.string ⟨List.toArray c0.2.2.2.1⟩), (.int .i64 c0.2.2.2.2.1), (.int .i64 c0.2.2.2.2.2.1)]), GEq (.slice u (List.length a1) a3), GEq (.int .i64 a7), Zx u (Qa (Qb .i64) (Qa (Qb .i64) (Qa Qr (Qa Qr (Qa (Qb .i64) (Qa (Qb .i64) (Qa (Qb .i64) Qr))))))).sz a7, C1 u (Qa (Qb .i64) (Qa (Qb .i64) (Qa Qr (Qa Qr (Qa (Qb .i64) (Qa (Qb .i64) (Qa (Qb .i64) Qr))))))).sz a7 6, GEq (.int .i64 g8.2.2.2.2.2.2.1), GEq (.slice u (List.length a1) a3), GEq (.int .i64 a7), Zx u (Qa (Qb .i64) (Qa (Qb .i64) (Qa Qr (Qa Qr (Qa (Qb .i64) (Qa (Qb .i64) (Qa (Qb .i64) Qr))))))).sz a7, C1 u (Qa (Qb .i64) (Qa (Qb .i64) (Qa Qr (Qa Qr (Qa (Qb .i64) (Qa (Qb .i64) (Qa (Qb .i64) Qr))))))).sz a7 7, GEq (.string ⟨List.toArray g9.2.2.2.2.2.2.2⟩), GEq (.tuple #[(.agg #[(.int .i64 b0.1), (.string ⟨List.toArray b0.2.1⟩), (.string ⟨List.toArray b0.2.2.1⟩), (.int .i64 b0.2.2.2.1), (.int .i64 b0.2.2.2.2.1)]), (.bool b0.2.2.2.2.2.1)])] [16] [sG [] [] [] w0 [Qp s 79 #[(.int .i64 p.1), (.int .i64 p.2.1), (.int .i64 p.2.2.1), (.int .i64 p.2.2.2.1), (.slice A6 (List.length (List.map stT d9)) c7), (.map (some a5))], Vn a5 p.2.2.2.2, Qp a4 95 #[(pt s 0), (Vz b2 a4), (.string ⟨List.toArray b3⟩), (.string ⟨List.toArray b4⟩), (.string ⟨List.toArray b5⟩), (.bool b6)]], sG [16] [(.tuple #[(.agg #[(.int .i64 b0.1), (.string ⟨List.toArray b0.2.1⟩), (.string ⟨List.toArray b0.2.2.1⟩), (.int .i64 b0.2.2.2.1), (.int .i64 b0.2.2.2.2.1)]), (.bool b0.2.2.2.2.2.1)])] [] w0 [Qp s 79 #[(.int .i64 p.1), (.int .i64 p.2.1), (.int .i64 p.2.2.1), (.int .i64 p.2.2.2.1), (.slice A6 (List.length (List.map stT d9)) c7), (.map (some a5))], Vn a5 p.2.2.2.2, Qp a4 95 #[(pt s 0), (Vz b0.2.2.2.2.2.2.1 a4), (.string ⟨List.toArray b0.2.2.2.2.2.2.2.1⟩), (.string ⟨List.toArray b0.2.2.2.2.2.2.2.2.1⟩), (.string ⟨List.toArray b0.2.2.2.2.2.2.2.2.2.1⟩), (.bool b0.2.2.2.2.2.2.2.2.2.2)]]] 17 1 ⟨trivial, SP.drew g0⟩ ?_ ?_
      iterate 17 refine And.intro ?_ ?_
      exact trivial
      ·exact oV (hC (hS 7 (pt a4 0)) (h0)) (pt a4 0)
      ·exact oV (hC (hS 1 (.slice u (List.length a1) a3)) (h0)) (.slice u (List.length a1) a3)
      ·exact oV (hC (hS 8 (.int .i64 a7)) (h0)) (.int .i64 a7)
      ·refine oL 0 ?_
       ·rintro ρ' w' hs hah ⟨af7, r3⟩
        refine kM (kc (kA hah 1 40) (kc (kA hah 2 41) k0)) fun hkn => ?_
        refine Vu (e := (Qa (Qb .i64) (Qa (Qb .i64) (Qa Qr (Qa Qr (Qa (Qb .i64) (Qa (Qb .i64) (Qa (Qb .i64) Qr)))))))) (l := a1) (A := u) (c := a3) (T := 58) (E := 67) (x := (.tmp 40)) (ix := (.tmp 41)) (ki := .i64) (iz := a7) (d := (some 42)) (k := 3) K rfl K K K K (RdT.sp b9 r3) k9 l0 ?_
        intro r4 r5 r6 af8 hc1980
        exact ⟨rfl, _, Qc hkn, ⟨r4, r5, r6, rfl⟩⟩
      ·refine oL 0 ?_
       ·rintro ρ' w' hs hah ⟨af9, ag0⟩
        obtain ⟨l5, l6, r7, r8⟩ := hah 3 42 K
        refine kM (kc r8 k0) fun hkn => ?_
        refine Qj.run (k := 4) (v := (.pointer (some ⟨l5, (l6 + Int.toNat a7 * (Qa (Qb .i64) (Qa (Qb .i64) (Qa Qr (Qa Qr (Qa (Qb .i64) (Qa (Qb .i64) (Qa (Qb .i64) Qr))))))).sz + 1), none⟩))) K ?_
        exact ⟨rfl, _, Qc hkn, ⟨l5, l6, r7, rfl⟩⟩
      ·refine oL 0 ?_
       ·rintro ρ' w' hs hah ⟨ag1, r9⟩
        obtain ⟨s0, s1, s2, s3⟩ := hah 4 43 K
        refine kM (kc s3 k0) fun hkn => ?_
        refine Qj.cells (t := 63) (x := (.tmp 43)) (b := s0) (off := (s1 + Int.toNat a7 * (Qa (Qb .i64) (Qa (Qb .i64) (Qa Qr (Qa Qr (Qa (Qb .i64) (Qa (Qb .i64) (Qa (Qb .i64) Qr))))))).sz + 1)) (xs := [(.int .i64 c0.2.1), (.string ⟨List.toArray c0.2.2.1⟩), (.string ⟨List.toArray c0.2.2.2.1⟩), (.int .i64 c0.2.2.2.2.1), (.int .i64 c0.2.2.2.2.2.1)]) (d := (some 44)) (k := 5) K rfl K K K (Gc (e := (Qa (Qb .i64) (Qa (Qb .i64) (Qa Qr (Qa Qr (Qa (Qb .i64) (Qa (Qb .i64) (Qa (Qb .i64) Qr)))))))) (Qo (RdT.sp b9 r9) s2 k9 l0) q9 (j := 1) rfl) ?_
        exact eK hkn
      ·exact oV (hC (hS 1 (.slice u (List.length a1) a3)) (h0)) (.slice u (List.length a1) a3)
      ·exact oV (hC (hS 8 (.int .i64 a7)) (h0)) (.int .i64 a7)
      ·refine oL 0 ?_
       ·rintro ρ' w' hs hah ⟨ag2, s4⟩
        refine kM (kc (kA hah 6 45) (kc (kA hah 7 46) k0)) fun hkn => ?_
        refine Vu (e := (Qa (Qb .i64) (Qa (Qb .i64) (Qa Qr (Qa Qr (Qa (Qb .i64) (Qa (Qb .i64) (Qa (Qb .i64) Qr)))))))) (l := a1) (A := u) (c := a3) (T := 58) (E := 67) (x := (.tmp 45)) (ix := (.tmp 46)) (ki := .i64) (iz := a7) (d := (some 47)) (k := 8) K rfl K K K K (RdT.sp b9 s4) l1 l2 ?_
        intro s5 s6 s7 ag3 hc1997
        exact ⟨rfl, _, Qc hkn, ⟨s5, s6, s7, rfl⟩⟩
      ·refine oL 0 ?_
       ·rintro ρ' w' hs hah ⟨ag4, ag5⟩
        obtain ⟨l7, l8, s8, s9⟩ := hah 8 47 K
        refine kM (kc s9 k0) fun hkn => ?_
        refine Qj.run (k := 9) (v := (.pointer (some ⟨l7, (l8 + Int.toNat a7 * (Qa (Qb .i64) (Qa (Qb .i64) (Qa Qr (Qa Qr (Qa (Qb .i64) (Qa (Qb .i64) (Qa (Qb .i64) Qr))))))).sz + 6), none⟩))) K ?_
        exact ⟨rfl, _, Qc hkn, ⟨l7, l8, s8, rfl⟩⟩
      ·refine oL 0 ?_
       ·rintro ρ' w' hs hah ⟨ag6, t0⟩
        obtain ⟨t1, t2, t3, t4⟩ := hah 9 48 K
        refine kM (kc t4 k0) fun hkn => ?_
        refine sC 2 48 t1 (t2 + Int.toNat a7 * (Qa (Qb .i64) (Qa (Qb .i64) (Qa Qr (Qa Qr (Qa (Qb .i64) (Qa (Qb .i64) (Qa (Qb .i64) Qr))))))).sz + 6) (.int .i64 g8.2.2.2.2.2.2.1) 49 (Qt (e := (Qa (Qb .i64) (Qa (Qb .i64) (Qa Qr (Qa Qr (Qa (Qb .i64) (Qa (Qb .i64) (Qa (Qb .i64) Qr)))))))) (Qo (RdT.sp b9 t0) t3 l1 l2) r0 (j := 6) rfl) ?_
        exact eK hkn
      ·exact oV (hC (hS 1 (.slice u (List.length a1) a3)) (h0)) (.slice u (List.length a1) a3)
      ·exact oV (hC (hS 8 (.int .i64 a7)) (h0)) (.int .i64 a7)
      ·refine oL 0 ?_
       ·rintro ρ' w' hs hah ⟨ag7, t5⟩
        refine kM (kc (kA hah 11 50) (kc (kA hah 12 51) k0)) fun hkn => ?_
        refine Vu (e := (Qa (Qb .i64) (Qa (Qb .i64) (Qa Qr (Qa Qr (Qa (Qb .i64) (Qa (Qb .i64) (Qa (Qb .i64) Qr)))))))) (l := a1) (A := u) (c := a3) (T := 58) (E := 67) (x := (.tmp 50)) (ix := (.tmp 51)) (ki := .i64) (iz := a7) (d := (some 52)) (k := 13) K rfl K K K K (RdT.sp b9 t5) l3 l4 ?_
        intro t6 t7 t8 ag8 hc2014
        exact ⟨rfl, _, Qc hkn, ⟨t6, t7, t8, rfl⟩⟩
      ·refine oL 0 ?_
       ·rintro ρ' w' hs hah ⟨ag9, ah0⟩
        obtain ⟨l9, m0, t9, u0⟩ := hah 13 52 K
        refine kM (kc u0 k0) fun hkn => ?_
        refine Qj.run (k := 14) (v := (.pointer (some ⟨l9, (m0 + Int.toNat a7 * (Qa (Qb .i64) (Qa (Qb .i64) (Qa Qr (Qa Qr (Qa (Qb .i64) (Qa (Qb .i64) (Qa (Qb .i64) Qr))))))).sz + 7), none⟩))) K ?_
        exact ⟨rfl, _, Qc hkn, ⟨l9, m0, t9, rfl⟩⟩
      ·refine oL 0 ?_
       ·rintro ρ' w' hs hah ⟨ah1, u1⟩
        obtain ⟨u2, u3, u4, u5⟩ := hah 14 53 K
        refine kM (kc u5 k0) fun hkn => ?_
        refine sC 9 53 u2 (u3 + Int.toNat a7 * (Qa (Qb .i64) (Qa (Qb .i64) (Qa Qr (Qa Qr (Qa (Qb .i64) (Qa (Qb .i64) (Qa (Qb .i64) Qr))))))).sz + 7) (.string ⟨List.toArray g9.2.2.2.2.2.2.2⟩) 54 (Qt (e := (Qa (Qb .i64) (Qa (Qb .i64) (Qa Qr (Qa Qr (Qa (Qb .i64) (Qa (Qb .i64) (Qa (Qb .i64) Qr)))))))) (Qo (RdT.sp b9 u1) u4 l3 l4) r1 (j := 7) rfl) ?_
        exact eK hkn
      ·refine oH 0 1 ?_
       ·rintro ρ' w' hs hah ⟨ah2, h1⟩
        refine kM (kc (kA hah 0 39) (kc (kA hah 5 44) (kc (kA hah 10 49) (kc (kA hah 15 54) k0)))) fun hkn => ?_
        refine cF 34 #[(.tmp 39), (.tmp 44), (.tmp 49), (.tmp 54)] #[60, 63, 2, 9] 55 Tryz.call34 (Z3 a4 s A6 c7 a5 p.1 p.2.1 p.2.2.1 p.2.2.2.1 d9 p.2.2.2.2 b2 b3 b4 b5 b6 c0.2.1 c0.2.2.1 c0.2.2.2.1 c0.2.2.2.2.1 c0.2.2.2.2.2.1 g8.2.2.2.2.2.2.1 g9.2.2.2.2.2.2.2 w' (X8 h1 [0, 1, 2] rfl rfl) (fun w hm => Dp.mono _ (J6 h1 (l := [0, 1, 2]) rfl hm) c8) b0 r2) ?_
        rintro e u6 ⟨rfl, m1⟩
        refine ⟨_, rfl, ?_⟩
        have u7 : SP [] w0 u6 [Qp s 79 #[(.int .i64 p.1), (.int .i64 p.2.1), (.int .i64 p.2.2.1), (.int .i64 p.2.2.2.1), (.slice A6 (List.length (List.map stT d9)) c7), (.map (some a5))], Vn a5 p.2.2.2.2, Qp a4 95 #[(pt s 0), (Vz b0.2.2.2.2.2.2.1 a4), (.string ⟨List.toArray b0.2.2.2.2.2.2.2.1⟩), (.string ⟨List.toArray b0.2.2.2.2.2.2.2.2.1⟩), (.string ⟨List.toArray b0.2.2.2.2.2.2.2.2.2.1⟩), (.bool b0.2.2.2.2.2.2.2.2.2.2)]] := V4 h1 [0, 1, 2] [] rfl rfl m1 rfl
        clear m1
        refine ⟨_, Qc hkn, rfl, ?_⟩
        exact (And.intro (And.intro rfl (trivial)) (u7))
      ·rintro ρ' w' hs hf ⟨⟨ah3, -⟩, m2⟩
       refine Vi [(1, (.slice u (List.length a1) a3)), (5, (.bool a8)), (6, (pt s 0)), (7, (pt a4 0)), (8, (.int .i64 a7))] ⟨(hs 1 K).trans K, (hs 5 K).trans K, (hs 6 K).trans K, (hs 7 K).trans K, (hs 8 K).trans K, trivial⟩ ?_
       obtain ⟨ah4, u8⟩ : ∃ x, w' = x := ⟨_, rfl⟩
       rw [u8] at m2 ⊢
       refine aR ?_
       refine iR 3 3 [(37, (.int .i64 a7)), (38, (.int .i64 (IntKind.wrap .i64 (a7 + 1)))), (8, (.int .i64 (IntKind.wrap .i64 (a7 + 1))))] ?_
       refine iF ?_
       exact ⟨b0.2.2.2.2.2.2.1, b0.2.2.2.2.2.2.2.1, b0.2.2.2.2.2.2.2.2.1, b0.2.2.2.2.2.2.2.2.2.1, b0.2.2.2.2.2.2.2.2.2.2, (IntKind.wrap .i64 (a7 + 1)), ⟨K, K, K, K, K, trivial⟩, SP.sel m2 [0, 1, 2] rfl rfl, H⟩
     ·have H := cf H g7
      refine At.exit K (id := 0) K ?_
      refine aQ ?_
      refine aR ?_
      refine iR 1 1 [(57, (pt a4 0))] ?_
      obtain ⟨a0, u9, H⟩ := Qe H
      refine iS 2 ?_
      refine cF 35 #[(.tmp 57)] #[60] 58 Tryz.call35 (Je a4 s A6 c7 a5 p.1 p.2.1 p.2.2.1 p.2.2.2.1 d9 p.2.2.2.2 b2 b3 b4 b5 b6 q8 (X8 g0 [0, 1, 2] rfl rfl) (fun w hm => Dp.mono _ (J6 g0 (l := [0, 1, 2]) rfl hm) c8) a0 u9) ?_
      rintro e v0 ⟨rfl, m3⟩
      refine ⟨_, rfl, ?_⟩
      have e8 : SP [] w0 v0 [Qp s 79 #[(.int .i64 p.1), (.int .i64 p.2.1), (.int .i64 p.2.2.1), (.int .i64 p.2.2.2.1), (.slice A6 (List.length (List.map stT d9)) c7), (.map (some a5))], Vn a5 p.2.2.2.2, Qp a4 95 #[(pt s 0), (Vz b2 a4), (.string ⟨List.toArray b3⟩), (.string ⟨List.toArray b4⟩), (.string ⟨List.toArray b5⟩), (.bool b6)]] := V4 g0 [0, 1, 2] [] rfl rfl m3 rfl
      clear m3
      refine iR 5 7 [(56, (.tuple #[(.string ⟨List.toArray a0.1⟩), (.bool a0.2)])), (59, (.string ⟨List.toArray a0.1⟩)), (60, (.bool a0.2)), (9, (.string ⟨List.toArray a0.1⟩)), (10, (.bool a0.2))] ?_
      refine iF ?_
      refine aQ ?_
      refine aQ ?_
      refine aR ?_
      refine iR 3 3 [(61, (.slice u (List.length a1) a3)), (62, (.int .i64 ((List.length a1 : Nat) : Int))), (63, (.bool (decide (((List.length a1 : Nat) : Int) < 2))))] ?_
      refine iF ?_
      refine Zw K (o := (.tmp 63)) K (b := (decide (((List.length a1 : Nat) : Int) < 2))) K (fun h2 => ?_) (fun h2 => ?_)
      ·have H := ct H h2
       refine aQ ?_
       refine At.join (fun ρ w => ∃ (e3 : Bool), Zj ρ [(4, (.bool e3))] ∧ SP [] w0 w [] ∧ Zf (Qz (List.map stT d9) a1 a8 p e2) e3 = some r) ?_ ?_
       ·refine aR ?_
        refine iR 2 2 [(64, (.bool a8)), (65, (.bool a8))] ?_
        refine In.guard (t := 65) (b := a8) K (fun h3 => ?_) (fun h3 => ?_)
        ·have H := ct H h3
         refine iR 4 6 [(66, (.bool a0.2)), (67, (.bool (!a0.2))), (68, (.bool (!a0.2))), (4, (.bool (!a0.2)))] ?_
         refine iF ?_
         exact ⟨(!a0.2), ⟨K, trivial⟩, SP.sel e8 [] rfl rfl, H⟩
        ·have H := cf H h3
         refine iR 4 6 [(66, undef), (67, undef), (68, (.bool false)), (4, (.bool false))] ?_
         refine iF ?_
         exact ⟨false, ⟨K, trivial⟩, SP.sel e8 [] rfl rfl, H⟩
       ·rintro ρ ah5 ⟨e3, hk, v1, H⟩
        unfold Zf at H
        first | refine At.known [(4, (.bool e3))] hk ?_ | rw [← Q7 (l := [(4, (.bool e3))]) hk]
        refine At.ret K ?_
        refine ⟨(.bool e3), K, ?_⟩
        obtain rfl := Qh H
        exact ⟨rfl, SP.sel v1 [] rfl rfl⟩
      ·have H := cf H h2
       refine At.skip K ?_
       refine aQ ?_
       refine aR ?_
       refine iR 1 1 [(69, (.slice u (List.length a1) a3))] ?_
       obtain ⟨f, m4, m5, v2, H⟩ := Qw H
       refine iS 2 ?_
       refine Vu (e := (Qa (Qb .i64) (Qa (Qb .i64) (Qa Qr (Qa Qr (Qa (Qb .i64) (Qa (Qb .i64) (Qa (Qb .i64) Qr)))))))) (l := a1) (A := u) (c := a3) (T := 58) (E := 67) (x := (.tmp 69)) (ix := (.const (.int .i64 (0)))) (ki := .i64) (iz := 0) (d := (some 70)) (k := 1) K rfl K K K K (RdT.sp b9 e8) m4 m5 ?_
       intro m6 m7 v3 ah6 hc2055
       refine iR 1 3 [(71, (.pointer (some ⟨m6, (m7 + Int.toNat 0 * (Qa (Qb .i64) (Qa (Qb .i64) (Qa Qr (Qa Qr (Qa (Qb .i64) (Qa (Qb .i64) (Qa (Qb .i64) Qr))))))).sz + 1), none⟩)))] ?_
       refine iS 4 ?_
       refine Qj.cells (t := 63) (x := (.tmp 71)) (b := m6) (off := (m7 + Int.toNat 0 * (Qa (Qb .i64) (Qa (Qb .i64) (Qa Qr (Qa Qr (Qa (Qb .i64) (Qa (Qb .i64) (Qa (Qb .i64) Qr))))))).sz + 1)) (xs := [(.int .i64 f.2.1), (.string ⟨List.toArray f.2.2.1⟩), (.string ⟨List.toArray f.2.2.2.1⟩), (.int .i64 f.2.2.2.2.1), (.int .i64 f.2.2.2.2.2.1)]) (d := (some 72)) (k := 3) K rfl K K K (Gc (e := (Qa (Qb .i64) (Qa (Qb .i64) (Qa Qr (Qa Qr (Qa (Qb .i64) (Qa (Qb .i64) (Qa (Qb .i64) Qr)))))))) (Qo (RdT.sp b9 e8) v3 m4 m5) v2 (j := 1) rfl) ?_
       refine iS 5 ?_
       refine Qj.alloc (t := 63) (z := (.agg #[(.int .i64 0), (.string ⟨List.toArray ([] : List UInt8)⟩), (.string ⟨List.toArray ([] : List UInt8)⟩), (.int .i64 0), (.int .i64 0)])) (d := (some 11)) (k := 4) K rfl K e8 ?_
       intro q ah7 v4
       refine iS 6 ?_
       refine Qj.store (t := 63) (x := (.tmp 11)) (y := (.tmp 72)) (g := q) (off := 0) (i := 3) (v := (.agg #[(.int .i64 f.2.1), (.string ⟨List.toArray f.2.2.1⟩), (.string ⟨List.toArray f.2.2.2.1⟩), (.int .i64 f.2.2.2.2.1), (.int .i64 f.2.2.2.2.2.1)])) (cs' := #[(.int .i64 f.2.1), (.string ⟨List.toArray f.2.2.1⟩), (.string ⟨List.toArray f.2.2.2.1⟩), (.int .i64 f.2.2.2.2.1), (.int .i64 f.2.2.2.2.2.1)]) (d := none) (k := 5) K rfl K K v4 rfl K ?_
       intro ah8 h4
       refine iF ?_
       refine aQ ?_
       refine aR ?_
       refine iR 1 1 [(73, (.slice u (List.length a1) a3))] ?_
       obtain ⟨m, m8, m9, v5, H⟩ := Qw H
       refine iS 2 ?_
       refine Vu (e := (Qa (Qb .i64) (Qa (Qb .i64) (Qa Qr (Qa Qr (Qa (Qb .i64) (Qa (Qb .i64) (Qa (Qb .i64) Qr)))))))) (l := a1) (A := u) (c := a3) (T := 58) (E := 67) (x := (.tmp 73)) (ix := (.const (.int .i64 (1)))) (ki := .i64) (iz := 1) (d := (some 74)) (k := 1) K rfl K K K K (RdT.sp b9 h4) m8 m9 ?_
       intro n0 n1 v6 ah9 hc2071
       refine iR 1 3 [(75, (.pointer (some ⟨n0, (n1 + Int.toNat 1 * (Qa (Qb .i64) (Qa (Qb .i64) (Qa Qr (Qa Qr (Qa (Qb .i64) (Qa (Qb .i64) (Qa (Qb .i64) Qr))))))).sz + 1), none⟩)))] ?_
       refine iS 4 ?_
       refine Qj.cells (t := 63) (x := (.tmp 75)) (b := n0) (off := (n1 + Int.toNat 1 * (Qa (Qb .i64) (Qa (Qb .i64) (Qa Qr (Qa Qr (Qa (Qb .i64) (Qa (Qb .i64) (Qa (Qb .i64) Qr))))))).sz + 1)) (xs := [(.int .i64 m.2.1), (.string ⟨List.toArray m.2.2.1⟩), (.string ⟨List.toArray m.2.2.2.1⟩), (.int .i64 m.2.2.2.2.1), (.int .i64 m.2.2.2.2.2.1)]) (d := (some 76)) (k := 3) K rfl K K K (Gc (e := (Qa (Qb .i64) (Qa (Qb .i64) (Qa Qr (Qa Qr (Qa (Qb .i64) (Qa (Qb .i64) (Qa (Qb .i64) Qr)))))))) (Qo (RdT.sp b9 h4) v6 m8 m9) v5 (j := 1) rfl) ?_
       refine iS 5 ?_
       refine Qj.alloc (t := 63) (z := (.agg #[(.int .i64 0), (.string ⟨List.toArray ([] : List UInt8)⟩), (.string ⟨List.toArray ([] : List UInt8)⟩), (.int .i64 0), (.int .i64 0)])) (d := (some 12)) (k := 4) K rfl K h4 ?_
       intro a2 ai0 v7
       refine iS 6 ?_
       refine Qj.store (t := 63) (x := (.tmp 12)) (y := (.tmp 76)) (g := a2) (off := 0) (i := 4) (v := (.agg #[(.int .i64 m.2.1), (.string ⟨List.toArray m.2.2.1⟩), (.string ⟨List.toArray m.2.2.2.1⟩), (.int .i64 m.2.2.2.2.1), (.int .i64 m.2.2.2.2.2.1)])) (cs' := #[(.int .i64 m.2.1), (.string ⟨List.toArray m.2.2.1⟩), (.string ⟨List.toArray m.2.2.2.1⟩), (.int .i64 m.2.2.2.2.1), (.int .i64 m.2.2.2.2.2.1)]) (d := none) (k := 5) K rfl K K v7 rfl K ?_
       intro ai1 v8
       refine iF ?_
       refine aQ ?_
       obtain ⟨g1, n2, n3, v9, H⟩ := Qw H
       obtain ⟨c3, n4, n5, w1, H⟩ := Qw H
       obtain ⟨w2, w3, w4, H⟩ := Nj H
       obtain ⟨d0, hyl2102⟩ : ∃ y, (List.drop (Int.toNat 0) (List.take (Int.toNat (if 64 < ((List.length c3.2.2.2.2.2.2.2 : Nat) : Int) then 64 else ((List.length c3.2.2.2.2.2.2.2 : Nat) : Int))) g1.2.2.2.2.2.2.2)) = y := ⟨_, rfl⟩
       rw [hyl2102] at H
       refine aG [GEq (.slice u (List.length a1) a3), Zx u (Qa (Qb .i64) (Qa (Qb .i64) (Qa Qr (Qa Qr (Qa (Qb .i64) (Qa (Qb .i64) (Qa (Qb .i64) Qr))))))).sz 0, C1 u (Qa (Qb .i64) (Qa (Qb .i64) (Qa Qr (Qa Qr (Qa (Qb .i64) (Qa (Qb .i64) (Qa (Qb .i64) Qr))))))).sz 0 7, GEq (.string ⟨List.toArray g1.2.2.2.2.2.2.2⟩), GEq (.slice u (List.length a1) a3), Zx u (Qa (Qb .i64) (Qa (Qb .i64) (Qa Qr (Qa Qr (Qa (Qb .i64) (Qa (Qb .i64) (Qa (Qb .i64) Qr))))))).sz 0, C1 u (Qa (Qb .i64) (Qa (Qb .i64) (Qa Qr (Qa Qr (Qa (Qb .i64) (Qa (Qb .i64) (Qa (Qb .i64) Qr))))))).sz 0 7, GEq (.string ⟨List.toArray c3.2.2.2.2.2.2.2⟩), GEq (.int .i64 ((List.length c3.2.2.2.2.2.2.2 : Nat) : Int)), GEq (.int .i64 (if 64 < ((List.length c3.2.2.2.2.2.2.2 : Nat) : Int) then 64 else ((List.length c3.2.2.2.2.2.2.2 : Nat) : Int))), GEq (.string ⟨List.toArray d0⟩), GEq (.string ⟨List.toArray d0⟩)] [] (tG [] w0 [Qp s 79 #[(.int .i64 p.1), (.int .i64 p.2.1), (.int .i64 p.2.2.1), (.int .i64 p.2.2.2.1), (.slice A6 (List.length (List.map stT d9)) c7), (.map (some a5))], Vn a5 p.2.2.2.2, Qp a4 95 #[(pt s 0), (Vz b2 a4), (.string ⟨List.toArray b3⟩), (.string ⟨List.toArray b4⟩), (.string ⟨List.toArray b5⟩), (.bool b6)], Qp q 63 #[(.int .i64 f.2.1), (.string ⟨List.toArray f.2.2.1⟩), (.string ⟨List.toArray f.2.2.2.1⟩), (.int .i64 f.2.2.2.2.1), (.int .i64 f.2.2.2.2.2.1)], Qp a2 63 #[(.int .i64 m.2.1), (.string ⟨List.toArray m.2.2.1⟩), (.string ⟨List.toArray m.2.2.2.1⟩), (.int .i64 m.2.2.2.2.1), (.int .i64 m.2.2.2.2.2.1)]] [([], [])]) 12 0 ⟨trivial, SP.drew v8⟩ ?_ ?_
       iterate 12 refine And.intro ?_ ?_
       exact trivial
       ·exact oV (hC (hS 1 (.slice u (List.length a1) a3)) (h0)) (.slice u (List.length a1) a3)
       ·refine oL 0 ?_
        ·rintro ρ' w' hs hah ⟨ai2, w5⟩
         refine kM (kc (kA hah 0 77) k0) fun hkn => ?_
         refine Vu (e := (Qa (Qb .i64) (Qa (Qb .i64) (Qa Qr (Qa Qr (Qa (Qb .i64) (Qa (Qb .i64) (Qa (Qb .i64) Qr)))))))) (l := a1) (A := u) (c := a3) (T := 58) (E := 67) (x := (.tmp 77)) (ix := (.const (.int .i64 (0)))) (ki := .i64) (iz := 0) (d := (some 78)) (k := 1) K rfl K K K K (RdT.sp b9 w5) n2 n3 ?_
         intro w6 w7 w8 ai3 hc2107
         exact ⟨rfl, _, Qc hkn, ⟨w6, w7, w8, rfl⟩⟩
       ·refine oL 0 ?_
        ·rintro ρ' w' hs hah ⟨ai4, ai5⟩
         obtain ⟨n6, n7, w9, x0⟩ := hah 1 78 K
         refine kM (kc x0 k0) fun hkn => ?_
         refine Qj.run (k := 2) (v := (.pointer (some ⟨n6, (n7 + Int.toNat 0 * (Qa (Qb .i64) (Qa (Qb .i64) (Qa Qr (Qa Qr (Qa (Qb .i64) (Qa (Qb .i64) (Qa (Qb .i64) Qr))))))).sz + 7), none⟩))) K ?_
         exact ⟨rfl, _, Qc hkn, ⟨n6, n7, w9, rfl⟩⟩
       ·refine oL 0 ?_
        ·rintro ρ' w' hs hah ⟨ai6, x1⟩
         obtain ⟨x2, x3, x4, x5⟩ := hah 2 79 K
         refine kM (kc x5 k0) fun hkn => ?_
         refine sC 9 79 x2 (x3 + Int.toNat 0 * (Qa (Qb .i64) (Qa (Qb .i64) (Qa Qr (Qa Qr (Qa (Qb .i64) (Qa (Qb .i64) (Qa (Qb .i64) Qr))))))).sz + 7) (.string ⟨List.toArray g1.2.2.2.2.2.2.2⟩) 80 (Qt (e := (Qa (Qb .i64) (Qa (Qb .i64) (Qa Qr (Qa Qr (Qa (Qb .i64) (Qa (Qb .i64) (Qa (Qb .i64) Qr)))))))) (Qo (RdT.sp b9 x1) x4 n2 n3) v9 (j := 7) rfl) ?_
         exact eK hkn
       ·exact oV (hC (hS 1 (.slice u (List.length a1) a3)) (h0)) (.slice u (List.length a1) a3)
       ·refine oL 0 ?_
        ·rintro ρ' w' hs hah ⟨ai7, x6⟩
         refine kM (kc (kA hah 4 81) k0) fun hkn => ?_
         refine Vu (e := (Qa (Qb .i64) (Qa (Qb .i64) (Qa Qr (Qa Qr (Qa (Qb .i64) (Qa (Qb .i64) (Qa (Qb .i64) Qr)))))))) (l := a1) (A := u) (c := a3) (T := 58) (E := 67) (x := (.tmp 81)) (ix := (.const (.int .i64 (0)))) (ki := .i64) (iz := 0) (d := (some 82)) (k := 5) K rfl K K K K (RdT.sp b9 x6) n4 n5 ?_
         intro x7 x8 x9 ai8 hc2124
         exact ⟨rfl, _, Qc hkn, ⟨x7, x8, x9, rfl⟩⟩
       ·refine oL 0 ?_
        ·rintro ρ' w' hs hah ⟨ai9, aj0⟩
         obtain ⟨n8, n9, y0, y1⟩ := hah 5 82 K
         refine kM (kc y1 k0) fun hkn => ?_
         refine Qj.run (k := 6) (v := (.pointer (some ⟨n8, (n9 + Int.toNat 0 * (Qa (Qb .i64) (Qa (Qb .i64) (Qa Qr (Qa Qr (Qa (Qb .i64) (Qa (Qb .i64) (Qa (Qb .i64) Qr))))))).sz + 7), none⟩))) K ?_
         exact ⟨rfl, _, Qc hkn, ⟨n8, n9, y0, rfl⟩⟩
       ·refine oL 0 ?_
        ·rintro ρ' w' hs hah ⟨aj1, y2⟩
         obtain ⟨y3, y4, y5, y6⟩ := hah 6 83 K
         refine kM (kc y6 k0) fun hkn => ?_
         refine sC 9 83 y3 (y4 + Int.toNat 0 * (Qa (Qb .i64) (Qa (Qb .i64) (Qa Qr (Qa Qr (Qa (Qb .i64) (Qa (Qb .i64) (Qa (Qb .i64) Qr))))))).sz + 7) (.string ⟨List.toArray c3.2.2.2.2.2.2.2⟩) 84 (Qt (e := (Qa (Qb .i64) (Qa (Qb .i64) (Qa Qr (Qa Qr (Qa (Qb .i64) (Qa (Qb .i64) (Qa (Qb .i64) Qr)))))))) (Qo (RdT.sp b9 y2) y5 n4 n5) w1 (j := 7) rfl) ?_
         exact eK hkn
       ·exact oV (hC (hA 7 84) (h0)) (.int .i64 ((List.length c3.2.2.2.2.2.2.2 : Nat) : Int))
       ·exact oV (hC (hA 8 85) (h0)) (.int .i64 (if 64 < ((List.length c3.2.2.2.2.2.2.2 : Nat) : Int) then 64 else ((List.length c3.2.2.2.2.2.2.2 : Nat) : Int)))
       ·refine oL 0 ?_
        ·rintro ρ' w' hs hah ⟨aj2, aj3⟩
         refine kM (kc (kA hah 3 80) (kc (kA hah 9 86) k0)) fun hkn => ?_
         refine U7 (a := g1.2.2.2.2.2.2.2) (T := 9) (x := (.tmp 80)) (lo := none) (hi := (some (.tmp 86))) (i := 0) (j := (if 64 < ((List.length c3.2.2.2.2.2.2.2 : Nat) : Int) then 64 else ((List.length c3.2.2.2.2.2.2.2 : Nat) : Int))) (d := (some 87)) (k := 10) K rfl K K rfl ⟨.i64, K⟩ w2 w3 w4 ?_
         rw [hyl2102]
         exact eK hkn
       ·exact oV (hC (hA 10 87) (h0)) (.string ⟨List.toArray d0⟩)
       ·rintro ρ' w' hs hf ⟨aj4, e4⟩
        refine Vi [(1, (.slice u (List.length a1) a3)), (5, (.bool a8)), (6, (pt s 0)), (9, (.string ⟨List.toArray a0.1⟩)), (10, (.bool a0.2)), (11, (pt q 0)), (12, (pt a2 0)), (13, (.string ⟨List.toArray d0⟩))] ⟨(hs 1 K).trans K, (hs 5 K).trans K, (hs 6 K).trans K, (hs 9 K).trans K, (hs 10 K).trans K, (hs 11 K).trans K, (hs 12 K).trans K, hf 11 13 K, trivial⟩ ?_
        obtain ⟨aj5, y7⟩ : ∃ x, w' = x := ⟨_, rfl⟩
        rw [y7] at e4 ⊢
        refine aQ ?_
        refine At.join (fun ρ w => ∃ (c9 : Bool), Zj ρ [(5, (.bool a8)), (9, (.string ⟨List.toArray a0.1⟩)), (10, (.bool a0.2)), (11, (pt q 0)), (14, (.bool c9))] ∧ SP [] w0 w [Qp q 63 #[(.int .i64 f.2.1), (.string ⟨List.toArray f.2.2.1⟩), (.string ⟨List.toArray f.2.2.2.1⟩), (.int .i64 f.2.2.2.2.1), (.int .i64 f.2.2.2.2.2.1)]] ∧ Vd (Qz (List.map stT d9) a1 a8 p e2) a8 a0 f c9 = some r) ?_ ?_
        ·rcases Bool.eq_false_or_eq_true (f.2.1 == 1) with b7 | b7
         ·have H := ct H b7
          rcases Bool.eq_false_or_eq_true (m.2.1 == 3) with a6 | a6
          ·have H := ct H a6
           obtain ⟨c4, e5, e6, h5, H⟩ := Qw H
           obtain ⟨b8, h6, H⟩ := Qe H
           rcases Bool.eq_false_or_eq_true b8 with c1 | c1
           ·have H := ct H c1
            rcases Bool.eq_false_or_eq_true (!(m.2.2.1 == ([] : List UInt8))) with b1 | b1
            ·have H := ct H b1
             obtain ⟨c2, y8, H⟩ := Qe H
             refine aG [GEq (pt q 0), GEq (.int .i64 f.2.1), GEq (.bool (f.2.1 == 1)), GEq (.bool (f.2.1 == 1)), GEq (pt a2 0), GEq (.int .i64 m.2.1), GEq (.bool (m.2.1 == 3)), GEq (.bool (m.2.1 == 3)), GEq (.bool (m.2.1 == 3)), GEq (pt s 0), GEq (pt q 1), GEq (.string ⟨List.toArray f.2.2.1⟩), GEq (pt q 2), GEq (.string ⟨List.toArray f.2.2.2.1⟩), GEq (.slice u (List.length a1) a3), Zx u (Qa (Qb .i64) (Qa (Qb .i64) (Qa Qr (Qa Qr (Qa (Qb .i64) (Qa (Qb .i64) (Qa (Qb .i64) Qr))))))).sz 1, C1 u (Qa (Qb .i64) (Qa (Qb .i64) (Qa Qr (Qa Qr (Qa (Qb .i64) (Qa (Qb .i64) (Qa (Qb .i64) Qr))))))).sz 1 6, GEq (.int .i64 c4.2.2.2.2.2.2.1), GEq (.bool b8), GEq (.bool b8), GEq (.bool b8), GEq (pt a2 1), GEq (.string ⟨List.toArray m.2.2.1⟩), GEq (.bool (!(m.2.2.1 == ([] : List UInt8)))), GEq (.bool (!(m.2.2.1 == ([] : List UInt8)))), GEq (.bool (!(m.2.2.1 == ([] : List UInt8)))), GEq (pt a2 1), GEq (.string ⟨List.toArray m.2.2.1⟩), GEq (pt s 0), GEq (pt q 1), GEq (.string ⟨List.toArray f.2.2.1⟩), GEq (pt q 2), GEq (.string ⟨List.toArray f.2.2.2.1⟩), GEq (.string ⟨List.toArray d0⟩), GEq (.string ⟨List.toArray c2⟩), GEq (.bool (m.2.2.1 == c2)), GEq (.bool (m.2.2.1 == c2)), GEq (.bool (m.2.2.1 == c2))] [18, 34] [sG [] [] [] w0 [Qp s 79 #[(.int .i64 p.1), (.int .i64 p.2.1), (.int .i64 p.2.2.1), (.int .i64 p.2.2.2.1), (.slice A6 (List.length (List.map stT d9)) c7), (.map (some a5))], Vn a5 p.2.2.2.2, Qp a4 95 #[(pt s 0), (Vz b2 a4), (.string ⟨List.toArray b3⟩), (.string ⟨List.toArray b4⟩), (.string ⟨List.toArray b5⟩), (.bool b6)], Qp q 63 #[(.int .i64 f.2.1), (.string ⟨List.toArray f.2.2.1⟩), (.string ⟨List.toArray f.2.2.2.1⟩), (.int .i64 f.2.2.2.2.1), (.int .i64 f.2.2.2.2.2.1)], Qp a2 63 #[(.int .i64 m.2.1), (.string ⟨List.toArray m.2.2.1⟩), (.string ⟨List.toArray m.2.2.2.1⟩), (.int .i64 m.2.2.2.2.1), (.int .i64 m.2.2.2.2.2.1)]], sG [18] [(.bool b8)] [] w0 [Qp a4 95 #[(pt s 0), (Vz b2 a4), (.string ⟨List.toArray b3⟩), (.string ⟨List.toArray b4⟩), (.string ⟨List.toArray b5⟩), (.bool b6)], Qp q 63 #[(.int .i64 f.2.1), (.string ⟨List.toArray f.2.2.1⟩), (.string ⟨List.toArray f.2.2.2.1⟩), (.int .i64 f.2.2.2.2.1), (.int .i64 f.2.2.2.2.2.1)], Qp a2 63 #[(.int .i64 m.2.1), (.string ⟨List.toArray m.2.2.1⟩), (.string ⟨List.toArray m.2.2.2.1⟩), (.int .i64 m.2.2.2.2.1), (.int .i64 m.2.2.2.2.2.1)], Qp s 79 #[(.int .i64 p.1), (.int .i64 p.2.1), (.int .i64 p.2.2.1), (.int .i64 p.2.2.2.1), (.slice A6 (List.length (List.map stT d9)) c7), (.map (some a5))], Vn a5 p.2.2.2.2], sG [18, 34] [(.bool b8), (.string ⟨List.toArray c2⟩)] [] w0 [Qp a4 95 #[(pt s 0), (Vz b2 a4), (.string ⟨List.toArray b3⟩), (.string ⟨List.toArray b4⟩), (.string ⟨List.toArray b5⟩), (.bool b6)], Qp q 63 #[(.int .i64 f.2.1), (.string ⟨List.toArray f.2.2.1⟩), (.string ⟨List.toArray f.2.2.2.1⟩), (.int .i64 f.2.2.2.2.1), (.int .i64 f.2.2.2.2.2.1)], Qp a2 63 #[(.int .i64 m.2.1), (.string ⟨List.toArray m.2.2.1⟩), (.string ⟨List.toArray m.2.2.2.1⟩), (.int .i64 m.2.2.2.2.1), (.int .i64 m.2.2.2.2.2.1)], Qp s 79 #[(.int .i64 p.1), (.int .i64 p.2.1), (.int .i64 p.2.2.1), (.int .i64 p.2.2.2.1), (.slice A6 (List.length (List.map stT d9)) c7), (.map (some a5))], Vn a5 p.2.2.2.2]] 38 2 ⟨trivial, SP.drew e4⟩ ?_ ?_
             iterate 38 refine And.intro ?_ ?_
             exact trivial
             ·exact oV (hC (hS 11 (pt q 0)) (h0)) (pt q 0)
             ·refine oL 0 ?_
              ·rintro ρ' w' hs hah ⟨aj6, y9⟩
               refine kM (kc (kA hah 0 88) k0) fun hkn => ?_
               refine sL 3 88 q 0 3 (.int .i64 f.2.1) 89 y9 rfl ?_
               exact eK hkn
             ·exact oV (hC (hA 1 89) (h0)) (.bool (f.2.1 == 1))
             ·exact oV (hC (hA 2 90) (h0)) (.bool (f.2.1 == 1))
             ·exact oV (hC (hS 12 (pt a2 0)) (hC (hB 3 91 b7) (h0))) (pt a2 0)
             ·refine oL 0 ?_
              ·rintro ρ' w' hs hah ⟨aj7, z0⟩
               have d7 := hah 4 92 K
               have d8 := hah 3 91 K
               refine kN [(92, (pt a2 0)), (91, (.bool true))] ⟨d7, (Eq.trans d8 (congrArg Value.bool b7)), trivial⟩ fun hkn => ?_
               refine sL 3 92 a2 0 4 (.int .i64 m.2.1) 93 z0 rfl ?_
               exact eK hkn
             ·exact oV (hC (hA 5 93) (hC (hB 3 91 b7) (h0))) (.bool (m.2.1 == 3))
             ·exact oV (hC (hB 3 91 b7) (hC (hA 6 94) (h0))) (.bool (m.2.1 == 3))
             ·exact oV (hC (hA 7 95) (h0)) (.bool (m.2.1 == 3))
             ·exact oV (hC (hS 6 (pt s 0)) (hC (hB 8 96 a6) (h0))) (pt s 0)
             ·exact oV (hC (hS 11 (pt q 0)) (hC (hB 8 96 a6) (h0))) (pt q 1)
             ·refine oL 0 ?_
              ·rintro ρ' w' hs hah ⟨aj8, z1⟩
               have e9 := hah 10 98 K
               have a9 := hah 8 96 K
               refine kN [(98, (pt q 1)), (96, (.bool true))] ⟨e9, (Eq.trans a9 (congrArg Value.bool a6)), trivial⟩ fun hkn => ?_
               refine sL 9 98 q 1 3 (.string ⟨List.toArray f.2.2.1⟩) 99 z1 rfl ?_
               exact eK hkn
             ·exact oV (hC (hS 11 (pt q 0)) (hC (hB 8 96 a6) (h0))) (pt q 2)
             ·refine oL 0 ?_
              ·rintro ρ' w' hs hah ⟨aj9, z2⟩
               have f0 := hah 12 100 K
               have a9 := hah 8 96 K
               refine kN [(100, (pt q 2)), (96, (.bool true))] ⟨f0, (Eq.trans a9 (congrArg Value.bool a6)), trivial⟩ fun hkn => ?_
               refine sL 9 100 q 2 3 (.string ⟨List.toArray f.2.2.2.1⟩) 101 z2 rfl ?_
               exact eK hkn
             ·exact oV (hC (hS 1 (.slice u (List.length a1) a3)) (hC (hB 8 96 a6) (h0))) (.slice u (List.length a1) a3)
             ·refine oL 0 ?_
              ·rintro ρ' w' hs hah ⟨ak0, z3⟩
               have f1 := hah 14 102 K
               have a9 := hah 8 96 K
               refine kN [(102, (.slice u (List.length a1) a3)), (96, (.bool true))] ⟨f1, (Eq.trans a9 (congrArg Value.bool a6)), trivial⟩ fun hkn => ?_
               refine Vu (e := (Qa (Qb .i64) (Qa (Qb .i64) (Qa Qr (Qa Qr (Qa (Qb .i64) (Qa (Qb .i64) (Qa (Qb .i64) Qr)))))))) (l := a1) (A := u) (c := a3) (T := 58) (E := 67) (x := (.tmp 102)) (ix := (.const (.int .i64 (1)))) (ki := .i64) (iz := 1) (d := (some 103)) (k := 15) K rfl K K K K (RdT.sp b9 z3) e5 e6 ?_
               intro z4 z5 z6 ak1 hc2408
               exact ⟨rfl, _, Qc hkn, ⟨z4, z5, z6, rfl⟩⟩
             ·refine oL 0 ?_
              ·rintro ρ' w' hs hah ⟨ak2, ak3⟩
               obtain ⟨h7, h8, z7, f2⟩ := hah 15 103 K
               have a9 := hah 8 96 K
               refine kN [(103, (.pointer (some ⟨h7, (h8 + Int.toNat 1 * (Qa (Qb .i64) (Qa (Qb .i64) (Qa Qr (Qa Qr (Qa (Qb .i64) (Qa (Qb .i64) (Qa (Qb .i64) Qr))))))).sz), none⟩))), (96, (.bool true))] ⟨f2, (Eq.trans a9 (congrArg Value.bool a6)), trivial⟩ fun hkn => ?_
               refine Qj.run (k := 16) (v := (.pointer (some ⟨h7, (h8 + Int.toNat 1 * (Qa (Qb .i64) (Qa (Qb .i64) (Qa Qr (Qa Qr (Qa (Qb .i64) (Qa (Qb .i64) (Qa (Qb .i64) Qr))))))).sz + 6), none⟩))) K ?_
               exact ⟨rfl, _, Qc hkn, ⟨h7, h8, z7, rfl⟩⟩
             ·refine oL 0 ?_
              ·rintro ρ' w' hs hah ⟨ak4, z8⟩
               obtain ⟨o0, o1, z9, f3⟩ := hah 16 104 K
               have a9 := hah 8 96 K
               refine kN [(104, (.pointer (some ⟨o0, (o1 + Int.toNat 1 * (Qa (Qb .i64) (Qa (Qb .i64) (Qa Qr (Qa Qr (Qa (Qb .i64) (Qa (Qb .i64) (Qa (Qb .i64) Qr))))))).sz + 6), none⟩))), (96, (.bool true))] ⟨f3, (Eq.trans a9 (congrArg Value.bool a6)), trivial⟩ fun hkn => ?_
               refine sC 2 104 o0 (o1 + Int.toNat 1 * (Qa (Qb .i64) (Qa (Qb .i64) (Qa Qr (Qa Qr (Qa (Qb .i64) (Qa (Qb .i64) (Qa (Qb .i64) Qr))))))).sz + 6) (.int .i64 c4.2.2.2.2.2.2.1) 105 (Qt (e := (Qa (Qb .i64) (Qa (Qb .i64) (Qa Qr (Qa Qr (Qa (Qb .i64) (Qa (Qb .i64) (Qa (Qb .i64) Qr)))))))) (Qo (RdT.sp b9 z8) z9 e5 e6) h5 (j := 6) rfl) ?_
               exact eK hkn
             ·refine oH 0 1 ?_
              ·rintro ρ' w' hs hah ⟨ak5, h9⟩
               have f4 := hah 9 97 K
               have f5 := hah 11 99 K
               have f6 := hah 13 101 K
               have f7 := hah 17 105 K
               have a9 := hah 8 96 K
               refine kN [(97, (pt s 0)), (99, (.string ⟨List.toArray f.2.2.1⟩)), (101, (.string ⟨List.toArray f.2.2.2.1⟩)), (105, (.int .i64 c4.2.2.2.2.2.2.1)), (96, (.bool true))] ⟨f4, f5, f6, f7, (Eq.trans a9 (congrArg Value.bool a6)), trivial⟩ fun hkn => ?_
               refine cF 22 #[(.tmp 97), (.tmp 99), (.tmp 101), (.tmp 105)] #[29, 9, 9, 2] 106 Tryz.call22 (Xy s A6 c7 a5 p.1 p.2.1 p.2.2.1 p.2.2.2.1 d9 p.2.2.2.2 f.2.2.1 f.2.2.2.1 c4.2.2.2.2.2.2.1 w' (X8 h9 [0, 1] rfl rfl) (fun w hm => Dp.mono _ (J6 h9 (l := [0, 1]) rfl hm) c8) b8 h6) ?_
               rintro e aa0 ⟨rfl, o2⟩
               refine ⟨_, rfl, ?_⟩
               have aa1 : SP [] w0 aa0 [Qp a4 95 #[(pt s 0), (Vz b2 a4), (.string ⟨List.toArray b3⟩), (.string ⟨List.toArray b4⟩), (.string ⟨List.toArray b5⟩), (.bool b6)], Qp q 63 #[(.int .i64 f.2.1), (.string ⟨List.toArray f.2.2.1⟩), (.string ⟨List.toArray f.2.2.2.1⟩), (.int .i64 f.2.2.2.2.1), (.int .i64 f.2.2.2.2.2.1)], Qp a2 63 #[(.int .i64 m.2.1), (.string ⟨List.toArray m.2.2.1⟩), (.string ⟨List.toArray m.2.2.2.1⟩), (.int .i64 m.2.2.2.2.1), (.int .i64 m.2.2.2.2.2.1)], Qp s 79 #[(.int .i64 p.1), (.int .i64 p.2.1), (.int .i64 p.2.2.1), (.int .i64 p.2.2.2.1), (.slice A6 (List.length (List.map stT d9)) c7), (.map (some a5))], Vn a5 p.2.2.2.2] := V4 h9 [0, 1] [2, 3, 4] rfl rfl o2 rfl
               clear o2
               refine ⟨_, Qc hkn, rfl, ?_⟩
               exact (And.intro (And.intro rfl (trivial)) (aa1))
             ·exact oV (hC (hB 8 96 a6) (hC (hA 18 106) (h0))) (.bool b8)
             ·exact oV (hC (hA 19 107) (h0)) (.bool b8)
             ·exact oV (hC (hS 12 (pt a2 0)) (hC (hB 20 108 c1) (h0))) (pt a2 1)
             ·refine oL 1 ?_
              ·rintro ρ' w' hs hah ⟨⟨ak6, -⟩, aa2⟩
               have i0 := hah 21 109 K
               have e0 := hah 20 108 K
               refine kN [(109, (pt a2 1)), (108, (.bool true))] ⟨i0, (Eq.trans e0 (congrArg Value.bool c1)), trivial⟩ fun hkn => ?_
               refine sL 9 109 a2 1 2 (.string ⟨List.toArray m.2.2.1⟩) 110 aa2 rfl ?_
               exact eK hkn
             ·refine oL 1 ?_
              ·rintro ρ' w' hs hah ⟨⟨ak7, -⟩, ak8⟩
               have i1 := hah 22 110 K
               have e0 := hah 20 108 K
               refine kN [(110, (.string ⟨List.toArray m.2.2.1⟩)), (108, (.bool true))] ⟨i1, (Eq.trans e0 (congrArg Value.bool c1)), trivial⟩ fun hkn => ?_
               refine Z8 (op := .neq) (T := 9) (T' := 9) (x := (.tmp 110)) (y := (.const (.string ⟨List.toArray ([] : List UInt8)⟩))) (a := m.2.2.1) (b := ([] : List UInt8)) (r := (.bool (!(m.2.2.1 == ([] : List UInt8))))) (d := (some 111)) (k := 23) K rfl K K rfl ?_
               exact eK hkn
             ·exact oV (hC (hB 20 108 c1) (hC (hA 23 111) (h0))) (.bool (!(m.2.2.1 == ([] : List UInt8))))
             ·exact oV (hC (hA 24 112) (h0)) (.bool (!(m.2.2.1 == ([] : List UInt8))))
             ·exact oV (hC (hS 12 (pt a2 0)) (hC (hB 25 113 b1) (h0))) (pt a2 1)
             ·refine Owe.light K [1, 2] K (Qm ?_ (Qm ?_ V1))
              ·rintro ρ' w' hs hah ⟨⟨ak9, -⟩, aa3⟩
               have i2 := hah 26 114 K
               have c6 := hah 25 113 K
               refine kN [(114, (pt a2 1)), (113, (.bool true))] ⟨i2, (Eq.trans c6 (congrArg Value.bool b1)), trivial⟩ fun hkn => ?_
               refine sL 9 114 a2 1 2 (.string ⟨List.toArray m.2.2.1⟩) 115 aa3 rfl ?_
               exact eK hkn
              ·rintro ρ' w' hs hah ⟨⟨al0, al1, -⟩, aa4⟩
               have i2 := hah 26 114 K
               have c6 := hah 25 113 K
               refine kN [(114, (pt a2 1)), (113, (.bool true))] ⟨i2, (Eq.trans c6 (congrArg Value.bool b1)), trivial⟩ fun hkn => ?_
               refine sL 9 114 a2 1 2 (.string ⟨List.toArray m.2.2.1⟩) 115 aa4 rfl ?_
               exact eK hkn
             ·exact oV (hC (hS 6 (pt s 0)) (hC (hB 25 113 b1) (h0))) (pt s 0)
             ·exact oV (hC (hS 11 (pt q 0)) (hC (hB 25 113 b1) (h0))) (pt q 1)
             ·refine oL 1 ?_
              ·rintro ρ' w' hs hah ⟨⟨al2, -⟩, aa5⟩
               have aa6 := hah 29 117 K
               have c6 := hah 25 113 K
               refine kN [(117, (pt q 1)), (113, (.bool true))] ⟨aa6, (Eq.trans c6 (congrArg Value.bool b1)), trivial⟩ fun hkn => ?_
               refine sL 9 117 q 1 1 (.string ⟨List.toArray f.2.2.1⟩) 118 aa5 rfl ?_
               exact eK hkn
             ·exact oV (hC (hS 11 (pt q 0)) (hC (hB 25 113 b1) (h0))) (pt q 2)
             ·refine oL 1 ?_
              ·rintro ρ' w' hs hah ⟨⟨al3, -⟩, aa7⟩
               have aa8 := hah 31 119 K
               have c6 := hah 25 113 K
               refine kN [(119, (pt q 2)), (113, (.bool true))] ⟨aa8, (Eq.trans c6 (congrArg Value.bool b1)), trivial⟩ fun hkn => ?_
               refine sL 9 119 q 2 1 (.string ⟨List.toArray f.2.2.2.1⟩) 120 aa7 rfl ?_
               exact eK hkn
             ·exact oV (hC (hS 13 (.string ⟨List.toArray d0⟩)) (hC (hB 25 113 b1) (h0))) (.string ⟨List.toArray d0⟩)
             ·refine oH 1 2 ?_
              ·rintro ρ' w' hs hah ⟨⟨aa9, -⟩, i3⟩
               have ab0 := hah 28 116 K
               have ab1 := hah 30 118 K
               have ab2 := hah 32 120 K
               have ab3 := hah 33 121 K
               have c6 := hah 25 113 K
               refine kN [(116, (pt s 0)), (118, (.string ⟨List.toArray f.2.2.1⟩)), (120, (.string ⟨List.toArray f.2.2.2.1⟩)), (121, (.string ⟨List.toArray d0⟩)), (113, (.bool true))] ⟨ab0, ab1, ab2, ab3, (Eq.trans c6 (congrArg Value.bool b1)), trivial⟩ fun hkn => ?_
               refine cF 24 #[(.tmp 116), (.tmp 118), (.tmp 120), (.tmp 121)] #[29, 9, 9, 9] 122 Tryz.call24 (Y2 s A6 c7 a5 p.1 p.2.1 p.2.2.1 p.2.2.2.1 d9 p.2.2.2.2 f.2.2.1 f.2.2.2.1 d0 w' (X8 i3 [3, 4] rfl rfl) (fun w hm => Dp.mono _ (J6 i3 (l := [3, 4]) rfl hm) c8) c2 y8) ?_
               rintro e ab4 ⟨rfl, o3⟩
               refine ⟨_, rfl, ?_⟩
               have ab5 : SP [] w0 ab4 [Qp a4 95 #[(pt s 0), (Vz b2 a4), (.string ⟨List.toArray b3⟩), (.string ⟨List.toArray b4⟩), (.string ⟨List.toArray b5⟩), (.bool b6)], Qp q 63 #[(.int .i64 f.2.1), (.string ⟨List.toArray f.2.2.1⟩), (.string ⟨List.toArray f.2.2.2.1⟩), (.int .i64 f.2.2.2.2.1), (.int .i64 f.2.2.2.2.2.1)], Qp a2 63 #[(.int .i64 m.2.1), (.string ⟨List.toArray m.2.2.1⟩), (.string ⟨List.toArray m.2.2.2.1⟩), (.int .i64 m.2.2.2.2.1), (.int .i64 m.2.2.2.2.2.1)], Qp s 79 #[(.int .i64 p.1), (.int .i64 p.2.1), (.int .i64 p.2.2.1), (.int .i64 p.2.2.2.1), (.slice A6 (List.length (List.map stT d9)) c7), (.map (some a5))], Vn a5 p.2.2.2.2] := V4 i3 [3, 4] [0, 1, 2] rfl rfl o3 rfl
               clear o3
               refine ⟨_, Qc hkn, rfl, ?_⟩
               exact (And.intro (And.intro aa9 (And.intro rfl (trivial))) (ab5))
             ·refine oL 2 ?_
              ·rintro ρ' w' hs hah ⟨⟨al4, ab6, -⟩, al5⟩
               have ab7 := hah 27 115 K
               have ab8 : ρ' 122 = (.string ⟨List.toArray c2⟩) := (Yp (h := 34) K).symm.trans ab6
               have c6 := hah 25 113 K
               refine kN [(115, (.string ⟨List.toArray m.2.2.1⟩)), (122, (.string ⟨List.toArray c2⟩)), (113, (.bool true))] ⟨ab7, ab8, (Eq.trans c6 (congrArg Value.bool b1)), trivial⟩ fun hkn => ?_
               refine Z8 (op := .eql) (T := 9) (T' := 9) (x := (.tmp 115)) (y := (.tmp 122)) (a := m.2.2.1) (b := c2) (r := (.bool (m.2.2.1 == c2))) (d := (some 123)) (k := 35) K rfl K K rfl ?_
               exact eK hkn
             ·exact oV (hC (hB 25 113 b1) (hC (hA 35 123) (h0))) (.bool (m.2.2.1 == c2))
             ·exact oV (hC (hA 36 124) (h0)) (.bool (m.2.2.1 == c2))
             ·rintro ρ' w' hs hf ⟨⟨al6, al7, -⟩, o4⟩
              refine Vi [(5, (.bool a8)), (9, (.string ⟨List.toArray a0.1⟩)), (10, (.bool a0.2)), (11, (pt q 0)), (14, (.bool (m.2.2.1 == c2)))] ⟨(hs 5 K).trans K, (hs 9 K).trans K, (hs 10 K).trans K, (hs 11 K).trans K, hf 37 14 K, trivial⟩ ?_
              obtain ⟨al8, ab9⟩ : ∃ x, w' = x := ⟨_, rfl⟩
              rw [ab9] at o4 ⊢
              exact ⟨(m.2.2.1 == c2), ⟨K, K, K, K, K, trivial⟩, SP.sel o4 [1] rfl rfl, H⟩
            ·have H := cf H b1
             refine aG [GEq (pt q 0), GEq (.int .i64 f.2.1), GEq (.bool (f.2.1 == 1)), GEq (.bool (f.2.1 == 1)), GEq (pt a2 0), GEq (.int .i64 m.2.1), GEq (.bool (m.2.1 == 3)), GEq (.bool (m.2.1 == 3)), GEq (.bool (m.2.1 == 3)), GEq (pt s 0), GEq (pt q 1), GEq (.string ⟨List.toArray f.2.2.1⟩), GEq (pt q 2), GEq (.string ⟨List.toArray f.2.2.2.1⟩), GEq (.slice u (List.length a1) a3), Zx u (Qa (Qb .i64) (Qa (Qb .i64) (Qa Qr (Qa Qr (Qa (Qb .i64) (Qa (Qb .i64) (Qa (Qb .i64) Qr))))))).sz 1, C1 u (Qa (Qb .i64) (Qa (Qb .i64) (Qa Qr (Qa Qr (Qa (Qb .i64) (Qa (Qb .i64) (Qa (Qb .i64) Qr))))))).sz 1 6, GEq (.int .i64 c4.2.2.2.2.2.2.1), GEq (.bool b8), GEq (.bool b8), GEq (.bool b8), GEq (pt a2 1), GEq (.string ⟨List.toArray m.2.2.1⟩), GEq (.bool (!(m.2.2.1 == ([] : List UInt8)))), GEq (.bool (!(m.2.2.1 == ([] : List UInt8)))), GEq (.bool (!(m.2.2.1 == ([] : List UInt8)))), GEq undef, GEq undef, GEq undef, GEq undef, GEq undef, GEq undef, GEq undef, GEq undef, GEq undef, GEq undef, GEq (.bool false), GEq (.bool false)] [18] [sG [] [] [] w0 [Qp s 79 #[(.int .i64 p.1), (.int .i64 p.2.1), (.int .i64 p.2.2.1), (.int .i64 p.2.2.2.1), (.slice A6 (List.length (List.map stT d9)) c7), (.map (some a5))], Vn a5 p.2.2.2.2, Qp a4 95 #[(pt s 0), (Vz b2 a4), (.string ⟨List.toArray b3⟩), (.string ⟨List.toArray b4⟩), (.string ⟨List.toArray b5⟩), (.bool b6)], Qp q 63 #[(.int .i64 f.2.1), (.string ⟨List.toArray f.2.2.1⟩), (.string ⟨List.toArray f.2.2.2.1⟩), (.int .i64 f.2.2.2.2.1), (.int .i64 f.2.2.2.2.2.1)], Qp a2 63 #[(.int .i64 m.2.1), (.string ⟨List.toArray m.2.2.1⟩), (.string ⟨List.toArray m.2.2.2.1⟩), (.int .i64 m.2.2.2.2.1), (.int .i64 m.2.2.2.2.2.1)]], sG [18] [(.bool b8)] [] w0 [Qp a4 95 #[(pt s 0), (Vz b2 a4), (.string ⟨List.toArray b3⟩), (.string ⟨List.toArray b4⟩), (.string ⟨List.toArray b5⟩), (.bool b6)], Qp q 63 #[(.int .i64 f.2.1), (.string ⟨List.toArray f.2.2.1⟩), (.string ⟨List.toArray f.2.2.2.1⟩), (.int .i64 f.2.2.2.2.1), (.int .i64 f.2.2.2.2.2.1)], Qp a2 63 #[(.int .i64 m.2.1), (.string ⟨List.toArray m.2.2.1⟩), (.string ⟨List.toArray m.2.2.2.1⟩), (.int .i64 m.2.2.2.2.1), (.int .i64 m.2.2.2.2.2.1)], Qp s 79 #[(.int .i64 p.1), (.int .i64 p.2.1), (.int .i64 p.2.2.1), (.int .i64 p.2.2.2.1), (.slice A6 (List.length (List.map stT d9)) c7), (.map (some a5))], Vn a5 p.2.2.2.2]] 38 1 ⟨trivial, SP.drew e4⟩ ?_ ?_
             iterate 38 refine And.intro ?_ ?_
             exact trivial
             ·exact oV (hC (hS 11 (pt q 0)) (h0)) (pt q 0)
             ·refine oL 0 ?_
              ·rintro ρ' w' hs hah ⟨al9, ac0⟩
               refine kM (kc (kA hah 0 88) k0) fun hkn => ?_
               refine sL 3 88 q 0 3 (.int .i64 f.2.1) 89 ac0 rfl ?_
               exact eK hkn
             ·exact oV (hC (hA 1 89) (h0)) (.bool (f.2.1 == 1))
             ·exact oV (hC (hA 2 90) (h0)) (.bool (f.2.1 == 1))
             ·exact oV (hC (hS 12 (pt a2 0)) (hC (hB 3 91 b7) (h0))) (pt a2 0)
             ·refine oL 0 ?_
              ·rintro ρ' w' hs hah ⟨am0, ac1⟩
               have d7 := hah 4 92 K
               have d8 := hah 3 91 K
               refine kN [(92, (pt a2 0)), (91, (.bool true))] ⟨d7, (Eq.trans d8 (congrArg Value.bool b7)), trivial⟩ fun hkn => ?_
               refine sL 3 92 a2 0 4 (.int .i64 m.2.1) 93 ac1 rfl ?_
               exact eK hkn
             ·exact oV (hC (hA 5 93) (hC (hB 3 91 b7) (h0))) (.bool (m.2.1 == 3))
             ·exact oV (hC (hB 3 91 b7) (hC (hA 6 94) (h0))) (.bool (m.2.1 == 3))
             ·exact oV (hC (hA 7 95) (h0)) (.bool (m.2.1 == 3))
             ·exact oV (hC (hS 6 (pt s 0)) (hC (hB 8 96 a6) (h0))) (pt s 0)
             ·exact oV (hC (hS 11 (pt q 0)) (hC (hB 8 96 a6) (h0))) (pt q 1)
             ·refine oL 0 ?_
              ·rintro ρ' w' hs hah ⟨am1, ac2⟩
               have e9 := hah 10 98 K
               have a9 := hah 8 96 K
               refine kN [(98, (pt q 1)), (96, (.bool true))] ⟨e9, (Eq.trans a9 (congrArg Value.bool a6)), trivial⟩ fun hkn => ?_
               refine sL 9 98 q 1 3 (.string ⟨List.toArray f.2.2.1⟩) 99 ac2 rfl ?_
               exact eK hkn
             ·exact oV (hC (hS 11 (pt q 0)) (hC (hB 8 96 a6) (h0))) (pt q 2)
             ·refine oL 0 ?_
              ·rintro ρ' w' hs hah ⟨am2, ac3⟩
               have f0 := hah 12 100 K
               have a9 := hah 8 96 K
               refine kN [(100, (pt q 2)), (96, (.bool true))] ⟨f0, (Eq.trans a9 (congrArg Value.bool a6)), trivial⟩ fun hkn => ?_
               refine sL 9 100 q 2 3 (.string ⟨List.toArray f.2.2.2.1⟩) 101 ac3 rfl ?_
               exact eK hkn
             ·exact oV (hC (hS 1 (.slice u (List.length a1) a3)) (hC (hB 8 96 a6) (h0))) (.slice u (List.length a1) a3)
             ·refine oL 0 ?_
              ·rintro ρ' w' hs hah ⟨am3, ac4⟩
               have f1 := hah 14 102 K
               have a9 := hah 8 96 K
               refine kN [(102, (.slice u (List.length a1) a3)), (96, (.bool true))] ⟨f1, (Eq.trans a9 (congrArg Value.bool a6)), trivial⟩ fun hkn => ?_
               refine Vu (e := (Qa (Qb .i64) (Qa (Qb .i64) (Qa Qr (Qa Qr (Qa (Qb .i64) (Qa (Qb .i64) (Qa (Qb .i64) Qr)))))))) (l := a1) (A := u) (c := a3) (T := 58) (E := 67) (x := (.tmp 102)) (ix := (.const (.int .i64 (1)))) (ki := .i64) (iz := 1) (d := (some 103)) (k := 15) K rfl K K K K (RdT.sp b9 ac4) e5 e6 ?_
               intro ac5 ac6 ac7 am4 hc2478
               exact ⟨rfl, _, Qc hkn, ⟨ac5, ac6, ac7, rfl⟩⟩
             ·refine oL 0 ?_
              ·rintro ρ' w' hs hah ⟨am5, am6⟩
               obtain ⟨i4, i5, ac8, f2⟩ := hah 15 103 K
               have a9 := hah 8 96 K
               refine kN [(103, (.pointer (some ⟨i4, (i5 + Int.toNat 1 * (Qa (Qb .i64) (Qa (Qb .i64) (Qa Qr (Qa Qr (Qa (Qb .i64) (Qa (Qb .i64) (Qa (Qb .i64) Qr))))))).sz), none⟩))), (96, (.bool true))] ⟨f2, (Eq.trans a9 (congrArg Value.bool a6)), trivial⟩ fun hkn => ?_
               refine Qj.run (k := 16) (v := (.pointer (some ⟨i4, (i5 + Int.toNat 1 * (Qa (Qb .i64) (Qa (Qb .i64) (Qa Qr (Qa Qr (Qa (Qb .i64) (Qa (Qb .i64) (Qa (Qb .i64) Qr))))))).sz + 6), none⟩))) K ?_
               exact ⟨rfl, _, Qc hkn, ⟨i4, i5, ac8, rfl⟩⟩
             ·refine oL 0 ?_
              ·rintro ρ' w' hs hah ⟨am7, ac9⟩
               obtain ⟨o5, o6, ad0, f3⟩ := hah 16 104 K
               have a9 := hah 8 96 K
               refine kN [(104, (.pointer (some ⟨o5, (o6 + Int.toNat 1 * (Qa (Qb .i64) (Qa (Qb .i64) (Qa Qr (Qa Qr (Qa (Qb .i64) (Qa (Qb .i64) (Qa (Qb .i64) Qr))))))).sz + 6), none⟩))), (96, (.bool true))] ⟨f3, (Eq.trans a9 (congrArg Value.bool a6)), trivial⟩ fun hkn => ?_
               refine sC 2 104 o5 (o6 + Int.toNat 1 * (Qa (Qb .i64) (Qa (Qb .i64) (Qa Qr (Qa Qr (Qa (Qb .i64) (Qa (Qb .i64) (Qa (Qb .i64) Qr))))))).sz + 6) (.int .i64 c4.2.2.2.2.2.2.1) 105 (Qt (e := (Qa (Qb .i64) (Qa (Qb .i64) (Qa Qr (Qa Qr (Qa (Qb .i64) (Qa (Qb .i64) (Qa (Qb .i64) Qr)))))))) (Qo (RdT.sp b9 ac9) ad0 e5 e6) h5 (j := 6) rfl) ?_
               exact eK hkn
             ·refine oH 0 1 ?_
              ·rintro ρ' w' hs hah ⟨am8, i6⟩
               have f4 := hah 9 97 K
               have f5 := hah 11 99 K
               have f6 := hah 13 101 K
               have f7 := hah 17 105 K
               have a9 := hah 8 96 K
               refine kN [(97, (pt s 0)), (99, (.string ⟨List.toArray f.2.2.1⟩)), (101, (.string ⟨List.toArray f.2.2.2.1⟩)), (105, (.int .i64 c4.2.2.2.2.2.2.1)), (96, (.bool true))] ⟨f4, f5, f6, f7, (Eq.trans a9 (congrArg Value.bool a6)), trivial⟩ fun hkn => ?_
               refine cF 22 #[(.tmp 97), (.tmp 99), (.tmp 101), (.tmp 105)] #[29, 9, 9, 2] 106 Tryz.call22 (Xy s A6 c7 a5 p.1 p.2.1 p.2.2.1 p.2.2.2.1 d9 p.2.2.2.2 f.2.2.1 f.2.2.2.1 c4.2.2.2.2.2.2.1 w' (X8 i6 [0, 1] rfl rfl) (fun w hm => Dp.mono _ (J6 i6 (l := [0, 1]) rfl hm) c8) b8 h6) ?_
               rintro e ad1 ⟨rfl, o7⟩
               refine ⟨_, rfl, ?_⟩
               have ad2 : SP [] w0 ad1 [Qp a4 95 #[(pt s 0), (Vz b2 a4), (.string ⟨List.toArray b3⟩), (.string ⟨List.toArray b4⟩), (.string ⟨List.toArray b5⟩), (.bool b6)], Qp q 63 #[(.int .i64 f.2.1), (.string ⟨List.toArray f.2.2.1⟩), (.string ⟨List.toArray f.2.2.2.1⟩), (.int .i64 f.2.2.2.2.1), (.int .i64 f.2.2.2.2.2.1)], Qp a2 63 #[(.int .i64 m.2.1), (.string ⟨List.toArray m.2.2.1⟩), (.string ⟨List.toArray m.2.2.2.1⟩), (.int .i64 m.2.2.2.2.1), (.int .i64 m.2.2.2.2.2.1)], Qp s 79 #[(.int .i64 p.1), (.int .i64 p.2.1), (.int .i64 p.2.2.1), (.int .i64 p.2.2.2.1), (.slice A6 (List.length (List.map stT d9)) c7), (.map (some a5))], Vn a5 p.2.2.2.2] := V4 i6 [0, 1] [2, 3, 4] rfl rfl o7 rfl
               clear o7
               refine ⟨_, Qc hkn, rfl, ?_⟩
               exact (And.intro (And.intro rfl (trivial)) (ad2))
             ·exact oV (hC (hB 8 96 a6) (hC (hA 18 106) (h0))) (.bool b8)
             ·exact oV (hC (hA 19 107) (h0)) (.bool b8)
             ·exact oV (hC (hS 12 (pt a2 0)) (hC (hB 20 108 c1) (h0))) (pt a2 1)
             ·refine oL 1 ?_
              ·rintro ρ' w' hs hah ⟨⟨am9, -⟩, ad3⟩
               have i0 := hah 21 109 K
               have e0 := hah 20 108 K
               refine kN [(109, (pt a2 1)), (108, (.bool true))] ⟨i0, (Eq.trans e0 (congrArg Value.bool c1)), trivial⟩ fun hkn => ?_
               refine sL 9 109 a2 1 2 (.string ⟨List.toArray m.2.2.1⟩) 110 ad3 rfl ?_
               exact eK hkn
             ·refine oL 1 ?_
              ·rintro ρ' w' hs hah ⟨⟨an0, -⟩, an1⟩
               have i1 := hah 22 110 K
               have e0 := hah 20 108 K
               refine kN [(110, (.string ⟨List.toArray m.2.2.1⟩)), (108, (.bool true))] ⟨i1, (Eq.trans e0 (congrArg Value.bool c1)), trivial⟩ fun hkn => ?_
               refine Z8 (op := .neq) (T := 9) (T' := 9) (x := (.tmp 110)) (y := (.const (.string ⟨List.toArray ([] : List UInt8)⟩))) (a := m.2.2.1) (b := ([] : List UInt8)) (r := (.bool (!(m.2.2.1 == ([] : List UInt8))))) (d := (some 111)) (k := 23) K rfl K K rfl ?_
               exact eK hkn
             ·exact oV (hC (hB 20 108 c1) (hC (hA 23 111) (h0))) (.bool (!(m.2.2.1 == ([] : List UInt8))))
             ·exact oV (hC (hA 24 112) (h0)) (.bool (!(m.2.2.1 == ([] : List UInt8))))
             ·exact oW (hC (hB 25 113 b1) (h0)) 114
             ·exact oW (hC (hB 25 113 b1) (h0)) 115
             ·exact oW (hC (hB 25 113 b1) (h0)) 116
             ·exact oW (hC (hB 25 113 b1) (h0)) 117
             ·exact oW (hC (hB 25 113 b1) (h0)) 118
             ·exact oW (hC (hB 25 113 b1) (h0)) 119
             ·exact oW (hC (hB 25 113 b1) (h0)) 120
             ·exact oW (hC (hB 25 113 b1) (h0)) 121
             ·exact oW (hC (hB 25 113 b1) (h0)) 122
             ·exact oW (hC (hB 25 113 b1) (h0)) 123
             ·exact oV (hC (hB 25 113 b1) (hC (hA 35 123) (h0))) (.bool false)
             ·exact oV (hC (hA 36 124) (h0)) (.bool false)
             ·rintro ρ' w' hs hf ⟨⟨an2, -⟩, o8⟩
              refine Vi [(5, (.bool a8)), (9, (.string ⟨List.toArray a0.1⟩)), (10, (.bool a0.2)), (11, (pt q 0)), (14, (.bool false))] ⟨(hs 5 K).trans K, (hs 9 K).trans K, (hs 10 K).trans K, (hs 11 K).trans K, hf 37 14 K, trivial⟩ ?_
              obtain ⟨an3, ad4⟩ : ∃ x, w' = x := ⟨_, rfl⟩
              rw [ad4] at o8 ⊢
              exact ⟨false, ⟨K, K, K, K, K, trivial⟩, SP.sel o8 [1] rfl rfl, H⟩
           ·have H := cf H c1
            refine aG [GEq (pt q 0), GEq (.int .i64 f.2.1), GEq (.bool (f.2.1 == 1)), GEq (.bool (f.2.1 == 1)), GEq (pt a2 0), GEq (.int .i64 m.2.1), GEq (.bool (m.2.1 == 3)), GEq (.bool (m.2.1 == 3)), GEq (.bool (m.2.1 == 3)), GEq (pt s 0), GEq (pt q 1), GEq (.string ⟨List.toArray f.2.2.1⟩), GEq (pt q 2), GEq (.string ⟨List.toArray f.2.2.2.1⟩), GEq (.slice u (List.length a1) a3), Zx u (Qa (Qb .i64) (Qa (Qb .i64) (Qa Qr (Qa Qr (Qa (Qb .i64) (Qa (Qb .i64) (Qa (Qb .i64) Qr))))))).sz 1, C1 u (Qa (Qb .i64) (Qa (Qb .i64) (Qa Qr (Qa Qr (Qa (Qb .i64) (Qa (Qb .i64) (Qa (Qb .i64) Qr))))))).sz 1 6, GEq (.int .i64 c4.2.2.2.2.2.2.1), GEq (.bool b8), GEq (.bool b8), GEq (.bool b8), GEq undef, GEq undef, GEq undef, GEq (.bool false), GEq (.bool false), GEq undef, GEq undef, GEq undef, GEq undef, GEq undef, GEq undef, GEq undef, GEq undef, GEq undef, GEq undef, GEq (.bool false), GEq (.bool false)] [18] [sG [] [] [] w0 [Qp s 79 #[(.int .i64 p.1), (.int .i64 p.2.1), (.int .i64 p.2.2.1), (.int .i64 p.2.2.2.1), (.slice A6 (List.length (List.map stT d9)) c7), (.map (some a5))], Vn a5 p.2.2.2.2, Qp a4 95 #[(pt s 0), (Vz b2 a4), (.string ⟨List.toArray b3⟩), (.string ⟨List.toArray b4⟩), (.string ⟨List.toArray b5⟩), (.bool b6)], Qp q 63 #[(.int .i64 f.2.1), (.string ⟨List.toArray f.2.2.1⟩), (.string ⟨List.toArray f.2.2.2.1⟩), (.int .i64 f.2.2.2.2.1), (.int .i64 f.2.2.2.2.2.1)], Qp a2 63 #[(.int .i64 m.2.1), (.string ⟨List.toArray m.2.2.1⟩), (.string ⟨List.toArray m.2.2.2.1⟩), (.int .i64 m.2.2.2.2.1), (.int .i64 m.2.2.2.2.2.1)]], sG [18] [(.bool b8)] [] w0 [Qp a4 95 #[(pt s 0), (Vz b2 a4), (.string ⟨List.toArray b3⟩), (.string ⟨List.toArray b4⟩), (.string ⟨List.toArray b5⟩), (.bool b6)], Qp q 63 #[(.int .i64 f.2.1), (.string ⟨List.toArray f.2.2.1⟩), (.string ⟨List.toArray f.2.2.2.1⟩), (.int .i64 f.2.2.2.2.1), (.int .i64 f.2.2.2.2.2.1)], Qp a2 63 #[(.int .i64 m.2.1), (.string ⟨List.toArray m.2.2.1⟩), (.string ⟨List.toArray m.2.2.2.1⟩), (.int .i64 m.2.2.2.2.1), (.int .i64 m.2.2.2.2.2.1)], Qp s 79 #[(.int .i64 p.1), (.int .i64 p.2.1), (.int .i64 p.2.2.1), (.int .i64 p.2.2.2.1), (.slice A6 (List.length (List.map stT d9)) c7), (.map (some a5))], Vn a5 p.2.2.2.2]] 38 1 ⟨trivial, SP.drew e4⟩ ?_ ?_
            iterate 38 refine And.intro ?_ ?_
            exact trivial
            ·exact oV (hC (hS 11 (pt q 0)) (h0)) (pt q 0)
            ·refine oL 0 ?_
             ·rintro ρ' w' hs hah ⟨an4, ad5⟩
              refine kM (kc (kA hah 0 88) k0) fun hkn => ?_
              refine sL 3 88 q 0 3 (.int .i64 f.2.1) 89 ad5 rfl ?_
              exact eK hkn
            ·exact oV (hC (hA 1 89) (h0)) (.bool (f.2.1 == 1))
            ·exact oV (hC (hA 2 90) (h0)) (.bool (f.2.1 == 1))
            ·exact oV (hC (hS 12 (pt a2 0)) (hC (hB 3 91 b7) (h0))) (pt a2 0)
            ·refine oL 0 ?_
             ·rintro ρ' w' hs hah ⟨an5, ad6⟩
              have d7 := hah 4 92 K
              have d8 := hah 3 91 K
              refine kN [(92, (pt a2 0)), (91, (.bool true))] ⟨d7, (Eq.trans d8 (congrArg Value.bool b7)), trivial⟩ fun hkn => ?_
              refine sL 3 92 a2 0 4 (.int .i64 m.2.1) 93 ad6 rfl ?_
              exact eK hkn
            ·exact oV (hC (hA 5 93) (hC (hB 3 91 b7) (h0))) (.bool (m.2.1 == 3))
            ·exact oV (hC (hB 3 91 b7) (hC (hA 6 94) (h0))) (.bool (m.2.1 == 3))
            ·exact oV (hC (hA 7 95) (h0)) (.bool (m.2.1 == 3))
            ·exact oV (hC (hS 6 (pt s 0)) (hC (hB 8 96 a6) (h0))) (pt s 0)
            ·exact oV (hC (hS 11 (pt q 0)) (hC (hB 8 96 a6) (h0))) (pt q 1)
            ·refine oL 0 ?_
             ·rintro ρ' w' hs hah ⟨an6, ad7⟩
              have e9 := hah 10 98 K
              have a9 := hah 8 96 K
              refine kN [(98, (pt q 1)), (96, (.bool true))] ⟨e9, (Eq.trans a9 (congrArg Value.bool a6)), trivial⟩ fun hkn => ?_
              refine sL 9 98 q 1 3 (.string ⟨List.toArray f.2.2.1⟩) 99 ad7 rfl ?_
              exact eK hkn
            ·exact oV (hC (hS 11 (pt q 0)) (hC (hB 8 96 a6) (h0))) (pt q 2)
            ·refine oL 0 ?_
             ·rintro ρ' w' hs hah ⟨an7, ad8⟩
              have f0 := hah 12 100 K
              have a9 := hah 8 96 K
              refine kN [(100, (pt q 2)), (96, (.bool true))] ⟨f0, (Eq.trans a9 (congrArg Value.bool a6)), trivial⟩ fun hkn => ?_
              refine sL 9 100 q 2 3 (.string ⟨List.toArray f.2.2.2.1⟩) 101 ad8 rfl ?_
              exact eK hkn
            ·exact oV (hC (hS 1 (.slice u (List.length a1) a3)) (hC (hB 8 96 a6) (h0))) (.slice u (List.length a1) a3)
            ·refine oL 0 ?_
             ·rintro ρ' w' hs hah ⟨an8, ad9⟩
              have f1 := hah 14 102 K
              have a9 := hah 8 96 K
              refine kN [(102, (.slice u (List.length a1) a3)), (96, (.bool true))] ⟨f1, (Eq.trans a9 (congrArg Value.bool a6)), trivial⟩ fun hkn => ?_
              refine Vu (e := (Qa (Qb .i64) (Qa (Qb .i64) (Qa Qr (Qa Qr (Qa (Qb .i64) (Qa (Qb .i64) (Qa (Qb .i64) Qr)))))))) (l := a1) (A := u) (c := a3) (T := 58) (E := 67) (x := (.tmp 102)) (ix := (.const (.int .i64 (1)))) (ki := .i64) (iz := 1) (d := (some 103)) (k := 15) K rfl K K K K (RdT.sp b9 ad9) e5 e6 ?_
              intro ae0 ae1 ae2 an9 hc2523
              exact ⟨rfl, _, Qc hkn, ⟨ae0, ae1, ae2, rfl⟩⟩
            ·refine oL 0 ?_
             ·rintro ρ' w' hs hah ⟨ao0, ao1⟩
              obtain ⟨i7, i8, ae3, f2⟩ := hah 15 103 K
              have a9 := hah 8 96 K
              refine kN [(103, (.pointer (some ⟨i7, (i8 + Int.toNat 1 * (Qa (Qb .i64) (Qa (Qb .i64) (Qa Qr (Qa Qr (Qa (Qb .i64) (Qa (Qb .i64) (Qa (Qb .i64) Qr))))))).sz), none⟩))), (96, (.bool true))] ⟨f2, (Eq.trans a9 (congrArg Value.bool a6)), trivial⟩ fun hkn => ?_
              refine Qj.run (k := 16) (v := (.pointer (some ⟨i7, (i8 + Int.toNat 1 * (Qa (Qb .i64) (Qa (Qb .i64) (Qa Qr (Qa Qr (Qa (Qb .i64) (Qa (Qb .i64) (Qa (Qb .i64) Qr))))))).sz + 6), none⟩))) K ?_
              exact ⟨rfl, _, Qc hkn, ⟨i7, i8, ae3, rfl⟩⟩
            ·refine oL 0 ?_
             ·rintro ρ' w' hs hah ⟨ao2, ae4⟩
              obtain ⟨o9, p0, ae5, f3⟩ := hah 16 104 K
              have a9 := hah 8 96 K
              refine kN [(104, (.pointer (some ⟨o9, (p0 + Int.toNat 1 * (Qa (Qb .i64) (Qa (Qb .i64) (Qa Qr (Qa Qr (Qa (Qb .i64) (Qa (Qb .i64) (Qa (Qb .i64) Qr))))))).sz + 6), none⟩))), (96, (.bool true))] ⟨f3, (Eq.trans a9 (congrArg Value.bool a6)), trivial⟩ fun hkn => ?_
              refine sC 2 104 o9 (p0 + Int.toNat 1 * (Qa (Qb .i64) (Qa (Qb .i64) (Qa Qr (Qa Qr (Qa (Qb .i64) (Qa (Qb .i64) (Qa (Qb .i64) Qr))))))).sz + 6) (.int .i64 c4.2.2.2.2.2.2.1) 105 (Qt (e := (Qa (Qb .i64) (Qa (Qb .i64) (Qa Qr (Qa Qr (Qa (Qb .i64) (Qa (Qb .i64) (Qa (Qb .i64) Qr)))))))) (Qo (RdT.sp b9 ae4) ae5 e5 e6) h5 (j := 6) rfl) ?_
              exact eK hkn
            ·refine oH 0 1 ?_
             ·rintro ρ' w' hs hah ⟨ao3, i9⟩
              have f4 := hah 9 97 K
              have f5 := hah 11 99 K
              have f6 := hah 13 101 K
              have f7 := hah 17 105 K
              have a9 := hah 8 96 K
              refine kN [(97, (pt s 0)), (99, (.string ⟨List.toArray f.2.2.1⟩)), (101, (.string ⟨List.toArray f.2.2.2.1⟩)), (105, (.int .i64 c4.2.2.2.2.2.2.1)), (96, (.bool true))] ⟨f4, f5, f6, f7, (Eq.trans a9 (congrArg Value.bool a6)), trivial⟩ fun hkn => ?_
              refine cF 22 #[(.tmp 97), (.tmp 99), (.tmp 101), (.tmp 105)] #[29, 9, 9, 2] 106 Tryz.call22 (Xy s A6 c7 a5 p.1 p.2.1 p.2.2.1 p.2.2.2.1 d9 p.2.2.2.2 f.2.2.1 f.2.2.2.1 c4.2.2.2.2.2.2.1 w' (X8 i9 [0, 1] rfl rfl) (fun w hm => Dp.mono _ (J6 i9 (l := [0, 1]) rfl hm) c8) b8 h6) ?_
              rintro e ae6 ⟨rfl, p1⟩
              refine ⟨_, rfl, ?_⟩
              have ae7 : SP [] w0 ae6 [Qp a4 95 #[(pt s 0), (Vz b2 a4), (.string ⟨List.toArray b3⟩), (.string ⟨List.toArray b4⟩), (.string ⟨List.toArray b5⟩), (.bool b6)], Qp q 63 #[(.int .i64 f.2.1), (.string ⟨List.toArray f.2.2.1⟩), (.string ⟨List.toArray f.2.2.2.1⟩), (.int .i64 f.2.2.2.2.1), (.int .i64 f.2.2.2.2.2.1)], Qp a2 63 #[(.int .i64 m.2.1), (.string ⟨List.toArray m.2.2.1⟩), (.string ⟨List.toArray m.2.2.2.1⟩), (.int .i64 m.2.2.2.2.1), (.int .i64 m.2.2.2.2.2.1)], Qp s 79 #[(.int .i64 p.1), (.int .i64 p.2.1), (.int .i64 p.2.2.1), (.int .i64 p.2.2.2.1), (.slice A6 (List.length (List.map stT d9)) c7), (.map (some a5))], Vn a5 p.2.2.2.2] := V4 i9 [0, 1] [2, 3, 4] rfl rfl p1 rfl
              clear p1
              refine ⟨_, Qc hkn, rfl, ?_⟩
              exact (And.intro (And.intro rfl (trivial)) (ae7))
            ·exact oV (hC (hB 8 96 a6) (hC (hA 18 106) (h0))) (.bool b8)
            ·exact oV (hC (hA 19 107) (h0)) (.bool b8)
            ·exact oW (hC (hB 20 108 c1) (h0)) 109
            ·exact oW (hC (hB 20 108 c1) (h0)) 110
            ·exact oW (hC (hB 20 108 c1) (h0)) 111
            ·exact oV (hC (hB 20 108 c1) (hC (hA 23 111) (h0))) (.bool false)
            ·exact oV (hC (hA 24 112) (h0)) (.bool false)
            ·exact oW (hC (hA 25 113) (h0)) 114
            ·exact oW (hC (hA 25 113) (h0)) 115
            ·exact oW (hC (hA 25 113) (h0)) 116
            ·exact oW (hC (hA 25 113) (h0)) 117
            ·exact oW (hC (hA 25 113) (h0)) 118
            ·exact oW (hC (hA 25 113) (h0)) 119
            ·exact oW (hC (hA 25 113) (h0)) 120
            ·exact oW (hC (hA 25 113) (h0)) 121
            ·exact oW (hC (hA 25 113) (h0)) 122
            ·exact oW (hC (hA 25 113) (h0)) 123
            ·exact oV (hC (hA 25 113) (hC (hA 35 123) (h0))) (.bool false)
            ·exact oV (hC (hA 36 124) (h0)) (.bool false)
            ·rintro ρ' w' hs hf ⟨⟨ao4, -⟩, p2⟩
             refine Vi [(5, (.bool a8)), (9, (.string ⟨List.toArray a0.1⟩)), (10, (.bool a0.2)), (11, (pt q 0)), (14, (.bool false))] ⟨(hs 5 K).trans K, (hs 9 K).trans K, (hs 10 K).trans K, (hs 11 K).trans K, hf 37 14 K, trivial⟩ ?_
             obtain ⟨ao5, ae8⟩ : ∃ x, w' = x := ⟨_, rfl⟩
             rw [ae8] at p2 ⊢
             exact ⟨false, ⟨K, K, K, K, K, trivial⟩, SP.sel p2 [1] rfl rfl, H⟩
          ·have H := cf H a6
           refine aG [GEq (pt q 0), GEq (.int .i64 f.2.1), GEq (.bool (f.2.1 == 1)), GEq (.bool (f.2.1 == 1)), GEq (pt a2 0), GEq (.int .i64 m.2.1), GEq (.bool (m.2.1 == 3)), GEq (.bool (m.2.1 == 3)), GEq (.bool (m.2.1 == 3)), GEq undef, GEq undef, GEq undef, GEq undef, GEq undef, GEq undef, GEq undef, GEq undef, GEq undef, GEq undef, GEq (.bool false), GEq (.bool false), GEq undef, GEq undef, GEq undef, GEq (.bool false), GEq (.bool false), GEq undef, GEq undef, GEq undef, GEq undef, GEq undef, GEq undef, GEq undef, GEq undef, GEq undef, GEq undef, GEq (.bool false), GEq (.bool false)] [] (tG [] w0 [Qp s 79 #[(.int .i64 p.1), (.int .i64 p.2.1), (.int .i64 p.2.2.1), (.int .i64 p.2.2.2.1), (.slice A6 (List.length (List.map stT d9)) c7), (.map (some a5))], Vn a5 p.2.2.2.2, Qp a4 95 #[(pt s 0), (Vz b2 a4), (.string ⟨List.toArray b3⟩), (.string ⟨List.toArray b4⟩), (.string ⟨List.toArray b5⟩), (.bool b6)], Qp q 63 #[(.int .i64 f.2.1), (.string ⟨List.toArray f.2.2.1⟩), (.string ⟨List.toArray f.2.2.2.1⟩), (.int .i64 f.2.2.2.2.1), (.int .i64 f.2.2.2.2.2.1)], Qp a2 63 #[(.int .i64 m.2.1), (.string ⟨List.toArray m.2.2.1⟩), (.string ⟨List.toArray m.2.2.2.1⟩), (.int .i64 m.2.2.2.2.1), (.int .i64 m.2.2.2.2.2.1)]] [([], [])]) 38 0 ⟨trivial, SP.drew e4⟩ ?_ ?_
           iterate 38 refine And.intro ?_ ?_
           exact trivial
           ·exact oV (hC (hS 11 (pt q 0)) (h0)) (pt q 0)
           ·refine oL 0 ?_
            ·rintro ρ' w' hs hah ⟨ao6, ae9⟩
             refine kM (kc (kA hah 0 88) k0) fun hkn => ?_
             refine sL 3 88 q 0 3 (.int .i64 f.2.1) 89 ae9 rfl ?_
             exact eK hkn
           ·exact oV (hC (hA 1 89) (h0)) (.bool (f.2.1 == 1))
           ·exact oV (hC (hA 2 90) (h0)) (.bool (f.2.1 == 1))
           ·exact oV (hC (hS 12 (pt a2 0)) (hC (hB 3 91 b7) (h0))) (pt a2 0)
           ·refine oL 0 ?_
            ·rintro ρ' w' hs hah ⟨ao7, af0⟩
             have d7 := hah 4 92 K
             have d8 := hah 3 91 K
             refine kN [(92, (pt a2 0)), (91, (.bool true))] ⟨d7, (Eq.trans d8 (congrArg Value.bool b7)), trivial⟩ fun hkn => ?_
             refine sL 3 92 a2 0 4 (.int .i64 m.2.1) 93 af0 rfl ?_
             exact eK hkn
           ·exact oV (hC (hA 5 93) (hC (hB 3 91 b7) (h0))) (.bool (m.2.1 == 3))
           ·exact oV (hC (hB 3 91 b7) (hC (hA 6 94) (h0))) (.bool (m.2.1 == 3))
           ·exact oV (hC (hA 7 95) (h0)) (.bool (m.2.1 == 3))
           ·exact oW (hC (hB 8 96 a6) (h0)) 97
           ·exact oW (hC (hB 8 96 a6) (h0)) 98
           ·exact oW (hC (hB 8 96 a6) (h0)) 99
           ·exact oW (hC (hB 8 96 a6) (h0)) 100
           ·exact oW (hC (hB 8 96 a6) (h0)) 101
           ·exact oW (hC (hB 8 96 a6) (h0)) 102
           ·exact oW (hC (hB 8 96 a6) (h0)) 103
           ·exact oW (hC (hB 8 96 a6) (h0)) 104
           ·exact oW (hC (hB 8 96 a6) (h0)) 105
           ·exact oW (hC (hB 8 96 a6) (h0)) 106
           ·exact oV (hC (hB 8 96 a6) (hC (hA 18 106) (h0))) (.bool false)
           ·exact oV (hC (hA 19 107) (h0)) (.bool false)
           ·exact oW (hC (hA 20 108) (h0)) 109
           ·exact oW (hC (hA 20 108) (h0)) 110
           ·exact oW (hC (hA 20 108) (h0)) 111
           ·exact oV (hC (hA 20 108) (hC (hA 23 111) (h0))) (.bool false)
           ·exact oV (hC (hA 24 112) (h0)) (.bool false)
           ·exact oW (hC (hA 25 113) (h0)) 114
           ·exact oW (hC (hA 25 113) (h0)) 115
           ·exact oW (hC (hA 25 113) (h0)) 116
           ·exact oW (hC (hA 25 113) (h0)) 117
           ·exact oW (hC (hA 25 113) (h0)) 118
           ·exact oW (hC (hA 25 113) (h0)) 119
           ·exact oW (hC (hA 25 113) (h0)) 120
           ·exact oW (hC (hA 25 113) (h0)) 121
           ·exact oW (hC (hA 25 113) (h0)) 122
           ·exact oW (hC (hA 25 113) (h0)) 123
           ·exact oV (hC (hA 25 113) (hC (hA 35 123) (h0))) (.bool false)
           ·exact oV (hC (hA 36 124) (h0)) (.bool false)
           ·rintro ρ' w' hs hf ⟨ao8, p3⟩
            refine Vi [(5, (.bool a8)), (9, (.string ⟨List.toArray a0.1⟩)), (10, (.bool a0.2)), (11, (pt q 0)), (14, (.bool false))] ⟨(hs 5 K).trans K, (hs 9 K).trans K, (hs 10 K).trans K, (hs 11 K).trans K, hf 37 14 K, trivial⟩ ?_
            obtain ⟨ao9, af1⟩ : ∃ x, w' = x := ⟨_, rfl⟩
            rw [af1] at p3 ⊢
            exact ⟨false, ⟨K, K, K, K, K, trivial⟩, SP.sel p3 [3] rfl rfl, H⟩
         ·have H := cf H b7
          refine aG [GEq (pt q 0), GEq (.int .i64 f.2.1), GEq (.bool (f.2.1 == 1)), GEq (.bool (f.2.1 == 1)), GEq undef, GEq undef, GEq undef, GEq (.bool false), GEq (.bool false), GEq undef, GEq undef, GEq undef, GEq undef, GEq undef, GEq undef, GEq undef, GEq undef, GEq undef, GEq undef, GEq (.bool false), GEq (.bool false), GEq undef, GEq undef, GEq undef, GEq (.bool false), GEq (.bool false), GEq undef, GEq undef, GEq undef, GEq undef, GEq undef, GEq undef, GEq undef, GEq undef, GEq undef, GEq undef, GEq (.bool false), GEq (.bool false)] [] (tG [] w0 [Qp s 79 #[(.int .i64 p.1), (.int .i64 p.2.1), (.int .i64 p.2.2.1), (.int .i64 p.2.2.2.1), (.slice A6 (List.length (List.map stT d9)) c7), (.map (some a5))], Vn a5 p.2.2.2.2, Qp a4 95 #[(pt s 0), (Vz b2 a4), (.string ⟨List.toArray b3⟩), (.string ⟨List.toArray b4⟩), (.string ⟨List.toArray b5⟩), (.bool b6)], Qp q 63 #[(.int .i64 f.2.1), (.string ⟨List.toArray f.2.2.1⟩), (.string ⟨List.toArray f.2.2.2.1⟩), (.int .i64 f.2.2.2.2.1), (.int .i64 f.2.2.2.2.2.1)], Qp a2 63 #[(.int .i64 m.2.1), (.string ⟨List.toArray m.2.2.1⟩), (.string ⟨List.toArray m.2.2.2.1⟩), (.int .i64 m.2.2.2.2.1), (.int .i64 m.2.2.2.2.2.1)]] [([], [])]) 38 0 ⟨trivial, SP.drew e4⟩ ?_ ?_
          iterate 38 refine And.intro ?_ ?_
          exact trivial
          ·exact oV (hC (hS 11 (pt q 0)) (h0)) (pt q 0)
          ·refine oL 0 ?_
           ·rintro ρ' w' hs hah ⟨ap0, af2⟩
            refine kM (kc (kA hah 0 88) k0) fun hkn => ?_
            refine sL 3 88 q 0 3 (.int .i64 f.2.1) 89 af2 rfl ?_
            exact eK hkn
          ·exact oV (hC (hA 1 89) (h0)) (.bool (f.2.1 == 1))
          ·exact oV (hC (hA 2 90) (h0)) (.bool (f.2.1 == 1))
          ·exact oW (hC (hB 3 91 b7) (h0)) 92
          ·exact oW (hC (hB 3 91 b7) (h0)) 93
          ·exact oW (hC (hB 3 91 b7) (h0)) 94
          ·exact oV (hC (hB 3 91 b7) (hC (hA 6 94) (h0))) (.bool false)
          ·exact oV (hC (hA 7 95) (h0)) (.bool false)
          ·exact oW (hC (hA 8 96) (h0)) 97
          ·exact oW (hC (hA 8 96) (h0)) 98
          ·exact oW (hC (hA 8 96) (h0)) 99
          ·exact oW (hC (hA 8 96) (h0)) 100
          ·exact oW (hC (hA 8 96) (h0)) 101
          ·exact oW (hC (hA 8 96) (h0)) 102
          ·exact oW (hC (hA 8 96) (h0)) 103
          ·exact oW (hC (hA 8 96) (h0)) 104
          ·exact oW (hC (hA 8 96) (h0)) 105
          ·exact oW (hC (hA 8 96) (h0)) 106
          ·exact oV (hC (hA 8 96) (hC (hA 18 106) (h0))) (.bool false)
          ·exact oV (hC (hA 19 107) (h0)) (.bool false)
          ·exact oW (hC (hA 20 108) (h0)) 109
          ·exact oW (hC (hA 20 108) (h0)) 110
          ·exact oW (hC (hA 20 108) (h0)) 111
          ·exact oV (hC (hA 20 108) (hC (hA 23 111) (h0))) (.bool false)
          ·exact oV (hC (hA 24 112) (h0)) (.bool false)
          ·exact oW (hC (hA 25 113) (h0)) 114
          ·exact oW (hC (hA 25 113) (h0)) 115
          ·exact oW (hC (hA 25 113) (h0)) 116
          ·exact oW (hC (hA 25 113) (h0)) 117
          ·exact oW (hC (hA 25 113) (h0)) 118
          ·exact oW (hC (hA 25 113) (h0)) 119
          ·exact oW (hC (hA 25 113) (h0)) 120
          ·exact oW (hC (hA 25 113) (h0)) 121
          ·exact oW (hC (hA 25 113) (h0)) 122
          ·exact oW (hC (hA 25 113) (h0)) 123
          ·exact oV (hC (hA 25 113) (hC (hA 35 123) (h0))) (.bool false)
          ·exact oV (hC (hA 36 124) (h0)) (.bool false)
          ·rintro ρ' w' hs hf ⟨ap1, p4⟩
           refine Vi [(5, (.bool a8)), (9, (.string ⟨List.toArray a0.1⟩)), (10, (.bool a0.2)), (11, (pt q 0)), (14, (.bool false))] ⟨(hs 5 K).trans K, (hs 9 K).trans K, (hs 10 K).trans K, (hs 11 K).trans K, hf 37 14 K, trivial⟩ ?_
           obtain ⟨ap2, af3⟩ : ∃ x, w' = x := ⟨_, rfl⟩
           rw [af3] at p4 ⊢
           exact ⟨false, ⟨K, K, K, K, K, trivial⟩, SP.sel p4 [3] rfl rfl, H⟩
        ·rintro ρ ap3 ⟨c9, hk, d1, H⟩
         unfold Vd at H
         first | refine At.known [(5, (.bool a8)), (9, (.string ⟨List.toArray a0.1⟩)), (10, (.bool a0.2)), (11, (pt q 0)), (14, (.bool c9))] hk ?_ | rw [← Q7 (l := [(5, (.bool a8)), (9, (.string ⟨List.toArray a0.1⟩)), (10, (.bool a0.2)), (11, (pt q 0)), (14, (.bool c9))]) hk]
         refine aQ ?_
         refine At.join (fun ρ w => ∃ (e7 : Bool), Zj ρ [(4, (.bool e7))] ∧ SP [] w0 w [] ∧ Q1 (Qz (List.map stT d9) a1 a8 p e2) e7 = some r) ?_ ?_
         ·refine aR ?_
          refine iR 2 2 [(125, (.bool a8)), (126, (.bool a8))] ?_
          refine In.guard (t := 126) (b := a8) K (fun j0 => ?_) (fun j0 => ?_)
          ·have H := ct H j0
           refine iR 5 7 [(127, (.bool a0.2)), (128, (.bool c9)), (129, (.bool (a0.2 == c9))), (130, (.bool (a0.2 == c9))), (131, (.bool (a0.2 == c9)))] ?_
           refine In.guard (t := 131) (b := (a0.2 == c9)) K (fun j1 => ?_) (fun j1 => ?_)
           ·have H := ct H j1
            refine iR 3 10 [(132, (.bool a0.2)), (133, (.bool (!a0.2))), (134, (.bool (!a0.2)))] ?_
            refine In.guard (t := 134) (b := (!a0.2)) K (fun j2 => ?_) (fun j2 => ?_)
            ·have H := ct H j2
             refine iR 1 11 [(135, (.string ⟨List.toArray a0.1⟩))] ?_
             refine iS 12 ?_
             refine Z8 (op := .eql) (T := 9) (T' := 9) (x := (.tmp 135)) (y := (.const (.string ⟨List.toArray ([] : List UInt8)⟩))) (a := a0.1) (b := ([] : List UInt8)) (r := (.bool (a0.1 == ([] : List UInt8)))) (d := (some 136)) (k := 11) K rfl K K rfl ?_
             refine iR 2 14 [(137, (.bool (a0.1 == ([] : List UInt8)))), (138, (.bool (a0.1 == ([] : List UInt8))))] ?_
             refine In.guard (t := 138) (b := (a0.1 == ([] : List UInt8))) K (fun j3 => ?_) (fun j3 => ?_)
             ·have H := ct H j3
              refine iR 10 24 [(139, undef), (140, undef), (141, undef), (142, undef), (143, undef), (144, undef), (145, undef), (146, (.bool true)), (147, (.bool true)), (4, (.bool true))] ?_
              refine iF ?_
              exact ⟨true, ⟨K, trivial⟩, SP.sel d1 [] rfl rfl, H⟩
             ·have H := cf H j3
              refine iR 2 16 [(139, (.bool a0.2)), (140, (.bool a0.2))] ?_
              refine In.guard (t := 140) (b := a0.2) K (fun j4 => ?_) (fun j4 => ?_)
              ·have H := ct H j4
               refine iR 2 18 [(141, (.string ⟨List.toArray a0.1⟩)), (142, (pt q 1))] ?_
               refine iS 19 ?_
               refine sL 9 142 q 1 0 (.string ⟨List.toArray f.2.2.1⟩) 143 d1 rfl ?_
               refine iS 20 ?_
               refine Z8 (op := .eql) (T := 9) (T' := 9) (x := (.tmp 141)) (y := (.tmp 143)) (a := a0.1) (b := f.2.2.1) (r := (.bool (a0.1 == f.2.2.1))) (d := (some 144)) (k := 19) K rfl K K rfl ?_
               refine iR 4 24 [(145, (.bool (a0.1 == f.2.2.1))), (146, (.bool (a0.1 == f.2.2.1))), (147, (.bool (a0.1 == f.2.2.1))), (4, (.bool (a0.1 == f.2.2.1)))] ?_
               refine iF ?_
               exact ⟨(a0.1 == f.2.2.1), ⟨K, trivial⟩, SP.sel d1 [] rfl rfl, H⟩
              ·have H := cf H j4
               refine iR 8 24 [(141, undef), (142, undef), (143, undef), (144, undef), (145, (.bool false)), (146, (.bool false)), (147, (.bool false)), (4, (.bool false))] ?_
               refine iF ?_
               exact ⟨false, ⟨K, trivial⟩, SP.sel d1 [] rfl rfl, H⟩
            ·have H := cf H j2
             refine iR 6 16 [(135, undef), (136, undef), (137, (.bool false)), (138, (.bool false)), (139, (.bool a0.2)), (140, (.bool a0.2))] ?_
             refine In.guard (t := 140) (b := a0.2) K (fun j5 => ?_) (fun j5 => ?_)
             ·have H := ct H j5
              refine iR 2 18 [(141, (.string ⟨List.toArray a0.1⟩)), (142, (pt q 1))] ?_
              refine iS 19 ?_
              refine sL 9 142 q 1 0 (.string ⟨List.toArray f.2.2.1⟩) 143 d1 rfl ?_
              refine iS 20 ?_
              refine Z8 (op := .eql) (T := 9) (T' := 9) (x := (.tmp 141)) (y := (.tmp 143)) (a := a0.1) (b := f.2.2.1) (r := (.bool (a0.1 == f.2.2.1))) (d := (some 144)) (k := 19) K rfl K K rfl ?_
              refine iR 4 24 [(145, (.bool (a0.1 == f.2.2.1))), (146, (.bool (a0.1 == f.2.2.1))), (147, (.bool (a0.1 == f.2.2.1))), (4, (.bool (a0.1 == f.2.2.1)))] ?_
              refine iF ?_
              exact ⟨(a0.1 == f.2.2.1), ⟨K, trivial⟩, SP.sel d1 [] rfl rfl, H⟩
             ·have H := cf H j5
              refine iR 8 24 [(141, undef), (142, undef), (143, undef), (144, undef), (145, (.bool false)), (146, (.bool false)), (147, (.bool false)), (4, (.bool false))] ?_
              refine iF ?_
              exact ⟨false, ⟨K, trivial⟩, SP.sel d1 [] rfl rfl, H⟩
           ·have H := cf H j1
            refine iR 17 24 [(132, undef), (133, undef), (134, undef), (135, undef), (136, undef), (137, undef), (138, undef), (139, undef), (140, undef), (141, undef), (142, undef), (143, undef), (144, undef), (145, undef), (146, undef), (147, (.bool false)), (4, (.bool false))] ?_
            refine iF ?_
            exact ⟨false, ⟨K, trivial⟩, SP.sel d1 [] rfl rfl, H⟩
          ·have H := cf H j0
           refine iR 22 24 [(127, undef), (128, undef), (129, undef), (130, (.bool false)), (131, (.bool false)), (132, undef), (133, undef), (134, undef), (135, undef), (136, undef), (137, undef), (138, undef), (139, undef), (140, undef), (141, undef), (142, undef), (143, undef), (144, undef), (145, undef), (146, undef), (147, (.bool false)), (4, (.bool false))] ?_
           refine iF ?_
           exact ⟨false, ⟨K, trivial⟩, SP.sel d1 [] rfl rfl, H⟩
         ·rintro ρ ap4 ⟨e7, hk, af4, H⟩
          unfold Q1 at H
          first | refine At.known [(4, (.bool e7))] hk ?_ | rw [← Q7 (l := [(4, (.bool e7))]) hk]
          refine At.ret K ?_
          refine ⟨(.bool e7), K, ?_⟩
          obtain rfl := Qh H
          exact ⟨rfl, SP.sel af4 [] rfl rfl⟩
    ·exact ⟨c5.1, c5.2.1, c5.2.2.1, c5.2.2.2.1, c5.2.2.2.2, 0, ⟨K, K, K, K, K, trivial⟩, SP.sel q7 [1, 2, 0] rfl rfl, H⟩
end Go.Proofs.YtmgfanhcdfobhaaGreatDoor
namespace Go.Proofs.YtmgfanhcdfobhaaGreatDoor
def dOpK : OpK := (0, 0, [], [], 0, 0, 0, [])
def h0K (ops : List OpK) : OpK := ops.getD 0 dOpK
def h1K (ops : List OpK) : OpK := ops.getD 1 dOpK
def jK (l : List Qf) (ops : List OpK) : Bool := ((h0K ops).2.1 == 1) && (((h1K ops).2.1 == 3) && (G7 l [] (h0K ops).2.2.1 (h0K ops).2.2.2.1 ((h0K ops).2.2.2.2.2.2.2.take 64) (h1K ops).2.2.1 (h1K ops).2.2.2.2.2.2.1 == 0))
def JI (l : List Qf) (ops : List OpK) (i : Nat) (c : Int) (t k n : Str) (kn : Bool) : Prop :=
  (i = 0 ∧ c = 1 ∧ kn = false) ∨
  (i = 1 ∧ kn = false ∧ ((((h0K ops).2.1 == 1) = true ∧ c = 2 ∧ t = (h0K ops).2.2.1 ∧ k = (h0K ops).2.2.2.1 ∧ n = (h0K ops).2.2.2.2.2.2.2.take 64) ∨ (((h0K ops).2.1 == 1) = false ∧ c = 0))) ∨
  (2 ≤ i ∧ c = 0 ∧ kn = jK l ops ∧ (kn = true → t = (h0K ops).2.2.1))
theorem ji_step (l : List Qf) (ops : List OpK) {i : Nat} {c : Int} {t k n : Str} {kn : Bool} (h : JI l ops i c t k n kn) (hlt : i < ops.length) (z) (hz : Ig l [] c t k n kn ops[i].2.1 ops[i].2.2.1 ops[i].2.2.2.1 ops[i].2.2.2.2.2.2.1 ops[i].2.2.2.2.2.2.2 = z) :
    JI l ops (i + 1) z.2.2.2.2.2.2.1 z.2.2.2.2.2.2.2.1 z.2.2.2.2.2.2.2.2.1 z.2.2.2.2.2.2.2.2.2.1 z.2.2.2.2.2.2.2.2.2.2 := by
  subst hz
  rcases h with ⟨rfl, rfl, rfl⟩ | ⟨rfl, rfl, h⟩ | ⟨hi, rfl, h1, h2⟩
  · have e : ops[0] = h0K ops := by simp [h0K, List.getD, hlt]
    rw [e]
    refine .inr (.inl ⟨rfl, ?_⟩)
    unfold Ig
    cases hk : ((h0K ops).2.1 == 1) with
    | true => exact ⟨rfl, .inl ⟨rfl, rfl, rfl, rfl, rfl⟩⟩
    | false => exact ⟨rfl, .inr ⟨rfl, rfl⟩⟩
  · have e : ops[1] = h1K ops := by simp [h1K, List.getD, hlt]
    rw [e]
    refine .inr (.inr ⟨by omega, ?_⟩)
    unfold Ig jK
    rcases h with ⟨h0, rfl, rfl, rfl, rfl⟩ | ⟨h0, rfl⟩
    · rw [h0, Bool.true_and]
      cases hk : ((h1K ops).2.1 == 3) with
      | false => exact ⟨rfl, rfl, fun h => by cases h⟩
      | true =>
        rw [Bool.true_and]
        cases (G7 l [] (h0K ops).2.2.1 (h0K ops).2.2.2.1 ((h0K ops).2.2.2.2.2.2.2.take 64) (h1K ops).2.2.1 (h1K ops).2.2.2.2.2.2.1 == 0) with
        | true => exact ⟨rfl, rfl, fun _ => rfl⟩
        | false => exact ⟨rfl, rfl, fun h => by cases h⟩
    · rw [h0, Bool.false_and]
      exact ⟨rfl, rfl, fun h => by cases h⟩
  · exact .inr (.inr ⟨by omega, rfl, h1, h2⟩)
theorem just_tail (R : Int → Str → Str → Str → Bool → Int → Option Bool) (w g i0 e : Int) {l : List Qf} (hv : VC l) (ops : List OpK) (hops : ops.length ≤ 40) (hoq : ∀ o ∈ ops, OpKQ o) (i : Nat) (hi : ops.length = i) (c : Int) (t k n : Str) (kn : Bool) (h : JI l ops i c t k n kn) :
    Vs R l ops true (w, g, i0, e, []) c t k n kn (i : Int) = some true := by
  unfold Vs Zf Vd Q1
  rw [show decide ((i : Int) < ((ops.length : Nat) : Int)) = false from decide_eq_false (by omega), cond_false, who_p, Option.bind_some]
  by_cases h2 : ops.length < 2
  · rw [show decide (((ops.length : Nat) : Int) < 2) = true from decide_eq_true (by omega), cond_true, cond_true]
    rcases h with ⟨_, _, rfl⟩ | ⟨_, rfl, _⟩ | ⟨hi, _⟩
    · rfl
    · rfl
    · omega
  · rw [show decide (((ops.length : Nat) : Int) < 2) = false from decide_eq_false (by omega), cond_false]
    rcases h with ⟨hi, _⟩ | ⟨hi, _⟩ | ⟨_, _, hkn, hwho⟩
    · omega
    · omega
    · have e0 : idx ops 0 = some (h0K ops) := by
        have := Yq (l := ops) (i := 0) (by omega)
        rw [show ((0 : Nat) : Int) = 0 from rfl] at this
        rw [this]
        simp [h0K, List.getD, show 0 < ops.length by omega]
      have e1 : idx ops 1 = some (h1K ops) := by
        have := Yq (l := ops) (i := 1) (by omega)
        rw [show ((1 : Nat) : Int) = 1 from rfl] at this
        rw [this]
        simp [h1K, List.getD, show 1 < ops.length by omega]
      have hq0 : OpKQ (h0K ops) := by
        have : h0K ops = ops[0]'(by omega) := by simp [h0K, List.getD, show 0 < ops.length by omega]
        rw [this]; exact hoq _ (List.getElem_mem _)
      simp only [e0, e1, Option.bind_some]
      rw [cut64 _ hq0.2.2, Option.bind_some, pVGood hv, Option.bind_some, pVWant hv, Option.bind_some]
      have hend : ∀ b : Bool, b = kn → cond true (cond (kn == b) (cond (!kn) (cond (cond kn t [] == []) (some true) (cond kn (some (cond kn t [] == (h0K ops).2.2.1)) (some false))) (cond kn (some (cond kn t [] == (h0K ops).2.2.1)) (some false))) (some false)) (some false) = some true := by
        intro b hb
        subst hb
        cases b with
        | false => rfl
        | true =>
          rw [hwho rfl]
          simp
      unfold jK at hkn
      rw [vCheck_0] at hkn
      cases ha : ((h0K ops).2.1 == 1) with
      | false => rw [cond_false]; exact hend false (by rw [hkn, ha]; rfl)
      | true =>
        rw [cond_true]
        cases hb : ((h1K ops).2.1 == 3) with
        | false => rw [cond_false]; exact hend false (by rw [hkn, ha, hb]; rfl)
        | true =>
          rw [cond_true]
          cases hg : He l [] (h0K ops).2.2.1 (h0K ops).2.2.2.1 (h1K ops).2.2.2.2.2.2.1 with
          | false => rw [cond_false]; exact hend false (by rw [hkn, ha, hb, hg]; rfl)
          | true =>
            rw [cond_true]
            rw [ha, hb, hg, Bool.true_and, Bool.true_and, Bool.true_and] at hkn
            generalize Df l (h0K ops).2.2.1 (h0K ops).2.2.2.1 ((h0K ops).2.2.2.2.2.2.2.take 64) = W at *
            by_cases e : (h1K ops).2.2.1 = W
            · rw [e, beq_self_eq_true, Bool.and_true] at hkn
              rw [e]
              cases hW : (W == []) with
              | true => rw [show (!true) = false from rfl, cond_false]; exact hend false (by rw [hkn, hW]; rfl)
              | false => rw [show (!false) = true from rfl, cond_true, beq_self_eq_true]; exact hend true (by rw [hkn, hW]; rfl)
            · rw [beq_eq_false_iff_ne.2 e, Bool.and_false] at hkn
              rw [beq_eq_false_iff_ne.2 e]
              cases (!((h1K ops).2.2.1 == [])) with
              | true => rw [cond_true]; exact hend false hkn.symm
              | false => rw [cond_false]; exact hend false hkn.symm
theorem just_loop (w g i0 e : Int) {l : List Qf} (hv : VC l) (ops : List OpK) (hops : ops.length ≤ 40) (hoq : ∀ o ∈ ops, OpKQ o) :
    ∀ (d i f : Nat) (c : Int) (t k n : Str) (kn : Bool), d = ops.length - i → i ≤ ops.length → d < f → JI l ops i c t k n kn → Qz l ops true (w, g, i0, e, []) f c t k n kn (i : Int) = some true := by
  intro d
  induction d with
  | zero =>
    intro i f c t k n kn hd hi hf h
    obtain ⟨f, rfl⟩ : ∃ g, f = g + 1 := ⟨f - 1, by omega⟩
    exact just_tail (Qz l ops true (w, g, i0, e, []) f) w g i0 e hv ops hops hoq i (by omega) c t k n kn h
  | succ d ih =>
    intro i f c t k n kn hd hi hf h
    obtain ⟨f, rfl⟩ : ∃ g, f = g + 1 := ⟨f - 1, by omega⟩
    have hlt : i < ops.length := by omega
    have hx := hoq ops[i] (List.getElem_mem hlt)
    show Vs (Qz l ops true (w, g, i0, e, []) f) l ops true (w, g, i0, e, []) c t k n kn (i : Int) = _
    obtain ⟨z, hz⟩ : ∃ z, Ig l [] c t k n kn ops[i].2.1 ops[i].2.2.1 ops[i].2.2.2.1 ops[i].2.2.2.2.2.2.1 ops[i].2.2.2.2.2.2.2 = z := ⟨_, rfl⟩
    have hj := ji_step l ops h hlt z hz
    generalize hR : Qz l ops true (w, g, i0, e, []) f = R at *
    unfold Vs
    rw [show decide ((i : Int) < ((ops.length : Nat) : Int)) = true from decide_eq_true (by omega), cond_true, Yq hlt, Option.bind_some, Option.bind_some, Option.bind_some, pHear hv _ _ _ _ _ _ _ _ _ _ _ _ _ _ _ _ _ hx.1 hx.2.2, hz, Option.bind_some, show ((i : Int) + 1) = ((i + 1 : Nat) : Int) by omega, Xx (by omega), ← hR]
    exact ih (i + 1) f _ _ _ _ _ (by omega) (by omega) (by omega) hj
theorem B4 (w g i0 e : Int) (l : List Qf) (ops : List OpK) (hl : l.length ≤ 140737488355328) (hq : ∀ t ∈ l, TenQ t) (hops : ops.length ≤ 140737488355328) (hoq : ∀ o ∈ ops, OpKQ o) : Xz w g i0 e l ops = some true := by
  unfold Xz
  obtain ⟨c, hc, hc'⟩ := cfg_great w g i0 e l hl hq
  obtain ⟨b, hb, hb'⟩ := Ih ops hops
  rw [shakeHead, Option.bind_some, pVNew w g i0 e l hl hq, Option.bind_some]
  cases hk : E1 w g i0 e l with
  | false => rfl
  | true =>
    rw [cond_true, optE_s, hc, Option.bind_some]
    have hup : Vt l ops true (w, g, i0, e, []) true = some true := by unfold Vt; rw [cond_true]
    cases c with
    | true => rw [cond_true]; exact hup
    | false =>
      obtain ⟨s1, s2⟩ := hc' rfl
      have hv := vc_of hk (by omega) hq s2
      rw [cond_false, hb, Option.bind_some]
      cases b with
      | true => exact hup
      | false =>
        unfold Vt
        rw [cond_false, show Ut (w, g, i0, e, ([] : U3)).1 (w, g, i0, e, ([] : U3)).2.1 (w, g, i0, e, ([] : U3)).2.2.1 (w, g, i0, e, ([] : U3)).2.2.2.1 l (w, g, i0, e, ([] : U3)).2.2.2.2 = some (1, [], [], [], false) from rfl, Option.bind_some]
        have := just_loop w g i0 e hv ops (hb' rfl) hoq ops.length 0 Zv 1 [] [] [] false (by omega) (by omega) (by have := hb' rfl; unfold Zv; omega) (.inl ⟨rfl, rfl, rfl⟩)
        rw [show ((0 : Nat) : Int) = 0 from rfl] at this
        exact this
end Go.Proofs.YtmgfanhcdfobhaaGreatDoor
namespace Go.Proofs.YtmgfanhcdfobhaaGreatDoor
open Go.RowKit Go.ChangeShapes Go.WideShapes Go.Deep
theorem own : ownKnob Tryz.prog.godebug = none := by kernel_rfl
theorem laidOut : laidOutB Tryz.prog = true := by kernel_rfl
section
variable {H : Type} {enc : TypeId × Value → H} {W : World} {spare : Nat → Bool} {held : Bool} {base b0 : Nat} {r : Reach}
end
end Go.Proofs.YtmgfanhcdfobhaaGreatDoor
namespace Go.Proofs.YtmgfanhcdfobhaaGreatDoor
open Go.RowKit Go.ChangeShapes Go.WideShapes Go.Deep
section
variable {H : Type} {enc : TypeId × Value → H} {P : Program} {W : World}
def Rds (enc : TypeId × Value → H) (P : Program) (W : World) (t : TypeId) {α : Type} (e : Enc α) (Q : Nat → α → Prop) : Prop :=
  ∀ (Zv : Nat) (cs : List Value) (x : DataW H × List MemPlace), DataW.trod enc P W 0 (fun _ => true) true Zv t cs = some x → ∃ a, cs = e.enc a ∧ ∀ r, (x.1.weights P t).all (· ≤ r) = true → Q r a
def RdsFs (enc : TypeId × Value → H) (P : Program) (W : World) (o : Nat) (fs : List (TypeId × Nat)) {α : Type} (e : Enc α) (Q : Nat → α → Prop) : Prop :=
  ∀ (Zv : Nat) (cs : List Value) (xs : List (DataW H × List MemPlace)), xs.length = fs.length → (∀ (i : Nat) f, fs[i]? = some f → DataW.trod enc P W 0 (fun _ => true) true Zv f.1 ((cs.drop f.2).take (P.cellsOf f.1)) = xs[i]?) →
    ∃ a, (cs.drop o).take e.sz = e.enc a ∧ ∀ r, (DataW.weightsEach P (fs.map (·.1)) (xs.map (·.1))).all (· ≤ r) = true → Q r a
theorem Uj {t : TypeId} {k : IntKind} (ht : P.underlying t = some (.int k)) : Rds enc P W t (Qb k) (fun _ n => (Lit.int k n).wf = true) := by
  intro Zv cs x h
  obtain ⟨n, rfl, rfl, hw⟩ := DataW.trod_int ht h
  exact ⟨n, rfl, fun _ _ => hw⟩
theorem Dv {t : TypeId} (ht : P.underlying t = some .string) : Rds enc P W t Qr (fun r s => s.length ≤ r) := by
  intro Zv cs x h
  obtain ⟨s, rfl, rfl, hs⟩ := DataW.trod_string ht h
  refine ⟨s.data.toList, rfl, fun r hr => ?_⟩
  simpa [DataW.weights] using hr
theorem Rds.conv {t : TypeId} {α β : Type} {e : Enc α} {e' : Enc β} {Q : Nat → α → Prop} {Q' : Nat → β → Prop} (h : Rds enc P W t e Q) (f : α → β) (he : ∀ a, e.enc a = e'.enc (f a)) (hQ : ∀ r a, Q r a → Q' r (f a)) : Rds enc P W t e' Q' := by
  intro Zv cs x hx
  obtain ⟨a, rfl, hq⟩ := h Zv cs x hx
  exact ⟨f a, he a, fun r hr => hQ r a (hq r hr)⟩
theorem Ct {t : TypeId} {o : Nat} {α : Type} {e : Enc α} {Q : Nat → α → Prop} (h : Rds enc P W t e Q) (hc : P.cellsOf t = e.sz) : RdsFs enc P W o [(t, o)] e Q := by
  intro Zv cs xs hl hf
  match xs, hl with
  | [x], _ =>
    have := hf 0 (t, o) rfl
    obtain ⟨a, ha, hq⟩ := h Zv _ _ this
    rw [hc] at ha
    refine ⟨a, ha, fun r hr => hq r ?_⟩
    simpa [DataW.weightsEach] using hr
theorem Jf {t : TypeId} {o : Nat} {fs : List (TypeId × Nat)} {α β : Type} {e : Enc α} {e' : Enc β} {Q : Nat → α → Prop} {Q' : Nat → β → Prop} (h : Rds enc P W t e Q) (hc : P.cellsOf t = e.sz) (hr : RdsFs enc P W (o + e.sz) fs e' Q') :
    RdsFs enc P W o ((t, o) :: fs) (Qa e e') (fun r a => Q r a.1 ∧ Q' r a.2) := by
  intro Zv cs xs hl hf
  match xs, hl with
  | x :: xs, hl =>
    have := hf 0 (t, o) rfl
    obtain ⟨a, ha, hq⟩ := h Zv _ _ this
    obtain ⟨b, hb, hq'⟩ := hr Zv cs xs (by simpa using hl) (fun i f hi => by have := hf (i + 1) f (by simpa using hi); simpa using this)
    refine ⟨(a, b), ?_, fun r hw => ?_⟩
    · show (cs.drop o).take (e.sz + e'.sz) = e.enc a ++ e'.enc b
      rw [hc] at ha
      rw [← ha, ← hb, List.take_add, List.drop_drop]
    · simp only [List.map_cons, DataW.weightsEach, List.all_append, Bool.and_eq_true] at hw
      exact ⟨hq r hw.1, hq' r hw.2⟩
theorem Nc {t : TypeId} {l : List (TypeId × Nat)} {α : Type} {e : Enc α} {Q : Nat → α → Prop} (hl : (match P.underlying t with | some (.struct fs) => some (fs.toList.map (fun f => (f.type, f.offset))) | _ => none) = some l) (hc : P.cellsOf t = e.sz)
    (hr : RdsFs enc P W 0 l e Q) : Rds enc P W t e Q := by
  intro Zv cs x hx
  split at hl
  · rename_i fs hs
    simp only [Option.some.injEq] at hl
    subst hl
    obtain ⟨xs, n, _, rfl, hlen, hxs, hg⟩ := DataW.trod_struct hs hx
    obtain ⟨a, ha, hq⟩ := hr n cs xs (by simpa using hxs) (fun i f hi => by
      rw [List.getElem?_map, Option.map_eq_some_iff] at hi
      obtain ⟨f', hf', rfl⟩ := hi
      exact hg i f' (by simpa using hf'))
    rw [List.drop_zero, List.take_of_length_le (by omega)] at ha
    refine ⟨a, ha, fun r hw => hq r ?_⟩
    simp only [DataW.weights, hs] at hw
    simpa [List.map_map, Function.comp_def] using hw
  · cases hl
theorem Rj {t : TypeId} {n : Nat} : ∀ {ds : List (DataW H)} {d : DataW H}, d ∈ ds → n ∈ d.weights P t → n ∈ DataW.weightsAll P t ds
  | d0 :: ds, d, hd, hn => by
    simp only [DataW.weightsAll, List.mem_append]
    rcases List.mem_cons.1 hd with rfl | h
    · exact .inl hn
    · exact .inr (Rj h hn)
theorem rds_row {t te : TypeId} {α : Type} {e : Enc α} {Q : Nat → α → Prop} (ht : P.underlying t = some (.slice te)) (h : Rds enc P W te e Q) (hc : P.cellsOf te = e.sz) (h0 : 0 < e.sz) {Zv : Nat} {cs : List Value} {x : DataW H × List MemPlace}
    (hx : DataW.trod enc P W 0 (fun _ => true) true Zv t cs = some x) :
    ∃ (A : Option Addr) (c : Nat) (l : List α), cs = [.slice A l.length c] ∧ RdT e W A c l ∧ ∀ r, (x.1.weights P t).all (· ≤ r) = true → l.length * P.bytesOf te ≤ r ∧ ∀ a ∈ l, Q r a := by
  rcases DataW.trod_slice ht hx with ⟨rfl, rfl⟩ | ⟨a, len, cap, elems, rest, n, _, rfl, rfl, _, hl, hm, hlen, hel, _, _⟩
  · exact ⟨none, 0, [], rfl, RdT.nil _ W, fun r _ => ⟨by simp, fun a ha => by cases ha⟩⟩
  · have each : ∀ i, i ≤ len → ∃ l : List α, l.length = i ∧ ∀ j (hj : j < l.length), W.cells? 0 (a.add (j * P.cellsOf te)) (P.cellsOf te) = some (e.enc l[j]) ∧ ∀ y, elems[j]? = some y → ∀ r, (y.1.weights P te).all (· ≤ r) = true → Q r l[j] := by
      intro i
      induction i with
      | zero => exact fun _ => ⟨[], rfl, fun j hj => by simp at hj⟩
      | succ i ih =>
        intro hi
        obtain ⟨l, hll, hlg⟩ := ih (by omega)
        have := hel i (by omega)
        rw [List.getElem?_eq_getElem (by omega), Option.bind_eq_some_iff] at this
        obtain ⟨cs', h1, h2⟩ := this
        obtain ⟨b, rfl, hb⟩ := h n cs' _ h2
        refine ⟨l ++ [b], by simp [hll], fun j hj => ?_⟩
        by_cases hji : j < l.length
        · rw [List.getElem_append_left hji]
          exact hlg j hji
        · obtain rfl : j = i := by simp at hj; omega
          subst hll
          rw [List.getElem_concat_length rfl]
          refine ⟨h1, fun y hy => ?_⟩
          rw [List.getElem?_eq_getElem (by omega), Option.some.injEq] at hy
          subst hy
          exact hb
    obtain ⟨l, hll, hlg⟩ := each len (Nat.le_refl _)
    subst hll
    refine ⟨some a, cap, l, rfl, ⟨by rw [Vb], hl, hm, fun hn => ?_⟩, fun r hw => ?_⟩
    · have cell : ∀ j (hj : j < l.length) k, k < e.sz → W.cell? ((a.add (j * e.sz)).add k) = (e.enc l[j])[k]? := by
        intro j hj k hk
        have := (hlg j hj).1
        rw [hc] at this
        exact (World.cells?_some this).2.2 k hk
      have c0 := cell 0 hn 0 h0
      rw [Nat.zero_mul, List.getElem?_eq_getElem (by rw [e.len]; exact h0)] at c0
      obtain ⟨b, off, spot⟩ := a
      obtain rfl : spot = none := by simpa [Addr.add] using World.cell?_spot c0
      have hadd : ∀ i j : Nat, ((⟨b, off, none⟩ : Addr).add i).add j = ⟨b, off + (i + j), none⟩ := by
        intro i j
        unfold Addr.add
        by_cases hi : i = 0 <;> by_cases hj : j = 0 <;> simp [hi, hj, Nat.add_assoc]
      rw [hadd] at c0
      refine ⟨b, off, rfl, block_lt_of_cell c0, fun j u hu => ?_⟩
      have hlen2 := (List.getElem?_eq_some_iff.1 hu).1
      rw [Vb] at hlen2
      have hq : j / e.sz < l.length := Nat.div_lt_of_lt_mul (by rw [Nat.mul_comm]; exact hlen2)
      have hk : j % e.sz < e.sz := Nat.mod_lt _ h0
      have hj : j = j / e.sz * e.sz + j % e.sz := by rw [Nat.mul_comm]; exact (Nat.div_add_mod j e.sz).symm
      have hce := cell (j / e.sz) hq (j % e.sz) hk
      rw [hadd, ← hj] at hce
      rw [hce]
      have hgt := N8 e (l := l) (i := j / e.sz) (x := l[j / e.sz]) (List.getElem?_eq_getElem hq) (j := j % e.sz) (u := (e.enc l[j / e.sz])[j % e.sz]'(by rw [e.len]; exact hk)) (List.getElem?_eq_getElem _)
      rw [← hj, hu] at hgt
      rw [List.getElem?_eq_getElem (by rw [e.len]; exact hk), ← hgt]
    · simp only [DataW.weights, ht, List.all_cons, Bool.and_eq_true, decide_eq_true_eq, List.all_append] at hw
      refine ⟨Nat.le_trans (Nat.mul_le_mul_right _ (by simp; omega)) hw.1, fun b hb => ?_⟩
      obtain ⟨j, hj, rfl⟩ := List.mem_iff_getElem.1 hb
      refine (hlg j hj).2 _ (List.getElem?_eq_getElem (by omega)) r ?_
      rw [List.all_eq_true] at hw ⊢
      intro m hm'
      exact hw.2.1 m (Rj (List.mem_map.2 ⟨_, List.getElem_mem (by omega), rfl⟩) hm')
variable {r0 : Reach} {b0 : Nat}
theorem open_agg {t : TypeId} {fs : Array Field} {α : Type} {e : Enc α} {Q : Nat → α → Prop} (hs : P.underlying t = some (.struct fs)) (h : Rds enc P W t e Q) {v : Value} {d : DataW H} {p : List MemPlace} (hv : Value.okWide P W r0 b0 t v)
    (hd : DataW.Trod enc P W 0 (fun _ => true) true t v d p) (hr : ∀ n ∈ d.weights P t, n ≤ reachBytes) : ∃ a, v = .agg ⟨e.enc a⟩ ∧ Q reachBytes a := by
  obtain ⟨cs, rfl, hsz⟩ := okWide_struct hs hv
  obtain ⟨Zv, hf⟩ := hd
  obtain ⟨a, ha, hq⟩ := h Zv _ _ hf
  refine ⟨a, ?_, hq _ (by rw [List.all_eq_true]; intro n hn; exact decide_eq_true (hr n hn))⟩
  simp only [Value.cells] at ha
  rw [← ha]
theorem open_row {t te : TypeId} {α : Type} {e : Enc α} {Q : Nat → α → Prop} (ht : P.underlying t = some (.slice te)) (h : Rds enc P W te e Q) (hc : P.cellsOf te = e.sz) (h0 : 0 < e.sz) {v : Value} {d : DataW H} {p : List MemPlace} (hv : Value.okWide P W r0 b0 t v)
    (hd : DataW.Trod enc P W 0 (fun _ => true) true t v d p) (hr : ∀ n ∈ d.weights P t, n ≤ reachBytes) : ∃ (A : Option Addr) (c : Nat) (l : List α), v = .slice A l.length c ∧ RdT e W A c l ∧ l.length * P.bytesOf te ≤ reachBytes ∧ ∀ a ∈ l, Q reachBytes a := by
  obtain ⟨A, n, c, rfl⟩ := okWide_slice ht hv
  obtain ⟨Zv, hf⟩ := hd
  obtain ⟨A', c', l, hl, hrd, hq⟩ := rds_row ht h hc h0 hf
  simp [Value.cells] at hl
  obtain ⟨rfl, rfl, rfl⟩ := hl
  have := hq reachBytes (by rw [List.all_eq_true]; intro n hn; exact decide_eq_true (hr n hn))
  exact ⟨A, c, l, rfl, hrd, this.1, this.2⟩
end
end Go.Proofs.YtmgfanhcdfobhaaGreatDoor
namespace Go.Proofs.YtmgfanhcdfobhaaGreatDoor
theorem reachM : reachBytes ≤ 140737488355328 := by decide
section
variable {H : Type} {enc : TypeId × Value → H} {P : Program} {W : World}
theorem rds_ds {t te : TypeId} {α : Type} {e : Enc α} {Q : Nat → α → Prop} (p : Dp α) (ht : P.underlying t = some (.slice te)) (h : Rds enc P W te e Q) (hc : P.cellsOf te = e.sz) (h0 : 0 < e.sz) (hb : Nat.ble 1 (P.bytesOf te) = true) (hp : ∀ r a, Q r a → p.ok W a) :
    Rds enc P W t (eDS e) (fun r x => (dDS e p).ok W x ∧ x.2.2.length ≤ r ∧ ∀ a ∈ x.2.2, Q r a) := by
  intro Zv cs x hx
  obtain ⟨A, c, l, rfl, hr, hq⟩ := rds_row ht h hc h0 hx
  refine ⟨(A, c, l), rfl, fun r hw => ?_⟩
  obtain ⟨h1, h2⟩ := hq r hw
  exact ⟨⟨hr, fun y hy => hp r y (h2 y hy)⟩, Nat.le_trans (Nat.le_mul_of_pos_right _ (Nat.le_of_ble_eq_true hb)) h1, h2⟩
def NetQ (r : Nat) (n : Int × Int) : Prop := (Lit.int .u32 n.1).wf = true ∧ (Lit.int .i64 n.2).wf = true
def TokQ (r : Nat) (x : List UInt8 × List UInt8 × Int) : Prop := x.1.length ≤ r ∧ x.2.1.length ≤ r ∧ (Lit.int .i64 x.2.2).wf = true
def TenDQ (W : World) (r : Nat) (y : Vc) : Prop := y.1.length ≤ r ∧ (Lit.int .i64 y.2.1).wf = true ∧ (Lit.int .i64 y.2.2.1).wf = true ∧
  ((dDS eNet dT).ok W y.2.2.2.1 ∧ y.2.2.2.1.2.2.length ≤ r ∧ ∀ n ∈ y.2.2.2.1.2.2, NetQ r n) ∧ ((dDS eTok dT).ok W y.2.2.2.2 ∧ y.2.2.2.2.2.2.length ≤ r ∧ ∀ x ∈ y.2.2.2.2.2.2, TokQ r x)
def CfgQ (W : World) (r : Nat) (c : Int × Int × Int × Int × DS Vc) : Prop := (Lit.int .i64 c.1).wf = true ∧ (Lit.int .i64 c.2.1).wf = true ∧ (Lit.int .i64 c.2.2.1).wf = true ∧ (Lit.int .i64 c.2.2.2.1).wf = true ∧
  ((dDS Uk Bs).ok W c.2.2.2.2 ∧ c.2.2.2.2.2.2.length ≤ r ∧ ∀ y ∈ c.2.2.2.2.2.2, TenDQ W r y)
set_option maxRecDepth 100000 in
theorem net_rds : Rds enc Tryz.prog W 113 eNet NetQ :=
  Nc (l := [(111, 0), (3, 1)]) (by kernel_rfl) (by kernel_rfl) (Jf (Uj Tryz.underlying111) (by kernel_rfl) (Ct (Uj Tryz.underlying3) (by kernel_rfl)))
set_option maxRecDepth 100000 in
theorem tok_rds : Rds enc Tryz.prog W 48 eTok TokQ :=
  Nc (l := [(9, 0), (9, 1), (2, 2)]) (by kernel_rfl) (by kernel_rfl) (Jf (Dv Tryz.underlying9) (by kernel_rfl) (Jf (Dv Tryz.underlying9) (by kernel_rfl) (Ct (Uj Tryz.underlying2) (by kernel_rfl))))
set_option maxRecDepth 100000 in
theorem ten_rds : Rds enc Tryz.prog W 44 Uk (TenDQ W) :=
  Nc (l := [(9, 0), (3, 1), (3, 2), (41, 3), (42, 4)]) (by kernel_rfl) (by kernel_rfl)
    (Jf (Dv Tryz.underlying9) (by kernel_rfl) (Jf (Uj Tryz.underlying3) (by kernel_rfl) (Jf (Uj Tryz.underlying3) (by kernel_rfl)
      (Jf (rds_ds dT Tryz.underlying41 net_rds (by kernel_rfl) (by decide) (by kernel_rfl) (fun _ _ _ => trivial)) (by kernel_rfl) (Ct (rds_ds dT Tryz.underlying42 tok_rds (by kernel_rfl) (by decide) (by kernel_rfl) (fun _ _ _ => trivial)) (by kernel_rfl))))))
set_option maxRecDepth 100000 in
theorem cfg_rds : Rds enc Tryz.prog W 24 (Qa (Qb .i64) (Qa (Qb .i64) (Qa (Qb .i64) (Qa (Qb .i64) (eDS Uk))))) (CfgQ W) :=
  Nc (l := [(2, 0), (2, 1), (2, 2), (2, 3), (22, 4)]) (by kernel_rfl) (by kernel_rfl)
    (Jf (Uj Tryz.underlying2) (by kernel_rfl) (Jf (Uj Tryz.underlying2) (by kernel_rfl) (Jf (Uj Tryz.underlying2) (by kernel_rfl) (Jf (Uj Tryz.underlying2) (by kernel_rfl)
      (Ct (rds_ds Bs Tryz.underlying22 ten_rds (by kernel_rfl) (by decide) (by kernel_rfl) (fun _ _ h => ⟨trivial, trivial, trivial, h.2.2.2.1.1, h.2.2.2.2.1⟩)) (by kernel_rfl))))))
set_option maxRecDepth 100000 in
theorem open_cfg {r0 : Reach} {b0 : Nat} {v : Value} {d : DataW H} {p : List MemPlace} (hv : Value.okWide Tryz.prog W r0 b0 24 v) (hd : DataW.Trod enc Tryz.prog W 0 (fun _ => true) true 24 v d p) (hr : ∀ n ∈ d.weights Tryz.prog 24, n ≤ reachBytes) :
    ∃ (a b c e : Int) (A : Option Addr) (k : Nat) (l : List Vc), v = .agg #[.int .i64 a, .int .i64 b, .int .i64 c, .int .i64 e, .slice A (List.length (List.map stT l)) k] ∧ CfgQ W reachBytes (a, b, c, e, A, k, l) := by
  obtain ⟨⟨a, b, c, e, A, k, l⟩, rfl, q⟩ := open_agg Tryz.underlying24 cfg_rds hv hd hr
  refine ⟨a, b, c, e, A, k, l, ?_, q⟩
  rw [List.length_map]
  rfl
theorem cfg_q {W : World} {a b c d : Int} {A : Option Addr} {k : Nat} {x : List Vc} (h : CfgQ W reachBytes (a, b, c, d, A, k, x)) : (List.map stT x).length ≤ 140737488355328 ∧ ∀ t ∈ List.map stT x, TenQ t := by
  have hM := reachM
  obtain ⟨_, _, _, _, _, h1, h2⟩ := h
  refine ⟨by rw [List.length_map]; exact Nat.le_trans h1 hM, fun t ht => ?_⟩
  obtain ⟨y, hy, rfl⟩ := List.mem_map.1 ht
  obtain ⟨q1, q2, q3, ⟨_, q4, q5⟩, _, q6, q7⟩ := h2 y hy
  refine ⟨Nat.le_trans q1 hM, Nat.le_trans q4 hM, Nat.le_trans q6 hM, fun n hn => ?_, fun z hz => ⟨Nat.le_trans (q7 z hz).1 hM, Nat.le_trans (q7 z hz).2.1 hM⟩⟩
  have := (q5 n hn).1
  simp [Lit.wf, IntKind.min, IntKind.max, IntKind.signed, IntKind.bits] at this
  omega
end
end Go.Proofs.YtmgfanhcdfobhaaGreatDoor
namespace Go.Proofs.YtmgfanhcdfobhaaGreatDoor
def MsgW (r : Nat) (m : Int × Str × Str × Int × Int) : Prop := (Lit.int .i64 m.1).wf = true ∧ m.2.1.length ≤ r ∧ m.2.2.1.length ≤ r ∧ (Lit.int .i64 m.2.2.2.1).wf = true ∧ (Lit.int .i64 m.2.2.2.2).wf = true
def OpKN (r : Nat) (o : Int × (Int × Str × Str × Int × Int) × Int × Str) : Prop := (Lit.int .i64 o.1).wf = true ∧ MsgW r o.2.1 ∧ (Lit.int .i64 o.2.2.1).wf = true ∧ o.2.2.2.length ≤ r
def flatK (o : Int × (Int × Str × Str × Int × Int) × Int × Str) : OpK := (o.1, o.2.1.1, o.2.1.2.1, o.2.1.2.2.1, o.2.1.2.2.2.1, o.2.1.2.2.2.2, o.2.2.1, o.2.2.2)
def OpKW (r : Nat) (o : OpK) : Prop := o.2.2.1.length ≤ r ∧ o.2.2.2.1.length ≤ r ∧ o.2.2.2.2.2.2.2.length ≤ r
section
variable {H : Type} {enc : TypeId × Value → H} {W : World}
set_option maxRecDepth 100000 in
theorem msg_rds : Rds enc Tryz.prog W 63 (Qa (Qb .i64) (Qa Qr (Qa Qr (Qa (Qb .i64) (Qb .i64))))) MsgW :=
  Nc (l := [(3, 0), (9, 1), (9, 2), (2, 3), (2, 4)]) (by kernel_rfl) (by kernel_rfl)
    (Jf (Uj Tryz.underlying3) (by kernel_rfl) (Jf (Dv Tryz.underlying9) (by kernel_rfl) (Jf (Dv Tryz.underlying9) (by kernel_rfl) (Jf (Uj Tryz.underlying2) (by kernel_rfl) (Ct (Uj Tryz.underlying2) (by kernel_rfl))))))
set_option maxRecDepth 100000 in
theorem opk_nest : Rds enc Tryz.prog W 67 (Qa (Qb .i64) (Qa (Qa (Qb .i64) (Qa Qr (Qa Qr (Qa (Qb .i64) (Qb .i64))))) (Qa (Qb .i64) Qr))) OpKN :=
  Nc (l := [(3, 0), (63, 1), (2, 6), (9, 7)]) (by kernel_rfl) (by kernel_rfl)
    (Jf (Uj Tryz.underlying3) (by kernel_rfl) (Jf msg_rds (by kernel_rfl) (Jf (Uj Tryz.underlying2) (by kernel_rfl) (Ct (Dv Tryz.underlying9) (by kernel_rfl)))))
theorem opk_rds : Rds enc Tryz.prog W 67 (Qa (Qb .i64) (Qa (Qb .i64) (Qa Qr (Qa Qr (Qa (Qb .i64) (Qa (Qb .i64) (Qa (Qb .i64) Qr))))))) OpKW :=
  Rds.conv opk_nest flatK (fun _ => rfl) (fun r a h => ⟨h.2.1.2.1, h.2.1.2.2.1, h.2.2.2⟩)
theorem opk_q {l : List OpK} (hl : l.length ≤ reachBytes) (h : ∀ o ∈ l, OpKW reachBytes o) : l.length ≤ 140737488355328 ∧ ∀ o ∈ l, OpKQ o := by
  have hM := reachM
  refine ⟨Nat.le_trans hl hM, fun o ho => ?_⟩
  obtain ⟨q1, q2, q3⟩ := h o ho
  exact ⟨Nat.le_trans q1 hM, Nat.le_trans q2 hM, Nat.le_trans q3 hM⟩
end
end Go.Proofs.YtmgfanhcdfobhaaGreatDoor
namespace Go.Proofs.YtmgfanhcdfobhaaGreatDoor
open Go.RowKit
abbrev Hu : List (String × DataW Unit) := [("math/bits.deBruijn32tab", Rows.laid_math_bits_deBruijn32tab), ("math/bits.deBruijn64tab", Rows.laid_math_bits_deBruijn64tab), ("internal/strconv.uint64pow10", Rows.laid_internal_strconv_uint64pow10)
  , ("unicode/utf8.acceptRanges", Rows.laid_unicode_utf8_acceptRanges), ("unicode/utf8.first", Rows.laid_unicode_utf8_first)
  ]
theorem gTab : Tryz.prog.globalNamed Gz = some 0 := by kernel_rfl
theorem gTabType : (Tryz.prog.globals[0]?).map (·.type) = some 183 := by kernel_rfl
theorem cellsTab : Tryz.prog.cellsOf 183 = 20 := by kernel_rfl
theorem cellsU64 : Tryz.prog.cellsOf 153 = 1 := by kernel_rfl
theorem laid_of {W : World} (h : laidMetH Tryz.prog Hu W) : R5 W := by
  have h1 := h.filter (fun x => x.1 == Gz)
  have e : Hu.filter (fun x => x.1 == Gz) = [(Gz, Lib.tabData .u64 Lib.pow10Tab)] := by kernel_rfl
  rw [e] at h1
  have ht : Lib.TabIs Tryz.prog W Gz .u64 Lib.pow10Tab := Lib.tabIs_of_head (rest := []) gTab gTabType Tryz.underlying183 Tryz.underlying153 cellsU64 cellsTab h1
  refine ⟨ht, fun g hg => ?_⟩
  obtain rfl := Option.some.inj (gTab.symm.trans hg)
  have := ht.cell gTab 0 (by decide)
  exact block_lt_of_cell this
def cells1 : DataW Unit → List Value
  | .lit (.int k z) => [.int k z]
  | .lit (.bool b) => [.bool b]
  | _ => []
def cells2 : DataW Unit → List Value
  | .agg l => l.flatMap cells1
  | d => cells1 d
def cells3 : DataW Unit → List Value
  | .agg l => l.flatMap cells2
  | d => cells2 d
def Dg (d : DataW Unit) : Obj → Obj
  | .cells _ t frozen => .cells (cells3 d).toArray t frozen
  | o => o
noncomputable def B5 (os : Os) : World :=
  { World.holding Tryz.prog os ⟨#[], #[], []⟩ with heap := ((((World.holding Tryz.prog os ⟨#[], #[], []⟩).heap.modify 4 (Dg Rows.laid_math_bits_deBruijn32tab)).modify 5 (Dg Rows.laid_math_bits_deBruijn64tab)).modify 0 (Dg Rows.laid_internal_strconv_uint64pow10)
    |>.modify 2 (Dg Rows.laid_unicode_utf8_acceptRanges) |>.modify 1 (Dg Rows.laid_unicode_utf8_first)
    ) }
end Go.Proofs.YtmgfanhcdfobhaaGreatDoor
namespace Go.Proofs.YtmgfanhcdfobhaaGreatDoor
open Go.ChangeShapes Go.WideShapes Go.ChangeAt Go.RowKit
open Go.ChangeMaps (open_string shut_string)
set_option maxRecDepth 100000 in
theorem Dh (H : Type) (enc : TypeId × Value → H) (W : World) (base : Nat) (args : Array Value) (ds gs : List (DataW H)) (before : List MemPlace) (vt : List TypeId)
    (hval : ∀ (j : Nat) t v, Tryz.f9.params[j]? = some t → args[j]? = some v → Value.okWide Tryz.prog W .any base t v)
    (hW : DataW.Whole enc Tryz.prog Tryz.f9.params.toList Rows.shakeJustSpec.vars false W args.toList ds gs before) (hL : laidMetH Tryz.prog Rows.shakeJustRow.laid W)
    (hZ : (DataW.weightsEach Tryz.prog (Tryz.f9.params.toList ++ vt) (ds ++ gs)).all (· ≤ reachBytes) = true) :
    Calls Tryz.prog 9 args W fun e W' => ∃ v, e = .returned v ∧ Rows.shakeJustSpec.post enc Tryz.prog Tryz.f9 false true false false W args v W' := by
  have hW' := hW
  obtain ⟨p, q, hA0, hV, rfl, hfz, hnd⟩ := hW
  have hA : DataW.TrodAll enc Tryz.prog W 0 (fun _ => true) true Tryz.f9.params.toList args.toList ds p := hA0
  rw [Tryz.params9] at hA hval hZ
  obtain ⟨v0, vs0, d0, ds0, p0, q0, hargs, rfl, rfl, h0, r0⟩ := trodAll_cons hA
  obtain ⟨v1, vs1, d1, ds1, p1, q1, rfl, rfl, rfl, h1, r1⟩ := trodAll_cons r0
  obtain ⟨rfl, rfl, rfl⟩ := trodAll_nil r1
  obtain rfl : args = #[v0, v1] := by cases args; simp_all
  obtain ⟨rfl, rfl⟩ := trodVars_none hV
  have wz : ∀ (j : Nat) t d, _ → _ → ∀ n ∈ DataW.weights Tryz.prog t d, n ≤ reachBytes := fun j t d ht hd n hn => of_decide_eq_true (List.all_eq_true.1 hZ n (DataW.weights_mem_each (j := j) ht hd n hn))
  have k0 := h0
  have lt0 : ∀ x ∈ p0, x.block < W.heap.size := by obtain ⟨m, hm⟩ := k0; exact DataW.trod_lt m _ _ _ hm
  have k1 := h1
  have lt1 : ∀ x ∈ p1, x.block < W.heap.size := by obtain ⟨m, hm⟩ := k1; exact DataW.trod_lt m _ _ _ hm
  obtain ⟨a0_0, a0_1, a0_2, a0_3, A0_, c0_, l0_, rfl, q0_⟩ := open_cfg (hval 0 24 v0 rfl rfl) h0 (wz 0 24 d0 rfl rfl)
  obtain ⟨A1_, c1_, l1_, rfl, hr1_, hb1_, hq1_⟩ := open_row Tryz.underlying58 opk_rds (by kernel_rfl) (by decide) (hval 1 58 v1 rfl rfl) h1 (wz 1 58 d1 rfl rfl)
  have hl1_ : l1_.length ≤ reachBytes := Nat.le_trans (Nat.le_mul_of_pos_right _ (of_decide_eq_true (by kernel_rfl))) hb1_
  clear hA0
  refine (Na A0_ c0_ A1_ c1_ a0_0 a0_1 a0_2 a0_3 l0_ l1_ W (laid_of hL) q0_.2.2.2.2.1 hr1_ true (B4 _ _ _ _ _ _ (cfg_q q0_).1 (cfg_q q0_).2 (opk_q hl1_ hq1_).1 (opk_q hl1_ hq1_).2)).mono fun e W' ⟨he, bel0⟩ => ?_
  have bel := SP.keeps bel0
  subst he
  exact ⟨_, rfl, _, _, _, [], _, [], hW', trodAll_mk1 (shut_bool Tryz.underlying4 _), (trodAll_cons_mk (Below.trod laidOut (by kernel_rfl) (of_decide_eq_true (by kernel_rfl)) k0 bel lt0) (trodAll_cons_mk (Below.trod laidOut (by kernel_rfl) (of_decide_eq_true (by kernel_rfl)) k1 bel lt1) trodAll_mk0)), rfl, bel.frame _, fun h => by cases h⟩
theorem Di (os : Os) : laidMet Tryz.prog Rows.shakeJustRow.laid ((B5 os).forCall (fun _ _ => 0) ⟨#[], #[.agg #[.int .i64 0, .int .i64 0, .int .i64 0, .int .i64 0, .slice none 0 0], .slice none 0 0], []⟩).memory :=
  laidMet_of_run' 8 (by kernel_rfl) (by kernel_rfl)
theorem B6 (os : Os) {H : Type} (enc : TypeId × Value → H) : ∃ places, DataW.whole enc Tryz.prog ((B5 os).forCall (fun _ _ => 0) ⟨#[], #[.agg #[.int .i64 0, .int .i64 0, .int .i64 0, .int .i64 0, .slice none 0 0], .slice none 0 0], []⟩).memory Tryz.f9.params.toList Rows.shakeJustSpec.vars false [.agg #[.int .i64 0, .int .i64 0, .int .i64 0, .int .i64 0, .slice none 0 0], .slice none 0 0] 8 = some ([.agg [.lit (.int .i64 0), .lit (.int .i64 0), .lit (.int .i64 0), .lit (.int .i64 0), .nil], .nil], [], places) :=
  ⟨[], by kernel_rfl⟩
set_option maxRecDepth 100000 in
theorem D9 (os : Os) (started : os.Started) (H : Type) (enc : TypeId × Value → H) (F : Stop.Interp) :
    ReturnsInHanded {} Tryz.checked os 9 .any ((OpenSpec.ofChange Rows.shakeJustSpec).preRow enc Tryz.prog Tryz.f9 Rows.shakeJustRow.domain false Rows.shakeJustRow.laid) (((OpenSpec.ofChange Rows.shakeJustSpec).at F).post enc Tryz.prog Tryz.f9 false true false false) := by
  obtain ⟨places, hx⟩ := B6 os enc
  refine returnsInHanded_of_row (C := Tryz.checked) (s := OpenSpec.ofChange Rows.shakeJustSpec) own started (by kernel_rfl) Tryz.func9
    (witness_row_at (enc := enc) (C := Tryz.checked) false (B5 os) #[.agg #[.int .i64 0, .int .i64 0, .int .i64 0, .int .i64 0, .slice none 0 0], .slice none 0 0] rfl (by kernel_rfl) (by kernel_rfl) (by kernel_rfl)
      (OpenSpec.preRow_of_cond 8 hx (by kernel_rfl) (fun k hk => by cases hk) (by kernel_rfl) (Di os))) ?_
  intro W base args ds gs before hval hW _ _ hZ hL _ _
  exact Dh H enc W base args ds gs before _ hval hW hL hZ
theorem Cc : Rows.ShakeJustSaid :=
  OpenClaim.holds_of_cond 9 Tryz.f9 rfl rfl rfl rfl rfl rfl rfl ⟨rfl, rfl, rfl, rfl, rfl⟩ rfl rfl rfl rfl rfl (by kernel_rfl) Tryz.func9 (by kernel_rfl)
    (of_decide_eq_true (by kernel_rfl)) (by unfold Func.isWrapper; first | (rw [if_pos (by decide +kernel)]; kernel_rfl) | (rw [if_neg (by decide +kernel)]; exact ⟨rfl, rfl⟩))
    (fun os started H enc _ F => by rw [OpenClaim.pre_eq_preRow]; exact D9 os started H enc F)
theorem R0 (f : FuncId) (fn : Func) (hf : Tryz.pinned.checked.prog.funcNamed Rows.shakeJustRow.func = some f) (hfn : Tryz.pinned.checked.prog.funcs[f]? = some fn) :
    false = Tryz.pinned.checked.prog.looks [] ∧ ∀ (j : Nat) t, fn.params[j]? = some t → Tryz.pinned.checked.prog.wantsStandIn t = false := by
  obtain rfl : f = 9 := Option.some.inj ((show Tryz.prog.funcNamed Rows.shakeJustRow.func = some 9 by kernel_rfl).symm.trans hf) |>.symm
  obtain rfl : fn = Tryz.f9 := (Option.some.inj (Tryz.func9.symm.trans hfn)).symm
  refine ⟨by kernel_rfl, fun j t ht => ?_⟩
  have ha : (Tryz.f9.params.toList.all fun t => !Tryz.prog.wantsStandIn t) = true := by kernel_rfl
  rw [List.all_eq_true] at ha
  have := ha t (by rw [← Array.getElem?_toList] at ht; exact List.mem_of_getElem? ht)
  have h2 : Tryz.prog.wantsStandIn t = false := by simpa using this
  exact h2
theorem shakeJust_card : Rows.ShakeJustCardSaid :=
  Claim7.holds_tied_plain_at .later [] _ _ _ _ Cc (fun _ h => by cases h) (by kernel_rfl) (fun _ h => by cases h) shakeJust_row_tie rfl ⟨rfl, rfl⟩ (by kernel_rfl) rfl R0 (by kernel_rfl)
#print axioms shakeJust_card
end Go.Proofs.YtmgfanhcdfobhaaGreatDoor
