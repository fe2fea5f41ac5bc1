import Derived.Test.YtmgfanhcdfobhaaGreatDoorPkShakeOver4
set_option linter.unusedSimpArgs false
set_option linter.unusedVariables false
set_option linter.unusedSectionVars false
namespace Go.Proofs.YtmgfanhcdfobhaaGreatDoor
open Go.RowKit
def Zj (b : Int → (List UInt8) → (List UInt8) → (List UInt8) → Bool → Int → Int → Option (Bool)) (c : Int) (a : (Int × (List UInt8) × (List UInt8) × Int × Int × Bool × Int × (List UInt8) × (List UInt8) × (List UInt8) × Bool)) (d : Int) : Option (Bool) :=
  (b a.2.2.2.2.2.2.1 a.2.2.2.2.2.2.2.1 a.2.2.2.2.2.2.2.2.1 a.2.2.2.2.2.2.2.2.2.1 a.2.2.2.2.2.2.2.2.2.2 d (IntKind.wrap .i64 (c + 1)))
def Qk (b : Int → (List UInt8) → (List UInt8) → (List UInt8) → Bool → Int → Int → Option (Bool)) (c : Int) (d : Int) (a : (Int × (List UInt8) × (List UInt8) × Int × Int × Bool × Int × (List UInt8) × (List UInt8) × (List UInt8) × Bool)) (e : Bool) : Option (Bool) :=
  (cond e (some (false)) (cond a.2.2.2.2.2.1 (Zj b d a (IntKind.wrap .i64 (c + 1))) (Zj b d a c)))
def V2 (b : Int → (List UInt8) → (List UInt8) → (List UInt8) → Bool → Int → Int → Option (Bool)) (a : Bool) : Option (Bool) :=
  (some (a))
def Vo (d : Int → (List UInt8) → (List UInt8) → (List UInt8) → Bool → Int → Int → Option (Bool)) (f : (List Qg)) (g : (List (Int × Int × (List UInt8) × (List UInt8) × Int × Int × Int × (List UInt8)))) (q : (Bool)) (b : (Int × Int × Int × Int × U1)) (i : Int) (j : (List UInt8)) (k : (List UInt8)) (l : (List UInt8)) (m : Bool) (e : Int) (c : Int) : Option (Bool) :=
  (cond (decide (c < ((List.length g : Nat) : Int))) ((Zc b.1 b.2.1 b.2.2.1 b.2.2.2.1 f b.2.2.2.2 i j k l m).bind fun n => ((idx g c).bind fun h => ((idx g c).bind fun r => ((idx g c).bind fun s => ((Zb b.1 b.2.1 b.2.2.1 b.2.2.2.1 f b.2.2.2.2 i j k l m h.2.1 h.2.2.1 h.2.2.2.1 h.2.2.2.2.1 h.2.2.2.2.2.1 r.2.2.2.2.2.2.1 s.2.2.2.2.2.2.2).bind fun a => (cond (a.2.2.2.2.2.1 == n) (Qk d e c a true) (cond n ((Zc b.1 b.2.1 b.2.2.1 b.2.2.2.1 f b.2.2.2.2 a.2.2.2.2.2.2.1 a.2.2.2.2.2.2.2.1 a.2.2.2.2.2.2.2.2.1 a.2.2.2.2.2.2.2.2.2.1 a.2.2.2.2.2.2.2.2.2.2).bind fun t => (cond (!t) (Qk d e c a true) (cond a.2.2.2.2.2.1 ((Zc b.1 b.2.1 b.2.2.1 b.2.2.2.1 f b.2.2.2.2 a.2.2.2.2.2.2.1 a.2.2.2.2.2.2.2.1 a.2.2.2.2.2.2.2.2.1 a.2.2.2.2.2.2.2.2.2.1 a.2.2.2.2.2.2.2.2.2.2).bind fun o => (cond (a.1 == 4) (cond (!(o == true)) (Qk d e c a true) (cond (!a.2.2.2.2.2.1) (Qk d e c a (!((a.1 == 0) && ((a.2.1 == ([] : List UInt8)) && ((a.2.2.1 == ([] : List UInt8)) && ((a.2.2.2.1 == 0) && (a.2.2.2.2.1 == 0))))))) (Qk d e c a false))) (cond (!(o == (a.1 == 5))) (Qk d e c a true) (cond (!a.2.2.2.2.2.1) (Qk d e c a (!((a.1 == 0) && ((a.2.1 == ([] : List UInt8)) && ((a.2.2.1 == ([] : List UInt8)) && ((a.2.2.2.1 == 0) && (a.2.2.2.2.1 == 0))))))) (Qk d e c a false))))) (cond (!a.2.2.2.2.2.1) (Qk d e c a (!((a.1 == 0) && ((a.2.1 == ([] : List UInt8)) && ((a.2.2.1 == ([] : List UInt8)) && ((a.2.2.2.1 == 0) && (a.2.2.2.2.1 == 0))))))) (Qk d e c a false))))) (cond a.2.2.2.2.2.1 ((Zc b.1 b.2.1 b.2.2.1 b.2.2.2.1 f b.2.2.2.2 a.2.2.2.2.2.2.1 a.2.2.2.2.2.2.2.1 a.2.2.2.2.2.2.2.2.1 a.2.2.2.2.2.2.2.2.2.1 a.2.2.2.2.2.2.2.2.2.2).bind fun p => (cond (a.1 == 4) (cond (!(p == true)) (Qk d e c a true) (cond (!a.2.2.2.2.2.1) (Qk d e c a (!((a.1 == 0) && ((a.2.1 == ([] : List UInt8)) && ((a.2.2.1 == ([] : List UInt8)) && ((a.2.2.2.1 == 0) && (a.2.2.2.2.1 == 0))))))) (Qk d e c a false))) (cond (!(p == (a.1 == 5))) (Qk d e c a true) (cond (!a.2.2.2.2.2.1) (Qk d e c a (!((a.1 == 0) && ((a.2.1 == ([] : List UInt8)) && ((a.2.2.1 == ([] : List UInt8)) && ((a.2.2.2.1 == 0) && (a.2.2.2.2.1 == 0))))))) (Qk d e c a false))))) (cond (!a.2.2.2.2.2.1) (Qk d e c a (!((a.1 == 0) && ((a.2.1 == ([] : List UInt8)) && ((a.2.2.1 == ([] : List UInt8)) && ((a.2.2.2.1 == 0) && (a.2.2.2.2.1 == 0))))))) (Qk d e c a false)))))))))) (cond q (cond (decide (e ≤ 2)) (V2 d (decide (e ≤ ((List.length g : Nat) : Int)))) (V2 d false)) (V2 d false)))
def Q2 (a : (List Qg)) (b : (List (Int × Int × (List UInt8) × (List UInt8) × Int × Int × Int × (List UInt8)))) (c : (Bool)) (d : (Int × Int × Int × Int × U1)) : Nat → Int → (List UInt8) → (List UInt8) → (List UInt8) → Bool → Int → Int → Option (Bool)
  | 0, _, _, _, _, _, _, _ => none
  | f + 1, e, g, h, i, j, k, l => Vo  (Q2 a b c d f) a b c d e g h i j k l
def Vx (c : (List Qg)) (e : (List (Int × Int × (List UInt8) × (List UInt8) × Int × Int × Int × (List UInt8)))) (d : (Bool)) (a : (Int × Int × Int × Int × U1)) (f : Bool) : Option (Bool) :=
  (cond f (some (d)) ((Uv a.1 a.2.1 a.2.2.1 a.2.2.2.1 c a.2.2.2.2).bind fun b => (Q2 c e d a Z1 b.1 b.2.1 b.2.2.1 b.2.2.2.1 b.2.2.2.2 0 0)))
def Xz (d : Int) (e : Int) (f : Int) (g : Int) (a : (List Qg)) (b : (List (Int × Int × (List UInt8) × (List UInt8) × Int × Int × Int × (List UInt8)))) : Option (Bool) :=
  ((Yh ).bind fun c => ((J9 d e f g a).bind fun i => (optE i (some (c)) (fun h => ((Yw d e f g a).bind fun j => (cond j (Vx a b c h true) ((Y4 b).bind fun k => (Vx a b c h k))))))))
set_option maxRecDepth 100000 in
set_option maxHeartbeats 4000000 in
theorem Nd (A6 : Option Addr) (c7 : Nat) (b0 : Option Addr) (b1 : Nat) (f1 : Int) (f2 : Int) (f3 : Int) (f4 : Int) (d9 : (List Vi)) (a9 : (List (Int × Int × (List UInt8) × (List UInt8) × Int × Int × Int × (List UInt8)))) (w0 : World) (hL : Db w0) (b6 : (dDS Ul Bu).ok w0 (A6, c7, d9)) (d1 : RdT (Qb (Qd .i64) (Qb (Qd .i64) (Qb Q5 (Qb Q5 (Qb (Qd .i64) (Qb (Qd .i64) (Qb (Qd .i64) Q5))))))) w0 b0 b1 a9) (r : (Bool)) (H : Xz f1 f2 f3 f4 (List.map stT d9) a9 = some r) :
  Calls Tryz.prog 10 #[(.agg #[(.int .i64 f1), (.int .i64 f2), (.int .i64 f3), (.int .i64 f4), (.slice A6 (List.length (List.map stT d9)) c7)]), (.slice b0 (List.length a9) b1)] w0 (fun e w' => e = .returned (.bool r) ∧ SP [] w0 w' []) := by
 unfold Xz at H
 refine Qw (n := 109) Tryz.func10 K K K ?_
 have s8 := Q8 [] w0
 refine aQ ?_
 refine aR ?_
 refine iS 1 ?_
 refine Vz (t := 24) (x := (.tmp 0)) (v := (.agg #[(.int .i64 f1), (.int .i64 f2), (.int .i64 f3), (.int .i64 f4), (.slice A6 (List.length (List.map stT d9)) c7)])) (d := (some 2)) (k := 0) K rfl K s8 ?_
 intro l7 s9 l8
 refine iR 1 2 [(4, (.bool false))] ?_
 refine iF ?_
 refine aQ ?_
 refine aR ?_
 obtain ⟨b2, t0, H⟩ := Qf H
 refine iS 1 ?_
 refine cF 31 #[] #[] 13 Tryz.call31 (Gq   s9 (Z6 hL (SP.keeps l8)) b2 t0) ?_
 rintro e l9 ⟨rfl, m0⟩
 refine ⟨_, rfl, ?_⟩
 have f5 := SP.call l8 m0
 clear m0
 refine iR 1 2 [(5, (.bool b2))] ?_
 refine iF ?_
 refine aQ ?_
 refine aR ?_
 refine iS 1 ?_
 refine sL 24 2 l7 0 0 (.agg #[(.int .i64 f1), (.int .i64 f2), (.int .i64 f3), (.int .i64 f4), (.slice A6 (List.length (List.map stT d9)) c7)]) 14 f5 rfl ?_
 obtain ⟨t1, m1, H⟩ := Qf H
 rcases t1 with _ | f
 ·have H := optN H
  refine iS 2 ?_
  refine cF 18 #[(.tmp 14)] #[24] 15 Tryz.call18 (J6 A6 c7 f1 f2 f3 f4 d9 l9 (Z6 hL (SP.keeps f5)) (Dp.sp b6 f5) none m1) ?_
  rintro e w27 ⟨rfl, m2⟩
  refine ⟨_, rfl, ?_⟩
  have t2 := SP.call f5 m2
  clear m2
  refine iR 1 3 [(6, (.pointer none))] ?_
  refine iF ?_
  refine aQ ?_
  refine aQ ?_
  refine aR ?_
  refine iR 10 10 [(16, (.pointer none)), (17, (.bool true)), (18, (.bool true)), (19, undef), (20, undef), (21, (.bool true)), (22, (.bool true)), (23, undef), (24, undef), (25, (.bool true))] ?_
  refine iF ?_
  refine Zu K (o := (.tmp 25)) K (b := true) K (fun m3 => ?_) (fun m3 => ?_)
  rotate_left
  ·cases m3
  refine aQ ?_
  refine aR ?_
  refine iR 2 2 [(26, (.bool b2)), (4, (.bool b2))] ?_
  refine iF ?_
  refine At.ret K ?_
  refine ⟨(.bool b2), K, ?_⟩
  obtain rfl := Qi H
  exact ⟨rfl, SP.sel t2 [] rfl rfl⟩
 ·have H := optS H
  refine iS 2 ?_
  refine cF 18 #[(.tmp 14)] #[24] 15 Tryz.call18 (J6 A6 c7 f1 f2 f3 f4 d9 l9 (Z6 hL (SP.keeps f5)) (Dp.sp b6 f5) (some f) m1) ?_
  rintro e w32 ⟨s, u, rfl, m4⟩
  refine ⟨_, rfl, ?_⟩
  have h6 := SP.call f5 m4
  clear m4
  refine iR 1 3 [(6, (pt s 0))] ?_
  refine iF ?_
  refine aQ ?_
  refine aQ ?_
  refine At.join (fun ρ w => ∃ (f6 : Bool), Zo ρ [(1, (.slice b0 (List.length a9) b1)), (5, (.bool b2)), (6, (pt s 0)), (25, (.bool f6))] ∧ SP [] w0 w [Qj s 79 #[(.int .i64 f.1), (.int .i64 f.2.1), (.int .i64 f.2.2.1), (.int .i64 f.2.2.2.1), (.slice A6 (List.length (List.map stT d9)) c7), (.map (some u))], Qz u f.2.2.2.2] ∧ Vx (List.map stT d9) a9 b2 f f6 = some r) ?_ ?_
  ·refine aR ?_
   refine iR 3 3 [(16, (pt s 0)), (17, (.bool false)), (18, (.bool false))] ?_
   refine iS 4 ?_
   refine sL 24 2 l7 0 0 (.agg #[(.int .i64 f1), (.int .i64 f2), (.int .i64 f3), (.int .i64 f4), (.slice A6 (List.length (List.map stT d9)) c7)]) 19 h6 rfl ?_
   obtain ⟨g7, t3, H⟩ := Qf H
   refine iS 5 ?_
   refine cF 16 #[(.tmp 19)] #[24] 20 Tryz.call16 (Nz A6 c7 f1 f2 f3 f4 d9 w32 (Dp.sp b6 h6) g7 t3) ?_
   rintro e t4 ⟨rfl, m5⟩
   refine ⟨_, rfl, ?_⟩
   have h7 := SP.call h6 m5
   clear m5
   refine iR 2 7 [(21, (.bool g7)), (22, (.bool g7))] ?_
   refine In.guard (t := 22) (b := g7) K (fun h8 => ?_) (fun h8 => ?_)
   ·have H := ct H h8
    refine iR 3 10 [(23, undef), (24, undef), (25, (.bool true))] ?_
    refine iF ?_
    exact ⟨true, ⟨K, K, K, K, trivial⟩, SP.sel h7 [1, 2] rfl rfl, H⟩
   ·have H := cf H h8
    refine iR 1 8 [(23, (.slice b0 (List.length a9) b1))] ?_
    obtain ⟨h9, t5, H⟩ := Qf H
    refine iS 9 ?_
    refine cF 32 #[(.tmp 23)] #[58] 24 Tryz.call32 (N8 b0 b1 a9 t4 (RdT.sp d1 h7) h9 t5) ?_
    rintro e am2 ⟨rfl, m6⟩
    refine ⟨_, rfl, ?_⟩
    have t6 := SP.call h7 m6
    clear m6
    refine iR 1 10 [(25, (.bool h9))] ?_
    refine iF ?_
    exact ⟨h9, ⟨K, K, K, K, trivial⟩, SP.sel t6 [1, 2] rfl rfl, H⟩
  ·rintro ρ t7 ⟨f6, hk, g8, H⟩
   unfold Vx at H
   first | refine At.known [(1, (.slice b0 (List.length a9) b1)), (5, (.bool b2)), (6, (pt s 0)), (25, (.bool f6))] hk ?_ | rw [← Vd (l := [(1, (.slice b0 (List.length a9) b1)), (5, (.bool b2)), (6, (pt s 0)), (25, (.bool f6))]) hk]
   refine Zu K (o := (.tmp 25)) K (b := f6) K (fun i0 => ?_) (fun i0 => ?_)
   ·have H := ct H i0
    refine aQ ?_
    refine aR ?_
    refine iR 2 2 [(26, (.bool b2)), (4, (.bool b2))] ?_
    refine iF ?_
    refine At.ret K ?_
    refine ⟨(.bool b2), K, ?_⟩
    obtain rfl := Qi H
    exact ⟨rfl, SP.sel g8 [] rfl rfl⟩
   ·have H := cf H i0
    refine At.skip K ?_
    refine aQ ?_
    refine aR ?_
    refine iR 1 1 [(27, (pt s 0))] ?_
    obtain ⟨d2, t8, H⟩ := Qf H
    refine iS 2 ?_
    refine cF 33 #[(.tmp 27)] #[29] 28 Tryz.call33 (U9 s A6 c7 u f.1 f.2.1 f.2.2.1 f.2.2.2.1 d9 f.2.2.2.2 t7 (Ze g8 [0, 1] rfl rfl) (fun w hm => Dp.mono _ (Vk g8 (l := [0, 1]) rfl hm) b6) d2 t8) ?_
    rintro e t9 ⟨m, rfl, m7⟩
    refine ⟨_, rfl, ?_⟩
    have u0 : SP [] w0 t9 [Qj m 95 #[(pt s 0), (Q4 d2.1 m), (.string ⟨List.toArray d2.2.1⟩), (.string ⟨List.toArray d2.2.2.1⟩), (.string ⟨List.toArray d2.2.2.2.1⟩), (.bool d2.2.2.2.2)], Qj s 79 #[(.int .i64 f.1), (.int .i64 f.2.1), (.int .i64 f.2.2.1), (.int .i64 f.2.2.2.1), (.slice A6 (List.length (List.map stT d9)) c7), (.map (some u))], Qz u f.2.2.2.2] := Va g8 [0, 1] [] rfl rfl m7 rfl
    clear m7
    refine iR 1 3 [(7, (pt m 0))] ?_
    refine iF ?_
    refine aQ ?_
    refine aQ ?_
    refine aR ?_
    refine iR 2 2 [(29, (pt m 0)), (30, (.bool false))] ?_
    refine iF ?_
    refine Zu K (o := (.tmp 30)) K (b := false) K (fun m8 => ?_) (fun m8 => ?_)
    ·cases m8
    refine At.skip K ?_
    refine aQ ?_
    refine aR ?_
    refine iR 1 1 [(8, (.int .i64 0))] ?_
    refine iF ?_
    refine aQ ?_
    refine aQ ?_
    refine aR ?_
    refine iR 1 1 [(9, (.int .i64 0))] ?_
    refine iF ?_
    refine X4 K (id := 0) K ?_
    refine Nh K (fun f7 ρ w => ∃ (d3 : Int) (d4 : (List UInt8)) (d5 : (List UInt8)) (d6 : (List UInt8)) (d7 : Bool) (b4 : Int) (a4 : Int), Zo ρ [(1, (.slice b0 (List.length a9) b1)), (5, (.bool b2)), (7, (pt m 0)), (8, (.int .i64 b4)), (9, (.int .i64 a4))] ∧ SP [] w0 w [Qj m 95 #[(pt s 0), (Q4 d3 m), (.string ⟨List.toArray d4⟩), (.string ⟨List.toArray d5⟩), (.string ⟨List.toArray d6⟩), (.bool d7)], Qj s 79 #[(.int .i64 f.1), (.int .i64 f.2.1), (.int .i64 f.2.2.1), (.int .i64 f.2.2.2.1), (.slice A6 (List.length (List.map stT d9)) c7), (.map (some u))], Qz u f.2.2.2.2] ∧ Q2 (List.map stT d9) a9 b2 f f7 d3 d4 d5 d6 d7 b4 a4 = some r) (by rintro ρ w ⟨d3, d4, d5, d6, d7, b4, a4, hk, hs, H⟩; cases H) ?_ Z1 ?_
    ·rintro f7 ρ u1 ⟨d3, d4, d5, d6, d7, b4, a4, hk, f8, H⟩
     refine At.known [(1, (.slice b0 (List.length a9) b1)), (5, (.bool b2)), (7, (pt m 0)), (8, (.int .i64 b4)), (9, (.int .i64 a4))] hk ?_
     replace H := (show Vo (Q2 (List.map stT d9) a9 b2 f f7) (List.map stT d9) a9 b2 f d3 d4 d5 d6 d7 b4 a4 = some r from H)
     unfold Vo at H
     refine aQ ?_
     refine aQ ?_
     refine aR ?_
     refine iR 4 4 [(31, (.int .i64 a4)), (32, (.slice b0 (List.length a9) b1)), (33, (.int .i64 ((List.length a9 : Nat) : Int))), (34, (.bool (decide (a4 < ((List.length a9 : Nat) : Int)))))] ?_
     refine iF ?_
     refine Zu K (o := (.tmp 34)) K (b := (decide (a4 < ((List.length a9 : Nat) : Int)))) K (fun i1 => ?_) (fun i1 => ?_)
     ·have H := ct H i1
      refine At.skip K ?_
      refine aQ ?_
      refine X4 K (id := 1) K ?_
      refine aQ ?_
      refine aR ?_
      refine iR 1 1 [(37, (pt m 0))] ?_
      obtain ⟨p, u2, H⟩ := Qf H
      refine iS 2 ?_
      refine cF 36 #[(.tmp 37)] #[60] 38 Tryz.call36 (Qm m s A6 c7 u f.1 f.2.1 f.2.2.1 f.2.2.2.1 d9 f.2.2.2.2 d3 d4 d5 d6 d7 u1 (Ze f8 [1, 2, 0] rfl rfl) (fun w hm => Dp.mono _ (Vk f8 (l := [1, 2, 0]) rfl hm) b6) p u2) ?_
      rintro e u3 ⟨rfl, m9⟩
      refine ⟨_, rfl, ?_⟩
      have u4 : SP [] w0 u3 [Qj s 79 #[(.int .i64 f.1), (.int .i64 f.2.1), (.int .i64 f.2.2.1), (.int .i64 f.2.2.2.1), (.slice A6 (List.length (List.map stT d9)) c7), (.map (some u))], Qz u f.2.2.2.2, Qj m 95 #[(pt s 0), (Q4 d3 m), (.string ⟨List.toArray d4⟩), (.string ⟨List.toArray d5⟩), (.string ⟨List.toArray d6⟩), (.bool d7)]] := Va f8 [1, 2, 0] [] rfl rfl m9 rfl
      clear m9
      refine iR 1 3 [(10, (.bool p))] ?_
      refine iF ?_
      refine aQ ?_
      obtain ⟨b9, g9, h1, n0, H⟩ := Q0 H
      obtain ⟨g5, h2, h3, n1, H⟩ := Q0 H
      obtain ⟨g6, h4, h5, n2, H⟩ := Q0 H
      obtain ⟨a, n3, H⟩ := Qf H
      refine aG [GEq (pt m 0), GEq (.slice b0 (List.length a9) b1), GEq (.int .i64 a4), Xg b0 (Qb (Qd .i64) (Qb (Qd .i64) (Qb Q5 (Qb Q5 (Qb (Qd .i64) (Qb (Qd .i64) (Qb (Qd .i64) Q5))))))).sz a4, GElem b0 (Qb (Qd .i64) (Qb (Qd .i64) (Qb Q5 (Qb Q5 (Qb (Qd .i64) (Qb (Qd .i64) (Qb (Qd .i64) Q5))))))).sz a4 1, GEq (.agg #[(.int .i64 b9.2.1), (.string ⟨List.toArray b9.2.2.1⟩), (.string ⟨List.toArray b9.2.2.2.1⟩), (.int .i64 b9.2.2.2.2.1), (.int .i64 b9.2.2.2.2.2.1)]), GEq (.slice b0 (List.length a9) b1), GEq (.int .i64 a4), Xg b0 (Qb (Qd .i64) (Qb (Qd .i64) (Qb Q5 (Qb Q5 (Qb (Qd .i64) (Qb (Qd .i64) (Qb (Qd .i64) Q5))))))).sz a4, GElem b0 (Qb (Qd .i64) (Qb (Qd .i64) (Qb Q5 (Qb Q5 (Qb (Qd .i64) (Qb (Qd .i64) (Qb (Qd .i64) Q5))))))).sz a4 6, GEq (.int .i64 g5.2.2.2.2.2.2.1), GEq (.slice b0 (List.length a9) b1), GEq (.int .i64 a4), Xg b0 (Qb (Qd .i64) (Qb (Qd .i64) (Qb Q5 (Qb Q5 (Qb (Qd .i64) (Qb (Qd .i64) (Qb (Qd .i64) Q5))))))).sz a4, GElem b0 (Qb (Qd .i64) (Qb (Qd .i64) (Qb Q5 (Qb Q5 (Qb (Qd .i64) (Qb (Qd .i64) (Qb (Qd .i64) Q5))))))).sz a4 7, GEq (.string ⟨List.toArray g6.2.2.2.2.2.2.2⟩), GEq (.tuple #[(.agg #[(.int .i64 a.1), (.string ⟨List.toArray a.2.1⟩), (.string ⟨List.toArray a.2.2.1⟩), (.int .i64 a.2.2.2.1), (.int .i64 a.2.2.2.2.1)]), (.bool a.2.2.2.2.2.1)]), GEq (.tuple #[(.agg #[(.int .i64 a.1), (.string ⟨List.toArray a.2.1⟩), (.string ⟨List.toArray a.2.2.1⟩), (.int .i64 a.2.2.2.1), (.int .i64 a.2.2.2.2.1)]), (.bool a.2.2.2.2.2.1)]), GEq (.agg #[(.int .i64 a.1), (.string ⟨List.toArray a.2.1⟩), (.string ⟨List.toArray a.2.2.1⟩), (.int .i64 a.2.2.2.1), (.int .i64 a.2.2.2.2.1)]), GEq (.bool a.2.2.2.2.2.1), Ck, Ck, GEq (.bool a.2.2.2.2.2.1)] [16, 20, 21] [([], fun vs w => VL vs [] ∧ SP [] w0 w [Qj s 79 #[(.int .i64 f.1), (.int .i64 f.2.1), (.int .i64 f.2.2.1), (.int .i64 f.2.2.2.1), (.slice A6 (List.length (List.map stT d9)) c7), (.map (some u))], Qz u f.2.2.2.2, Qj m 95 #[(pt s 0), (Q4 d3 m), (.string ⟨List.toArray d4⟩), (.string ⟨List.toArray d5⟩), (.string ⟨List.toArray d6⟩), (.bool d7)]]), ([16], fun vs w => VL vs [(.tuple #[(.agg #[(.int .i64 a.1), (.string ⟨List.toArray a.2.1⟩), (.string ⟨List.toArray a.2.2.1⟩), (.int .i64 a.2.2.2.1), (.int .i64 a.2.2.2.2.1)]), (.bool a.2.2.2.2.2.1)])] ∧ SP [] w0 w [Qj s 79 #[(.int .i64 f.1), (.int .i64 f.2.1), (.int .i64 f.2.2.1), (.int .i64 f.2.2.2.1), (.slice A6 (List.length (List.map stT d9)) c7), (.map (some u))], Qz u f.2.2.2.2, Qj m 95 #[(pt s 0), (Q4 a.2.2.2.2.2.2.1 m), (.string ⟨List.toArray a.2.2.2.2.2.2.2.1⟩), (.string ⟨List.toArray a.2.2.2.2.2.2.2.2.1⟩), (.string ⟨List.toArray a.2.2.2.2.2.2.2.2.2.1⟩), (.bool a.2.2.2.2.2.2.2.2.2.2)]]), ([20], fun vs w => ∃ (d0 : Nat), VL vs [(pt d0 0)] ∧ SP [] w0 w [Qj s 79 #[(.int .i64 f.1), (.int .i64 f.2.1), (.int .i64 f.2.2.1), (.int .i64 f.2.2.2.1), (.slice A6 (List.length (List.map stT d9)) c7), (.map (some u))], Qz u f.2.2.2.2, Qj m 95 #[(pt s 0), (Q4 d3 m), (.string ⟨List.toArray d4⟩), (.string ⟨List.toArray d5⟩), (.string ⟨List.toArray d6⟩), (.bool d7)], Qj d0 63 #[(.int .i64 0), (.string ⟨List.toArray ([] : List UInt8)⟩), (.string ⟨List.toArray ([] : List UInt8)⟩), (.int .i64 0), (.int .i64 0)]]), ([16, 20], fun vs w => ∃ (f9 : Nat), VL vs [(.tuple #[(.agg #[(.int .i64 a.1), (.string ⟨List.toArray a.2.1⟩), (.string ⟨List.toArray a.2.2.1⟩), (.int .i64 a.2.2.2.1), (.int .i64 a.2.2.2.2.1)]), (.bool a.2.2.2.2.2.1)]), (pt f9 0)] ∧ SP [] w0 w [Qj s 79 #[(.int .i64 f.1), (.int .i64 f.2.1), (.int .i64 f.2.2.1), (.int .i64 f.2.2.2.1), (.slice A6 (List.length (List.map stT d9)) c7), (.map (some u))], Qz u f.2.2.2.2, Qj m 95 #[(pt s 0), (Q4 a.2.2.2.2.2.2.1 m), (.string ⟨List.toArray a.2.2.2.2.2.2.2.1⟩), (.string ⟨List.toArray a.2.2.2.2.2.2.2.2.1⟩), (.string ⟨List.toArray a.2.2.2.2.2.2.2.2.2.1⟩), (.bool a.2.2.2.2.2.2.2.2.2.2)], Qj f9 63 #[(.int .i64 0), (.string ⟨List.toArray ([] : List UInt8)⟩), (.string ⟨List.toArray ([] : List UInt8)⟩), (.int .i64 0), (.int .i64 0)]]), ([16, 20, 21], fun vs w => ∃ (q : Nat), VL vs [(.tuple #[(.agg #[(.int .i64 a.1), (.string ⟨List.toArray a.2.1⟩), (.string ⟨List.toArray a.2.2.1⟩), (.int .i64 a.2.2.2.1), (.int .i64 a.2.2.2.2.1)]), (.bool a.2.2.2.2.2.1)]), (pt q 0), undef] ∧ SP [] w0 w [Qj s 79 #[(.int .i64 f.1), (.int .i64 f.2.1), (.int .i64 f.2.2.1), (.int .i64 f.2.2.2.1), (.slice A6 (List.length (List.map stT d9)) c7), (.map (some u))], Qz u f.2.2.2.2, Qj m 95 #[(pt s 0), (Q4 a.2.2.2.2.2.2.1 m), (.string ⟨List.toArray a.2.2.2.2.2.2.2.1⟩), (.string ⟨List.toArray a.2.2.2.2.2.2.2.2.1⟩), (.string ⟨List.toArray a.2.2.2.2.2.2.2.2.2.1⟩), (.bool a.2.2.2.2.2.2.2.2.2.2)], Qj q 63 #[(.int .i64 a.1), (.string ⟨List.toArray a.2.1⟩), (.string ⟨List.toArray a.2.2.1⟩), (.int .i64 a.2.2.2.1), (.int .i64 a.2.2.2.2.1)]])] 23 4 ⟨trivial, SP.drew u4⟩ ?_ ?_
      iterate 23 refine And.intro ?_ ?_
      exact trivial
      ·exact oV (hC (hS 7 (pt m 0)) (h0)) (pt m 0)
      ·exact oV (hC (hS 1 (.slice b0 (List.length a9) b1)) (h0)) (.slice b0 (List.length a9) b1)
      ·exact oV (hC (hS 9 (.int .i64 a4)) (h0)) (.int .i64 a4)
      ·refine Owe.light K [0, 2] K (Qe ?_ (Qe ?_ Q9))
       ·rintro ρ' w' hs hah ⟨am3, u5⟩
        refine kM (kc (kA hah 1 41) (kc (kA hah 2 42) k0)) fun hkn => ?_
        refine V5 (e := (Qb (Qd .i64) (Qb (Qd .i64) (Qb Q5 (Qb Q5 (Qb (Qd .i64) (Qb (Qd .i64) (Qb (Qd .i64) Q5)))))))) (l := a9) (A := b0) (c := b1) (T := 58) (E := 67) (x := (.tmp 41)) (ix := (.tmp 42)) (ki := .i64) (iz := a4) (d := (some 43)) (k := 3) K rfl K K K K (RdT.sp d1 u5) g9 h1 ?_
        intro u6 u7 u8 am4 hc3765
        exact ⟨rfl, _, Qa hkn, ⟨u6, u7, u8, rfl⟩⟩
       ·rintro ρ' w' hs hah ⟨d0, ⟨am5, -⟩, u9⟩
        refine kM (kc (kA hah 1 41) (kc (kA hah 2 42) k0)) fun hkn => ?_
        refine V5 (e := (Qb (Qd .i64) (Qb (Qd .i64) (Qb Q5 (Qb Q5 (Qb (Qd .i64) (Qb (Qd .i64) (Qb (Qd .i64) Q5)))))))) (l := a9) (A := b0) (c := b1) (T := 58) (E := 67) (x := (.tmp 41)) (ix := (.tmp 42)) (ki := .i64) (iz := a4) (d := (some 43)) (k := 3) K rfl K K K K (RdT.sp d1 u9) g9 h1 ?_
        intro v0 v1 v2 am6 hc3773
        exact ⟨rfl, _, Qa hkn, ⟨v0, v1, v2, rfl⟩⟩
      ·refine Owe.light K [0, 2] K (Qe ?_ (Qe ?_ Q9))
       ·rintro ρ' w' hs hah ⟨am7, am8⟩
        obtain ⟨n4, n5, v3, i2⟩ := hah 3 43 K
        refine kM (kc i2 k0) fun hkn => ?_
        refine Qn.run (k := 4) (v := (.pointer (some ⟨n4, (n5 + Int.toNat a4 * (Qb (Qd .i64) (Qb (Qd .i64) (Qb Q5 (Qb Q5 (Qb (Qd .i64) (Qb (Qd .i64) (Qb (Qd .i64) Q5))))))).sz + 1), none⟩))) K ?_
        exact ⟨rfl, _, Qa hkn, ⟨n4, n5, v3, rfl⟩⟩
       ·rintro ρ' w' hs hah ⟨d0, ⟨am9, -⟩, an0⟩
        obtain ⟨n6, n7, v4, i2⟩ := hah 3 43 K
        refine kM (kc i2 k0) fun hkn => ?_
        refine Qn.run (k := 4) (v := (.pointer (some ⟨n6, (n7 + Int.toNat a4 * (Qb (Qd .i64) (Qb (Qd .i64) (Qb Q5 (Qb Q5 (Qb (Qd .i64) (Qb (Qd .i64) (Qb (Qd .i64) Q5))))))).sz + 1), none⟩))) K ?_
        exact ⟨rfl, _, Qa hkn, ⟨n6, n7, v4, rfl⟩⟩
      ·refine Owe.light K [0, 2] K (Qe ?_ (Qe ?_ Q9))
       ·rintro ρ' w' hs hah ⟨an1, v5⟩
        obtain ⟨v6, v7, v8, i3⟩ := hah 4 44 K
        refine kM (kc i3 k0) fun hkn => ?_
        refine Qn.cells (t := 63) (x := (.tmp 44)) (b := v6) (off := (v7 + Int.toNat a4 * (Qb (Qd .i64) (Qb (Qd .i64) (Qb Q5 (Qb Q5 (Qb (Qd .i64) (Qb (Qd .i64) (Qb (Qd .i64) Q5))))))).sz + 1)) (xs := [(.int .i64 b9.2.1), (.string ⟨List.toArray b9.2.2.1⟩), (.string ⟨List.toArray b9.2.2.2.1⟩), (.int .i64 b9.2.2.2.2.1), (.int .i64 b9.2.2.2.2.2.1)]) (d := (some 45)) (k := 5) K rfl K K K (Rs (e := (Qb (Qd .i64) (Qb (Qd .i64) (Qb Q5 (Qb Q5 (Qb (Qd .i64) (Qb (Qd .i64) (Qb (Qd .i64) Q5)))))))) (Qr (RdT.sp d1 v5) v8 g9 h1) n0 (j := 1) rfl) ?_
        exact eK hkn
       ·rintro ρ' w' hs hah ⟨d0, ⟨an2, -⟩, v9⟩
        obtain ⟨w1, w2, w3, i3⟩ := hah 4 44 K
        refine kM (kc i3 k0) fun hkn => ?_
        refine Qn.cells (t := 63) (x := (.tmp 44)) (b := w1) (off := (w2 + Int.toNat a4 * (Qb (Qd .i64) (Qb (Qd .i64) (Qb Q5 (Qb Q5 (Qb (Qd .i64) (Qb (Qd .i64) (Qb (Qd .i64) Q5))))))).sz + 1)) (xs := [(.int .i64 b9.2.1), (.string ⟨List.toArray b9.2.2.1⟩), (.string ⟨List.toArray b9.2.2.2.1⟩), (.int .i64 b9.2.2.2.2.1), (.int .i64 b9.2.2.2.2.2.1)]) (d := (some 45)) (k := 5) K rfl K K K (Rs (e := (Qb (Qd .i64) (Qb (Qd .i64) (Qb Q5 (Qb Q5 (Qb (Qd .i64) (Qb (Qd .i64) (Qb (Qd .i64) Q5)))))))) (Qr (RdT.sp d1 v9) w3 g9 h1) n0 (j := 1) rfl) ?_
        exact eK hkn
      ·exact oV (hC (hS 1 (.slice b0 (List.length a9) b1)) (h0)) (.slice b0 (List.length a9) b1)
      ·exact oV (hC (hS 9 (.int .i64 a4)) (h0)) (.int .i64 a4)
      ·refine Owe.light K [0, 2] K (Qe ?_ (Qe ?_ Q9))
       ·rintro ρ' w' hs hah ⟨an3, w4⟩
        refine kM (kc (kA hah 6 46) (kc (kA hah 7 47) k0)) fun hkn => ?_
        refine V5 (e := (Qb (Qd .i64) (Qb (Qd .i64) (Qb Q5 (Qb Q5 (Qb (Qd .i64) (Qb (Qd .i64) (Qb (Qd .i64) Q5)))))))) (l := a9) (A := b0) (c := b1) (T := 58) (E := 67) (x := (.tmp 46)) (ix := (.tmp 47)) (ki := .i64) (iz := a4) (d := (some 48)) (k := 8) K rfl K K K K (RdT.sp d1 w4) h2 h3 ?_
        intro w5 w6 w7 an4 hc3802
        exact ⟨rfl, _, Qa hkn, ⟨w5, w6, w7, rfl⟩⟩
       ·rintro ρ' w' hs hah ⟨d0, ⟨an5, -⟩, w8⟩
        refine kM (kc (kA hah 6 46) (kc (kA hah 7 47) k0)) fun hkn => ?_
        refine V5 (e := (Qb (Qd .i64) (Qb (Qd .i64) (Qb Q5 (Qb Q5 (Qb (Qd .i64) (Qb (Qd .i64) (Qb (Qd .i64) Q5)))))))) (l := a9) (A := b0) (c := b1) (T := 58) (E := 67) (x := (.tmp 46)) (ix := (.tmp 47)) (ki := .i64) (iz := a4) (d := (some 48)) (k := 8) K rfl K K K K (RdT.sp d1 w8) h2 h3 ?_
        intro w9 x0 x1 an6 hc3810
        exact ⟨rfl, _, Qa hkn, ⟨w9, x0, x1, rfl⟩⟩
      ·refine Owe.light K [0, 2] K (Qe ?_ (Qe ?_ Q9))
       ·rintro ρ' w' hs hah ⟨an7, an8⟩
        obtain ⟨n8, n9, x2, i4⟩ := hah 8 48 K
        refine kM (kc i4 k0) fun hkn => ?_
        refine Qn.run (k := 9) (v := (.pointer (some ⟨n8, (n9 + Int.toNat a4 * (Qb (Qd .i64) (Qb (Qd .i64) (Qb Q5 (Qb Q5 (Qb (Qd .i64) (Qb (Qd .i64) (Qb (Qd .i64) Q5))))))).sz + 6), none⟩))) K ?_
        exact ⟨rfl, _, Qa hkn, ⟨n8, n9, x2, rfl⟩⟩
       ·rintro ρ' w' hs hah ⟨d0, ⟨an9, -⟩, ao0⟩
        obtain ⟨o0, o1, x3, i4⟩ := hah 8 48 K
        refine kM (kc i4 k0) fun hkn => ?_
        refine Qn.run (k := 9) (v := (.pointer (some ⟨o0, (o1 + Int.toNat a4 * (Qb (Qd .i64) (Qb (Qd .i64) (Qb Q5 (Qb Q5 (Qb (Qd .i64) (Qb (Qd .i64) (Qb (Qd .i64) Q5))))))).sz + 6), none⟩))) K ?_
        exact ⟨rfl, _, Qa hkn, ⟨o0, o1, x3, rfl⟩⟩
      ·refine Owe.light K [0, 2] K (Qe ?_ (Qe ?_ Q9))
       ·rintro ρ' w' hs hah ⟨ao1, x4⟩
        obtain ⟨x5, x6, x7, i5⟩ := hah 9 49 K
        refine kM (kc i5 k0) fun hkn => ?_
        refine sC 2 49 x5 (x6 + Int.toNat a4 * (Qb (Qd .i64) (Qb (Qd .i64) (Qb Q5 (Qb Q5 (Qb (Qd .i64) (Qb (Qd .i64) (Qb (Qd .i64) Q5))))))).sz + 6) (.int .i64 g5.2.2.2.2.2.2.1) 50 (Qx (e := (Qb (Qd .i64) (Qb (Qd .i64) (Qb Q5 (Qb Q5 (Qb (Qd .i64) (Qb (Qd .i64) (Qb (Qd .i64) Q5)))))))) (Qr (RdT.sp d1 x4) x7 h2 h3) n1 (j := 6) rfl) ?_
        exact eK hkn
       ·rintro ρ' w' hs hah ⟨d0, ⟨ao2, -⟩, x8⟩
        obtain ⟨x9, y0, y1, i5⟩ := hah 9 49 K
        refine kM (kc i5 k0) fun hkn => ?_
        refine sC 2 49 x9 (y0 + Int.toNat a4 * (Qb (Qd .i64) (Qb (Qd .i64) (Qb Q5 (Qb Q5 (Qb (Qd .i64) (Qb (Qd .i64) (Qb (Qd .i64) Q5))))))).sz + 6) (.int .i64 g5.2.2.2.2.2.2.1) 50 (Qx (e := (Qb (Qd .i64) (Qb (Qd .i64) (Qb Q5 (Qb Q5 (Qb (Qd .i64) (Qb (Qd .i64) (Qb (Qd .i64) Q5)))))))) (Qr (RdT.sp d1 x8) y1 h2 h3) n1 (j := 6) rfl) ?_
        exact eK hkn
      ·exact oV (hC (hS 1 (.slice b0 (List.length a9) b1)) (h0)) (.slice b0 (List.length a9) b1)
      ·exact oV (hC (hS 9 (.int .i64 a4)) (h0)) (.int .i64 a4)
      ·refine Owe.light K [0, 2] K (Qe ?_ (Qe ?_ Q9))
       ·rintro ρ' w' hs hah ⟨ao3, y2⟩
        refine kM (kc (kA hah 11 51) (kc (kA hah 12 52) k0)) fun hkn => ?_
        refine V5 (e := (Qb (Qd .i64) (Qb (Qd .i64) (Qb Q5 (Qb Q5 (Qb (Qd .i64) (Qb (Qd .i64) (Qb (Qd .i64) Q5)))))))) (l := a9) (A := b0) (c := b1) (T := 58) (E := 67) (x := (.tmp 51)) (ix := (.tmp 52)) (ki := .i64) (iz := a4) (d := (some 53)) (k := 13) K rfl K K K K (RdT.sp d1 y2) h4 h5 ?_
        intro y3 y4 y5 ao4 hc3839
        exact ⟨rfl, _, Qa hkn, ⟨y3, y4, y5, rfl⟩⟩
       ·rintro ρ' w' hs hah ⟨d0, ⟨ao5, -⟩, y6⟩
        refine kM (kc (kA hah 11 51) (kc (kA hah 12 52) k0)) fun hkn => ?_
        refine V5 (e := (Qb (Qd .i64) (Qb (Qd .i64) (Qb Q5 (Qb Q5 (Qb (Qd .i64) (Qb (Qd .i64) (Qb (Qd .i64) Q5)))))))) (l := a9) (A := b0) (c := b1) (T := 58) (E := 67) (x := (.tmp 51)) (ix := (.tmp 52)) (ki := .i64) (iz := a4) (d := (some 53)) (k := 13) K rfl K K K K (RdT.sp d1 y6) h4 h5 ?_
        intro y7 y8 y9 ao6 hc3847
        exact ⟨rfl, _, Qa hkn, ⟨y7, y8, y9, rfl⟩⟩
      ·refine Owe.light K [0, 2] K (Qe ?_ (Qe ?_ Q9))
       ·rintro ρ' w' hs hah ⟨ao7, ao8⟩
        obtain ⟨o2, o3, z0, i6⟩ := hah 13 53 K
        refine kM (kc i6 k0) fun hkn => ?_
        refine Qn.run (k := 14) (v := (.pointer (some ⟨o2, (o3 + Int.toNat a4 * (Qb (Qd .i64) (Qb (Qd .i64) (Qb Q5 (Qb Q5 (Qb (Qd .i64) (Qb (Qd .i64) (Qb (Qd .i64) Q5))))))).sz + 7), none⟩))) K ?_
        exact ⟨rfl, _, Qa hkn, ⟨o2, o3, z0, rfl⟩⟩
       ·rintro ρ' w' hs hah ⟨d0, ⟨ao9, -⟩, ap0⟩
        obtain ⟨o4, o5, z1, i6⟩ := hah 13 53 K
        refine kM (kc i6 k0) fun hkn => ?_
        refine Qn.run (k := 14) (v := (.pointer (some ⟨o4, (o5 + Int.toNat a4 * (Qb (Qd .i64) (Qb (Qd .i64) (Qb Q5 (Qb Q5 (Qb (Qd .i64) (Qb (Qd .i64) (Qb (Qd .i64) Q5))))))).sz + 7), none⟩))) K ?_
        exact ⟨rfl, _, Qa hkn, ⟨o4, o5, z1, rfl⟩⟩
      ·refine Owe.light K [0, 2] K (Qe ?_ (Qe ?_ Q9))
       ·rintro ρ' w' hs hah ⟨ap1, z2⟩
        obtain ⟨z3, z4, z5, i7⟩ := hah 14 54 K
        refine kM (kc i7 k0) fun hkn => ?_
        refine sC 9 54 z3 (z4 + Int.toNat a4 * (Qb (Qd .i64) (Qb (Qd .i64) (Qb Q5 (Qb Q5 (Qb (Qd .i64) (Qb (Qd .i64) (Qb (Qd .i64) Q5))))))).sz + 7) (.string ⟨List.toArray g6.2.2.2.2.2.2.2⟩) 55 (Qx (e := (Qb (Qd .i64) (Qb (Qd .i64) (Qb Q5 (Qb Q5 (Qb (Qd .i64) (Qb (Qd .i64) (Qb (Qd .i64) Q5)))))))) (Qr (RdT.sp d1 z2) z5 h4 h5) n2 (j := 7) rfl) ?_
        exact eK hkn
       ·rintro ρ' w' hs hah ⟨d0, ⟨ap2, -⟩, z6⟩
        obtain ⟨z7, z8, z9, i7⟩ := hah 14 54 K
        refine kM (kc i7 k0) fun hkn => ?_
        refine sC 9 54 z7 (z8 + Int.toNat a4 * (Qb (Qd .i64) (Qb (Qd .i64) (Qb Q5 (Qb Q5 (Qb (Qd .i64) (Qb (Qd .i64) (Qb (Qd .i64) Q5))))))).sz + 7) (.string ⟨List.toArray g6.2.2.2.2.2.2.2⟩) 55 (Qx (e := (Qb (Qd .i64) (Qb (Qd .i64) (Qb Q5 (Qb Q5 (Qb (Qd .i64) (Qb (Qd .i64) (Qb (Qd .i64) Q5)))))))) (Qr (RdT.sp d1 z6) z9 h4 h5) n2 (j := 7) rfl) ?_
        exact eK hkn
      ·refine Owe.heavy K [(0, 1), (2, 3)] K (Qe ⟨K, K, ?_⟩ (Qe ⟨K, K, ?_⟩ Q9))
       ·rintro ρ' w' hs hah ⟨ap3, i8⟩
        refine kM (kc (kA hah 0 40) (kc (kA hah 5 45) (kc (kA hah 10 50) (kc (kA hah 15 55) k0)))) fun hkn => ?_
        refine cF 34 #[(.tmp 40), (.tmp 45), (.tmp 50), (.tmp 55)] #[60, 63, 2, 9] 56 Tryz.call34 (Zm m s A6 c7 u f.1 f.2.1 f.2.2.1 f.2.2.2.1 d9 f.2.2.2.2 d3 d4 d5 d6 d7 b9.2.1 b9.2.2.1 b9.2.2.2.1 b9.2.2.2.2.1 b9.2.2.2.2.2.1 g5.2.2.2.2.2.2.1 g6.2.2.2.2.2.2.2 w' (Ze i8 [0, 1, 2] rfl rfl) (fun w hm => Dp.mono _ (Vk i8 (l := [0, 1, 2]) rfl hm) b6) a n3) ?_
        rintro e aa0 ⟨rfl, o6⟩
        refine ⟨_, rfl, ?_⟩
        have aa1 : SP [] w0 aa0 [Qj s 79 #[(.int .i64 f.1), (.int .i64 f.2.1), (.int .i64 f.2.2.1), (.int .i64 f.2.2.2.1), (.slice A6 (List.length (List.map stT d9)) c7), (.map (some u))], Qz u f.2.2.2.2, Qj m 95 #[(pt s 0), (Q4 a.2.2.2.2.2.2.1 m), (.string ⟨List.toArray a.2.2.2.2.2.2.2.1⟩), (.string ⟨List.toArray a.2.2.2.2.2.2.2.2.1⟩), (.string ⟨List.toArray a.2.2.2.2.2.2.2.2.2.1⟩), (.bool a.2.2.2.2.2.2.2.2.2.2)]] := Va i8 [0, 1, 2] [] rfl rfl o6 rfl
        clear o6
        refine ⟨_, Qa hkn, rfl, ?_⟩
        exact (And.intro (And.intro rfl (trivial)) (aa1))
       ·rintro ρ' w' hs hah ⟨d0, ⟨aa2, -⟩, i9⟩
        refine kM (kc (kA hah 0 40) (kc (kA hah 5 45) (kc (kA hah 10 50) (kc (kA hah 15 55) k0)))) fun hkn => ?_
        refine cF 34 #[(.tmp 40), (.tmp 45), (.tmp 50), (.tmp 55)] #[60, 63, 2, 9] 56 Tryz.call34 (Zm m s A6 c7 u f.1 f.2.1 f.2.2.1 f.2.2.2.1 d9 f.2.2.2.2 d3 d4 d5 d6 d7 b9.2.1 b9.2.2.1 b9.2.2.2.1 b9.2.2.2.2.1 b9.2.2.2.2.2.1 g5.2.2.2.2.2.2.1 g6.2.2.2.2.2.2.2 w' (Ze i9 [0, 1, 2] rfl rfl) (fun w hm => Dp.mono _ (Vk i9 (l := [0, 1, 2]) rfl hm) b6) a n3) ?_
        rintro e aa3 ⟨rfl, o7⟩
        refine ⟨_, rfl, ?_⟩
        have aa4 : SP [] w0 aa3 [Qj d0 63 #[(.int .i64 0), (.string ⟨List.toArray ([] : List UInt8)⟩), (.string ⟨List.toArray ([] : List UInt8)⟩), (.int .i64 0), (.int .i64 0)], Qj s 79 #[(.int .i64 f.1), (.int .i64 f.2.1), (.int .i64 f.2.2.1), (.int .i64 f.2.2.2.1), (.slice A6 (List.length (List.map stT d9)) c7), (.map (some u))], Qz u f.2.2.2.2, Qj m 95 #[(pt s 0), (Q4 a.2.2.2.2.2.2.1 m), (.string ⟨List.toArray a.2.2.2.2.2.2.2.1⟩), (.string ⟨List.toArray a.2.2.2.2.2.2.2.2.1⟩), (.string ⟨List.toArray a.2.2.2.2.2.2.2.2.2.1⟩), (.bool a.2.2.2.2.2.2.2.2.2.2)]] := Va i9 [0, 1, 2] [3] rfl rfl o7 rfl
        clear o7
        refine ⟨_, Qa hkn, rfl, ?_⟩
        exact (Exists.intro d0 (And.intro (And.intro rfl (And.intro aa2 (trivial))) (SP.sel aa4 [1, 2, 3, 0] rfl rfl)))
      ·exact oV (hC (hA 16 56) (h0)) (.tuple #[(.agg #[(.int .i64 a.1), (.string ⟨List.toArray a.2.1⟩), (.string ⟨List.toArray a.2.2.1⟩), (.int .i64 a.2.2.2.1), (.int .i64 a.2.2.2.2.1)]), (.bool a.2.2.2.2.2.1)])
      ·exact oV (hC (hA 17 39) (h0)) (.agg #[(.int .i64 a.1), (.string ⟨List.toArray a.2.1⟩), (.string ⟨List.toArray a.2.2.1⟩), (.int .i64 a.2.2.2.1), (.int .i64 a.2.2.2.2.1)])
      ·exact oV (hC (hA 17 39) (h0)) (.bool a.2.2.2.2.2.1)
      ·refine Owe.heavy K [(0, 2), (1, 3)] K (Qe ⟨K, K, ?_⟩ (Qe ⟨K, K, ?_⟩ Q9))
       ·rintro ρ' w' hs hah ⟨ap4, aa5⟩
        refine kN [] trivial fun hkn => ?_
        refine Qn.alloc (t := 63) (z := (.agg #[(.int .i64 0), (.string ⟨List.toArray ([] : List UInt8)⟩), (.string ⟨List.toArray ([] : List UInt8)⟩), (.int .i64 0), (.int .i64 0)])) (d := (some 11)) (k := 20) K rfl K aa5 ?_
        intro aa6 ap5 aa7
        refine ⟨_, Qa hkn, trivial, ?_⟩
        exact (Exists.intro aa6 (And.intro (And.intro rfl (trivial)) (aa7)))
       ·rintro ρ' w' hs hah ⟨⟨aa8, -⟩, aa9⟩
        refine kN [] trivial fun hkn => ?_
        refine Qn.alloc (t := 63) (z := (.agg #[(.int .i64 0), (.string ⟨List.toArray ([] : List UInt8)⟩), (.string ⟨List.toArray ([] : List UInt8)⟩), (.int .i64 0), (.int .i64 0)])) (d := (some 11)) (k := 20) K rfl K aa9 ?_
        intro ab0 ap6 ab1
        refine ⟨_, Qa hkn, trivial, ?_⟩
        exact (Exists.intro ab0 (And.intro (And.intro aa8 (And.intro rfl (trivial))) (ab1)))
      ·refine oH 3 4 ?_
       ·rintro ρ' w' hs hah ⟨f9, ⟨ab2, o8, -⟩, ab3⟩
        refine kN [(11, (pt f9 0)), (57, (.agg #[(.int .i64 a.1), (.string ⟨List.toArray a.2.1⟩), (.string ⟨List.toArray a.2.2.1⟩), (.int .i64 a.2.2.2.1), (.int .i64 a.2.2.2.2.1)]))] ⟨(Yi (h := 20) K).symm.trans o8, hah 18 57 K, trivial⟩ fun hkn => ?_
        refine Qn.store (t := 63) (x := (.tmp 11)) (y := (.tmp 57)) (g := f9) (off := 0) (i := 3) (v := (.agg #[(.int .i64 a.1), (.string ⟨List.toArray a.2.1⟩), (.string ⟨List.toArray a.2.2.1⟩), (.int .i64 a.2.2.2.1), (.int .i64 a.2.2.2.2.1)])) (cs' := #[(.int .i64 a.1), (.string ⟨List.toArray a.2.1⟩), (.string ⟨List.toArray a.2.2.1⟩), (.int .i64 a.2.2.2.1), (.int .i64 a.2.2.2.2.1)]) (d := none) (k := 21) K rfl K K ab3 rfl K ?_
        intro ap7 ab4
        refine ⟨_, Qa hkn, trivial, ?_⟩
        exact (Exists.intro f9 (And.intro (And.intro ab2 (And.intro o8 (And.intro rfl (trivial)))) (ab4)))
      ·exact oV (hC (hA 19 58) (h0)) (.bool a.2.2.2.2.2.1)
      ·rintro ρ' w' hs hf ⟨q, ⟨ap8, ab5, ap9, -⟩, c2⟩
       refine Q1 [(1, (.slice b0 (List.length a9) b1)), (5, (.bool b2)), (7, (pt m 0)), (8, (.int .i64 b4)), (9, (.int .i64 a4)), (10, (.bool p)), (11, (pt q 0)), (12, (.bool a.2.2.2.2.2.1))] ⟨(hs 1 K).trans K, (hs 5 K).trans K, (hs 7 K).trans K, (hs 8 K).trans K, (hs 9 K).trans K, (hs 10 K).trans K, (Yi (h := 20) K).symm.trans ab5, hf 22 12 K, trivial⟩ ?_
       obtain ⟨aq0, ab6⟩ : ∃ x, w' = x := ⟨_, rfl⟩
       rw [ab6] at c2 ⊢
       refine aQ ?_
       refine aQ ?_
       refine At.join (fun ρ w => ∃ (g0 : Bool), Zo ρ [(1, (.slice b0 (List.length a9) b1)), (5, (.bool b2)), (7, (pt m 0)), (8, (.int .i64 b4)), (9, (.int .i64 a4)), (12, (.bool a.2.2.2.2.2.1)), (94, (.bool g0))] ∧ SP [] w0 w [Qj m 95 #[(pt s 0), (Q4 a.2.2.2.2.2.2.1 m), (.string ⟨List.toArray a.2.2.2.2.2.2.2.1⟩), (.string ⟨List.toArray a.2.2.2.2.2.2.2.2.1⟩), (.string ⟨List.toArray a.2.2.2.2.2.2.2.2.2.1⟩), (.bool a.2.2.2.2.2.2.2.2.2.2)], Qj s 79 #[(.int .i64 f.1), (.int .i64 f.2.1), (.int .i64 f.2.2.1), (.int .i64 f.2.2.2.1), (.slice A6 (List.length (List.map stT d9)) c7), (.map (some u))], Qz u f.2.2.2.2] ∧ Qk (Q2 (List.map stT d9) a9 b2 f f7) b4 a4 a g0 = some r) ?_ ?_
       ·rcases Bool.eq_false_or_eq_true (a.2.2.2.2.2.1 == p) with a3 | a3
        ·have H := ct H a3
         refine aG [GEq (.bool a.2.2.2.2.2.1), GEq (.bool p), GEq (.bool (a.2.2.2.2.2.1 == p)), GEq (.bool (a.2.2.2.2.2.1 == p)), GEq undef, GEq undef, GEq undef, GEq undef, GEq undef, GEq undef, GEq (.bool true), GEq (.bool true), GEq undef, GEq undef, GEq undef, GEq undef, GEq undef, GEq undef, GEq undef, GEq undef, GEq undef, GEq undef, GEq undef, GEq undef, GEq undef, GEq undef, GEq (.bool true), GEq (.bool true), GEq undef, GEq undef, GEq undef, GEq undef, GEq undef, GEq undef, GEq undef, GEq (.bool true)] [] (tG [] w0 [Qj s 79 #[(.int .i64 f.1), (.int .i64 f.2.1), (.int .i64 f.2.2.1), (.int .i64 f.2.2.2.1), (.slice A6 (List.length (List.map stT d9)) c7), (.map (some u))], Qz u f.2.2.2.2, Qj m 95 #[(pt s 0), (Q4 a.2.2.2.2.2.2.1 m), (.string ⟨List.toArray a.2.2.2.2.2.2.2.1⟩), (.string ⟨List.toArray a.2.2.2.2.2.2.2.2.1⟩), (.string ⟨List.toArray a.2.2.2.2.2.2.2.2.2.1⟩), (.bool a.2.2.2.2.2.2.2.2.2.2)], Qj q 63 #[(.int .i64 a.1), (.string ⟨List.toArray a.2.1⟩), (.string ⟨List.toArray a.2.2.1⟩), (.int .i64 a.2.2.2.1), (.int .i64 a.2.2.2.2.1)]] [([], [])]) 36 0 ⟨trivial, SP.drew c2⟩ ?_ ?_
         iterate 36 refine And.intro ?_ ?_
         exact trivial
         ·exact oV (hC (hS 12 (.bool a.2.2.2.2.2.1)) (h0)) (.bool a.2.2.2.2.2.1)
         ·exact oV (hC (hS 10 (.bool p)) (h0)) (.bool p)
         ·exact oV (hC (hA 0 59) (hC (hA 1 60) (h0))) (.bool (a.2.2.2.2.2.1 == p))
         ·exact oV (hC (hA 2 61) (h0)) (.bool (a.2.2.2.2.2.1 == p))
         ·exact oW (hC (hB 3 62 a3) (h0)) 63
         ·exact oW (hC (hB 3 62 a3) (h0)) 64
         ·exact oW (hC (hA 5 64) (h0)) 65
         ·exact oW (hC (hA 5 64) (h0)) 66
         ·exact oW (hC (hA 5 64) (h0)) 67
         ·exact oW (hC (hB 3 62 a3) (h0)) 68
         ·exact oV (hC (hB 3 62 a3) (hC (hA 9 68) (h0))) (.bool true)
         ·exact oV (hC (hA 10 69) (h0)) (.bool true)
         ·exact oW (hC (hA 11 70) (h0)) 71
         ·exact oW (hC (hA 11 70) (h0)) 72
         ·exact oW (hC (hA 13 72) (h0)) 73
         ·exact oW (hC (hA 13 72) (h0)) 74
         ·exact oW (hC (hA 13 72) (h0)) 75
         ·exact oW (hC (hA 13 72) (h0)) 76
         ·exact oW (hC (hA 13 72) (h0)) 77
         ·exact oW (hC (hA 13 72) (h0)) 78
         ·exact oW (hC (hA 19 78) (h0)) 79
         ·exact oW (hC (hA 19 78) (h0)) 80
         ·exact oW (hC (hA 19 78) (h0)) 81
         ·exact oW (hC (hA 13 72) (h0)) 82
         ·exact oW (hC (hA 13 72) (h0)) 83
         ·exact oW (hC (hA 11 70) (h0)) 84
         ·exact oV (hC (hA 11 70) (hC (hA 25 84) (h0))) (.bool true)
         ·exact oV (hC (hA 26 85) (h0)) (.bool true)
         ·exact oW (hC (hA 27 86) (h0)) 87
         ·exact oW (hC (hA 27 86) (h0)) 88
         ·exact oW (hC (hA 27 86) (h0)) 89
         ·exact oW (hC (hA 30 89) (h0)) 90
         ·exact oW (hC (hA 30 89) (h0)) 91
         ·exact oW (hC (hA 30 89) (h0)) 92
         ·exact oW (hC (hA 27 86) (h0)) 93
         ·exact oV (hC (hA 27 86) (hC (hA 34 93) (h0))) (.bool true)
         ·rintro ρ' w' hs hf ⟨aq1, o9⟩
          refine Q1 [(1, (.slice b0 (List.length a9) b1)), (5, (.bool b2)), (7, (pt m 0)), (8, (.int .i64 b4)), (9, (.int .i64 a4)), (12, (.bool a.2.2.2.2.2.1)), (94, (.bool true))] ⟨(hs 1 K).trans K, (hs 5 K).trans K, (hs 7 K).trans K, (hs 8 K).trans K, (hs 9 K).trans K, (hs 12 K).trans K, hf 35 94 K, trivial⟩ ?_
          obtain ⟨aq2, ab7⟩ : ∃ x, w' = x := ⟨_, rfl⟩
          rw [ab7] at o9 ⊢
          exact ⟨true, ⟨K, K, K, K, K, K, K, trivial⟩, SP.sel o9 [2, 0, 1] rfl rfl, H⟩
        ·have H := cf H a3
         rcases Bool.eq_false_or_eq_true p with a5 | a5
         ·have H := ct H a5
          obtain ⟨a0, f0, H⟩ := Qf H
          rcases Bool.eq_false_or_eq_true (!a0) with b5 | b5
          ·have H := ct H b5
           refine aG [GEq (.bool a.2.2.2.2.2.1), GEq (.bool p), GEq (.bool (a.2.2.2.2.2.1 == p)), GEq (.bool (a.2.2.2.2.2.1 == p)), GEq (.bool p), GEq (.bool p), GEq (pt m 0), GEq (.bool a0), GEq (.bool (!a0)), GEq (.bool (!a0)), GEq (.bool (!a0)), GEq (.bool (!a0)), GEq undef, GEq undef, GEq undef, GEq undef, GEq undef, GEq undef, GEq undef, GEq undef, GEq undef, GEq undef, GEq undef, GEq undef, GEq undef, GEq undef, GEq (.bool true), GEq (.bool true), GEq undef, GEq undef, GEq undef, GEq undef, GEq undef, GEq undef, GEq undef, GEq (.bool true)] [7] [sG [] [] [] w0 [Qj s 79 #[(.int .i64 f.1), (.int .i64 f.2.1), (.int .i64 f.2.2.1), (.int .i64 f.2.2.2.1), (.slice A6 (List.length (List.map stT d9)) c7), (.map (some u))], Qz u f.2.2.2.2, Qj m 95 #[(pt s 0), (Q4 a.2.2.2.2.2.2.1 m), (.string ⟨List.toArray a.2.2.2.2.2.2.2.1⟩), (.string ⟨List.toArray a.2.2.2.2.2.2.2.2.1⟩), (.string ⟨List.toArray a.2.2.2.2.2.2.2.2.2.1⟩), (.bool a.2.2.2.2.2.2.2.2.2.2)], Qj q 63 #[(.int .i64 a.1), (.string ⟨List.toArray a.2.1⟩), (.string ⟨List.toArray a.2.2.1⟩), (.int .i64 a.2.2.2.1), (.int .i64 a.2.2.2.2.1)]], sG [7] [(.bool a0)] [] w0 [Qj q 63 #[(.int .i64 a.1), (.string ⟨List.toArray a.2.1⟩), (.string ⟨List.toArray a.2.2.1⟩), (.int .i64 a.2.2.2.1), (.int .i64 a.2.2.2.2.1)], Qj s 79 #[(.int .i64 f.1), (.int .i64 f.2.1), (.int .i64 f.2.2.1), (.int .i64 f.2.2.2.1), (.slice A6 (List.length (List.map stT d9)) c7), (.map (some u))], Qz u f.2.2.2.2, Qj m 95 #[(pt s 0), (Q4 a.2.2.2.2.2.2.1 m), (.string ⟨List.toArray a.2.2.2.2.2.2.2.1⟩), (.string ⟨List.toArray a.2.2.2.2.2.2.2.2.1⟩), (.string ⟨List.toArray a.2.2.2.2.2.2.2.2.2.1⟩), (.bool a.2.2.2.2.2.2.2.2.2.2)]]] 36 1 ⟨trivial, SP.drew c2⟩ ?_ ?_
           iterate 36 refine And.intro ?_ ?_
           exact trivial
           ·exact oV (hC (hS 12 (.bool a.2.2.2.2.2.1)) (h0)) (.bool a.2.2.2.2.2.1)
           ·exact oV (hC (hS 10 (.bool p)) (h0)) (.bool p)
           ·exact oV (hC (hA 0 59) (hC (hA 1 60) (h0))) (.bool (a.2.2.2.2.2.1 == p))
           ·exact oV (hC (hA 2 61) (h0)) (.bool (a.2.2.2.2.2.1 == p))
           ·exact oV (hC (hS 10 (.bool p)) (hC (hB 3 62 a3) (h0))) (.bool p)
           ·exact oV (hC (hA 4 63) (hC (hB 3 62 a3) (h0))) (.bool p)
           ·exact oV (hC (hS 7 (pt m 0)) (hC (hB 5 64 a5) (h0))) (pt m 0)
           ·refine oH 0 1 ?_
            ·rintro ρ' w' hs hah ⟨aq3, j0⟩
             have c8 := hah 6 65 K
             have c9 := hah 5 64 K
             refine kN [(65, (pt m 0)), (64, (.bool true))] ⟨c8, (Eq.trans c9 (congrArg Value.bool a5)), trivial⟩ fun hkn => ?_
             refine cF 36 #[(.tmp 65)] #[60] 66 Tryz.call36 (Qm m s A6 c7 u f.1 f.2.1 f.2.2.1 f.2.2.2.1 d9 f.2.2.2.2 a.2.2.2.2.2.2.1 a.2.2.2.2.2.2.2.1 a.2.2.2.2.2.2.2.2.1 a.2.2.2.2.2.2.2.2.2.1 a.2.2.2.2.2.2.2.2.2.2 w' (Ze j0 [0, 1, 2] rfl rfl) (fun w hm => Dp.mono _ (Vk j0 (l := [0, 1, 2]) rfl hm) b6) a0 f0) ?_
             rintro e ab8 ⟨rfl, p0⟩
             refine ⟨_, rfl, ?_⟩
             have ab9 : SP [] w0 ab8 [Qj q 63 #[(.int .i64 a.1), (.string ⟨List.toArray a.2.1⟩), (.string ⟨List.toArray a.2.2.1⟩), (.int .i64 a.2.2.2.1), (.int .i64 a.2.2.2.2.1)], Qj s 79 #[(.int .i64 f.1), (.int .i64 f.2.1), (.int .i64 f.2.2.1), (.int .i64 f.2.2.2.1), (.slice A6 (List.length (List.map stT d9)) c7), (.map (some u))], Qz u f.2.2.2.2, Qj m 95 #[(pt s 0), (Q4 a.2.2.2.2.2.2.1 m), (.string ⟨List.toArray a.2.2.2.2.2.2.2.1⟩), (.string ⟨List.toArray a.2.2.2.2.2.2.2.2.1⟩), (.string ⟨List.toArray a.2.2.2.2.2.2.2.2.2.1⟩), (.bool a.2.2.2.2.2.2.2.2.2.2)]] := Va j0 [0, 1, 2] [3] rfl rfl p0 rfl
             clear p0
             refine ⟨_, Qa hkn, rfl, ?_⟩
             exact (And.intro (And.intro rfl (trivial)) (ab9))
           ·exact oV (hC (hA 7 66) (hC (hB 5 64 a5) (h0))) (.bool (!a0))
           ·exact oV (hC (hB 5 64 a5) (hC (hA 8 67) (hC (hB 3 62 a3) (h0)))) (.bool (!a0))
           ·exact oV (hC (hB 3 62 a3) (hC (hA 9 68) (h0))) (.bool (!a0))
           ·exact oV (hC (hA 10 69) (h0)) (.bool (!a0))
           ·exact oW (hC (hB 11 70 b5) (h0)) 71
           ·exact oW (hC (hB 11 70 b5) (h0)) 72
           ·exact oW (hC (hA 13 72) (h0)) 73
           ·exact oW (hC (hA 13 72) (h0)) 74
           ·exact oW (hC (hA 13 72) (h0)) 75
           ·exact oW (hC (hA 13 72) (h0)) 76
           ·exact oW (hC (hA 13 72) (h0)) 77
           ·exact oW (hC (hA 13 72) (h0)) 78
           ·exact oW (hC (hA 19 78) (h0)) 79
           ·exact oW (hC (hA 19 78) (h0)) 80
           ·exact oW (hC (hA 19 78) (h0)) 81
           ·exact oW (hC (hA 13 72) (h0)) 82
           ·exact oW (hC (hA 13 72) (h0)) 83
           ·exact oW (hC (hB 11 70 b5) (h0)) 84
           ·exact oV (hC (hB 11 70 b5) (hC (hA 25 84) (h0))) (.bool true)
           ·exact oV (hC (hA 26 85) (h0)) (.bool true)
           ·exact oW (hC (hA 27 86) (h0)) 87
           ·exact oW (hC (hA 27 86) (h0)) 88
           ·exact oW (hC (hA 27 86) (h0)) 89
           ·exact oW (hC (hA 30 89) (h0)) 90
           ·exact oW (hC (hA 30 89) (h0)) 91
           ·exact oW (hC (hA 30 89) (h0)) 92
           ·exact oW (hC (hA 27 86) (h0)) 93
           ·exact oV (hC (hA 27 86) (hC (hA 34 93) (h0))) (.bool true)
           ·rintro ρ' w' hs hf ⟨⟨aq4, -⟩, p1⟩
            refine Q1 [(1, (.slice b0 (List.length a9) b1)), (5, (.bool b2)), (7, (pt m 0)), (8, (.int .i64 b4)), (9, (.int .i64 a4)), (12, (.bool a.2.2.2.2.2.1)), (94, (.bool true))] ⟨(hs 1 K).trans K, (hs 5 K).trans K, (hs 7 K).trans K, (hs 8 K).trans K, (hs 9 K).trans K, (hs 12 K).trans K, hf 35 94 K, trivial⟩ ?_
            obtain ⟨aq5, ac0⟩ : ∃ x, w' = x := ⟨_, rfl⟩
            rw [ac0] at p1 ⊢
            exact ⟨true, ⟨K, K, K, K, K, K, K, trivial⟩, SP.sel p1 [3, 1, 2] rfl rfl, H⟩
          ·have H := cf H b5
           rcases Bool.eq_false_or_eq_true a.2.2.2.2.2.1 with a1 | a1
           ·have H := ct H a1
            obtain ⟨a7, g1, H⟩ := Qf H
            rcases Bool.eq_false_or_eq_true (a.1 == 4) with b7 | b7
            ·have H := ct H b7
             rcases Bool.eq_false_or_eq_true (!(a7 == true)) with c3 | c3
             ·have H := ct H c3
              refine aG [GEq (.bool a.2.2.2.2.2.1), GEq (.bool p), GEq (.bool (a.2.2.2.2.2.1 == p)), GEq (.bool (a.2.2.2.2.2.1 == p)), GEq (.bool p), GEq (.bool p), GEq (pt m 0), GEq (.bool a0), GEq (.bool (!a0)), GEq (.bool (!a0)), GEq (.bool (!a0)), GEq (.bool (!a0)), GEq (.bool a.2.2.2.2.2.1), GEq (.bool a.2.2.2.2.2.1), GEq (pt m 0), GEq (.bool a7), GEq (pt q 0), GEq (.int .i64 a.1), GEq (.bool (a.1 == 4)), GEq (.bool (a.1 == 4)), GEq undef, GEq undef, GEq undef, GEq (.bool true), GEq (.bool (!(a7 == true))), GEq (.bool (!(a7 == true))), GEq (.bool (!(a7 == true))), GEq (.bool (!(a7 == true))), GEq undef, GEq undef, GEq undef, GEq undef, GEq undef, GEq undef, GEq undef, GEq (.bool true)] [7, 15] [sG [] [] [] w0 [Qj s 79 #[(.int .i64 f.1), (.int .i64 f.2.1), (.int .i64 f.2.2.1), (.int .i64 f.2.2.2.1), (.slice A6 (List.length (List.map stT d9)) c7), (.map (some u))], Qz u f.2.2.2.2, Qj m 95 #[(pt s 0), (Q4 a.2.2.2.2.2.2.1 m), (.string ⟨List.toArray a.2.2.2.2.2.2.2.1⟩), (.string ⟨List.toArray a.2.2.2.2.2.2.2.2.1⟩), (.string ⟨List.toArray a.2.2.2.2.2.2.2.2.2.1⟩), (.bool a.2.2.2.2.2.2.2.2.2.2)], Qj q 63 #[(.int .i64 a.1), (.string ⟨List.toArray a.2.1⟩), (.string ⟨List.toArray a.2.2.1⟩), (.int .i64 a.2.2.2.1), (.int .i64 a.2.2.2.2.1)]], sG [7] [(.bool a0)] [] w0 [Qj q 63 #[(.int .i64 a.1), (.string ⟨List.toArray a.2.1⟩), (.string ⟨List.toArray a.2.2.1⟩), (.int .i64 a.2.2.2.1), (.int .i64 a.2.2.2.2.1)], Qj s 79 #[(.int .i64 f.1), (.int .i64 f.2.1), (.int .i64 f.2.2.1), (.int .i64 f.2.2.2.1), (.slice A6 (List.length (List.map stT d9)) c7), (.map (some u))], Qz u f.2.2.2.2, Qj m 95 #[(pt s 0), (Q4 a.2.2.2.2.2.2.1 m), (.string ⟨List.toArray a.2.2.2.2.2.2.2.1⟩), (.string ⟨List.toArray a.2.2.2.2.2.2.2.2.1⟩), (.string ⟨List.toArray a.2.2.2.2.2.2.2.2.2.1⟩), (.bool a.2.2.2.2.2.2.2.2.2.2)]], sG [7, 15] [(.bool a0), (.bool a7)] [] w0 [Qj q 63 #[(.int .i64 a.1), (.string ⟨List.toArray a.2.1⟩), (.string ⟨List.toArray a.2.2.1⟩), (.int .i64 a.2.2.2.1), (.int .i64 a.2.2.2.2.1)], Qj s 79 #[(.int .i64 f.1), (.int .i64 f.2.1), (.int .i64 f.2.2.1), (.int .i64 f.2.2.2.1), (.slice A6 (List.length (List.map stT d9)) c7), (.map (some u))], Qz u f.2.2.2.2, Qj m 95 #[(pt s 0), (Q4 a.2.2.2.2.2.2.1 m), (.string ⟨List.toArray a.2.2.2.2.2.2.2.1⟩), (.string ⟨List.toArray a.2.2.2.2.2.2.2.2.1⟩), (.string ⟨List.toArray a.2.2.2.2.2.2.2.2.2.1⟩), (.bool a.2.2.2.2.2.2.2.2.2.2)]]] 36 2 ⟨trivial, SP.drew c2⟩ ?_ ?_
              iterate 36 refine And.intro ?_ ?_
              exact trivial
              ·exact oV (hC (hS 12 (.bool a.2.2.2.2.2.1)) (h0)) (.bool a.2.2.2.2.2.1)
              ·exact oV (hC (hS 10 (.bool p)) (h0)) (.bool p)
              ·exact oV (hC (hA 0 59) (hC (hA 1 60) (h0))) (.bool (a.2.2.2.2.2.1 == p))
              ·exact oV (hC (hA 2 61) (h0)) (.bool (a.2.2.2.2.2.1 == p))
              ·exact oV (hC (hS 10 (.bool p)) (hC (hB 3 62 a3) (h0))) (.bool p)
              ·exact oV (hC (hA 4 63) (hC (hB 3 62 a3) (h0))) (.bool p)
              ·exact oV (hC (hS 7 (pt m 0)) (hC (hB 5 64 a5) (h0))) (pt m 0)
              ·refine oH 0 1 ?_
               ·rintro ρ' w' hs hah ⟨aq6, j1⟩
                have c8 := hah 6 65 K
                have c9 := hah 5 64 K
                refine kN [(65, (pt m 0)), (64, (.bool true))] ⟨c8, (Eq.trans c9 (congrArg Value.bool a5)), trivial⟩ fun hkn => ?_
                refine cF 36 #[(.tmp 65)] #[60] 66 Tryz.call36 (Qm m s A6 c7 u f.1 f.2.1 f.2.2.1 f.2.2.2.1 d9 f.2.2.2.2 a.2.2.2.2.2.2.1 a.2.2.2.2.2.2.2.1 a.2.2.2.2.2.2.2.2.1 a.2.2.2.2.2.2.2.2.2.1 a.2.2.2.2.2.2.2.2.2.2 w' (Ze j1 [0, 1, 2] rfl rfl) (fun w hm => Dp.mono _ (Vk j1 (l := [0, 1, 2]) rfl hm) b6) a0 f0) ?_
                rintro e ac1 ⟨rfl, p2⟩
                refine ⟨_, rfl, ?_⟩
                have ac2 : SP [] w0 ac1 [Qj q 63 #[(.int .i64 a.1), (.string ⟨List.toArray a.2.1⟩), (.string ⟨List.toArray a.2.2.1⟩), (.int .i64 a.2.2.2.1), (.int .i64 a.2.2.2.2.1)], Qj s 79 #[(.int .i64 f.1), (.int .i64 f.2.1), (.int .i64 f.2.2.1), (.int .i64 f.2.2.2.1), (.slice A6 (List.length (List.map stT d9)) c7), (.map (some u))], Qz u f.2.2.2.2, Qj m 95 #[(pt s 0), (Q4 a.2.2.2.2.2.2.1 m), (.string ⟨List.toArray a.2.2.2.2.2.2.2.1⟩), (.string ⟨List.toArray a.2.2.2.2.2.2.2.2.1⟩), (.string ⟨List.toArray a.2.2.2.2.2.2.2.2.2.1⟩), (.bool a.2.2.2.2.2.2.2.2.2.2)]] := Va j1 [0, 1, 2] [3] rfl rfl p2 rfl
                clear p2
                refine ⟨_, Qa hkn, rfl, ?_⟩
                exact (And.intro (And.intro rfl (trivial)) (ac2))
              ·exact oV (hC (hA 7 66) (hC (hB 5 64 a5) (h0))) (.bool (!a0))
              ·exact oV (hC (hB 5 64 a5) (hC (hA 8 67) (hC (hB 3 62 a3) (h0)))) (.bool (!a0))
              ·exact oV (hC (hB 3 62 a3) (hC (hA 9 68) (h0))) (.bool (!a0))
              ·exact oV (hC (hA 10 69) (h0)) (.bool (!a0))
              ·exact oV (hC (hS 12 (.bool a.2.2.2.2.2.1)) (hC (hB 11 70 b5) (h0))) (.bool a.2.2.2.2.2.1)
              ·exact oV (hC (hA 12 71) (hC (hB 11 70 b5) (h0))) (.bool a.2.2.2.2.2.1)
              ·exact oV (hC (hS 7 (pt m 0)) (hC (hB 13 72 a1) (h0))) (pt m 0)
              ·refine oH 1 2 ?_
               ·rintro ρ' w' hs hah ⟨⟨ac3, -⟩, j2⟩
                have c0 := hah 14 73 K
                have a6 := hah 13 72 K
                refine kN [(73, (pt m 0)), (72, (.bool true))] ⟨c0, (Eq.trans a6 (congrArg Value.bool a1)), trivial⟩ fun hkn => ?_
                refine cF 36 #[(.tmp 73)] #[60] 74 Tryz.call36 (Qm m s A6 c7 u f.1 f.2.1 f.2.2.1 f.2.2.2.1 d9 f.2.2.2.2 a.2.2.2.2.2.2.1 a.2.2.2.2.2.2.2.1 a.2.2.2.2.2.2.2.2.1 a.2.2.2.2.2.2.2.2.2.1 a.2.2.2.2.2.2.2.2.2.2 w' (Ze j2 [1, 2, 3] rfl rfl) (fun w hm => Dp.mono _ (Vk j2 (l := [1, 2, 3]) rfl hm) b6) a7 g1) ?_
                rintro e ac4 ⟨rfl, p3⟩
                refine ⟨_, rfl, ?_⟩
                have ac5 : SP [] w0 ac4 [Qj q 63 #[(.int .i64 a.1), (.string ⟨List.toArray a.2.1⟩), (.string ⟨List.toArray a.2.2.1⟩), (.int .i64 a.2.2.2.1), (.int .i64 a.2.2.2.2.1)], Qj s 79 #[(.int .i64 f.1), (.int .i64 f.2.1), (.int .i64 f.2.2.1), (.int .i64 f.2.2.2.1), (.slice A6 (List.length (List.map stT d9)) c7), (.map (some u))], Qz u f.2.2.2.2, Qj m 95 #[(pt s 0), (Q4 a.2.2.2.2.2.2.1 m), (.string ⟨List.toArray a.2.2.2.2.2.2.2.1⟩), (.string ⟨List.toArray a.2.2.2.2.2.2.2.2.1⟩), (.string ⟨List.toArray a.2.2.2.2.2.2.2.2.2.1⟩), (.bool a.2.2.2.2.2.2.2.2.2.2)]] := Va j2 [1, 2, 3] [0] rfl rfl p3 rfl
                clear p3
                refine ⟨_, Qa hkn, rfl, ?_⟩
                exact (And.intro (And.intro ac3 (And.intro rfl (trivial))) (ac5))
              ·exact oV (hC (hS 11 (pt q 0)) (hC (hB 13 72 a1) (h0))) (pt q 0)
              ·refine Owe.light K [1, 2] K (Qe ?_ (Qe ?_ Q9))
               ·rintro ρ' w' hs hah ⟨⟨aq7, -⟩, ac6⟩
                have b3 := hah 16 75 K
                have a6 := hah 13 72 K
                refine kN [(75, (pt q 0)), (72, (.bool true))] ⟨b3, (Eq.trans a6 (congrArg Value.bool a1)), trivial⟩ fun hkn => ?_
                refine sL 3 75 q 0 0 (.int .i64 a.1) 76 ac6 rfl ?_
                exact eK hkn
               ·rintro ρ' w' hs hah ⟨⟨aq8, aq9, -⟩, ac7⟩
                have b3 := hah 16 75 K
                have a6 := hah 13 72 K
                refine kN [(75, (pt q 0)), (72, (.bool true))] ⟨b3, (Eq.trans a6 (congrArg Value.bool a1)), trivial⟩ fun hkn => ?_
                refine sL 3 75 q 0 0 (.int .i64 a.1) 76 ac7 rfl ?_
                exact eK hkn
              ·exact oV (hC (hA 17 76) (hC (hB 13 72 a1) (h0))) (.bool (a.1 == 4))
              ·exact oV (hC (hA 18 77) (hC (hB 13 72 a1) (h0))) (.bool (a.1 == 4))
              ·exact oW (hC (hB 19 78 b7) (h0)) 79
              ·exact oW (hC (hB 19 78 b7) (h0)) 80
              ·exact oW (hC (hB 19 78 b7) (h0)) 81
              ·exact oV (hC (hB 19 78 b7) (hC (hA 22 81) (hC (hB 13 72 a1) (h0)))) (.bool true)
              ·exact oV (hC (hA 15 74) (hC (hA 23 82) (hC (hB 13 72 a1) (h0)))) (.bool (!(a7 == true)))
              ·exact oV (hC (hB 13 72 a1) (hC (hA 24 83) (hC (hB 11 70 b5) (h0)))) (.bool (!(a7 == true)))
              ·exact oV (hC (hB 11 70 b5) (hC (hA 25 84) (h0))) (.bool (!(a7 == true)))
              ·exact oV (hC (hA 26 85) (h0)) (.bool (!(a7 == true)))
              ·exact oW (hC (hB 27 86 c3) (h0)) 87
              ·exact oW (hC (hB 27 86 c3) (h0)) 88
              ·exact oW (hC (hB 27 86 c3) (h0)) 89
              ·exact oW (hC (hA 30 89) (h0)) 90
              ·exact oW (hC (hA 30 89) (h0)) 91
              ·exact oW (hC (hA 30 89) (h0)) 92
              ·exact oW (hC (hB 27 86 c3) (h0)) 93
              ·exact oV (hC (hB 27 86 c3) (hC (hA 34 93) (h0))) (.bool true)
              ·rintro ρ' w' hs hf ⟨⟨ar0, ar1, -⟩, p4⟩
               refine Q1 [(1, (.slice b0 (List.length a9) b1)), (5, (.bool b2)), (7, (pt m 0)), (8, (.int .i64 b4)), (9, (.int .i64 a4)), (12, (.bool a.2.2.2.2.2.1)), (94, (.bool true))] ⟨(hs 1 K).trans K, (hs 5 K).trans K, (hs 7 K).trans K, (hs 8 K).trans K, (hs 9 K).trans K, (hs 12 K).trans K, hf 35 94 K, trivial⟩ ?_
               obtain ⟨ar2, ac8⟩ : ∃ x, w' = x := ⟨_, rfl⟩
               rw [ac8] at p4 ⊢
               exact ⟨true, ⟨K, K, K, K, K, K, K, trivial⟩, SP.sel p4 [3, 1, 2] rfl rfl, H⟩
             ·have H := cf H c3
              rcases Bool.eq_false_or_eq_true (!a.2.2.2.2.2.1) with d8 | d8
              ·have H := ct H d8
               refine aG [GEq (.bool a.2.2.2.2.2.1), GEq (.bool p), GEq (.bool (a.2.2.2.2.2.1 == p)), GEq (.bool (a.2.2.2.2.2.1 == p)), GEq (.bool p), GEq (.bool p), GEq (pt m 0), GEq (.bool a0), GEq (.bool (!a0)), GEq (.bool (!a0)), GEq (.bool (!a0)), GEq (.bool (!a0)), GEq (.bool a.2.2.2.2.2.1), GEq (.bool a.2.2.2.2.2.1), GEq (pt m 0), GEq (.bool a7), GEq (pt q 0), GEq (.int .i64 a.1), GEq (.bool (a.1 == 4)), GEq (.bool (a.1 == 4)), GEq undef, GEq undef, GEq undef, GEq (.bool true), GEq (.bool (!(a7 == true))), GEq (.bool (!(a7 == true))), GEq (.bool (!(a7 == true))), GEq (.bool (!(a7 == true))), GEq (.bool a.2.2.2.2.2.1), GEq (.bool (!a.2.2.2.2.2.1)), GEq (.bool (!a.2.2.2.2.2.1)), GEq (.agg #[(.int .i64 a.1), (.string ⟨List.toArray a.2.1⟩), (.string ⟨List.toArray a.2.2.1⟩), (.int .i64 a.2.2.2.1), (.int .i64 a.2.2.2.2.1)]), GEq (.agg #[(.int .i64 0), (.string ⟨List.toArray ([] : List UInt8)⟩), (.string ⟨List.toArray ([] : List UInt8)⟩), (.int .i64 0), (.int .i64 0)]), GEq (.bool (!((a.1 == 0) && ((a.2.1 == ([] : List UInt8)) && ((a.2.2.1 == ([] : List UInt8)) && ((a.2.2.2.1 == 0) && (a.2.2.2.2.1 == 0))))))), GEq (.bool (!((a.1 == 0) && ((a.2.1 == ([] : List UInt8)) && ((a.2.2.1 == ([] : List UInt8)) && ((a.2.2.2.1 == 0) && (a.2.2.2.2.1 == 0))))))), GEq (.bool (!((a.1 == 0) && ((a.2.1 == ([] : List UInt8)) && ((a.2.2.1 == ([] : List UInt8)) && ((a.2.2.2.1 == 0) && (a.2.2.2.2.1 == 0)))))))] [7, 15] [sG [] [] [] w0 [Qj s 79 #[(.int .i64 f.1), (.int .i64 f.2.1), (.int .i64 f.2.2.1), (.int .i64 f.2.2.2.1), (.slice A6 (List.length (List.map stT d9)) c7), (.map (some u))], Qz u f.2.2.2.2, Qj m 95 #[(pt s 0), (Q4 a.2.2.2.2.2.2.1 m), (.string ⟨List.toArray a.2.2.2.2.2.2.2.1⟩), (.string ⟨List.toArray a.2.2.2.2.2.2.2.2.1⟩), (.string ⟨List.toArray a.2.2.2.2.2.2.2.2.2.1⟩), (.bool a.2.2.2.2.2.2.2.2.2.2)], Qj q 63 #[(.int .i64 a.1), (.string ⟨List.toArray a.2.1⟩), (.string ⟨List.toArray a.2.2.1⟩), (.int .i64 a.2.2.2.1), (.int .i64 a.2.2.2.2.1)]], sG [7] [(.bool a0)] [] w0 [Qj q 63 #[(.int .i64 a.1), (.string ⟨List.toArray a.2.1⟩), (.string ⟨List.toArray a.2.2.1⟩), (.int .i64 a.2.2.2.1), (.int .i64 a.2.2.2.2.1)], Qj s 79 #[(.int .i64 f.1), (.int .i64 f.2.1), (.int .i64 f.2.2.1), (.int .i64 f.2.2.2.1), (.slice A6 (List.length (List.map stT d9)) c7), (.map (some u))], Qz u f.2.2.2.2, Qj m 95 #[(pt s 0), (Q4 a.2.2.2.2.2.2.1 m), (.string ⟨List.toArray a.2.2.2.2.2.2.2.1⟩), (.string ⟨List.toArray a.2.2.2.2.2.2.2.2.1⟩), (.string ⟨List.toArray a.2.2.2.2.2.2.2.2.2.1⟩), (.bool a.2.2.2.2.2.2.2.2.2.2)]], sG [7, 15] [(.bool a0), (.bool a7)] [] w0 [Qj q 63 #[(.int .i64 a.1), (.string ⟨List.toArray a.2.1⟩), (.string ⟨List.toArray a.2.2.1⟩), (.int .i64 a.2.2.2.1), (.int .i64 a.2.2.2.2.1)], Qj s 79 #[(.int .i64 f.1), (.int .i64 f.2.1), (.int .i64 f.2.2.1), (.int .i64 f.2.2.2.1), (.slice A6 (List.length (List.map stT d9)) c7), (.map (some u))], Qz u f.2.2.2.2, Qj m 95 #[(pt s 0), (Q4 a.2.2.2.2.2.2.1 m), (.string ⟨List.toArray a.2.2.2.2.2.2.2.1⟩), (.string ⟨List.toArray a.2.2.2.2.2.2.2.2.1⟩), (.string ⟨List.toArray a.2.2.2.2.2.2.2.2.2.1⟩), (.bool a.2.2.2.2.2.2.2.2.2.2)]]] 36 2 ⟨trivial, SP.drew c2⟩ ?_ ?_
               iterate 36 refine And.intro ?_ ?_
               exact trivial
               ·exact oV (hC (hS 12 (.bool a.2.2.2.2.2.1)) (h0)) (.bool a.2.2.2.2.2.1)
               ·exact oV (hC (hS 10 (.bool p)) (h0)) (.bool p)
               ·exact oV (hC (hA 0 59) (hC (hA 1 60) (h0))) (.bool (a.2.2.2.2.2.1 == p))
               ·exact oV (hC (hA 2 61) (h0)) (.bool (a.2.2.2.2.2.1 == p))
               ·exact oV (hC (hS 10 (.bool p)) (hC (hB 3 62 a3) (h0))) (.bool p)
               ·exact oV (hC (hA 4 63) (hC (hB 3 62 a3) (h0))) (.bool p)
               ·exact oV (hC (hS 7 (pt m 0)) (hC (hB 5 64 a5) (h0))) (pt m 0)
               ·refine oH 0 1 ?_
                ·rintro ρ' w' hs hah ⟨ar3, j3⟩
                 have c8 := hah 6 65 K
                 have c9 := hah 5 64 K
                 refine kN [(65, (pt m 0)), (64, (.bool true))] ⟨c8, (Eq.trans c9 (congrArg Value.bool a5)), trivial⟩ fun hkn => ?_
                 refine cF 36 #[(.tmp 65)] #[60] 66 Tryz.call36 (Qm m s A6 c7 u f.1 f.2.1 f.2.2.1 f.2.2.2.1 d9 f.2.2.2.2 a.2.2.2.2.2.2.1 a.2.2.2.2.2.2.2.1 a.2.2.2.2.2.2.2.2.1 a.2.2.2.2.2.2.2.2.2.1 a.2.2.2.2.2.2.2.2.2.2 w' (Ze j3 [0, 1, 2] rfl rfl) (fun w hm => Dp.mono _ (Vk j3 (l := [0, 1, 2]) rfl hm) b6) a0 f0) ?_
                 rintro e ac9 ⟨rfl, p5⟩
                 refine ⟨_, rfl, ?_⟩
                 have ad0 : SP [] w0 ac9 [Qj q 63 #[(.int .i64 a.1), (.string ⟨List.toArray a.2.1⟩), (.string ⟨List.toArray a.2.2.1⟩), (.int .i64 a.2.2.2.1), (.int .i64 a.2.2.2.2.1)], Qj s 79 #[(.int .i64 f.1), (.int .i64 f.2.1), (.int .i64 f.2.2.1), (.int .i64 f.2.2.2.1), (.slice A6 (List.length (List.map stT d9)) c7), (.map (some u))], Qz u f.2.2.2.2, Qj m 95 #[(pt s 0), (Q4 a.2.2.2.2.2.2.1 m), (.string ⟨List.toArray a.2.2.2.2.2.2.2.1⟩), (.string ⟨List.toArray a.2.2.2.2.2.2.2.2.1⟩), (.string ⟨List.toArray a.2.2.2.2.2.2.2.2.2.1⟩), (.bool a.2.2.2.2.2.2.2.2.2.2)]] := Va j3 [0, 1, 2] [3] rfl rfl p5 rfl
                 clear p5
                 refine ⟨_, Qa hkn, rfl, ?_⟩
                 exact (And.intro (And.intro rfl (trivial)) (ad0))
               ·exact oV (hC (hA 7 66) (hC (hB 5 64 a5) (h0))) (.bool (!a0))
               ·exact oV (hC (hB 5 64 a5) (hC (hA 8 67) (hC (hB 3 62 a3) (h0)))) (.bool (!a0))
               ·exact oV (hC (hB 3 62 a3) (hC (hA 9 68) (h0))) (.bool (!a0))
               ·exact oV (hC (hA 10 69) (h0)) (.bool (!a0))
               ·exact oV (hC (hS 12 (.bool a.2.2.2.2.2.1)) (hC (hB 11 70 b5) (h0))) (.bool a.2.2.2.2.2.1)
               ·exact oV (hC (hA 12 71) (hC (hB 11 70 b5) (h0))) (.bool a.2.2.2.2.2.1)
               ·exact oV (hC (hS 7 (pt m 0)) (hC (hB 13 72 a1) (h0))) (pt m 0)
               ·refine oH 1 2 ?_
                ·rintro ρ' w' hs hah ⟨⟨ad1, -⟩, j4⟩
                 have c0 := hah 14 73 K
                 have a6 := hah 13 72 K
                 refine kN [(73, (pt m 0)), (72, (.bool true))] ⟨c0, (Eq.trans a6 (congrArg Value.bool a1)), trivial⟩ fun hkn => ?_
                 refine cF 36 #[(.tmp 73)] #[60] 74 Tryz.call36 (Qm m s A6 c7 u f.1 f.2.1 f.2.2.1 f.2.2.2.1 d9 f.2.2.2.2 a.2.2.2.2.2.2.1 a.2.2.2.2.2.2.2.1 a.2.2.2.2.2.2.2.2.1 a.2.2.2.2.2.2.2.2.2.1 a.2.2.2.2.2.2.2.2.2.2 w' (Ze j4 [1, 2, 3] rfl rfl) (fun w hm => Dp.mono _ (Vk j4 (l := [1, 2, 3]) rfl hm) b6) a7 g1) ?_
                 rintro e ad2 ⟨rfl, p6⟩
                 refine ⟨_, rfl, ?_⟩
                 have ad3 : SP [] w0 ad2 [Qj q 63 #[(.int .i64 a.1), (.string ⟨List.toArray a.2.1⟩), (.string ⟨List.toArray a.2.2.1⟩), (.int .i64 a.2.2.2.1), (.int .i64 a.2.2.2.2.1)], Qj s 79 #[(.int .i64 f.1), (.int .i64 f.2.1), (.int .i64 f.2.2.1), (.int .i64 f.2.2.2.1), (.slice A6 (List.length (List.map stT d9)) c7), (.map (some u))], Qz u f.2.2.2.2, Qj m 95 #[(pt s 0), (Q4 a.2.2.2.2.2.2.1 m), (.string ⟨List.toArray a.2.2.2.2.2.2.2.1⟩), (.string ⟨List.toArray a.2.2.2.2.2.2.2.2.1⟩), (.string ⟨List.toArray a.2.2.2.2.2.2.2.2.2.1⟩), (.bool a.2.2.2.2.2.2.2.2.2.2)]] := Va j4 [1, 2, 3] [0] rfl rfl p6 rfl
                 clear p6
                 refine ⟨_, Qa hkn, rfl, ?_⟩
                 exact (And.intro (And.intro ad1 (And.intro rfl (trivial))) (ad3))
               ·exact oV (hC (hS 11 (pt q 0)) (hC (hB 13 72 a1) (h0))) (pt q 0)
               ·refine Owe.light K [1, 2] K (Qe ?_ (Qe ?_ Q9))
                ·rintro ρ' w' hs hah ⟨⟨ar4, -⟩, ad4⟩
                 have b3 := hah 16 75 K
                 have a6 := hah 13 72 K
                 refine kN [(75, (pt q 0)), (72, (.bool true))] ⟨b3, (Eq.trans a6 (congrArg Value.bool a1)), trivial⟩ fun hkn => ?_
                 refine sL 3 75 q 0 0 (.int .i64 a.1) 76 ad4 rfl ?_
                 exact eK hkn
                ·rintro ρ' w' hs hah ⟨⟨ar5, ar6, -⟩, ad5⟩
                 have b3 := hah 16 75 K
                 have a6 := hah 13 72 K
                 refine kN [(75, (pt q 0)), (72, (.bool true))] ⟨b3, (Eq.trans a6 (congrArg Value.bool a1)), trivial⟩ fun hkn => ?_
                 refine sL 3 75 q 0 0 (.int .i64 a.1) 76 ad5 rfl ?_
                 exact eK hkn
               ·exact oV (hC (hA 17 76) (hC (hB 13 72 a1) (h0))) (.bool (a.1 == 4))
               ·exact oV (hC (hA 18 77) (hC (hB 13 72 a1) (h0))) (.bool (a.1 == 4))
               ·exact oW (hC (hB 19 78 b7) (h0)) 79
               ·exact oW (hC (hB 19 78 b7) (h0)) 80
               ·exact oW (hC (hB 19 78 b7) (h0)) 81
               ·exact oV (hC (hB 19 78 b7) (hC (hA 22 81) (hC (hB 13 72 a1) (h0)))) (.bool true)
               ·exact oV (hC (hA 15 74) (hC (hA 23 82) (hC (hB 13 72 a1) (h0)))) (.bool (!(a7 == true)))
               ·exact oV (hC (hB 13 72 a1) (hC (hA 24 83) (hC (hB 11 70 b5) (h0)))) (.bool (!(a7 == true)))
               ·exact oV (hC (hB 11 70 b5) (hC (hA 25 84) (h0))) (.bool (!(a7 == true)))
               ·exact oV (hC (hA 26 85) (h0)) (.bool (!(a7 == true)))
               ·exact oV (hC (hS 12 (.bool a.2.2.2.2.2.1)) (hC (hB 27 86 c3) (h0))) (.bool a.2.2.2.2.2.1)
               ·exact oV (hC (hA 28 87) (hC (hB 27 86 c3) (h0))) (.bool (!a.2.2.2.2.2.1))
               ·exact oV (hC (hA 29 88) (hC (hB 27 86 c3) (h0))) (.bool (!a.2.2.2.2.2.1))
               ·refine oL 2 ?_
                ·rintro ρ' w' hs hah ⟨⟨ar7, ar8, -⟩, ad6⟩
                 have e0 : ρ' 11 = (pt q 0) := (hs 11 K).trans K
                 have c1 := hah 30 89 K
                 refine kN [(11, (pt q 0)), (89, (.bool true))] ⟨e0, (Eq.trans c1 (congrArg Value.bool d8)), trivial⟩ fun hkn => ?_
                 refine sL 63 11 q 0 0 (.agg #[(.int .i64 a.1), (.string ⟨List.toArray a.2.1⟩), (.string ⟨List.toArray a.2.2.1⟩), (.int .i64 a.2.2.2.1), (.int .i64 a.2.2.2.2.1)]) 90 ad6 rfl ?_
                 exact eK hkn
               ·exact oV (hC (hB 30 89 d8) (h0)) (.agg #[(.int .i64 0), (.string ⟨List.toArray ([] : List UInt8)⟩), (.string ⟨List.toArray ([] : List UInt8)⟩), (.int .i64 0), (.int .i64 0)])
               ·refine oL 2 ?_
                ·rintro ρ' w' hs hah ⟨⟨ar9, as0, -⟩, as1⟩
                 have e1 := hah 31 90 K
                 have e2 := hah 32 91 K
                 have c1 := hah 30 89 K
                 refine kN [(90, (.agg #[(.int .i64 a.1), (.string ⟨List.toArray a.2.1⟩), (.string ⟨List.toArray a.2.2.1⟩), (.int .i64 a.2.2.2.1), (.int .i64 a.2.2.2.2.1)])), (91, (.agg #[(.int .i64 0), (.string ⟨List.toArray ([] : List UInt8)⟩), (.string ⟨List.toArray ([] : List UInt8)⟩), (.int .i64 0), (.int .i64 0)])), (89, (.bool true))] ⟨e1, e2, (Eq.trans c1 (congrArg Value.bool d8)), trivial⟩ fun hkn => ?_
                 refine Uy (op := .neq) (T := 63) (T' := 63) (x := (.tmp 90)) (y := (.tmp 91)) (vx := (.agg #[(.int .i64 a.1), (.string ⟨List.toArray a.2.1⟩), (.string ⟨List.toArray a.2.2.1⟩), (.int .i64 a.2.2.2.1), (.int .i64 a.2.2.2.2.1)])) (vy := (.agg #[(.int .i64 0), (.string ⟨List.toArray ([] : List UInt8)⟩), (.string ⟨List.toArray ([] : List UInt8)⟩), (.int .i64 0), (.int .i64 0)])) (v := (.bool (!((a.1 == 0) && ((a.2.1 == ([] : List UInt8)) && ((a.2.2.1 == ([] : List UInt8)) && ((a.2.2.2.1 == 0) && (a.2.2.2.2.1 == 0)))))))) (d := (some 92)) (k := 33) K rfl K K (by clear H; intro w; simp only [Jt]; go_simp; simp only [Ub, Jg, U4, Jt, Bool.and_true] <;> simp only [Bool.not_and]) ?_
                 exact eK hkn
               ·exact oV (hC (hB 30 89 d8) (hC (hA 33 92) (hC (hB 27 86 c3) (h0)))) (.bool (!((a.1 == 0) && ((a.2.1 == ([] : List UInt8)) && ((a.2.2.1 == ([] : List UInt8)) && ((a.2.2.2.1 == 0) && (a.2.2.2.2.1 == 0)))))))
               ·exact oV (hC (hB 27 86 c3) (hC (hA 34 93) (h0))) (.bool (!((a.1 == 0) && ((a.2.1 == ([] : List UInt8)) && ((a.2.2.1 == ([] : List UInt8)) && ((a.2.2.2.1 == 0) && (a.2.2.2.2.1 == 0)))))))
               ·rintro ρ' w' hs hf ⟨⟨as2, as3, -⟩, p7⟩
                refine Q1 [(1, (.slice b0 (List.length a9) b1)), (5, (.bool b2)), (7, (pt m 0)), (8, (.int .i64 b4)), (9, (.int .i64 a4)), (12, (.bool a.2.2.2.2.2.1)), (94, (.bool (!((a.1 == 0) && ((a.2.1 == ([] : List UInt8)) && ((a.2.2.1 == ([] : List UInt8)) && ((a.2.2.2.1 == 0) && (a.2.2.2.2.1 == 0))))))))] ⟨(hs 1 K).trans K, (hs 5 K).trans K, (hs 7 K).trans K, (hs 8 K).trans K, (hs 9 K).trans K, (hs 12 K).trans K, hf 35 94 K, trivial⟩ ?_
                obtain ⟨as4, ad7⟩ : ∃ x, w' = x := ⟨_, rfl⟩
                rw [ad7] at p7 ⊢
                exact ⟨(!((a.1 == 0) && ((a.2.1 == ([] : List UInt8)) && ((a.2.2.1 == ([] : List UInt8)) && ((a.2.2.2.1 == 0) && (a.2.2.2.2.1 == 0)))))), ⟨K, K, K, K, K, K, K, trivial⟩, SP.sel p7 [3, 1, 2] rfl rfl, H⟩
              ·have H := cf H d8
               refine aG [GEq (.bool a.2.2.2.2.2.1), GEq (.bool p), GEq (.bool (a.2.2.2.2.2.1 == p)), GEq (.bool (a.2.2.2.2.2.1 == p)), GEq (.bool p), GEq (.bool p), GEq (pt m 0), GEq (.bool a0), GEq (.bool (!a0)), GEq (.bool (!a0)), GEq (.bool (!a0)), GEq (.bool (!a0)), GEq (.bool a.2.2.2.2.2.1), GEq (.bool a.2.2.2.2.2.1), GEq (pt m 0), GEq (.bool a7), GEq (pt q 0), GEq (.int .i64 a.1), GEq (.bool (a.1 == 4)), GEq (.bool (a.1 == 4)), GEq undef, GEq undef, GEq undef, GEq (.bool true), GEq (.bool (!(a7 == true))), GEq (.bool (!(a7 == true))), GEq (.bool (!(a7 == true))), GEq (.bool (!(a7 == true))), GEq (.bool a.2.2.2.2.2.1), GEq (.bool (!a.2.2.2.2.2.1)), GEq (.bool (!a.2.2.2.2.2.1)), GEq undef, GEq undef, GEq undef, GEq (.bool false), GEq (.bool false)] [7, 15] [sG [] [] [] w0 [Qj s 79 #[(.int .i64 f.1), (.int .i64 f.2.1), (.int .i64 f.2.2.1), (.int .i64 f.2.2.2.1), (.slice A6 (List.length (List.map stT d9)) c7), (.map (some u))], Qz u f.2.2.2.2, Qj m 95 #[(pt s 0), (Q4 a.2.2.2.2.2.2.1 m), (.string ⟨List.toArray a.2.2.2.2.2.2.2.1⟩), (.string ⟨List.toArray a.2.2.2.2.2.2.2.2.1⟩), (.string ⟨List.toArray a.2.2.2.2.2.2.2.2.2.1⟩), (.bool a.2.2.2.2.2.2.2.2.2.2)], Qj q 63 #[(.int .i64 a.1), (.string ⟨List.toArray a.2.1⟩), (.string ⟨List.toArray a.2.2.1⟩), (.int .i64 a.2.2.2.1), (.int .i64 a.2.2.2.2.1)]], sG [7] [(.bool a0)] [] w0 [Qj q 63 #[(.int .i64 a.1), (.string ⟨List.toArray a.2.1⟩), (.string ⟨List.toArray a.2.2.1⟩), (.int .i64 a.2.2.2.1), (.int .i64 a.2.2.2.2.1)], Qj s 79 #[(.int .i64 f.1), (.int .i64 f.2.1), (.int .i64 f.2.2.1), (.int .i64 f.2.2.2.1), (.slice A6 (List.length (List.map stT d9)) c7), (.map (some u))], Qz u f.2.2.2.2, Qj m 95 #[(pt s 0), (Q4 a.2.2.2.2.2.2.1 m), (.string ⟨List.toArray a.2.2.2.2.2.2.2.1⟩), (.string ⟨List.toArray a.2.2.2.2.2.2.2.2.1⟩), (.string ⟨List.toArray a.2.2.2.2.2.2.2.2.2.1⟩), (.bool a.2.2.2.2.2.2.2.2.2.2)]], sG [7, 15] [(.bool a0), (.bool a7)] [] w0 [Qj q 63 #[(.int .i64 a.1), (.string ⟨List.toArray a.2.1⟩), (.string ⟨List.toArray a.2.2.1⟩), (.int .i64 a.2.2.2.1), (.int .i64 a.2.2.2.2.1)], Qj s 79 #[(.int .i64 f.1), (.int .i64 f.2.1), (.int .i64 f.2.2.1), (.int .i64 f.2.2.2.1), (.slice A6 (List.length (List.map stT d9)) c7), (.map (some u))], Qz u f.2.2.2.2, Qj m 95 #[(pt s 0), (Q4 a.2.2.2.2.2.2.1 m), (.string ⟨List.toArray a.2.2.2.2.2.2.2.1⟩), (.string ⟨List.toArray a.2.2.2.2.2.2.2.2.1⟩), (.string ⟨List.toArray a.2.2.2.2.2.2.2.2.2.1⟩), (.bool a.2.2.2.2.2.2.2.2.2.2)]]] 36 2 ⟨trivial, SP.drew c2⟩ ?_ ?_
               iterate 36 refine And.intro ?_ ?_
               exact trivial
               ·exact oV (hC (hS 12 (.bool a.2.2.2.2.2.1)) (h0)) (.bool a.2.2.2.2.2.1)
               ·exact oV (hC (hS 10 (.bool p)) (h0)) (.bool p)
               ·exact oV (hC (hA 0 59) (hC (hA 1 60) (h0))) (.bool (a.2.2.2.2.2.1 == p))
               ·exact oV (hC (hA 2 61) (h0)) (.bool (a.2.2.2.2.2.1 == p))
               ·exact oV (hC (hS 10 (.bool p)) (hC (hB 3 62 a3) (h0))) (.bool p)
               ·exact oV (hC (hA 4 63) (hC (hB 3 62 a3) (h0))) (.bool p)
               ·exact oV (hC (hS 7 (pt m 0)) (hC (hB 5 64 a5) (h0))) (pt m 0)
               ·refine oH 0 1 ?_
                ·rintro ρ' w' hs hah ⟨as5, j5⟩
                 have c8 := hah 6 65 K
                 have c9 := hah 5 64 K
                 refine kN [(65, (pt m 0)), (64, (.bool true))] ⟨c8, (Eq.trans c9 (congrArg Value.bool a5)), trivial⟩ fun hkn => ?_
                 refine cF 36 #[(.tmp 65)] #[60] 66 Tryz.call36 (Qm m s A6 c7 u f.1 f.2.1 f.2.2.1 f.2.2.2.1 d9 f.2.2.2.2 a.2.2.2.2.2.2.1 a.2.2.2.2.2.2.2.1 a.2.2.2.2.2.2.2.2.1 a.2.2.2.2.2.2.2.2.2.1 a.2.2.2.2.2.2.2.2.2.2 w' (Ze j5 [0, 1, 2] rfl rfl) (fun w hm => Dp.mono _ (Vk j5 (l := [0, 1, 2]) rfl hm) b6) a0 f0) ?_
                 rintro e ad8 ⟨rfl, p8⟩
                 refine ⟨_, rfl, ?_⟩
                 have ad9 : SP [] w0 ad8 [Qj q 63 #[(.int .i64 a.1), (.string ⟨List.toArray a.2.1⟩), (.string ⟨List.toArray a.2.2.1⟩), (.int .i64 a.2.2.2.1), (.int .i64 a.2.2.2.2.1)], Qj s 79 #[(.int .i64 f.1), (.int .i64 f.2.1), (.int .i64 f.2.2.1), (.int .i64 f.2.2.2.1), (.slice A6 (List.length (List.map stT d9)) c7), (.map (some u))], Qz u f.2.2.2.2, Qj m 95 #[(pt s 0), (Q4 a.2.2.2.2.2.2.1 m), (.string ⟨List.toArray a.2.2.2.2.2.2.2.1⟩), (.string ⟨List.toArray a.2.2.2.2.2.2.2.2.1⟩), (.string ⟨List.toArray a.2.2.2.2.2.2.2.2.2.1⟩), (.bool a.2.2.2.2.2.2.2.2.2.2)]] := Va j5 [0, 1, 2] [3] rfl rfl p8 rfl
                 clear p8
                 refine ⟨_, Qa hkn, rfl, ?_⟩
                 exact (And.intro (And.intro rfl (trivial)) (ad9))
               ·exact oV (hC (hA 7 66) (hC (hB 5 64 a5) (h0))) (.bool (!a0))
               ·exact oV (hC (hB 5 64 a5) (hC (hA 8 67) (hC (hB 3 62 a3) (h0)))) (.bool (!a0))
               ·exact oV (hC (hB 3 62 a3) (hC (hA 9 68) (h0))) (.bool (!a0))
               ·exact oV (hC (hA 10 69) (h0)) (.bool (!a0))
               ·exact oV (hC (hS 12 (.bool a.2.2.2.2.2.1)) (hC (hB 11 70 b5) (h0))) (.bool a.2.2.2.2.2.1)
               ·exact oV (hC (hA 12 71) (hC (hB 11 70 b5) (h0))) (.bool a.2.2.2.2.2.1)
               ·exact oV (hC (hS 7 (pt m 0)) (hC (hB 13 72 a1) (h0))) (pt m 0)
               ·refine oH 1 2 ?_
                ·rintro ρ' w' hs hah ⟨⟨ae0, -⟩, j6⟩
                 have c0 := hah 14 73 K
                 have a6 := hah 13 72 K
                 refine kN [(73, (pt m 0)), (72, (.bool true))] ⟨c0, (Eq.trans a6 (congrArg Value.bool a1)), trivial⟩ fun hkn => ?_
                 refine cF 36 #[(.tmp 73)] #[60] 74 Tryz.call36 (Qm m s A6 c7 u f.1 f.2.1 f.2.2.1 f.2.2.2.1 d9 f.2.2.2.2 a.2.2.2.2.2.2.1 a.2.2.2.2.2.2.2.1 a.2.2.2.2.2.2.2.2.1 a.2.2.2.2.2.2.2.2.2.1 a.2.2.2.2.2.2.2.2.2.2 w' (Ze j6 [1, 2, 3] rfl rfl) (fun w hm => Dp.mono _ (Vk j6 (l := [1, 2, 3]) rfl hm) b6) a7 g1) ?_
                 rintro e ae1 ⟨rfl, p9⟩
                 refine ⟨_, rfl, ?_⟩
                 have ae2 : SP [] w0 ae1 [Qj q 63 #[(.int .i64 a.1), (.string ⟨List.toArray a.2.1⟩), (.string ⟨List.toArray a.2.2.1⟩), (.int .i64 a.2.2.2.1), (.int .i64 a.2.2.2.2.1)], Qj s 79 #[(.int .i64 f.1), (.int .i64 f.2.1), (.int .i64 f.2.2.1), (.int .i64 f.2.2.2.1), (.slice A6 (List.length (List.map stT d9)) c7), (.map (some u))], Qz u f.2.2.2.2, Qj m 95 #[(pt s 0), (Q4 a.2.2.2.2.2.2.1 m), (.string ⟨List.toArray a.2.2.2.2.2.2.2.1⟩), (.string ⟨List.toArray a.2.2.2.2.2.2.2.2.1⟩), (.string ⟨List.toArray a.2.2.2.2.2.2.2.2.2.1⟩), (.bool a.2.2.2.2.2.2.2.2.2.2)]] := Va j6 [1, 2, 3] [0] rfl rfl p9 rfl
                 clear p9
                 refine ⟨_, Qa hkn, rfl, ?_⟩
                 exact (And.intro (And.intro ae0 (And.intro rfl (trivial))) (ae2))
               ·exact oV (hC (hS 11 (pt q 0)) (hC (hB 13 72 a1) (h0))) (pt q 0)
               ·refine Owe.light K [1, 2] K (Qe ?_ (Qe ?_ Q9))
                ·rintro ρ' w' hs hah ⟨⟨as6, -⟩, ae3⟩
                 have b3 := hah 16 75 K
                 have a6 := hah 13 72 K
                 refine kN [(75, (pt q 0)), (72, (.bool true))] ⟨b3, (Eq.trans a6 (congrArg Value.bool a1)), trivial⟩ fun hkn => ?_
                 refine sL 3 75 q 0 0 (.int .i64 a.1) 76 ae3 rfl ?_
                 exact eK hkn
                ·rintro ρ' w' hs hah ⟨⟨as7, as8, -⟩, ae4⟩
                 have b3 := hah 16 75 K
                 have a6 := hah 13 72 K
                 refine kN [(75, (pt q 0)), (72, (.bool true))] ⟨b3, (Eq.trans a6 (congrArg Value.bool a1)), trivial⟩ fun hkn => ?_
                 refine sL 3 75 q 0 0 (.int .i64 a.1) 76 ae4 rfl ?_
                 exact eK hkn
               ·exact oV (hC (hA 17 76) (hC (hB 13 72 a1) (h0))) (.bool (a.1 == 4))
               ·exact oV (hC (hA 18 77) (hC (hB 13 72 a1) (h0))) (.bool (a.1 == 4))
               ·exact oW (hC (hB 19 78 b7) (h0)) 79
               ·exact oW (hC (hB 19 78 b7) (h0)) 80
               ·exact oW (hC (hB 19 78 b7) (h0)) 81
               ·exact oV (hC (hB 19 78 b7) (hC (hA 22 81) (hC (hB 13 72 a1) (h0)))) (.bool true)
               ·exact oV (hC (hA 15 74) (hC (hA 23 82) (hC (hB 13 72 a1) (h0)))) (.bool (!(a7 == true)))
               ·exact oV (hC (hB 13 72 a1) (hC (hA 24 83) (hC (hB 11 70 b5) (h0)))) (.bool (!(a7 == true)))
               ·exact oV (hC (hB 11 70 b5) (hC (hA 25 84) (h0))) (.bool (!(a7 == true)))
               ·exact oV (hC (hA 26 85) (h0)) (.bool (!(a7 == true)))
               ·exact oV (hC (hS 12 (.bool a.2.2.2.2.2.1)) (hC (hB 27 86 c3) (h0))) (.bool a.2.2.2.2.2.1)
               ·exact oV (hC (hA 28 87) (hC (hB 27 86 c3) (h0))) (.bool (!a.2.2.2.2.2.1))
               ·exact oV (hC (hA 29 88) (hC (hB 27 86 c3) (h0))) (.bool (!a.2.2.2.2.2.1))
               ·exact oW (hC (hB 30 89 d8) (h0)) 90
               ·exact oW (hC (hB 30 89 d8) (h0)) 91
               ·exact oW (hC (hB 30 89 d8) (h0)) 92
               ·exact oV (hC (hB 30 89 d8) (hC (hA 33 92) (hC (hB 27 86 c3) (h0)))) (.bool false)
               ·exact oV (hC (hB 27 86 c3) (hC (hA 34 93) (h0))) (.bool false)
               ·rintro ρ' w' hs hf ⟨⟨as9, at0, -⟩, q0⟩
                refine Q1 [(1, (.slice b0 (List.length a9) b1)), (5, (.bool b2)), (7, (pt m 0)), (8, (.int .i64 b4)), (9, (.int .i64 a4)), (12, (.bool a.2.2.2.2.2.1)), (94, (.bool false))] ⟨(hs 1 K).trans K, (hs 5 K).trans K, (hs 7 K).trans K, (hs 8 K).trans K, (hs 9 K).trans K, (hs 12 K).trans K, hf 35 94 K, trivial⟩ ?_
                obtain ⟨at1, ae5⟩ : ∃ x, w' = x := ⟨_, rfl⟩
                rw [ae5] at q0 ⊢
                exact ⟨false, ⟨K, K, K, K, K, K, K, trivial⟩, SP.sel q0 [3, 1, 2] rfl rfl, H⟩
            ·have H := cf H b7
             rcases Bool.eq_false_or_eq_true (!(a7 == (a.1 == 5))) with c4 | c4
             ·have H := ct H c4
              refine aG [GEq (.bool a.2.2.2.2.2.1), GEq (.bool p), GEq (.bool (a.2.2.2.2.2.1 == p)), GEq (.bool (a.2.2.2.2.2.1 == p)), GEq (.bool p), GEq (.bool p), GEq (pt m 0), GEq (.bool a0), GEq (.bool (!a0)), GEq (.bool (!a0)), GEq (.bool (!a0)), GEq (.bool (!a0)), GEq (.bool a.2.2.2.2.2.1), GEq (.bool a.2.2.2.2.2.1), GEq (pt m 0), GEq (.bool a7), GEq (pt q 0), GEq (.int .i64 a.1), GEq (.bool (a.1 == 4)), GEq (.bool (a.1 == 4)), GEq (pt q 0), GEq (.int .i64 a.1), GEq (.bool (a.1 == 5)), GEq (.bool (a.1 == 5)), GEq (.bool (!(a7 == (a.1 == 5)))), GEq (.bool (!(a7 == (a.1 == 5)))), GEq (.bool (!(a7 == (a.1 == 5)))), GEq (.bool (!(a7 == (a.1 == 5)))), GEq undef, GEq undef, GEq undef, GEq undef, GEq undef, GEq undef, GEq undef, GEq (.bool true)] [7, 15] [sG [] [] [] w0 [Qj s 79 #[(.int .i64 f.1), (.int .i64 f.2.1), (.int .i64 f.2.2.1), (.int .i64 f.2.2.2.1), (.slice A6 (List.length (List.map stT d9)) c7), (.map (some u))], Qz u f.2.2.2.2, Qj m 95 #[(pt s 0), (Q4 a.2.2.2.2.2.2.1 m), (.string ⟨List.toArray a.2.2.2.2.2.2.2.1⟩), (.string ⟨List.toArray a.2.2.2.2.2.2.2.2.1⟩), (.string ⟨List.toArray a.2.2.2.2.2.2.2.2.2.1⟩), (.bool a.2.2.2.2.2.2.2.2.2.2)], Qj q 63 #[(.int .i64 a.1), (.string ⟨List.toArray a.2.1⟩), (.string ⟨List.toArray a.2.2.1⟩), (.int .i64 a.2.2.2.1), (.int .i64 a.2.2.2.2.1)]], sG [7] [(.bool a0)] [] w0 [Qj q 63 #[(.int .i64 a.1), (.string ⟨List.toArray a.2.1⟩), (.string ⟨List.toArray a.2.2.1⟩), (.int .i64 a.2.2.2.1), (.int .i64 a.2.2.2.2.1)], Qj s 79 #[(.int .i64 f.1), (.int .i64 f.2.1), (.int .i64 f.2.2.1), (.int .i64 f.2.2.2.1), (.slice A6 (List.length (List.map stT d9)) c7), (.map (some u))], Qz u f.2.2.2.2, Qj m 95 #[(pt s 0), (Q4 a.2.2.2.2.2.2.1 m), (.string ⟨List.toArray a.2.2.2.2.2.2.2.1⟩), (.string ⟨List.toArray a.2.2.2.2.2.2.2.2.1⟩), (.string ⟨List.toArray a.2.2.2.2.2.2.2.2.2.1⟩), (.bool a.2.2.2.2.2.2.2.2.2.2)]], sG [7, 15] [(.bool a0), (.bool a7)] [] w0 [Qj q 63 #[(.int .i64 a.1), (.string ⟨List.toArray a.2.1⟩), (.string ⟨List.toArray a.2.2.1⟩), (.int .i64 a.2.2.2.1), (.int .i64 a.2.2.2.2.1)], Qj s 79 #[(.int .i64 f.1), (.int .i64 f.2.1), (.int .i64 f.2.2.1), (.int .i64 f.2.2.2.1), (.slice A6 (List.length (List.map stT d9)) c7), (.map (some u))], Qz u f.2.2.2.2, Qj m 95 #[(pt s 0), (Q4 a.2.2.2.2.2.2.1 m), (.string ⟨List.toArray a.2.2.2.2.2.2.2.1⟩), (.string ⟨List.toArray a.2.2.2.2.2.2.2.2.1⟩), (.string ⟨List.toArray a.2.2.2.2.2.2.2.2.2.1⟩), (.bool a.2.2.2.2.2.2.2.2.2.2)]]] 36 2 ⟨trivial, SP.drew c2⟩ ?_ ?_
              iterate 36 refine And.intro ?_ ?_
              exact trivial
              ·exact oV (hC (hS 12 (.bool a.2.2.2.2.2.1)) (h0)) (.bool a.2.2.2.2.2.1)
              ·exact oV (hC (hS 10 (.bool p)) (h0)) (.bool p)
              ·exact oV (hC (hA 0 59) (hC (hA 1 60) (h0))) (.bool (a.2.2.2.2.2.1 == p))
              ·exact oV (hC (hA 2 61) (h0)) (.bool (a.2.2.2.2.2.1 == p))
              ·exact oV (hC (hS 10 (.bool p)) (hC (hB 3 62 a3) (h0))) (.bool p)
              ·exact oV (hC (hA 4 63) (hC (hB 3 62 a3) (h0))) (.bool p)
              ·exact oV (hC (hS 7 (pt m 0)) (hC (hB 5 64 a5) (h0))) (pt m 0)
              ·refine oH 0 1 ?_
               ·rintro ρ' w' hs hah ⟨at2, j7⟩
                have c8 := hah 6 65 K
                have c9 := hah 5 64 K
                refine kN [(65, (pt m 0)), (64, (.bool true))] ⟨c8, (Eq.trans c9 (congrArg Value.bool a5)), trivial⟩ fun hkn => ?_
                refine cF 36 #[(.tmp 65)] #[60] 66 Tryz.call36 (Qm m s A6 c7 u f.1 f.2.1 f.2.2.1 f.2.2.2.1 d9 f.2.2.2.2 a.2.2.2.2.2.2.1 a.2.2.2.2.2.2.2.1 a.2.2.2.2.2.2.2.2.1 a.2.2.2.2.2.2.2.2.2.1 a.2.2.2.2.2.2.2.2.2.2 w' (Ze j7 [0, 1, 2] rfl rfl) (fun w hm => Dp.mono _ (Vk j7 (l := [0, 1, 2]) rfl hm) b6) a0 f0) ?_
                rintro e ae6 ⟨rfl, q1⟩
                refine ⟨_, rfl, ?_⟩
                have ae7 : SP [] w0 ae6 [Qj q 63 #[(.int .i64 a.1), (.string ⟨List.toArray a.2.1⟩), (.string ⟨List.toArray a.2.2.1⟩), (.int .i64 a.2.2.2.1), (.int .i64 a.2.2.2.2.1)], Qj s 79 #[(.int .i64 f.1), (.int .i64 f.2.1), (.int .i64 f.2.2.1), (.int .i64 f.2.2.2.1), (.slice A6 (List.length (List.map stT d9)) c7), (.map (some u))], Qz u f.2.2.2.2, Qj m 95 #[(pt s 0), (Q4 a.2.2.2.2.2.2.1 m), (.string ⟨List.toArray a.2.2.2.2.2.2.2.1⟩), (.string ⟨List.toArray a.2.2.2.2.2.2.2.2.1⟩), (.string ⟨List.toArray a.2.2.2.2.2.2.2.2.2.1⟩), (.bool a.2.2.2.2.2.2.2.2.2.2)]] := Va j7 [0, 1, 2] [3] rfl rfl q1 rfl
                clear q1
                refine ⟨_, Qa hkn, rfl, ?_⟩
                exact (And.intro (And.intro rfl (trivial)) (ae7))
              ·exact oV (hC (hA 7 66) (hC (hB 5 64 a5) (h0))) (.bool (!a0))
              ·exact oV (hC (hB 5 64 a5) (hC (hA 8 67) (hC (hB 3 62 a3) (h0)))) (.bool (!a0))
              ·exact oV (hC (hB 3 62 a3) (hC (hA 9 68) (h0))) (.bool (!a0))
              ·exact oV (hC (hA 10 69) (h0)) (.bool (!a0))
              ·exact oV (hC (hS 12 (.bool a.2.2.2.2.2.1)) (hC (hB 11 70 b5) (h0))) (.bool a.2.2.2.2.2.1)
              ·exact oV (hC (hA 12 71) (hC (hB 11 70 b5) (h0))) (.bool a.2.2.2.2.2.1)
              ·exact oV (hC (hS 7 (pt m 0)) (hC (hB 13 72 a1) (h0))) (pt m 0)
              ·refine oH 1 2 ?_
               ·rintro ρ' w' hs hah ⟨⟨ae8, -⟩, j8⟩
                have c0 := hah 14 73 K
                have a6 := hah 13 72 K
                refine kN [(73, (pt m 0)), (72, (.bool true))] ⟨c0, (Eq.trans a6 (congrArg Value.bool a1)), trivial⟩ fun hkn => ?_
                refine cF 36 #[(.tmp 73)] #[60] 74 Tryz.call36 (Qm m s A6 c7 u f.1 f.2.1 f.2.2.1 f.2.2.2.1 d9 f.2.2.2.2 a.2.2.2.2.2.2.1 a.2.2.2.2.2.2.2.1 a.2.2.2.2.2.2.2.2.1 a.2.2.2.2.2.2.2.2.2.1 a.2.2.2.2.2.2.2.2.2.2 w' (Ze j8 [1, 2, 3] rfl rfl) (fun w hm => Dp.mono _ (Vk j8 (l := [1, 2, 3]) rfl hm) b6) a7 g1) ?_
                rintro e ae9 ⟨rfl, q2⟩
                refine ⟨_, rfl, ?_⟩
                have af0 : SP [] w0 ae9 [Qj q 63 #[(.int .i64 a.1), (.string ⟨List.toArray a.2.1⟩), (.string ⟨List.toArray a.2.2.1⟩), (.int .i64 a.2.2.2.1), (.int .i64 a.2.2.2.2.1)], Qj s 79 #[(.int .i64 f.1), (.int .i64 f.2.1), (.int .i64 f.2.2.1), (.int .i64 f.2.2.2.1), (.slice A6 (List.length (List.map stT d9)) c7), (.map (some u))], Qz u f.2.2.2.2, Qj m 95 #[(pt s 0), (Q4 a.2.2.2.2.2.2.1 m), (.string ⟨List.toArray a.2.2.2.2.2.2.2.1⟩), (.string ⟨List.toArray a.2.2.2.2.2.2.2.2.1⟩), (.string ⟨List.toArray a.2.2.2.2.2.2.2.2.2.1⟩), (.bool a.2.2.2.2.2.2.2.2.2.2)]] := Va j8 [1, 2, 3] [0] rfl rfl q2 rfl
                clear q2
                refine ⟨_, Qa hkn, rfl, ?_⟩
                exact (And.intro (And.intro ae8 (And.intro rfl (trivial))) (af0))
              ·exact oV (hC (hS 11 (pt q 0)) (hC (hB 13 72 a1) (h0))) (pt q 0)
              ·refine Owe.light K [1, 2] K (Qe ?_ (Qe ?_ Q9))
               ·rintro ρ' w' hs hah ⟨⟨at3, -⟩, af1⟩
                have b3 := hah 16 75 K
                have a6 := hah 13 72 K
                refine kN [(75, (pt q 0)), (72, (.bool true))] ⟨b3, (Eq.trans a6 (congrArg Value.bool a1)), trivial⟩ fun hkn => ?_
                refine sL 3 75 q 0 0 (.int .i64 a.1) 76 af1 rfl ?_
                exact eK hkn
               ·rintro ρ' w' hs hah ⟨⟨at4, at5, -⟩, af2⟩
                have b3 := hah 16 75 K
                have a6 := hah 13 72 K
                refine kN [(75, (pt q 0)), (72, (.bool true))] ⟨b3, (Eq.trans a6 (congrArg Value.bool a1)), trivial⟩ fun hkn => ?_
                refine sL 3 75 q 0 0 (.int .i64 a.1) 76 af2 rfl ?_
                exact eK hkn
              ·exact oV (hC (hA 17 76) (hC (hB 13 72 a1) (h0))) (.bool (a.1 == 4))
              ·exact oV (hC (hA 18 77) (hC (hB 13 72 a1) (h0))) (.bool (a.1 == 4))
              ·exact oV (hC (hS 11 (pt q 0)) (hC (hB 19 78 b7) (h0))) (pt q 0)
              ·refine oL 2 ?_
               ·rintro ρ' w' hs hah ⟨⟨at6, at7, -⟩, af3⟩
                have e3 := hah 20 79 K
                have e4 := hah 19 78 K
                refine kN [(79, (pt q 0)), (78, (.bool false))] ⟨e3, (Eq.trans e4 (congrArg Value.bool b7)), trivial⟩ fun hkn => ?_
                refine sL 3 79 q 0 0 (.int .i64 a.1) 80 af3 rfl ?_
                exact eK hkn
              ·exact oV (hC (hA 21 80) (hC (hB 19 78 b7) (h0))) (.bool (a.1 == 5))
              ·exact oV (hC (hB 19 78 b7) (hC (hA 22 81) (hC (hB 13 72 a1) (h0)))) (.bool (a.1 == 5))
              ·exact oV (hC (hA 15 74) (hC (hA 23 82) (hC (hB 13 72 a1) (h0)))) (.bool (!(a7 == (a.1 == 5))))
              ·exact oV (hC (hB 13 72 a1) (hC (hA 24 83) (hC (hB 11 70 b5) (h0)))) (.bool (!(a7 == (a.1 == 5))))
              ·exact oV (hC (hB 11 70 b5) (hC (hA 25 84) (h0))) (.bool (!(a7 == (a.1 == 5))))
              ·exact oV (hC (hA 26 85) (h0)) (.bool (!(a7 == (a.1 == 5))))
              ·exact oW (hC (hB 27 86 c4) (h0)) 87
              ·exact oW (hC (hB 27 86 c4) (h0)) 88
              ·exact oW (hC (hB 27 86 c4) (h0)) 89
              ·exact oW (hC (hA 30 89) (h0)) 90
              ·exact oW (hC (hA 30 89) (h0)) 91
              ·exact oW (hC (hA 30 89) (h0)) 92
              ·exact oW (hC (hB 27 86 c4) (h0)) 93
              ·exact oV (hC (hB 27 86 c4) (hC (hA 34 93) (h0))) (.bool true)
              ·rintro ρ' w' hs hf ⟨⟨at8, at9, -⟩, q3⟩
               refine Q1 [(1, (.slice b0 (List.length a9) b1)), (5, (.bool b2)), (7, (pt m 0)), (8, (.int .i64 b4)), (9, (.int .i64 a4)), (12, (.bool a.2.2.2.2.2.1)), (94, (.bool true))] ⟨(hs 1 K).trans K, (hs 5 K).trans K, (hs 7 K).trans K, (hs 8 K).trans K, (hs 9 K).trans K, (hs 12 K).trans K, hf 35 94 K, trivial⟩ ?_
               obtain ⟨au0, af4⟩ : ∃ x, w' = x := ⟨_, rfl⟩
               rw [af4] at q3 ⊢
               exact ⟨true, ⟨K, K, K, K, K, K, K, trivial⟩, SP.sel q3 [3, 1, 2] rfl rfl, H⟩
             ·have H := cf H c4
              rcases Bool.eq_false_or_eq_true (!a.2.2.2.2.2.1) with e5 | e5
              ·have H := ct H e5
               refine aG [GEq (.bool a.2.2.2.2.2.1), GEq (.bool p), GEq (.bool (a.2.2.2.2.2.1 == p)), GEq (.bool (a.2.2.2.2.2.1 == p)), GEq (.bool p), GEq (.bool p), GEq (pt m 0), GEq (.bool a0), GEq (.bool (!a0)), GEq (.bool (!a0)), GEq (.bool (!a0)), GEq (.bool (!a0)), GEq (.bool a.2.2.2.2.2.1), GEq (.bool a.2.2.2.2.2.1), GEq (pt m 0), GEq (.bool a7), GEq (pt q 0), GEq (.int .i64 a.1), GEq (.bool (a.1 == 4)), GEq (.bool (a.1 == 4)), GEq (pt q 0), GEq (.int .i64 a.1), GEq (.bool (a.1 == 5)), GEq (.bool (a.1 == 5)), GEq (.bool (!(a7 == (a.1 == 5)))), GEq (.bool (!(a7 == (a.1 == 5)))), GEq (.bool (!(a7 == (a.1 == 5)))), GEq (.bool (!(a7 == (a.1 == 5)))), GEq (.bool a.2.2.2.2.2.1), GEq (.bool (!a.2.2.2.2.2.1)), GEq (.bool (!a.2.2.2.2.2.1)), GEq (.agg #[(.int .i64 a.1), (.string ⟨List.toArray a.2.1⟩), (.string ⟨List.toArray a.2.2.1⟩), (.int .i64 a.2.2.2.1), (.int .i64 a.2.2.2.2.1)]), GEq (.agg #[(.int .i64 0), (.string ⟨List.toArray ([] : List UInt8)⟩), (.string ⟨List.toArray ([] : List UInt8)⟩), (.int .i64 0), (.int .i64 0)]), GEq (.bool (!((a.1 == 0) && ((a.2.1 == ([] : List UInt8)) && ((a.2.2.1 == ([] : List UInt8)) && ((a.2.2.2.1 == 0) && (a.2.2.2.2.1 == 0))))))), GEq (.bool (!((a.1 == 0) && ((a.2.1 == ([] : List UInt8)) && ((a.2.2.1 == ([] : List UInt8)) && ((a.2.2.2.1 == 0) && (a.2.2.2.2.1 == 0))))))), GEq (.bool (!((a.1 == 0) && ((a.2.1 == ([] : List UInt8)) && ((a.2.2.1 == ([] : List UInt8)) && ((a.2.2.2.1 == 0) && (a.2.2.2.2.1 == 0)))))))] [7, 15] [sG [] [] [] w0 [Qj s 79 #[(.int .i64 f.1), (.int .i64 f.2.1), (.int .i64 f.2.2.1), (.int .i64 f.2.2.2.1), (.slice A6 (List.length (List.map stT d9)) c7), (.map (some u))], Qz u f.2.2.2.2, Qj m 95 #[(pt s 0), (Q4 a.2.2.2.2.2.2.1 m), (.string ⟨List.toArray a.2.2.2.2.2.2.2.1⟩), (.string ⟨List.toArray a.2.2.2.2.2.2.2.2.1⟩), (.string ⟨List.toArray a.2.2.2.2.2.2.2.2.2.1⟩), (.bool a.2.2.2.2.2.2.2.2.2.2)], Qj q 63 #[(.int .i64 a.1), (.string ⟨List.toArray a.2.1⟩), (.string ⟨List.toArray a.2.2.1⟩), (.int .i64 a.2.2.2.1), (.int .i64 a.2.2.2.2.1)]], sG [7] [(.bool a0)] [] w0 [Qj q 63 #[(.int .i64 a.1), (.string ⟨List.toArray a.2.1⟩), (.string ⟨List.toArray a.2.2.1⟩), (.int .i64 a.2.2.2.1), (.int .i64 a.2.2.2.2.1)], Qj s 79 #[(.int .i64 f.1), (.int .i64 f.2.1), (.int .i64 f.2.2.1), (.int .i64 f.2.2.2.1), (.slice A6 (List.length (List.map stT d9)) c7), (.map (some u))], Qz u f.2.2.2.2, Qj m 95 #[(pt s 0), (Q4 a.2.2.2.2.2.2.1 m), (.string ⟨List.toArray a.2.2.2.2.2.2.2.1⟩), (.string ⟨List.toArray a.2.2.2.2.2.2.2.2.1⟩), (.string ⟨List.toArray a.2.2.2.2.2.2.2.2.2.1⟩), (.bool a.2.2.2.2.2.2.2.2.2.2)]], sG [7, 15] [(.bool a0), (.bool a7)] [] w0 [Qj q 63 #[(.int .i64 a.1), (.string ⟨List.toArray a.2.1⟩), (.string ⟨List.toArray a.2.2.1⟩), (.int .i64 a.2.2.2.1), (.int .i64 a.2.2.2.2.1)], Qj s 79 #[(.int .i64 f.1), (.int .i64 f.2.1), (.int .i64 f.2.2.1), (.int .i64 f.2.2.2.1), (.slice A6 (List.length (List.map stT d9)) c7), (.map (some u))], Qz u f.2.2.2.2, Qj m 95 #[(pt s 0), (Q4 a.2.2.2.2.2.2.1 m), (.string ⟨List.toArray a.2.2.2.2.2.2.2.1⟩), (.string ⟨List.toArray a.2.2.2.2.2.2.2.2.1⟩), (.string ⟨List.toArray a.2.2.2.2.2.2.2.2.2.1⟩), (.bool a.2.2.2.2.2.2.2.2.2.2)]]] 36 2 ⟨trivial, SP.drew c2⟩ ?_ ?_
               iterate 36 refine And.intro ?_ ?_
               exact trivial
               ·exact oV (hC (hS 12 (.bool a.2.2.2.2.2.1)) (h0)) (.bool a.2.2.2.2.2.1)
               ·exact oV (hC (hS 10 (.bool p)) (h0)) (.bool p)
               ·exact oV (hC (hA 0 59) (hC (hA 1 60) (h0))) (.bool (a.2.2.2.2.2.1 == p))
               ·exact oV (hC (hA 2 61) (h0)) (.bool (a.2.2.2.2.2.1 == p))
               ·exact oV (hC (hS 10 (.bool p)) (hC (hB 3 62 a3) (h0))) (.bool p)
               ·exact oV (hC (hA 4 63) (hC (hB 3 62 a3) (h0))) (.bool p)
               ·exact oV (hC (hS 7 (pt m 0)) (hC (hB 5 64 a5) (h0))) (pt m 0)
               ·refine oH 0 1 ?_
                ·rintro ρ' w' hs hah ⟨au1, j9⟩
                 have c8 := hah 6 65 K
                 have c9 := hah 5 64 K
                 refine kN [(65, (pt m 0)), (64, (.bool true))] ⟨c8, (Eq.trans c9 (congrArg Value.bool a5)), trivial⟩ fun hkn => ?_
                 refine cF 36 #[(.tmp 65)] #[60] 66 Tryz.call36 (Qm m s A6 c7 u f.1 f.2.1 f.2.2.1 f.2.2.2.1 d9 f.2.2.2.2 a.2.2.2.2.2.2.1 a.2.2.2.2.2.2.2.1 a.2.2.2.2.2.2.2.2.1 a.2.2.2.2.2.2.2.2.2.1 a.2.2.2.2.2.2.2.2.2.2 w' (Ze j9 [0, 1, 2] rfl rfl) (fun w hm => Dp.mono _ (Vk j9 (l := [0, 1, 2]) rfl hm) b6) a0 f0) ?_
                 rintro e af5 ⟨rfl, q4⟩
                 refine ⟨_, rfl, ?_⟩
                 have af6 : SP [] w0 af5 [Qj q 63 #[(.int .i64 a.1), (.string ⟨List.toArray a.2.1⟩), (.string ⟨List.toArray a.2.2.1⟩), (.int .i64 a.2.2.2.1), (.int .i64 a.2.2.2.2.1)], Qj s 79 #[(.int .i64 f.1), (.int .i64 f.2.1), (.int .i64 f.2.2.1), (.int .i64 f.2.2.2.1), (.slice A6 (List.length (List.map stT d9)) c7), (.map (some u))], Qz u f.2.2.2.2, Qj m 95 #[(pt s 0), (Q4 a.2.2.2.2.2.2.1 m), (.string ⟨List.toArray a.2.2.2.2.2.2.2.1⟩), (.string ⟨List.toArray a.2.2.2.2.2.2.2.2.1⟩), (.string ⟨List.toArray a.2.2.2.2.2.2.2.2.2.1⟩), (.bool a.2.2.2.2.2.2.2.2.2.2)]] := Va j9 [0, 1, 2] [3] rfl rfl q4 rfl
                 clear q4
                 refine ⟨_, Qa hkn, rfl, ?_⟩
                 exact (And.intro (And.intro rfl (trivial)) (af6))
               ·exact oV (hC (hA 7 66) (hC (hB 5 64 a5) (h0))) (.bool (!a0))
               ·exact oV (hC (hB 5 64 a5) (hC (hA 8 67) (hC (hB 3 62 a3) (h0)))) (.bool (!a0))
               ·exact oV (hC (hB 3 62 a3) (hC (hA 9 68) (h0))) (.bool (!a0))
               ·exact oV (hC (hA 10 69) (h0)) (.bool (!a0))
               ·exact oV (hC (hS 12 (.bool a.2.2.2.2.2.1)) (hC (hB 11 70 b5) (h0))) (.bool a.2.2.2.2.2.1)
               ·exact oV (hC (hA 12 71) (hC (hB 11 70 b5) (h0))) (.bool a.2.2.2.2.2.1)
               ·exact oV (hC (hS 7 (pt m 0)) (hC (hB 13 72 a1) (h0))) (pt m 0)
               ·refine oH 1 2 ?_
                ·rintro ρ' w' hs hah ⟨⟨af7, -⟩, k1⟩
                 have c0 := hah 14 73 K
                 have a6 := hah 13 72 K
                 refine kN [(73, (pt m 0)), (72, (.bool true))] ⟨c0, (Eq.trans a6 (congrArg Value.bool a1)), trivial⟩ fun hkn => ?_
                 refine cF 36 #[(.tmp 73)] #[60] 74 Tryz.call36 (Qm m s A6 c7 u f.1 f.2.1 f.2.2.1 f.2.2.2.1 d9 f.2.2.2.2 a.2.2.2.2.2.2.1 a.2.2.2.2.2.2.2.1 a.2.2.2.2.2.2.2.2.1 a.2.2.2.2.2.2.2.2.2.1 a.2.2.2.2.2.2.2.2.2.2 w' (Ze k1 [1, 2, 3] rfl rfl) (fun w hm => Dp.mono _ (Vk k1 (l := [1, 2, 3]) rfl hm) b6) a7 g1) ?_
                 rintro e af8 ⟨rfl, q5⟩
                 refine ⟨_, rfl, ?_⟩
                 have af9 : SP [] w0 af8 [Qj q 63 #[(.int .i64 a.1), (.string ⟨List.toArray a.2.1⟩), (.string ⟨List.toArray a.2.2.1⟩), (.int .i64 a.2.2.2.1), (.int .i64 a.2.2.2.2.1)], Qj s 79 #[(.int .i64 f.1), (.int .i64 f.2.1), (.int .i64 f.2.2.1), (.int .i64 f.2.2.2.1), (.slice A6 (List.length (List.map stT d9)) c7), (.map (some u))], Qz u f.2.2.2.2, Qj m 95 #[(pt s 0), (Q4 a.2.2.2.2.2.2.1 m), (.string ⟨List.toArray a.2.2.2.2.2.2.2.1⟩), (.string ⟨List.toArray a.2.2.2.2.2.2.2.2.1⟩), (.string ⟨List.toArray a.2.2.2.2.2.2.2.2.2.1⟩), (.bool a.2.2.2.2.2.2.2.2.2.2)]] := Va k1 [1, 2, 3] [0] rfl rfl q5 rfl
                 clear q5
                 refine ⟨_, Qa hkn, rfl, ?_⟩
                 exact (And.intro (And.intro af7 (And.intro rfl (trivial))) (af9))
               ·exact oV (hC (hS 11 (pt q 0)) (hC (hB 13 72 a1) (h0))) (pt q 0)
               ·refine Owe.light K [1, 2] K (Qe ?_ (Qe ?_ Q9))
                ·rintro ρ' w' hs hah ⟨⟨au2, -⟩, ag0⟩
                 have b3 := hah 16 75 K
                 have a6 := hah 13 72 K
                 refine kN [(75, (pt q 0)), (72, (.bool true))] ⟨b3, (Eq.trans a6 (congrArg Value.bool a1)), trivial⟩ fun hkn => ?_
                 refine sL 3 75 q 0 0 (.int .i64 a.1) 76 ag0 rfl ?_
                 exact eK hkn
                ·rintro ρ' w' hs hah ⟨⟨au3, au4, -⟩, ag1⟩
                 have b3 := hah 16 75 K
                 have a6 := hah 13 72 K
                 refine kN [(75, (pt q 0)), (72, (.bool true))] ⟨b3, (Eq.trans a6 (congrArg Value.bool a1)), trivial⟩ fun hkn => ?_
                 refine sL 3 75 q 0 0 (.int .i64 a.1) 76 ag1 rfl ?_
                 exact eK hkn
               ·exact oV (hC (hA 17 76) (hC (hB 13 72 a1) (h0))) (.bool (a.1 == 4))
               ·exact oV (hC (hA 18 77) (hC (hB 13 72 a1) (h0))) (.bool (a.1 == 4))
               ·exact oV (hC (hS 11 (pt q 0)) (hC (hB 19 78 b7) (h0))) (pt q 0)
               ·refine oL 2 ?_
                ·rintro ρ' w' hs hah ⟨⟨au5, au6, -⟩, ag2⟩
                 have e3 := hah 20 79 K
                 have e4 := hah 19 78 K
                 refine kN [(79, (pt q 0)), (78, (.bool false))] ⟨e3, (Eq.trans e4 (congrArg Value.bool b7)), trivial⟩ fun hkn => ?_
                 refine sL 3 79 q 0 0 (.int .i64 a.1) 80 ag2 rfl ?_
                 exact eK hkn
               ·exact oV (hC (hA 21 80) (hC (hB 19 78 b7) (h0))) (.bool (a.1 == 5))
               ·exact oV (hC (hB 19 78 b7) (hC (hA 22 81) (hC (hB 13 72 a1) (h0)))) (.bool (a.1 == 5))
               ·exact oV (hC (hA 15 74) (hC (hA 23 82) (hC (hB 13 72 a1) (h0)))) (.bool (!(a7 == (a.1 == 5))))
               ·exact oV (hC (hB 13 72 a1) (hC (hA 24 83) (hC (hB 11 70 b5) (h0)))) (.bool (!(a7 == (a.1 == 5))))
               ·exact oV (hC (hB 11 70 b5) (hC (hA 25 84) (h0))) (.bool (!(a7 == (a.1 == 5))))
               ·exact oV (hC (hA 26 85) (h0)) (.bool (!(a7 == (a.1 == 5))))
               ·exact oV (hC (hS 12 (.bool a.2.2.2.2.2.1)) (hC (hB 27 86 c4) (h0))) (.bool a.2.2.2.2.2.1)
               ·exact oV (hC (hA 28 87) (hC (hB 27 86 c4) (h0))) (.bool (!a.2.2.2.2.2.1))
               ·exact oV (hC (hA 29 88) (hC (hB 27 86 c4) (h0))) (.bool (!a.2.2.2.2.2.1))
               ·refine oL 2 ?_
                ·rintro ρ' w' hs hah ⟨⟨au7, au8, -⟩, ag3⟩
                 have e0 : ρ' 11 = (pt q 0) := (hs 11 K).trans K
                 have c1 := hah 30 89 K
                 refine kN [(11, (pt q 0)), (89, (.bool true))] ⟨e0, (Eq.trans c1 (congrArg Value.bool e5)), trivial⟩ fun hkn => ?_
                 refine sL 63 11 q 0 0 (.agg #[(.int .i64 a.1), (.string ⟨List.toArray a.2.1⟩), (.string ⟨List.toArray a.2.2.1⟩), (.int .i64 a.2.2.2.1), (.int .i64 a.2.2.2.2.1)]) 90 ag3 rfl ?_
                 exact eK hkn
               ·exact oV (hC (hB 30 89 e5) (h0)) (.agg #[(.int .i64 0), (.string ⟨List.toArray ([] : List UInt8)⟩), (.string ⟨List.toArray ([] : List UInt8)⟩), (.int .i64 0), (.int .i64 0)])
               ·refine oL 2 ?_
                ·rintro ρ' w' hs hah ⟨⟨au9, av0, -⟩, av1⟩
                 have e1 := hah 31 90 K
                 have e2 := hah 32 91 K
                 have c1 := hah 30 89 K
                 refine kN [(90, (.agg #[(.int .i64 a.1), (.string ⟨List.toArray a.2.1⟩), (.string ⟨List.toArray a.2.2.1⟩), (.int .i64 a.2.2.2.1), (.int .i64 a.2.2.2.2.1)])), (91, (.agg #[(.int .i64 0), (.string ⟨List.toArray ([] : List UInt8)⟩), (.string ⟨List.toArray ([] : List UInt8)⟩), (.int .i64 0), (.int .i64 0)])), (89, (.bool true))] ⟨e1, e2, (Eq.trans c1 (congrArg Value.bool e5)), trivial⟩ fun hkn => ?_
                 refine Uy (op := .neq) (T := 63) (T' := 63) (x := (.tmp 90)) (y := (.tmp 91)) (vx := (.agg #[(.int .i64 a.1), (.string ⟨List.toArray a.2.1⟩), (.string ⟨List.toArray a.2.2.1⟩), (.int .i64 a.2.2.2.1), (.int .i64 a.2.2.2.2.1)])) (vy := (.agg #[(.int .i64 0), (.string ⟨List.toArray ([] : List UInt8)⟩), (.string ⟨List.toArray ([] : List UInt8)⟩), (.int .i64 0), (.int .i64 0)])) (v := (.bool (!((a.1 == 0) && ((a.2.1 == ([] : List UInt8)) && ((a.2.2.1 == ([] : List UInt8)) && ((a.2.2.2.1 == 0) && (a.2.2.2.2.1 == 0)))))))) (d := (some 92)) (k := 33) K rfl K K (by clear H; intro w; simp only [Jt]; go_simp; simp only [Ub, Jg, U4, Jt, Bool.and_true] <;> simp only [Bool.not_and]) ?_
                 exact eK hkn
               ·exact oV (hC (hB 30 89 e5) (hC (hA 33 92) (hC (hB 27 86 c4) (h0)))) (.bool (!((a.1 == 0) && ((a.2.1 == ([] : List UInt8)) && ((a.2.2.1 == ([] : List UInt8)) && ((a.2.2.2.1 == 0) && (a.2.2.2.2.1 == 0)))))))
               ·exact oV (hC (hB 27 86 c4) (hC (hA 34 93) (h0))) (.bool (!((a.1 == 0) && ((a.2.1 == ([] : List UInt8)) && ((a.2.2.1 == ([] : List UInt8)) && ((a.2.2.2.1 == 0) && (a.2.2.2.2.1 == 0)))))))
               ·rintro ρ' w' hs hf ⟨⟨av2, av3, -⟩, q6⟩
                refine Q1 [(1, (.slice b0 (List.length a9) b1)), (5, (.bool b2)), (7, (pt m 0)), (8, (.int .i64 b4)), (9, (.int .i64 a4)), (12, (.bool a.2.2.2.2.2.1)), (94, (.bool (!((a.1 == 0) && ((a.2.1 == ([] : List UInt8)) && ((a.2.2.1 == ([] : List UInt8)) && ((a.2.2.2.1 == 0) && (a.2.2.2.2.1 == 0))))))))] ⟨(hs 1 K).trans K, (hs 5 K).trans K, (hs 7 K).trans K, (hs 8 K).trans K, (hs 9 K).trans K, (hs 12 K).trans K, hf 35 94 K, trivial⟩ ?_
                obtain ⟨av4, ag4⟩ : ∃ x, w' = x := ⟨_, rfl⟩
                rw [ag4] at q6 ⊢
                exact ⟨(!((a.1 == 0) && ((a.2.1 == ([] : List UInt8)) && ((a.2.2.1 == ([] : List UInt8)) && ((a.2.2.2.1 == 0) && (a.2.2.2.2.1 == 0)))))), ⟨K, K, K, K, K, K, K, trivial⟩, SP.sel q6 [3, 1, 2] rfl rfl, H⟩
              ·have H := cf H e5
               refine aG [GEq (.bool a.2.2.2.2.2.1), GEq (.bool p), GEq (.bool (a.2.2.2.2.2.1 == p)), GEq (.bool (a.2.2.2.2.2.1 == p)), GEq (.bool p), GEq (.bool p), GEq (pt m 0), GEq (.bool a0), GEq (.bool (!a0)), GEq (.bool (!a0)), GEq (.bool (!a0)), GEq (.bool (!a0)), GEq (.bool a.2.2.2.2.2.1), GEq (.bool a.2.2.2.2.2.1), GEq (pt m 0), GEq (.bool a7), GEq (pt q 0), GEq (.int .i64 a.1), GEq (.bool (a.1 == 4)), GEq (.bool (a.1 == 4)), GEq (pt q 0), GEq (.int .i64 a.1), GEq (.bool (a.1 == 5)), GEq (.bool (a.1 == 5)), GEq (.bool (!(a7 == (a.1 == 5)))), GEq (.bool (!(a7 == (a.1 == 5)))), GEq (.bool (!(a7 == (a.1 == 5)))), GEq (.bool (!(a7 == (a.1 == 5)))), GEq (.bool a.2.2.2.2.2.1), GEq (.bool (!a.2.2.2.2.2.1)), GEq (.bool (!a.2.2.2.2.2.1)), GEq undef, GEq undef, GEq undef, GEq (.bool false), GEq (.bool false)] [7, 15] [sG [] [] [] w0 [Qj s 79 #[(.int .i64 f.1), (.int .i64 f.2.1), (.int .i64 f.2.2.1), (.int .i64 f.2.2.2.1), (.slice A6 (List.length (List.map stT d9)) c7), (.map (some u))], Qz u f.2.2.2.2, Qj m 95 #[(pt s 0), (Q4 a.2.2.2.2.2.2.1 m), (.string ⟨List.toArray a.2.2.2.2.2.2.2.1⟩), (.string ⟨List.toArray a.2.2.2.2.2.2.2.2.1⟩), (.string ⟨List.toArray a.2.2.2.2.2.2.2.2.2.1⟩), (.bool a.2.2.2.2.2.2.2.2.2.2)], Qj q 63 #[(.int .i64 a.1), (.string ⟨List.toArray a.2.1⟩), (.string ⟨List.toArray a.2.2.1⟩), (.int .i64 a.2.2.2.1), (.int .i64 a.2.2.2.2.1)]], sG [7] [(.bool a0)] [] w0 [Qj q 63 #[(.int .i64 a.1), (.string ⟨List.toArray a.2.1⟩), (.string ⟨List.toArray a.2.2.1⟩), (.int .i64 a.2.2.2.1), (.int .i64 a.2.2.2.2.1)], Qj s 79 #[(.int .i64 f.1), (.int .i64 f.2.1), (.int .i64 f.2.2.1), (.int .i64 f.2.2.2.1), (.slice A6 (List.length (List.map stT d9)) c7), (.map (some u))], Qz u f.2.2.2.2, Qj m 95 #[(pt s 0), (Q4 a.2.2.2.2.2.2.1 m), (.string ⟨List.toArray a.2.2.2.2.2.2.2.1⟩), (.string ⟨List.toArray a.2.2.2.2.2.2.2.2.1⟩), (.string ⟨List.toArray a.2.2.2.2.2.2.2.2.2.1⟩), (.bool a.2.2.2.2.2.2.2.2.2.2)]], sG [7, 15] [(.bool a0), (.bool a7)] [] w0 [Qj q 63 #[(.int .i64 a.1), (.string ⟨List.toArray a.2.1⟩), (.string ⟨List.toArray a.2.2.1⟩), (.int .i64 a.2.2.2.1), (.int .i64 a.2.2.2.2.1)], Qj s 79 #[(.int .i64 f.1), (.int .i64 f.2.1), (.int .i64 f.2.2.1), (.int .i64 f.2.2.2.1), (.slice A6 (List.length (List.map stT d9)) c7), (.map (some u))], Qz u f.2.2.2.2, Qj m 95 #[(pt s 0), (Q4 a.2.2.2.2.2.2.1 m), (.string ⟨List.toArray a.2.2.2.2.2.2.2.1⟩), (.string ⟨List.toArray a.2.2.2.2.2.2.2.2.1⟩), (.string ⟨List.toArray a.2.2.2.2.2.2.2.2.2.1⟩), (.bool a.2.2.2.2.2.2.2.2.2.2)]]] 36 2 ⟨trivial, SP.drew c2⟩ ?_ ?_
               iterate 36 refine And.intro ?_ ?_
               exact trivial
               ·exact oV (hC (hS 12 (.bool a.2.2.2.2.2.1)) (h0)) (.bool a.2.2.2.2.2.1)
               ·exact oV (hC (hS 10 (.bool p)) (h0)) (.bool p)
               ·exact oV (hC (hA 0 59) (hC (hA 1 60) (h0))) (.bool (a.2.2.2.2.2.1 == p))
               ·exact oV (hC (hA 2 61) (h0)) (.bool (a.2.2.2.2.2.1 == p))
               ·exact oV (hC (hS 10 (.bool p)) (hC (hB 3 62 a3) (h0))) (.bool p)
               ·exact oV (hC (hA 4 63) (hC (hB 3 62 a3) (h0))) (.bool p)
               ·exact oV (hC (hS 7 (pt m 0)) (hC (hB 5 64 a5) (h0))) (pt m 0)
               ·refine oH 0 1 ?_
                ·rintro ρ' w' hs hah ⟨av5, k2⟩
                 have c8 := hah 6 65 K
                 have c9 := hah 5 64 K
                 refine kN [(65, (pt m 0)), (64, (.bool true))] ⟨c8, (Eq.trans c9 (congrArg Value.bool a5)), trivial⟩ fun hkn => ?_
                 refine cF 36 #[(.tmp 65)] #[60] 66 Tryz.call36 (Qm m s A6 c7 u f.1 f.2.1 f.2.2.1 f.2.2.2.1 d9 f.2.2.2.2 a.2.2.2.2.2.2.1 a.2.2.2.2.2.2.2.1 a.2.2.2.2.2.2.2.2.1 a.2.2.2.2.2.2.2.2.2.1 a.2.2.2.2.2.2.2.2.2.2 w' (Ze k2 [0, 1, 2] rfl rfl) (fun w hm => Dp.mono _ (Vk k2 (l := [0, 1, 2]) rfl hm) b6) a0 f0) ?_
                 rintro e ag5 ⟨rfl, q7⟩
                 refine ⟨_, rfl, ?_⟩
                 have ag6 : SP [] w0 ag5 [Qj q 63 #[(.int .i64 a.1), (.string ⟨List.toArray a.2.1⟩), (.string ⟨List.toArray a.2.2.1⟩), (.int .i64 a.2.2.2.1), (.int .i64 a.2.2.2.2.1)], Qj s 79 #[(.int .i64 f.1), (.int .i64 f.2.1), (.int .i64 f.2.2.1), (.int .i64 f.2.2.2.1), (.slice A6 (List.length (List.map stT d9)) c7), (.map (some u))], Qz u f.2.2.2.2, Qj m 95 #[(pt s 0), (Q4 a.2.2.2.2.2.2.1 m), (.string ⟨List.toArray a.2.2.2.2.2.2.2.1⟩), (.string ⟨List.toArray a.2.2.2.2.2.2.2.2.1⟩), (.string ⟨List.toArray a.2.2.2.2.2.2.2.2.2.1⟩), (.bool a.2.2.2.2.2.2.2.2.2.2)]] := Va k2 [0, 1, 2] [3] rfl rfl q7 rfl
                 clear q7
                 refine ⟨_, Qa hkn, rfl, ?_⟩
                 exact (And.intro (And.intro rfl (trivial)) (ag6))
               ·exact oV (hC (hA 7 66) (hC (hB 5 64 a5) (h0))) (.bool (!a0))
               ·exact oV (hC (hB 5 64 a5) (hC (hA 8 67) (hC (hB 3 62 a3) (h0)))) (.bool (!a0))
               ·exact oV (hC (hB 3 62 a3) (hC (hA 9 68) (h0))) (.bool (!a0))
               ·exact oV (hC (hA 10 69) (h0)) (.bool (!a0))
               ·exact oV (hC (hS 12 (.bool a.2.2.2.2.2.1)) (hC (hB 11 70 b5) (h0))) (.bool a.2.2.2.2.2.1)
               ·exact oV (hC (hA 12 71) (hC (hB 11 70 b5) (h0))) (.bool a.2.2.2.2.2.1)
               ·exact oV (hC (hS 7 (pt m 0)) (hC (hB 13 72 a1) (h0))) (pt m 0)
               ·refine oH 1 2 ?_
                ·rintro ρ' w' hs hah ⟨⟨ag7, -⟩, k3⟩
                 have c0 := hah 14 73 K
                 have a6 := hah 13 72 K
                 refine kN [(73, (pt m 0)), (72, (.bool true))] ⟨c0, (Eq.trans a6 (congrArg Value.bool a1)), trivial⟩ fun hkn => ?_
                 refine cF 36 #[(.tmp 73)] #[60] 74 Tryz.call36 (Qm m s A6 c7 u f.1 f.2.1 f.2.2.1 f.2.2.2.1 d9 f.2.2.2.2 a.2.2.2.2.2.2.1 a.2.2.2.2.2.2.2.1 a.2.2.2.2.2.2.2.2.1 a.2.2.2.2.2.2.2.2.2.1 a.2.2.2.2.2.2.2.2.2.2 w' (Ze k3 [1, 2, 3] rfl rfl) (fun w hm => Dp.mono _ (Vk k3 (l := [1, 2, 3]) rfl hm) b6) a7 g1) ?_
                 rintro e ag8 ⟨rfl, q8⟩
                 refine ⟨_, rfl, ?_⟩
                 have ag9 : SP [] w0 ag8 [Qj q 63 #[(.int .i64 a.1), (.string ⟨List.toArray a.2.1⟩), (.string ⟨List.toArray a.2.2.1⟩), (.int .i64 a.2.2.2.1), (.int .i64 a.2.2.2.2.1)], Qj s 79 #[(.int .i64 f.1), (.int .i64 f.2.1), (.int .i64 f.2.2.1), (.int .i64 f.2.2.2.1), (.slice A6 (List.length (List.map stT d9)) c7), (.map (some u))], Qz u f.2.2.2.2, Qj m 95 #[(pt s 0), (Q4 a.2.2.2.2.2.2.1 m), (.string ⟨List.toArray a.2.2.2.2.2.2.2.1⟩), (.string ⟨List.toArray a.2.2.2.2.2.2.2.2.1⟩), (.string ⟨List.toArray a.2.2.2.2.2.2.2.2.2.1⟩), (.bool a.2.2.2.2.2.2.2.2.2.2)]] := Va k3 [1, 2, 3] [0] rfl rfl q8 rfl
                 clear q8
                 refine ⟨_, Qa hkn, rfl, ?_⟩
                 exact (And.intro (And.intro ag7 (And.intro rfl (trivial))) (ag9))
               ·exact oV (hC (hS 11 (pt q 0)) (hC (hB 13 72 a1) (h0))) (pt q 0)
               ·refine Owe.light K [1, 2] K (Qe ?_ (Qe ?_ Q9))
                ·rintro ρ' w' hs hah ⟨⟨av6, -⟩, ah0⟩
                 have b3 := hah 16 75 K
                 have a6 := hah 13 72 K
                 refine kN [(75, (pt q 0)), (72, (.bool true))] ⟨b3, (Eq.trans a6 (congrArg Value.bool a1)), trivial⟩ fun hkn => ?_
                 refine sL 3 75 q 0 0 (.int .i64 a.1) 76 ah0 rfl ?_
                 exact eK hkn
                ·rintro ρ' w' hs hah ⟨⟨av7, av8, -⟩, ah1⟩
                 have b3 := hah 16 75 K
                 have a6 := hah 13 72 K
                 refine kN [(75, (pt q 0)), (72, (.bool true))] ⟨b3, (Eq.trans a6 (congrArg Value.bool a1)), trivial⟩ fun hkn => ?_
                 refine sL 3 75 q 0 0 (.int .i64 a.1) 76 ah1 rfl ?_
                 exact eK hkn
               ·exact oV (hC (hA 17 76) (hC (hB 13 72 a1) (h0))) (.bool (a.1 == 4))
               ·exact oV (hC (hA 18 77) (hC (hB 13 72 a1) (h0))) (.bool (a.1 == 4))
               ·exact oV (hC (hS 11 (pt q 0)) (hC (hB 19 78 b7) (h0))) (pt q 0)
               ·refine oL 2 ?_
                ·rintro ρ' w' hs hah ⟨⟨av9, aw0, -⟩, ah2⟩
                 have e3 := hah 20 79 K
                 have e4 := hah 19 78 K
                 refine kN [(79, (pt q 0)), (78, (.bool false))] ⟨e3, (Eq.trans e4 (congrArg Value.bool b7)), trivial⟩ fun hkn => ?_
                 refine sL 3 79 q 0 0 (.int .i64 a.1) 80 ah2 rfl ?_
                 exact eK hkn
               ·exact oV (hC (hA 21 80) (hC (hB 19 78 b7) (h0))) (.bool (a.1 == 5))
               ·exact oV (hC (hB 19 78 b7) (hC (hA 22 81) (hC (hB 13 72 a1) (h0)))) (.bool (a.1 == 5))
               ·exact oV (hC (hA 15 74) (hC (hA 23 82) (hC (hB 13 72 a1) (h0)))) (.bool (!(a7 == (a.1 == 5))))
               ·exact oV (hC (hB 13 72 a1) (hC (hA 24 83) (hC (hB 11 70 b5) (h0)))) (.bool (!(a7 == (a.1 == 5))))
               ·exact oV (hC (hB 11 70 b5) (hC (hA 25 84) (h0))) (.bool (!(a7 == (a.1 == 5))))
               ·exact oV (hC (hA 26 85) (h0)) (.bool (!(a7 == (a.1 == 5))))
               ·exact oV (hC (hS 12 (.bool a.2.2.2.2.2.1)) (hC (hB 27 86 c4) (h0))) (.bool a.2.2.2.2.2.1)
               ·exact oV (hC (hA 28 87) (hC (hB 27 86 c4) (h0))) (.bool (!a.2.2.2.2.2.1))
               ·exact oV (hC (hA 29 88) (hC (hB 27 86 c4) (h0))) (.bool (!a.2.2.2.2.2.1))
               ·exact oW (hC (hB 30 89 e5) (h0)) 90
               ·exact oW (hC (hB 30 89 e5) (h0)) 91
               ·exact oW (hC (hB 30 89 e5) (h0)) 92
               ·exact oV (hC (hB 30 89 e5) (hC (hA 33 92) (hC (hB 27 86 c4) (h0)))) (.bool false)
               ·exact oV (hC (hB 27 86 c4) (hC (hA 34 93) (h0))) (.bool false)
               ·rintro ρ' w' hs hf ⟨⟨aw1, aw2, -⟩, q9⟩
                refine Q1 [(1, (.slice b0 (List.length a9) b1)), (5, (.bool b2)), (7, (pt m 0)), (8, (.int .i64 b4)), (9, (.int .i64 a4)), (12, (.bool a.2.2.2.2.2.1)), (94, (.bool false))] ⟨(hs 1 K).trans K, (hs 5 K).trans K, (hs 7 K).trans K, (hs 8 K).trans K, (hs 9 K).trans K, (hs 12 K).trans K, hf 35 94 K, trivial⟩ ?_
                obtain ⟨aw3, ah3⟩ : ∃ x, w' = x := ⟨_, rfl⟩
                rw [ah3] at q9 ⊢
                exact ⟨false, ⟨K, K, K, K, K, K, K, trivial⟩, SP.sel q9 [3, 1, 2] rfl rfl, H⟩
           ·have H := cf H a1
            rcases Bool.eq_false_or_eq_true (!a.2.2.2.2.2.1) with e6 | e6
            ·have H := ct H e6
             refine aG [GEq (.bool a.2.2.2.2.2.1), GEq (.bool p), GEq (.bool (a.2.2.2.2.2.1 == p)), GEq (.bool (a.2.2.2.2.2.1 == p)), GEq (.bool p), GEq (.bool p), GEq (pt m 0), GEq (.bool a0), GEq (.bool (!a0)), GEq (.bool (!a0)), GEq (.bool (!a0)), GEq (.bool (!a0)), GEq (.bool a.2.2.2.2.2.1), GEq (.bool a.2.2.2.2.2.1), GEq undef, GEq undef, GEq undef, GEq undef, GEq undef, GEq undef, GEq undef, GEq undef, GEq undef, GEq undef, GEq undef, GEq (.bool false), GEq (.bool false), GEq (.bool false), GEq (.bool a.2.2.2.2.2.1), GEq (.bool (!a.2.2.2.2.2.1)), GEq (.bool (!a.2.2.2.2.2.1)), GEq (.agg #[(.int .i64 a.1), (.string ⟨List.toArray a.2.1⟩), (.string ⟨List.toArray a.2.2.1⟩), (.int .i64 a.2.2.2.1), (.int .i64 a.2.2.2.2.1)]), GEq (.agg #[(.int .i64 0), (.string ⟨List.toArray ([] : List UInt8)⟩), (.string ⟨List.toArray ([] : List UInt8)⟩), (.int .i64 0), (.int .i64 0)]), GEq (.bool (!((a.1 == 0) && ((a.2.1 == ([] : List UInt8)) && ((a.2.2.1 == ([] : List UInt8)) && ((a.2.2.2.1 == 0) && (a.2.2.2.2.1 == 0))))))), GEq (.bool (!((a.1 == 0) && ((a.2.1 == ([] : List UInt8)) && ((a.2.2.1 == ([] : List UInt8)) && ((a.2.2.2.1 == 0) && (a.2.2.2.2.1 == 0))))))), GEq (.bool (!((a.1 == 0) && ((a.2.1 == ([] : List UInt8)) && ((a.2.2.1 == ([] : List UInt8)) && ((a.2.2.2.1 == 0) && (a.2.2.2.2.1 == 0)))))))] [7] [sG [] [] [] w0 [Qj s 79 #[(.int .i64 f.1), (.int .i64 f.2.1), (.int .i64 f.2.2.1), (.int .i64 f.2.2.2.1), (.slice A6 (List.length (List.map stT d9)) c7), (.map (some u))], Qz u f.2.2.2.2, Qj m 95 #[(pt s 0), (Q4 a.2.2.2.2.2.2.1 m), (.string ⟨List.toArray a.2.2.2.2.2.2.2.1⟩), (.string ⟨List.toArray a.2.2.2.2.2.2.2.2.1⟩), (.string ⟨List.toArray a.2.2.2.2.2.2.2.2.2.1⟩), (.bool a.2.2.2.2.2.2.2.2.2.2)], Qj q 63 #[(.int .i64 a.1), (.string ⟨List.toArray a.2.1⟩), (.string ⟨List.toArray a.2.2.1⟩), (.int .i64 a.2.2.2.1), (.int .i64 a.2.2.2.2.1)]], sG [7] [(.bool a0)] [] w0 [Qj q 63 #[(.int .i64 a.1), (.string ⟨List.toArray a.2.1⟩), (.string ⟨List.toArray a.2.2.1⟩), (.int .i64 a.2.2.2.1), (.int .i64 a.2.2.2.2.1)], Qj s 79 #[(.int .i64 f.1), (.int .i64 f.2.1), (.int .i64 f.2.2.1), (.int .i64 f.2.2.2.1), (.slice A6 (List.length (List.map stT d9)) c7), (.map (some u))], Qz u f.2.2.2.2, Qj m 95 #[(pt s 0), (Q4 a.2.2.2.2.2.2.1 m), (.string ⟨List.toArray a.2.2.2.2.2.2.2.1⟩), (.string ⟨List.toArray a.2.2.2.2.2.2.2.2.1⟩), (.string ⟨List.toArray a.2.2.2.2.2.2.2.2.2.1⟩), (.bool a.2.2.2.2.2.2.2.2.2.2)]]] 36 1 ⟨trivial, SP.drew c2⟩ ?_ ?_
             iterate 36 refine And.intro ?_ ?_
             exact trivial
             ·exact oV (hC (hS 12 (.bool a.2.2.2.2.2.1)) (h0)) (.bool a.2.2.2.2.2.1)
             ·exact oV (hC (hS 10 (.bool p)) (h0)) (.bool p)
             ·exact oV (hC (hA 0 59) (hC (hA 1 60) (h0))) (.bool (a.2.2.2.2.2.1 == p))
             ·exact oV (hC (hA 2 61) (h0)) (.bool (a.2.2.2.2.2.1 == p))
             ·exact oV (hC (hS 10 (.bool p)) (hC (hB 3 62 a3) (h0))) (.bool p)
             ·exact oV (hC (hA 4 63) (hC (hB 3 62 a3) (h0))) (.bool p)
             ·exact oV (hC (hS 7 (pt m 0)) (hC (hB 5 64 a5) (h0))) (pt m 0)
             ·refine oH 0 1 ?_
              ·rintro ρ' w' hs hah ⟨aw4, k4⟩
               have c8 := hah 6 65 K
               have c9 := hah 5 64 K
               refine kN [(65, (pt m 0)), (64, (.bool true))] ⟨c8, (Eq.trans c9 (congrArg Value.bool a5)), trivial⟩ fun hkn => ?_
               refine cF 36 #[(.tmp 65)] #[60] 66 Tryz.call36 (Qm m s A6 c7 u f.1 f.2.1 f.2.2.1 f.2.2.2.1 d9 f.2.2.2.2 a.2.2.2.2.2.2.1 a.2.2.2.2.2.2.2.1 a.2.2.2.2.2.2.2.2.1 a.2.2.2.2.2.2.2.2.2.1 a.2.2.2.2.2.2.2.2.2.2 w' (Ze k4 [0, 1, 2] rfl rfl) (fun w hm => Dp.mono _ (Vk k4 (l := [0, 1, 2]) rfl hm) b6) a0 f0) ?_
               rintro e ah4 ⟨rfl, r0⟩
               refine ⟨_, rfl, ?_⟩
               have ah5 : SP [] w0 ah4 [Qj q 63 #[(.int .i64 a.1), (.string ⟨List.toArray a.2.1⟩), (.string ⟨List.toArray a.2.2.1⟩), (.int .i64 a.2.2.2.1), (.int .i64 a.2.2.2.2.1)], Qj s 79 #[(.int .i64 f.1), (.int .i64 f.2.1), (.int .i64 f.2.2.1), (.int .i64 f.2.2.2.1), (.slice A6 (List.length (List.map stT d9)) c7), (.map (some u))], Qz u f.2.2.2.2, Qj m 95 #[(pt s 0), (Q4 a.2.2.2.2.2.2.1 m), (.string ⟨List.toArray a.2.2.2.2.2.2.2.1⟩), (.string ⟨List.toArray a.2.2.2.2.2.2.2.2.1⟩), (.string ⟨List.toArray a.2.2.2.2.2.2.2.2.2.1⟩), (.bool a.2.2.2.2.2.2.2.2.2.2)]] := Va k4 [0, 1, 2] [3] rfl rfl r0 rfl
               clear r0
               refine ⟨_, Qa hkn, rfl, ?_⟩
               exact (And.intro (And.intro rfl (trivial)) (ah5))
             ·exact oV (hC (hA 7 66) (hC (hB 5 64 a5) (h0))) (.bool (!a0))
             ·exact oV (hC (hB 5 64 a5) (hC (hA 8 67) (hC (hB 3 62 a3) (h0)))) (.bool (!a0))
             ·exact oV (hC (hB 3 62 a3) (hC (hA 9 68) (h0))) (.bool (!a0))
             ·exact oV (hC (hA 10 69) (h0)) (.bool (!a0))
             ·exact oV (hC (hS 12 (.bool a.2.2.2.2.2.1)) (hC (hB 11 70 b5) (h0))) (.bool a.2.2.2.2.2.1)
             ·exact oV (hC (hA 12 71) (hC (hB 11 70 b5) (h0))) (.bool a.2.2.2.2.2.1)
             ·exact oW (hC (hB 13 72 a1) (h0)) 73
             ·exact oW (hC (hB 13 72 a1) (h0)) 74
             ·exact oW (hC (hB 13 72 a1) (h0)) 75
             ·exact oW (hC (hB 13 72 a1) (h0)) 76
             ·exact oW (hC (hB 13 72 a1) (h0)) 77
             ·exact oW (hC (hB 13 72 a1) (h0)) 78
             ·exact oW (hC (hA 19 78) (h0)) 79
             ·exact oW (hC (hA 19 78) (h0)) 80
             ·exact oW (hC (hA 19 78) (h0)) 81
             ·exact oW (hC (hB 13 72 a1) (h0)) 82
             ·exact oW (hC (hB 13 72 a1) (h0)) 83
             ·exact oV (hC (hB 13 72 a1) (hC (hA 24 83) (hC (hB 11 70 b5) (h0)))) (.bool false)
             ·exact oV (hC (hB 11 70 b5) (hC (hA 25 84) (h0))) (.bool false)
             ·exact oV (hC (hA 26 85) (h0)) (.bool false)
             ·exact oV (hC (hS 12 (.bool a.2.2.2.2.2.1)) (hC (hA 27 86) (h0))) (.bool a.2.2.2.2.2.1)
             ·exact oV (hC (hA 28 87) (hC (hA 27 86) (h0))) (.bool (!a.2.2.2.2.2.1))
             ·exact oV (hC (hA 29 88) (hC (hA 27 86) (h0))) (.bool (!a.2.2.2.2.2.1))
             ·refine oL 1 ?_
              ·rintro ρ' w' hs hah ⟨⟨aw5, -⟩, ah6⟩
               have e0 : ρ' 11 = (pt q 0) := (hs 11 K).trans K
               have c1 := hah 30 89 K
               refine kN [(11, (pt q 0)), (89, (.bool true))] ⟨e0, (Eq.trans c1 (congrArg Value.bool e6)), trivial⟩ fun hkn => ?_
               refine sL 63 11 q 0 0 (.agg #[(.int .i64 a.1), (.string ⟨List.toArray a.2.1⟩), (.string ⟨List.toArray a.2.2.1⟩), (.int .i64 a.2.2.2.1), (.int .i64 a.2.2.2.2.1)]) 90 ah6 rfl ?_
               exact eK hkn
             ·exact oV (hC (hB 30 89 e6) (h0)) (.agg #[(.int .i64 0), (.string ⟨List.toArray ([] : List UInt8)⟩), (.string ⟨List.toArray ([] : List UInt8)⟩), (.int .i64 0), (.int .i64 0)])
             ·refine oL 1 ?_
              ·rintro ρ' w' hs hah ⟨⟨aw6, -⟩, aw7⟩
               have e1 := hah 31 90 K
               have e2 := hah 32 91 K
               have c1 := hah 30 89 K
               refine kN [(90, (.agg #[(.int .i64 a.1), (.string ⟨List.toArray a.2.1⟩), (.string ⟨List.toArray a.2.2.1⟩), (.int .i64 a.2.2.2.1), (.int .i64 a.2.2.2.2.1)])), (91, (.agg #[(.int .i64 0), (.string ⟨List.toArray ([] : List UInt8)⟩), (.string ⟨List.toArray ([] : List UInt8)⟩), (.int .i64 0), (.int .i64 0)])), (89, (.bool true))] ⟨e1, e2, (Eq.trans c1 (congrArg Value.bool e6)), trivial⟩ fun hkn => ?_
               refine Uy (op := .neq) (T := 63) (T' := 63) (x := (.tmp 90)) (y := (.tmp 91)) (vx := (.agg #[(.int .i64 a.1), (.string ⟨List.toArray a.2.1⟩), (.string ⟨List.toArray a.2.2.1⟩), (.int .i64 a.2.2.2.1), (.int .i64 a.2.2.2.2.1)])) (vy := (.agg #[(.int .i64 0), (.string ⟨List.toArray ([] : List UInt8)⟩), (.string ⟨List.toArray ([] : List UInt8)⟩), (.int .i64 0), (.int .i64 0)])) (v := (.bool (!((a.1 == 0) && ((a.2.1 == ([] : List UInt8)) && ((a.2.2.1 == ([] : List UInt8)) && ((a.2.2.2.1 == 0) && (a.2.2.2.2.1 == 0)))))))) (d := (some 92)) (k := 33) K rfl K K (by clear H; intro w; simp only [Jt]; go_simp; simp only [Ub, Jg, U4, Jt, Bool.and_true] <;> simp only [Bool.not_and]) ?_
               exact eK hkn
             ·exact oV (hC (hB 30 89 e6) (hC (hA 33 92) (hC (hA 27 86) (h0)))) (.bool (!((a.1 == 0) && ((a.2.1 == ([] : List UInt8)) && ((a.2.2.1 == ([] : List UInt8)) && ((a.2.2.2.1 == 0) && (a.2.2.2.2.1 == 0)))))))
             ·exact oV (hC (hA 27 86) (hC (hA 34 93) (h0))) (.bool (!((a.1 == 0) && ((a.2.1 == ([] : List UInt8)) && ((a.2.2.1 == ([] : List UInt8)) && ((a.2.2.2.1 == 0) && (a.2.2.2.2.1 == 0)))))))
             ·rintro ρ' w' hs hf ⟨⟨aw8, -⟩, r1⟩
              refine Q1 [(1, (.slice b0 (List.length a9) b1)), (5, (.bool b2)), (7, (pt m 0)), (8, (.int .i64 b4)), (9, (.int .i64 a4)), (12, (.bool a.2.2.2.2.2.1)), (94, (.bool (!((a.1 == 0) && ((a.2.1 == ([] : List UInt8)) && ((a.2.2.1 == ([] : List UInt8)) && ((a.2.2.2.1 == 0) && (a.2.2.2.2.1 == 0))))))))] ⟨(hs 1 K).trans K, (hs 5 K).trans K, (hs 7 K).trans K, (hs 8 K).trans K, (hs 9 K).trans K, (hs 12 K).trans K, hf 35 94 K, trivial⟩ ?_
              obtain ⟨aw9, ah7⟩ : ∃ x, w' = x := ⟨_, rfl⟩
              rw [ah7] at r1 ⊢
              exact ⟨(!((a.1 == 0) && ((a.2.1 == ([] : List UInt8)) && ((a.2.2.1 == ([] : List UInt8)) && ((a.2.2.2.1 == 0) && (a.2.2.2.2.1 == 0)))))), ⟨K, K, K, K, K, K, K, trivial⟩, SP.sel r1 [3, 1, 2] rfl rfl, H⟩
            ·have H := cf H e6
             refine aG [GEq (.bool a.2.2.2.2.2.1), GEq (.bool p), GEq (.bool (a.2.2.2.2.2.1 == p)), GEq (.bool (a.2.2.2.2.2.1 == p)), GEq (.bool p), GEq (.bool p), GEq (pt m 0), GEq (.bool a0), GEq (.bool (!a0)), GEq (.bool (!a0)), GEq (.bool (!a0)), GEq (.bool (!a0)), GEq (.bool a.2.2.2.2.2.1), GEq (.bool a.2.2.2.2.2.1), GEq undef, GEq undef, GEq undef, GEq undef, GEq undef, GEq undef, GEq undef, GEq undef, GEq undef, GEq undef, GEq undef, GEq (.bool false), GEq (.bool false), GEq (.bool false), GEq (.bool a.2.2.2.2.2.1), GEq (.bool (!a.2.2.2.2.2.1)), GEq (.bool (!a.2.2.2.2.2.1)), GEq undef, GEq undef, GEq undef, GEq (.bool false), GEq (.bool false)] [7] [sG [] [] [] w0 [Qj s 79 #[(.int .i64 f.1), (.int .i64 f.2.1), (.int .i64 f.2.2.1), (.int .i64 f.2.2.2.1), (.slice A6 (List.length (List.map stT d9)) c7), (.map (some u))], Qz u f.2.2.2.2, Qj m 95 #[(pt s 0), (Q4 a.2.2.2.2.2.2.1 m), (.string ⟨List.toArray a.2.2.2.2.2.2.2.1⟩), (.string ⟨List.toArray a.2.2.2.2.2.2.2.2.1⟩), (.string ⟨List.toArray a.2.2.2.2.2.2.2.2.2.1⟩), (.bool a.2.2.2.2.2.2.2.2.2.2)], Qj q 63 #[(.int .i64 a.1), (.string ⟨List.toArray a.2.1⟩), (.string ⟨List.toArray a.2.2.1⟩), (.int .i64 a.2.2.2.1), (.int .i64 a.2.2.2.2.1)]], sG [7] [(.bool a0)] [] w0 [Qj q 63 #[(.int .i64 a.1), (.string ⟨List.toArray a.2.1⟩), (.string ⟨List.toArray a.2.2.1⟩), (.int .i64 a.2.2.2.1), (.int .i64 a.2.2.2.2.1)], Qj s 79 #[(.int .i64 f.1), (.int .i64 f.2.1), (.int .i64 f.2.2.1), (.int .i64 f.2.2.2.1), (.slice A6 (List.length (List.map stT d9)) c7), (.map (some u))], Qz u f.2.2.2.2, Qj m 95 #[(pt s 0), (Q4 a.2.2.2.2.2.2.1 m), (.string ⟨List.toArray a.2.2.2.2.2.2.2.1⟩), (.string ⟨List.toArray a.2.2.2.2.2.2.2.2.1⟩), (.string ⟨List.toArray a.2.2.2.2.2.2.2.2.2.1⟩), (.bool a.2.2.2.2.2.2.2.2.2.2)]]] 36 1 ⟨trivial, SP.drew c2⟩ ?_ ?_
             iterate 36 refine And.intro ?_ ?_
             exact trivial
             ·exact oV (hC (hS 12 (.bool a.2.2.2.2.2.1)) (h0)) (.bool a.2.2.2.2.2.1)
             ·exact oV (hC (hS 10 (.bool p)) (h0)) (.bool p)
             ·exact oV (hC (hA 0 59) (hC (hA 1 60) (h0))) (.bool (a.2.2.2.2.2.1 == p))
             ·exact oV (hC (hA 2 61) (h0)) (.bool (a.2.2.2.2.2.1 == p))
             ·exact oV (hC (hS 10 (.bool p)) (hC (hB 3 62 a3) (h0))) (.bool p)
             ·exact oV (hC (hA 4 63) (hC (hB 3 62 a3) (h0))) (.bool p)
             ·exact oV (hC (hS 7 (pt m 0)) (hC (hB 5 64 a5) (h0))) (pt m 0)
             ·refine oH 0 1 ?_
              ·rintro ρ' w' hs hah ⟨ax0, k5⟩
               have c8 := hah 6 65 K
               have c9 := hah 5 64 K
               refine kN [(65, (pt m 0)), (64, (.bool true))] ⟨c8, (Eq.trans c9 (congrArg Value.bool a5)), trivial⟩ fun hkn => ?_
               refine cF 36 #[(.tmp 65)] #[60] 66 Tryz.call36 (Qm m s A6 c7 u f.1 f.2.1 f.2.2.1 f.2.2.2.1 d9 f.2.2.2.2 a.2.2.2.2.2.2.1 a.2.2.2.2.2.2.2.1 a.2.2.2.2.2.2.2.2.1 a.2.2.2.2.2.2.2.2.2.1 a.2.2.2.2.2.2.2.2.2.2 w' (Ze k5 [0, 1, 2] rfl rfl) (fun w hm => Dp.mono _ (Vk k5 (l := [0, 1, 2]) rfl hm) b6) a0 f0) ?_
               rintro e ah8 ⟨rfl, r2⟩
               refine ⟨_, rfl, ?_⟩
               have ah9 : SP [] w0 ah8 [Qj q 63 #[(.int .i64 a.1), (.string ⟨List.toArray a.2.1⟩), (.string ⟨List.toArray a.2.2.1⟩), (.int .i64 a.2.2.2.1), (.int .i64 a.2.2.2.2.1)], Qj s 79 #[(.int .i64 f.1), (.int .i64 f.2.1), (.int .i64 f.2.2.1), (.int .i64 f.2.2.2.1), (.slice A6 (List.length (List.map stT d9)) c7), (.map (some u))], Qz u f.2.2.2.2, Qj m 95 #[(pt s 0), (Q4 a.2.2.2.2.2.2.1 m), (.string ⟨List.toArray a.2.2.2.2.2.2.2.1⟩), (.string ⟨List.toArray a.2.2.2.2.2.2.2.2.1⟩), (.string ⟨List.toArray a.2.2.2.2.2.2.2.2.2.1⟩), (.bool a.2.2.2.2.2.2.2.2.2.2)]] := Va k5 [0, 1, 2] [3] rfl rfl r2 rfl
               clear r2
               refine ⟨_, Qa hkn, rfl, ?_⟩
               exact (And.intro (And.intro rfl (trivial)) (ah9))
             ·exact oV (hC (hA 7 66) (hC (hB 5 64 a5) (h0))) (.bool (!a0))
             ·exact oV (hC (hB 5 64 a5) (hC (hA 8 67) (hC (hB 3 62 a3) (h0)))) (.bool (!a0))
             ·exact oV (hC (hB 3 62 a3) (hC (hA 9 68) (h0))) (.bool (!a0))
             ·exact oV (hC (hA 10 69) (h0)) (.bool (!a0))
             ·exact oV (hC (hS 12 (.bool a.2.2.2.2.2.1)) (hC (hB 11 70 b5) (h0))) (.bool a.2.2.2.2.2.1)
             ·exact oV (hC (hA 12 71) (hC (hB 11 70 b5) (h0))) (.bool a.2.2.2.2.2.1)
             ·exact oW (hC (hB 13 72 a1) (h0)) 73
             ·exact oW (hC (hB 13 72 a1) (h0)) 74
             ·exact oW (hC (hB 13 72 a1) (h0)) 75
             ·exact oW (hC (hB 13 72 a1) (h0)) 76
             ·exact oW (hC (hB 13 72 a1) (h0)) 77
             ·exact oW (hC (hB 13 72 a1) (h0)) 78
             ·exact oW (hC (hA 19 78) (h0)) 79
             ·exact oW (hC (hA 19 78) (h0)) 80
             ·exact oW (hC (hA 19 78) (h0)) 81
             ·exact oW (hC (hB 13 72 a1) (h0)) 82
             ·exact oW (hC (hB 13 72 a1) (h0)) 83
             ·exact oV (hC (hB 13 72 a1) (hC (hA 24 83) (hC (hB 11 70 b5) (h0)))) (.bool false)
             ·exact oV (hC (hB 11 70 b5) (hC (hA 25 84) (h0))) (.bool false)
             ·exact oV (hC (hA 26 85) (h0)) (.bool false)
             ·exact oV (hC (hS 12 (.bool a.2.2.2.2.2.1)) (hC (hA 27 86) (h0))) (.bool a.2.2.2.2.2.1)
             ·exact oV (hC (hA 28 87) (hC (hA 27 86) (h0))) (.bool (!a.2.2.2.2.2.1))
             ·exact oV (hC (hA 29 88) (hC (hA 27 86) (h0))) (.bool (!a.2.2.2.2.2.1))
             ·exact oW (hC (hB 30 89 e6) (h0)) 90
             ·exact oW (hC (hB 30 89 e6) (h0)) 91
             ·exact oW (hC (hB 30 89 e6) (h0)) 92
             ·exact oV (hC (hB 30 89 e6) (hC (hA 33 92) (hC (hA 27 86) (h0)))) (.bool false)
             ·exact oV (hC (hA 27 86) (hC (hA 34 93) (h0))) (.bool false)
             ·rintro ρ' w' hs hf ⟨⟨ax1, -⟩, r3⟩
              refine Q1 [(1, (.slice b0 (List.length a9) b1)), (5, (.bool b2)), (7, (pt m 0)), (8, (.int .i64 b4)), (9, (.int .i64 a4)), (12, (.bool a.2.2.2.2.2.1)), (94, (.bool false))] ⟨(hs 1 K).trans K, (hs 5 K).trans K, (hs 7 K).trans K, (hs 8 K).trans K, (hs 9 K).trans K, (hs 12 K).trans K, hf 35 94 K, trivial⟩ ?_
              obtain ⟨ax2, ai0⟩ : ∃ x, w' = x := ⟨_, rfl⟩
              rw [ai0] at r3 ⊢
              exact ⟨false, ⟨K, K, K, K, K, K, K, trivial⟩, SP.sel r3 [3, 1, 2] rfl rfl, H⟩
         ·have H := cf H a5
          rcases Bool.eq_false_or_eq_true a.2.2.2.2.2.1 with a2 | a2
          ·have H := ct H a2
           obtain ⟨a8, g2, H⟩ := Qf H
           rcases Bool.eq_false_or_eq_true (a.1 == 4) with b8 | b8
           ·have H := ct H b8
            rcases Bool.eq_false_or_eq_true (!(a8 == true)) with c5 | c5
            ·have H := ct H c5
             refine aG [GEq (.bool a.2.2.2.2.2.1), GEq (.bool p), GEq (.bool (a.2.2.2.2.2.1 == p)), GEq (.bool (a.2.2.2.2.2.1 == p)), GEq (.bool p), GEq (.bool p), GEq undef, GEq undef, GEq undef, GEq (.bool false), GEq (.bool false), GEq (.bool false), GEq (.bool a.2.2.2.2.2.1), GEq (.bool a.2.2.2.2.2.1), GEq (pt m 0), GEq (.bool a8), GEq (pt q 0), GEq (.int .i64 a.1), GEq (.bool (a.1 == 4)), GEq (.bool (a.1 == 4)), GEq undef, GEq undef, GEq undef, GEq (.bool true), GEq (.bool (!(a8 == true))), GEq (.bool (!(a8 == true))), GEq (.bool (!(a8 == true))), GEq (.bool (!(a8 == true))), GEq undef, GEq undef, GEq undef, GEq undef, GEq undef, GEq undef, GEq undef, GEq (.bool true)] [15] [sG [] [] [] w0 [Qj s 79 #[(.int .i64 f.1), (.int .i64 f.2.1), (.int .i64 f.2.2.1), (.int .i64 f.2.2.2.1), (.slice A6 (List.length (List.map stT d9)) c7), (.map (some u))], Qz u f.2.2.2.2, Qj m 95 #[(pt s 0), (Q4 a.2.2.2.2.2.2.1 m), (.string ⟨List.toArray a.2.2.2.2.2.2.2.1⟩), (.string ⟨List.toArray a.2.2.2.2.2.2.2.2.1⟩), (.string ⟨List.toArray a.2.2.2.2.2.2.2.2.2.1⟩), (.bool a.2.2.2.2.2.2.2.2.2.2)], Qj q 63 #[(.int .i64 a.1), (.string ⟨List.toArray a.2.1⟩), (.string ⟨List.toArray a.2.2.1⟩), (.int .i64 a.2.2.2.1), (.int .i64 a.2.2.2.2.1)]], sG [15] [(.bool a8)] [] w0 [Qj q 63 #[(.int .i64 a.1), (.string ⟨List.toArray a.2.1⟩), (.string ⟨List.toArray a.2.2.1⟩), (.int .i64 a.2.2.2.1), (.int .i64 a.2.2.2.2.1)], Qj s 79 #[(.int .i64 f.1), (.int .i64 f.2.1), (.int .i64 f.2.2.1), (.int .i64 f.2.2.2.1), (.slice A6 (List.length (List.map stT d9)) c7), (.map (some u))], Qz u f.2.2.2.2, Qj m 95 #[(pt s 0), (Q4 a.2.2.2.2.2.2.1 m), (.string ⟨List.toArray a.2.2.2.2.2.2.2.1⟩), (.string ⟨List.toArray a.2.2.2.2.2.2.2.2.1⟩), (.string ⟨List.toArray a.2.2.2.2.2.2.2.2.2.1⟩), (.bool a.2.2.2.2.2.2.2.2.2.2)]]] 36 1 ⟨trivial, SP.drew c2⟩ ?_ ?_
             iterate 36 refine And.intro ?_ ?_
             exact trivial
             ·exact oV (hC (hS 12 (.bool a.2.2.2.2.2.1)) (h0)) (.bool a.2.2.2.2.2.1)
             ·exact oV (hC (hS 10 (.bool p)) (h0)) (.bool p)
             ·exact oV (hC (hA 0 59) (hC (hA 1 60) (h0))) (.bool (a.2.2.2.2.2.1 == p))
             ·exact oV (hC (hA 2 61) (h0)) (.bool (a.2.2.2.2.2.1 == p))
             ·exact oV (hC (hS 10 (.bool p)) (hC (hB 3 62 a3) (h0))) (.bool p)
             ·exact oV (hC (hA 4 63) (hC (hB 3 62 a3) (h0))) (.bool p)
             ·exact oW (hC (hB 5 64 a5) (h0)) 65
             ·exact oW (hC (hB 5 64 a5) (h0)) 66
             ·exact oW (hC (hB 5 64 a5) (h0)) 67
             ·exact oV (hC (hB 5 64 a5) (hC (hA 8 67) (hC (hB 3 62 a3) (h0)))) (.bool false)
             ·exact oV (hC (hB 3 62 a3) (hC (hA 9 68) (h0))) (.bool false)
             ·exact oV (hC (hA 10 69) (h0)) (.bool false)
             ·exact oV (hC (hS 12 (.bool a.2.2.2.2.2.1)) (hC (hA 11 70) (h0))) (.bool a.2.2.2.2.2.1)
             ·exact oV (hC (hA 12 71) (hC (hA 11 70) (h0))) (.bool a.2.2.2.2.2.1)
             ·exact oV (hC (hS 7 (pt m 0)) (hC (hB 13 72 a2) (h0))) (pt m 0)
             ·refine oH 0 1 ?_
              ·rintro ρ' w' hs hah ⟨ax3, k6⟩
               have c0 := hah 14 73 K
               have a6 := hah 13 72 K
               refine kN [(73, (pt m 0)), (72, (.bool true))] ⟨c0, (Eq.trans a6 (congrArg Value.bool a2)), trivial⟩ fun hkn => ?_
               refine cF 36 #[(.tmp 73)] #[60] 74 Tryz.call36 (Qm m s A6 c7 u f.1 f.2.1 f.2.2.1 f.2.2.2.1 d9 f.2.2.2.2 a.2.2.2.2.2.2.1 a.2.2.2.2.2.2.2.1 a.2.2.2.2.2.2.2.2.1 a.2.2.2.2.2.2.2.2.2.1 a.2.2.2.2.2.2.2.2.2.2 w' (Ze k6 [0, 1, 2] rfl rfl) (fun w hm => Dp.mono _ (Vk k6 (l := [0, 1, 2]) rfl hm) b6) a8 g2) ?_
               rintro e ai1 ⟨rfl, r4⟩
               refine ⟨_, rfl, ?_⟩
               have ai2 : SP [] w0 ai1 [Qj q 63 #[(.int .i64 a.1), (.string ⟨List.toArray a.2.1⟩), (.string ⟨List.toArray a.2.2.1⟩), (.int .i64 a.2.2.2.1), (.int .i64 a.2.2.2.2.1)], Qj s 79 #[(.int .i64 f.1), (.int .i64 f.2.1), (.int .i64 f.2.2.1), (.int .i64 f.2.2.2.1), (.slice A6 (List.length (List.map stT d9)) c7), (.map (some u))], Qz u f.2.2.2.2, Qj m 95 #[(pt s 0), (Q4 a.2.2.2.2.2.2.1 m), (.string ⟨List.toArray a.2.2.2.2.2.2.2.1⟩), (.string ⟨List.toArray a.2.2.2.2.2.2.2.2.1⟩), (.string ⟨List.toArray a.2.2.2.2.2.2.2.2.2.1⟩), (.bool a.2.2.2.2.2.2.2.2.2.2)]] := Va k6 [0, 1, 2] [3] rfl rfl r4 rfl
               clear r4
               refine ⟨_, Qa hkn, rfl, ?_⟩
               exact (And.intro (And.intro rfl (trivial)) (ai2))
             ·exact oV (hC (hS 11 (pt q 0)) (hC (hB 13 72 a2) (h0))) (pt q 0)
             ·refine Owe.light K [0, 1] K (Qe ?_ (Qe ?_ Q9))
              ·rintro ρ' w' hs hah ⟨ax4, ai3⟩
               have b3 := hah 16 75 K
               have a6 := hah 13 72 K
               refine kN [(75, (pt q 0)), (72, (.bool true))] ⟨b3, (Eq.trans a6 (congrArg Value.bool a2)), trivial⟩ fun hkn => ?_
               refine sL 3 75 q 0 3 (.int .i64 a.1) 76 ai3 rfl ?_
               exact eK hkn
              ·rintro ρ' w' hs hah ⟨⟨ax5, -⟩, ai4⟩
               have b3 := hah 16 75 K
               have a6 := hah 13 72 K
               refine kN [(75, (pt q 0)), (72, (.bool true))] ⟨b3, (Eq.trans a6 (congrArg Value.bool a2)), trivial⟩ fun hkn => ?_
               refine sL 3 75 q 0 0 (.int .i64 a.1) 76 ai4 rfl ?_
               exact eK hkn
             ·exact oV (hC (hA 17 76) (hC (hB 13 72 a2) (h0))) (.bool (a.1 == 4))
             ·exact oV (hC (hA 18 77) (hC (hB 13 72 a2) (h0))) (.bool (a.1 == 4))
             ·exact oW (hC (hB 19 78 b8) (h0)) 79
             ·exact oW (hC (hB 19 78 b8) (h0)) 80
             ·exact oW (hC (hB 19 78 b8) (h0)) 81
             ·exact oV (hC (hB 19 78 b8) (hC (hA 22 81) (hC (hB 13 72 a2) (h0)))) (.bool true)
             ·exact oV (hC (hA 15 74) (hC (hA 23 82) (hC (hB 13 72 a2) (h0)))) (.bool (!(a8 == true)))
             ·exact oV (hC (hB 13 72 a2) (hC (hA 24 83) (hC (hA 11 70) (h0)))) (.bool (!(a8 == true)))
             ·exact oV (hC (hA 11 70) (hC (hA 25 84) (h0))) (.bool (!(a8 == true)))
             ·exact oV (hC (hA 26 85) (h0)) (.bool (!(a8 == true)))
             ·exact oW (hC (hB 27 86 c5) (h0)) 87
             ·exact oW (hC (hB 27 86 c5) (h0)) 88
             ·exact oW (hC (hB 27 86 c5) (h0)) 89
             ·exact oW (hC (hA 30 89) (h0)) 90
             ·exact oW (hC (hA 30 89) (h0)) 91
             ·exact oW (hC (hA 30 89) (h0)) 92
             ·exact oW (hC (hB 27 86 c5) (h0)) 93
             ·exact oV (hC (hB 27 86 c5) (hC (hA 34 93) (h0))) (.bool true)
             ·rintro ρ' w' hs hf ⟨⟨ax6, -⟩, r5⟩
              refine Q1 [(1, (.slice b0 (List.length a9) b1)), (5, (.bool b2)), (7, (pt m 0)), (8, (.int .i64 b4)), (9, (.int .i64 a4)), (12, (.bool a.2.2.2.2.2.1)), (94, (.bool true))] ⟨(hs 1 K).trans K, (hs 5 K).trans K, (hs 7 K).trans K, (hs 8 K).trans K, (hs 9 K).trans K, (hs 12 K).trans K, hf 35 94 K, trivial⟩ ?_
              obtain ⟨ax7, ai5⟩ : ∃ x, w' = x := ⟨_, rfl⟩
              rw [ai5] at r5 ⊢
              exact ⟨true, ⟨K, K, K, K, K, K, K, trivial⟩, SP.sel r5 [3, 1, 2] rfl rfl, H⟩
            ·have H := cf H c5
             rcases Bool.eq_false_or_eq_true (!a.2.2.2.2.2.1) with e7 | e7
             ·have H := ct H e7
              refine aG [GEq (.bool a.2.2.2.2.2.1), GEq (.bool p), GEq (.bool (a.2.2.2.2.2.1 == p)), GEq (.bool (a.2.2.2.2.2.1 == p)), GEq (.bool p), GEq (.bool p), GEq undef, GEq undef, GEq undef, GEq (.bool false), GEq (.bool false), GEq (.bool false), GEq (.bool a.2.2.2.2.2.1), GEq (.bool a.2.2.2.2.2.1), GEq (pt m 0), GEq (.bool a8), GEq (pt q 0), GEq (.int .i64 a.1), GEq (.bool (a.1 == 4)), GEq (.bool (a.1 == 4)), GEq undef, GEq undef, GEq undef, GEq (.bool true), GEq (.bool (!(a8 == true))), GEq (.bool (!(a8 == true))), GEq (.bool (!(a8 == true))), GEq (.bool (!(a8 == true))), GEq (.bool a.2.2.2.2.2.1), GEq (.bool (!a.2.2.2.2.2.1)), GEq (.bool (!a.2.2.2.2.2.1)), GEq (.agg #[(.int .i64 a.1), (.string ⟨List.toArray a.2.1⟩), (.string ⟨List.toArray a.2.2.1⟩), (.int .i64 a.2.2.2.1), (.int .i64 a.2.2.2.2.1)]), GEq (.agg #[(.int .i64 0), (.string ⟨List.toArray ([] : List UInt8)⟩), (.string ⟨List.toArray ([] : List UInt8)⟩), (.int .i64 0), (.int .i64 0)]), GEq (.bool (!((a.1 == 0) && ((a.2.1 == ([] : List UInt8)) && ((a.2.2.1 == ([] : List UInt8)) && ((a.2.2.2.1 == 0) && (a.2.2.2.2.1 == 0))))))), GEq (.bool (!((a.1 == 0) && ((a.2.1 == ([] : List UInt8)) && ((a.2.2.1 == ([] : List UInt8)) && ((a.2.2.2.1 == 0) && (a.2.2.2.2.1 == 0))))))), GEq (.bool (!((a.1 == 0) && ((a.2.1 == ([] : List UInt8)) && ((a.2.2.1 == ([] : List UInt8)) && ((a.2.2.2.1 == 0) && (a.2.2.2.2.1 == 0)))))))] [15] [sG [] [] [] w0 [Qj s 79 #[(.int .i64 f.1), (.int .i64 f.2.1), (.int .i64 f.2.2.1), (.int .i64 f.2.2.2.1), (.slice A6 (List.length (List.map stT d9)) c7), (.map (some u))], Qz u f.2.2.2.2, Qj m 95 #[(pt s 0), (Q4 a.2.2.2.2.2.2.1 m), (.string ⟨List.toArray a.2.2.2.2.2.2.2.1⟩), (.string ⟨List.toArray a.2.2.2.2.2.2.2.2.1⟩), (.string ⟨List.toArray a.2.2.2.2.2.2.2.2.2.1⟩), (.bool a.2.2.2.2.2.2.2.2.2.2)], Qj q 63 #[(.int .i64 a.1), (.string ⟨List.toArray a.2.1⟩), (.string ⟨List.toArray a.2.2.1⟩), (.int .i64 a.2.2.2.1), (.int .i64 a.2.2.2.2.1)]], sG [15] [(.bool a8)] [] w0 [Qj q 63 #[(.int .i64 a.1), (.string ⟨List.toArray a.2.1⟩), (.string ⟨List.toArray a.2.2.1⟩), (.int .i64 a.2.2.2.1), (.int .i64 a.2.2.2.2.1)], Qj s 79 #[(.int .i64 f.1), (.int .i64 f.2.1), (.int .i64 f.2.2.1), (.int .i64 f.2.2.2.1), (.slice A6 (List.length (List.map stT d9)) c7), (.map (some u))], Qz u f.2.2.2.2, Qj m 95 #[(pt s 0), (Q4 a.2.2.2.2.2.2.1 m), (.string ⟨List.toArray a.2.2.2.2.2.2.2.1⟩), (.string ⟨List.toArray a.2.2.2.2.2.2.2.2.1⟩), (.string ⟨List.toArray a.2.2.2.2.2.2.2.2.2.1⟩), (.bool a.2.2.2.2.2.2.2.2.2.2)]]] 36 1 ⟨trivial, SP.drew c2⟩ ?_ ?_
              iterate 36 refine And.intro ?_ ?_
              exact trivial
              ·exact oV (hC (hS 12 (.bool a.2.2.2.2.2.1)) (h0)) (.bool a.2.2.2.2.2.1)
              ·exact oV (hC (hS 10 (.bool p)) (h0)) (.bool p)
              ·exact oV (hC (hA 0 59) (hC (hA 1 60) (h0))) (.bool (a.2.2.2.2.2.1 == p))
              ·exact oV (hC (hA 2 61) (h0)) (.bool (a.2.2.2.2.2.1 == p))
              ·exact oV (hC (hS 10 (.bool p)) (hC (hB 3 62 a3) (h0))) (.bool p)
              ·exact oV (hC (hA 4 63) (hC (hB 3 62 a3) (h0))) (.bool p)
              ·exact oW (hC (hB 5 64 a5) (h0)) 65
              ·exact oW (hC (hB 5 64 a5) (h0)) 66
              ·exact oW (hC (hB 5 64 a5) (h0)) 67
              ·exact oV (hC (hB 5 64 a5) (hC (hA 8 67) (hC (hB 3 62 a3) (h0)))) (.bool false)
              ·exact oV (hC (hB 3 62 a3) (hC (hA 9 68) (h0))) (.bool false)
              ·exact oV (hC (hA 10 69) (h0)) (.bool false)
              ·exact oV (hC (hS 12 (.bool a.2.2.2.2.2.1)) (hC (hA 11 70) (h0))) (.bool a.2.2.2.2.2.1)
              ·exact oV (hC (hA 12 71) (hC (hA 11 70) (h0))) (.bool a.2.2.2.2.2.1)
              ·exact oV (hC (hS 7 (pt m 0)) (hC (hB 13 72 a2) (h0))) (pt m 0)
              ·refine oH 0 1 ?_
               ·rintro ρ' w' hs hah ⟨ax8, k7⟩
                have c0 := hah 14 73 K
                have a6 := hah 13 72 K
                refine kN [(73, (pt m 0)), (72, (.bool true))] ⟨c0, (Eq.trans a6 (congrArg Value.bool a2)), trivial⟩ fun hkn => ?_
                refine cF 36 #[(.tmp 73)] #[60] 74 Tryz.call36 (Qm m s A6 c7 u f.1 f.2.1 f.2.2.1 f.2.2.2.1 d9 f.2.2.2.2 a.2.2.2.2.2.2.1 a.2.2.2.2.2.2.2.1 a.2.2.2.2.2.2.2.2.1 a.2.2.2.2.2.2.2.2.2.1 a.2.2.2.2.2.2.2.2.2.2 w' (Ze k7 [0, 1, 2] rfl rfl) (fun w hm => Dp.mono _ (Vk k7 (l := [0, 1, 2]) rfl hm) b6) a8 g2) ?_
                rintro e ai6 ⟨rfl, r6⟩
                refine ⟨_, rfl, ?_⟩
                have ai7 : SP [] w0 ai6 [Qj q 63 #[(.int .i64 a.1), (.string ⟨List.toArray a.2.1⟩), (.string ⟨List.toArray a.2.2.1⟩), (.int .i64 a.2.2.2.1), (.int .i64 a.2.2.2.2.1)], Qj s 79 #[(.int .i64 f.1), (.int .i64 f.2.1), (.int .i64 f.2.2.1), (.int .i64 f.2.2.2.1), (.slice A6 (List.length (List.map stT d9)) c7), (.map (some u))], Qz u f.2.2.2.2, Qj m 95 #[(pt s 0), (Q4 a.2.2.2.2.2.2.1 m), (.string ⟨List.toArray a.2.2.2.2.2.2.2.1⟩), (.string ⟨List.toArray a.2.2.2.2.2.2.2.2.1⟩), (.string ⟨List.toArray a.2.2.2.2.2.2.2.2.2.1⟩), (.bool a.2.2.2.2.2.2.2.2.2.2)]] := Va k7 [0, 1, 2] [3] rfl rfl r6 rfl
                clear r6
                refine ⟨_, Qa hkn, rfl, ?_⟩
                exact (And.intro (And.intro rfl (trivial)) (ai7))
              ·exact oV (hC (hS 11 (pt q 0)) (hC (hB 13 72 a2) (h0))) (pt q 0)
              ·refine Owe.light K [0, 1] K (Qe ?_ (Qe ?_ Q9))
               ·rintro ρ' w' hs hah ⟨ax9, ai8⟩
                have b3 := hah 16 75 K
                have a6 := hah 13 72 K
                refine kN [(75, (pt q 0)), (72, (.bool true))] ⟨b3, (Eq.trans a6 (congrArg Value.bool a2)), trivial⟩ fun hkn => ?_
                refine sL 3 75 q 0 3 (.int .i64 a.1) 76 ai8 rfl ?_
                exact eK hkn
               ·rintro ρ' w' hs hah ⟨⟨ay0, -⟩, ai9⟩
                have b3 := hah 16 75 K
                have a6 := hah 13 72 K
                refine kN [(75, (pt q 0)), (72, (.bool true))] ⟨b3, (Eq.trans a6 (congrArg Value.bool a2)), trivial⟩ fun hkn => ?_
                refine sL 3 75 q 0 0 (.int .i64 a.1) 76 ai9 rfl ?_
                exact eK hkn
              ·exact oV (hC (hA 17 76) (hC (hB 13 72 a2) (h0))) (.bool (a.1 == 4))
              ·exact oV (hC (hA 18 77) (hC (hB 13 72 a2) (h0))) (.bool (a.1 == 4))
              ·exact oW (hC (hB 19 78 b8) (h0)) 79
              ·exact oW (hC (hB 19 78 b8) (h0)) 80
              ·exact oW (hC (hB 19 78 b8) (h0)) 81
              ·exact oV (hC (hB 19 78 b8) (hC (hA 22 81) (hC (hB 13 72 a2) (h0)))) (.bool true)
              ·exact oV (hC (hA 15 74) (hC (hA 23 82) (hC (hB 13 72 a2) (h0)))) (.bool (!(a8 == true)))
              ·exact oV (hC (hB 13 72 a2) (hC (hA 24 83) (hC (hA 11 70) (h0)))) (.bool (!(a8 == true)))
              ·exact oV (hC (hA 11 70) (hC (hA 25 84) (h0))) (.bool (!(a8 == true)))
              ·exact oV (hC (hA 26 85) (h0)) (.bool (!(a8 == true)))
              ·exact oV (hC (hS 12 (.bool a.2.2.2.2.2.1)) (hC (hB 27 86 c5) (h0))) (.bool a.2.2.2.2.2.1)
              ·exact oV (hC (hA 28 87) (hC (hB 27 86 c5) (h0))) (.bool (!a.2.2.2.2.2.1))
              ·exact oV (hC (hA 29 88) (hC (hB 27 86 c5) (h0))) (.bool (!a.2.2.2.2.2.1))
              ·refine oL 1 ?_
               ·rintro ρ' w' hs hah ⟨⟨ay1, -⟩, aj0⟩
                have e0 : ρ' 11 = (pt q 0) := (hs 11 K).trans K
                have c1 := hah 30 89 K
                refine kN [(11, (pt q 0)), (89, (.bool true))] ⟨e0, (Eq.trans c1 (congrArg Value.bool e7)), trivial⟩ fun hkn => ?_
                refine sL 63 11 q 0 0 (.agg #[(.int .i64 a.1), (.string ⟨List.toArray a.2.1⟩), (.string ⟨List.toArray a.2.2.1⟩), (.int .i64 a.2.2.2.1), (.int .i64 a.2.2.2.2.1)]) 90 aj0 rfl ?_
                exact eK hkn
              ·exact oV (hC (hB 30 89 e7) (h0)) (.agg #[(.int .i64 0), (.string ⟨List.toArray ([] : List UInt8)⟩), (.string ⟨List.toArray ([] : List UInt8)⟩), (.int .i64 0), (.int .i64 0)])
              ·refine oL 1 ?_
               ·rintro ρ' w' hs hah ⟨⟨ay2, -⟩, ay3⟩
                have e1 := hah 31 90 K
                have e2 := hah 32 91 K
                have c1 := hah 30 89 K
                refine kN [(90, (.agg #[(.int .i64 a.1), (.string ⟨List.toArray a.2.1⟩), (.string ⟨List.toArray a.2.2.1⟩), (.int .i64 a.2.2.2.1), (.int .i64 a.2.2.2.2.1)])), (91, (.agg #[(.int .i64 0), (.string ⟨List.toArray ([] : List UInt8)⟩), (.string ⟨List.toArray ([] : List UInt8)⟩), (.int .i64 0), (.int .i64 0)])), (89, (.bool true))] ⟨e1, e2, (Eq.trans c1 (congrArg Value.bool e7)), trivial⟩ fun hkn => ?_
                refine Uy (op := .neq) (T := 63) (T' := 63) (x := (.tmp 90)) (y := (.tmp 91)) (vx := (.agg #[(.int .i64 a.1), (.string ⟨List.toArray a.2.1⟩), (.string ⟨List.toArray a.2.2.1⟩), (.int .i64 a.2.2.2.1), (.int .i64 a.2.2.2.2.1)])) (vy := (.agg #[(.int .i64 0), (.string ⟨List.toArray ([] : List UInt8)⟩), (.string ⟨List.toArray ([] : List UInt8)⟩), (.int .i64 0), (.int .i64 0)])) (v := (.bool (!((a.1 == 0) && ((a.2.1 == ([] : List UInt8)) && ((a.2.2.1 == ([] : List UInt8)) && ((a.2.2.2.1 == 0) && (a.2.2.2.2.1 == 0)))))))) (d := (some 92)) (k := 33) K rfl K K (by clear H; intro w; simp only [Jt]; go_simp; simp only [Ub, Jg, U4, Jt, Bool.and_true] <;> simp only [Bool.not_and]) ?_
                exact eK hkn
              ·exact oV (hC (hB 30 89 e7) (hC (hA 33 92) (hC (hB 27 86 c5) (h0)))) (.bool (!((a.1 == 0) && ((a.2.1 == ([] : List UInt8)) && ((a.2.2.1 == ([] : List UInt8)) && ((a.2.2.2.1 == 0) && (a.2.2.2.2.1 == 0)))))))
              ·exact oV (hC (hB 27 86 c5) (hC (hA 34 93) (h0))) (.bool (!((a.1 == 0) && ((a.2.1 == ([] : List UInt8)) && ((a.2.2.1 == ([] : List UInt8)) && ((a.2.2.2.1 == 0) && (a.2.2.2.2.1 == 0)))))))
              ·rintro ρ' w' hs hf ⟨⟨ay4, -⟩, r7⟩
               refine Q1 [(1, (.slice b0 (List.length a9) b1)), (5, (.bool b2)), (7, (pt m 0)), (8, (.int .i64 b4)), (9, (.int .i64 a4)), (12, (.bool a.2.2.2.2.2.1)), (94, (.bool (!((a.1 == 0) && ((a.2.1 == ([] : List UInt8)) && ((a.2.2.1 == ([] : List UInt8)) && ((a.2.2.2.1 == 0) && (a.2.2.2.2.1 == 0))))))))] ⟨(hs 1 K).trans K, (hs 5 K).trans K, (hs 7 K).trans K, (hs 8 K).trans K, (hs 9 K).trans K, (hs 12 K).trans K, hf 35 94 K, trivial⟩ ?_
               obtain ⟨ay5, aj1⟩ : ∃ x, w' = x := ⟨_, rfl⟩
               rw [aj1] at r7 ⊢
               exact ⟨(!((a.1 == 0) && ((a.2.1 == ([] : List UInt8)) && ((a.2.2.1 == ([] : List UInt8)) && ((a.2.2.2.1 == 0) && (a.2.2.2.2.1 == 0)))))), ⟨K, K, K, K, K, K, K, trivial⟩, SP.sel r7 [3, 1, 2] rfl rfl, H⟩
             ·have H := cf H e7
              refine aG [GEq (.bool a.2.2.2.2.2.1), GEq (.bool p), GEq (.bool (a.2.2.2.2.2.1 == p)), GEq (.bool (a.2.2.2.2.2.1 == p)), GEq (.bool p), GEq (.bool p), GEq undef, GEq undef, GEq undef, GEq (.bool false), GEq (.bool false), GEq (.bool false), GEq (.bool a.2.2.2.2.2.1), GEq (.bool a.2.2.2.2.2.1), GEq (pt m 0), GEq (.bool a8), GEq (pt q 0), GEq (.int .i64 a.1), GEq (.bool (a.1 == 4)), GEq (.bool (a.1 == 4)), GEq undef, GEq undef, GEq undef, GEq (.bool true), GEq (.bool (!(a8 == true))), GEq (.bool (!(a8 == true))), GEq (.bool (!(a8 == true))), GEq (.bool (!(a8 == true))), GEq (.bool a.2.2.2.2.2.1), GEq (.bool (!a.2.2.2.2.2.1)), GEq (.bool (!a.2.2.2.2.2.1)), GEq undef, GEq undef, GEq undef, GEq (.bool false), GEq (.bool false)] [15] [sG [] [] [] w0 [Qj s 79 #[(.int .i64 f.1), (.int .i64 f.2.1), (.int .i64 f.2.2.1), (.int .i64 f.2.2.2.1), (.slice A6 (List.length (List.map stT d9)) c7), (.map (some u))], Qz u f.2.2.2.2, Qj m 95 #[(pt s 0), (Q4 a.2.2.2.2.2.2.1 m), (.string ⟨List.toArray a.2.2.2.2.2.2.2.1⟩), (.string ⟨List.toArray a.2.2.2.2.2.2.2.2.1⟩), (.string ⟨List.toArray a.2.2.2.2.2.2.2.2.2.1⟩), (.bool a.2.2.2.2.2.2.2.2.2.2)], Qj q 63 #[(.int .i64 a.1), (.string ⟨List.toArray a.2.1⟩), (.string ⟨List.toArray a.2.2.1⟩), (.int .i64 a.2.2.2.1), (.int .i64 a.2.2.2.2.1)]], sG [15] [(.bool a8)] [] w0 [Qj q 63 #[(.int .i64 a.1), (.string ⟨List.toArray a.2.1⟩), (.string ⟨List.toArray a.2.2.1⟩), (.int .i64 a.2.2.2.1), (.int .i64 a.2.2.2.2.1)], Qj s 79 #[(.int .i64 f.1), (.int .i64 f.2.1), (.int .i64 f.2.2.1), (.int .i64 f.2.2.2.1), (.slice A6 (List.length (List.map stT d9)) c7), (.map (some u))], Qz u f.2.2.2.2, Qj m 95 #[(pt s 0), (Q4 a.2.2.2.2.2.2.1 m), (.string ⟨List.toArray a.2.2.2.2.2.2.2.1⟩), (.string ⟨List.toArray a.2.2.2.2.2.2.2.2.1⟩), (.string ⟨List.toArray a.2.2.2.2.2.2.2.2.2.1⟩), (.bool a.2.2.2.2.2.2.2.2.2.2)]]] 36 1 ⟨trivial, SP.drew c2⟩ ?_ ?_
              iterate 36 refine And.intro ?_ ?_
              exact trivial
              ·exact oV (hC (hS 12 (.bool a.2.2.2.2.2.1)) (h0)) (.bool a.2.2.2.2.2.1)
              ·exact oV (hC (hS 10 (.bool p)) (h0)) (.bool p)
              ·exact oV (hC (hA 0 59) (hC (hA 1 60) (h0))) (.bool (a.2.2.2.2.2.1 == p))
              ·exact oV (hC (hA 2 61) (h0)) (.bool (a.2.2.2.2.2.1 == p))
              ·exact oV (hC (hS 10 (.bool p)) (hC (hB 3 62 a3) (h0))) (.bool p)
              ·exact oV (hC (hA 4 63) (hC (hB 3 62 a3) (h0))) (.bool p)
              ·exact oW (hC (hB 5 64 a5) (h0)) 65
              ·exact oW (hC (hB 5 64 a5) (h0)) 66
              ·exact oW (hC (hB 5 64 a5) (h0)) 67
              ·exact oV (hC (hB 5 64 a5) (hC (hA 8 67) (hC (hB 3 62 a3) (h0)))) (.bool false)
              ·exact oV (hC (hB 3 62 a3) (hC (hA 9 68) (h0))) (.bool false)
              ·exact oV (hC (hA 10 69) (h0)) (.bool false)
              ·exact oV (hC (hS 12 (.bool a.2.2.2.2.2.1)) (hC (hA 11 70) (h0))) (.bool a.2.2.2.2.2.1)
              ·exact oV (hC (hA 12 71) (hC (hA 11 70) (h0))) (.bool a.2.2.2.2.2.1)
              ·exact oV (hC (hS 7 (pt m 0)) (hC (hB 13 72 a2) (h0))) (pt m 0)
              ·refine oH 0 1 ?_
               ·rintro ρ' w' hs hah ⟨ay6, k8⟩
                have c0 := hah 14 73 K
                have a6 := hah 13 72 K
                refine kN [(73, (pt m 0)), (72, (.bool true))] ⟨c0, (Eq.trans a6 (congrArg Value.bool a2)), trivial⟩ fun hkn => ?_
                refine cF 36 #[(.tmp 73)] #[60] 74 Tryz.call36 (Qm m s A6 c7 u f.1 f.2.1 f.2.2.1 f.2.2.2.1 d9 f.2.2.2.2 a.2.2.2.2.2.2.1 a.2.2.2.2.2.2.2.1 a.2.2.2.2.2.2.2.2.1 a.2.2.2.2.2.2.2.2.2.1 a.2.2.2.2.2.2.2.2.2.2 w' (Ze k8 [0, 1, 2] rfl rfl) (fun w hm => Dp.mono _ (Vk k8 (l := [0, 1, 2]) rfl hm) b6) a8 g2) ?_
                rintro e aj2 ⟨rfl, r8⟩
                refine ⟨_, rfl, ?_⟩
                have aj3 : SP [] w0 aj2 [Qj q 63 #[(.int .i64 a.1), (.string ⟨List.toArray a.2.1⟩), (.string ⟨List.toArray a.2.2.1⟩), (.int .i64 a.2.2.2.1), (.int .i64 a.2.2.2.2.1)], Qj s 79 #[(.int .i64 f.1), (.int .i64 f.2.1), (.int .i64 f.2.2.1), (.int .i64 f.2.2.2.1), (.slice A6 (List.length (List.map stT d9)) c7), (.map (some u))], Qz u f.2.2.2.2, Qj m 95 #[(pt s 0), (Q4 a.2.2.2.2.2.2.1 m), (.string ⟨List.toArray a.2.2.2.2.2.2.2.1⟩), (.string ⟨List.toArray a.2.2.2.2.2.2.2.2.1⟩), (.string ⟨List.toArray a.2.2.2.2.2.2.2.2.2.1⟩), (.bool a.2.2.2.2.2.2.2.2.2.2)]] := Va k8 [0, 1, 2] [3] rfl rfl r8 rfl
                clear r8
                refine ⟨_, Qa hkn, rfl, ?_⟩
                exact (And.intro (And.intro rfl (trivial)) (aj3))
              ·exact oV (hC (hS 11 (pt q 0)) (hC (hB 13 72 a2) (h0))) (pt q 0)
              ·refine Owe.light K [0, 1] K (Qe ?_ (Qe ?_ Q9))
               ·rintro ρ' w' hs hah ⟨ay7, aj4⟩
                have b3 := hah 16 75 K
                have a6 := hah 13 72 K
                refine kN [(75, (pt q 0)), (72, (.bool true))] ⟨b3, (Eq.trans a6 (congrArg Value.bool a2)), trivial⟩ fun hkn => ?_
                refine sL 3 75 q 0 3 (.int .i64 a.1) 76 aj4 rfl ?_
                exact eK hkn
               ·rintro ρ' w' hs hah ⟨⟨ay8, -⟩, aj5⟩
                have b3 := hah 16 75 K
                have a6 := hah 13 72 K
                refine kN [(75, (pt q 0)), (72, (.bool true))] ⟨b3, (Eq.trans a6 (congrArg Value.bool a2)), trivial⟩ fun hkn => ?_
                refine sL 3 75 q 0 0 (.int .i64 a.1) 76 aj5 rfl ?_
                exact eK hkn
              ·exact oV (hC (hA 17 76) (hC (hB 13 72 a2) (h0))) (.bool (a.1 == 4))
              ·exact oV (hC (hA 18 77) (hC (hB 13 72 a2) (h0))) (.bool (a.1 == 4))
              ·exact oW (hC (hB 19 78 b8) (h0)) 79
              ·exact oW (hC (hB 19 78 b8) (h0)) 80
              ·exact oW (hC (hB 19 78 b8) (h0)) 81
              ·exact oV (hC (hB 19 78 b8) (hC (hA 22 81) (hC (hB 13 72 a2) (h0)))) (.bool true)
              ·exact oV (hC (hA 15 74) (hC (hA 23 82) (hC (hB 13 72 a2) (h0)))) (.bool (!(a8 == true)))
              ·exact oV (hC (hB 13 72 a2) (hC (hA 24 83) (hC (hA 11 70) (h0)))) (.bool (!(a8 == true)))
              ·exact oV (hC (hA 11 70) (hC (hA 25 84) (h0))) (.bool (!(a8 == true)))
              ·exact oV (hC (hA 26 85) (h0)) (.bool (!(a8 == true)))
              ·exact oV (hC (hS 12 (.bool a.2.2.2.2.2.1)) (hC (hB 27 86 c5) (h0))) (.bool a.2.2.2.2.2.1)
              ·exact oV (hC (hA 28 87) (hC (hB 27 86 c5) (h0))) (.bool (!a.2.2.2.2.2.1))
              ·exact oV (hC (hA 29 88) (hC (hB 27 86 c5) (h0))) (.bool (!a.2.2.2.2.2.1))
              ·exact oW (hC (hB 30 89 e7) (h0)) 90
              ·exact oW (hC (hB 30 89 e7) (h0)) 91
              ·exact oW (hC (hB 30 89 e7) (h0)) 92
              ·exact oV (hC (hB 30 89 e7) (hC (hA 33 92) (hC (hB 27 86 c5) (h0)))) (.bool false)
              ·exact oV (hC (hB 27 86 c5) (hC (hA 34 93) (h0))) (.bool false)
              ·rintro ρ' w' hs hf ⟨⟨ay9, -⟩, r9⟩
               refine Q1 [(1, (.slice b0 (List.length a9) b1)), (5, (.bool b2)), (7, (pt m 0)), (8, (.int .i64 b4)), (9, (.int .i64 a4)), (12, (.bool a.2.2.2.2.2.1)), (94, (.bool false))] ⟨(hs 1 K).trans K, (hs 5 K).trans K, (hs 7 K).trans K, (hs 8 K).trans K, (hs 9 K).trans K, (hs 12 K).trans K, hf 35 94 K, trivial⟩ ?_
               obtain ⟨az0, aj6⟩ : ∃ x, w' = x := ⟨_, rfl⟩
               rw [aj6] at r9 ⊢
               exact ⟨false, ⟨K, K, K, K, K, K, K, trivial⟩, SP.sel r9 [3, 1, 2] rfl rfl, H⟩
           ·have H := cf H b8
            rcases Bool.eq_false_or_eq_true (!(a8 == (a.1 == 5))) with c6 | c6
            ·have H := ct H c6
             refine aG [GEq (.bool a.2.2.2.2.2.1), GEq (.bool p), GEq (.bool (a.2.2.2.2.2.1 == p)), GEq (.bool (a.2.2.2.2.2.1 == p)), GEq (.bool p), GEq (.bool p), GEq undef, GEq undef, GEq undef, GEq (.bool false), GEq (.bool false), GEq (.bool false), GEq (.bool a.2.2.2.2.2.1), GEq (.bool a.2.2.2.2.2.1), GEq (pt m 0), GEq (.bool a8), GEq (pt q 0), GEq (.int .i64 a.1), GEq (.bool (a.1 == 4)), GEq (.bool (a.1 == 4)), GEq (pt q 0), GEq (.int .i64 a.1), GEq (.bool (a.1 == 5)), GEq (.bool (a.1 == 5)), GEq (.bool (!(a8 == (a.1 == 5)))), GEq (.bool (!(a8 == (a.1 == 5)))), GEq (.bool (!(a8 == (a.1 == 5)))), GEq (.bool (!(a8 == (a.1 == 5)))), GEq undef, GEq undef, GEq undef, GEq undef, GEq undef, GEq undef, GEq undef, GEq (.bool true)] [15] [sG [] [] [] w0 [Qj s 79 #[(.int .i64 f.1), (.int .i64 f.2.1), (.int .i64 f.2.2.1), (.int .i64 f.2.2.2.1), (.slice A6 (List.length (List.map stT d9)) c7), (.map (some u))], Qz u f.2.2.2.2, Qj m 95 #[(pt s 0), (Q4 a.2.2.2.2.2.2.1 m), (.string ⟨List.toArray a.2.2.2.2.2.2.2.1⟩), (.string ⟨List.toArray a.2.2.2.2.2.2.2.2.1⟩), (.string ⟨List.toArray a.2.2.2.2.2.2.2.2.2.1⟩), (.bool a.2.2.2.2.2.2.2.2.2.2)], Qj q 63 #[(.int .i64 a.1), (.string ⟨List.toArray a.2.1⟩), (.string ⟨List.toArray a.2.2.1⟩), (.int .i64 a.2.2.2.1), (.int .i64 a.2.2.2.2.1)]], sG [15] [(.bool a8)] [] w0 [Qj q 63 #[(.int .i64 a.1), (.string ⟨List.toArray a.2.1⟩), (.string ⟨List.toArray a.2.2.1⟩), (.int .i64 a.2.2.2.1), (.int .i64 a.2.2.2.2.1)], Qj s 79 #[(.int .i64 f.1), (.int .i64 f.2.1), (.int .i64 f.2.2.1), (.int .i64 f.2.2.2.1), (.slice A6 (List.length (List.map stT d9)) c7), (.map (some u))], Qz u f.2.2.2.2, Qj m 95 #[(pt s 0), (Q4 a.2.2.2.2.2.2.1 m), (.string ⟨List.toArray a.2.2.2.2.2.2.2.1⟩), (.string ⟨List.toArray a.2.2.2.2.2.2.2.2.1⟩), (.string ⟨List.toArray a.2.2.2.2.2.2.2.2.2.1⟩), (.bool a.2.2.2.2.2.2.2.2.2.2)]]] 36 1 ⟨trivial, SP.drew c2⟩ ?_ ?_
             iterate 36 refine And.intro ?_ ?_
             exact trivial
             ·exact oV (hC (hS 12 (.bool a.2.2.2.2.2.1)) (h0)) (.bool a.2.2.2.2.2.1)
             ·exact oV (hC (hS 10 (.bool p)) (h0)) (.bool p)
             ·exact oV (hC (hA 0 59) (hC (hA 1 60) (h0))) (.bool (a.2.2.2.2.2.1 == p))
             ·exact oV (hC (hA 2 61) (h0)) (.bool (a.2.2.2.2.2.1 == p))
             ·exact oV (hC (hS 10 (.bool p)) (hC (hB 3 62 a3) (h0))) (.bool p)
             ·exact oV (hC (hA 4 63) (hC (hB 3 62 a3) (h0))) (.bool p)
             ·exact oW (hC (hB 5 64 a5) (h0)) 65
             ·exact oW (hC (hB 5 64 a5) (h0)) 66
             ·exact oW (hC (hB 5 64 a5) (h0)) 67
             ·exact oV (hC (hB 5 64 a5) (hC (hA 8 67) (hC (hB 3 62 a3) (h0)))) (.bool false)
             ·exact oV (hC (hB 3 62 a3) (hC (hA 9 68) (h0))) (.bool false)
             ·exact oV (hC (hA 10 69) (h0)) (.bool false)
             ·exact oV (hC (hS 12 (.bool a.2.2.2.2.2.1)) (hC (hA 11 70) (h0))) (.bool a.2.2.2.2.2.1)
             ·exact oV (hC (hA 12 71) (hC (hA 11 70) (h0))) (.bool a.2.2.2.2.2.1)
             ·exact oV (hC (hS 7 (pt m 0)) (hC (hB 13 72 a2) (h0))) (pt m 0)
             ·refine oH 0 1 ?_
              ·rintro ρ' w' hs hah ⟨az1, k9⟩
               have c0 := hah 14 73 K
               have a6 := hah 13 72 K
               refine kN [(73, (pt m 0)), (72, (.bool true))] ⟨c0, (Eq.trans a6 (congrArg Value.bool a2)), trivial⟩ fun hkn => ?_
               refine cF 36 #[(.tmp 73)] #[60] 74 Tryz.call36 (Qm m s A6 c7 u f.1 f.2.1 f.2.2.1 f.2.2.2.1 d9 f.2.2.2.2 a.2.2.2.2.2.2.1 a.2.2.2.2.2.2.2.1 a.2.2.2.2.2.2.2.2.1 a.2.2.2.2.2.2.2.2.2.1 a.2.2.2.2.2.2.2.2.2.2 w' (Ze k9 [0, 1, 2] rfl rfl) (fun w hm => Dp.mono _ (Vk k9 (l := [0, 1, 2]) rfl hm) b6) a8 g2) ?_
               rintro e aj7 ⟨rfl, s0⟩
               refine ⟨_, rfl, ?_⟩
               have aj8 : SP [] w0 aj7 [Qj q 63 #[(.int .i64 a.1), (.string ⟨List.toArray a.2.1⟩), (.string ⟨List.toArray a.2.2.1⟩), (.int .i64 a.2.2.2.1), (.int .i64 a.2.2.2.2.1)], Qj s 79 #[(.int .i64 f.1), (.int .i64 f.2.1), (.int .i64 f.2.2.1), (.int .i64 f.2.2.2.1), (.slice A6 (List.length (List.map stT d9)) c7), (.map (some u))], Qz u f.2.2.2.2, Qj m 95 #[(pt s 0), (Q4 a.2.2.2.2.2.2.1 m), (.string ⟨List.toArray a.2.2.2.2.2.2.2.1⟩), (.string ⟨List.toArray a.2.2.2.2.2.2.2.2.1⟩), (.string ⟨List.toArray a.2.2.2.2.2.2.2.2.2.1⟩), (.bool a.2.2.2.2.2.2.2.2.2.2)]] := Va k9 [0, 1, 2] [3] rfl rfl s0 rfl
               clear s0
               refine ⟨_, Qa hkn, rfl, ?_⟩
               exact (And.intro (And.intro rfl (trivial)) (aj8))
             ·exact oV (hC (hS 11 (pt q 0)) (hC (hB 13 72 a2) (h0))) (pt q 0)
             ·refine Owe.light K [0, 1] K (Qe ?_ (Qe ?_ Q9))
              ·rintro ρ' w' hs hah ⟨az2, aj9⟩
               have b3 := hah 16 75 K
               have a6 := hah 13 72 K
               refine kN [(75, (pt q 0)), (72, (.bool true))] ⟨b3, (Eq.trans a6 (congrArg Value.bool a2)), trivial⟩ fun hkn => ?_
               refine sL 3 75 q 0 3 (.int .i64 a.1) 76 aj9 rfl ?_
               exact eK hkn
              ·rintro ρ' w' hs hah ⟨⟨az3, -⟩, ak0⟩
               have b3 := hah 16 75 K
               have a6 := hah 13 72 K
               refine kN [(75, (pt q 0)), (72, (.bool true))] ⟨b3, (Eq.trans a6 (congrArg Value.bool a2)), trivial⟩ fun hkn => ?_
               refine sL 3 75 q 0 0 (.int .i64 a.1) 76 ak0 rfl ?_
               exact eK hkn
             ·exact oV (hC (hA 17 76) (hC (hB 13 72 a2) (h0))) (.bool (a.1 == 4))
             ·exact oV (hC (hA 18 77) (hC (hB 13 72 a2) (h0))) (.bool (a.1 == 4))
             ·exact oV (hC (hS 11 (pt q 0)) (hC (hB 19 78 b8) (h0))) (pt q 0)
             ·refine oL 1 ?_
              ·rintro ρ' w' hs hah ⟨⟨az4, -⟩, ak1⟩
               have e3 := hah 20 79 K
               have e4 := hah 19 78 K
               refine kN [(79, (pt q 0)), (78, (.bool false))] ⟨e3, (Eq.trans e4 (congrArg Value.bool b8)), trivial⟩ fun hkn => ?_
               refine sL 3 79 q 0 0 (.int .i64 a.1) 80 ak1 rfl ?_
               exact eK hkn
             ·exact oV (hC (hA 21 80) (hC (hB 19 78 b8) (h0))) (.bool (a.1 == 5))
             ·exact oV (hC (hB 19 78 b8) (hC (hA 22 81) (hC (hB 13 72 a2) (h0)))) (.bool (a.1 == 5))
             ·exact oV (hC (hA 15 74) (hC (hA 23 82) (hC (hB 13 72 a2) (h0)))) (.bool (!(a8 == (a.1 == 5))))
             ·exact oV (hC (hB 13 72 a2) (hC (hA 24 83) (hC (hA 11 70) (h0)))) (.bool (!(a8 == (a.1 == 5))))
             ·exact oV (hC (hA 11 70) (hC (hA 25 84) (h0))) (.bool (!(a8 == (a.1 == 5))))
             ·exact oV (hC (hA 26 85) (h0)) (.bool (!(a8 == (a.1 == 5))))
             ·exact oW (hC (hB 27 86 c6) (h0)) 87
             ·exact oW (hC (hB 27 86 c6) (h0)) 88
             ·exact oW (hC (hB 27 86 c6) (h0)) 89
             ·exact oW (hC (hA 30 89) (h0)) 90
             ·exact oW (hC (hA 30 89) (h0)) 91
             ·exact oW (hC (hA 30 89) (h0)) 92
             ·exact oW (hC (hB 27 86 c6) (h0)) 93
             ·exact oV (hC (hB 27 86 c6) (hC (hA 34 93) (h0))) (.bool true)
             ·rintro ρ' w' hs hf ⟨⟨az5, -⟩, s1⟩
              refine Q1 [(1, (.slice b0 (List.length a9) b1)), (5, (.bool b2)), (7, (pt m 0)), (8, (.int .i64 b4)), (9, (.int .i64 a4)), (12, (.bool a.2.2.2.2.2.1)), (94, (.bool true))] ⟨(hs 1 K).trans K, (hs 5 K).trans K, (hs 7 K).trans K, (hs 8 K).trans K, (hs 9 K).trans K, (hs 12 K).trans K, hf 35 94 K, trivial⟩ ?_
              obtain ⟨az6, ak2⟩ : ∃ x, w' = x := ⟨_, rfl⟩
              rw [ak2] at s1 ⊢
              exact ⟨true, ⟨K, K, K, K, K, K, K, trivial⟩, SP.sel s1 [3, 1, 2] rfl rfl, H⟩
            ·have H := cf H c6
             rcases Bool.eq_false_or_eq_true (!a.2.2.2.2.2.1) with e8 | e8
             ·have H := ct H e8
              refine aG [GEq (.bool a.2.2.2.2.2.1), GEq (.bool p), GEq (.bool (a.2.2.2.2.2.1 == p)), GEq (.bool (a.2.2.2.2.2.1 == p)), GEq (.bool p), GEq (.bool p), GEq undef, GEq undef, GEq undef, GEq (.bool false), GEq (.bool false), GEq (.bool false), GEq (.bool a.2.2.2.2.2.1), GEq (.bool a.2.2.2.2.2.1), GEq (pt m 0), GEq (.bool a8), GEq (pt q 0), GEq (.int .i64 a.1), GEq (.bool (a.1 == 4)), GEq (.bool (a.1 == 4)), GEq (pt q 0), GEq (.int .i64 a.1), GEq (.bool (a.1 == 5)), GEq (.bool (a.1 == 5)), GEq (.bool (!(a8 == (a.1 == 5)))), GEq (.bool (!(a8 == (a.1 == 5)))), GEq (.bool (!(a8 == (a.1 == 5)))), GEq (.bool (!(a8 == (a.1 == 5)))), GEq (.bool a.2.2.2.2.2.1), GEq (.bool (!a.2.2.2.2.2.1)), GEq (.bool (!a.2.2.2.2.2.1)), GEq (.agg #[(.int .i64 a.1), (.string ⟨List.toArray a.2.1⟩), (.string ⟨List.toArray a.2.2.1⟩), (.int .i64 a.2.2.2.1), (.int .i64 a.2.2.2.2.1)]), GEq (.agg #[(.int .i64 0), (.string ⟨List.toArray ([] : List UInt8)⟩), (.string ⟨List.toArray ([] : List UInt8)⟩), (.int .i64 0), (.int .i64 0)]), GEq (.bool (!((a.1 == 0) && ((a.2.1 == ([] : List UInt8)) && ((a.2.2.1 == ([] : List UInt8)) && ((a.2.2.2.1 == 0) && (a.2.2.2.2.1 == 0))))))), GEq (.bool (!((a.1 == 0) && ((a.2.1 == ([] : List UInt8)) && ((a.2.2.1 == ([] : List UInt8)) && ((a.2.2.2.1 == 0) && (a.2.2.2.2.1 == 0))))))), GEq (.bool (!((a.1 == 0) && ((a.2.1 == ([] : List UInt8)) && ((a.2.2.1 == ([] : List UInt8)) && ((a.2.2.2.1 == 0) && (a.2.2.2.2.1 == 0)))))))] [15] [sG [] [] [] w0 [Qj s 79 #[(.int .i64 f.1), (.int .i64 f.2.1), (.int .i64 f.2.2.1), (.int .i64 f.2.2.2.1), (.slice A6 (List.length (List.map stT d9)) c7), (.map (some u))], Qz u f.2.2.2.2, Qj m 95 #[(pt s 0), (Q4 a.2.2.2.2.2.2.1 m), (.string ⟨List.toArray a.2.2.2.2.2.2.2.1⟩), (.string ⟨List.toArray a.2.2.2.2.2.2.2.2.1⟩), (.string ⟨List.toArray a.2.2.2.2.2.2.2.2.2.1⟩), (.bool a.2.2.2.2.2.2.2.2.2.2)], Qj q 63 #[(.int .i64 a.1), (.string ⟨List.toArray a.2.1⟩), (.string ⟨List.toArray a.2.2.1⟩), (.int .i64 a.2.2.2.1), (.int .i64 a.2.2.2.2.1)]], sG [15] [(.bool a8)] [] w0 [Qj q 63 #[(.int .i64 a.1), (.string ⟨List.toArray a.2.1⟩), (.string ⟨List.toArray a.2.2.1⟩), (.int .i64 a.2.2.2.1), (.int .i64 a.2.2.2.2.1)], Qj s 79 #[(.int .i64 f.1), (.int .i64 f.2.1), (.int .i64 f.2.2.1), (.int .i64 f.2.2.2.1), (.slice A6 (List.length (List.map stT d9)) c7), (.map (some u))], Qz u f.2.2.2.2, Qj m 95 #[(pt s 0), (Q4 a.2.2.2.2.2.2.1 m), (.string ⟨List.toArray a.2.2.2.2.2.2.2.1⟩), (.string ⟨List.toArray a.2.2.2.2.2.2.2.2.1⟩), (.string ⟨List.toArray a.2.2.2.2.2.2.2.2.2.1⟩), (.bool a.2.2.2.2.2.2.2.2.2.2)]]] 36 1 ⟨trivial, SP.drew c2⟩ ?_ ?_
              iterate 36 refine And.intro ?_ ?_
              exact trivial
              ·exact oV (hC (hS 12 (.bool a.2.2.2.2.2.1)) (h0)) (.bool a.2.2.2.2.2.1)
              ·exact oV (hC (hS 10 (.bool p)) (h0)) (.bool p)
              ·exact oV (hC (hA 0 59) (hC (hA 1 60) (h0))) (.bool (a.2.2.2.2.2.1 == p))
              ·exact oV (hC (hA 2 61) (h0)) (.bool (a.2.2.2.2.2.1 == p))
              ·exact oV (hC (hS 10 (.bool p)) (hC (hB 3 62 a3) (h0))) (.bool p)
              ·exact oV (hC (hA 4 63) (hC (hB 3 62 a3) (h0))) (.bool p)
              ·exact oW (hC (hB 5 64 a5) (h0)) 65
              ·exact oW (hC (hB 5 64 a5) (h0)) 66
              ·exact oW (hC (hB 5 64 a5) (h0)) 67
              ·exact oV (hC (hB 5 64 a5) (hC (hA 8 67) (hC (hB 3 62 a3) (h0)))) (.bool false)
              ·exact oV (hC (hB 3 62 a3) (hC (hA 9 68) (h0))) (.bool false)
              ·exact oV (hC (hA 10 69) (h0)) (.bool false)
              ·exact oV (hC (hS 12 (.bool a.2.2.2.2.2.1)) (hC (hA 11 70) (h0))) (.bool a.2.2.2.2.2.1)
              ·exact oV (hC (hA 12 71) (hC (hA 11 70) (h0))) (.bool a.2.2.2.2.2.1)
              ·exact oV (hC (hS 7 (pt m 0)) (hC (hB 13 72 a2) (h0))) (pt m 0)
              ·refine oH 0 1 ?_
               ·rintro ρ' w' hs hah ⟨az7, l0⟩
                have c0 := hah 14 73 K
                have a6 := hah 13 72 K
                refine kN [(73, (pt m 0)), (72, (.bool true))] ⟨c0, (Eq.trans a6 (congrArg Value.bool a2)), trivial⟩ fun hkn => ?_
                refine cF 36 #[(.tmp 73)] #[60] 74 Tryz.call36 (Qm m s A6 c7 u f.1 f.2.1 f.2.2.1 f.2.2.2.1 d9 f.2.2.2.2 a.2.2.2.2.2.2.1 a.2.2.2.2.2.2.2.1 a.2.2.2.2.2.2.2.2.1 a.2.2.2.2.2.2.2.2.2.1 a.2.2.2.2.2.2.2.2.2.2 w' (Ze l0 [0, 1, 2] rfl rfl) (fun w hm => Dp.mono _ (Vk l0 (l := [0, 1, 2]) rfl hm) b6) a8 g2) ?_
                rintro e ak3 ⟨rfl, s2⟩
                refine ⟨_, rfl, ?_⟩
                have ak4 : SP [] w0 ak3 [Qj q 63 #[(.int .i64 a.1), (.string ⟨List.toArray a.2.1⟩), (.string ⟨List.toArray a.2.2.1⟩), (.int .i64 a.2.2.2.1), (.int .i64 a.2.2.2.2.1)], Qj s 79 #[(.int .i64 f.1), (.int .i64 f.2.1), (.int .i64 f.2.2.1), (.int .i64 f.2.2.2.1), (.slice A6 (List.length (List.map stT d9)) c7), (.map (some u))], Qz u f.2.2.2.2, Qj m 95 #[(pt s 0), (Q4 a.2.2.2.2.2.2.1 m), (.string ⟨List.toArray a.2.2.2.2.2.2.2.1⟩), (.string ⟨List.toArray a.2.2.2.2.2.2.2.2.1⟩), (.string ⟨List.toArray a.2.2.2.2.2.2.2.2.2.1⟩), (.bool a.2.2.2.2.2.2.2.2.2.2)]] := Va l0 [0, 1, 2] [3] rfl rfl s2 rfl
                clear s2
                refine ⟨_, Qa hkn, rfl, ?_⟩
                exact (And.intro (And.intro rfl (trivial)) (ak4))
              ·exact oV (hC (hS 11 (pt q 0)) (hC (hB 13 72 a2) (h0))) (pt q 0)
              ·refine Owe.light K [0, 1] K (Qe ?_ (Qe ?_ Q9))
               ·rintro ρ' w' hs hah ⟨az8, ak5⟩
                have b3 := hah 16 75 K
                have a6 := hah 13 72 K
                refine kN [(75, (pt q 0)), (72, (.bool true))] ⟨b3, (Eq.trans a6 (congrArg Value.bool a2)), trivial⟩ fun hkn => ?_
                refine sL 3 75 q 0 3 (.int .i64 a.1) 76 ak5 rfl ?_
                exact eK hkn
               ·rintro ρ' w' hs hah ⟨⟨az9, -⟩, ak6⟩
                have b3 := hah 16 75 K
                have a6 := hah 13 72 K
                refine kN [(75, (pt q 0)), (72, (.bool true))] ⟨b3, (Eq.trans a6 (congrArg Value.bool a2)), trivial⟩ fun hkn => ?_
                refine sL 3 75 q 0 0 (.int .i64 a.1) 76 ak6 rfl ?_
                exact eK hkn
              ·exact oV (hC (hA 17 76) (hC (hB 13 72 a2) (h0))) (.bool (a.1 == 4))
              ·exact oV (hC (hA 18 77) (hC (hB 13 72 a2) (h0))) (.bool (a.1 == 4))
              ·exact oV (hC (hS 11 (pt q 0)) (hC (hB 19 78 b8) (h0))) (pt q 0)
              ·refine oL 1 ?_
               ·rintro ρ' w' hs hah ⟨⟨ba0, -⟩, ak7⟩
                have e3 := hah 20 79 K
                have e4 := hah 19 78 K
                refine kN [(79, (pt q 0)), (78, (.bool false))] ⟨e3, (Eq.trans e4 (congrArg Value.bool b8)), trivial⟩ fun hkn => ?_
                refine sL 3 79 q 0 0 (.int .i64 a.1) 80 ak7 rfl ?_
                exact eK hkn
              ·exact oV (hC (hA 21 80) (hC (hB 19 78 b8) (h0))) (.bool (a.1 == 5))
              ·exact oV (hC (hB 19 78 b8) (hC (hA 22 81) (hC (hB 13 72 a2) (h0)))) (.bool (a.1 == 5))
              ·exact oV (hC (hA 15 74) (hC (hA 23 82) (hC (hB 13 72 a2) (h0)))) (.bool (!(a8 == (a.1 == 5))))
              ·exact oV (hC (hB 13 72 a2) (hC (hA 24 83) (hC (hA 11 70) (h0)))) (.bool (!(a8 == (a.1 == 5))))
              ·exact oV (hC (hA 11 70) (hC (hA 25 84) (h0))) (.bool (!(a8 == (a.1 == 5))))
              ·exact oV (hC (hA 26 85) (h0)) (.bool (!(a8 == (a.1 == 5))))
              ·exact oV (hC (hS 12 (.bool a.2.2.2.2.2.1)) (hC (hB 27 86 c6) (h0))) (.bool a.2.2.2.2.2.1)
              ·exact oV (hC (hA 28 87) (hC (hB 27 86 c6) (h0))) (.bool (!a.2.2.2.2.2.1))
              ·exact oV (hC (hA 29 88) (hC (hB 27 86 c6) (h0))) (.bool (!a.2.2.2.2.2.1))
              ·refine oL 1 ?_
               ·rintro ρ' w' hs hah ⟨⟨ba1, -⟩, ak8⟩
                have e0 : ρ' 11 = (pt q 0) := (hs 11 K).trans K
                have c1 := hah 30 89 K
                refine kN [(11, (pt q 0)), (89, (.bool true))] ⟨e0, (Eq.trans c1 (congrArg Value.bool e8)), trivial⟩ fun hkn => ?_
                refine sL 63 11 q 0 0 (.agg #[(.int .i64 a.1), (.string ⟨List.toArray a.2.1⟩), (.string ⟨List.toArray a.2.2.1⟩), (.int .i64 a.2.2.2.1), (.int .i64 a.2.2.2.2.1)]) 90 ak8 rfl ?_
                exact eK hkn
              ·exact oV (hC (hB 30 89 e8) (h0)) (.agg #[(.int .i64 0), (.string ⟨List.toArray ([] : List UInt8)⟩), (.string ⟨List.toArray ([] : List UInt8)⟩), (.int .i64 0), (.int .i64 0)])
              ·refine oL 1 ?_
               ·rintro ρ' w' hs hah ⟨⟨ba2, -⟩, ba3⟩
                have e1 := hah 31 90 K
                have e2 := hah 32 91 K
                have c1 := hah 30 89 K
                refine kN [(90, (.agg #[(.int .i64 a.1), (.string ⟨List.toArray a.2.1⟩), (.string ⟨List.toArray a.2.2.1⟩), (.int .i64 a.2.2.2.1), (.int .i64 a.2.2.2.2.1)])), (91, (.agg #[(.int .i64 0), (.string ⟨List.toArray ([] : List UInt8)⟩), (.string ⟨List.toArray ([] : List UInt8)⟩), (.int .i64 0), (.int .i64 0)])), (89, (.bool true))] ⟨e1, e2, (Eq.trans c1 (congrArg Value.bool e8)), trivial⟩ fun hkn => ?_
                refine Uy (op := .neq) (T := 63) (T' := 63) (x := (.tmp 90)) (y := (.tmp 91)) (vx := (.agg #[(.int .i64 a.1), (.string ⟨List.toArray a.2.1⟩), (.string ⟨List.toArray a.2.2.1⟩), (.int .i64 a.2.2.2.1), (.int .i64 a.2.2.2.2.1)])) (vy := (.agg #[(.int .i64 0), (.string ⟨List.toArray ([] : List UInt8)⟩), (.string ⟨List.toArray ([] : List UInt8)⟩), (.int .i64 0), (.int .i64 0)])) (v := (.bool (!((a.1 == 0) && ((a.2.1 == ([] : List UInt8)) && ((a.2.2.1 == ([] : List UInt8)) && ((a.2.2.2.1 == 0) && (a.2.2.2.2.1 == 0)))))))) (d := (some 92)) (k := 33) K rfl K K (by clear H; intro w; simp only [Jt]; go_simp; simp only [Ub, Jg, U4, Jt, Bool.and_true] <;> simp only [Bool.not_and]) ?_
                exact eK hkn
              ·exact oV (hC (hB 30 89 e8) (hC (hA 33 92) (hC (hB 27 86 c6) (h0)))) (.bool (!((a.1 == 0) && ((a.2.1 == ([] : List UInt8)) && ((a.2.2.1 == ([] : List UInt8)) && ((a.2.2.2.1 == 0) && (a.2.2.2.2.1 == 0)))))))
              ·exact oV (hC (hB 27 86 c6) (hC (hA 34 93) (h0))) (.bool (!((a.1 == 0) && ((a.2.1 == ([] : List UInt8)) && ((a.2.2.1 == ([] : List UInt8)) && ((a.2.2.2.1 == 0) && (a.2.2.2.2.1 == 0)))))))
              ·rintro ρ' w' hs hf ⟨⟨ba4, -⟩, s3⟩
               refine Q1 [(1, (.slice b0 (List.length a9) b1)), (5, (.bool b2)), (7, (pt m 0)), (8, (.int .i64 b4)), (9, (.int .i64 a4)), (12, (.bool a.2.2.2.2.2.1)), (94, (.bool (!((a.1 == 0) && ((a.2.1 == ([] : List UInt8)) && ((a.2.2.1 == ([] : List UInt8)) && ((a.2.2.2.1 == 0) && (a.2.2.2.2.1 == 0))))))))] ⟨(hs 1 K).trans K, (hs 5 K).trans K, (hs 7 K).trans K, (hs 8 K).trans K, (hs 9 K).trans K, (hs 12 K).trans K, hf 35 94 K, trivial⟩ ?_
               obtain ⟨ba5, ak9⟩ : ∃ x, w' = x := ⟨_, rfl⟩
               rw [ak9] at s3 ⊢
               exact ⟨(!((a.1 == 0) && ((a.2.1 == ([] : List UInt8)) && ((a.2.2.1 == ([] : List UInt8)) && ((a.2.2.2.1 == 0) && (a.2.2.2.2.1 == 0)))))), ⟨K, K, K, K, K, K, K, trivial⟩, SP.sel s3 [3, 1, 2] rfl rfl, H⟩
             ·have H := cf H e8
              refine aG [GEq (.bool a.2.2.2.2.2.1), GEq (.bool p), GEq (.bool (a.2.2.2.2.2.1 == p)), GEq (.bool (a.2.2.2.2.2.1 == p)), GEq (.bool p), GEq (.bool p), GEq undef, GEq undef, GEq undef, GEq (.bool false), GEq (.bool false), GEq (.bool false), GEq (.bool a.2.2.2.2.2.1), GEq (.bool a.2.2.2.2.2.1), GEq (pt m 0), GEq (.bool a8), GEq (pt q 0), GEq (.int .i64 a.1), GEq (.bool (a.1 == 4)), GEq (.bool (a.1 == 4)), GEq (pt q 0), GEq (.int .i64 a.1), GEq (.bool (a.1 == 5)), GEq (.bool (a.1 == 5)), GEq (.bool (!(a8 == (a.1 == 5)))), GEq (.bool (!(a8 == (a.1 == 5)))), GEq (.bool (!(a8 == (a.1 == 5)))), GEq (.bool (!(a8 == (a.1 == 5)))), GEq (.bool a.2.2.2.2.2.1), GEq (.bool (!a.2.2.2.2.2.1)), GEq (.bool (!a.2.2.2.2.2.1)), GEq undef, GEq undef, GEq undef, GEq (.bool false), GEq (.bool false)] [15] [sG [] [] [] w0 [Qj s 79 #[(.int .i64 f.1), (.int .i64 f.2.1), (.int .i64 f.2.2.1), (.int .i64 f.2.2.2.1), (.slice A6 (List.length (List.map stT d9)) c7), (.map (some u))], Qz u f.2.2.2.2, Qj m 95 #[(pt s 0), (Q4 a.2.2.2.2.2.2.1 m), (.string ⟨List.toArray a.2.2.2.2.2.2.2.1⟩), (.string ⟨List.toArray a.2.2.2.2.2.2.2.2.1⟩), (.string ⟨List.toArray a.2.2.2.2.2.2.2.2.2.1⟩), (.bool a.2.2.2.2.2.2.2.2.2.2)], Qj q 63 #[(.int .i64 a.1), (.string ⟨List.toArray a.2.1⟩), (.string ⟨List.toArray a.2.2.1⟩), (.int .i64 a.2.2.2.1), (.int .i64 a.2.2.2.2.1)]], sG [15] [(.bool a8)] [] w0 [Qj q 63 #[(.int .i64 a.1), (.string ⟨List.toArray a.2.1⟩), (.string ⟨List.toArray a.2.2.1⟩), (.int .i64 a.2.2.2.1), (.int .i64 a.2.2.2.2.1)], Qj s 79 #[(.int .i64 f.1), (.int .i64 f.2.1), (.int .i64 f.2.2.1), (.int .i64 f.2.2.2.1), (.slice A6 (List.length (List.map stT d9)) c7), (.map (some u))], Qz u f.2.2.2.2, Qj m 95 #[(pt s 0), (Q4 a.2.2.2.2.2.2.1 m), (.string ⟨List.toArray a.2.2.2.2.2.2.2.1⟩), (.string ⟨List.toArray a.2.2.2.2.2.2.2.2.1⟩), (.string ⟨List.toArray a.2.2.2.2.2.2.2.2.2.1⟩), (.bool a.2.2.2.2.2.2.2.2.2.2)]]] 36 1 ⟨trivial, SP.drew c2⟩ ?_ ?_
              iterate 36 refine And.intro ?_ ?_
              exact trivial
              ·exact oV (hC (hS 12 (.bool a.2.2.2.2.2.1)) (h0)) (.bool a.2.2.2.2.2.1)
              ·exact oV (hC (hS 10 (.bool p)) (h0)) (.bool p)
              ·exact oV (hC (hA 0 59) (hC (hA 1 60) (h0))) (.bool (a.2.2.2.2.2.1 == p))
              ·exact oV (hC (hA 2 61) (h0)) (.bool (a.2.2.2.2.2.1 == p))
              ·exact oV (hC (hS 10 (.bool p)) (hC (hB 3 62 a3) (h0))) (.bool p)
              ·exact oV (hC (hA 4 63) (hC (hB 3 62 a3) (h0))) (.bool p)
              ·exact oW (hC (hB 5 64 a5) (h0)) 65
              ·exact oW (hC (hB 5 64 a5) (h0)) 66
              ·exact oW (hC (hB 5 64 a5) (h0)) 67
              ·exact oV (hC (hB 5 64 a5) (hC (hA 8 67) (hC (hB 3 62 a3) (h0)))) (.bool false)
              ·exact oV (hC (hB 3 62 a3) (hC (hA 9 68) (h0))) (.bool false)
              ·exact oV (hC (hA 10 69) (h0)) (.bool false)
              ·exact oV (hC (hS 12 (.bool a.2.2.2.2.2.1)) (hC (hA 11 70) (h0))) (.bool a.2.2.2.2.2.1)
              ·exact oV (hC (hA 12 71) (hC (hA 11 70) (h0))) (.bool a.2.2.2.2.2.1)
              ·exact oV (hC (hS 7 (pt m 0)) (hC (hB 13 72 a2) (h0))) (pt m 0)
              ·refine oH 0 1 ?_
               ·rintro ρ' w' hs hah ⟨ba6, l1⟩
                have c0 := hah 14 73 K
                have a6 := hah 13 72 K
                refine kN [(73, (pt m 0)), (72, (.bool true))] ⟨c0, (Eq.trans a6 (congrArg Value.bool a2)), trivial⟩ fun hkn => ?_
                refine cF 36 #[(.tmp 73)] #[60] 74 Tryz.call36 (Qm m s A6 c7 u f.1 f.2.1 f.2.2.1 f.2.2.2.1 d9 f.2.2.2.2 a.2.2.2.2.2.2.1 a.2.2.2.2.2.2.2.1 a.2.2.2.2.2.2.2.2.1 a.2.2.2.2.2.2.2.2.2.1 a.2.2.2.2.2.2.2.2.2.2 w' (Ze l1 [0, 1, 2] rfl rfl) (fun w hm => Dp.mono _ (Vk l1 (l := [0, 1, 2]) rfl hm) b6) a8 g2) ?_
                rintro e al0 ⟨rfl, s4⟩
                refine ⟨_, rfl, ?_⟩
                have al1 : SP [] w0 al0 [Qj q 63 #[(.int .i64 a.1), (.string ⟨List.toArray a.2.1⟩), (.string ⟨List.toArray a.2.2.1⟩), (.int .i64 a.2.2.2.1), (.int .i64 a.2.2.2.2.1)], Qj s 79 #[(.int .i64 f.1), (.int .i64 f.2.1), (.int .i64 f.2.2.1), (.int .i64 f.2.2.2.1), (.slice A6 (List.length (List.map stT d9)) c7), (.map (some u))], Qz u f.2.2.2.2, Qj m 95 #[(pt s 0), (Q4 a.2.2.2.2.2.2.1 m), (.string ⟨List.toArray a.2.2.2.2.2.2.2.1⟩), (.string ⟨List.toArray a.2.2.2.2.2.2.2.2.1⟩), (.string ⟨List.toArray a.2.2.2.2.2.2.2.2.2.1⟩), (.bool a.2.2.2.2.2.2.2.2.2.2)]] := Va l1 [0, 1, 2] [3] rfl rfl s4 rfl
                clear s4
                refine ⟨_, Qa hkn, rfl, ?_⟩
                exact (And.intro (And.intro rfl (trivial)) (al1))
              ·exact oV (hC (hS 11 (pt q 0)) (hC (hB 13 72 a2) (h0))) (pt q 0)
              ·refine Owe.light K [0, 1] K (Qe ?_ (Qe ?_ Q9))
               ·rintro ρ' w' hs hah ⟨ba7, al2⟩
                have b3 := hah 16 75 K
                have a6 := hah 13 72 K
                refine kN [(75, (pt q 0)), (72, (.bool true))] ⟨b3, (Eq.trans a6 (congrArg Value.bool a2)), trivial⟩ fun hkn => ?_
                refine sL 3 75 q 0 3 (.int .i64 a.1) 76 al2 rfl ?_
                exact eK hkn
               ·rintro ρ' w' hs hah ⟨⟨ba8, -⟩, al3⟩
                have b3 := hah 16 75 K
                have a6 := hah 13 72 K
                refine kN [(75, (pt q 0)), (72, (.bool true))] ⟨b3, (Eq.trans a6 (congrArg Value.bool a2)), trivial⟩ fun hkn => ?_
                refine sL 3 75 q 0 0 (.int .i64 a.1) 76 al3 rfl ?_
                exact eK hkn
              ·exact oV (hC (hA 17 76) (hC (hB 13 72 a2) (h0))) (.bool (a.1 == 4))
              ·exact oV (hC (hA 18 77) (hC (hB 13 72 a2) (h0))) (.bool (a.1 == 4))
              ·exact oV (hC (hS 11 (pt q 0)) (hC (hB 19 78 b8) (h0))) (pt q 0)
              ·refine oL 1 ?_
               ·rintro ρ' w' hs hah ⟨⟨ba9, -⟩, al4⟩
                have e3 := hah 20 79 K
                have e4 := hah 19 78 K
                refine kN [(79, (pt q 0)), (78, (.bool false))] ⟨e3, (Eq.trans e4 (congrArg Value.bool b8)), trivial⟩ fun hkn => ?_
                refine sL 3 79 q 0 0 (.int .i64 a.1) 80 al4 rfl ?_
                exact eK hkn
              ·exact oV (hC (hA 21 80) (hC (hB 19 78 b8) (h0))) (.bool (a.1 == 5))
              ·exact oV (hC (hB 19 78 b8) (hC (hA 22 81) (hC (hB 13 72 a2) (h0)))) (.bool (a.1 == 5))
              ·exact oV (hC (hA 15 74) (hC (hA 23 82) (hC (hB 13 72 a2) (h0)))) (.bool (!(a8 == (a.1 == 5))))
              ·exact oV (hC (hB 13 72 a2) (hC (hA 24 83) (hC (hA 11 70) (h0)))) (.bool (!(a8 == (a.1 == 5))))
              ·exact oV (hC (hA 11 70) (hC (hA 25 84) (h0))) (.bool (!(a8 == (a.1 == 5))))
              ·exact oV (hC (hA 26 85) (h0)) (.bool (!(a8 == (a.1 == 5))))
              ·exact oV (hC (hS 12 (.bool a.2.2.2.2.2.1)) (hC (hB 27 86 c6) (h0))) (.bool a.2.2.2.2.2.1)
              ·exact oV (hC (hA 28 87) (hC (hB 27 86 c6) (h0))) (.bool (!a.2.2.2.2.2.1))
              ·exact oV (hC (hA 29 88) (hC (hB 27 86 c6) (h0))) (.bool (!a.2.2.2.2.2.1))
              ·exact oW (hC (hB 30 89 e8) (h0)) 90
              ·exact oW (hC (hB 30 89 e8) (h0)) 91
              ·exact oW (hC (hB 30 89 e8) (h0)) 92
              ·exact oV (hC (hB 30 89 e8) (hC (hA 33 92) (hC (hB 27 86 c6) (h0)))) (.bool false)
              ·exact oV (hC (hB 27 86 c6) (hC (hA 34 93) (h0))) (.bool false)
              ·rintro ρ' w' hs hf ⟨⟨bb0, -⟩, s5⟩
               refine Q1 [(1, (.slice b0 (List.length a9) b1)), (5, (.bool b2)), (7, (pt m 0)), (8, (.int .i64 b4)), (9, (.int .i64 a4)), (12, (.bool a.2.2.2.2.2.1)), (94, (.bool false))] ⟨(hs 1 K).trans K, (hs 5 K).trans K, (hs 7 K).trans K, (hs 8 K).trans K, (hs 9 K).trans K, (hs 12 K).trans K, hf 35 94 K, trivial⟩ ?_
               obtain ⟨bb1, al5⟩ : ∃ x, w' = x := ⟨_, rfl⟩
               rw [al5] at s5 ⊢
               exact ⟨false, ⟨K, K, K, K, K, K, K, trivial⟩, SP.sel s5 [3, 1, 2] rfl rfl, H⟩
          ·have H := cf H a2
           rcases Bool.eq_false_or_eq_true (!a.2.2.2.2.2.1) with e9 | e9
           ·have H := ct H e9
            refine aG [GEq (.bool a.2.2.2.2.2.1), GEq (.bool p), GEq (.bool (a.2.2.2.2.2.1 == p)), GEq (.bool (a.2.2.2.2.2.1 == p)), GEq (.bool p), GEq (.bool p), GEq undef, GEq undef, GEq undef, GEq (.bool false), GEq (.bool false), GEq (.bool false), GEq (.bool a.2.2.2.2.2.1), GEq (.bool a.2.2.2.2.2.1), GEq undef, GEq undef, GEq undef, GEq undef, GEq undef, GEq undef, GEq undef, GEq undef, GEq undef, GEq undef, GEq undef, GEq (.bool false), GEq (.bool false), GEq (.bool false), GEq (.bool a.2.2.2.2.2.1), GEq (.bool (!a.2.2.2.2.2.1)), GEq (.bool (!a.2.2.2.2.2.1)), GEq (.agg #[(.int .i64 a.1), (.string ⟨List.toArray a.2.1⟩), (.string ⟨List.toArray a.2.2.1⟩), (.int .i64 a.2.2.2.1), (.int .i64 a.2.2.2.2.1)]), GEq (.agg #[(.int .i64 0), (.string ⟨List.toArray ([] : List UInt8)⟩), (.string ⟨List.toArray ([] : List UInt8)⟩), (.int .i64 0), (.int .i64 0)]), GEq (.bool (!((a.1 == 0) && ((a.2.1 == ([] : List UInt8)) && ((a.2.2.1 == ([] : List UInt8)) && ((a.2.2.2.1 == 0) && (a.2.2.2.2.1 == 0))))))), GEq (.bool (!((a.1 == 0) && ((a.2.1 == ([] : List UInt8)) && ((a.2.2.1 == ([] : List UInt8)) && ((a.2.2.2.1 == 0) && (a.2.2.2.2.1 == 0))))))), GEq (.bool (!((a.1 == 0) && ((a.2.1 == ([] : List UInt8)) && ((a.2.2.1 == ([] : List UInt8)) && ((a.2.2.2.1 == 0) && (a.2.2.2.2.1 == 0)))))))] [] (tG [] w0 [Qj s 79 #[(.int .i64 f.1), (.int .i64 f.2.1), (.int .i64 f.2.2.1), (.int .i64 f.2.2.2.1), (.slice A6 (List.length (List.map stT d9)) c7), (.map (some u))], Qz u f.2.2.2.2, Qj m 95 #[(pt s 0), (Q4 a.2.2.2.2.2.2.1 m), (.string ⟨List.toArray a.2.2.2.2.2.2.2.1⟩), (.string ⟨List.toArray a.2.2.2.2.2.2.2.2.1⟩), (.string ⟨List.toArray a.2.2.2.2.2.2.2.2.2.1⟩), (.bool a.2.2.2.2.2.2.2.2.2.2)], Qj q 63 #[(.int .i64 a.1), (.string ⟨List.toArray a.2.1⟩), (.string ⟨List.toArray a.2.2.1⟩), (.int .i64 a.2.2.2.1), (.int .i64 a.2.2.2.2.1)]] [([], [])]) 36 0 ⟨trivial, SP.drew c2⟩ ?_ ?_
            iterate 36 refine And.intro ?_ ?_
            exact trivial
            ·exact oV (hC (hS 12 (.bool a.2.2.2.2.2.1)) (h0)) (.bool a.2.2.2.2.2.1)
            ·exact oV (hC (hS 10 (.bool p)) (h0)) (.bool p)
            ·exact oV (hC (hA 0 59) (hC (hA 1 60) (h0))) (.bool (a.2.2.2.2.2.1 == p))
            ·exact oV (hC (hA 2 61) (h0)) (.bool (a.2.2.2.2.2.1 == p))
            ·exact oV (hC (hS 10 (.bool p)) (hC (hB 3 62 a3) (h0))) (.bool p)
            ·exact oV (hC (hA 4 63) (hC (hB 3 62 a3) (h0))) (.bool p)
            ·exact oW (hC (hB 5 64 a5) (h0)) 65
            ·exact oW (hC (hB 5 64 a5) (h0)) 66
            ·exact oW (hC (hB 5 64 a5) (h0)) 67
            ·exact oV (hC (hB 5 64 a5) (hC (hA 8 67) (hC (hB 3 62 a3) (h0)))) (.bool false)
            ·exact oV (hC (hB 3 62 a3) (hC (hA 9 68) (h0))) (.bool false)
            ·exact oV (hC (hA 10 69) (h0)) (.bool false)
            ·exact oV (hC (hS 12 (.bool a.2.2.2.2.2.1)) (hC (hA 11 70) (h0))) (.bool a.2.2.2.2.2.1)
            ·exact oV (hC (hA 12 71) (hC (hA 11 70) (h0))) (.bool a.2.2.2.2.2.1)
            ·exact oW (hC (hB 13 72 a2) (h0)) 73
            ·exact oW (hC (hB 13 72 a2) (h0)) 74
            ·exact oW (hC (hB 13 72 a2) (h0)) 75
            ·exact oW (hC (hB 13 72 a2) (h0)) 76
            ·exact oW (hC (hB 13 72 a2) (h0)) 77
            ·exact oW (hC (hB 13 72 a2) (h0)) 78
            ·exact oW (hC (hA 19 78) (h0)) 79
            ·exact oW (hC (hA 19 78) (h0)) 80
            ·exact oW (hC (hA 19 78) (h0)) 81
            ·exact oW (hC (hB 13 72 a2) (h0)) 82
            ·exact oW (hC (hB 13 72 a2) (h0)) 83
            ·exact oV (hC (hB 13 72 a2) (hC (hA 24 83) (hC (hA 11 70) (h0)))) (.bool false)
            ·exact oV (hC (hA 11 70) (hC (hA 25 84) (h0))) (.bool false)
            ·exact oV (hC (hA 26 85) (h0)) (.bool false)
            ·exact oV (hC (hS 12 (.bool a.2.2.2.2.2.1)) (hC (hA 27 86) (h0))) (.bool a.2.2.2.2.2.1)
            ·exact oV (hC (hA 28 87) (hC (hA 27 86) (h0))) (.bool (!a.2.2.2.2.2.1))
            ·exact oV (hC (hA 29 88) (hC (hA 27 86) (h0))) (.bool (!a.2.2.2.2.2.1))
            ·refine oL 0 ?_
             ·rintro ρ' w' hs hah ⟨bb2, al6⟩
              have e0 : ρ' 11 = (pt q 0) := (hs 11 K).trans K
              have c1 := hah 30 89 K
              refine kN [(11, (pt q 0)), (89, (.bool true))] ⟨e0, (Eq.trans c1 (congrArg Value.bool e9)), trivial⟩ fun hkn => ?_
              refine sL 63 11 q 0 3 (.agg #[(.int .i64 a.1), (.string ⟨List.toArray a.2.1⟩), (.string ⟨List.toArray a.2.2.1⟩), (.int .i64 a.2.2.2.1), (.int .i64 a.2.2.2.2.1)]) 90 al6 rfl ?_
              exact eK hkn
            ·exact oV (hC (hB 30 89 e9) (h0)) (.agg #[(.int .i64 0), (.string ⟨List.toArray ([] : List UInt8)⟩), (.string ⟨List.toArray ([] : List UInt8)⟩), (.int .i64 0), (.int .i64 0)])
            ·refine oL 0 ?_
             ·rintro ρ' w' hs hah ⟨bb3, bb4⟩
              have e1 := hah 31 90 K
              have e2 := hah 32 91 K
              have c1 := hah 30 89 K
              refine kN [(90, (.agg #[(.int .i64 a.1), (.string ⟨List.toArray a.2.1⟩), (.string ⟨List.toArray a.2.2.1⟩), (.int .i64 a.2.2.2.1), (.int .i64 a.2.2.2.2.1)])), (91, (.agg #[(.int .i64 0), (.string ⟨List.toArray ([] : List UInt8)⟩), (.string ⟨List.toArray ([] : List UInt8)⟩), (.int .i64 0), (.int .i64 0)])), (89, (.bool true))] ⟨e1, e2, (Eq.trans c1 (congrArg Value.bool e9)), trivial⟩ fun hkn => ?_
              refine Uy (op := .neq) (T := 63) (T' := 63) (x := (.tmp 90)) (y := (.tmp 91)) (vx := (.agg #[(.int .i64 a.1), (.string ⟨List.toArray a.2.1⟩), (.string ⟨List.toArray a.2.2.1⟩), (.int .i64 a.2.2.2.1), (.int .i64 a.2.2.2.2.1)])) (vy := (.agg #[(.int .i64 0), (.string ⟨List.toArray ([] : List UInt8)⟩), (.string ⟨List.toArray ([] : List UInt8)⟩), (.int .i64 0), (.int .i64 0)])) (v := (.bool (!((a.1 == 0) && ((a.2.1 == ([] : List UInt8)) && ((a.2.2.1 == ([] : List UInt8)) && ((a.2.2.2.1 == 0) && (a.2.2.2.2.1 == 0)))))))) (d := (some 92)) (k := 33) K rfl K K (by clear H; intro w; simp only [Jt]; go_simp; simp only [Ub, Jg, U4, Jt, Bool.and_true] <;> simp only [Bool.not_and]) ?_
              exact eK hkn
            ·exact oV (hC (hB 30 89 e9) (hC (hA 33 92) (hC (hA 27 86) (h0)))) (.bool (!((a.1 == 0) && ((a.2.1 == ([] : List UInt8)) && ((a.2.2.1 == ([] : List UInt8)) && ((a.2.2.2.1 == 0) && (a.2.2.2.2.1 == 0)))))))
            ·exact oV (hC (hA 27 86) (hC (hA 34 93) (h0))) (.bool (!((a.1 == 0) && ((a.2.1 == ([] : List UInt8)) && ((a.2.2.1 == ([] : List UInt8)) && ((a.2.2.2.1 == 0) && (a.2.2.2.2.1 == 0)))))))
            ·rintro ρ' w' hs hf ⟨bb5, s6⟩
             refine Q1 [(1, (.slice b0 (List.length a9) b1)), (5, (.bool b2)), (7, (pt m 0)), (8, (.int .i64 b4)), (9, (.int .i64 a4)), (12, (.bool a.2.2.2.2.2.1)), (94, (.bool (!((a.1 == 0) && ((a.2.1 == ([] : List UInt8)) && ((a.2.2.1 == ([] : List UInt8)) && ((a.2.2.2.1 == 0) && (a.2.2.2.2.1 == 0))))))))] ⟨(hs 1 K).trans K, (hs 5 K).trans K, (hs 7 K).trans K, (hs 8 K).trans K, (hs 9 K).trans K, (hs 12 K).trans K, hf 35 94 K, trivial⟩ ?_
             obtain ⟨bb6, al7⟩ : ∃ x, w' = x := ⟨_, rfl⟩
             rw [al7] at s6 ⊢
             exact ⟨(!((a.1 == 0) && ((a.2.1 == ([] : List UInt8)) && ((a.2.2.1 == ([] : List UInt8)) && ((a.2.2.2.1 == 0) && (a.2.2.2.2.1 == 0)))))), ⟨K, K, K, K, K, K, K, trivial⟩, SP.sel s6 [2, 0, 1] rfl rfl, H⟩
           ·have H := cf H e9
            refine aG [GEq (.bool a.2.2.2.2.2.1), GEq (.bool p), GEq (.bool (a.2.2.2.2.2.1 == p)), GEq (.bool (a.2.2.2.2.2.1 == p)), GEq (.bool p), GEq (.bool p), GEq undef, GEq undef, GEq undef, GEq (.bool false), GEq (.bool false), GEq (.bool false), GEq (.bool a.2.2.2.2.2.1), GEq (.bool a.2.2.2.2.2.1), GEq undef, GEq undef, GEq undef, GEq undef, GEq undef, GEq undef, GEq undef, GEq undef, GEq undef, GEq undef, GEq undef, GEq (.bool false), GEq (.bool false), GEq (.bool false), GEq (.bool a.2.2.2.2.2.1), GEq (.bool (!a.2.2.2.2.2.1)), GEq (.bool (!a.2.2.2.2.2.1)), GEq undef, GEq undef, GEq undef, GEq (.bool false), GEq (.bool false)] [] (tG [] w0 [Qj s 79 #[(.int .i64 f.1), (.int .i64 f.2.1), (.int .i64 f.2.2.1), (.int .i64 f.2.2.2.1), (.slice A6 (List.length (List.map stT d9)) c7), (.map (some u))], Qz u f.2.2.2.2, Qj m 95 #[(pt s 0), (Q4 a.2.2.2.2.2.2.1 m), (.string ⟨List.toArray a.2.2.2.2.2.2.2.1⟩), (.string ⟨List.toArray a.2.2.2.2.2.2.2.2.1⟩), (.string ⟨List.toArray a.2.2.2.2.2.2.2.2.2.1⟩), (.bool a.2.2.2.2.2.2.2.2.2.2)], Qj q 63 #[(.int .i64 a.1), (.string ⟨List.toArray a.2.1⟩), (.string ⟨List.toArray a.2.2.1⟩), (.int .i64 a.2.2.2.1), (.int .i64 a.2.2.2.2.1)]] [([], [])]) 36 0 ⟨trivial, SP.drew c2⟩ ?_ ?_
            iterate 36 refine And.intro ?_ ?_
            exact trivial
            ·exact oV (hC (hS 12 (.bool a.2.2.2.2.2.1)) (h0)) (.bool a.2.2.2.2.2.1)
            ·exact oV (hC (hS 10 (.bool p)) (h0)) (.bool p)
            ·exact oV (hC (hA 0 59) (hC (hA 1 60) (h0))) (.bool (a.2.2.2.2.2.1 == p))
            ·exact oV (hC (hA 2 61) (h0)) (.bool (a.2.2.2.2.2.1 == p))
            ·exact oV (hC (hS 10 (.bool p)) (hC (hB 3 62 a3) (h0))) (.bool p)
            ·exact oV (hC (hA 4 63) (hC (hB 3 62 a3) (h0))) (.bool p)
            ·exact oW (hC (hB 5 64 a5) (h0)) 65
            ·exact oW (hC (hB 5 64 a5) (h0)) 66
            ·exact oW (hC (hB 5 64 a5) (h0)) 67
            ·exact oV (hC (hB 5 64 a5) (hC (hA 8 67) (hC (hB 3 62 a3) (h0)))) (.bool false)
            ·exact oV (hC (hB 3 62 a3) (hC (hA 9 68) (h0))) (.bool false)
            ·exact oV (hC (hA 10 69) (h0)) (.bool false)
            ·exact oV (hC (hS 12 (.bool a.2.2.2.2.2.1)) (hC (hA 11 70) (h0))) (.bool a.2.2.2.2.2.1)
            ·exact oV (hC (hA 12 71) (hC (hA 11 70) (h0))) (.bool a.2.2.2.2.2.1)
            ·exact oW (hC (hB 13 72 a2) (h0)) 73
            ·exact oW (hC (hB 13 72 a2) (h0)) 74
            ·exact oW (hC (hB 13 72 a2) (h0)) 75
            ·exact oW (hC (hB 13 72 a2) (h0)) 76
            ·exact oW (hC (hB 13 72 a2) (h0)) 77
            ·exact oW (hC (hB 13 72 a2) (h0)) 78
            ·exact oW (hC (hA 19 78) (h0)) 79
            ·exact oW (hC (hA 19 78) (h0)) 80
            ·exact oW (hC (hA 19 78) (h0)) 81
            ·exact oW (hC (hB 13 72 a2) (h0)) 82
            ·exact oW (hC (hB 13 72 a2) (h0)) 83
            ·exact oV (hC (hB 13 72 a2) (hC (hA 24 83) (hC (hA 11 70) (h0)))) (.bool false)
            ·exact oV (hC (hA 11 70) (hC (hA 25 84) (h0))) (.bool false)
            ·exact oV (hC (hA 26 85) (h0)) (.bool false)
            ·exact oV (hC (hS 12 (.bool a.2.2.2.2.2.1)) (hC (hA 27 86) (h0))) (.bool a.2.2.2.2.2.1)
            ·exact oV (hC (hA 28 87) (hC (hA 27 86) (h0))) (.bool (!a.2.2.2.2.2.1))
            ·exact oV (hC (hA 29 88) (hC (hA 27 86) (h0))) (.bool (!a.2.2.2.2.2.1))
            ·exact oW (hC (hB 30 89 e9) (h0)) 90
            ·exact oW (hC (hB 30 89 e9) (h0)) 91
            ·exact oW (hC (hB 30 89 e9) (h0)) 92
            ·exact oV (hC (hB 30 89 e9) (hC (hA 33 92) (hC (hA 27 86) (h0)))) (.bool false)
            ·exact oV (hC (hA 27 86) (hC (hA 34 93) (h0))) (.bool false)
            ·rintro ρ' w' hs hf ⟨bb7, s7⟩
             refine Q1 [(1, (.slice b0 (List.length a9) b1)), (5, (.bool b2)), (7, (pt m 0)), (8, (.int .i64 b4)), (9, (.int .i64 a4)), (12, (.bool a.2.2.2.2.2.1)), (94, (.bool false))] ⟨(hs 1 K).trans K, (hs 5 K).trans K, (hs 7 K).trans K, (hs 8 K).trans K, (hs 9 K).trans K, (hs 12 K).trans K, hf 35 94 K, trivial⟩ ?_
             obtain ⟨bb8, al8⟩ : ∃ x, w' = x := ⟨_, rfl⟩
             rw [al8] at s7 ⊢
             exact ⟨false, ⟨K, K, K, K, K, K, K, trivial⟩, SP.sel s7 [2, 0, 1] rfl rfl, H⟩
       ·rintro ρ bb9 ⟨g0, hk, l2, H⟩
        unfold Qk at H
        first | refine At.known [(1, (.slice b0 (List.length a9) b1)), (5, (.bool b2)), (7, (pt m 0)), (8, (.int .i64 b4)), (9, (.int .i64 a4)), (12, (.bool a.2.2.2.2.2.1)), (94, (.bool g0))] hk ?_ | rw [← Vd (l := [(1, (.slice b0 (List.length a9) b1)), (5, (.bool b2)), (7, (pt m 0)), (8, (.int .i64 b4)), (9, (.int .i64 a4)), (12, (.bool a.2.2.2.2.2.1)), (94, (.bool g0))]) hk]
        refine Zu K (o := (.tmp 94)) K (b := g0) K (fun l3 => ?_) (fun l3 => ?_)
        ·have H := ct H l3
         refine aQ ?_
         refine aR ?_
         refine iR 1 1 [(4, (.bool false))] ?_
         refine iF ?_
         refine At.ret K ?_
         refine ⟨(.bool false), K, ?_⟩
         obtain rfl := Qi H
         exact ⟨rfl, SP.sel l2 [] rfl rfl⟩
        ·have H := cf H l3
         refine At.skip K ?_
         refine aQ ?_
         refine aR ?_
         refine iR 1 1 [(95, (.bool a.2.2.2.2.2.1))] ?_
         refine iF ?_
         refine At.join (fun ρ w => ∃ (g3 : Int), Zo ρ [(1, (.slice b0 (List.length a9) b1)), (5, (.bool b2)), (7, (pt m 0)), (8, (.int .i64 g3)), (9, (.int .i64 a4))] ∧ SP [] w0 w [Qj m 95 #[(pt s 0), (Q4 a.2.2.2.2.2.2.1 m), (.string ⟨List.toArray a.2.2.2.2.2.2.2.1⟩), (.string ⟨List.toArray a.2.2.2.2.2.2.2.2.1⟩), (.string ⟨List.toArray a.2.2.2.2.2.2.2.2.2.1⟩), (.bool a.2.2.2.2.2.2.2.2.2.2)], Qj s 79 #[(.int .i64 f.1), (.int .i64 f.2.1), (.int .i64 f.2.2.1), (.int .i64 f.2.2.2.1), (.slice A6 (List.length (List.map stT d9)) c7), (.map (some u))], Qz u f.2.2.2.2] ∧ Zj (Q2 (List.map stT d9) a9 b2 f f7) a4 a g3 = some r) ?_ ?_
         ·refine Zu K (o := (.tmp 95)) K (b := a.2.2.2.2.2.1) K (fun l4 => ?_) (fun l4 => ?_)
          ·have H := ct H l4
           refine aR ?_
           refine iR 3 3 [(96, (.int .i64 b4)), (97, (.int .i64 (IntKind.wrap .i64 (b4 + 1)))), (8, (.int .i64 (IntKind.wrap .i64 (b4 + 1))))] ?_
           refine iF ?_
           exact ⟨(IntKind.wrap .i64 (b4 + 1)), ⟨K, K, K, K, K, trivial⟩, SP.sel l2 [0, 1, 2] rfl rfl, H⟩
          ·have H := cf H l4
           refine At.skip K ?_
           exact ⟨b4, ⟨K, K, K, K, K, trivial⟩, SP.sel l2 [0, 1, 2] rfl rfl, H⟩
         ·rintro ρ bc0 ⟨g3, hk, al9, H⟩
          unfold Zj at H
          first | refine At.known [(1, (.slice b0 (List.length a9) b1)), (5, (.bool b2)), (7, (pt m 0)), (8, (.int .i64 g3)), (9, (.int .i64 a4))] hk ?_ | rw [← Vd (l := [(1, (.slice b0 (List.length a9) b1)), (5, (.bool b2)), (7, (pt m 0)), (8, (.int .i64 g3)), (9, (.int .i64 a4))]) hk]
          refine aR ?_
          refine iR 3 3 [(35, (.int .i64 a4)), (36, (.int .i64 (IntKind.wrap .i64 (a4 + 1)))), (9, (.int .i64 (IntKind.wrap .i64 (a4 + 1))))] ?_
          refine iF ?_
          exact ⟨a.2.2.2.2.2.2.1, a.2.2.2.2.2.2.2.1, a.2.2.2.2.2.2.2.2.1, a.2.2.2.2.2.2.2.2.2.1, a.2.2.2.2.2.2.2.2.2.2, g3, (IntKind.wrap .i64 (a4 + 1)), ⟨K, K, K, K, K, trivial⟩, SP.sel al9 [0, 1, 2] rfl rfl, H⟩
     ·have H := cf H i1
      refine At.exit K (id := 0) K ?_
      refine aQ ?_
      refine At.join (fun ρ w => ∃ (g4 : Bool), Zo ρ [(4, (.bool g4))] ∧ SP [] w0 w [] ∧ V2 (Q2 (List.map stT d9) a9 b2 f f7) g4 = some r) ?_ ?_
      ·refine aR ?_
       refine iR 2 2 [(98, (.bool b2)), (99, (.bool b2))] ?_
       refine In.guard (t := 99) (b := b2) K (fun l5 => ?_) (fun l5 => ?_)
       ·have H := ct H l5
        refine iR 4 6 [(100, (.int .i64 b4)), (101, (.bool (decide (b4 ≤ 2)))), (102, (.bool (decide (b4 ≤ 2)))), (103, (.bool (decide (b4 ≤ 2))))] ?_
        refine In.guard (t := 103) (b := (decide (b4 ≤ 2))) K (fun l6 => ?_) (fun l6 => ?_)
        ·have H := ct H l6
         refine iR 6 12 [(104, (.int .i64 b4)), (105, (.slice b0 (List.length a9) b1)), (106, (.int .i64 ((List.length a9 : Nat) : Int))), (107, (.bool (decide (b4 ≤ ((List.length a9 : Nat) : Int))))), (108, (.bool (decide (b4 ≤ ((List.length a9 : Nat) : Int))))), (4, (.bool (decide (b4 ≤ ((List.length a9 : Nat) : Int)))))] ?_
         refine iF ?_
         exact ⟨(decide (b4 ≤ ((List.length a9 : Nat) : Int))), ⟨K, trivial⟩, SP.sel f8 [] rfl rfl, H⟩
        ·have H := cf H l6
         refine iR 6 12 [(104, undef), (105, undef), (106, undef), (107, undef), (108, (.bool false)), (4, (.bool false))] ?_
         refine iF ?_
         exact ⟨false, ⟨K, trivial⟩, SP.sel f8 [] rfl rfl, H⟩
       ·have H := cf H l5
        refine iR 10 12 [(100, undef), (101, undef), (102, (.bool false)), (103, (.bool false)), (104, undef), (105, undef), (106, undef), (107, undef), (108, (.bool false)), (4, (.bool false))] ?_
        refine iF ?_
        exact ⟨false, ⟨K, trivial⟩, SP.sel f8 [] rfl rfl, H⟩
      ·rintro ρ bc1 ⟨g4, hk, am0, H⟩
       unfold V2 at H
       first | refine At.known [(4, (.bool g4))] hk ?_ | rw [← Vd (l := [(4, (.bool g4))]) hk]
       refine At.ret K ?_
       refine ⟨(.bool g4), K, ?_⟩
       obtain rfl := Qi H
       exact ⟨rfl, SP.sel am0 [] rfl rfl⟩
    ·exact ⟨d2.1, d2.2.1, d2.2.2.1, d2.2.2.2.1, d2.2.2.2.2, 0, 0, ⟨K, K, K, K, K, trivial⟩, SP.sel u0 [0, 1, 2] rfl rfl, H⟩
end Go.Proofs.YtmgfanhcdfobhaaGreatDoor
namespace Go.Proofs.YtmgfanhcdfobhaaGreatDoor
theorem over_step (R : Int → Str → Str → Str → Bool → Int → Int → Option Bool) (w g i0 e : Int) {l : List Qg} (hv : VC l) (ops : List OpK) (hoq : ∀ o ∈ ops, OpKQ o) {c : Int} (t k n : Str) {kn : Bool} (h : SI c kn) (cnt : Int) (i : Nat) (hlt : i < ops.length) :
    ∃ z, Ee l [] c t k n kn ops[i].2.1 ops[i].2.2.1 ops[i].2.2.2.1 ops[i].2.2.2.2.2.2.1 ops[i].2.2.2.2.2.2.2 = z ∧
    Vo R l ops true (w, g, i0, e, []) c t k n kn cnt (i : Int) = R z.2.2.2.2.2.2.1 z.2.2.2.2.2.2.2.1 z.2.2.2.2.2.2.2.2.1 z.2.2.2.2.2.2.2.2.2.1 z.2.2.2.2.2.2.2.2.2.2 (cond z.2.2.2.2.2.1 (IntKind.wrap .i64 (cnt + 1)) cnt) (IntKind.wrap .i64 ((i : Int) + 1)) := by
  refine ⟨_, rfl, ?_⟩
  have hx := hoq ops[i] (List.getElem_mem hlt)
  unfold Vo Qk Zj
  rw [show decide ((i : Int) < ((ops.length : Nat) : Int)) = true from decide_eq_true (by omega), cond_true, over_p, Option.bind_some, Jc hlt, Option.bind_some, Option.bind_some, Option.bind_some, pHear hv _ _ _ _ _ _ _ _ _ _ _ _ _ _ _ _ _ hx.1 hx.2.2, Option.bind_some]
  simp only [over_p, Option.bind_some]
  generalize ops[i] = x
  unfold Ee
  obtain ⟨h1, h2⟩ := h
  rcases h1 with rfl | rfl | rfl
  · rfl
  · cases (x.2.1 == 1) <;> rfl
  · cases (x.2.1 == 3) with
    | false => rfl
    | true => cases (Ro l [] t k n x.2.2.1 x.2.2.2.2.2.2.1 == 0) <;> rfl
theorem over_cnt (l : List Qg) (M : U1) {c : Int} (t k n : Str) {kn : Bool} (kind : Int) (A B : Str) (now : Int) (nonce : Str) (h : SI c kn) (cnt : Int) (h0 : (c = 1 ∧ cnt = 0) ∨ (c = 2 ∧ cnt = 1) ∨ (c = 0 ∧ 0 ≤ cnt ∧ cnt ≤ 2))
    (z) (hz : Ee l M c t k n kn kind A B now nonce = z) : ∃ cnt', cond z.2.2.2.2.2.1 (IntKind.wrap .i64 (cnt + 1)) cnt = cnt' ∧ cnt' ≤ cnt + 1 ∧ ((z.2.2.2.2.2.2.1 = 1 ∧ cnt' = 0) ∨ (z.2.2.2.2.2.2.1 = 2 ∧ cnt' = 1) ∨ (z.2.2.2.2.2.2.1 = 0 ∧ 0 ≤ cnt' ∧ cnt' ≤ 2)) := by
  subst hz
  refine ⟨_, rfl, ?_⟩
  rw [Rj (by rcases h0 with h | h | h <;> omega)]
  unfold Ee
  rcases h0 with ⟨rfl, rfl⟩ | ⟨rfl, rfl⟩ | ⟨rfl, h1, h2⟩
  · cases (kind == 1) with
    | true => exact ⟨Int.le_refl _, .inr (.inl ⟨rfl, rfl⟩)⟩
    | false => exact ⟨Int.le_refl _, .inr (.inr ⟨rfl, (by show (0 : Int) ≤ 1; decide), (by show (1 : Int) ≤ 2; decide)⟩)⟩
  · cases (kind == 3) with
    | false => exact ⟨Int.le_refl _, .inr (.inr ⟨rfl, (by show (0 : Int) ≤ 2; decide), (by show (2 : Int) ≤ 2; decide)⟩)⟩
    | true => cases (Ro l M t k n A now == 0) <;> exact ⟨Int.le_refl _, .inr (.inr ⟨rfl, (by show (0 : Int) ≤ 2; decide), (by show (2 : Int) ≤ 2; decide)⟩)⟩
  · exact ⟨by show cnt ≤ cnt + 1; omega, .inr (.inr ⟨rfl, h1, h2⟩)⟩
theorem over_loop (w g i0 e : Int) {l : List Qg} (hv : VC l) (ops : List OpK) (hops : ops.length ≤ 40) (hoq : ∀ o ∈ ops, OpKQ o) :
    ∀ (d i f : Nat) (c : Int) (t k n : Str) (kn : Bool) (cnt : Int), d = ops.length - i → i ≤ ops.length → d < f → SI c kn → ((c = 1 ∧ cnt = 0) ∨ (c = 2 ∧ cnt = 1) ∨ (c = 0 ∧ 0 ≤ cnt ∧ cnt ≤ 2)) → cnt ≤ i → Q2 l ops true (w, g, i0, e, []) f c t k n kn cnt (i : Int) = some true := by
  intro d
  induction d with
  | zero =>
    intro i f c t k n kn cnt hd hi hf hs h0 hc
    obtain ⟨f, rfl⟩ : ∃ g, f = g + 1 := ⟨f - 1, by omega⟩
    show Vo (Q2 l ops true (w, g, i0, e, []) f) l ops true (w, g, i0, e, []) c t k n kn cnt (i : Int) = _
    unfold Vo V2
    rw [show decide ((i : Int) < ((ops.length : Nat) : Int)) = false from decide_eq_false (by omega), cond_false, cond_true, decide_eq_true (by rcases h0 with h | h | h <;> omega), cond_true, decide_eq_true (by omega)]
  | succ d ih =>
    intro i f c t k n kn cnt hd hi hf hs h0 hc
    obtain ⟨f, rfl⟩ : ∃ g, f = g + 1 := ⟨f - 1, by omega⟩
    have hlt : i < ops.length := by omega
    show Vo (Q2 l ops true (w, g, i0, e, []) f) l ops true (w, g, i0, e, []) c t k n kn cnt (i : Int) = _
    obtain ⟨z, hz, hb⟩ := over_step (Q2 l ops true (w, g, i0, e, []) f) w g i0 e hv ops hoq t k n hs cnt i hlt
    obtain ⟨cnt', hc1, hc2, hc3⟩ := over_cnt l [] t k n _ _ _ _ _ hs cnt h0 z hz
    have hi' := hear_inv l [] t k n ops[i].2.1 ops[i].2.2.1 ops[i].2.2.2.1 ops[i].2.2.2.2.2.2.1 ops[i].2.2.2.2.2.2.2 hs
    rw [hz] at hi'
    rw [hb, hc1, show ((i : Int) + 1) = ((i + 1 : Nat) : Int) by omega, Xy (by omega)]
    exact ih (i + 1) f _ _ _ _ _ _ (by omega) (by omega) (by omega) hi' hc3 (by omega)
theorem B7 (w g i0 e : Int) (l : List Qg) (ops : List OpK) (hl : l.length ≤ 140737488355328) (hq : ∀ t ∈ l, TenQ t) (hops : ops.length ≤ 140737488355328) (hoq : ∀ o ∈ ops, OpKQ o) : Xz w g i0 e l ops = some true := by
  unfold Xz
  obtain ⟨c, hc, hc'⟩ := cfg_great w g i0 e l hl hq
  obtain ⟨b, hb, hb'⟩ := If ops hops
  rw [shakeHead, Option.bind_some, pVNew w g i0 e l hl hq, Option.bind_some]
  cases hk : E1 w g i0 e l with
  | false => rfl
  | true =>
    rw [cond_true, optE_s, hc, Option.bind_some]
    have hup : Vx l ops true (w, g, i0, e, []) true = some true := by unfold Vx; rw [cond_true]
    cases c with
    | true => rw [cond_true]; exact hup
    | false =>
      obtain ⟨s1, s2⟩ := hc' rfl
      have hv := vc_of hk (by omega) hq s2
      rw [cond_false, hb, Option.bind_some]
      cases b with
      | true => exact hup
      | false =>
        unfold Vx
        rw [cond_false, show Uv (w, g, i0, e, ([] : U1)).1 (w, g, i0, e, ([] : U1)).2.1 (w, g, i0, e, ([] : U1)).2.2.1 (w, g, i0, e, ([] : U1)).2.2.2.1 l (w, g, i0, e, ([] : U1)).2.2.2.2 = some (1, [], [], [], false) from rfl, Option.bind_some]
        have := over_loop w g i0 e hv ops (hb' rfl) hoq ops.length 0 Z1 1 [] [] [] false 0 (by omega) (by omega) (by have := hb' rfl; unfold Z1; omega) ⟨.inr (.inl rfl), fun h => by cases h⟩ (.inl ⟨rfl, rfl⟩) (by decide)
        rw [show ((0 : Nat) : Int) = 0 from rfl] at this
        exact this
end Go.Proofs.YtmgfanhcdfobhaaGreatDoor
namespace Go.Proofs.YtmgfanhcdfobhaaGreatDoor
open Go.RowKit Go.ChangeShapes Go.WideShapes Go.Deep
theorem own : ownKnob Tryz.prog.godebug = none := by kernel_rfl
theorem laidOut : laidOutB Tryz.prog = true := by kernel_rfl
section
variable {H : Type} {enc : TypeId × Value → H} {W : World} {spare : Nat → Bool} {held : Bool} {base b0 : Nat} {r : Reach}
end
end Go.Proofs.YtmgfanhcdfobhaaGreatDoor
namespace Go.Proofs.YtmgfanhcdfobhaaGreatDoor
open Go.RowKit Go.ChangeShapes Go.WideShapes Go.Deep
section
variable {H : Type} {enc : TypeId × Value → H} {P : Program} {W : World}
def Rds (enc : TypeId × Value → H) (P : Program) (W : World) (t : TypeId) {α : Type} (e : Enc α) (Q : Nat → α → Prop) : Prop :=
  ∀ (Z1 : Nat) (cs : List Value) (x : DataW H × List MemPlace), DataW.trod enc P W 0 (fun _ => true) true Z1 t cs = some x → ∃ a, cs = e.enc a ∧ ∀ r, (x.1.weights P t).all (· ≤ r) = true → Q r a
def RdsFs (enc : TypeId × Value → H) (P : Program) (W : World) (o : Nat) (fs : List (TypeId × Nat)) {α : Type} (e : Enc α) (Q : Nat → α → Prop) : Prop :=
  ∀ (Z1 : Nat) (cs : List Value) (xs : List (DataW H × List MemPlace)), xs.length = fs.length → (∀ (i : Nat) f, fs[i]? = some f → DataW.trod enc P W 0 (fun _ => true) true Z1 f.1 ((cs.drop f.2).take (P.cellsOf f.1)) = xs[i]?) →
    ∃ a, (cs.drop o).take e.sz = e.enc a ∧ ∀ r, (DataW.weightsEach P (fs.map (·.1)) (xs.map (·.1))).all (· ≤ r) = true → Q r a
theorem Uk {t : TypeId} {k : IntKind} (ht : P.underlying t = some (.int k)) : Rds enc P W t (Qd k) (fun _ n => (Lit.int k n).wf = true) := by
  intro Z1 cs x h
  obtain ⟨n, rfl, rfl, hw⟩ := DataW.trod_int ht h
  exact ⟨n, rfl, fun _ _ => hw⟩
theorem Dz {t : TypeId} (ht : P.underlying t = some .string) : Rds enc P W t Q5 (fun r s => s.length ≤ r) := by
  intro Z1 cs x h
  obtain ⟨s, rfl, rfl, hs⟩ := DataW.trod_string ht h
  refine ⟨s.data.toList, rfl, fun r hr => ?_⟩
  simpa [DataW.weights] using hr
theorem Rds.conv {t : TypeId} {α β : Type} {e : Enc α} {e' : Enc β} {Q : Nat → α → Prop} {Q' : Nat → β → Prop} (h : Rds enc P W t e Q) (f : α → β) (he : ∀ a, e.enc a = e'.enc (f a)) (hQ : ∀ r a, Q r a → Q' r (f a)) : Rds enc P W t e' Q' := by
  intro Z1 cs x hx
  obtain ⟨a, rfl, hq⟩ := h Z1 cs x hx
  exact ⟨f a, he a, fun r hr => hQ r a (hq r hr)⟩
theorem Cv {t : TypeId} {o : Nat} {α : Type} {e : Enc α} {Q : Nat → α → Prop} (h : Rds enc P W t e Q) (hc : P.cellsOf t = e.sz) : RdsFs enc P W o [(t, o)] e Q := by
  intro Z1 cs xs hl hf
  match xs, hl with
  | [x], _ =>
    have := hf 0 (t, o) rfl
    obtain ⟨a, ha, hq⟩ := h Z1 _ _ this
    rw [hc] at ha
    refine ⟨a, ha, fun r hr => hq r ?_⟩
    simpa [DataW.weightsEach] using hr
theorem Jd {t : TypeId} {o : Nat} {fs : List (TypeId × Nat)} {α β : Type} {e : Enc α} {e' : Enc β} {Q : Nat → α → Prop} {Q' : Nat → β → Prop} (h : Rds enc P W t e Q) (hc : P.cellsOf t = e.sz) (hr : RdsFs enc P W (o + e.sz) fs e' Q') :
    RdsFs enc P W o ((t, o) :: fs) (Qb e e') (fun r a => Q r a.1 ∧ Q' r a.2) := by
  intro Z1 cs xs hl hf
  match xs, hl with
  | x :: xs, hl =>
    have := hf 0 (t, o) rfl
    obtain ⟨a, ha, hq⟩ := h Z1 _ _ this
    obtain ⟨b, hb, hq'⟩ := hr Z1 cs xs (by simpa using hl) (fun i f hi => by have := hf (i + 1) f (by simpa using hi); simpa using this)
    refine ⟨(a, b), ?_, fun r hw => ?_⟩
    · show (cs.drop o).take (e.sz + e'.sz) = e.enc a ++ e'.enc b
      rw [hc] at ha
      rw [← ha, ← hb, List.take_add, List.drop_drop]
    · simp only [List.map_cons, DataW.weightsEach, List.all_append, Bool.and_eq_true] at hw
      exact ⟨hq r hw.1, hq' r hw.2⟩
theorem Nf {t : TypeId} {l : List (TypeId × Nat)} {α : Type} {e : Enc α} {Q : Nat → α → Prop} (hl : (match P.underlying t with | some (.struct fs) => some (fs.toList.map (fun f => (f.type, f.offset))) | _ => none) = some l) (hc : P.cellsOf t = e.sz)
    (hr : RdsFs enc P W 0 l e Q) : Rds enc P W t e Q := by
  intro Z1 cs x hx
  split at hl
  · rename_i fs hs
    simp only [Option.some.injEq] at hl
    subst hl
    obtain ⟨xs, n, _, rfl, hlen, hxs, hg⟩ := DataW.trod_struct hs hx
    obtain ⟨a, ha, hq⟩ := hr n cs xs (by simpa using hxs) (fun i f hi => by
      rw [List.getElem?_map, Option.map_eq_some_iff] at hi
      obtain ⟨f', hf', rfl⟩ := hi
      exact hg i f' (by simpa using hf'))
    rw [List.drop_zero, List.take_of_length_le (by omega)] at ha
    refine ⟨a, ha, fun r hw => hq r ?_⟩
    simp only [DataW.weights, hs] at hw
    simpa [List.map_map, Function.comp_def] using hw
  · cases hl
theorem Rp {t : TypeId} {n : Nat} : ∀ {ds : List (DataW H)} {d : DataW H}, d ∈ ds → n ∈ d.weights P t → n ∈ DataW.weightsAll P t ds
  | d0 :: ds, d, hd, hn => by
    simp only [DataW.weightsAll, List.mem_append]
    rcases List.mem_cons.1 hd with rfl | h
    · exact .inl hn
    · exact .inr (Rp h hn)
theorem rds_row {t te : TypeId} {α : Type} {e : Enc α} {Q : Nat → α → Prop} (ht : P.underlying t = some (.slice te)) (h : Rds enc P W te e Q) (hc : P.cellsOf te = e.sz) (h0 : 0 < e.sz) {Z1 : Nat} {cs : List Value} {x : DataW H × List MemPlace}
    (hx : DataW.trod enc P W 0 (fun _ => true) true Z1 t cs = some x) :
    ∃ (A : Option Addr) (c : Nat) (l : List α), cs = [.slice A l.length c] ∧ RdT e W A c l ∧ ∀ r, (x.1.weights P t).all (· ≤ r) = true → l.length * P.bytesOf te ≤ r ∧ ∀ a ∈ l, Q r a := by
  rcases DataW.trod_slice ht hx with ⟨rfl, rfl⟩ | ⟨a, len, cap, elems, rest, n, _, rfl, rfl, _, hl, hm, hlen, hel, _, _⟩
  · exact ⟨none, 0, [], rfl, RdT.nil _ W, fun r _ => ⟨by simp, fun a ha => by cases ha⟩⟩
  · have each : ∀ i, i ≤ len → ∃ l : List α, l.length = i ∧ ∀ j (hj : j < l.length), W.cells? 0 (a.add (j * P.cellsOf te)) (P.cellsOf te) = some (e.enc l[j]) ∧ ∀ y, elems[j]? = some y → ∀ r, (y.1.weights P te).all (· ≤ r) = true → Q r l[j] := by
      intro i
      induction i with
      | zero => exact fun _ => ⟨[], rfl, fun j hj => by simp at hj⟩
      | succ i ih =>
        intro hi
        obtain ⟨l, hll, hlg⟩ := ih (by omega)
        have := hel i (by omega)
        rw [List.getElem?_eq_getElem (by omega), Option.bind_eq_some_iff] at this
        obtain ⟨cs', h1, h2⟩ := this
        obtain ⟨b, rfl, hb⟩ := h n cs' _ h2
        refine ⟨l ++ [b], by simp [hll], fun j hj => ?_⟩
        by_cases hji : j < l.length
        · rw [List.getElem_append_left hji]
          exact hlg j hji
        · obtain rfl : j = i := by simp at hj; omega
          subst hll
          rw [List.getElem_concat_length rfl]
          refine ⟨h1, fun y hy => ?_⟩
          rw [List.getElem?_eq_getElem (by omega), Option.some.injEq] at hy
          subst hy
          exact hb
    obtain ⟨l, hll, hlg⟩ := each len (Nat.le_refl _)
    subst hll
    refine ⟨some a, cap, l, rfl, ⟨by rw [Vh], hl, hm, fun hn => ?_⟩, fun r hw => ?_⟩
    · have cell : ∀ j (hj : j < l.length) k, k < e.sz → W.cell? ((a.add (j * e.sz)).add k) = (e.enc l[j])[k]? := by
        intro j hj k hk
        have := (hlg j hj).1
        rw [hc] at this
        exact (World.cells?_some this).2.2 k hk
      have c0 := cell 0 hn 0 h0
      rw [Nat.zero_mul, List.getElem?_eq_getElem (by rw [e.len]; exact h0)] at c0
      obtain ⟨b, off, spot⟩ := a
      obtain rfl : spot = none := by simpa [Addr.add] using World.cell?_spot c0
      have hadd : ∀ i j : Nat, ((⟨b, off, none⟩ : Addr).add i).add j = ⟨b, off + (i + j), none⟩ := by
        intro i j
        unfold Addr.add
        by_cases hi : i = 0 <;> by_cases hj : j = 0 <;> simp [hi, hj, Nat.add_assoc]
      rw [hadd] at c0
      refine ⟨b, off, rfl, block_lt_of_cell c0, fun j u hu => ?_⟩
      have hlen2 := (List.getElem?_eq_some_iff.1 hu).1
      rw [Vh] at hlen2
      have hq : j / e.sz < l.length := Nat.div_lt_of_lt_mul (by rw [Nat.mul_comm]; exact hlen2)
      have hk : j % e.sz < e.sz := Nat.mod_lt _ h0
      have hj : j = j / e.sz * e.sz + j % e.sz := by rw [Nat.mul_comm]; exact (Nat.div_add_mod j e.sz).symm
      have hce := cell (j / e.sz) hq (j % e.sz) hk
      rw [hadd, ← hj] at hce
      rw [hce]
      have hgt := Ga e (l := l) (i := j / e.sz) (x := l[j / e.sz]) (List.getElem?_eq_getElem hq) (j := j % e.sz) (u := (e.enc l[j / e.sz])[j % e.sz]'(by rw [e.len]; exact hk)) (List.getElem?_eq_getElem _)
      rw [← hj, hu] at hgt
      rw [List.getElem?_eq_getElem (by rw [e.len]; exact hk), ← hgt]
    · simp only [DataW.weights, ht, List.all_cons, Bool.and_eq_true, decide_eq_true_eq, List.all_append] at hw
      refine ⟨Nat.le_trans (Nat.mul_le_mul_right _ (by simp; omega)) hw.1, fun b hb => ?_⟩
      obtain ⟨j, hj, rfl⟩ := List.mem_iff_getElem.1 hb
      refine (hlg j hj).2 _ (List.getElem?_eq_getElem (by omega)) r ?_
      rw [List.all_eq_true] at hw ⊢
      intro m hm'
      exact hw.2.1 m (Rp (List.mem_map.2 ⟨_, List.getElem_mem (by omega), rfl⟩) hm')
variable {r0 : Reach} {b0 : Nat}
theorem open_agg {t : TypeId} {fs : Array Field} {α : Type} {e : Enc α} {Q : Nat → α → Prop} (hs : P.underlying t = some (.struct fs)) (h : Rds enc P W t e Q) {v : Value} {d : DataW H} {p : List MemPlace} (hv : Value.okWide P W r0 b0 t v)
    (hd : DataW.Trod enc P W 0 (fun _ => true) true t v d p) (hr : ∀ n ∈ d.weights P t, n ≤ reachBytes) : ∃ a, v = .agg ⟨e.enc a⟩ ∧ Q reachBytes a := by
  obtain ⟨cs, rfl, hsz⟩ := okWide_struct hs hv
  obtain ⟨Z1, hf⟩ := hd
  obtain ⟨a, ha, hq⟩ := h Z1 _ _ hf
  refine ⟨a, ?_, hq _ (by rw [List.all_eq_true]; intro n hn; exact decide_eq_true (hr n hn))⟩
  simp only [Value.cells] at ha
  rw [← ha]
theorem open_row {t te : TypeId} {α : Type} {e : Enc α} {Q : Nat → α → Prop} (ht : P.underlying t = some (.slice te)) (h : Rds enc P W te e Q) (hc : P.cellsOf te = e.sz) (h0 : 0 < e.sz) {v : Value} {d : DataW H} {p : List MemPlace} (hv : Value.okWide P W r0 b0 t v)
    (hd : DataW.Trod enc P W 0 (fun _ => true) true t v d p) (hr : ∀ n ∈ d.weights P t, n ≤ reachBytes) : ∃ (A : Option Addr) (c : Nat) (l : List α), v = .slice A l.length c ∧ RdT e W A c l ∧ l.length * P.bytesOf te ≤ reachBytes ∧ ∀ a ∈ l, Q reachBytes a := by
  obtain ⟨A, n, c, rfl⟩ := okWide_slice ht hv
  obtain ⟨Z1, hf⟩ := hd
  obtain ⟨A', c', l, hl, hrd, hq⟩ := rds_row ht h hc h0 hf
  simp [Value.cells] at hl
  obtain ⟨rfl, rfl, rfl⟩ := hl
  have := hq reachBytes (by rw [List.all_eq_true]; intro n hn; exact decide_eq_true (hr n hn))
  exact ⟨A, c, l, rfl, hrd, this.1, this.2⟩
end
end Go.Proofs.YtmgfanhcdfobhaaGreatDoor
namespace Go.Proofs.YtmgfanhcdfobhaaGreatDoor
theorem reachM : reachBytes ≤ 140737488355328 := by decide
section
variable {H : Type} {enc : TypeId × Value → H} {P : Program} {W : World}
theorem rds_ds {t te : TypeId} {α : Type} {e : Enc α} {Q : Nat → α → Prop} (p : Dp α) (ht : P.underlying t = some (.slice te)) (h : Rds enc P W te e Q) (hc : P.cellsOf te = e.sz) (h0 : 0 < e.sz) (hb : Nat.ble 1 (P.bytesOf te) = true) (hp : ∀ r a, Q r a → p.ok W a) :
    Rds enc P W t (eDS e) (fun r x => (dDS e p).ok W x ∧ x.2.2.length ≤ r ∧ ∀ a ∈ x.2.2, Q r a) := by
  intro Z1 cs x hx
  obtain ⟨A, c, l, rfl, hr, hq⟩ := rds_row ht h hc h0 hx
  refine ⟨(A, c, l), rfl, fun r hw => ?_⟩
  obtain ⟨h1, h2⟩ := hq r hw
  exact ⟨⟨hr, fun y hy => hp r y (h2 y hy)⟩, Nat.le_trans (Nat.le_mul_of_pos_right _ (Nat.le_of_ble_eq_true hb)) h1, h2⟩
def NetQ (r : Nat) (n : Int × Int) : Prop := (Lit.int .u32 n.1).wf = true ∧ (Lit.int .i64 n.2).wf = true
def TokQ (r : Nat) (x : List UInt8 × List UInt8 × Int) : Prop := x.1.length ≤ r ∧ x.2.1.length ≤ r ∧ (Lit.int .i64 x.2.2).wf = true
def TenDQ (W : World) (r : Nat) (y : Vi) : Prop := y.1.length ≤ r ∧ (Lit.int .i64 y.2.1).wf = true ∧ (Lit.int .i64 y.2.2.1).wf = true ∧
  ((dDS eNet dT).ok W y.2.2.2.1 ∧ y.2.2.2.1.2.2.length ≤ r ∧ ∀ n ∈ y.2.2.2.1.2.2, NetQ r n) ∧ ((dDS eTok dT).ok W y.2.2.2.2 ∧ y.2.2.2.2.2.2.length ≤ r ∧ ∀ x ∈ y.2.2.2.2.2.2, TokQ r x)
def CfgQ (W : World) (r : Nat) (c : Int × Int × Int × Int × DS Vi) : Prop := (Lit.int .i64 c.1).wf = true ∧ (Lit.int .i64 c.2.1).wf = true ∧ (Lit.int .i64 c.2.2.1).wf = true ∧ (Lit.int .i64 c.2.2.2.1).wf = true ∧
  ((dDS Ul Bu).ok W c.2.2.2.2 ∧ c.2.2.2.2.2.2.length ≤ r ∧ ∀ y ∈ c.2.2.2.2.2.2, TenDQ W r y)
set_option maxRecDepth 100000 in
theorem net_rds : Rds enc Tryz.prog W 113 eNet NetQ :=
  Nf (l := [(111, 0), (3, 1)]) (by kernel_rfl) (by kernel_rfl) (Jd (Uk Tryz.underlying111) (by kernel_rfl) (Cv (Uk Tryz.underlying3) (by kernel_rfl)))
set_option maxRecDepth 100000 in
theorem tok_rds : Rds enc Tryz.prog W 48 eTok TokQ :=
  Nf (l := [(9, 0), (9, 1), (2, 2)]) (by kernel_rfl) (by kernel_rfl) (Jd (Dz Tryz.underlying9) (by kernel_rfl) (Jd (Dz Tryz.underlying9) (by kernel_rfl) (Cv (Uk Tryz.underlying2) (by kernel_rfl))))
set_option maxRecDepth 100000 in
theorem ten_rds : Rds enc Tryz.prog W 44 Ul (TenDQ W) :=
  Nf (l := [(9, 0), (3, 1), (3, 2), (41, 3), (42, 4)]) (by kernel_rfl) (by kernel_rfl)
    (Jd (Dz Tryz.underlying9) (by kernel_rfl) (Jd (Uk Tryz.underlying3) (by kernel_rfl) (Jd (Uk Tryz.underlying3) (by kernel_rfl)
      (Jd (rds_ds dT Tryz.underlying41 net_rds (by kernel_rfl) (by decide) (by kernel_rfl) (fun _ _ _ => trivial)) (by kernel_rfl) (Cv (rds_ds dT Tryz.underlying42 tok_rds (by kernel_rfl) (by decide) (by kernel_rfl) (fun _ _ _ => trivial)) (by kernel_rfl))))))
set_option maxRecDepth 100000 in
theorem cfg_rds : Rds enc Tryz.prog W 24 (Qb (Qd .i64) (Qb (Qd .i64) (Qb (Qd .i64) (Qb (Qd .i64) (eDS Ul))))) (CfgQ W) :=
  Nf (l := [(2, 0), (2, 1), (2, 2), (2, 3), (22, 4)]) (by kernel_rfl) (by kernel_rfl)
    (Jd (Uk Tryz.underlying2) (by kernel_rfl) (Jd (Uk Tryz.underlying2) (by kernel_rfl) (Jd (Uk Tryz.underlying2) (by kernel_rfl) (Jd (Uk Tryz.underlying2) (by kernel_rfl)
      (Cv (rds_ds Bu Tryz.underlying22 ten_rds (by kernel_rfl) (by decide) (by kernel_rfl) (fun _ _ h => ⟨trivial, trivial, trivial, h.2.2.2.1.1, h.2.2.2.2.1⟩)) (by kernel_rfl))))))
set_option maxRecDepth 100000 in
theorem open_cfg {r0 : Reach} {b0 : Nat} {v : Value} {d : DataW H} {p : List MemPlace} (hv : Value.okWide Tryz.prog W r0 b0 24 v) (hd : DataW.Trod enc Tryz.prog W 0 (fun _ => true) true 24 v d p) (hr : ∀ n ∈ d.weights Tryz.prog 24, n ≤ reachBytes) :
    ∃ (a b c e : Int) (A : Option Addr) (k : Nat) (l : List Vi), v = .agg #[.int .i64 a, .int .i64 b, .int .i64 c, .int .i64 e, .slice A (List.length (List.map stT l)) k] ∧ CfgQ W reachBytes (a, b, c, e, A, k, l) := by
  obtain ⟨⟨a, b, c, e, A, k, l⟩, rfl, q⟩ := open_agg Tryz.underlying24 cfg_rds hv hd hr
  refine ⟨a, b, c, e, A, k, l, ?_, q⟩
  rw [List.length_map]
  rfl
theorem cfg_q {W : World} {a b c d : Int} {A : Option Addr} {k : Nat} {x : List Vi} (h : CfgQ W reachBytes (a, b, c, d, A, k, x)) : (List.map stT x).length ≤ 140737488355328 ∧ ∀ t ∈ List.map stT x, TenQ t := by
  have hM := reachM
  obtain ⟨_, _, _, _, _, h1, h2⟩ := h
  refine ⟨by rw [List.length_map]; exact Nat.le_trans h1 hM, fun t ht => ?_⟩
  obtain ⟨y, hy, rfl⟩ := List.mem_map.1 ht
  obtain ⟨q1, q2, q3, ⟨_, q4, q5⟩, _, q6, q7⟩ := h2 y hy
  refine ⟨Nat.le_trans q1 hM, Nat.le_trans q4 hM, Nat.le_trans q6 hM, fun n hn => ?_, fun z hz => ⟨Nat.le_trans (q7 z hz).1 hM, Nat.le_trans (q7 z hz).2.1 hM⟩⟩
  have := (q5 n hn).1
  simp [Lit.wf, IntKind.min, IntKind.max, IntKind.signed, IntKind.bits] at this
  omega
end
end Go.Proofs.YtmgfanhcdfobhaaGreatDoor
namespace Go.Proofs.YtmgfanhcdfobhaaGreatDoor
def MsgW (r : Nat) (m : Int × Str × Str × Int × Int) : Prop := (Lit.int .i64 m.1).wf = true ∧ m.2.1.length ≤ r ∧ m.2.2.1.length ≤ r ∧ (Lit.int .i64 m.2.2.2.1).wf = true ∧ (Lit.int .i64 m.2.2.2.2).wf = true
def OpKN (r : Nat) (o : Int × (Int × Str × Str × Int × Int) × Int × Str) : Prop := (Lit.int .i64 o.1).wf = true ∧ MsgW r o.2.1 ∧ (Lit.int .i64 o.2.2.1).wf = true ∧ o.2.2.2.length ≤ r
def flatK (o : Int × (Int × Str × Str × Int × Int) × Int × Str) : OpK := (o.1, o.2.1.1, o.2.1.2.1, o.2.1.2.2.1, o.2.1.2.2.2.1, o.2.1.2.2.2.2, o.2.2.1, o.2.2.2)
def OpKW (r : Nat) (o : OpK) : Prop := o.2.2.1.length ≤ r ∧ o.2.2.2.1.length ≤ r ∧ o.2.2.2.2.2.2.2.length ≤ r
section
variable {H : Type} {enc : TypeId × Value → H} {W : World}
set_option maxRecDepth 100000 in
theorem msg_rds : Rds enc Tryz.prog W 63 (Qb (Qd .i64) (Qb Q5 (Qb Q5 (Qb (Qd .i64) (Qd .i64))))) MsgW :=
  Nf (l := [(3, 0), (9, 1), (9, 2), (2, 3), (2, 4)]) (by kernel_rfl) (by kernel_rfl)
    (Jd (Uk Tryz.underlying3) (by kernel_rfl) (Jd (Dz Tryz.underlying9) (by kernel_rfl) (Jd (Dz Tryz.underlying9) (by kernel_rfl) (Jd (Uk Tryz.underlying2) (by kernel_rfl) (Cv (Uk Tryz.underlying2) (by kernel_rfl))))))
set_option maxRecDepth 100000 in
theorem opk_nest : Rds enc Tryz.prog W 67 (Qb (Qd .i64) (Qb (Qb (Qd .i64) (Qb Q5 (Qb Q5 (Qb (Qd .i64) (Qd .i64))))) (Qb (Qd .i64) Q5))) OpKN :=
  Nf (l := [(3, 0), (63, 1), (2, 6), (9, 7)]) (by kernel_rfl) (by kernel_rfl)
    (Jd (Uk Tryz.underlying3) (by kernel_rfl) (Jd msg_rds (by kernel_rfl) (Jd (Uk Tryz.underlying2) (by kernel_rfl) (Cv (Dz Tryz.underlying9) (by kernel_rfl)))))
theorem opk_rds : Rds enc Tryz.prog W 67 (Qb (Qd .i64) (Qb (Qd .i64) (Qb Q5 (Qb Q5 (Qb (Qd .i64) (Qb (Qd .i64) (Qb (Qd .i64) Q5))))))) OpKW :=
  Rds.conv opk_nest flatK (fun _ => rfl) (fun r a h => ⟨h.2.1.2.1, h.2.1.2.2.1, h.2.2.2⟩)
theorem opk_q {l : List OpK} (hl : l.length ≤ reachBytes) (h : ∀ o ∈ l, OpKW reachBytes o) : l.length ≤ 140737488355328 ∧ ∀ o ∈ l, OpKQ o := by
  have hM := reachM
  refine ⟨Nat.le_trans hl hM, fun o ho => ?_⟩
  obtain ⟨q1, q2, q3⟩ := h o ho
  exact ⟨Nat.le_trans q1 hM, Nat.le_trans q2 hM, Nat.le_trans q3 hM⟩
end
end Go.Proofs.YtmgfanhcdfobhaaGreatDoor
namespace Go.Proofs.YtmgfanhcdfobhaaGreatDoor
open Go.RowKit
abbrev Ht : List (String × DataW Unit) := [("math/bits.deBruijn32tab", Rows.laid_math_bits_deBruijn32tab), ("math/bits.deBruijn64tab", Rows.laid_math_bits_deBruijn64tab), ("internal/strconv.uint64pow10", Rows.laid_internal_strconv_uint64pow10)
  , ("unicode/utf8.acceptRanges", Rows.laid_unicode_utf8_acceptRanges), ("unicode/utf8.first", Rows.laid_unicode_utf8_first)
  ]
theorem gTab : Tryz.prog.globalNamed G3 = some 0 := by kernel_rfl
theorem gTabType : (Tryz.prog.globals[0]?).map (·.type) = some 183 := by kernel_rfl
theorem cellsTab : Tryz.prog.cellsOf 183 = 20 := by kernel_rfl
theorem cellsU64 : Tryz.prog.cellsOf 153 = 1 := by kernel_rfl
theorem laid_of {W : World} (h : laidMetH Tryz.prog Ht W) : Db W := by
  have h1 := h.filter (fun x => x.1 == G3)
  have e : Ht.filter (fun x => x.1 == G3) = [(G3, Lib.tabData .u64 Lib.pow10Tab)] := by kernel_rfl
  rw [e] at h1
  have ht : Lib.TabIs Tryz.prog W G3 .u64 Lib.pow10Tab := Lib.tabIs_of_head (rest := []) gTab gTabType Tryz.underlying183 Tryz.underlying153 cellsU64 cellsTab h1
  refine ⟨ht, fun g hg => ?_⟩
  obtain rfl := Option.some.inj (gTab.symm.trans hg)
  have := ht.cell gTab 0 (by decide)
  exact block_lt_of_cell this
def cells1 : DataW Unit → List Value
  | .lit (.int k z) => [.int k z]
  | .lit (.bool b) => [.bool b]
  | _ => []
def cells2 : DataW Unit → List Value
  | .agg l => l.flatMap cells1
  | d => cells1 d
def cells3 : DataW Unit → List Value
  | .agg l => l.flatMap cells2
  | d => cells2 d
def Dk (d : DataW Unit) : Obj → Obj
  | .cells _ t frozen => .cells (cells3 d).toArray t frozen
  | o => o
noncomputable def B8 (os : Os) : World :=
  { World.holding Tryz.prog os ⟨#[], #[], []⟩ with heap := ((((World.holding Tryz.prog os ⟨#[], #[], []⟩).heap.modify 4 (Dk Rows.laid_math_bits_deBruijn32tab)).modify 5 (Dk Rows.laid_math_bits_deBruijn64tab)).modify 0 (Dk Rows.laid_internal_strconv_uint64pow10)
    |>.modify 2 (Dk Rows.laid_unicode_utf8_acceptRanges) |>.modify 1 (Dk Rows.laid_unicode_utf8_first)
    ) }
end Go.Proofs.YtmgfanhcdfobhaaGreatDoor
namespace Go.Proofs.YtmgfanhcdfobhaaGreatDoor
open Go.ChangeShapes Go.WideShapes Go.ChangeAt Go.RowKit
open Go.ChangeMaps (open_string shut_string)
set_option maxRecDepth 100000 in
theorem Dl (H : Type) (enc : TypeId × Value → H) (W : World) (base : Nat) (args : Array Value) (ds gs : List (DataW H)) (before : List MemPlace) (vt : List TypeId)
    (hval : ∀ (j : Nat) t v, Tryz.f10.params[j]? = some t → args[j]? = some v → Value.okWide Tryz.prog W .any base t v)
    (hW : DataW.Whole enc Tryz.prog Tryz.f10.params.toList Rows.shakeOverSpec.vars false W args.toList ds gs before) (hL : laidMetH Tryz.prog Rows.shakeOverRow.laid W)
    (hZ : (DataW.weightsEach Tryz.prog (Tryz.f10.params.toList ++ vt) (ds ++ gs)).all (· ≤ reachBytes) = true) :
    Calls Tryz.prog 10 args W fun e W' => ∃ v, e = .returned v ∧ Rows.shakeOverSpec.post enc Tryz.prog Tryz.f10 false true false false W args v W' := by
  have hW' := hW
  obtain ⟨p, q, hA0, hV, rfl, hfz, hnd⟩ := hW
  have hA : DataW.TrodAll enc Tryz.prog W 0 (fun _ => true) true Tryz.f10.params.toList args.toList ds p := hA0
  rw [Tryz.params10] at hA hval hZ
  obtain ⟨v0, vs0, d0, ds0, p0, q0, hargs, rfl, rfl, h0, r0⟩ := trodAll_cons hA
  obtain ⟨v1, vs1, d1, ds1, p1, q1, rfl, rfl, rfl, h1, r1⟩ := trodAll_cons r0
  obtain ⟨rfl, rfl, rfl⟩ := trodAll_nil r1
  obtain rfl : args = #[v0, v1] := by cases args; simp_all
  obtain ⟨rfl, rfl⟩ := trodVars_none hV
  have wz : ∀ (j : Nat) t d, _ → _ → ∀ n ∈ DataW.weights Tryz.prog t d, n ≤ reachBytes := fun j t d ht hd n hn => of_decide_eq_true (List.all_eq_true.1 hZ n (DataW.weights_mem_each (j := j) ht hd n hn))
  have k0 := h0
  have lt0 : ∀ x ∈ p0, x.block < W.heap.size := by obtain ⟨m, hm⟩ := k0; exact DataW.trod_lt m _ _ _ hm
  have k1 := h1
  have lt1 : ∀ x ∈ p1, x.block < W.heap.size := by obtain ⟨m, hm⟩ := k1; exact DataW.trod_lt m _ _ _ hm
  obtain ⟨a0_0, a0_1, a0_2, a0_3, A0_, c0_, l0_, rfl, q0_⟩ := open_cfg (hval 0 24 v0 rfl rfl) h0 (wz 0 24 d0 rfl rfl)
  obtain ⟨A1_, c1_, l1_, rfl, hr1_, hb1_, hq1_⟩ := open_row Tryz.underlying58 opk_rds (by kernel_rfl) (by decide) (hval 1 58 v1 rfl rfl) h1 (wz 1 58 d1 rfl rfl)
  have hl1_ : l1_.length ≤ reachBytes := Nat.le_trans (Nat.le_mul_of_pos_right _ (of_decide_eq_true (by kernel_rfl))) hb1_
  clear hA0
  refine (Nd A0_ c0_ A1_ c1_ a0_0 a0_1 a0_2 a0_3 l0_ l1_ W (laid_of hL) q0_.2.2.2.2.1 hr1_ true (B7 _ _ _ _ _ _ (cfg_q q0_).1 (cfg_q q0_).2 (opk_q hl1_ hq1_).1 (opk_q hl1_ hq1_).2)).mono fun e W' ⟨he, bel0⟩ => ?_
  have bel := SP.keeps bel0
  subst he
  exact ⟨_, rfl, _, _, _, [], _, [], hW', trodAll_mk1 (shut_bool Tryz.underlying4 _), (trodAll_cons_mk (Below.trod laidOut (by kernel_rfl) (of_decide_eq_true (by kernel_rfl)) k0 bel lt0) (trodAll_cons_mk (Below.trod laidOut (by kernel_rfl) (of_decide_eq_true (by kernel_rfl)) k1 bel lt1) trodAll_mk0)), rfl, bel.frame _, fun h => by cases h⟩
theorem Dm (os : Os) : laidMet Tryz.prog Rows.shakeOverRow.laid ((B8 os).forCall (fun _ _ => 0) ⟨#[], #[.agg #[.int .i64 0, .int .i64 0, .int .i64 0, .int .i64 0, .slice none 0 0], .slice none 0 0], []⟩).memory :=
  laidMet_of_run' 8 (by kernel_rfl) (by kernel_rfl)
theorem B9 (os : Os) {H : Type} (enc : TypeId × Value → H) : ∃ places, DataW.whole enc Tryz.prog ((B8 os).forCall (fun _ _ => 0) ⟨#[], #[.agg #[.int .i64 0, .int .i64 0, .int .i64 0, .int .i64 0, .slice none 0 0], .slice none 0 0], []⟩).memory Tryz.f10.params.toList Rows.shakeOverSpec.vars false [.agg #[.int .i64 0, .int .i64 0, .int .i64 0, .int .i64 0, .slice none 0 0], .slice none 0 0] 8 = some ([.agg [.lit (.int .i64 0), .lit (.int .i64 0), .lit (.int .i64 0), .lit (.int .i64 0), .nil], .nil], [], places) :=
  ⟨[], by kernel_rfl⟩
set_option maxRecDepth 100000 in
theorem Bd (os : Os) (started : os.Started) (H : Type) (enc : TypeId × Value → H) (F : Stop.Interp) :
    ReturnsInHanded {} Tryz.checked os 10 .any ((OpenSpec.ofChange Rows.shakeOverSpec).preRow enc Tryz.prog Tryz.f10 Rows.shakeOverRow.domain false Rows.shakeOverRow.laid) (((OpenSpec.ofChange Rows.shakeOverSpec).at F).post enc Tryz.prog Tryz.f10 false true false false) := by
  obtain ⟨places, hx⟩ := B9 os enc
  refine returnsInHanded_of_row (C := Tryz.checked) (s := OpenSpec.ofChange Rows.shakeOverSpec) own started (by kernel_rfl) Tryz.func10
    (witness_row_at (enc := enc) (C := Tryz.checked) false (B8 os) #[.agg #[.int .i64 0, .int .i64 0, .int .i64 0, .int .i64 0, .slice none 0 0], .slice none 0 0] rfl (by kernel_rfl) (by kernel_rfl) (by kernel_rfl)
      (OpenSpec.preRow_of_cond 8 hx (by kernel_rfl) (fun k hk => by cases hk) (by kernel_rfl) (Dm os))) ?_
  intro W base args ds gs before hval hW _ _ hZ hL _ _
  exact Dl H enc W base args ds gs before _ hval hW hL hZ
theorem Ce : Rows.ShakeOverSaid :=
  OpenClaim.holds_of_cond 10 Tryz.f10 rfl rfl rfl rfl rfl rfl rfl ⟨rfl, rfl, rfl, rfl, rfl⟩ rfl rfl rfl rfl rfl (by kernel_rfl) Tryz.func10 (by kernel_rfl)
    (of_decide_eq_true (by kernel_rfl)) (by unfold Func.isWrapper; first | (rw [if_pos (by decide +kernel)]; kernel_rfl) | (rw [if_neg (by decide +kernel)]; exact ⟨rfl, rfl⟩))
    (fun os started H enc _ F => by rw [OpenClaim.pre_eq_preRow]; exact Bd os started H enc F)
theorem R6 (f : FuncId) (fn : Func) (hf : Tryz.pinned.checked.prog.funcNamed Rows.shakeOverRow.func = some f) (hfn : Tryz.pinned.checked.prog.funcs[f]? = some fn) :
    false = Tryz.pinned.checked.prog.looks [] ∧ ∀ (j : Nat) t, fn.params[j]? = some t → Tryz.pinned.checked.prog.wantsStandIn t = false := by
  obtain rfl : f = 10 := Option.some.inj ((show Tryz.prog.funcNamed Rows.shakeOverRow.func = some 10 by kernel_rfl).symm.trans hf) |>.symm
  obtain rfl : fn = Tryz.f10 := (Option.some.inj (Tryz.func10.symm.trans hfn)).symm
  refine ⟨by kernel_rfl, fun j t ht => ?_⟩
  have ha : (Tryz.f10.params.toList.all fun t => !Tryz.prog.wantsStandIn t) = true := by kernel_rfl
  rw [List.all_eq_true] at ha
  have := ha t (by rw [← Array.getElem?_toList] at ht; exact List.mem_of_getElem? ht)
  have h2 : Tryz.prog.wantsStandIn t = false := by simpa using this
  exact h2
theorem shakeOver_card : Rows.ShakeOverCardSaid :=
  Claim7.holds_tied_plain_at .later [] _ _ _ _ Ce (fun _ h => by cases h) (by kernel_rfl) (fun _ h => by cases h) shakeOver_row_tie rfl ⟨rfl, rfl⟩ (by kernel_rfl) rfl R6 (by kernel_rfl)
#print axioms shakeOver_card
end Go.Proofs.YtmgfanhcdfobhaaGreatDoor
