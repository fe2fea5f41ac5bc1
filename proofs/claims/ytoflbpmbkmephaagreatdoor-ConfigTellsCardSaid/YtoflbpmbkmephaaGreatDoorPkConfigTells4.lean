import Derived.Test.YtoflbpmbkmephaaGreatDoorPkConfigTells3
set_option linter.unusedSimpArgs false
set_option linter.unusedVariables false
set_option linter.unusedSectionVars false
set_option maxRecDepth 100000
set_option maxHeartbeats 40000000
namespace Go.Proofs.YtoflbpmbkmephaaGreatDoor
open Go.RowKit
def Zy (p1 : Int) : Option ((List UInt8)) :=
  ((X8 p1).bind fun z2 => (some (z2)))
set_option maxHeartbeats 40000000 in
theorem Xp  (p1 : Int) (w0 : World)  (r : (Bs)) (H : Zy p1 = some r) :
  Calls Tryz.prog 64 #[(iv p1)] w0 (fun e W => e = .returned (sv r) ∧ SP [] w0 W []) := by
 unfold Zy at H
 refine Qt (n := 5) Tryz.func64 K K K ?_
 have a := Qw [] w0
 refine aC ?_
 refine iR 1 1 [(2, (sv ([] : Bs)))] ?_
 refine iF ?_
 refine aC ?_
 refine iR 1 1 [(3, (iv p1))] ?_
 obtain ⟨z2, b, H⟩ := Qd H
 refine iS 2 ?_
 refine cS a 110 #[(.tmp 3)] #[2] 4 Tryz.call110 (Nr  p1 w0  z2 b) ?_
 intro w4 c
 refine iR 1 3 [(2, (sv z2))] ?_
 refine iF ?_
 refine At.ret K ?_
 refine ⟨(sv z2), K, ?_⟩
 obtain rfl := Qe H
 exact ⟨rfl, SP.sel c [] rfl rfl⟩
def Jj (b : (List UInt8) → Int → Option ((List UInt8))) (p1 : (List (List UInt8))) (a : Int) (c : (List UInt8)) : Option ((List UInt8)) :=
  ((idx p1 a).bind fun d => ((app c d).bind fun e => (b e (IntKind.wrap .i64 (a + 1)))))
def Zm (c : (List UInt8) → Int → Option ((List UInt8))) (p1 : (List (List UInt8))) (b : (List UInt8)) (a : Int) : Option ((List UInt8)) :=
  (cond (decide (a < ((List.length p1 : Nat) : Int))) (cond (decide (a > 0)) ((app b ([32] : List UInt8)).bind fun d => (Jj c p1 a d)) (Jj c p1 a b)) ((app b ([10] : List UInt8)).bind fun e => (some (e))))
def Zn (p1 : (List (List UInt8))) : Nat → (List UInt8) → Int → Option ((List UInt8))
  | 0, _, _ => none
  | f + 1, a, b => Zm  (Zn p1 f) p1 a b
def Yu (p1 : (List (List UInt8))) : Option ((List UInt8)) :=
  (Zn p1 Zj ([] : List UInt8) 0)
set_option maxHeartbeats 40000000 in
theorem U5 (A2 : Option Addr) (c3 : Nat) (p1 : (List Bs)) (w0 : World) (m : RdT Qj w0 A2 c3 p1) (r : (Bs)) (H : Yu p1 = some r) :
  Calls Tryz.prog 63 #[(lv A2 p1 c3)] w0 (fun e W => e = .returned (sv r) ∧ SP [] w0 W []) := by
 unfold Yu at H
 refine Qt (n := 23) Tryz.func63 K K K ?_
 have u := Qw [] w0
 refine aC ?_
 refine iR 1 1 [(2, (sv ([] : Bs)))] ?_
 refine iF ?_
 refine aC ?_
 refine iR 1 1 [(3, (sv ([] : Bs)))] ?_
 refine iF ?_
 refine aQ ?_
 refine aC ?_
 refine iR 1 1 [(4, (iv 0))] ?_
 refine iF ?_
 refine Z3 K (id := 0) K ?_
 refine Gm K (fun f3 ρ w => ∃ (f : Bs) (c : Int), Vq ρ [(0, (lv A2 p1 c3)), (3, (sv f)), (4, (iv c))] ∧ SP [] w0 w [] ∧ Zn p1 f3 f c = some r) (by rintro ρ w ⟨f, c, hk, hs, H⟩; cases H) ?_ Zj ?_
 ·rintro f3 ρ a2 ⟨f, c, hk, h, H⟩
  refine At.known _ hk ?_
  replace H := (show Zm (Zn p1 f3) p1 f c = some r from H)
  unfold Zm at H
  refine aQ ?_
  refine aC ?_
  refine iR 4 4 [(5, (iv c)), (6, (lv A2 p1 c3)), (7, (iv (ln p1))), (8, (bv (decide (c < (ln p1)))))] ?_
  refine iF ?_
  refine cD 8 H (fun H => ?_) fun H => ?_
  ·refine At.skip K ?_
   refine aQ ?_
   refine Z3 K (id := 1) K ?_
   refine aQ ?_
   refine aC ?_
   refine iR 2 2 [(11, (iv c)), (12, (bv (decide (c > 0))))] ?_
   refine iF ?_
   refine At.join (fun ρ w => ∃ (g : Bs), Vq ρ [(0, (lv A2 p1 c3)), (3, (sv g)), (4, (iv c))] ∧ SP [] w0 w [] ∧ Jj (Zn p1 f3) p1 c g = some r) ?_ ?_
   ·refine cD 12 H (fun H => ?_) fun H => ?_
    ·refine aR ?_
     refine iR 1 1 [(13, (sv f))] ?_
     obtain ⟨hl77, H⟩ := Zx H
     obtain ⟨o, hyl76⟩ : ∃ y, f ++ ([32] : Bs) = y := ⟨_, rfl⟩
     rw [hyl76] at H
     refine iS 2 ?_
     refine Yn (T := 9) (T' := 9) (x := (.tmp 13)) (y := (.const (.string ⟨List.toArray ([32] : Bs)⟩))) (a := f) (b := ([32] : Bs)) (d := (some 14)) (k := 1) K rfl K K hl77 ?_
     rw [hyl76]
     refine iR 1 3 [(3, (sv o))] ?_
     refine iF ?_
     exact ⟨o, ⟨K, K, K, trivial⟩, SP.sel h [] rfl rfl, H⟩
    refine At.skip K ?_
    exact ⟨f, ⟨K, K, K, trivial⟩, SP.sel h [] rfl rfl, H⟩
   rintro ρ a3 ⟨g, hk, i, H⟩
   unfold Jj at H
   first | refine At.known _ hk ?_ | rw [← Qo hk]
   refine aR ?_
   refine iR 3 3 [(15, (sv g)), (16, (lv A2 p1 c3)), (17, (iv c))] ?_
   obtain ⟨l, p, q, v, H⟩ := Qu H
   refine jE 4 Qj p1 A2 c3 79 9 (.tmp 16) (.tmp 17) c 18 (RdT.sp m i) p q ?_
   intro z a0 a1 a4 hc70
   refine jX 5 9 18 z (a0 + Int.toNat c * Qj.sz) (sv l) 19 (Ql (e := Qj) (Qh (RdT.sp m i) a1 p q) v (j := 0) rfl) ?_
   obtain ⟨hl74, H⟩ := Zx H
   obtain ⟨s, hyl73⟩ : ∃ y, g ++ l = y := ⟨_, rfl⟩
   rw [hyl73] at H
   refine iS 6 ?_
   refine Yn (T := 9) (T' := 9) (x := (.tmp 15)) (y := (.tmp 19)) (a := g) (b := l) (d := (some 20)) (k := 5) K rfl K K hl74 ?_
   rw [hyl73]
   refine iR 1 7 [(3, (sv s))] ?_
   refine iF ?_
   refine aR ?_
   refine iR 3 3 [(9, (iv c)), (10, (iv (IntKind.wrap .i64 (c + 1)))), (4, (iv (IntKind.wrap .i64 (c + 1))))] ?_
   refine iF ?_
   exact ⟨s, (IntKind.wrap .i64 (c + 1)), ⟨K, K, K, trivial⟩, SP.sel i [] rfl rfl, H⟩
  refine At.exit K (id := 0) K ?_
  refine aC ?_
  refine iR 1 1 [(21, (sv f))] ?_
  obtain ⟨hl79, H⟩ := Zx H
  obtain ⟨t, hyl78⟩ : ∃ y, f ++ ([10] : Bs) = y := ⟨_, rfl⟩
  rw [hyl78] at H
  refine iS 2 ?_
  refine Yn (T := 9) (T' := 9) (x := (.tmp 21)) (y := (.const (.string ⟨List.toArray ([10] : Bs)⟩))) (a := f) (b := ([10] : Bs)) (d := (some 22)) (k := 1) K rfl K K hl79 ?_
  rw [hyl78]
  refine iR 1 3 [(2, (sv t))] ?_
  refine iF ?_
  refine At.ret K ?_
  refine ⟨(sv t), K, ?_⟩
  obtain rfl := Qe H
  exact ⟨rfl, SP.sel h [] rfl rfl⟩
 exact ⟨([] : Bs), 0, ⟨K, K, K, trivial⟩, SP.sel u [] rfl rfl, H⟩
def Z8 (e : (List UInt8) → Int → Option ((List UInt8))) (l : (List UInt8) → Int → Option ((List UInt8))) (f : (List UInt8) → Int → Option ((List UInt8))) (g : Int) (c : Qb) (d : (List UInt8)) (b : Int) : Option ((List UInt8)) :=
  (cond (decide (b < ((List.length c.2.2.2.2 : Nat) : Int))) ((idx c.2.2.2.2 b).bind fun a => ((chk (Nat.ble (List.length a.2.1) 281474976710656)).bind fun _ => ((Rs a.2.1).bind fun h => ((Zy a.2.2).bind fun i => ((Yu ([([116, 111, 107, 101, 110] : List UInt8), a.1, h, i] : List (List UInt8))).bind fun j => ((app d j).bind fun k => (f k (IntKind.wrap .i64 (b + 1))))))))) (e d (IntKind.wrap .i64 (g + 1))))
def Z9 (a : (List UInt8) → Int → Option ((List UInt8))) (b : (List UInt8) → Int → Option ((List UInt8))) (c : Int) (d : Qb) : Nat → (List UInt8) → Int → Option ((List UInt8))
  | 0, _, _ => none
  | f + 1, e, g => Z8 a b (Z9 a b c d f) c d e g
def Xa (f : (List UInt8) → Int → Option ((List UInt8))) (c : (List UInt8) → Int → Option ((List UInt8))) (g : Int) (a : Qb) (d : (List UInt8)) (b : Int) : Option ((List UInt8)) :=
  (cond (decide (b < ((List.length a.2.2.2.1 : Nat) : Int))) ((idx a.2.2.2.1 b).bind fun e => ((Nd e.1 e.2).bind fun h => ((Yu ([([110, 101, 116] : List UInt8), h] : List (List UInt8))).bind fun i => ((app d i).bind fun j => (c j (IntKind.wrap .i64 (b + 1))))))) (Z9 f c g a Zj d 0))
def Vp (a : (List UInt8) → Int → Option ((List UInt8))) (b : Int) (c : Qb) : Nat → (List UInt8) → Int → Option ((List UInt8))
  | 0, _, _ => none
  | f + 1, d, e => Xa a (Vp a b c f) b c d e
def Xq (e : (List UInt8) → Int → Option ((List UInt8))) (c : (List Qb)) (d : (List UInt8)) (b : Int) : Option ((List UInt8)) :=
  (cond (decide (b < ((List.length c : Nat) : Int))) ((idx c b).bind fun a => ((Zy a.2.1).bind fun f => ((Zy a.2.2.1).bind fun g => ((Yu ([([116, 101, 110, 97, 110, 116] : List UInt8), a.1, f, g] : List (List UInt8))).bind fun h => ((app d h).bind fun i => (Vp e b a Zj i 0)))))) (some (d)))
def Q1 (a : (List Qb)) : Nat → (List UInt8) → Int → Option ((List UInt8))
  | 0, _, _ => none
  | f + 1, b, c => Xq  (Q1 a f) a b c
def Nl (a : Int) (b : Int) (c : Int) (d : Int) (e : (List Qb)) : Option ((List UInt8)) :=
  ((Z6 a b c d e).bind fun f => (cond (!f) (some (([] : List UInt8))) ((Zy a).bind fun g => ((Zy b).bind fun h => ((Zy c).bind fun i => ((Zy d).bind fun j => ((Yu ([([116, 105, 109, 101, 115] : List UInt8), g, h, i, j] : List (List UInt8))).bind fun k => (Q1 e Zj k 0))))))))
set_option maxHeartbeats 40000000 in
theorem Xz (A6 : Option Addr) (c7 : Nat) (a8 : Int) (a7 : Int) (a5 : Int) (a4 : Int) (d9 : (List Qg)) (w0 : World) (b6 : (dDS Vu Fv).ok w0 (A6, c7, d9)) (r : (Bs)) (H : Nl a8 a7 a5 a4 (mT d9) = some r) :
  Calls Tryz.prog 25 #[(.agg #[(iv a8), (iv a7), (iv a5), (iv a4), (lv A6 (mT d9) c7)])] w0 (fun e W => e = .returned (sv r) ∧ SP [] w0 W []) := by
 unfold Nl at H
 refine Qt (n := 93) Tryz.func25 K K K ?_
 have h9 := Qw [] w0
 refine aC ?_
 refine iS 1 ?_
 refine zB 24 (.tmp 0) (.agg #[(iv a8), (iv a7), (iv a5), (iv a4), (lv A6 (mT d9) c7)]) 1 h9 ?_
 intro o i0 e2
 refine iR 1 2 [(2, (sv ([] : Bs)))] ?_
 refine iF ?_
 refine aQ ?_
 refine aC ?_
 refine jL 1 24 1 o 0 0 (.agg #[(iv a8), (iv a7), (iv a5), (iv a4), (lv A6 (mT d9) c7)]) 9 e2 rfl ?_
 obtain ⟨e8, i1, H⟩ := Qd H
 refine iS 2 ?_
 refine cS e2 23 #[(.tmp 9)] #[24] 10 Tryz.call23 (Vx A6 c7 a8 a7 a5 a4 d9 i0 (Dp.sp b6 e2) e8 i1) ?_
 intro t5 e9
 refine iR 1 3 [(11, (bv (!e8)))] ?_
 refine iF ?_
 refine cD 11 H (fun H => ?_) fun H => ?_
 ·refine aC ?_
  refine iR 1 1 [(2, (sv ([] : Bs)))] ?_
  refine iF ?_
  refine At.ret K ?_
  refine ⟨(sv ([] : Bs)), K, ?_⟩
  obtain rfl := Qe H
  exact ⟨rfl, SP.sel e9 [] rfl rfl⟩
 refine At.skip K ?_
 refine aQ ?_
 obtain ⟨s, i2, H⟩ := Qd H
 obtain ⟨u, i3, H⟩ := Qd H
 obtain ⟨v, i4, H⟩ := Qd H
 obtain ⟨a1, i5, H⟩ := Qd H
 obtain ⟨c9, i6, H⟩ := Qd H
 refine aG [GEq (pt o 0), GEq (iv a8), GEq (sv s), GEq (pt o 1), GEq (iv a7), GEq (sv u), GEq (pt o 2), GEq (iv a5), GEq (sv v), GEq (pt o 3), GEq (iv a4), GEq (sv a1), Ry, GEq (sv c9), GEq (sv c9)] [2, 5, 8, 11, 12, 13] ((fun (X0 : Ent) => [([], fun vs w => VL vs [] ∧ SP [] w0 w [X0]), ([2], fun vs w => VL vs [(sv s)] ∧ SP [] w0 w [X0]), ([2, 5], fun vs w => VL vs [(sv s), (sv u)] ∧ SP [] w0 w [X0]), ([2, 5, 8], fun vs w => VL vs [(sv s), (sv u), (sv v)] ∧ SP [] w0 w [X0]), ([2, 5, 8, 11], fun vs w => VL vs [(sv s), (sv u), (sv v), (sv a1)] ∧ SP [] w0 w [X0]), ([2, 5, 8, 11, 12], fun vs w => ∃ (b7 : Nat), VL vs [(sv s), (sv u), (sv v), (sv a1), (lv (some ⟨b7, 0, none⟩) ([([116, 105, 109, 101, 115] : Bs), s, u, v, a1] : List Bs) (List.length ([([116, 105, 109, 101, 115] : Bs), s, u, v, a1] : List Bs)))] ∧ SP [] w0 w [X0, Vh 9 Qj (some ⟨b7, 0, none⟩) (List.length ([([116, 105, 109, 101, 115] : Bs), s, u, v, a1] : List Bs)) ([([116, 105, 109, 101, 115] : Bs), s, u, v, a1] : List Bs)]), ([2, 5, 8, 11, 12, 13], fun vs w => ∃ (e3 : Nat), VL vs [(sv s), (sv u), (sv v), (sv a1), (lv (some ⟨e3, 0, none⟩) ([([116, 105, 109, 101, 115] : Bs), s, u, v, a1] : List Bs) (List.length ([([116, 105, 109, 101, 115] : Bs), s, u, v, a1] : List Bs))), (sv c9)] ∧ SP [] w0 w [X0, Vh 9 Qj (some ⟨e3, 0, none⟩) (List.length ([([116, 105, 109, 101, 115] : Bs), s, u, v, a1] : List Bs)) ([([116, 105, 109, 101, 115] : Bs), s, u, v, a1] : List Bs)])]) (Qs o 24 #[(iv a8), (iv a7), (iv a5), (iv a4), (lv A6 (mT d9) c7)])) 15 6 ⟨trivial, SP.drew e9⟩ ?_ ?_
 iterate 15 refine And.intro ?_ ?_
 exact trivial
 ·exact oU (hC (hS 1 (pt o 0)) (h0))
 ·refine oL 0 ?_
  rintro P W hs j ⟨-, i7⟩
  refine kM (kc (kA j 0 12) k0) fun g => ?_
  refine sL 2 12 o 0 0 (iv a8) 13 i7 rfl ?_
  exact eK g
 ·refine oH 0 1 ?_
  rintro P W hs j ⟨-, i8⟩
  refine kM (kc (kA j 1 13) k0) fun g => ?_
  refine cS i8 64 #[(.tmp 13)] #[2] 14 Tryz.call64 (Xp  a8 W  s i2) ?_
  intro t6 i9
  refine ⟨_, Qa g, rfl, ?_⟩
  exact (ai (ai rfl (trivial)) i9)
 ·exact oU (hC (hS 1 (pt o 0)) (h0))
 ·refine Owe.light K [0, 1] K (Qc ?_ (Qc ?_ Qq))
  ·rintro P W hs j ⟨-, j0⟩
   refine kM (kc (kA j 3 15) k0) fun g => ?_
   refine sL 2 15 o 1 0 (iv a7) 16 j0 rfl ?_
   exact eK g
  rintro P W hs j ⟨⟨t7, -⟩, j1⟩
  refine kM (kc (kA j 3 15) k0) fun g => ?_
  refine sL 2 15 o 1 0 (iv a7) 16 j1 rfl ?_
  exact eK g
 ·refine oH 1 2 ?_
  rintro P W hs j ⟨⟨j2, -⟩, j3⟩
  refine kM (kc (kA j 4 16) k0) fun g => ?_
  refine cS j3 64 #[(.tmp 16)] #[2] 17 Tryz.call64 (Xp  a7 W  u i3) ?_
  intro t8 j4
  refine ⟨_, Qa g, rfl, ?_⟩
  exact (ai (ai j2 (ai rfl (trivial))) j4)
 ·exact oU (hC (hS 1 (pt o 0)) (h0))
 ·refine Owe.light K [0, 1, 2] K (Qc ?_ (Qc ?_ (Qc ?_ Qq)))
  ·rintro P W hs j ⟨-, j5⟩
   refine kM (kc (kA j 6 18) k0) fun g => ?_
   refine sL 2 18 o 2 0 (iv a5) 19 j5 rfl ?_
   exact eK g
  ·rintro P W hs j ⟨⟨t9, -⟩, j6⟩
   refine kM (kc (kA j 6 18) k0) fun g => ?_
   refine sL 2 18 o 2 0 (iv a5) 19 j6 rfl ?_
   exact eK g
  rintro P W hs j ⟨⟨u0, u1, -⟩, j7⟩
  refine kM (kc (kA j 6 18) k0) fun g => ?_
  refine sL 2 18 o 2 0 (iv a5) 19 j7 rfl ?_
  exact eK g
 ·refine oH 2 3 ?_
  rintro P W hs j ⟨⟨j8, j9, -⟩, k1⟩
  refine kM (kc (kA j 7 19) k0) fun g => ?_
  refine cS k1 64 #[(.tmp 19)] #[2] 20 Tryz.call64 (Xp  a5 W  v i4) ?_
  intro u2 k2
  refine ⟨_, Qa g, rfl, ?_⟩
  exact (ai (ai j8 (ai j9 (ai rfl (trivial)))) k2)
 ·exact oU (hC (hS 1 (pt o 0)) (h0))
 ·refine Owe.light K [0, 1, 2, 3] K (Qc ?_ (Qc ?_ (Qc ?_ (Qc ?_ Qq))))
  ·rintro P W hs j ⟨-, k3⟩
   refine kM (kc (kA j 9 21) k0) fun g => ?_
   refine sL 2 21 o 3 0 (iv a4) 22 k3 rfl ?_
   exact eK g
  ·rintro P W hs j ⟨⟨u3, -⟩, k4⟩
   refine kM (kc (kA j 9 21) k0) fun g => ?_
   refine sL 2 21 o 3 0 (iv a4) 22 k4 rfl ?_
   exact eK g
  ·rintro P W hs j ⟨⟨u4, u5, -⟩, k5⟩
   refine kM (kc (kA j 9 21) k0) fun g => ?_
   refine sL 2 21 o 3 0 (iv a4) 22 k5 rfl ?_
   exact eK g
  rintro P W hs j ⟨⟨u6, u7, u8, -⟩, k6⟩
  refine kM (kc (kA j 9 21) k0) fun g => ?_
  refine sL 2 21 o 3 0 (iv a4) 22 k6 rfl ?_
  exact eK g
 ·refine oH 3 4 ?_
  rintro P W hs j ⟨⟨k7, k8, k9, -⟩, l0⟩
  refine kM (kc (kA j 10 22) k0) fun g => ?_
  refine cS l0 64 #[(.tmp 22)] #[2] 23 Tryz.call64 (Xp  a4 W  a1 i5) ?_
  intro u9 l1
  refine ⟨_, Qa g, rfl, ?_⟩
  exact (ai (ai k7 (ai k8 (ai k9 (ai rfl (trivial))))) l1)
 ·refine oH 4 5 ?_
  rintro P W hs j ⟨⟨f0, f1, f2, f3, -⟩, l2⟩
  refine kN [(14, (sv s)), (17, (sv u)), (20, (sv v)), (23, (sv a1))] ⟨(Qr (h := 2) K).symm.trans f0, (Qr (h := 5) K).symm.trans f1, (Qr (h := 8) K).symm.trans f2, (Qr (h := 11) K).symm.trans f3, trivial⟩ fun g => ?_
  refine zN Qj 79 9 5 #[(0, (.const (.string ⟨List.toArray ([116, 105, 109, 101, 115] : Bs)⟩))), (1, (.tmp 14)), (2, (.tmp 17)), (3, (.tmp 20)), (4, (.tmp 23))] #[(sv ([116, 105, 109, 101, 115] : Bs)), (sv s), (sv u), (sv v), (sv a1)] ([([116, 105, 109, 101, 115] : Bs), s, u, v, a1] : List Bs) 24 l2 ?_
  intro l3 v0 l4
  refine ⟨_, Qa g, trivial, ?_⟩
  exact (ei l3 (ai (ai f0 (ai f1 (ai f2 (ai f3 (ai rfl (trivial)))))) l4))
 ·refine oH 5 6 ?_
  rintro P W hs j ⟨b7, ⟨l5, l6, l7, l8, f4, -⟩, f5⟩
  refine kN [(24, (lv (some ⟨b7, 0, none⟩) ([([116, 105, 109, 101, 115] : Bs), s, u, v, a1] : List Bs) (List.length ([([116, 105, 109, 101, 115] : Bs), s, u, v, a1] : List Bs))))] ⟨(Qr (h := 12) K).symm.trans f4, trivial⟩ fun g => ?_
  refine cS f5 63 #[(.tmp 24)] #[79] 25 Tryz.call63 (U5 (some ⟨b7, 0, none⟩) (List.length ([([116, 105, 109, 101, 115] : Bs), s, u, v, a1] : List Bs)) ([([116, 105, 109, 101, 115] : Bs), s, u, v, a1] : List Bs) W (Qz (SP.get f5 (i := 1) rfl)) c9 i6) ?_
  intro v1 l9
  refine ⟨_, Qa g, rfl, ?_⟩
  exact (ei b7 (ai (ai l5 (ai l6 (ai l7 (ai l8 (ai f4 (ai rfl (trivial))))))) l9))
 ·exact oU (hC (hA 13 25) (h0))
 rintro P v2 hs hf ⟨e3, ⟨v3, v4, v5, v6, v7, v8, -⟩, m0⟩
 refine Qy _ (kc (kT hs 1 (pt o 0)) (kc (kF hf 14 3) k0)) ?_
 refine aQ ?_
 refine aC ?_
 refine iR 1 1 [(4, (iv 0))] ?_
 refine iF ?_
 refine Z3 K (id := 0) K ?_
 refine Gm K (fun f9 ρ w => ∃ (b1 : Bs) (q : Int), Vq ρ [(1, (pt o 0)), (3, (sv b1)), (4, (iv q))] ∧ SP [] w0 w [Qs o 24 #[(iv a8), (iv a7), (iv a5), (iv a4), (lv A6 (mT d9) c7)]] ∧ Q1 (mT d9) f9 b1 q = some r) (by rintro ρ w ⟨b1, q, hk, hs, H⟩; cases H) ?_ Zj ?_
 ·rintro f9 ρ v9 ⟨b1, q, hk, b8, H⟩
  refine At.known _ hk ?_
  replace H := (show Xq (Q1 (mT d9) f9) (mT d9) b1 q = some r from H)
  unfold Xq at H
  refine aQ ?_
  refine aC ?_
  refine iR 2 2 [(26, (iv q)), (27, (pt o 4))] ?_
  refine jL 3 22 27 o 4 0 (lv A6 (mT d9) c7) 28 b8 rfl ?_
  refine iR 2 5 [(29, (iv (ln (mT d9)))), (30, (bv (decide (q < (ln (mT d9))))))] ?_
  refine iF ?_
  refine cD 30 H (fun H => ?_) fun H => ?_
  ·refine At.skip K ?_
   refine aQ ?_
   refine Z3 K (id := 1) K ?_
   refine aC ?_
   refine iR 1 1 [(33, (pt o 4))] ?_
   refine jL 2 22 33 o 4 0 (lv A6 (mT d9) c7) 34 b8 rfl ?_
   refine iR 1 3 [(35, (iv q))] ?_
   obtain ⟨f, f6, f7, d0, H⟩ := J9 H
   refine iS 4 ?_
   refine Xd stT (e := Vu) (l := d9) (A := A6) (c := c7) (T := 22) (E := 33) (x := (.tmp 34)) (ix := (.tmp 35)) (ki := .i64) (iz := q) (d := (some 36)) (k := 3) K rfl K K K K (RdT.sp (Zh b6) b8) f6 f7 ?_
   intro m1 m2 m3 w1 hc4215
   refine iS 5 ?_
   refine Qx.cells (t := 33) (x := (.tmp 36)) (b := m1) (off := (m2 + Int.toNat q * Vu.sz)) (xs := [(sv (stT f).1), (iv (stT f).2.1), (iv (stT f).2.2.1), (lv f.2.2.2.1.1 (stT f).2.2.2.1 f.2.2.2.1.2.1), (lv f.2.2.2.2.1 (stT f).2.2.2.2 f.2.2.2.2.2.1)]) (d := (some 37)) (k := 4) K rfl K K K (Vd (e := Vu) (Qh (RdT.sp (Zh b6) b8) m3 f6 f7) d0 rfl) ?_
   refine iS 6 ?_
   refine zA 33 (.agg #[(sv ([] : Bs)), (iv 0), (iv 0), (lv none ([] : List (Int × Int)) 0), (lv none ([] : List Tk) 0)]) 5 b8 ?_
   intro p w2 m4
   refine iS 7 ?_
   refine zT 33 (.tmp 5) (.tmp 37) p 0 1 (.agg #[(sv (stT f).1), (iv (stT f).2.1), (iv (stT f).2.2.1), (lv f.2.2.2.1.1 (stT f).2.2.2.1 f.2.2.2.1.2.1), (lv f.2.2.2.2.1 (stT f).2.2.2.2 f.2.2.2.2.2.1)]) #[(sv (stT f).1), (iv (stT f).2.1), (iv (stT f).2.2.1), (lv f.2.2.2.1.1 (stT f).2.2.2.1 f.2.2.2.1.2.1), (lv f.2.2.2.2.1 (stT f).2.2.2.2 f.2.2.2.2.2.1)] none m4 ?_
   intro w3 m5
   refine iF ?_
   refine aQ ?_
   obtain ⟨z, m6, H⟩ := Qd H
   obtain ⟨a2, m7, H⟩ := Qd H
   obtain ⟨b9, m8, H⟩ := Qd H
   obtain ⟨hl4248, H⟩ := Zx H
   obtain ⟨e4, hyl4247⟩ : ∃ y, b1 ++ b9 = y := ⟨_, rfl⟩
   rw [hyl4247] at H
   refine aG [GEq (sv b1), GEq (pt p 0), GEq (sv (stT f).1), GEq (pt p 1), GEq (iv (stT f).2.1), GEq (sv z), GEq (pt p 2), GEq (iv (stT f).2.2.1), GEq (sv a2), Ry, GEq (sv b9), GEq (sv e4), GEq (sv e4)] [5, 8, 9, 10] ((fun (X0 X1 : Ent) => [([], fun vs w => VL vs [] ∧ SP [] w0 w [X0, X1]), ([5], fun vs w => VL vs [(sv z)] ∧ SP [] w0 w [X0, X1]), ([5, 8], fun vs w => VL vs [(sv z), (sv a2)] ∧ SP [] w0 w [X0, X1]), ([5, 8, 9], fun vs w => ∃ (c0 : Nat), VL vs [(sv z), (sv a2), (lv (some ⟨c0, 0, none⟩) ([([116, 101, 110, 97, 110, 116] : Bs), (stT f).1, z, a2] : List Bs) (List.length ([([116, 101, 110, 97, 110, 116] : Bs), (stT f).1, z, a2] : List Bs)))] ∧ SP [] w0 w [X0, X1, Vh 9 Qj (some ⟨c0, 0, none⟩) (List.length ([([116, 101, 110, 97, 110, 116] : Bs), (stT f).1, z, a2] : List Bs)) ([([116, 101, 110, 97, 110, 116] : Bs), (stT f).1, z, a2] : List Bs)]), ([5, 8, 9, 10], fun vs w => ∃ (d4 : Nat), VL vs [(sv z), (sv a2), (lv (some ⟨d4, 0, none⟩) ([([116, 101, 110, 97, 110, 116] : Bs), (stT f).1, z, a2] : List Bs) (List.length ([([116, 101, 110, 97, 110, 116] : Bs), (stT f).1, z, a2] : List Bs))), (sv b9)] ∧ SP [] w0 w [X0, X1, Vh 9 Qj (some ⟨d4, 0, none⟩) (List.length ([([116, 101, 110, 97, 110, 116] : Bs), (stT f).1, z, a2] : List Bs)) ([([116, 101, 110, 97, 110, 116] : Bs), (stT f).1, z, a2] : List Bs)])]) (Qs o 24 #[(iv a8), (iv a7), (iv a5), (iv a4), (lv A6 (mT d9) c7)]) (Qs p 33 #[(sv (stT f).1), (iv (stT f).2.1), (iv (stT f).2.2.1), (lv f.2.2.2.1.1 (stT f).2.2.2.1 f.2.2.2.1.2.1), (lv f.2.2.2.2.1 (stT f).2.2.2.2 f.2.2.2.2.2.1)])) 13 4 ⟨trivial, SP.drew m5⟩ ?_ ?_
   iterate 13 refine And.intro ?_ ?_
   exact trivial
   ·exact oU (hC (hS 3 (sv b1)) (h0))
   ·exact oU (hC (hS 5 (pt p 0)) (h0))
   ·refine Owe.light K [0, 1, 2] K (Qc ?_ (Qc ?_ (Qc ?_ Qq)))
    ·rintro P W hs j ⟨-, m9⟩
     refine kM (kc (kA j 1 39) k0) fun g => ?_
     refine sL 9 39 p 0 1 (sv (stT f).1) 40 m9 rfl ?_
     exact eK g
    ·rintro P W hs j ⟨⟨w4, -⟩, n0⟩
     refine kM (kc (kA j 1 39) k0) fun g => ?_
     refine sL 9 39 p 0 1 (sv (stT f).1) 40 n0 rfl ?_
     exact eK g
    rintro P W hs j ⟨⟨w5, w6, -⟩, n1⟩
    refine kM (kc (kA j 1 39) k0) fun g => ?_
    refine sL 9 39 p 0 1 (sv (stT f).1) 40 n1 rfl ?_
    exact eK g
   ·exact oU (hC (hS 5 (pt p 0)) (h0))
   ·refine oL 0 ?_
    rintro P W hs j ⟨-, n2⟩
    refine kM (kc (kA j 3 41) k0) fun g => ?_
    refine sL 3 41 p 1 1 (iv (stT f).2.1) 42 n2 rfl ?_
    exact eK g
   ·refine oH 0 1 ?_
    rintro P W hs j ⟨-, n3⟩
    refine kM (kc (kA j 4 42) k0) fun g => ?_
    refine cS n3 64 #[(.tmp 42)] #[2] 43 Tryz.call64 (Xp  (stT f).2.1 W  z m6) ?_
    intro w7 n4
    refine ⟨_, Qa g, rfl, ?_⟩
    exact (ai (ai rfl (trivial)) n4)
   ·exact oU (hC (hS 5 (pt p 0)) (h0))
   ·refine Owe.light K [0, 1] K (Qc ?_ (Qc ?_ Qq))
    ·rintro P W hs j ⟨-, n5⟩
     refine kM (kc (kA j 6 44) k0) fun g => ?_
     refine sL 3 44 p 2 1 (iv (stT f).2.2.1) 45 n5 rfl ?_
     exact eK g
    rintro P W hs j ⟨⟨w8, -⟩, n6⟩
    refine kM (kc (kA j 6 44) k0) fun g => ?_
    refine sL 3 44 p 2 1 (iv (stT f).2.2.1) 45 n6 rfl ?_
    exact eK g
   ·refine oH 1 2 ?_
    rintro P W hs j ⟨⟨n7, -⟩, n8⟩
    refine kM (kc (kA j 7 45) k0) fun g => ?_
    refine cS n8 64 #[(.tmp 45)] #[2] 46 Tryz.call64 (Xp  (stT f).2.2.1 W  a2 m7) ?_
    intro w9 n9
    refine ⟨_, Qa g, rfl, ?_⟩
    exact (ai (ai n7 (ai rfl (trivial))) n9)
   ·refine oH 2 3 ?_
    rintro P W hs j ⟨⟨f8, g0, -⟩, o0⟩
    refine kN [(40, (sv (stT f).1)), (43, (sv z)), (46, (sv a2))] ⟨j 2 40 K, (Qr (h := 5) K).symm.trans f8, (Qr (h := 8) K).symm.trans g0, trivial⟩ fun g => ?_
    refine zN Qj 79 9 4 #[(0, (.const (.string ⟨List.toArray ([116, 101, 110, 97, 110, 116] : Bs)⟩))), (1, (.tmp 40)), (2, (.tmp 43)), (3, (.tmp 46))] #[(sv ([116, 101, 110, 97, 110, 116] : Bs)), (sv (stT f).1), (sv z), (sv a2)] ([([116, 101, 110, 97, 110, 116] : Bs), (stT f).1, z, a2] : List Bs) 47 o0 ?_
    intro o1 x0 o2
    refine ⟨_, Qa g, trivial, ?_⟩
    exact (ei o1 (ai (ai f8 (ai g0 (ai rfl (trivial)))) o2))
   ·refine oH 3 4 ?_
    rintro P W hs j ⟨c0, ⟨o3, o4, g1, -⟩, g2⟩
    refine kN [(47, (lv (some ⟨c0, 0, none⟩) ([([116, 101, 110, 97, 110, 116] : Bs), (stT f).1, z, a2] : List Bs) (List.length ([([116, 101, 110, 97, 110, 116] : Bs), (stT f).1, z, a2] : List Bs))))] ⟨(Qr (h := 9) K).symm.trans g1, trivial⟩ fun g => ?_
    refine cS g2 63 #[(.tmp 47)] #[79] 48 Tryz.call63 (U5 (some ⟨c0, 0, none⟩) (List.length ([([116, 101, 110, 97, 110, 116] : Bs), (stT f).1, z, a2] : List Bs)) ([([116, 101, 110, 97, 110, 116] : Bs), (stT f).1, z, a2] : List Bs) W (Qz (SP.get g2 (i := 2) rfl)) b9 m8) ?_
    intro x1 o5
    refine ⟨_, Qa g, rfl, ?_⟩
    exact (ei c0 (ai (ai o3 (ai o4 (ai g1 (ai rfl (trivial))))) o5))
   ·refine oL 4 ?_
    rintro P W hs j ⟨d4, ⟨x2, x3, x4, o6, -⟩, x5⟩
    refine kN [(38, (sv b1)), (48, (sv b9))] ⟨j 0 38 K, (Qr (h := 10) K).symm.trans o6, trivial⟩ fun g => ?_
    refine Yn (T := 9) (T' := 9) (x := (.tmp 38)) (y := (.tmp 48)) (a := b1) (b := b9) (d := (some 49)) (k := 11) K rfl K K hl4248 ?_
    rw [hyl4247]
    exact eK g
   ·exact oU (hC (hA 11 49) (h0))
   rintro P x6 hs hf ⟨d4, ⟨x7, x8, x9, y0, -⟩, o7⟩
   refine Qy _ (kc (kT hs 1 (pt o 0)) (kc (kF hf 12 3) (kc (kT hs 4 (iv q)) (kc (kT hs 5 (pt p 0)) k0)))) ?_
   refine aQ ?_
   refine aC ?_
   refine iR 1 1 [(6, (iv 0))] ?_
   refine iF ?_
   refine Z3 K (id := 2) K ?_
   refine Gm K (fun c1 ρ w => ∃ (b3 : Bs) (b0 : Int), Vq ρ [(1, (pt o 0)), (3, (sv b3)), (4, (iv q)), (5, (pt p 0)), (6, (iv b0))] ∧ SP [] w0 w [Qs o 24 #[(iv a8), (iv a7), (iv a5), (iv a4), (lv A6 (mT d9) c7)], Qs p 33 #[(sv (stT f).1), (iv (stT f).2.1), (iv (stT f).2.2.1), (lv f.2.2.2.1.1 (stT f).2.2.2.1 f.2.2.2.1.2.1), (lv f.2.2.2.2.1 (stT f).2.2.2.2 f.2.2.2.2.2.1)]] ∧ Vp (Q1 (mT d9) f9) q (stT f) c1 b3 b0 = some r) (by rintro ρ w ⟨b3, b0, hk, hs, H⟩; cases H) ?_ Zj ?_
   ·rintro c1 ρ o8 ⟨b3, b0, hk, c2, H⟩
    refine At.known _ hk ?_
    replace H := (show Xa (Q1 (mT d9) f9) (Vp (Q1 (mT d9) f9) q (stT f) c1) q (stT f) b3 b0 = some r from H)
    unfold Xa at H
    refine aQ ?_
    refine aC ?_
    refine iR 2 2 [(50, (iv b0)), (51, (pt p 3))] ?_
    refine jL 3 30 51 p 3 1 (lv f.2.2.2.1.1 (stT f).2.2.2.1 f.2.2.2.1.2.1) 52 c2 rfl ?_
    refine iR 2 5 [(53, (iv (ln (stT f).2.2.2.1))), (54, (bv (decide (b0 < (ln (stT f).2.2.2.1)))))] ?_
    refine iF ?_
    refine cD 54 H (fun H => ?_) fun H => ?_
    ·refine At.skip K ?_
     refine aQ ?_
     refine Z3 K (id := 3) K ?_
     refine aR ?_
     refine iR 2 2 [(57, (sv b3)), (58, (pt p 3))] ?_
     refine jL 3 30 58 p 3 1 (lv f.2.2.2.1.1 (stT f).2.2.2.1 f.2.2.2.1.2.1) 59 c2 rfl ?_
     refine iR 1 4 [(60, (iv b0))] ?_
     obtain ⟨d5, g3, g4, o9, H⟩ := Qu H
     refine jE 5 (Qf (Qv .u32) (Qv .i64)) ((stT f).2.2.2.1) f.2.2.2.1.1 f.2.2.2.1.2.1 30 102 (.tmp 59) (.tmp 60) b0 61 (RdT.sp (Zh (dp1 (dp2 (dp2 (dp2 (Gd b6 d0)))))) c2) g3 g4 ?_
     intro p0 p1 p2 y1 hc5587
     refine iS 6 ?_
     refine Qx.cells (t := 102) (x := (.tmp 61)) (b := p0) (off := (p1 + Int.toNat b0 * (Qf (Qv .u32) (Qv .i64)).sz)) (xs := [(.int .u32 d5.1), (iv d5.2)]) (d := (some 62)) (k := 5) K rfl K K K (Vd (e := (Qf (Qv .u32) (Qv .i64))) (Qh (RdT.sp (Zh (dp1 (dp2 (dp2 (dp2 (Gd b6 d0)))))) c2) p2 g3 g4) o9 rfl) ?_
     obtain ⟨d1, p3, H⟩ := Qd H
     refine iS 7 ?_
     refine cS c2 65 #[(.tmp 62)] #[102] 63 Tryz.call65 (Cu  d5.1 d5.2 o8  d1 p3) ?_
     intro y2 p4
     refine iS 8 ?_
     refine zN Qj 79 9 2 #[(0, (.const (.string ⟨List.toArray ([110, 101, 116] : Bs)⟩))), (1, (.tmp 63))] #[(sv ([110, 101, 116] : Bs)), (sv d1)] ([([110, 101, 116] : Bs), d1] : List Bs) 64 p4 ?_
     intro p5 p6 g5
     obtain ⟨e5, p7, H⟩ := Qd H
     refine iS 9 ?_
     refine cS g5 63 #[(.tmp 64)] #[79] 65 Tryz.call63 (U5 (some ⟨p5, 0, none⟩) (List.length ([([110, 101, 116] : Bs), d1] : List Bs)) ([([110, 101, 116] : Bs), d1] : List Bs) p6 (Qz (SP.get g5 (i := 2) rfl)) e5 p7) ?_
     intro y3 p8
     obtain ⟨hl5607, H⟩ := Zx H
     obtain ⟨g6, hyl5606⟩ : ∃ y, b3 ++ e5 = y := ⟨_, rfl⟩
     rw [hyl5606] at H
     refine iS 10 ?_
     refine Yn (T := 9) (T' := 9) (x := (.tmp 57)) (y := (.tmp 65)) (a := b3) (b := e5) (d := (some 66)) (k := 9) K rfl K K hl5607 ?_
     rw [hyl5606]
     refine iR 1 11 [(3, (sv g6))] ?_
     refine iF ?_
     refine aR ?_
     refine iR 3 3 [(55, (iv b0)), (56, (iv (IntKind.wrap .i64 (b0 + 1)))), (6, (iv (IntKind.wrap .i64 (b0 + 1))))] ?_
     refine iF ?_
     exact ⟨g6, (IntKind.wrap .i64 (b0 + 1)), ⟨K, K, K, K, K, trivial⟩, SP.sel p8 [0, 1] rfl rfl, H⟩
    refine At.exit K (id := 2) K ?_
    refine aC ?_
    refine iR 1 1 [(7, (iv 0))] ?_
    refine iF ?_
    refine Z3 K (id := 4) K ?_
    refine Gm K (fun e6 ρ w => ∃ (b2 : Bs) (a9 : Int), Vq ρ [(1, (pt o 0)), (3, (sv b2)), (4, (iv q)), (5, (pt p 0)), (7, (iv a9))] ∧ SP [] w0 w [Qs o 24 #[(iv a8), (iv a7), (iv a5), (iv a4), (lv A6 (mT d9) c7)], Qs p 33 #[(sv (stT f).1), (iv (stT f).2.1), (iv (stT f).2.2.1), (lv f.2.2.2.1.1 (stT f).2.2.2.1 f.2.2.2.1.2.1), (lv f.2.2.2.2.1 (stT f).2.2.2.2 f.2.2.2.2.2.1)]] ∧ Z9 (Q1 (mT d9) f9) (Vp (Q1 (mT d9) f9) q (stT f) c1) q (stT f) e6 b2 a9 = some r) (by rintro ρ w ⟨b2, a9, hk, hs, H⟩; cases H) ?_ Zj ?_
    ·rintro e6 ρ y4 ⟨b2, a9, hk, c3, H⟩
     refine At.known _ hk ?_
     replace H := (show Z8 (Q1 (mT d9) f9) (Vp (Q1 (mT d9) f9) q (stT f) c1) (Z9 (Q1 (mT d9) f9) (Vp (Q1 (mT d9) f9) q (stT f) c1) q (stT f) e6) q (stT f) b2 a9 = some r from H)
     unfold Z8 at H
     refine aQ ?_
     refine aC ?_
     refine iR 2 2 [(67, (iv a9)), (68, (pt p 4))] ?_
     refine jL 3 31 68 p 4 1 (lv f.2.2.2.2.1 (stT f).2.2.2.2 f.2.2.2.2.2.1) 69 c3 rfl ?_
     refine iR 2 5 [(70, (iv (ln (stT f).2.2.2.2))), (71, (bv (decide (a9 < (ln (stT f).2.2.2.2)))))] ?_
     refine iF ?_
     refine cD 71 H (fun H => ?_) fun H => ?_
     ·refine At.skip K ?_
      refine aQ ?_
      refine Z3 K (id := 5) K ?_
      refine aC ?_
      refine iR 1 1 [(74, (pt p 4))] ?_
      refine jL 2 31 74 p 4 1 (lv f.2.2.2.2.1 (stT f).2.2.2.2 f.2.2.2.2.2.1) 75 c3 rfl ?_
      refine iR 1 3 [(76, (iv a9))] ?_
      obtain ⟨m, g7, g8, p9, H⟩ := Qu H
      refine jE 4 (Qf Qj (Qf Qj (Qv .i64))) ((stT f).2.2.2.2) f.2.2.2.2.1 f.2.2.2.2.2.1 31 37 (.tmp 75) (.tmp 76) a9 77 (RdT.sp (Zh (dp2 (dp2 (dp2 (dp2 (Gd b6 d0)))))) c3) g7 g8 ?_
      intro q0 q1 q2 y5 hc6007
      refine iS 5 ?_
      refine Qx.cells (t := 37) (x := (.tmp 77)) (b := q0) (off := (q1 + Int.toNat a9 * (Qf Qj (Qf Qj (Qv .i64))).sz)) (xs := [(sv m.1), (sv m.2.1), (iv m.2.2)]) (d := (some 78)) (k := 4) K rfl K K K (Vd (e := (Qf Qj (Qf Qj (Qv .i64)))) (Qh (RdT.sp (Zh (dp2 (dp2 (dp2 (dp2 (Gd b6 d0)))))) c3) q2 g7 g8) p9 rfl) ?_
      refine iS 6 ?_
      refine zA 37 (.agg #[(sv ([] : Bs)), (sv ([] : Bs)), (iv 0)]) 8 c3 ?_
      intro a6 y6 q3
      refine iS 7 ?_
      refine zT 37 (.tmp 8) (.tmp 78) a6 0 2 (.agg #[(sv m.1), (sv m.2.1), (iv m.2.2)]) #[(sv m.1), (sv m.2.1), (iv m.2.2)] none q3 ?_
      intro y7 q4
      refine iF ?_
      obtain ⟨q5, H⟩ := Dh H
      obtain ⟨a0, q6, H⟩ := Qd H
      obtain ⟨a3, q7, H⟩ := Qd H
      obtain ⟨c4, q8, H⟩ := Qd H
      obtain ⟨hl6046, H⟩ := Zx H
      obtain ⟨e7, hyl6045⟩ : ∃ y, b2 ++ c4 = y := ⟨_, rfl⟩
      rw [hyl6045] at H
      refine aG [GEq (sv b2), GEq (pt a6 0), GEq (sv m.1), GEq (pt a6 1), GEq (sv m.2.1), Ry, GEq (sv a0), GEq (pt a6 2), GEq (iv m.2.2), GEq (sv a3), Ry, GEq (sv c4), GEq (sv e7), GEq (sv e7)] [5, 6, 9, 10, 11] ((fun (X0 X1 X2 : Ent) => [([], fun vs w => VL vs [] ∧ SP [] w0 w [X0, X1, X2]), ([5], fun vs w => ∃ (b4 : Nat), ∃ (b5 : Nat), VL vs [(lv (some ⟨b4, 0, none⟩) m.2.1 b5)] ∧ SP [] w0 w [X0, X1, X2, rdE eU8 (some ⟨b4, 0, none⟩) b5 m.2.1]), ([5, 6], fun vs w => ∃ (c5 : Nat), ∃ (c6 : Nat), VL vs [(lv (some ⟨c5, 0, none⟩) m.2.1 c6), (sv a0)] ∧ SP [] w0 w [X0, X1, X2, rdE eU8 (some ⟨c5, 0, none⟩) c6 m.2.1]), ([5, 6, 9], fun vs w => ∃ (d2 : Nat), ∃ (d3 : Nat), VL vs [(lv (some ⟨d2, 0, none⟩) m.2.1 d3), (sv a0), (sv a3)] ∧ SP [] w0 w [X0, X1, X2, rdE eU8 (some ⟨d2, 0, none⟩) d3 m.2.1]), ([5, 6, 9, 10], fun vs w => ∃ (d6 : Nat), ∃ (d7 : Nat), ∃ (c8 : Nat), VL vs [(lv (some ⟨d6, 0, none⟩) m.2.1 d7), (sv a0), (sv a3), (lv (some ⟨c8, 0, none⟩) ([([116, 111, 107, 101, 110] : Bs), m.1, a0, a3] : List Bs) (List.length ([([116, 111, 107, 101, 110] : Bs), m.1, a0, a3] : List Bs)))] ∧ SP [] w0 w [X0, X1, X2, rdE eU8 (some ⟨d6, 0, none⟩) d7 m.2.1, Vh 9 Qj (some ⟨c8, 0, none⟩) (List.length ([([116, 111, 107, 101, 110] : Bs), m.1, a0, a3] : List Bs)) ([([116, 111, 107, 101, 110] : Bs), m.1, a0, a3] : List Bs)]), ([5, 6, 9, 10, 11], fun vs w => ∃ (d8 : Nat), ∃ (e0 : Nat), ∃ (e1 : Nat), VL vs [(lv (some ⟨d8, 0, none⟩) m.2.1 e0), (sv a0), (sv a3), (lv (some ⟨e1, 0, none⟩) ([([116, 111, 107, 101, 110] : Bs), m.1, a0, a3] : List Bs) (List.length ([([116, 111, 107, 101, 110] : Bs), m.1, a0, a3] : List Bs))), (sv c4)] ∧ SP [] w0 w [X0, X1, X2, rdE eU8 (some ⟨d8, 0, none⟩) e0 m.2.1, Vh 9 Qj (some ⟨e1, 0, none⟩) (List.length ([([116, 111, 107, 101, 110] : Bs), m.1, a0, a3] : List Bs)) ([([116, 111, 107, 101, 110] : Bs), m.1, a0, a3] : List Bs)])]) (Qs o 24 #[(iv a8), (iv a7), (iv a5), (iv a4), (lv A6 (mT d9) c7)]) (Qs p 33 #[(sv (stT f).1), (iv (stT f).2.1), (iv (stT f).2.2.1), (lv f.2.2.2.1.1 (stT f).2.2.2.1 f.2.2.2.1.2.1), (lv f.2.2.2.2.1 (stT f).2.2.2.2 f.2.2.2.2.2.1)]) (Qs a6 37 #[(sv m.1), (sv m.2.1), (iv m.2.2)])) 14 5 ⟨trivial, SP.drew q4⟩ ?_ ?_
      iterate 14 refine And.intro ?_ ?_
      exact trivial
      ·exact oU (hC (hS 3 (sv b2)) (h0))
      ·exact oU (hC (hS 8 (pt a6 0)) (h0))
      ·refine Owe.light K [0, 1, 2, 3] K (Qc ?_ (Qc ?_ (Qc ?_ (Qc ?_ Qq))))
       ·rintro P W hs j ⟨-, q9⟩
        refine kM (kc (kA j 1 80) k0) fun g => ?_
        refine sL 9 80 a6 0 2 (sv m.1) 81 q9 rfl ?_
        exact eK g
       ·rintro P W hs j ⟨b4, b5, ⟨y8, -⟩, r0⟩
        refine kM (kc (kA j 1 80) k0) fun g => ?_
        refine sL 9 80 a6 0 2 (sv m.1) 81 r0 rfl ?_
        exact eK g
       ·rintro P W hs j ⟨c5, c6, ⟨y9, z0, -⟩, r1⟩
        refine kM (kc (kA j 1 80) k0) fun g => ?_
        refine sL 9 80 a6 0 2 (sv m.1) 81 r1 rfl ?_
        exact eK g
       rintro P W hs j ⟨d2, d3, ⟨z1, z2, z3, -⟩, r2⟩
       refine kM (kc (kA j 1 80) k0) fun g => ?_
       refine sL 9 80 a6 0 2 (sv m.1) 81 r2 rfl ?_
       exact eK g
      ·exact oU (hC (hS 8 (pt a6 0)) (h0))
      ·refine oL 0 ?_
       rintro P W hs j ⟨-, r3⟩
       refine kM (kc (kA j 3 82) k0) fun g => ?_
       refine sL 9 82 a6 1 2 (sv m.2.1) 83 r3 rfl ?_
       exact eK g
      ·refine oH 0 1 ?_
       rintro P W hs j ⟨-, r4⟩
       refine kM (kc (kA j 4 83) k0) fun g => ?_
       refine Fa (S' := 9) (T := 48) (E := 5) (x := (.tmp 83)) (l := m.2.1) (d := (some 84)) (k := 5) K rfl K K K K (Fc q5) r4 ?_
       intro g9 h1 r5 h2 _
       have r6 : SP [] w0 r5 [Qs o 24 #[(iv a8), (iv a7), (iv a5), (iv a4), (lv A6 (mT d9) c7)], Qs p 33 #[(sv (stT f).1), (iv (stT f).2.1), (iv (stT f).2.2.1), (lv f.2.2.2.1.1 (stT f).2.2.2.1 f.2.2.2.1.2.1), (lv f.2.2.2.2.1 (stT f).2.2.2.2 f.2.2.2.2.2.1)], Qs a6 37 #[(sv m.1), (sv m.2.1), (iv m.2.2)], rdE eU8 (some ⟨g9, 0, none⟩) h1 m.2.1] := h2
       clear h2
       refine ⟨_, Qa g, trivial, ?_⟩
       exact (ei g9 (ei h1 (ai (ai rfl (trivial)) r6)))
      ·refine oH 1 2 ?_
       rintro P W hs j ⟨b4, b5, ⟨h3, -⟩, h4⟩
       refine kN [(84, (lv (some ⟨b4, 0, none⟩) m.2.1 b5))] ⟨(Qr (h := 5) K).symm.trans h3, trivial⟩ fun g => ?_
       refine cS h4 66 #[(.tmp 84)] #[48] 85 Tryz.call66 (E7 (some ⟨b4, 0, none⟩) b5 m.2.1 W (So (SP.get h4 (i := 3) rfl)) a0 q6) ?_
       intro z4 r7
       refine ⟨_, Qa g, rfl, ?_⟩
       exact (ei b4 (ei b5 (ai (ai h3 (ai rfl (trivial))) r7)))
      ·exact oU (hC (hS 8 (pt a6 0)) (h0))
      ·refine Owe.light K [0, 1, 2] K (Qc ?_ (Qc ?_ (Qc ?_ Qq)))
       ·rintro P W hs j ⟨-, r8⟩
        refine kM (kc (kA j 7 86) k0) fun g => ?_
        refine sL 2 86 a6 2 2 (iv m.2.2) 87 r8 rfl ?_
        exact eK g
       ·rintro P W hs j ⟨b4, b5, ⟨z5, -⟩, r9⟩
        refine kM (kc (kA j 7 86) k0) fun g => ?_
        refine sL 2 86 a6 2 2 (iv m.2.2) 87 r9 rfl ?_
        exact eK g
       rintro P W hs j ⟨c5, c6, ⟨z6, z7, -⟩, s0⟩
       refine kM (kc (kA j 7 86) k0) fun g => ?_
       refine sL 2 86 a6 2 2 (iv m.2.2) 87 s0 rfl ?_
       exact eK g
      ·refine oH 2 3 ?_
       rintro P W hs j ⟨c5, c6, ⟨s1, s2, -⟩, s3⟩
       refine kM (kc (kA j 8 87) k0) fun g => ?_
       refine cS s3 64 #[(.tmp 87)] #[2] 88 Tryz.call64 (Xp  m.2.2 W  a3 q7) ?_
       intro z8 s4
       refine ⟨_, Qa g, rfl, ?_⟩
       exact (ei c5 (ei c6 (ai (ai s1 (ai s2 (ai rfl (trivial)))) s4)))
      ·refine oH 3 4 ?_
       rintro P W hs j ⟨d2, d3, ⟨s5, h5, h6, -⟩, s6⟩
       refine kN [(81, (sv m.1)), (85, (sv a0)), (88, (sv a3))] ⟨j 2 81 K, (Qr (h := 6) K).symm.trans h5, (Qr (h := 9) K).symm.trans h6, trivial⟩ fun g => ?_
       refine zN Qj 79 9 4 #[(0, (.const (.string ⟨List.toArray ([116, 111, 107, 101, 110] : Bs)⟩))), (1, (.tmp 81)), (2, (.tmp 85)), (3, (.tmp 88))] #[(sv ([116, 111, 107, 101, 110] : Bs)), (sv m.1), (sv a0), (sv a3)] ([([116, 111, 107, 101, 110] : Bs), m.1, a0, a3] : List Bs) 89 s6 ?_
       intro s7 z9 s8
       refine ⟨_, Qa g, trivial, ?_⟩
       exact (ei d2 (ei d3 (ei s7 (ai (ai s5 (ai h5 (ai h6 (ai rfl (trivial))))) s8))))
      ·refine oH 4 5 ?_
       rintro P W hs j ⟨d6, d7, c8, ⟨s9, t0, t1, h7, -⟩, h8⟩
       refine kN [(89, (lv (some ⟨c8, 0, none⟩) ([([116, 111, 107, 101, 110] : Bs), m.1, a0, a3] : List Bs) (List.length ([([116, 111, 107, 101, 110] : Bs), m.1, a0, a3] : List Bs))))] ⟨(Qr (h := 10) K).symm.trans h7, trivial⟩ fun g => ?_
       refine cS h8 63 #[(.tmp 89)] #[79] 90 Tryz.call63 (U5 (some ⟨c8, 0, none⟩) (List.length ([([116, 111, 107, 101, 110] : Bs), m.1, a0, a3] : List Bs)) ([([116, 111, 107, 101, 110] : Bs), m.1, a0, a3] : List Bs) W (Qz (SP.get h8 (i := 4) rfl)) c4 q8) ?_
       intro aa0 t2
       refine ⟨_, Qa g, rfl, ?_⟩
       exact (ei d6 (ei d7 (ei c8 (ai (ai s9 (ai t0 (ai t1 (ai h7 (ai rfl (trivial)))))) t2))))
      ·refine oL 5 ?_
       rintro P W hs j ⟨d8, e0, e1, ⟨aa1, aa2, aa3, aa4, t3, -⟩, aa5⟩
       refine kN [(79, (sv b2)), (90, (sv c4))] ⟨j 0 79 K, (Qr (h := 11) K).symm.trans t3, trivial⟩ fun g => ?_
       refine Yn (T := 9) (T' := 9) (x := (.tmp 79)) (y := (.tmp 90)) (a := b2) (b := c4) (d := (some 91)) (k := 12) K rfl K K hl6046 ?_
       rw [hyl6045]
       exact eK g
      ·exact oU (hC (hA 12 91) (h0))
      rintro P aa6 hs hf ⟨d8, e0, e1, ⟨aa7, aa8, aa9, ab0, ab1, -⟩, t4⟩
      refine Qy _ (kc (kT hs 1 (pt o 0)) (kc (kF hf 13 3) (kc (kT hs 4 (iv q)) (kc (kT hs 5 (pt p 0)) (kc (kT hs 7 (iv a9)) k0))))) ?_
      refine aR ?_
      refine iR 3 3 [(72, (iv a9)), (73, (iv (IntKind.wrap .i64 (a9 + 1)))), (7, (iv (IntKind.wrap .i64 (a9 + 1))))] ?_
      refine iF ?_
      exact ⟨e7, (IntKind.wrap .i64 (a9 + 1)), ⟨K, K, K, K, K, trivial⟩, SP.sel t4 [0, 1] rfl rfl, H⟩
     refine At.exit K (id := 4) K ?_
     refine aR ?_
     refine iR 3 3 [(31, (iv q)), (32, (iv (IntKind.wrap .i64 (q + 1)))), (4, (iv (IntKind.wrap .i64 (q + 1))))] ?_
     refine iF ?_
     exact ⟨b2, (IntKind.wrap .i64 (q + 1)), ⟨K, K, K, trivial⟩, SP.sel c3 [0] rfl rfl, H⟩
    exact ⟨b3, 0, ⟨K, K, K, K, K, trivial⟩, SP.sel c2 [0, 1] rfl rfl, H⟩
   exact ⟨e4, 0, ⟨K, K, K, K, K, trivial⟩, SP.sel o7 [0, 1] rfl rfl, H⟩
  refine At.exit K (id := 0) K ?_
  refine aC ?_
  refine iR 2 2 [(92, (sv b1)), (2, (sv b1))] ?_
  refine iF ?_
  refine At.ret K ?_
  refine ⟨(sv b1), K, ?_⟩
  obtain rfl := Qe H
  exact ⟨rfl, SP.sel b8 [] rfl rfl⟩
 exact ⟨c9, 0, ⟨K, K, K, trivial⟩, SP.sel m0 [0] rfl rfl, H⟩
def Xr (a : (List (List UInt8)) → Int → Int → Option ((List (List UInt8)))) (b : Int) (c : (List (List UInt8))) (d : Int) : Option ((List (List UInt8))) :=
  (a c d (IntKind.wrap .i64 (b + 1)))
def Xs (b : (List (List UInt8)) → Int → Int → Option ((List (List UInt8)))) (p1 : (List UInt8)) (c : (List (List UInt8))) (d : Int) (a : Int) (e : Bool) : Option ((List (List UInt8))) :=
  (cond e ((sub p1 d a).bind fun f => ((app c ([f] : List (List UInt8))).bind fun g => (Xr b a g (IntKind.wrap .i64 (a + 1))))) (Xr b a c d))
def Xt (c : (List (List UInt8)) → Int → Int → Option ((List (List UInt8)))) (p1 : (List UInt8)) (b : (List (List UInt8))) (d : Int) (a : Int) : Option ((List (List UInt8))) :=
  (cond (decide (a ≤ ((List.length p1 : Nat) : Int))) (cond (a == ((List.length p1 : Nat) : Int)) (Xs c p1 b d a true) ((idx p1 a).bind fun e => (Xs c p1 b d a (((e).toNat : Int) == 32)))) (some (b)))
def Zg (p1 : (List UInt8)) : Nat → (List (List UInt8)) → Int → Int → Option ((List (List UInt8)))
  | 0, _, _, _ => none
  | f + 1, a, b, c => Xt  (Zg p1 f) p1 a b c
def Gt (p1 : (List UInt8)) : Option ((List (List UInt8))) :=
  (Zg p1 Zj ([] : List (List UInt8)) 0 0)
set_option maxHeartbeats 40000000 in
theorem Dd  (p1 : Bs) (w0 : World)  (r : ((List Bs))) (H : Gt p1 = some r) :
  Calls Tryz.prog 43 #[(sv p1)] w0 (fun e W => ∃ (A2 : Option Addr) (c3 : Nat), e = .returned (lv A2 r c3) ∧ SP [] w0 W [Vh 9 Qj A2 c3 r]) := by
 unfold Gt at H
 refine Qt (n := 32) Tryz.func43 K K K ?_
 have a9 := Qw [] w0
 refine aC ?_
 refine iR 1 1 [(2, (lv none ([] : List Bs) 0))] ?_
 refine iF ?_
 refine aC ?_
 refine iR 1 1 [(3, (lv none ([] : List Bs) 0))] ?_
 refine iF ?_
 refine aC ?_
 refine iR 1 1 [(4, (iv 0))] ?_
 refine iF ?_
 refine aQ ?_
 refine aC ?_
 refine iR 1 1 [(5, (iv 0))] ?_
 refine iF ?_
 refine Z3 K (id := 0) K ?_
 refine Gm K (fun f5 ρ w => ∃ (g : (List Bs)) (p : Int) (f : Int) (h : Option Addr) (o : Nat), Vq ρ [(0, (sv p1)), (3, (lv h g o)), (4, (iv p)), (5, (iv f))] ∧ SP [] w0 w [Vh 9 Qj h o g] ∧ Zg p1 f5 g p f = some r) (by rintro ρ w ⟨g, p, f, h, o, hk, hs, H⟩; cases H) ?_ Zj ?_
 ·rintro f5 ρ b8 ⟨g, p, f, h, o, hk, a2, H⟩
  refine At.known _ hk ?_
  replace H := (show Xt (Zg p1 f5) p1 g p f = some r from H)
  unfold Xt at H
  refine aQ ?_
  refine aC ?_
  refine iR 4 4 [(6, (iv f)), (7, (sv p1)), (8, (iv (ln p1))), (9, (bv (decide (f ≤ (ln p1)))))] ?_
  refine iF ?_
  refine cD 9 H (fun H => ?_) fun H => ?_
  ·refine At.skip K ?_
   refine aQ ?_
   refine Z3 K (id := 1) K ?_
   refine aQ ?_
   refine At.join (fun ρ w => ∃ (a3 : Bool), Vq ρ [(0, (sv p1)), (3, (lv h g o)), (4, (iv p)), (5, (iv f)), (21, (bv a3))] ∧ SP [] w0 w [Vh 9 Qj h o g] ∧ Xs (Zg p1 f5) p1 g p f a3 = some r) ?_ ?_
   ·refine aR ?_
    refine iR 5 5 [(12, (iv f)), (13, (sv p1)), (14, (iv (ln p1))), (15, (bv (f == (ln p1)))), (16, (bv (f == (ln p1))))] ?_
    refine gD 16 H (fun H => ?_) fun H => ?_
    ·refine iR 5 10 (uN 17 4 [(21, (bv true))]) ?_
     refine iF ?_
     exact ⟨true, ⟨K, K, K, K, K, trivial⟩, SP.sel a2 [0] rfl rfl, H⟩
    refine iR 2 7 [(17, (sv p1)), (18, (iv f))] ?_
    obtain ⟨v, b0, b9, b1, H⟩ := Qu H
    refine iS 8 ?_
    refine Xg (a := p1) (u := v) (T := 9) (x := (.tmp 17)) (ix := (.tmp 18)) (ki := .i64) (iz := f) (d := (some 19)) (k := 7) K rfl K K K b0 b1 ?_
    refine iR 2 10 [(20, (bv (((v).toNat : Int) == 32))), (21, (bv (((v).toNat : Int) == 32)))] ?_
    refine iF ?_
    exact ⟨(((v).toNat : Int) == 32), ⟨K, K, K, K, K, trivial⟩, SP.sel a2 [0] rfl rfl, H⟩
   rintro ρ c0 ⟨a3, hk, a4, H⟩
   unfold Xs at H
   first | refine At.known _ hk ?_ | rw [← Qo hk]
   refine At.join (fun ρ w => ∃ (t : (List Bs)) (z : Int) (a0 : Option Addr) (a1 : Nat), Vq ρ [(0, (sv p1)), (3, (lv a0 t a1)), (4, (iv z)), (5, (iv f))] ∧ SP [] w0 w [Vh 9 Qj a0 a1 t] ∧ Xr (Zg p1 f5) f t z = some r) ?_ ?_
   ·refine cD 21 H (fun H => ?_) fun H => ?_
    ·refine aC ?_
     refine iR 4 4 [(22, (lv h g o)), (23, (sv p1)), (24, (iv p)), (25, (iv f))] ?_
     obtain ⟨b2, b3, b4, H⟩ := G9 H
     obtain ⟨q, hyl155⟩ : ∃ y, (List.drop (Int.toNat p) (List.take (Int.toNat f) p1)) = y := ⟨_, rfl⟩
     rw [hyl155] at H
     refine iS 5 ?_
     refine Jp (a := p1) (T := 9) (x := (.tmp 23)) (lo := (some (.tmp 24))) (hi := (some (.tmp 25))) (i := p) (j := f) (d := (some 26)) (k := 4) K rfl K K ⟨.i64, K⟩ ⟨.i64, K⟩ b2 b3 b4 ?_
     rw [hyl155]
     refine iS 6 ?_
     refine zN Qj 79 9 1 #[(0, (.tmp 26))] #[(sv q)] ([q] : List Bs) 27 a4 ?_
     intro b5 c1 a5
     obtain ⟨hl160, H⟩ := Zx H
     obtain ⟨a6, hyl161⟩ : ∃ y, g ++ ([q] : List Bs) = y := ⟨_, rfl⟩
     try rw [hyl161] at H
     refine iS 7 ?_
     refine Qx.append (e := Qj) (l := g) (m := ([q] : List Bs)) (A := h) (c := o) (T := 79) (TX := 79) (E := 9) (b := 16) (s := (.tmp 22)) (x := (.tmp 27)) (i := 0) (vx := (lv (some ⟨b5, 0, none⟩) ([q] : List Bs) (List.length ([q] : List Bs)))) (d := (some 28)) (k := 6) K rfl K K K K rfl a5 rfl (Rj (E := 9) K (Qz (SP.get a5 (i := 1) rfl))) hl160 ?_
     rw [hyl161]
     intro a7 a8 c2 b6
     refine iR 1 8 [(3, (lv a7 a6 a8))] ?_
     refine iF ?_
     refine aR ?_
     refine iR 3 3 [(29, (iv f)), (30, (iv (IntKind.wrap .i64 (f + 1)))), (4, (iv (IntKind.wrap .i64 (f + 1))))] ?_
     refine iF ?_
     exact ⟨a6, (IntKind.wrap .i64 (f + 1)), a7, a8, ⟨K, K, K, K, trivial⟩, SP.sel b6 [0] rfl rfl, H⟩
    refine At.skip K ?_
    exact ⟨g, p, h, o, ⟨K, K, K, K, trivial⟩, SP.sel a4 [0] rfl rfl, H⟩
   rintro ρ c4 ⟨t, z, a0, a1, hk, b7, H⟩
   unfold Xr at H
   first | refine At.known _ hk ?_ | rw [← Qo hk]
   refine aR ?_
   refine iR 3 3 [(10, (iv f)), (11, (iv (IntKind.wrap .i64 (f + 1)))), (5, (iv (IntKind.wrap .i64 (f + 1))))] ?_
   refine iF ?_
   exact ⟨t, z, (IntKind.wrap .i64 (f + 1)), a0, a1, ⟨K, K, K, K, trivial⟩, SP.sel b7 [0] rfl rfl, H⟩
  refine At.exit K (id := 0) K ?_
  refine aC ?_
  refine iR 2 2 [(31, (lv h g o)), (2, (lv h g o))] ?_
  refine iF ?_
  refine At.ret K ?_
  refine ⟨(lv h g o), K, ?_⟩
  obtain rfl := Qe H
  exact ⟨h, o, rfl, SP.sel a2 [0] rfl rfl⟩
 exact ⟨([] : List Bs), 0, 0, none, 0, ⟨K, K, K, K, trivial⟩, SP.sel (Nu a9 9 Qj) [0] rfl rfl, H⟩
def Zz (d : (List Int) → Int → Option ((List Int) × Bool)) (p1 : (List (List UInt8))) (b : (List Int)) (a : Int) : Option ((List Int) × Bool) :=
  (cond (decide (a < ((List.length p1 : Nat) : Int))) ((idx p1 a).bind fun e => ((Y7 e).bind fun c => (cond (!c.2) (some (([] : List Int), false)) ((app b ([c.1] : List Int)).bind fun f => (d f (IntKind.wrap .i64 (a + 1))))))) (some (b, true)))
def Z0 (p1 : (List (List UInt8))) : Nat → (List Int) → Int → Option ((List Int) × Bool)
  | 0, _, _ => none
  | f + 1, a, b => Zz  (Z0 p1 f) p1 a b
def Jk (p1 : (List (List UInt8))) : Option ((List Int) × Bool) :=
  (Z0 p1 Zj ([] : List Int) 0)
set_option maxHeartbeats 40000000 in
theorem Rv (A2 : Option Addr) (c3 : Nat) (p1 : (List Bs)) (w0 : World) (q : RdT Qj w0 A2 c3 p1) (r : ((List Int) × Bool)) (H : Jk p1 = some r) :
  Calls Tryz.prog 92 #[(lv A2 p1 c3)] w0 (fun e W => ∃ (A5 : Option Addr) (c6 : Nat), e = .returned (.tuple #[(lv A5 r.1 c6), (bv r.2)]) ∧ SP [] w0 W [Vh 2 (Qv .i64) A5 c6 r.1]) := by
 unfold Jk at H
 refine Qt (n := 29) Tryz.func92 K K K ?_
 have a4 := Qw [] w0
 refine aC ?_
 refine iR 2 2 [(2, (lv none ([] : List Int) 0)), (3, (bv false))] ?_
 refine iF ?_
 refine aC ?_
 refine iR 1 1 [(4, (lv none ([] : List Int) 0))] ?_
 refine iF ?_
 refine aQ ?_
 refine aC ?_
 refine iR 1 1 [(5, (iv 0))] ?_
 refine iF ?_
 refine Z3 K (id := 0) K ?_
 refine Gm K (fun f1 ρ w => ∃ (g : (List Int)) (f : Int) (h : Option Addr) (o : Nat), Vq ρ [(0, (lv A2 p1 c3)), (4, (lv h g o)), (5, (iv f))] ∧ SP [] w0 w [Vh 2 (Qv .i64) h o g] ∧ Z0 p1 f1 g f = some r) (by rintro ρ w ⟨g, f, h, o, hk, hs, H⟩; cases H) ?_ Zj ?_
 ·rintro f1 ρ a5 ⟨g, f, h, o, hk, p, H⟩
  refine At.known _ hk ?_
  replace H := (show Zz (Z0 p1 f1) p1 g f = some r from H)
  unfold Zz at H
  refine aQ ?_
  refine aC ?_
  refine iR 4 4 [(8, (iv f)), (9, (lv A2 p1 c3)), (10, (iv (ln p1))), (11, (bv (decide (f < (ln p1)))))] ?_
  refine iF ?_
  refine cD 11 H (fun H => ?_) fun H => ?_
  ·refine At.skip K ?_
   refine aQ ?_
   refine Z3 K (id := 1) K ?_
   refine aC ?_
   refine iR 2 2 [(15, (lv A2 p1 c3)), (16, (iv f))] ?_
   obtain ⟨t, u, v, a6, H⟩ := Qu H
   refine jE 3 Qj p1 A2 c3 79 9 (.tmp 15) (.tmp 16) f 17 (RdT.sp q p) u v ?_
   intro a7 a8 a9 b5 hc84
   refine jX 4 9 17 a7 (a8 + Int.toNat f * Qj.sz) (sv t) 18 (Ql (e := Qj) (Qh (RdT.sp q p) a9 u v) a6 (j := 0) rfl) ?_
   obtain ⟨a, b0, H⟩ := Qd H
   refine iS 5 ?_
   refine cS p 71 #[(.tmp 18)] #[9] 19 Tryz.call71 (Up  t a5  a b0) ?_
   intro b1 z
   refine iR 5 10 [(14, (.tuple #[(iv a.1), (bv a.2)])), (20, (iv a.1)), (21, (bv a.2)), (6, (iv a.1)), (7, (bv a.2))] ?_
   refine iF ?_
   refine aQ ?_
   refine aC ?_
   refine iR 2 2 [(22, (bv a.2)), (23, (bv (!a.2)))] ?_
   refine iF ?_
   refine cD 23 H (fun H => ?_) fun H => ?_
   ·refine aC ?_
    refine iR 2 2 [(2, (lv none ([] : List Int) 0)), (3, (bv false))] ?_
    refine iF ?_
    refine At.ret K ?_
    have b2 : SP [] w0 b1 [Vh 2 (Qv .i64) h o g, Vh 2 (Qv .i64) none 0 ([] : List Int)] := Nu z 2 (Qv .i64)
    refine ⟨(.tuple #[(lv none ([] : List Int) 0), (bv false)]), K, ?_⟩
    obtain rfl := Qe H
    exact ⟨none, 0, rfl, SP.sel b2 [1] rfl rfl⟩
   refine At.skip K ?_
   refine aR ?_
   refine iR 2 2 [(24, (lv h g o)), (25, (iv a.1))] ?_
   refine iS 3 ?_
   refine zN (Qv .i64) 85 2 1 #[(0, (.tmp 25))] #[(iv a.1)] ([a.1] : List Int) 26 z ?_
   intro b3 b6 a0
   obtain ⟨hl100, H⟩ := Zx H
   obtain ⟨a1, hyl101⟩ : ∃ y, g ++ ([a.1] : List Int) = y := ⟨_, rfl⟩
   try rw [hyl101] at H
   refine iS 4 ?_
   refine Qx.append (e := (Qv .i64)) (l := g) (m := ([a.1] : List Int)) (A := h) (c := o) (T := 85) (TX := 85) (E := 2) (b := 8) (s := (.tmp 24)) (x := (.tmp 26)) (i := 0) (vx := (lv (some ⟨b3, 0, none⟩) ([a.1] : List Int) (List.length ([a.1] : List Int)))) (d := (some 27)) (k := 3) K rfl K K K K rfl a0 rfl (Rj (E := 2) K (Qz (SP.get a0 (i := 1) rfl))) hl100 ?_
   rw [hyl101]
   intro a2 a3 b7 b4
   refine iR 1 5 [(4, (lv a2 a1 a3))] ?_
   refine iF ?_
   refine aR ?_
   refine iR 3 3 [(12, (iv f)), (13, (iv (IntKind.wrap .i64 (f + 1)))), (5, (iv (IntKind.wrap .i64 (f + 1))))] ?_
   refine iF ?_
   exact ⟨a1, (IntKind.wrap .i64 (f + 1)), a2, a3, ⟨K, K, K, trivial⟩, SP.sel b4 [0] rfl rfl, H⟩
  refine At.exit K (id := 0) K ?_
  refine aC ?_
  refine iR 3 3 [(28, (lv h g o)), (2, (lv h g o)), (3, (bv true))] ?_
  refine iF ?_
  refine At.ret K ?_
  refine ⟨(.tuple #[(lv h g o), (bv true)]), K, ?_⟩
  obtain rfl := Qe H
  exact ⟨h, o, rfl, SP.sel p [0] rfl rfl⟩
 exact ⟨([] : List Int), 0, none, 0, ⟨K, K, K, trivial⟩, SP.sel (Nu a4 2 (Qv .i64)) [0] rfl rfl, H⟩
def Zc (g : Int → Option (Bool)) (e : Int → Option (Bool)) (d : (List ((List UInt8) × (List UInt8) × Int))) (f : (List ((List UInt8) × (List UInt8) × Int))) (a : Int) : Option (Bool) :=
  (cond (decide (a < ((List.length d : Nat) : Int))) ((idx d a).bind fun b => ((idx f a).bind fun c => (cond (!((b.1 == c.1) && ((b.2.1 == c.2.1) && (b.2.2 == c.2.2)))) (some (false)) (e (IntKind.wrap .i64 (a + 1)))))) (some (true)))
def Zd (a : Int → Option (Bool)) (b : (List ((List UInt8) × (List UInt8) × Int))) (c : (List ((List UInt8) × (List UInt8) × Int))) : Nat → Int → Option (Bool)
  | 0, _ => none
  | f + 1, d => Zc a (Zd a b c f) b c d
def Ze (b : Int → Option (Bool)) (c : (List (Int × Int))) (f : (List ((List UInt8) × (List UInt8) × Int))) (g : (List (Int × Int))) (h : (List ((List UInt8) × (List UInt8) × Int))) (a : Int) : Option (Bool) :=
  (cond (decide (a < ((List.length c : Nat) : Int))) ((idx c a).bind fun d => ((idx g a).bind fun e => (cond (!((d.1 == e.1) && (d.2 == e.2))) (some (false)) (b (IntKind.wrap .i64 (a + 1)))))) (Zd b f h Zj 0))
def Vi (a : (List (Int × Int))) (b : (List ((List UInt8) × (List UInt8) × Int))) (c : (List (Int × Int))) (d : (List ((List UInt8) × (List UInt8) × Int))) : Nat → Int → Option (Bool)
  | 0, _ => none
  | f + 1, e => Ze  (Vi a b c d f) a b c d e
def Vw (a : (List (Int × Int))) (b : (List ((List UInt8) × (List UInt8) × Int))) (c : (List (Int × Int))) (d : (List ((List UInt8) × (List UInt8) × Int))) (e : Bool) : Option (Bool) :=
  (cond e (some (false)) (Vi a b c d Zj 0))
def Z1 (e : (List UInt8)) (f : Int) (g : Int) (a : (List (Int × Int))) (b : (List ((List UInt8) × (List UInt8) × Int))) (h : (List UInt8)) (i : Int) (j : Int) (c : (List (Int × Int))) (d : (List ((List UInt8) × (List UInt8) × Int))) : Option (Bool) :=
  (cond (!(e == h)) (Vw a b c d true) (cond (f != i) (Vw a b c d true) (cond (g != j) (Vw a b c d true) (cond (((List.length a : Nat) : Int) != ((List.length c : Nat) : Int)) (Vw a b c d true) (Vw a b c d (((List.length b : Nat) : Int) != ((List.length d : Nat) : Int)))))))
set_option maxHeartbeats 40000000 in
theorem Uz (A5 : Option Addr) (c6 : Nat) (A9 : Option Addr) (z : Nat) (a0 : Option Addr) (a2 : Nat) (a1 : Option Addr) (a3 : Nat) (a4 : Bs) (a5 : Int) (a6 : Int) (h : (List (Int × Int))) (f : (List Tk)) (a7 : Bs) (a8 : Int) (a9 : Int) (m : (List (Int × Int))) (i : (List Tk)) (w0 : World) (b5 : RdT (Qf (Qv .u32) (Qv .i64)) w0 A5 c6 h) (b6 : RdT (Qf Qj (Qf Qj (Qv .i64))) w0 A9 z f) (b7 : RdT (Qf (Qv .u32) (Qv .i64)) w0 a0 a2 m) (b8 : RdT (Qf Qj (Qf Qj (Qv .i64))) w0 a1 a3 i) (r : (Bool)) (H : Z1 a4 a5 a6 h f a7 a8 a9 m i = some r) :
  Calls Tryz.prog 27 #[(.agg #[(sv a4), (iv a5), (iv a6), (lv A5 h c6), (lv A9 f z)]), (.agg #[(sv a7), (iv a8), (iv a9), (lv a0 m a2), (lv a1 i a3)])] w0 (fun e W => e = .returned (bv r) ∧ SP [] w0 W []) := by
 unfold Z1 at H
 refine Qt (n := 80) Tryz.func27 K K K ?_
 have d1 := Qw [] w0
 refine aC ?_
 refine iS 1 ?_
 refine zB 33 (.tmp 0) (.agg #[(sv a4), (iv a5), (iv a6), (lv A5 h c6), (lv A9 f z)]) 2 d1 ?_
 intro g i0 d2
 refine iS 2 ?_
 refine zB 33 (.tmp 1) (.agg #[(sv a7), (iv a8), (iv a9), (lv a0 m a2), (lv a1 i a3)]) 3 d2 ?_
 intro l i1 q
 refine iR 1 3 [(4, (bv false))] ?_
 refine iF ?_
 refine aQ ?_
 refine aQ ?_
 refine At.join (fun ρ w => ∃ (b2 : Bool), Vq ρ [(2, (pt g 0)), (3, (pt l 0)), (43, (bv b2))] ∧ SP [] w0 w [Qs g 33 #[(sv a4), (iv a5), (iv a6), (lv A5 h c6), (lv A9 f z)], Qs l 33 #[(sv a7), (iv a8), (iv a9), (lv a0 m a2), (lv a1 i a3)]] ∧ Vw h f m i b2 = some r) ?_ ?_
 ·refine aR ?_
  refine iR 1 1 [(7, (pt g 0))] ?_
  refine jL 2 9 7 g 0 0 (sv a4) 8 q rfl ?_
  refine iR 1 3 [(9, (pt l 0))] ?_
  refine jL 4 9 9 l 0 1 (sv a7) 10 q rfl ?_
  refine iS 5 ?_
  refine U7 (op := .neq) (T := 9) (T' := 9) (x := (.tmp 8)) (y := (.tmp 10)) (a := a4) (b := a7) (r := (bv (!(a4 == a7)))) (d := (some 11)) (k := 4) K rfl K K rfl ?_
  refine iR 1 6 [(12, (bv (!(a4 == a7))))] ?_
  refine gD 12 H (fun H => ?_) fun H => ?_
  ·refine iR 31 37 (uN 13 5 ((18, (bv true)) :: (19, (bv true)) :: (uN 20 5 ((25, (bv true)) :: (26, (bv true)) :: (uN 27 7 ((34, (bv true)) :: (35, (bv true)) :: (uN 36 7 [(43, (bv true))]))))))) ?_
   refine iF ?_
   exact ⟨true, ⟨K, K, K, trivial⟩, SP.sel q [0, 1] rfl rfl, H⟩
  refine iR 1 7 [(13, (pt g 1))] ?_
  refine jL 8 3 13 g 1 0 (iv a5) 14 q rfl ?_
  refine iR 1 9 [(15, (pt l 1))] ?_
  refine jL 10 3 15 l 1 1 (iv a8) 16 q rfl ?_
  refine iR 3 13 [(17, (bv (a5 != a8))), (18, (bv (a5 != a8))), (19, (bv (a5 != a8)))] ?_
  refine gD 19 H (fun H => ?_) fun H => ?_
  ·refine iR 24 37 (uN 20 5 ((25, (bv true)) :: (26, (bv true)) :: (uN 27 7 ((34, (bv true)) :: (35, (bv true)) :: (uN 36 7 [(43, (bv true))]))))) ?_
   refine iF ?_
   exact ⟨true, ⟨K, K, K, trivial⟩, SP.sel q [0, 1] rfl rfl, H⟩
  refine iR 1 14 [(20, (pt g 2))] ?_
  refine jL 15 3 20 g 2 0 (iv a6) 21 q rfl ?_
  refine iR 1 16 [(22, (pt l 2))] ?_
  refine jL 17 3 22 l 2 1 (iv a9) 23 q rfl ?_
  refine iR 3 20 [(24, (bv (a6 != a9))), (25, (bv (a6 != a9))), (26, (bv (a6 != a9)))] ?_
  refine gD 26 H (fun H => ?_) fun H => ?_
  ·refine iR 17 37 (uN 27 7 ((34, (bv true)) :: (35, (bv true)) :: (uN 36 7 [(43, (bv true))]))) ?_
   refine iF ?_
   exact ⟨true, ⟨K, K, K, trivial⟩, SP.sel q [0, 1] rfl rfl, H⟩
  refine iR 1 21 [(27, (pt g 3))] ?_
  refine jL 22 30 27 g 3 0 (lv A5 h c6) 28 q rfl ?_
  refine iR 2 24 [(29, (iv (ln h))), (30, (pt l 3))] ?_
  refine jL 25 30 30 l 3 1 (lv a0 m a2) 31 q rfl ?_
  refine iR 4 29 [(32, (iv (ln m))), (33, (bv ((ln h) != (ln m)))), (34, (bv ((ln h) != (ln m)))), (35, (bv ((ln h) != (ln m))))] ?_
  refine gD 35 H (fun H => ?_) fun H => ?_
  ·refine iR 8 37 (uN 36 7 [(43, (bv true))]) ?_
   refine iF ?_
   exact ⟨true, ⟨K, K, K, trivial⟩, SP.sel q [0, 1] rfl rfl, H⟩
  refine iR 1 30 [(36, (pt g 4))] ?_
  refine jL 31 31 36 g 4 0 (lv A9 f z) 37 q rfl ?_
  refine iR 2 33 [(38, (iv (ln f))), (39, (pt l 4))] ?_
  refine jL 34 31 39 l 4 1 (lv a1 i a3) 40 q rfl ?_
  refine iR 3 37 [(41, (iv (ln i))), (42, (bv ((ln f) != (ln i)))), (43, (bv ((ln f) != (ln i))))] ?_
  refine iF ?_
  exact ⟨((ln f) != (ln i)), ⟨K, K, K, trivial⟩, SP.sel q [0, 1] rfl rfl, H⟩
 rintro ρ i2 ⟨b2, hk, b9, H⟩
 unfold Vw at H
 first | refine At.known _ hk ?_ | rw [← Qo hk]
 refine cD 43 H (fun H => ?_) fun H => ?_
 ·refine aC ?_
  refine iR 1 1 [(4, (bv false))] ?_
  refine iF ?_
  refine At.ret K ?_
  refine ⟨(bv false), K, ?_⟩
  obtain rfl := Qe H
  exact ⟨rfl, SP.sel b9 [] rfl rfl⟩
 refine At.skip K ?_
 refine aQ ?_
 refine aC ?_
 refine iR 1 1 [(5, (iv 0))] ?_
 refine iF ?_
 refine Z3 K (id := 0) K ?_
 refine Gm K (fun f4 ρ w => ∃ (o : Int), Vq ρ [(2, (pt g 0)), (3, (pt l 0)), (5, (iv o))] ∧ SP [] w0 w [Qs g 33 #[(sv a4), (iv a5), (iv a6), (lv A5 h c6), (lv A9 f z)], Qs l 33 #[(sv a7), (iv a8), (iv a9), (lv a0 m a2), (lv a1 i a3)]] ∧ Vi h f m i f4 o = some r) (by rintro ρ w ⟨o, hk, hs, H⟩; cases H) ?_ Zj ?_
 ·rintro f4 ρ i3 ⟨o, hk, b3, H⟩
  refine At.known _ hk ?_
  replace H := (show Ze (Vi h f m i f4) h f m i o = some r from H)
  unfold Ze at H
  refine aQ ?_
  refine aC ?_
  refine iR 2 2 [(44, (iv o)), (45, (pt g 3))] ?_
  refine jL 3 30 45 g 3 0 (lv A5 h c6) 46 b3 rfl ?_
  refine iR 2 5 [(47, (iv (ln h))), (48, (bv (decide (o < (ln h)))))] ?_
  refine iF ?_
  refine cD 48 H (fun H => ?_) fun H => ?_
  ·refine At.skip K ?_
   refine aQ ?_
   refine Z3 K (id := 1) K ?_
   refine aQ ?_
   obtain ⟨b0, c0, c1, d3, H⟩ := Qu H
   obtain ⟨b1, c2, c3, d4, H⟩ := Qu H
   refine aG [GEq (pt g 3), GEq (lv A5 h c6), GEq (iv o), Zt A5 (Qf (Qv .u32) (Qv .i64)).sz o, GEq (.agg #[(.int .u32 b0.1), (iv b0.2)]), GEq (pt l 3), GEq (lv a0 m a2), GEq (iv o), Zt a0 (Qf (Qv .u32) (Qv .i64)).sz o, GEq (.agg #[(.int .u32 b1.1), (iv b1.2)]), GEq (bv (!((b0.1 == b1.1) && (b0.2 == b1.2))))] [] (tG [] w0 [Qs g 33 #[(sv a4), (iv a5), (iv a6), (lv A5 h c6), (lv A9 f z)], Qs l 33 #[(sv a7), (iv a8), (iv a9), (lv a0 m a2), (lv a1 i a3)]] [([], [])]) 11 0 ⟨trivial, SP.drew b3⟩ ?_ ?_
   iterate 11 refine And.intro ?_ ?_
   exact trivial
   ·exact oU (hC (hS 2 (pt g 0)) (h0))
   ·refine oL 0 ?_
    rintro P W hs c ⟨-, d5⟩
    refine kM (kc (kA c 0 51) k0) fun j => ?_
    refine sL 30 51 g 3 0 (lv A5 h c6) 52 d5 rfl ?_
    exact eK j
   ·exact oU (hC (hS 5 (iv o)) (h0))
   ·refine oL 0 ?_
    rintro P W hs c ⟨-, d6⟩
    refine kM (kc (kA c 1 52) (kc (kA c 2 53) k0)) fun j => ?_
    refine zE (Qf (Qv .u32) (Qv .i64)) h A5 c6 30 102 (.tmp 52) (.tmp 53) o 54 (RdT.sp b5 d6) c0 c1 ?_
    intro d7 d8 d9 i4 hc500
    exact ⟨rfl, _, Qa j, ⟨d7, d8, d9, rfl⟩⟩
   ·refine oL 0 ?_
    rintro P W hs c ⟨-, e0⟩
    obtain ⟨e1, e2, e3, e4⟩ := c 3 54 K
    refine kM (kc e4 k0) fun j => ?_
    refine Qx.cells (t := 102) (x := (.tmp 54)) (b := e1) (off := (e2 + Int.toNat o * (Qf (Qv .u32) (Qv .i64)).sz)) (xs := [(.int .u32 b0.1), (iv b0.2)]) (d := (some 55)) (k := 4) K rfl K K K (Vd (e := (Qf (Qv .u32) (Qv .i64))) (Qh (RdT.sp b5 e0) e3 c0 c1) d3 rfl) ?_
    exact eK j
   ·exact oU (hC (hS 3 (pt l 0)) (h0))
   ·refine oL 0 ?_
    rintro P W hs c ⟨-, e5⟩
    refine kM (kc (kA c 5 56) k0) fun j => ?_
    refine sL 30 56 l 3 1 (lv a0 m a2) 57 e5 rfl ?_
    exact eK j
   ·exact oU (hC (hS 5 (iv o)) (h0))
   ·refine oL 0 ?_
    rintro P W hs c ⟨-, e6⟩
    refine kM (kc (kA c 6 57) (kc (kA c 7 58) k0)) fun j => ?_
    refine zE (Qf (Qv .u32) (Qv .i64)) m a0 a2 30 102 (.tmp 57) (.tmp 58) o 59 (RdT.sp b7 e6) c2 c3 ?_
    intro e7 e8 e9 i5 hc514
    exact ⟨rfl, _, Qa j, ⟨e7, e8, e9, rfl⟩⟩
   ·refine oL 0 ?_
    rintro P W hs c ⟨-, f0⟩
    obtain ⟨f1, f2, f3, f6⟩ := c 8 59 K
    refine kM (kc f6 k0) fun j => ?_
    refine Qx.cells (t := 102) (x := (.tmp 59)) (b := f1) (off := (f2 + Int.toNat o * (Qf (Qv .u32) (Qv .i64)).sz)) (xs := [(.int .u32 b1.1), (iv b1.2)]) (d := (some 60)) (k := 9) K rfl K K K (Vd (e := (Qf (Qv .u32) (Qv .i64))) (Qh (RdT.sp b7 f0) f3 c2 c3) d4 rfl) ?_
    exact eK j
   ·refine oL 0 ?_
    rintro P W hs c ⟨-, i6⟩
    refine kM (kc (kA c 4 55) (kc (kA c 9 60) k0)) fun j => ?_
    refine Mb (op := .neq) (T := 102) (T' := 102) (x := (.tmp 55)) (y := (.tmp 60)) (vx := (.agg #[(.int .u32 b0.1), (iv b0.2)])) (vy := (.agg #[(.int .u32 b1.1), (iv b1.2)])) (v := (bv (!((b0.1 == b1.1) && (b0.2 == b1.2))))) (d := (some 61)) (k := 10) K rfl K K (by clear H; intro w; simp only [H5]; go_simp; simp only [H4, Ha, Ki, H5, Bool.and_true] <;> simp only [Bool.not_and]) ?_
    exact eK j
   rintro P i7 hs hf ⟨-, c4⟩
   refine Qy _ (kc (kT hs 2 (pt g 0)) (kc (kT hs 3 (pt l 0)) (kc (kT hs 5 (iv o)) (kc (kF hf 10 61) k0)))) ?_
   refine cD 61 H (fun H => ?_) fun H => ?_
   ·refine aC ?_
    refine iR 1 1 [(4, (bv false))] ?_
    refine iF ?_
    refine At.ret K ?_
    refine ⟨(bv false), K, ?_⟩
    obtain rfl := Qe H
    exact ⟨rfl, SP.sel c4 [] rfl rfl⟩
   refine At.skip K ?_
   refine aR ?_
   refine iR 3 3 [(49, (iv o)), (50, (iv (IntKind.wrap .i64 (o + 1)))), (5, (iv (IntKind.wrap .i64 (o + 1))))] ?_
   refine iF ?_
   exact ⟨(IntKind.wrap .i64 (o + 1)), ⟨K, K, K, trivial⟩, SP.sel c4 [0, 1] rfl rfl, H⟩
  refine At.exit K (id := 0) K ?_
  refine aQ ?_
  refine aC ?_
  refine iR 1 1 [(6, (iv 0))] ?_
  refine iF ?_
  refine Z3 K (id := 2) K ?_
  refine Gm K (fun f5 ρ w => ∃ (p : Int), Vq ρ [(2, (pt g 0)), (3, (pt l 0)), (6, (iv p))] ∧ SP [] w0 w [Qs g 33 #[(sv a4), (iv a5), (iv a6), (lv A5 h c6), (lv A9 f z)], Qs l 33 #[(sv a7), (iv a8), (iv a9), (lv a0 m a2), (lv a1 i a3)]] ∧ Zd (Vi h f m i f4) f i f5 p = some r) (by rintro ρ w ⟨p, hk, hs, H⟩; cases H) ?_ Zj ?_
  ·rintro f5 ρ i8 ⟨p, hk, b4, H⟩
   refine At.known _ hk ?_
   replace H := (show Zc (Vi h f m i f4) (Zd (Vi h f m i f4) f i f5) f i p = some r from H)
   unfold Zc at H
   refine aQ ?_
   refine aC ?_
   refine iR 2 2 [(62, (iv p)), (63, (pt g 4))] ?_
   refine jL 3 31 63 g 4 0 (lv A9 f z) 64 b4 rfl ?_
   refine iR 2 5 [(65, (iv (ln f))), (66, (bv (decide (p < (ln f)))))] ?_
   refine iF ?_
   refine cD 66 H (fun H => ?_) fun H => ?_
   ·refine At.skip K ?_
    refine aQ ?_
    refine Z3 K (id := 3) K ?_
    refine aQ ?_
    obtain ⟨s, c5, c7, f7, H⟩ := Qu H
    obtain ⟨u, c8, c9, f8, H⟩ := Qu H
    refine aG [GEq (pt g 4), GEq (lv A9 f z), GEq (iv p), Zt A9 (Qf Qj (Qf Qj (Qv .i64))).sz p, GEq (.agg #[(sv s.1), (sv s.2.1), (iv s.2.2)]), GEq (pt l 4), GEq (lv a1 i a3), GEq (iv p), Zt a1 (Qf Qj (Qf Qj (Qv .i64))).sz p, GEq (.agg #[(sv u.1), (sv u.2.1), (iv u.2.2)]), GEq (bv (!((s.1 == u.1) && ((s.2.1 == u.2.1) && (s.2.2 == u.2.2)))))] [] (tG [] w0 [Qs g 33 #[(sv a4), (iv a5), (iv a6), (lv A5 h c6), (lv A9 f z)], Qs l 33 #[(sv a7), (iv a8), (iv a9), (lv a0 m a2), (lv a1 i a3)]] [([], [])]) 11 0 ⟨trivial, SP.drew b4⟩ ?_ ?_
    iterate 11 refine And.intro ?_ ?_
    exact trivial
    ·exact oU (hC (hS 2 (pt g 0)) (h0))
    ·refine oL 0 ?_
     rintro P W hs c ⟨-, f9⟩
     refine kM (kc (kA c 0 69) k0) fun j => ?_
     refine sL 31 69 g 4 0 (lv A9 f z) 70 f9 rfl ?_
     exact eK j
    ·exact oU (hC (hS 6 (iv p)) (h0))
    ·refine oL 0 ?_
     rintro P W hs c ⟨-, g0⟩
     refine kM (kc (kA c 1 70) (kc (kA c 2 71) k0)) fun j => ?_
     refine zE (Qf Qj (Qf Qj (Qv .i64))) f A9 z 31 37 (.tmp 70) (.tmp 71) p 72 (RdT.sp b6 g0) c5 c7 ?_
     intro g1 g2 g3 i9 hc663
     exact ⟨rfl, _, Qa j, ⟨g1, g2, g3, rfl⟩⟩
    ·refine oL 0 ?_
     rintro P W hs c ⟨-, g4⟩
     obtain ⟨g5, g6, g7, g8⟩ := c 3 72 K
     refine kM (kc g8 k0) fun j => ?_
     refine Qx.cells (t := 37) (x := (.tmp 72)) (b := g5) (off := (g6 + Int.toNat p * (Qf Qj (Qf Qj (Qv .i64))).sz)) (xs := [(sv s.1), (sv s.2.1), (iv s.2.2)]) (d := (some 73)) (k := 4) K rfl K K K (Vd (e := (Qf Qj (Qf Qj (Qv .i64)))) (Qh (RdT.sp b6 g4) g7 c5 c7) f7 rfl) ?_
     exact eK j
    ·exact oU (hC (hS 3 (pt l 0)) (h0))
    ·refine oL 0 ?_
     rintro P W hs c ⟨-, g9⟩
     refine kM (kc (kA c 5 74) k0) fun j => ?_
     refine sL 31 74 l 4 1 (lv a1 i a3) 75 g9 rfl ?_
     exact eK j
    ·exact oU (hC (hS 6 (iv p)) (h0))
    ·refine oL 0 ?_
     rintro P W hs c ⟨-, h1⟩
     refine kM (kc (kA c 6 75) (kc (kA c 7 76) k0)) fun j => ?_
     refine zE (Qf Qj (Qf Qj (Qv .i64))) i a1 a3 31 37 (.tmp 75) (.tmp 76) p 77 (RdT.sp b8 h1) c8 c9 ?_
     intro h2 h3 h4 j0 hc677
     exact ⟨rfl, _, Qa j, ⟨h2, h3, h4, rfl⟩⟩
    ·refine oL 0 ?_
     rintro P W hs c ⟨-, h5⟩
     obtain ⟨h6, h7, h8, h9⟩ := c 8 77 K
     refine kM (kc h9 k0) fun j => ?_
     refine Qx.cells (t := 37) (x := (.tmp 77)) (b := h6) (off := (h7 + Int.toNat p * (Qf Qj (Qf Qj (Qv .i64))).sz)) (xs := [(sv u.1), (sv u.2.1), (iv u.2.2)]) (d := (some 78)) (k := 9) K rfl K K K (Vd (e := (Qf Qj (Qf Qj (Qv .i64)))) (Qh (RdT.sp b8 h5) h8 c8 c9) f8 rfl) ?_
     exact eK j
    ·refine oL 0 ?_
     rintro P W hs c ⟨-, j1⟩
     refine kM (kc (kA c 4 73) (kc (kA c 9 78) k0)) fun j => ?_
     refine Mb (op := .neq) (T := 37) (T' := 37) (x := (.tmp 73)) (y := (.tmp 78)) (vx := (.agg #[(sv s.1), (sv s.2.1), (iv s.2.2)])) (vy := (.agg #[(sv u.1), (sv u.2.1), (iv u.2.2)])) (v := (bv (!((s.1 == u.1) && ((s.2.1 == u.2.1) && (s.2.2 == u.2.2)))))) (d := (some 79)) (k := 10) K rfl K K (by clear H; intro w; simp only [H5]; go_simp; simp only [H4, Ha, Ki, H5, Bool.and_true] <;> simp only [Bool.not_and]) ?_
     exact eK j
    rintro P j2 hs hf ⟨-, d0⟩
    refine Qy _ (kc (kT hs 2 (pt g 0)) (kc (kT hs 3 (pt l 0)) (kc (kT hs 6 (iv p)) (kc (kF hf 10 79) k0)))) ?_
    refine cD 79 H (fun H => ?_) fun H => ?_
    ·refine aC ?_
     refine iR 1 1 [(4, (bv false))] ?_
     refine iF ?_
     refine At.ret K ?_
     refine ⟨(bv false), K, ?_⟩
     obtain rfl := Qe H
     exact ⟨rfl, SP.sel d0 [] rfl rfl⟩
    refine At.skip K ?_
    refine aR ?_
    refine iR 3 3 [(67, (iv p)), (68, (iv (IntKind.wrap .i64 (p + 1)))), (6, (iv (IntKind.wrap .i64 (p + 1))))] ?_
    refine iF ?_
    exact ⟨(IntKind.wrap .i64 (p + 1)), ⟨K, K, K, trivial⟩, SP.sel d0 [0, 1] rfl rfl, H⟩
   refine At.exit K (id := 2) K ?_
   refine aC ?_
   refine iR 1 1 [(4, (bv true))] ?_
   refine iF ?_
   refine At.ret K ?_
   refine ⟨(bv true), K, ?_⟩
   obtain rfl := Qe H
   exact ⟨rfl, SP.sel b4 [] rfl rfl⟩
  exact ⟨0, ⟨K, K, K, trivial⟩, SP.sel b3 [0, 1] rfl rfl, H⟩
 exact ⟨0, ⟨K, K, K, trivial⟩, SP.sel b9 [0, 1] rfl rfl, H⟩
def Ye (e : Int → Option (Bool)) (d : (List Qb)) (f : (List Qb)) (c : Int) : Option (Bool) :=
  (cond (decide (c < ((List.length d : Nat) : Int))) ((idx d c).bind fun a => ((idx f c).bind fun b => ((Z1 a.1 a.2.1 a.2.2.1 a.2.2.2.1 a.2.2.2.2 b.1 b.2.1 b.2.2.1 b.2.2.2.1 b.2.2.2.2).bind fun g => (cond (!g) (some (false)) (e (IntKind.wrap .i64 (c + 1))))))) (some (true)))
def Yf (a : (List Qb)) (b : (List Qb)) : Nat → Int → Option (Bool)
  | 0, _ => none
  | f + 1, c => Ye  (Yf a b f) a b c
def Z5 (a : (List Qb)) (b : (List Qb)) (c : Bool) : Option (Bool) :=
  (cond c (some (false)) (Yf a b Zj 0))
def Jt (c : Int) (d : Int) (e : Int) (f : Int) (a : (List Qb)) (g : Int) (h : Int) (i : Int) (j : Int) (b : (List Qb)) : Option (Bool) :=
  (cond (c != g) (Z5 a b true) (cond (d != h) (Z5 a b true) (cond (e != i) (Z5 a b true) (cond (f != j) (Z5 a b true) (Z5 a b (((List.length a : Nat) : Int) != ((List.length b : Nat) : Int)))))))
set_option maxHeartbeats 40000000 in
theorem Em (A6 : Option Addr) (c7 : Nat) (q : Option Addr) (s : Nat) (a2 : Int) (u : Int) (v : Int) (y : Int) (d9 : (List Qg)) (a3 : Int) (z : Int) (a0 : Int) (a1 : Int) (i : (List Qg)) (w0 : World) (a5 : (dDS Vu Fv).ok w0 (A6, c7, d9)) (a6 : (dDS Vu Fv).ok w0 (q, s, i)) (r : (Bool)) (H : Jt a2 u v y (mT d9) a3 z a0 a1 (mT i) = some r) :
  Calls Tryz.prog 26 #[(.agg #[(iv a2), (iv u), (iv v), (iv y), (lv A6 (mT d9) c7)]), (.agg #[(iv a3), (iv z), (iv a0), (iv a1), (lv q (mT i) s)])] w0 (fun e W => e = .returned (bv r) ∧ SP [] w0 W []) := by
 unfold Jt at H
 refine Qt (n := 60) Tryz.func26 K K K ?_
 have b8 := Qw [] w0
 refine aC ?_
 refine iS 1 ?_
 refine zB 24 (.tmp 0) (.agg #[(iv a2), (iv u), (iv v), (iv y), (lv A6 (mT d9) c7)]) 2 b8 ?_
 intro h e4 b9
 refine iS 2 ?_
 refine zB 24 (.tmp 1) (.agg #[(iv a3), (iv z), (iv a0), (iv a1), (lv q (mT i) s)]) 3 b9 ?_
 intro j e5 o
 refine iR 1 3 [(4, (bv false))] ?_
 refine iF ?_
 refine aQ ?_
 refine aQ ?_
 refine At.join (fun ρ w => ∃ (a8 : Bool), Vq ρ [(2, (pt h 0)), (3, (pt j 0)), (40, (bv a8))] ∧ SP [] w0 w [Qs h 24 #[(iv a2), (iv u), (iv v), (iv y), (lv A6 (mT d9) c7)], Qs j 24 #[(iv a3), (iv z), (iv a0), (iv a1), (lv q (mT i) s)]] ∧ Z5 (mT d9) (mT i) a8 = some r) ?_ ?_
 ·refine aR ?_
  refine iR 1 1 [(6, (pt h 0))] ?_
  refine jL 2 2 6 h 0 0 (iv a2) 7 o rfl ?_
  refine iR 1 3 [(8, (pt j 0))] ?_
  refine jL 4 2 8 j 0 1 (iv a3) 9 o rfl ?_
  refine iR 2 6 [(10, (bv (a2 != a3))), (11, (bv (a2 != a3)))] ?_
  refine gD 11 H (fun H => ?_) fun H => ?_
  ·refine iR 29 35 (uN 12 5 ((17, (bv true)) :: (18, (bv true)) :: (uN 19 5 ((24, (bv true)) :: (25, (bv true)) :: (uN 26 5 ((31, (bv true)) :: (32, (bv true)) :: (uN 33 7 [(40, (bv true))]))))))) ?_
   refine iF ?_
   exact ⟨true, ⟨K, K, K, trivial⟩, SP.sel o [0, 1] rfl rfl, H⟩
  refine iR 1 7 [(12, (pt h 1))] ?_
  refine jL 8 2 12 h 1 0 (iv u) 13 o rfl ?_
  refine iR 1 9 [(14, (pt j 1))] ?_
  refine jL 10 2 14 j 1 1 (iv z) 15 o rfl ?_
  refine iR 3 13 [(16, (bv (u != z))), (17, (bv (u != z))), (18, (bv (u != z)))] ?_
  refine gD 18 H (fun H => ?_) fun H => ?_
  ·refine iR 22 35 (uN 19 5 ((24, (bv true)) :: (25, (bv true)) :: (uN 26 5 ((31, (bv true)) :: (32, (bv true)) :: (uN 33 7 [(40, (bv true))]))))) ?_
   refine iF ?_
   exact ⟨true, ⟨K, K, K, trivial⟩, SP.sel o [0, 1] rfl rfl, H⟩
  refine iR 1 14 [(19, (pt h 2))] ?_
  refine jL 15 2 19 h 2 0 (iv v) 20 o rfl ?_
  refine iR 1 16 [(21, (pt j 2))] ?_
  refine jL 17 2 21 j 2 1 (iv a0) 22 o rfl ?_
  refine iR 3 20 [(23, (bv (v != a0))), (24, (bv (v != a0))), (25, (bv (v != a0)))] ?_
  refine gD 25 H (fun H => ?_) fun H => ?_
  ·refine iR 15 35 (uN 26 5 ((31, (bv true)) :: (32, (bv true)) :: (uN 33 7 [(40, (bv true))]))) ?_
   refine iF ?_
   exact ⟨true, ⟨K, K, K, trivial⟩, SP.sel o [0, 1] rfl rfl, H⟩
  refine iR 1 21 [(26, (pt h 3))] ?_
  refine jL 22 2 26 h 3 0 (iv y) 27 o rfl ?_
  refine iR 1 23 [(28, (pt j 3))] ?_
  refine jL 24 2 28 j 3 1 (iv a1) 29 o rfl ?_
  refine iR 3 27 [(30, (bv (y != a1))), (31, (bv (y != a1))), (32, (bv (y != a1)))] ?_
  refine gD 32 H (fun H => ?_) fun H => ?_
  ·refine iR 8 35 (uN 33 7 [(40, (bv true))]) ?_
   refine iF ?_
   exact ⟨true, ⟨K, K, K, trivial⟩, SP.sel o [0, 1] rfl rfl, H⟩
  refine iR 1 28 [(33, (pt h 4))] ?_
  refine jL 29 22 33 h 4 0 (lv A6 (mT d9) c7) 34 o rfl ?_
  refine iR 2 31 [(35, (iv (ln (mT d9)))), (36, (pt j 4))] ?_
  refine jL 32 22 36 j 4 1 (lv q (mT i) s) 37 o rfl ?_
  refine iR 3 35 [(38, (iv (ln (mT i)))), (39, (bv ((ln (mT d9)) != (ln (mT i))))), (40, (bv ((ln (mT d9)) != (ln (mT i)))))] ?_
  refine iF ?_
  exact ⟨((ln (mT d9)) != (ln (mT i))), ⟨K, K, K, trivial⟩, SP.sel o [0, 1] rfl rfl, H⟩
 rintro ρ w32 ⟨a8, hk, b2, H⟩
 unfold Z5 at H
 first | refine At.known _ hk ?_ | rw [← Qo hk]
 refine cD 40 H (fun H => ?_) fun H => ?_
 ·refine aC ?_
  refine iR 1 1 [(4, (bv false))] ?_
  refine iF ?_
  refine At.ret K ?_
  refine ⟨(bv false), K, ?_⟩
  obtain rfl := Qe H
  exact ⟨rfl, SP.sel b2 [] rfl rfl⟩
 refine At.skip K ?_
 refine aQ ?_
 refine aC ?_
 refine iR 1 1 [(5, (iv 0))] ?_
 refine iF ?_
 refine Z3 K (id := 0) K ?_
 refine Gm K (fun f2 ρ w => ∃ (g : Int), Vq ρ [(2, (pt h 0)), (3, (pt j 0)), (5, (iv g))] ∧ SP [] w0 w [Qs h 24 #[(iv a2), (iv u), (iv v), (iv y), (lv A6 (mT d9) c7)], Qs j 24 #[(iv a3), (iv z), (iv a0), (iv a1), (lv q (mT i) s)]] ∧ Yf (mT d9) (mT i) f2 g = some r) (by rintro ρ w ⟨g, hk, hs, H⟩; cases H) ?_ Zj ?_
 ·rintro f2 ρ e6 ⟨g, hk, a9, H⟩
  refine At.known _ hk ?_
  replace H := (show Ye (Yf (mT d9) (mT i) f2) (mT d9) (mT i) g = some r from H)
  unfold Ye at H
  refine aQ ?_
  refine aC ?_
  refine iR 2 2 [(41, (iv g)), (42, (pt h 4))] ?_
  refine jL 3 22 42 h 4 0 (lv A6 (mT d9) c7) 43 a9 rfl ?_
  refine iR 2 5 [(44, (iv (ln (mT d9)))), (45, (bv (decide (g < (ln (mT d9))))))] ?_
  refine iF ?_
  refine cD 45 H (fun H => ?_) fun H => ?_
  ·refine At.skip K ?_
   refine aQ ?_
   refine Z3 K (id := 1) K ?_
   refine aQ ?_
   obtain ⟨a, b3, b4, b0, H⟩ := J9 H
   obtain ⟨f, b5, b6, b1, H⟩ := J9 H
   obtain ⟨a7, c0, H⟩ := Qd H
   refine aG [GEq (pt h 4), GEq (lv A6 (mT d9) c7), GEq (iv g), Zt A6 Vu.sz g, GEq (.agg #[(sv (stT a).1), (iv (stT a).2.1), (iv (stT a).2.2.1), (lv a.2.2.2.1.1 (stT a).2.2.2.1 a.2.2.2.1.2.1), (lv a.2.2.2.2.1 (stT a).2.2.2.2 a.2.2.2.2.2.1)]), GEq (pt j 4), GEq (lv q (mT i) s), GEq (iv g), Zt q Vu.sz g, GEq (.agg #[(sv (stT f).1), (iv (stT f).2.1), (iv (stT f).2.2.1), (lv f.2.2.2.1.1 (stT f).2.2.2.1 f.2.2.2.1.2.1), (lv f.2.2.2.2.1 (stT f).2.2.2.2 f.2.2.2.2.2.1)]), GEq (bv a7), GEq (bv (!a7))] [10] (tG [] w0 [Qs h 24 #[(iv a2), (iv u), (iv v), (iv y), (lv A6 (mT d9) c7)], Qs j 24 #[(iv a3), (iv z), (iv a0), (iv a1), (lv q (mT i) s)]] [([], []), ([10], [(bv a7)])]) 12 1 ⟨trivial, SP.drew a9⟩ ?_ ?_
   iterate 12 refine And.intro ?_ ?_
   exact trivial
   ·exact oU (hC (hS 2 (pt h 0)) (h0))
   ·refine oL 0 ?_
    rintro P W hs m ⟨-, c1⟩
    refine kM (kc (kA m 0 48) k0) fun p => ?_
    refine sL 22 48 h 4 0 (lv A6 (mT d9) c7) 49 c1 rfl ?_
    exact eK p
   ·exact oU (hC (hS 5 (iv g)) (h0))
   ·refine oL 0 ?_
    rintro P W hs m ⟨-, c2⟩
    refine kM (kc (kA m 1 49) (kc (kA m 2 50) k0)) fun p => ?_
    refine Xd stT (e := Vu) (l := d9) (A := A6) (c := c7) (T := 22) (E := 33) (x := (.tmp 49)) (ix := (.tmp 50)) (ki := .i64) (iz := g) (d := (some 51)) (k := 3) K rfl K K K K (RdT.sp (Zh a5) c2) b3 b4 ?_
    intro c3 c4 c5 e7 hc216
    exact ⟨rfl, _, Qa p, ⟨c3, c4, c5, rfl⟩⟩
   ·refine oL 0 ?_
    rintro P W hs m ⟨-, c6⟩
    obtain ⟨c8, c9, d0, d1⟩ := m 3 51 K
    refine kM (kc d1 k0) fun p => ?_
    refine Qx.cells (t := 33) (x := (.tmp 51)) (b := c8) (off := (c9 + Int.toNat g * Vu.sz)) (xs := [(sv (stT a).1), (iv (stT a).2.1), (iv (stT a).2.2.1), (lv a.2.2.2.1.1 (stT a).2.2.2.1 a.2.2.2.1.2.1), (lv a.2.2.2.2.1 (stT a).2.2.2.2 a.2.2.2.2.2.1)]) (d := (some 52)) (k := 4) K rfl K K K (Vd (e := Vu) (Qh (RdT.sp (Zh a5) c6) d0 b3 b4) b0 rfl) ?_
    exact eK p
   ·exact oU (hC (hS 3 (pt j 0)) (h0))
   ·refine oL 0 ?_
    rintro P W hs m ⟨-, d2⟩
    refine kM (kc (kA m 5 53) k0) fun p => ?_
    refine sL 22 53 j 4 1 (lv q (mT i) s) 54 d2 rfl ?_
    exact eK p
   ·exact oU (hC (hS 5 (iv g)) (h0))
   ·refine oL 0 ?_
    rintro P W hs m ⟨-, d3⟩
    refine kM (kc (kA m 6 54) (kc (kA m 7 55) k0)) fun p => ?_
    refine Xd stT (e := Vu) (l := i) (A := q) (c := s) (T := 22) (E := 33) (x := (.tmp 54)) (ix := (.tmp 55)) (ki := .i64) (iz := g) (d := (some 56)) (k := 8) K rfl K K K K (RdT.sp (Zh a6) d3) b5 b6 ?_
    intro d4 d5 d6 e8 hc230
    exact ⟨rfl, _, Qa p, ⟨d4, d5, d6, rfl⟩⟩
   ·refine oL 0 ?_
    rintro P W hs m ⟨-, d7⟩
    obtain ⟨d8, e0, e1, e2⟩ := m 8 56 K
    refine kM (kc e2 k0) fun p => ?_
    refine Qx.cells (t := 33) (x := (.tmp 56)) (b := d8) (off := (e0 + Int.toNat g * Vu.sz)) (xs := [(sv (stT f).1), (iv (stT f).2.1), (iv (stT f).2.2.1), (lv f.2.2.2.1.1 (stT f).2.2.2.1 f.2.2.2.1.2.1), (lv f.2.2.2.2.1 (stT f).2.2.2.2 f.2.2.2.2.2.1)]) (d := (some 57)) (k := 9) K rfl K K K (Vd (e := Vu) (Qh (RdT.sp (Zh a6) d7) e1 b5 b6) b1 rfl) ?_
    exact eK p
   ·refine oH 0 1 ?_
    rintro P W hs m ⟨-, a4⟩
    refine kM (kc (kA m 4 52) (kc (kA m 9 57) k0)) fun p => ?_
    refine cS a4 27 #[(.tmp 52), (.tmp 57)] #[33, 33] 58 Tryz.call27 (Uz a.2.2.2.1.1 a.2.2.2.1.2.1 a.2.2.2.2.1 a.2.2.2.2.2.1 f.2.2.2.1.1 f.2.2.2.1.2.1 f.2.2.2.2.1 f.2.2.2.2.2.1 (stT a).1 (stT a).2.1 (stT a).2.2.1 (stT a).2.2.2.1 (stT a).2.2.2.2 (stT f).1 (stT f).2.1 (stT f).2.2.1 (stT f).2.2.2.1 (stT f).2.2.2.2 W (RdT.sp (Zh (dp1 (dp2 (dp2 (dp2 (Gd a5 b0)))))) a4) (RdT.sp (Zh (dp2 (dp2 (dp2 (dp2 (Gd a5 b0)))))) a4) (RdT.sp (Zh (dp1 (dp2 (dp2 (dp2 (Gd a6 b1)))))) a4) (RdT.sp (Zh (dp2 (dp2 (dp2 (dp2 (Gd a6 b1)))))) a4) a7 c0) ?_
    intro e9 e3
    refine ⟨_, Qa p, rfl, ?_⟩
    exact (ai (ai rfl (trivial)) e3)
   ·exact oU (hC (hA 10 58) (h0))
   rintro P f0 hs hf ⟨⟨f1, -⟩, b7⟩
   refine Qy _ (kc (kT hs 2 (pt h 0)) (kc (kT hs 3 (pt j 0)) (kc (kT hs 5 (iv g)) (kc (kF hf 11 59) k0)))) ?_
   refine cD 59 H (fun H => ?_) fun H => ?_
   ·refine aC ?_
    refine iR 1 1 [(4, (bv false))] ?_
    refine iF ?_
    refine At.ret K ?_
    refine ⟨(bv false), K, ?_⟩
    obtain rfl := Qe H
    exact ⟨rfl, SP.sel b7 [] rfl rfl⟩
   refine At.skip K ?_
   refine aR ?_
   refine iR 3 3 [(46, (iv g)), (47, (iv (IntKind.wrap .i64 (g + 1)))), (5, (iv (IntKind.wrap .i64 (g + 1))))] ?_
   refine iF ?_
   exact ⟨(IntKind.wrap .i64 (g + 1)), ⟨K, K, K, trivial⟩, SP.sel b7 [0, 1] rfl rfl, H⟩
  refine At.exit K (id := 0) K ?_
  refine aC ?_
  refine iR 1 1 [(4, (bv true))] ?_
  refine iF ?_
  refine At.ret K ?_
  refine ⟨(bv true), K, ?_⟩
  obtain rfl := Qe H
  exact ⟨rfl, SP.sel a9 [] rfl rfl⟩
 exact ⟨0, ⟨K, K, K, trivial⟩, SP.sel b2 [0, 1] rfl rfl, H⟩
theorem Jl (A6 : Option Addr) (c7 : Nat) (b : Option Addr) (c : Nat) (d : Int) (f : Int) (g : Int) (h : Int) (i : (List Qb)) (j : Int) (k : Int) (l : Int) (m : Int) (n : (List Qb)) (w0 : World) (o : ∃ d9 : List Qg, i = List.map stT d9 ∧ (dDS Vu Fv).ok w0 (A6, c7, d9)) (p : ∃ a : List Qg, n = List.map stT a ∧ (dDS Vu Fv).ok w0 (b, c, a)) (r : (Bool)) (H : Jt d f g h i j k l m n = some r) :
  Calls Tryz.prog 26 #[(.agg #[(iv d), (iv f), (iv g), (iv h), (lv A6 i c7)]), (.agg #[(iv j), (iv k), (iv l), (iv m), (lv b n c)])] w0 (fun e W => e = .returned (bv r) ∧ SP [] w0 W []) := by
 obtain ⟨d9, rfl, o⟩ := o
 obtain ⟨a, rfl, p⟩ := p
 exact Em A6 c7 b c d f g h d9 j k l m a w0 o p r H
end Go.Proofs.YtoflbpmbkmephaaGreatDoor
namespace Go.Proofs.YtoflbpmbkmephaaGreatDoor
open Go.RowKit
open Go.Lib (decDigits)
theorem Lx (c : UInt8) : ∀ l : List (List UInt8), Lib.join l [c] = C1 c l
  | [] => rfl
  | [p] => Lib.join_one p [c]
  | p :: q :: ps => by
    have ih := Lx c (q :: ps)
    rw [Lib.join_cons] at ih ⊢
    show p ++ Lib.joinTail [c] (q :: ps) = p ++ c :: C1 c (q :: ps)
    rw [← ih]
    simp [Lib.joinTail]
theorem O0 (c : UInt8) : ∀ l : List (List UInt8), (C1 c l).length ≤ (l.map List.length).sum + l.length
  | [] => by simp [C1]
  | [p] => by simp [C1]
  | p :: q :: ps => by
    have ih := O0 c (q :: ps)
    simp only [C1, List.length_append, List.length_cons, List.map_cons, List.sum_cons] at ih ⊢
    omega
def finB (n : Int) : Bool := decide (0 ≤ n) && decide (n ≤ 1099511627776)
theorem B6 {w : Str} {m : Nat} (h : Q9 w = some m) : Br (m : Int) = w ∧ finB (m : Int) = true := by
  obtain ⟨h1, h2⟩ := Cv h
  unfold Bf at h2
  refine ⟨?_, ?_⟩
  · unfold Br
    rw [if_pos (by omega), Int.toNat_natCast]
    exact h1
  · unfold finB
    rw [decide_eq_true (by omega), decide_eq_true (by omega)]
    rfl
theorem Ci (n : Int) : (Br n).length ≤ 13 := by
  unfold Br
  split
  · exact Oh (by unfold Bf; omega)
  · simp
theorem Sz {s : Str} (h : Fh s = true) : s.length ≤ 20 := by
  unfold Fh at h
  simp only [Bool.and_eq_true, decide_eq_true_eq] at h
  omega
def sfx (c : UInt8) (s : Str) : Str × Bool := if s.getLast? = some c then (s.dropLast, true) else (s, false)
theorem lSfx (c : UInt8) (s : Str) (h : s.length ≤ 1000000) : Nh s [c] = some (sfx c s) := by
  have hs : Zu s [c] = some (decide (s.getLast? = some c)) := by
    unfold Zu Zb
    by_cases h0 : s = []
    · subst h0; rfl
    · have hp := List.length_pos_iff.2 h0
      rw [decide_eq_true (show ((s.length : Nat) : Int) ≥ ((([c] : List UInt8).length : Nat) : Int) by simp; omega), show IntKind.wrap .i64 (((s.length : Nat) : Int) - ((([c] : List UInt8).length : Nat) : Int)) = ((s.length - 1 : Nat) : Int) by rw [J5 (by simp; omega)]; simp; omega, Bn s (by omega) (Nat.le_refl _)]
      simp only [cond_true, Option.bind_some, List.take_length]
      congr 1
      obtain ⟨a, x, rfl⟩ : ∃ a x, s = a ++ [x] := ⟨s.dropLast, s.getLast h0, (List.dropLast_concat_getLast h0).symm⟩
      rw [show (a ++ [x]).length - 1 = a.length by simp, List.drop_left, List.getLast?_append]
      by_cases hx : x = c
      · subst hx; simp
      · rw [beq_eq_false_iff_ne.2 (by simpa using hx)]
        symm
        rw [decide_eq_false_iff_not]
        simpa using hx
  unfold Nh X7
  rw [hs]
  unfold sfx
  by_cases hc : s.getLast? = some c
  · have h0 : s ≠ [] := fun e => by rw [e] at hc; cases hc
    have hp := List.length_pos_iff.2 h0
    have s1 := Bn s (i := 0) (j := s.length - 1) (by omega) (by omega)
    rw [show ((0 : Nat) : Int) = 0 from rfl] at s1
    rw [if_pos hc, decide_eq_true hc]
    simp only [Option.bind_some, Bool.not_true, cond_false]
    rw [show IntKind.wrap .i64 (((s.length : Nat) : Int) - ((([c] : List UInt8).length : Nat) : Int)) = ((s.length - 1 : Nat) : Int) by rw [J5 (by simp; omega)]; simp; omega, s1]
    simp only [Option.bind_some, List.drop_zero]
    rw [List.dropLast_eq_take]
  · rw [if_neg hc, decide_eq_false hc]
    rfl
theorem byte32 (c : UInt8) : (((c.toNat : Nat) : Int) == 32) = (c == 32) := by
  by_cases h : c = 32
  · subst h; rfl
  · rw [beq_eq_false_iff_ne.2 h, beq_eq_false_iff_ne]
    intro e
    apply h
    apply UInt8.toNat_inj.1
    show c.toNat = 32
    omega
theorem Fk (c : UInt8) (s : List UInt8) (a k : Nat) (hk : k < s.length) (ha : a ≤ k) (hx : s[k] = c) (hn : c ∉ (s.take k).drop a) : Q3 c (s.drop a) = (s.take k).drop a :: Q3 c (s.drop (k + 1)) := by
  have : s.drop a = (s.take k).drop a ++ c :: s.drop (k + 1) := by
    have h1 : s = s.take k ++ s.drop k := (List.take_append_drop k s).symm
    have h2 : s.drop k = c :: s.drop (k + 1) := by rw [List.drop_eq_getElem_cons hk, hx]
    conv => lhs; rw [h1]
    rw [List.drop_append_of_le_length (by rw [List.length_take]; omega), h2]
  rw [this, Lt c _ _ hn]
theorem Hx (c : UInt8) (s : List UInt8) (a k : Nat) (hk : k < s.length) (ha : a ≤ k) (hx : s[k] ≠ c) (hn : c ∉ (s.take k).drop a) : c ∉ (s.take (k + 1)).drop a := by
  rw [List.take_succ_eq_append_getElem hk, List.drop_append_of_le_length (by rw [List.length_take]; omega), List.mem_append]
  rintro (h | h)
  · exact hn h
  · exact hx (List.mem_singleton.1 h).symm
theorem P1 (s : List UInt8) (hs : s.length ≤ 9000) : ∀ (d k f a : Nat) (out : List (List UInt8)), d = s.length + 1 - k → k ≤ s.length + 1 → d < f → a ≤ k → out.length ≤ k →
    (k ≤ s.length → (32 : UInt8) ∉ (s.take k).drop a ∧ Q3 32 s = out ++ Q3 32 (s.drop a)) → (k = s.length + 1 → out = Q3 32 s) →
    Zg s f out ((a : Nat) : Int) ((k : Nat) : Int) = some (Q3 32 s) := by
  intro d
  induction d with
  | zero =>
    intro k f a out h1 h2 h3 h4 h5 h6 h7
    obtain ⟨f, rfl⟩ : ∃ g, f = g + 1 := ⟨f - 1, by omega⟩
    show Xt (Zg s f) s _ _ _ = _
    unfold Xt
    rw [show decide (((k : Nat) : Int) ≤ ((s.length : Nat) : Int)) = false by rw [decide_eq_false_iff_not]; omega, h7 (by omega)]
    rfl
  | succ d ih =>
    intro k f a out h1 h2 h3 h4 h5 h6 h7
    obtain ⟨f, rfl⟩ : ∃ g, f = g + 1 := ⟨f - 1, by omega⟩
    obtain ⟨h6, h8⟩ := h6 (by omega)
    have w1 : IntKind.wrap .i64 (((k : Nat) : Int) + 1) = ((k + 1 : Nat) : Int) := by rw [J5 (by omega)]; omega
    show Xt (Zg s f) s _ _ _ = _
    unfold Xt
    rw [show decide (((k : Nat) : Int) ≤ ((s.length : Nat) : Int)) = true by rw [decide_eq_true_eq]; omega]
    have hsub := Bn s (i := a) (j := k) h4 (by omega)
    by_cases hk : k = s.length
    · rw [show (((k : Nat) : Int) == ((s.length : Nat) : Int)) = true by rw [beq_iff_eq]; omega]
      simp only [cond_true, Xs, hsub, Option.bind_some]
      rw [Ur (by simp; omega), w1]
      simp only [Option.bind_some, Xr, w1]
      refine ih (k + 1) f (k + 1) _ (by omega) (by omega) (by omega) (by omega) (by simp; omega) (fun h => by omega) fun _ => ?_
      rw [h8]
      congr 1
      rw [Ic 32 (s.drop a) (by rw [hk, List.take_length] at h6; exact h6), hk, List.take_length]
    · have hlt : k < s.length := by omega
      rw [show (((k : Nat) : Int) == ((s.length : Nat) : Int)) = false by rw [beq_eq_false_iff_ne]; omega, Zr hlt]
      simp only [cond_true, cond_false, Option.bind_some, byte32]
      cases hx : (s[k] == 32) with
      | true =>
        have hx := eq_of_beq hx
        simp only [Xs, cond_true, hsub, Option.bind_some]
        rw [Ur (by simp; omega), w1]
        simp only [Option.bind_some, Xr, w1]
        refine ih (k + 1) f (k + 1) _ (by omega) (by omega) (by omega) (by omega) (by simp; omega) (fun _ => ⟨by simp, ?_⟩) fun h => by omega
        rw [h8, Fk 32 s a k hlt h4 hx h6]
        simp
      | false =>
        have hx : s[k] ≠ 32 := by simpa using hx
        simp only [Xs, cond_false, Xr, w1]
        exact ih (k + 1) f a out (by omega) (by omega) (by omega) (by omega) (by omega) (fun _ => ⟨Hx 32 s a k hlt h4 hx h6, h8⟩) fun h => by omega
theorem rWords (s : List UInt8) (hs : s.length ≤ 9000) : Gt s = some (Q3 32 s) :=
  P1 s hs (s.length + 1) 0 Zj 0 [] (by omega) (by omega) (by unfold Zj; omega) (by omega) (by simp) (fun _ => ⟨by simp, by simp⟩) (fun h => by omega)
end Go.Proofs.YtoflbpmbkmephaaGreatDoor
namespace Go.Proofs.YtoflbpmbkmephaaGreatDoor
open Go.RowKit
open Go.MapKept (findNow_spec run_findKey run_checkKey IsKey Stamped stamped_push stamped_empty)
open Go.ChangeMaps (setBlock)
abbrev KV := List (Value × Value)
structure TabOk (m : Nat) (L : KV) (es : Array MapEntry) (clock : Nat) (w : World) : Prop where
  heap : w.heap[m]? = some (.map es clock)
  ents : es.toList.map (fun e => (e.key, e.val)) = L
  st : Stamped es clock
def Ts (m : Nat) (L : KV) : Ent := ⟨[m], fun w => ∃ es clock, TabOk m L es clock w, fun w w' hk ⟨es, clock, h⟩ => ⟨es, clock, (hk m (by simp)).trans h.heap, h.ents, h.st⟩⟩
def En (d : TypeDesc) (k : Value) : KV → Nat → Option (Option (Nat × Value))
  | [], _ => some none
  | x :: l, i => match Instr.sameNow d k x.1 with
    | some true => some (some (i, x.2))
    | some false => En d k l (i + 1)
    | none => none
theorem Eo {d : TypeDesc} {k : Value} : ∀ (es : List MapEntry) (L : KV) (i : Nat), es.map (fun e => (e.key, e.val)) = L → Instr.findNow d k es i = En d k L i
  | [], L, i, h => by simp at h; subst h; rfl
  | e :: es, L, i, h => by
    cases L with
    | nil => simp at h
    | cons x L =>
      simp only [List.map_cons, List.cons.injEq] at h
      obtain ⟨rfl, h⟩ := h
      simp only [Instr.findNow, En]
      cases Instr.sameNow d k e.key with
      | none => rfl
      | some b => cases b with
        | true => rfl
        | false => exact Eo es L (i + 1) h
def keyB : TypeDesc → Value → Bool
  | .int k, .int k' _ => decide (k' = k)
  | .string, .string _ => true
  | _, _ => false
theorem Kt {d : TypeDesc} {v : Value} (h : keyB d v = true) : IsKey d v := by
  cases d <;> cases v <;> simp_all [keyB, IsKey]
section
variable {P : Program} {n : Nat} {B : Code} {p : List Bool} {o : Nat} {K : Fr → World → Prop} {ρ : Fr} {w w0 : World} {ens : List Ent} {S : List Nat} {m b : Nat} {L : KV} {dst : Option Nat} {k v : Value} {i : Nat} {kt et : TypeId} {d : TypeDesc}
theorem Tt {T : TypeId} (ho : Bl (Qi B p) o ρ = some (.makeMap T none, dst)) (hd : Jn n dst = true) (hs : SP S w0 w ens)
    (next : ∀ (m : Nat) (w' : World), SP S w0 w' (ens ++ [Ts m []]) → K (Rh ρ dst (.map (some m))) w') : Qx P n B p o K ρ w := by
  refine Qx.val ho hd (w' := w.alloc (.map #[] 0)) (v := .map (some w.heap.size)) (fun o hop => ?_) (next w.heap.size _ (hs.push ((Below.refl _ _).alloc (Nat.le_refl _) _) ⟨#[], 0, heap_alloc_new w _, rfl, stamped_empty 0⟩ fun k hk => ?_))
  · unfold execOp; rw [hop]
    simp only [Instr.makeMap, Sem.run_bind, Sem.run_pure, run_newObj, Result.andThen_ok]
    rfl
  · have : k = w.heap.size := by simpa [Ts] using hk
    subst this
    simp
theorem Hy {T : TypeId} {x ix y : Operand} (ho : Bl (Qi B p) o ρ = some (.insert T x ix y, dst)) (hd : Jn n dst = true) (hx : opv ρ x = .map (some m)) (hix : opv ρ ix = k) (hy : opv ρ y = v)
    (hT : P.underlying T = some (.map kt et)) (hkt : P.underlying kt = some d) (hk : keyB d k = true) (hL : L.all (fun x => keyB d x.1) = true) (hf : En d k L 0 = some none)
    (hs : SP S w0 w ens) (hi : ens[i]? = some (Ts m L)) (next : ∀ (w' : World), SP S w0 w' (ens.set i (Ts m (L ++ [(k, v)]))) → K (Rh ρ dst undef) w') : Qx P n B p o K ρ w := by
  obtain ⟨es, clock, h⟩ := hs.get hi
  have hck := run_checkKey (P := P) (w := w) hkt (Kt hk) false 9999
  have hfn : Instr.findNow d k es.toList 0 = some none := (Eo es.toList L 0 h.ents).trans hf
  have hfk := run_findKey (P := P) (w := w) hkt hfn
  have hne : ∀ e ∈ es.toList, e.key ≠ k := by
    have hall : ∀ e ∈ es.toList, IsKey d e.key := fun e he => by
      rw [List.all_eq_true] at hL
      exact Kt (hL (e.key, e.val) (by rw [← h.ents]; exact List.mem_map.2 ⟨e, he, rfl⟩))
    rcases findNow_spec (Kt hk) es.toList 0 hall with ⟨_, h2⟩ | ⟨j, e, h1, _⟩
    · exact h2
    · rw [hfn] at h1; cases h1
  have hset := (Go.MapKept.heap_set (o' := .map (es.push { key := k, val := v, born := clock }) (clock + 1)) h.heap)
  refine I6 ho hd (w' := { w with heap := w.heap.setIfInBounds m (.map (es.push { key := k, val := v, born := clock }) (clock + 1)) }) (fun o hop => ?_) (next _ ?_)
  · unfold execOp; rw [hop]
    simp only [hx, hix, hy, Instr.mapUpdate, Sem.run_bind, run_underlying hT, Go.MapKept.run_getObj_map h.heap, hck, hfk, Go.MapKept.run_setObj_map _ h.heap, Result.andThen_ok]
    rfl
  · refine hs.set hi (T := [m]) ⟨rfl, rfl, rfl, by simp, fun q _ hq => hset.2 q (by simpa using hq)⟩ (fun k hk => hk) ⟨_, _, hset.1, by rw [Array.toList_push, List.map_append, h.ents]; rfl, stamped_push h.st hne⟩ fun q hq => ⟨.inl hq, ?_⟩
    have := ((hs.own.get hi).2 q hq).2
    simpa using this
theorem Ku {T : TypeId} {x ix : Operand} (ho : Bl (Qi B p) o ρ = some (.lookup T x ix true, dst)) (hd : Jn n dst = true) (hx : opv ρ x = .map (some m)) (hix : opv ρ ix = k)
    (hT : P.underlying T = some (.map kt et)) (hkt : P.underlying kt = some d) (hk : keyB d k = true) (hf : ∃ j, En d k L 0 = some (some (j, v))) (h : (Ts m L).ok w)
    (next : K (Rh ρ dst (.tuple #[v, .bool true])) w) : Qx P n B p o K ρ w := by
  obtain ⟨es, clock, h⟩ := h
  obtain ⟨j, hf⟩ := hf
  have hck := run_checkKey (P := P) (w := w) hkt (Kt hk) es.isEmpty 9999
  have hfk := run_findKey (P := P) (w := w) hkt ((Eo es.toList L 0 h.ents).trans hf)
  refine Qx.val ho hd (fun o hop => ?_) next
  unfold execOp; rw [hop]
  simp only [hx, hix, Instr.lookup, Sem.run_bind, run_underlying hT, Go.MapKept.run_getObj_map h.heap, hck, hfk, Result.andThen_ok, Sem.run_pure]
  rfl
theorem Kv {T : TypeId} {x ix : Operand} (ho : Bl (Qi B p) o ρ = some (.lookup T x ix true, dst)) (hd : Jn n dst = true) (hx : opv ρ x = .map (some m)) (hix : opv ρ ix = k)
    (hT : P.underlying T = some (.map kt et)) (hkt : P.underlying kt = some d) (hz : ∀ w, (zeroValue et).run P w = .ok v w) (hk : keyB d k = true) (hf : En d k L 0 = some none) (h : (Ts m L).ok w)
    (next : K (Rh ρ dst (.tuple #[v, .bool false])) w) : Qx P n B p o K ρ w := by
  obtain ⟨es, clock, h⟩ := h
  have hck := run_checkKey (P := P) (w := w) hkt (Kt hk) es.isEmpty 9999
  have hfk := run_findKey (P := P) (w := w) hkt ((Eo es.toList L 0 h.ents).trans hf)
  refine Qx.val ho hd (fun o hop => ?_) next
  unfold execOp; rw [hop]
  simp only [hx, hix, Instr.lookup, Sem.run_bind, run_underlying hT, Go.MapKept.run_getObj_map h.heap, hck, hfk, hz, Result.andThen_ok, Sem.run_pure]
  rfl
end
section
variable {P : Program} {n : Nat} {B : Code} {p : List Bool} {o : Nat} {K : Fr → World → Prop} {ρ : Fr} {w w0 : World} {ens : List Ent} {S : List Nat} {m b q : Nat} {L : KV} {dst : Option Nat} {i : Nat} {kt et : TypeId} {φ : Value × Value → Prop}
end
end Go.Proofs.YtoflbpmbkmephaaGreatDoor
namespace Go.Proofs.YtoflbpmbkmephaaGreatDoor
open Go.RowKit
section
variable {S : List Nat} {B : Nat} {w w' w0 : World} {es es' : List Ent}
theorem HL.mk : ∀ {es : List Ent}, (∀ (i : Nat) (e : Ent), es[i]? = some e → e.ok w ∧ ∀ k ∈ e.fp, (B ≤ k ∨ k ∈ S) ∧ k < w.heap.size) → (∀ (i j : Nat) (e e' : Ent), i < j → es[i]? = some e → es[j]? = some e' → ∀ k ∈ e.fp, k ∉ e'.fp) → HL S B w es
  | [], _, _ => trivial
  | e :: es, h1, h2 => ⟨(h1 0 e rfl).1, fun k hk => ⟨((h1 0 e rfl).2 k hk).1, ((h1 0 e rfl).2 k hk).2, fun e' he' => by
      obtain ⟨j, hj⟩ := List.mem_iff_getElem?.1 he'
      exact h2 0 (j + 1) e e' (by omega) rfl (by simpa using hj) k hk⟩, HL.mk (fun i e' hi => h1 (i + 1) e' (by simpa using hi)) fun i j e1 e2 hij h3 h4 => h2 (i + 1) (j + 1) e1 e2 (by omega) (by simpa using h3) (by simpa using h4)⟩
theorem SP.turn2 (h : SP S w0 w es) {i : Nat} {e e1 e2 : Ent} (hi : es[i]? = some e) (h1 : e1.ok w) (h2 : e2.ok w) (hf1 : ∀ k ∈ e1.fp, k ∈ e.fp ∧ k ∉ e2.fp) (hf2 : ∀ k ∈ e2.fp, k ∈ e.fp) (he : es' = es.set i e1 ++ [e2]) : SP S w0 w es' := by
  subst he
  have hg := h.own.get hi
  have ht := h.turnE hi h1 fun k hk => (hf1 k hk).1
  refine ⟨ht.mod, ht.own.append ⟨h2, fun k hk => ⟨(hg.2 k (hf2 k hk)).1, (hg.2 k (hf2 k hk)).2, by simp⟩, trivial⟩ ?_⟩
  intro f hf k hk f' hf' hk'
  simp only [List.mem_singleton] at hf'
  subst hf'
  obtain ⟨j, hj⟩ := List.mem_iff_getElem?.1 hf
  rw [List.getElem?_set] at hj
  split at hj
  · split at hj
    · injection hj with hj
      subst hj
      exact (hf1 k hk).2 hk'
    · cases hj
  · exact h.own.apart hj hi (by omega) k hk (hf2 k hk')
theorem SP.join2 (h : SP S w0 w es) {i j : Nat} {e e1 e2 : Ent} (hi : es[i]? = some e1) (hj : es[j]? = some e2) (hij : i ≠ j) (hok : e.ok w) (hfp : ∀ k ∈ e.fp, k ∈ e1.fp ∨ k ∈ e2.fp) (he : es' = (es.set i e).eraseIdx j) : SP S w0 w es' := by
  subst he
  have g1 := h.own.get hi
  have g2 := h.own.get hj
  have hset : ∀ n x, (es.set i e)[n]? = some x → (n = i ∧ x = e) ∨ (n ≠ i ∧ es[n]? = some x) := by
    intro n x hx
    rw [List.getElem?_set] at hx
    split at hx
    · split at hx
      · injection hx with hx
        exact .inl ⟨by omega, hx.symm⟩
      · cases hx
    · exact .inr ⟨by omega, hx⟩
  have hget : ∀ n x, ((es.set i e).eraseIdx j)[n]? = some x → ∃ m, m ≠ j ∧ m = (if n < j then n else n + 1) ∧ ((m = i ∧ x = e) ∨ (m ≠ i ∧ es[m]? = some x)) := by
    intro n x hx
    rw [List.getElem?_eraseIdx] at hx
    split at hx
    · rename_i hlt
      exact ⟨n, by omega, by rw [if_pos hlt], hset n x hx⟩
    · rename_i hlt
      exact ⟨n + 1, by omega, by rw [if_neg hlt], hset (n + 1) x hx⟩
  refine ⟨h.mod, HL.mk ?_ ?_⟩
  · intro n x hx
    obtain ⟨m, hm, _, hc⟩ := hget n x hx
    rcases hc with ⟨_, rfl⟩ | ⟨_, hc⟩
    · refine ⟨hok, fun k hk => ?_⟩
      rcases hfp k hk with h1 | h1
      · exact g1.2 k h1
      · exact g2.2 k h1
    · exact h.own.get hc
  · intro n1 n2 x1 x2 hlt hx1 hx2 k hk1 hk2
    obtain ⟨m1, hm1, hq1, hc1⟩ := hget n1 x1 hx1
    obtain ⟨m2, hm2, hq2, hc2⟩ := hget n2 x2 hx2
    have hne : m1 ≠ m2 := by
      rw [hq1, hq2]
      split <;> split <;> omega
    rcases hc1 with ⟨e1', rfl⟩ | ⟨e1', hc1⟩
    · rcases hc2 with ⟨e2', rfl⟩ | ⟨e2', hc2⟩
      · omega
      · rcases hfp k hk1 with h1 | h1
        · exact h.own.apart hi hc2 (by omega) k h1 hk2
        · exact h.own.apart hj hc2 (by omega) k h1 hk2
    · rcases hc2 with ⟨e2', rfl⟩ | ⟨e2', hc2⟩
      · rcases hfp k hk2 with h1 | h1
        · exact h.own.apart hc1 hi (by omega) k hk1 h1
        · exact h.own.apart hc1 hj (by omega) k hk1 h1
      · exact h.own.apart hc1 hc2 hne k hk1 hk2
end
def blkA (A : Option Addr) : List Nat := match A with | some a => [a.block] | none => []
def Le (y : Qg) : List Nat := blkA y.2.2.2.1.1 ++ blkA y.2.2.2.2.1
theorem Gb {α : Type} {E : TypeId} {e : Enc α} {A : Option Addr} {c : Nat} {l : List α} : (Vh E e A c l).fp = blkA A := by cases A <;> rfl
abbrev Lf (y : Qg) : Ent := Vh 102 eNet y.2.2.2.1.1 y.2.2.2.1.2.1 y.2.2.2.1.2.2
abbrev Lg (y : Qg) : Ent := Vh 37 eTok y.2.2.2.2.1 y.2.2.2.2.2.1 y.2.2.2.2.2.2
def P2 (d : List Qg) (w : World) : Prop := (∀ y ∈ d, (Lf y).ok w ∧ (Lg y).ok w) ∧ (d.flatMap Le).Nodup
def It (d : List Qg) : Ent := ⟨d.flatMap Le, P2 d, fun w w' hk h => ⟨fun y hy => by
    have hs : ∀ k ∈ Le y, w'.heap[k]? = w.heap[k]? := fun k hm => hk k (List.mem_flatMap.2 ⟨y, hy, hm⟩)
    refine ⟨(Lf y).loc w w' (fun k hm => hs k ?_) (h.1 y hy).1, (Lg y).loc w w' (fun k hm => hs k ?_) (h.1 y hy).2⟩
    · rw [Gb] at hm; exact List.mem_append_left _ hm
    · rw [Gb] at hm; exact List.mem_append_right _ hm, h.2⟩⟩
def TenOk (A : Option Addr) (c : Nat) (d : List Qg) (w : World) : Prop := (Vh 33 Vu A c d).ok w ∧ P2 d w ∧ (blkA A ++ d.flatMap Le).Nodup
def Da (A : Option Addr) (c : Nat) (d : List Qg) : Ent := ⟨blkA A ++ d.flatMap Le, TenOk A c d, fun w w' hk h => ⟨(Vh 33 Vu A c d).loc w w' (fun k hm => hk k (List.mem_append_left _ (by rw [Gb] at hm; exact hm))) h.1, (It d).loc w w' (fun k hm => hk k (List.mem_append_right _ hm)) h.2.1, h.2.2⟩⟩
section
variable {S : List Nat} {w w' w0 : World} {es es' : List Ent} {A : Option Addr} {c : Nat} {d d0 : List Qg} {y : Qg} {F : List Nat} {l : List Qb} {i j k : Nat}
theorem TenOk.rd (h : TenOk A c d w) : (dDS Vu Fv).ok w (A, c, d) := ⟨Qz h.1, fun y hy => ⟨trivial, trivial, trivial, ⟨Qz (h.2.1.1 y hy).1, fun _ _ => trivial⟩, ⟨Qz (h.2.1.1 y hy).2, fun _ _ => trivial⟩⟩⟩
theorem D6 (h : (Da A c d).ok w) : (dDS Vu Fv).ok w (A, c, d) := TenOk.rd h
theorem SP.openT (h : SP S w0 w es) (hi : es[i]? = some (Da A c d)) (he : es' = es.set i (Vh 33 Vu A c d) ++ [It d]) : SP S w0 w es' := by
  obtain ⟨h1, h2, h3⟩ := h.get hi
  refine h.turn2 hi h1 h2 (fun k hk => ?_) (fun k hk => List.mem_append_right _ hk) he
  rw [Gb] at hk
  refine ⟨List.mem_append_left _ hk, fun hk' => ?_⟩
  exact (List.nodup_append.1 h3).2.2 k hk k hk' rfl
theorem SP.closeT (h : SP S w0 w es) (hi : es[i]? = some (Vh 33 Vu A c d)) (hj : es[j]? = some (It d)) (hij : i ≠ j) (he : es' = (es.set i (Da A c d)).eraseIdx j) : SP S w0 w es' := by
  have h1 := h.get hi
  have h2 : P2 d w := h.get hj
  have h3 := h.own.apart hi hj hij
  rw [Gb] at h3
  refine h.join2 (e := Da A c d) hi hj hij ⟨h1, h2, ?_⟩ (fun k hk => ?_) he
  · refine List.nodup_append.2 ⟨?_, h2.2, fun a ha b hb hab => h3 a ha (hab ▸ hb)⟩
    cases A <;> simp [blkA]
  · rw [Gb]
    exact List.mem_append.1 hk
theorem SP.innMore (h : SP S w0 w es) (hj : es[j]? = some (It d)) (hy : y.2.2.2 = ((none, 0, []), (none, 0, []))) : SP S w0 w (es.set j (It (d ++ [y]))) := by
  obtain ⟨nm, a, b, x⟩ := y
  have hy : x = ((none, 0, []), (none, 0, [])) := hy
  subst hy
  have hok : P2 d w := h.get hj
  have hfm : (d ++ [(nm, a, b, (none, 0, []), (none, 0, []))]).flatMap Le = d.flatMap Le := by simp [List.flatMap_append, Le, blkA]
  refine h.turnE hj ⟨fun z hz => ?_, by rw [hfm]; exact hok.2⟩ fun k hk => ?_
  · rcases List.mem_append.1 hz with hz | hz
    · exact hok.1 z hz
    · rw [List.mem_singleton] at hz
      subst hz
      exact ⟨World.ownsRow_nil w 0 _ _, World.ownsRow_nil w 0 _ _⟩
  · have hk : k ∈ (d ++ [(nm, a, b, (none, 0, []), (none, 0, []))]).flatMap Le := hk
    rw [hfm] at hk
    exact hk
theorem SP.splitI (h : SP S w0 w es) (hj : es[j]? = some (It (d0 ++ [y]))) (he : es' = es.set j (It d0) ++ [Lf y] ++ [Lg y]) : SP S w0 w es' := by
  have hok : P2 (d0 ++ [y]) w := h.get hj
  obtain ⟨h1, h2⟩ := hok
  have hfm : (d0 ++ [y]).flatMap Le = d0.flatMap Le ++ Le y := by simp [List.flatMap_append]
  rw [hfm] at h2
  obtain ⟨n1, n2, n3⟩ := List.nodup_append.1 h2
  obtain ⟨m1, m2, m3⟩ := List.nodup_append.1 n2
  have hlt : j < es.length := (List.getElem?_eq_some_iff.1 hj).1
  have hy := h1 y (by simp)
  have hfp : (It (d0 ++ [y])).fp = d0.flatMap Le ++ Le y := hfm
  let eL : Ent := ⟨d0.flatMap Le ++ blkA y.2.2.2.1.1, fun w => (It d0).ok w ∧ (Lf y).ok w, fun w w' hk hh => ⟨(It d0).loc w w' (fun k hm => hk k (List.mem_append_left _ hm)) hh.1, (Lf y).loc w w' (fun k hm => hk k (List.mem_append_right _ (by rw [Gb] at hm; exact hm))) hh.2⟩⟩
  have hI : P2 d0 w := ⟨fun z hz => h1 z (List.mem_append_left _ hz), n1⟩
  have s1 : SP S w0 w (es.set j eL ++ [Lg y]) := h.turn2 hj (e1 := eL) ⟨hI, hy.1⟩ hy.2
    (fun k hk => by
      rw [Gb, hfp]
      rcases List.mem_append.1 hk with hk | hk
      · exact ⟨List.mem_append_left _ hk, fun hk' => n3 k hk k (List.mem_append_right _ hk') rfl⟩
      · exact ⟨List.mem_append_right _ (List.mem_append_left _ hk), fun hk' => m3 k hk k hk' rfl⟩)
    (fun k hk => by rw [Gb] at hk; rw [hfp]; exact List.mem_append_right _ (List.mem_append_right _ hk)) rfl
  have s2 : SP S w0 w (es.set j eL ++ [Lg y]).dropLast := s1.erase (es.length) (by simp [List.eraseIdx_append_of_length_le])
  rw [List.dropLast_concat] at s2
  have hjL : (es.set j eL)[j]? = some eL := by simp [hlt]
  have s3 : SP S w0 w (es.set j (It d0) ++ [Lf y]) := by
    refine s2.turn2 hjL hI hy.1 (fun k hk => ⟨List.mem_append_left _ hk, fun hk' => ?_⟩) (fun k hk => ?_) (by rw [List.set_set])
    · rw [Gb] at hk'
      exact n3 k hk k (List.mem_append_left _ hk') rfl
    · rw [Gb] at hk
      exact List.mem_append_right _ hk
  subst he
  refine ⟨s3.mod, s3.own.append ⟨hy.2, fun k hk => ?_, trivial⟩ ?_⟩
  · have := (h.own.get hj).2 k (by rw [Gb] at hk; rw [hfp]; exact List.mem_append_right _ (List.mem_append_right _ hk))
    exact ⟨this.1, this.2, by simp⟩
  · intro f hf k hk f' hf' hk'
    simp only [List.mem_singleton] at hf'
    subst hf'
    have hk2 := hk'
    rw [Gb] at hk'
    have hmem : k ∈ (It (d0 ++ [y])).fp := by rw [hfp]; exact List.mem_append_right _ (List.mem_append_right _ hk')
    rcases List.mem_append.1 hf with hf | hf
    · obtain ⟨n, hn⟩ := List.mem_iff_getElem?.1 hf
      rw [List.getElem?_set] at hn
      split at hn
      · rename_i hjn
        subst hjn
        injection hn with hn
        subst hn
        exact n3 k hk k (List.mem_append_right _ hk') rfl
      · exact h.own.apart hn hj (by omega) k hk hmem
    · simp only [List.mem_singleton] at hf
      subst hf
      rw [Gb] at hk
      exact m3 k hk k hk' rfl
theorem SP.joinI (h : SP S w0 w es) (hi : es[i]? = some (It d0)) (hj : es[j]? = some (Lf y)) (hk : es[k]? = some (Lg y)) (hij : i < j) (hjk : j < k) (he : es' = ((es.set i (It (d0 ++ [y]))).eraseIdx k).eraseIdx j) : SP S w0 w es' := by
  have hik : i < k := by omega
  have h1 : P2 d0 w := h.get hi
  have h2 := h.get hj
  have h3 := h.get hk
  have a1 := h.own.apart hi hj (by omega)
  have a2 := h.own.apart hi hk (by omega)
  have a3 := h.own.apart hj hk (by omega)
  rw [Gb] at a3
  let eL : Ent := ⟨d0.flatMap Le ++ blkA y.2.2.2.2.1, fun w => (It d0).ok w ∧ (Lg y).ok w, fun w w' hk hh => ⟨(It d0).loc w w' (fun k hm => hk k (List.mem_append_left _ hm)) hh.1, (Lg y).loc w w' (fun k hm => hk k (List.mem_append_right _ (by rw [Gb] at hm; exact hm))) hh.2⟩⟩
  have s1 : SP S w0 w ((es.set i eL).eraseIdx k) := h.join2 hi hk (by omega) (e := eL) ⟨h1, h3⟩ (fun q hq => by
    rw [Gb]
    exact List.mem_append.1 hq) rfl
  have hlt : i < es.length := (List.getElem?_eq_some_iff.1 hi).1
  have hj' : ((es.set i eL).eraseIdx k)[j]? = some (Lf y) := by
    rw [List.getElem?_eraseIdx, if_pos hjk, List.getElem?_set, if_neg (by omega)]
    exact hj
  have hi' : ((es.set i eL).eraseIdx k)[i]? = some eL := by
    rw [List.getElem?_eraseIdx, if_pos hik, List.getElem?_set, if_pos rfl, if_pos hlt]
  refine s1.join2 hi' hj' (by omega) (e := It (d0 ++ [y])) ⟨fun z hz => ?_, ?_⟩ (fun q hq => ?_) ?_
  · rcases List.mem_append.1 hz with hz | hz
    · exact h1.1 z hz
    · rw [List.mem_singleton] at hz
      subst hz
      exact ⟨h2, h3⟩
  · have hfm : (d0 ++ [y]).flatMap Le = d0.flatMap Le ++ Le y := by simp [List.flatMap_append]
    rw [hfm]
    refine List.nodup_append.2 ⟨h1.2, List.nodup_append.2 ⟨?_, ?_, fun a ha b hb hab => a3 a ha (by rw [Gb]; exact hab ▸ hb)⟩, fun a ha b hb hab => ?_⟩
    · cases y.2.2.2.1.1 <;> simp [blkA]
    · cases y.2.2.2.2.1 <;> simp [blkA]
    · subst hab
      rcases List.mem_append.1 hb with hb | hb
      · exact a1 a ha (by rw [Gb]; exact hb)
      · exact a2 a ha (by rw [Gb]; exact hb)
  · have hq : q ∈ (d0 ++ [y]).flatMap Le := hq
    rw [Gb]
    simp only [List.flatMap_append, List.mem_append, List.flatMap_cons, List.flatMap_nil, Le, List.append_nil] at hq
    rcases hq with hq | hq | hq
    · exact .inl (List.mem_append_left _ hq)
    · exact .inr hq
    · exact .inl (List.mem_append_right _ hq)
  · rw [he, List.eraseIdx_set_gt hik, List.eraseIdx_set_gt hik, List.set_set]
end
section
variable {P : Program} {n : Nat} {ρ : Fr} {w w0 : World} {B : Code} {p : List Bool} {k : Nat} {K : Fr → World → Prop}
theorem Lh {α : Type} {e : Enc α} {S : List Nat} {w0 : World} {es : List Ent} {i b off c f q : Nat} {d : Option Nat} {t E : TypeId} {x y : Operand} {A : Option Addr} {l : List α} {v : Value} {x0 x' : α}
    (ho : Bl (Qi B p) k ρ = some (.store t x y, d)) (hd : Jn n d = true) (hA : A = some ⟨b, off, none⟩) (hx : opv ρ x = .pointer (some ⟨b, off + q * e.sz + f, none⟩)) (hy : opv ρ y = v)
    (hs : SP S w0 w es) (hi : es[i]? = some (Vh E e A c l)) (hl : l[q]? = some x0) (hf : f < e.sz) (hv : e.enc x' = (e.enc x0).set f v) (ht : (P.info? t).map (·.size) = some 1)
    (next : ∀ w' : World, SP S w0 w' (es.set i (Vh E e A c (l.set q x'))) → K (Rh ρ d undef) w') : Qx P n B p k K ρ w := by
  subst hy hA
  have hown : w.ownsRow 0 E e.sz (.slice (some ⟨b, off, none⟩) l.length c) l.length (Vm e l) := hs.get hi
  have hoff : off = 0 := by
    rcases hown.2 with ⟨hn, _⟩ | ⟨g, cap, cur, hn, _⟩
    · cases hn
    · injection hn with h1 _ _
      injection h1 with h1
      injection h1
  subst hoff
  have hlt : q < l.length := (List.getElem?_eq_some_iff.1 hl).1
  have hqf : q * e.sz + f < l.length * e.sz := by
    have : (q + 1) * e.sz ≤ l.length * e.sz := Nat.mul_le_mul_right _ hlt
    rw [Nat.succ_mul] at this
    omega
  have hcellx : ∃ u, w.cell? ⟨b, q * e.sz + f, none⟩ = some u := by
    have := World.ownsRow.cellAt (g := b) (cap := c) hown (q * e.sz + f) hqf
    rw [this]
    have hlen := Yh e l
    exact ⟨_, List.getElem?_eq_getElem (by rw [hlen]; exact hqf)⟩
  obtain ⟨u0, hu0⟩ := hcellx
  have hfr := World.ownsRow.frozenAt (g := b) (cap := c) hown (q * e.sz + f)
  obtain ⟨h2, h3⟩ := World.ownsRow.stored (g := b) (cap := c) hown (q * e.sz + f) (opv ρ y)
  have hlen0 := e.len x0
  have hone := e.one x' (opv ρ y) (by rw [hv]; exact List.mem_iff_getElem.2 ⟨f, by rw [List.length_set]; omega, by simp⟩)
  have hset : (Vm e l).set (q * e.sz + f) (opv ρ y) = Vm e (l.set q x') := by
    have hs1 := F9 e l q x' hlt
    have hs0 := F9 e l q x0 hlt
    have hl0 : l.set q x0 = l := by
      obtain ⟨hq1, hq2⟩ := List.getElem?_eq_some_iff.1 hl
      rw [← hq2, List.set_getElem_self]
    rw [hl0] at hs0
    have htl : ((Vm e l).take (q * e.sz)).length = q * e.sz := by rw [List.length_take, Yh]; omega
    rw [← hs1, hv]
    conv => lhs; rw [← hs0]
    rw [List.append_assoc, List.set_append_right _ _ (by rw [htl]; omega), htl, List.set_append_left _ _ (by rw [hlen0]; omega), List.append_assoc]
    rw [show q * e.sz + f - q * e.sz = f by omega]
  have h2' : (Vh E e (some ⟨b, 0, none⟩) c (l.set q x')).ok (w.setCell ⟨b, q * e.sz + f, none⟩ (opv ρ y)) := by
    show World.ownsRow _ 0 E e.sz (.slice (some ⟨b, 0, none⟩) (l.set q x').length c) (l.set q x').length (Vm e (l.set q x'))
    rw [List.length_set, ← hset]
    exact h2
  refine I6 ho hd (w' := w.setCell ⟨b, q * e.sz + f, none⟩ (opv ρ y)) (fun o hop => ?_) (next _ (hs.set hi (T := [b]) (E9 h3 (fun q hq => by injection hq with hq; simp [hq])) (fun q hq => ?_) h2' fun q hq => ?_))
  · have hcs : (opv ρ y).cells = #[opv ρ y] := by
      cases hvv : opv ρ y <;> first | rfl | (rw [hvv] at hone; cases hone)
    cases hi' : P.info? t with
    | none => rw [hi'] at ht; cases ht
    | some ii =>
      rw [hi'] at ht
      have ht : ii.size = 1 := by simpa using ht
      have hsz : (sizeOf t).run P w = .ok 1 w := by simp [sizeOf, typeInfo, hi', ht]
      have hst : (Go.store ⟨b, q * e.sz + f, none⟩ (opv ρ y)).run P w = .ok () (w.setCell ⟨b, q * e.sz + f, none⟩ (opv ρ y)) := by
        cases hvv : opv ρ y <;> first | (rw [hvv] at hone; cases hone; done) | (simp [Go.store, Sem.run, hu0, hfr])
      unfold execOp; rw [hop]
      rw [Nat.zero_add] at hx
      have hadd : (⟨b, q * e.sz + f, none⟩ : Addr).add 0 = ⟨b, q * e.sz + f, none⟩ := by simp [Addr.add]
      simp only [hx, Instr.storeAt, Instr.sureAddr, Sem.run_bind, Sem.run_pure, Result.andThen_ok, storeVar, hsz, hcs]
      simp [storeCells, hadd, hst, Sem.run_bind]
  · simpa [Vh, row, Value.ownBlock] using hq
  · have hq' : q = b := by simpa [Vh, row, Value.ownBlock] using hq
    subst hq'
    refine ⟨.inl (by simp [Vh, row, Value.ownBlock]), ?_⟩
    have := (World.ownsRow.lt hown q (by simp [Value.ownBlock])).2
    simpa [World.setCell] using this
theorem Li {S : List Nat} {w0 : World} {es : List Ent} {dst : Option Nat} {A : Option Addr} {c : Nat} {d m : List Qg} {y : Qg} {T TX : TypeId} {s x : Operand} {b i : Nat} {vx : Value} (ho : Bl (Qi B p) k ρ = some (.call { callee := .builtin .append, args := #[s, x], argTypes := #[T, TX] }, dst)) (hd : Jn n dst = true)
    (hv : opv ρ s = .slice A (List.length (List.map stT d)) c) (hx : opv ρ x = vx) (hT : P.underlying T = some (.slice 33)) (hE : (P.info? 33).map (fun i => (i.zero.map (·.cells.size), i.size, i.bytes)) = some (some Vu.sz, Vu.sz, b)) (hb : (Nat.ble 1 Vu.sz && Nat.ble b 65536) = true)
    (hs : SP S w0 w es) (hi : es[i]? = some (Da A c d)) (hsrc : Src P Vu.sz TX vx m.length (Vm Vu m) w) (hm : m = [y]) (hy : y.2.2.2 = ((none, 0, []), (none, 0, []))) {lm : List Qb} (hlen : (List.map stT d).length + lm.length ≤ 2147483648) (hlm : lm = [stT y])
    (next : ∀ (A' : Option Addr) (c' : Nat) (w' : World), SP S w0 w' (es.set i (Da A' c' (d ++ [y]))) → K (Rh ρ dst (.slice A' (List.length (List.map stT (d ++ [y]))) c')) w') : Qx P n B p k K ρ w := by
  subst hm hlm
  rw [List.length_map] at hv hlen
  have hlt : i < es.length := (List.getElem?_eq_some_iff.1 hi).1
  refine Qx.append (m := [y]) ho hd hv hx hT hE hb (hs.openT hi rfl) (i := i) (by rw [List.getElem?_append_left (by simpa using hlt), List.getElem?_set, if_pos rfl, if_pos hlt]) hsrc (by simpa using hlen) fun A' c' w' hs' => ?_
  have := next A' c' w' ?_
  · rw [List.length_map] at this; exact this
  rw [List.set_append_left _ _ (by simpa using hlt), List.set_set] at hs'
  have h2 := hs'.innMore (j := es.length) (d := d) (y := y) (by rw [List.getElem?_append_right (by simp)]; simp) hy
  refine h2.closeT (i := i) (j := es.length) (A := A') (c := c') (d := d ++ [y]) ?_ ?_ (by omega) ?_
  · rw [List.getElem?_set, if_neg (by omega), List.getElem?_append_left (by simpa using hlt), List.getElem?_set, if_pos rfl, if_pos hlt]
  · rw [List.getElem?_set, if_pos rfl, if_pos (by simp)]
  · rw [List.set_append_right _ _ (by simp), List.set_append_left _ _ (by simpa using hlt), List.set_set, List.eraseIdx_append_of_length_le (by simp)]
    simp
end
theorem last_idx {α β : Type} {f : α → β} {d : List α} (hm : d.length ≤ maxLen) (h0 : 0 ≤ IntKind.wrap .i64 (((List.length (List.map f d) : Nat) : Int) - 1)) (h1 : IntKind.wrap .i64 (((List.length (List.map f d) : Nat) : Int) - 1) < (d.length : Int)) : Int.toNat (IntKind.wrap .i64 (((List.length (List.map f d) : Nat) : Int) - 1)) = List.length (List.map f d) - 1 := by
  rw [List.length_map] at *
  have hm' : d.length ≤ 9223372036854775807 := hm
  have hw : IntKind.wrap .i64 ((d.length : Int) - 1) = (d.length : Int) - 1 := IntWalk.i64_in _ (by omega)
  rw [hw] at h0 ⊢
  omega
def lastT (l : List Qb) : Qb := l.getLast?.getD ([], 0, 0, [], [])
def Tu {β : Type} (l : List Qb) (f : List Qb → Qb → List Qb → Option β) : Option β := f l.dropLast (lastT l) l
section
variable {β : Type} {d d0 : List Qg} {y : Qg} {f : List Qb → Qb → List Qb → Option β} {r : β}
theorem Ly (h : List.isEmpty (List.map stT d) = false) : ∃ d0 y, d = d0 ++ [y] := by
  rcases List.eq_nil_or_concat d with rfl | ⟨d0, y, rfl⟩
  · cases h
  · exact ⟨d0, y, by simp⟩
theorem Lz (hd : d = d0 ++ [y]) (h : Tu (List.map stT d) f = some r) : f (List.map stT d0) (stT y) (List.map stT (d0 ++ [y])) = some r := by
  subst hd
  unfold Tu lastT at h
  simpa using h
theorem S0 (y' : Qg) : List.length (List.map stT (d0 ++ [y])) = List.length (List.map stT (d0 ++ [y'])) := by simp
theorem Mm : List.map stT d0 ++ [stT y] = List.map stT (d0 ++ [y]) := by simp
end
section
variable {P : Program} {n : Nat} {ρ : Fr} {w w0 : World} {B : Code} {p : List Bool} {k : Nat} {K : Fr → World → Prop} {S : List Nat} {es es' : List Ent} {dst : Option Nat} {A : Option Addr} {c i : Nat} {d0 : List Qg} {y y' : Qg} {b off : Nat}
theorem Kw (h : SP S w0 w es) (hi : es[i]? = some (Da A c (d0 ++ [y]))) (he : es' = es.set i (Vh 33 Vu A c (d0 ++ [y])) ++ [It d0] ++ [Lf y] ++ [Lg y]) : SP S w0 w es' := by
  have h1 := h.openT hi rfl
  refine h1.splitI (j := es.length) (d0 := d0) (y := y) (by rw [List.getElem?_append_right (by simp)]; simp) ?_
  rw [he, List.set_append_right _ _ (by simp)]
  simp
theorem Iu (h : SP S w0 w es) {q j m : Nat} (hi : es[i]? = some (Vh 33 Vu A c (d0 ++ [y]))) (hq : es[q]? = some (It d0)) (hj : es[j]? = some (Lf y)) (hm : es[m]? = some (Lg y)) (h1 : i < q) (h2 : q < j) (h3 : j < m) (he : es' = ((((es.set q (It (d0 ++ [y]))).eraseIdx m).eraseIdx j).set i (Da A c (d0 ++ [y]))).eraseIdx q) : SP S w0 w es' := by
  have s1 := h.joinI hq hj hm h2 h3 rfl
  have hlt : i < es.length := (List.getElem?_eq_some_iff.1 hi).1
  have hlq : q < es.length := (List.getElem?_eq_some_iff.1 hq).1
  refine s1.closeT (i := i) (j := q) (A := A) (c := c) (d := d0 ++ [y]) ?_ ?_ (by omega) he
  · rw [List.getElem?_eraseIdx, if_pos (by omega), List.getElem?_eraseIdx, if_pos (by omega), List.getElem?_set, if_neg (by omega)]
    exact hi
  · rw [List.getElem?_eraseIdx, if_pos (by omega), List.getElem?_eraseIdx, if_pos (by omega), List.getElem?_set, if_pos rfl, if_pos hlq]
theorem C3 (h : (Vh 33 Vu A c (d0 ++ [y])).ok w) (hA : A = some ⟨b, off, none⟩) {f : Nat} {v : Value} (hv : (Vu.enc y)[f]? = some v) : w.cell? ⟨b, off + List.length d0 * Vu.sz + f, none⟩ = some v := by
  obtain ⟨_, _, _, h4⟩ := Qz h
  obtain ⟨b', off', hA', _, hc⟩ := h4 (by simp)
  rw [hA] at hA'
  injection hA' with hA'
  injection hA' with h5 h6
  subst h5 h6
  have := Bw Vu (l := d0 ++ [y]) (i := d0.length) (x := y) (by simp) hv
  rw [Nat.add_assoc]
  exact hc _ _ this
theorem set_last : (d0 ++ [y]).set d0.length y' = d0 ++ [y'] := by simp
theorem F5 {f : Nat} {t : TypeId} {x z : Operand} {v : Value} (ho : Bl (Qi B p) k ρ = some (.store t x z, dst)) (hd : Jn n dst = true) (hA : A = some ⟨b, off, none⟩) (hx : opv ρ x = .pointer (some ⟨b, off + List.length d0 * Vu.sz + f, none⟩)) (hz : opv ρ z = v)
    (hs : SP S w0 w es) (hi : es[i]? = some (Vh 33 Vu A c (d0 ++ [y]))) (hf : Nat.ble (f + 1) Vu.sz = true) (hv : Vu.enc y' = (Vu.enc y).set f v) (ht : (P.info? t).map (·.size) = some 1)
    (next : ∀ w' : World, SP S w0 w' (es.set i (Vh 33 Vu A c (d0 ++ [y']))) → K (Rh ρ dst undef) w') : Qx P n B p k K ρ w := by
  refine Lh (x0 := y) (x' := y') (q := d0.length) ho hd hA hx hz hs hi (by simp) (Nat.le_of_ble_eq_true hf) hv ht fun w' hs' => ?_
  rw [set_last] at hs'
  exact next w' hs'
end
end Go.Proofs.YtoflbpmbkmephaaGreatDoor
namespace Go.Proofs.YtoflbpmbkmephaaGreatDoor
open Go.RowKit
def Ua (q2 : Int) (q3 : Int) (q4 : Int) (q5 : Int) (q7 : Int) (a : (Int × Bool)) (b : Bool) : Option (Int × Int × Int × Int × Int × Int × Bool) :=
  (some (a.1, q2, q3, q4, q5, q7, b))
def V2 (q2 : Int) (q3 : Int) (q4 : Int) (q5 : Int) (q7 : Int) (q8 : Bool) (p9 : (List UInt8)) : Option (Int × Int × Int × Int × Int × Int × Bool) :=
  ((D1 p9).bind fun a => (cond q8 (Ua q2 q3 q4 q5 q7 a true) (Ua q2 q3 q4 q5 q7 a (!a.2))))
set_option maxHeartbeats 40000000 in
theorem Vs {S : List Nat} (g1 : Nat) (v6 : Value) (q2 : Int) (q3 : Int) (q4 : Int) (q5 : Int) (q7 : Int) (q8 : Bool) (p9 : Bs) (w0 : World) (hL : ∀ w, Mod S w0 w → Be w) (hO : SP S w0 w0 [Qs g1 72 #[(iv q2), (iv q3), (iv q4), (iv q5), v6, (iv q7), (bv q8)]])  (r : (Int × Int × Int × Int × Int × Int × Bool)) (H : V2 q2 q3 q4 q5 q7 q8 p9 = some r) :
  Calls Tryz.prog 164 #[(pt g1 0), (sv p9)] w0 (fun e W => e = .returned (iv r.1) ∧ SP S w0 W [Qs g1 72 #[(iv r.2.1), (iv r.2.2.1), (iv r.2.2.2.1), (iv r.2.2.2.2.1), v6, (iv r.2.2.2.2.2.1), (bv r.2.2.2.2.2.2)]]) := by
 unfold V2 at H
 refine Qt (n := 24) Tryz.func164 K K K ?_
 have d := hO
 refine aC ?_
 refine iR 1 1 [(4, (iv 0))] ?_
 refine iF ?_
 refine aC ?_
 refine iR 1 1 [(8, (sv p9))] ?_
 obtain ⟨a, f, H⟩ := Qd H
 refine iS 2 ?_
 refine cS d 135 #[(.tmp 8)] #[9] 9 Tryz.call135 (Ns  p9 w0 (hL w0 (SP.mod d)) a f) ?_
 intro j b
 refine iR 5 7 [(7, (.tuple #[(iv a.1), (bv a.2)])), (10, (iv a.1)), (11, (bv a.2)), (5, (iv a.1)), (6, (bv a.2))] ?_
 refine iF ?_
 refine aQ ?_
 refine At.join (fun ρ w => ∃ (c : Bool), Vq ρ [(5, (iv a.1))] ∧ SP S w0 w [Qs g1 72 #[(iv q2), (iv q3), (iv q4), (iv q5), v6, (iv q7), (bv c)]] ∧ Ua q2 q3 q4 q5 q7 a c = some r) ?_ ?_
 ·refine aR ?_
  refine iR 4 4 [(12, (pt g1 0)), (13, (pt g1 0)), (14, (pt g1 0)), (15, (pt g1 6))] ?_
  refine jL 5 4 15 g1 6 0 (bv q8) 16 b rfl ?_
  refine iR 1 6 [(17, (bv q8))] ?_
  refine gD 17 H (fun H => ?_) fun H => ?_
  ·refine iR 5 11 [(18, undef), (19, undef), (20, (bv true)), (21, (pt g1 0)), (22, (pt g1 6))] ?_
   refine iS 12 ?_
   refine zT 4 (.tmp 22) (.tmp 20) g1 6 0 (bv true) #[(iv q2), (iv q3), (iv q4), (iv q5), v6, (iv q7), (bv true)] none b ?_
   intro k g
   refine iF ?_
   exact ⟨true, ⟨K, trivial⟩, SP.sel g [0] rfl rfl, H⟩
  refine iR 5 11 [(18, (bv a.2)), (19, (bv (!a.2))), (20, (bv (!a.2))), (21, (pt g1 0)), (22, (pt g1 6))] ?_
  refine iS 12 ?_
  refine zT 4 (.tmp 22) (.tmp 20) g1 6 0 (bv (!a.2)) #[(iv q2), (iv q3), (iv q4), (iv q5), v6, (iv q7), (bv (!a.2))] none b ?_
  intro l h
  refine iF ?_
  exact ⟨(!a.2), ⟨K, trivial⟩, SP.sel h [0] rfl rfl, H⟩
 rintro ρ m ⟨c, hk, i, H⟩
 unfold Ua at H
 first | refine At.known _ hk ?_ | rw [← Qo hk]
 refine aC ?_
 refine iR 2 2 [(23, (iv a.1)), (4, (iv a.1))] ?_
 refine iF ?_
 refine At.ret K ?_
 refine ⟨(iv a.1), K, ?_⟩
 obtain rfl := Qe H
 exact ⟨rfl, SP.sel i [0] rfl rfl⟩
def N6 (q2 : Int) (q3 : Int) (q4 : Int) (q5 : Int) (q7 : Int) (q8 : Bool) (p9 : (List (List UInt8))) : Option (Int × Int × Int × Int × Int × Bool) :=
  ((idx p9 1).bind fun e => ((V2 q2 q3 q4 q5 q7 (decide (q7 > 0)) e).bind fun a => ((idx p9 2).bind fun f => ((V2 a.2.1 a.2.2.1 a.2.2.2.1 a.2.2.2.2.1 a.2.2.2.2.2.1 a.2.2.2.2.2.2 f).bind fun b => ((idx p9 3).bind fun g => ((V2 b.2.1 b.2.2.1 b.2.2.2.1 b.2.2.2.2.1 b.2.2.2.2.2.1 b.2.2.2.2.2.2 g).bind fun c => ((idx p9 4).bind fun h => ((V2 c.2.1 c.2.2.1 c.2.2.2.1 c.2.2.2.2.1 c.2.2.2.2.2.1 c.2.2.2.2.2.2 h).bind fun d => (some (a.1, b.1, c.1, d.1, d.2.2.2.2.2.1, d.2.2.2.2.2.2))))))))))
set_option maxHeartbeats 40000000 in
theorem Ca {S : List Nat} (g1 : Nat) (v6 : Value) (i : Option Addr) (k : Nat) (q2 : Int) (q3 : Int) (q4 : Int) (q5 : Int) (q7 : Int) (q8 : Bool) (p9 : (List Bs)) (w0 : World) (hL : ∀ w, Mod S w0 w → Be w) (hO : SP S w0 w0 [Qs g1 72 #[(iv q2), (iv q3), (iv q4), (iv q5), v6, (iv q7), (bv q8)]]) (m : ∀ w, Mod S w0 w → RdT Qj w i k p9) (r : (Int × Int × Int × Int × Int × Bool)) (H : N6 q2 q3 q4 q5 q7 q8 p9 = some r) :
  Calls Tryz.prog 142 #[(pt g1 0), (lv i p9 k)] w0 (fun e W => e = .returned (.tuple #[]) ∧ SP S w0 W [Qs g1 72 #[(iv r.1), (iv r.2.1), (iv r.2.2.1), (iv r.2.2.2.1), v6, (iv r.2.2.2.2.1), (bv r.2.2.2.2.2)]]) := by
 unfold N6 at H
 refine Qt (n := 48) Tryz.func142 K K K ?_
 have a9 := hO
 refine aC ?_
 refine iR 4 4 [(4, (pt g1 0)), (5, (pt g1 0)), (6, (pt g1 0)), (7, (pt g1 5))] ?_
 refine jL 5 3 7 g1 5 0 (iv q7) 8 a9 rfl ?_
 refine iR 3 8 [(9, (bv (decide (q7 > 0)))), (10, (pt g1 0)), (11, (pt g1 6))] ?_
 refine iS 9 ?_
 refine zT 4 (.tmp 11) (.tmp 9) g1 6 0 (bv (decide (q7 > 0))) #[(iv q2), (iv q3), (iv q4), (iv q5), v6, (iv q7), (bv (decide (q7 > 0)))] none a9 ?_
 intro p2 c1
 refine iF ?_
 obtain ⟨a2, b0, b1, c2, H⟩ := Qu H
 obtain ⟨d, c3, H⟩ := Qd H
 obtain ⟨y, z, a0, b2, H⟩ := Qu H
 obtain ⟨f, c4, H⟩ := Qd H
 obtain ⟨v, s, t, a3, H⟩ := Qu H
 obtain ⟨g, c5, H⟩ := Qd H
 obtain ⟨u, o, p, a1, H⟩ := Qu H
 obtain ⟨c, c6, H⟩ := Qd H
 refine aG [GEq (pt g1 0), GEq (pt g1 0), GEq (pt g1 0), GEq (pt g1 0), GEq (pt g1 0), GEq (lv i p9 k), Zt i Qj.sz 1, GEq (sv a2), GEq (iv d.1), GEq (pt g1 0), GEq (lv i p9 k), Zt i Qj.sz 2, GEq (sv y), GEq (iv f.1), GEq (pt g1 0), GEq (lv i p9 k), Zt i Qj.sz 3, GEq (sv v), GEq (iv g.1), GEq (pt g1 0), GEq (lv i p9 k), Zt i Qj.sz 4, GEq (sv u), GEq (iv c.1), GEq (pt g1 0), GEq (pt g1 0), GEq (pt g1 0), Ry, GEq (pt g1 0), GEq (pt g1 0), GEq (pt g1 1), Ry, GEq (pt g1 0), GEq (pt g1 0), GEq (pt g1 2), Ry, GEq (pt g1 0), GEq (pt g1 0), GEq (pt g1 3), Ry] [8, 13, 18, 23, 27, 31, 35, 39] [sG [] [] S w0 [Qs g1 72 #[(iv q2), (iv q3), (iv q4), (iv q5), v6, (iv q7), (bv (decide (q7 > 0)))]], sG [8] [(iv d.1)] S w0 [Qs g1 72 #[(iv d.2.1), (iv d.2.2.1), (iv d.2.2.2.1), (iv d.2.2.2.2.1), v6, (iv d.2.2.2.2.2.1), (bv d.2.2.2.2.2.2)]], sG [8, 13] [(iv d.1), (iv f.1)] S w0 [Qs g1 72 #[(iv f.2.1), (iv f.2.2.1), (iv f.2.2.2.1), (iv f.2.2.2.2.1), v6, (iv f.2.2.2.2.2.1), (bv f.2.2.2.2.2.2)]], sG [8, 13, 18] [(iv d.1), (iv f.1), (iv g.1)] S w0 [Qs g1 72 #[(iv g.2.1), (iv g.2.2.1), (iv g.2.2.2.1), (iv g.2.2.2.2.1), v6, (iv g.2.2.2.2.2.1), (bv g.2.2.2.2.2.2)]], sG [8, 13, 18, 23] [(iv d.1), (iv f.1), (iv g.1), (iv c.1)] S w0 [Qs g1 72 #[(iv c.2.1), (iv c.2.2.1), (iv c.2.2.2.1), (iv c.2.2.2.2.1), v6, (iv c.2.2.2.2.2.1), (bv c.2.2.2.2.2.2)]], sG [8, 13, 18, 23, 27] [(iv d.1), (iv f.1), (iv g.1), (iv c.1), undef] S w0 [Qs g1 72 #[(iv d.1), (iv c.2.2.1), (iv c.2.2.2.1), (iv c.2.2.2.2.1), v6, (iv c.2.2.2.2.2.1), (bv c.2.2.2.2.2.2)]], sG [8, 13, 18, 23, 27, 31] [(iv d.1), (iv f.1), (iv g.1), (iv c.1), undef, undef] S w0 [Qs g1 72 #[(iv d.1), (iv f.1), (iv c.2.2.2.1), (iv c.2.2.2.2.1), v6, (iv c.2.2.2.2.2.1), (bv c.2.2.2.2.2.2)]], sG [8, 13, 18, 23, 27, 31, 35] [(iv d.1), (iv f.1), (iv g.1), (iv c.1), undef, undef, undef] S w0 [Qs g1 72 #[(iv d.1), (iv f.1), (iv g.1), (iv c.2.2.2.2.1), v6, (iv c.2.2.2.2.2.1), (bv c.2.2.2.2.2.2)]], sG [8, 13, 18, 23, 27, 31, 35, 39] [(iv d.1), (iv f.1), (iv g.1), (iv c.1), undef, undef, undef, undef] S w0 [Qs g1 72 #[(iv d.1), (iv f.1), (iv g.1), (iv c.1), v6, (iv c.2.2.2.2.2.1), (bv c.2.2.2.2.2.2)]]] 40 8 ⟨trivial, SP.drew c1⟩ ?_ ?_
 iterate 40 refine And.intro ?_ ?_
 exact trivial
 ·exact oU (hC (hS 0 (pt g1 0)) (h0))
 ·exact oU (hC (hS 0 (pt g1 0)) (h0))
 ·exact oU (hC (hS 0 (pt g1 0)) (h0))
 ·exact oU (hC (hS 0 (pt g1 0)) (h0))
 ·exact oU (hC (hS 0 (pt g1 0)) (h0))
 ·exact oU (hC (hS 1 (lv i p9 k)) (h0))
 ·refine oL 0 ?_
  rintro P W hs a ⟨-, c7⟩
  refine kM (kc (kA a 5 17) k0) fun b => ?_
  refine zE Qj p9 i k 79 9 (.tmp 17) (.const (.int .i64 (1))) 1 18 (m W (SP.mod c7)) b0 b1 ?_
  intro c8 c9 d0 p3 hc658
  exact ⟨rfl, _, Qa b, ⟨c8, c9, d0, rfl⟩⟩
 ·refine oL 0 ?_
  rintro P W hs a ⟨-, d1⟩
  obtain ⟨d2, d3, d4, d5⟩ := a 6 18 K
  refine kM (kc d5 k0) fun b => ?_
  refine sC 9 18 d2 (d3 + Int.toNat 1 * Qj.sz) (sv a2) 19 (Ql (e := Qj) (Qh (m W (SP.mod d1)) d4 b0 b1) c2 (j := 0) rfl) ?_
  exact eK b
 ·refine oH 0 1 ?_
  rintro P W hs a ⟨-, a4⟩
  refine kM (kc (kA a 4 16) (kc (kA a 7 19) k0)) fun b => ?_
  refine cF 164 #[(.tmp 16), (.tmp 19)] #[70, 9] 20 Tryz.call164 (Vs g1 v6 q2 q3 q4 q5 q7 (decide (q7 > 0)) a2 W (fun w hm => hL w (SP.through a4 (l := [0]) rfl hm)) (Ru a4 [0] rfl rfl) d c3) ?_
  rintro e d6 ⟨rfl, b3⟩
  refine ⟨_, rfl, ?_⟩
  have d7 : SP S w0 d6 [Qs g1 72 #[(iv d.2.1), (iv d.2.2.1), (iv d.2.2.2.1), (iv d.2.2.2.2.1), v6, (iv d.2.2.2.2.2.1), (bv d.2.2.2.2.2.2)]] := Jq a4 [0] [] rfl rfl b3 rfl
  clear b3
  refine ⟨_, Qa b, rfl, ?_⟩
  exact (ai (ai rfl (trivial)) d7)
 ·exact oU (hC (hS 0 (pt g1 0)) (h0))
 ·exact oU (hC (hS 1 (lv i p9 k)) (h0))
 ·refine Owe.light K [0, 1] K (Qc ?_ (Qc ?_ Qq))
  ·rintro P W hs a ⟨-, d8⟩
   refine kM (kc (kA a 10 22) k0) fun b => ?_
   refine zE Qj p9 i k 79 9 (.tmp 22) (.const (.int .i64 (2))) 2 23 (m W (SP.mod d8)) z a0 ?_
   intro d9 e0 e1 p4 hc676
   exact ⟨rfl, _, Qa b, ⟨d9, e0, e1, rfl⟩⟩
  rintro P W hs a ⟨⟨p5, -⟩, e2⟩
  refine kM (kc (kA a 10 22) k0) fun b => ?_
  refine zE Qj p9 i k 79 9 (.tmp 22) (.const (.int .i64 (2))) 2 23 (m W (SP.mod e2)) z a0 ?_
  intro e3 e4 e5 p6 hc684
  exact ⟨rfl, _, Qa b, ⟨e3, e4, e5, rfl⟩⟩
 ·refine Owe.light K [0, 1] K (Qc ?_ (Qc ?_ Qq))
  ·rintro P W hs a ⟨-, e6⟩
   obtain ⟨e7, e8, e9, a5⟩ := a 11 23 K
   refine kM (kc a5 k0) fun b => ?_
   refine sC 9 23 e7 (e8 + Int.toNat 2 * Qj.sz) (sv y) 24 (Ql (e := Qj) (Qh (m W (SP.mod e6)) e9 z a0) b2 (j := 0) rfl) ?_
   exact eK b
  rintro P W hs a ⟨⟨p7, -⟩, f0⟩
  obtain ⟨f1, f2, f3, a5⟩ := a 11 23 K
  refine kM (kc a5 k0) fun b => ?_
  refine sC 9 23 f1 (f2 + Int.toNat 2 * Qj.sz) (sv y) 24 (Ql (e := Qj) (Qh (m W (SP.mod f0)) f3 z a0) b2 (j := 0) rfl) ?_
  exact eK b
 ·refine oH 1 2 ?_
  rintro P W hs a ⟨⟨f4, -⟩, a6⟩
  refine kM (kc (kA a 9 21) (kc (kA a 12 24) k0)) fun b => ?_
  refine cF 164 #[(.tmp 21), (.tmp 24)] #[70, 9] 25 Tryz.call164 (Vs g1 v6 d.2.1 d.2.2.1 d.2.2.2.1 d.2.2.2.2.1 d.2.2.2.2.2.1 d.2.2.2.2.2.2 y W (fun w hm => hL w (SP.through a6 (l := [0]) rfl hm)) (Ru a6 [0] rfl rfl) f c4) ?_
  rintro e f5 ⟨rfl, b4⟩
  refine ⟨_, rfl, ?_⟩
  have f6 : SP S w0 f5 [Qs g1 72 #[(iv f.2.1), (iv f.2.2.1), (iv f.2.2.2.1), (iv f.2.2.2.2.1), v6, (iv f.2.2.2.2.2.1), (bv f.2.2.2.2.2.2)]] := Jq a6 [0] [] rfl rfl b4 rfl
  clear b4
  refine ⟨_, Qa b, rfl, ?_⟩
  exact (ai (ai f4 (ai rfl (trivial))) f6)
 ·exact oU (hC (hS 0 (pt g1 0)) (h0))
 ·exact oU (hC (hS 1 (lv i p9 k)) (h0))
 ·refine Owe.light K [0, 1, 2] K (Qc ?_ (Qc ?_ (Qc ?_ Qq)))
  ·rintro P W hs a ⟨-, f7⟩
   refine kM (kc (kA a 15 27) k0) fun b => ?_
   refine zE Qj p9 i k 79 9 (.tmp 27) (.const (.int .i64 (3))) 3 28 (m W (SP.mod f7)) s t ?_
   intro f8 f9 g0 p8 hc709
   exact ⟨rfl, _, Qa b, ⟨f8, f9, g0, rfl⟩⟩
  ·rintro P W hs a ⟨⟨q0, -⟩, g2⟩
   refine kM (kc (kA a 15 27) k0) fun b => ?_
   refine zE Qj p9 i k 79 9 (.tmp 27) (.const (.int .i64 (3))) 3 28 (m W (SP.mod g2)) s t ?_
   intro g3 g4 g5 q1 hc717
   exact ⟨rfl, _, Qa b, ⟨g3, g4, g5, rfl⟩⟩
  rintro P W hs a ⟨⟨q6, q9, -⟩, g6⟩
  refine kM (kc (kA a 15 27) k0) fun b => ?_
  refine zE Qj p9 i k 79 9 (.tmp 27) (.const (.int .i64 (3))) 3 28 (m W (SP.mod g6)) s t ?_
  intro g7 g8 g9 r0 hc726
  exact ⟨rfl, _, Qa b, ⟨g7, g8, g9, rfl⟩⟩
 ·refine Owe.light K [0, 1, 2] K (Qc ?_ (Qc ?_ (Qc ?_ Qq)))
  ·rintro P W hs a ⟨-, h1⟩
   obtain ⟨h2, h3, h4, x⟩ := a 16 28 K
   refine kM (kc x k0) fun b => ?_
   refine sC 9 28 h2 (h3 + Int.toNat 3 * Qj.sz) (sv v) 29 (Ql (e := Qj) (Qh (m W (SP.mod h1)) h4 s t) a3 (j := 0) rfl) ?_
   exact eK b
  ·rintro P W hs a ⟨⟨r1, -⟩, h5⟩
   obtain ⟨h6, h7, h8, x⟩ := a 16 28 K
   refine kM (kc x k0) fun b => ?_
   refine sC 9 28 h6 (h7 + Int.toNat 3 * Qj.sz) (sv v) 29 (Ql (e := Qj) (Qh (m W (SP.mod h5)) h8 s t) a3 (j := 0) rfl) ?_
   exact eK b
  rintro P W hs a ⟨⟨r2, r3, -⟩, h9⟩
  obtain ⟨i0, i1, i2, x⟩ := a 16 28 K
  refine kM (kc x k0) fun b => ?_
  refine sC 9 28 i0 (i1 + Int.toNat 3 * Qj.sz) (sv v) 29 (Ql (e := Qj) (Qh (m W (SP.mod h9)) i2 s t) a3 (j := 0) rfl) ?_
  exact eK b
 ·refine oH 2 3 ?_
  rintro P W hs a ⟨⟨i3, i4, -⟩, a7⟩
  refine kM (kc (kA a 14 26) (kc (kA a 17 29) k0)) fun b => ?_
  refine cF 164 #[(.tmp 26), (.tmp 29)] #[70, 9] 30 Tryz.call164 (Vs g1 v6 f.2.1 f.2.2.1 f.2.2.2.1 f.2.2.2.2.1 f.2.2.2.2.2.1 f.2.2.2.2.2.2 v W (fun w hm => hL w (SP.through a7 (l := [0]) rfl hm)) (Ru a7 [0] rfl rfl) g c5) ?_
  rintro e i5 ⟨rfl, b5⟩
  refine ⟨_, rfl, ?_⟩
  have i6 : SP S w0 i5 [Qs g1 72 #[(iv g.2.1), (iv g.2.2.1), (iv g.2.2.2.1), (iv g.2.2.2.2.1), v6, (iv g.2.2.2.2.2.1), (bv g.2.2.2.2.2.2)]] := Jq a7 [0] [] rfl rfl b5 rfl
  clear b5
  refine ⟨_, Qa b, rfl, ?_⟩
  exact (ai (ai i3 (ai i4 (ai rfl (trivial)))) i6)
 ·exact oU (hC (hS 0 (pt g1 0)) (h0))
 ·exact oU (hC (hS 1 (lv i p9 k)) (h0))
 ·refine Owe.light K [0, 1, 2, 3] K (Qc ?_ (Qc ?_ (Qc ?_ (Qc ?_ Qq))))
  ·rintro P W hs a ⟨-, i7⟩
   refine kM (kc (kA a 20 32) k0) fun b => ?_
   refine zE Qj p9 i k 79 9 (.tmp 32) (.const (.int .i64 (4))) 4 33 (m W (SP.mod i7)) o p ?_
   intro i8 i9 j0 r4 hc759
   exact ⟨rfl, _, Qa b, ⟨i8, i9, j0, rfl⟩⟩
  ·rintro P W hs a ⟨⟨r5, -⟩, j1⟩
   refine kM (kc (kA a 20 32) k0) fun b => ?_
   refine zE Qj p9 i k 79 9 (.tmp 32) (.const (.int .i64 (4))) 4 33 (m W (SP.mod j1)) o p ?_
   intro j2 j3 j4 r6 hc767
   exact ⟨rfl, _, Qa b, ⟨j2, j3, j4, rfl⟩⟩
  ·rintro P W hs a ⟨⟨r7, r8, -⟩, j5⟩
   refine kM (kc (kA a 20 32) k0) fun b => ?_
   refine zE Qj p9 i k 79 9 (.tmp 32) (.const (.int .i64 (4))) 4 33 (m W (SP.mod j5)) o p ?_
   intro j6 j7 j8 r9 hc776
   exact ⟨rfl, _, Qa b, ⟨j6, j7, j8, rfl⟩⟩
  rintro P W hs a ⟨⟨s0, s1, s2, -⟩, j9⟩
  refine kM (kc (kA a 20 32) k0) fun b => ?_
  refine zE Qj p9 i k 79 9 (.tmp 32) (.const (.int .i64 (4))) 4 33 (m W (SP.mod j9)) o p ?_
  intro k1 k2 k3 s3 hc786
  exact ⟨rfl, _, Qa b, ⟨k1, k2, k3, rfl⟩⟩
 ·refine Owe.light K [0, 1, 2, 3] K (Qc ?_ (Qc ?_ (Qc ?_ (Qc ?_ Qq))))
  ·rintro P W hs a ⟨-, k4⟩
   obtain ⟨k5, k6, k7, q⟩ := a 21 33 K
   refine kM (kc q k0) fun b => ?_
   refine sC 9 33 k5 (k6 + Int.toNat 4 * Qj.sz) (sv u) 34 (Ql (e := Qj) (Qh (m W (SP.mod k4)) k7 o p) a1 (j := 0) rfl) ?_
   exact eK b
  ·rintro P W hs a ⟨⟨s4, -⟩, k8⟩
   obtain ⟨k9, l0, l1, q⟩ := a 21 33 K
   refine kM (kc q k0) fun b => ?_
   refine sC 9 33 k9 (l0 + Int.toNat 4 * Qj.sz) (sv u) 34 (Ql (e := Qj) (Qh (m W (SP.mod k8)) l1 o p) a1 (j := 0) rfl) ?_
   exact eK b
  ·rintro P W hs a ⟨⟨s5, s6, -⟩, l2⟩
   obtain ⟨l3, l4, l5, q⟩ := a 21 33 K
   refine kM (kc q k0) fun b => ?_
   refine sC 9 33 l3 (l4 + Int.toNat 4 * Qj.sz) (sv u) 34 (Ql (e := Qj) (Qh (m W (SP.mod l2)) l5 o p) a1 (j := 0) rfl) ?_
   exact eK b
  rintro P W hs a ⟨⟨s7, s8, s9, -⟩, l6⟩
  obtain ⟨l7, l8, l9, q⟩ := a 21 33 K
  refine kM (kc q k0) fun b => ?_
  refine sC 9 33 l7 (l8 + Int.toNat 4 * Qj.sz) (sv u) 34 (Ql (e := Qj) (Qh (m W (SP.mod l6)) l9 o p) a1 (j := 0) rfl) ?_
  exact eK b
 ·refine oH 3 4 ?_
  rintro P W hs a ⟨⟨m0, m1, m2, -⟩, a8⟩
  refine kM (kc (kA a 19 31) (kc (kA a 22 34) k0)) fun b => ?_
  refine cF 164 #[(.tmp 31), (.tmp 34)] #[70, 9] 35 Tryz.call164 (Vs g1 v6 g.2.1 g.2.2.1 g.2.2.2.1 g.2.2.2.2.1 g.2.2.2.2.2.1 g.2.2.2.2.2.2 u W (fun w hm => hL w (SP.through a8 (l := [0]) rfl hm)) (Ru a8 [0] rfl rfl) c c6) ?_
  rintro e m3 ⟨rfl, b6⟩
  refine ⟨_, rfl, ?_⟩
  have m4 : SP S w0 m3 [Qs g1 72 #[(iv c.2.1), (iv c.2.2.1), (iv c.2.2.2.1), (iv c.2.2.2.2.1), v6, (iv c.2.2.2.2.2.1), (bv c.2.2.2.2.2.2)]] := Jq a8 [0] [] rfl rfl b6 rfl
  clear b6
  refine ⟨_, Qa b, rfl, ?_⟩
  exact (ai (ai m0 (ai m1 (ai m2 (ai rfl (trivial))))) m4)
 ·exact oU (hC (hA 0 12) (h0))
 ·exact oU (hC (hA 24 36) (h0))
 ·exact oU (hC (hA 25 37) (h0))
 ·refine oH 4 5 ?_
  rintro P W hs a ⟨⟨b7, m5, m6, m7, -⟩, m8⟩
  refine kN [(38, (pt g1 0)), (20, (iv d.1))] ⟨a 26 38 K, (Qr (h := 8) K).symm.trans b7, trivial⟩ fun b => ?_
  refine zT 2 (.tmp 38) (.tmp 20) g1 0 0 (iv d.1) #[(iv d.1), (iv c.2.2.1), (iv c.2.2.2.1), (iv c.2.2.2.2.1), v6, (iv c.2.2.2.2.2.1), (bv c.2.2.2.2.2.2)] none m8 ?_
  intro t0 m9
  refine ⟨_, Qa b, trivial, ?_⟩
  exact (ai (ai b7 (ai m5 (ai m6 (ai m7 (ai rfl (trivial)))))) m9)
 ·exact oU (hC (hA 1 13) (h0))
 ·exact oU (hC (hA 28 39) (h0))
 ·exact oU (hC (hA 29 40) (h0))
 ·refine oH 5 6 ?_
  rintro P W hs a ⟨⟨n0, b8, n1, n2, n3, -⟩, n4⟩
  refine kN [(41, (pt g1 1)), (25, (iv f.1))] ⟨a 30 41 K, (Qr (h := 13) K).symm.trans b8, trivial⟩ fun b => ?_
  refine zT 2 (.tmp 41) (.tmp 25) g1 1 0 (iv f.1) #[(iv d.1), (iv f.1), (iv c.2.2.2.1), (iv c.2.2.2.2.1), v6, (iv c.2.2.2.2.2.1), (bv c.2.2.2.2.2.2)] none n4 ?_
  intro t1 n5
  refine ⟨_, Qa b, trivial, ?_⟩
  exact (ai (ai n0 (ai b8 (ai n1 (ai n2 (ai n3 (ai rfl (trivial))))))) n5)
 ·exact oU (hC (hA 2 14) (h0))
 ·exact oU (hC (hA 32 42) (h0))
 ·exact oU (hC (hA 33 43) (h0))
 ·refine oH 6 7 ?_
  rintro P W hs a ⟨⟨n6, n7, b9, n8, n9, o0, -⟩, o1⟩
  refine kN [(44, (pt g1 2)), (30, (iv g.1))] ⟨a 34 44 K, (Qr (h := 18) K).symm.trans b9, trivial⟩ fun b => ?_
  refine zT 2 (.tmp 44) (.tmp 30) g1 2 0 (iv g.1) #[(iv d.1), (iv f.1), (iv g.1), (iv c.2.2.2.2.1), v6, (iv c.2.2.2.2.2.1), (bv c.2.2.2.2.2.2)] none o1 ?_
  intro t2 o2
  refine ⟨_, Qa b, trivial, ?_⟩
  exact (ai (ai n6 (ai n7 (ai b9 (ai n8 (ai n9 (ai o0 (ai rfl (trivial)))))))) o2)
 ·exact oU (hC (hA 3 15) (h0))
 ·exact oU (hC (hA 36 45) (h0))
 ·exact oU (hC (hA 37 46) (h0))
 ·refine oH 7 8 ?_
  rintro P W hs a ⟨⟨o3, o4, o5, c0, o6, o7, o8, -⟩, o9⟩
  refine kN [(47, (pt g1 3)), (35, (iv c.1))] ⟨a 38 47 K, (Qr (h := 23) K).symm.trans c0, trivial⟩ fun b => ?_
  refine zT 2 (.tmp 47) (.tmp 35) g1 3 0 (iv c.1) #[(iv d.1), (iv f.1), (iv g.1), (iv c.1), v6, (iv c.2.2.2.2.2.1), (bv c.2.2.2.2.2.2)] none o9 ?_
  intro t3 p0
  refine ⟨_, Qa b, trivial, ?_⟩
  exact (ai (ai o3 (ai o4 (ai o5 (ai c0 (ai o6 (ai o7 (ai o8 (ai rfl (trivial))))))))) p0)
 rintro P t4 hs hf ⟨⟨t5, t6, t7, t8, t9, u0, u1, u2, -⟩, p1⟩
 refine Qy [] trivial ?_
 refine ⟨(.tuple #[]), K, ?_⟩
 obtain rfl := Qe H
 exact ⟨rfl, SP.sel p1 [0] rfl rfl⟩
def Np (q2 : Int) (q3 : Int) (q4 : Int) (q5 : Int) (q6 : (List Qb)) (d : Int) (e : Bool) (c : (List (List UInt8))) : Option (Int × Int × Int × Int × (List Qb) × Int × Bool) :=
  ((idx c 1).bind fun f => ((idx c 2).bind fun g => ((V2 q2 q3 q4 q5 d e g).bind fun a => ((idx c 3).bind fun h => ((V2 a.2.1 a.2.2.1 a.2.2.2.1 a.2.2.2.2.1 a.2.2.2.2.2.1 a.2.2.2.2.2.2 h).bind fun b => ((app q6 ([(f, a.1, b.1, ([] : List (Int × Int)), ([] : List ((List UInt8) × (List UInt8) × Int)))] : List Qb)).bind fun i => (some (b.2.1, b.2.2.1, b.2.2.2.1, b.2.2.2.2.1, i, b.2.2.2.2.2.1, b.2.2.2.2.2.2))))))))
set_option maxHeartbeats 40000000 in
theorem B7 {S : List Nat} (g1 : Nat) (A7 : Option Addr) (c8 : Nat) (t : Option Addr) (v : Nat) (q2 : Int) (q3 : Int) (q4 : Int) (q5 : Int) (d9 : (List Qg)) (b3 : Int) (b4 : Bool) (u : (List Bs)) (w0 : World) (hL : ∀ w, Mod S w0 w → Be w) (hO : SP S w0 w0 [Qs g1 72 #[(iv q2), (iv q3), (iv q4), (iv q5), (lv A7 (mT d9) c8), (iv b3), (bv b4)], Da A7 c8 d9]) (q : ∀ w, Mod S w0 w → RdT Qj w t v u) (r : (Int × Int × Int × Int × (List Qb) × Int × Bool)) (H : Np q2 q3 q4 q5 (mT d9) b3 b4 u = some r) :
  Calls Tryz.prog 143 #[(pt g1 0), (lv t u v)] w0 (fun e W => ∃ (d1 : Option Addr) (d2 : Nat) (c2 : List Qg), e = .returned (.tuple #[]) ∧ r.2.2.2.2.1 = List.map stT c2 ∧ SP S w0 W [Qs g1 72 #[(iv r.1), (iv r.2.1), (iv r.2.2.1), (iv r.2.2.2.1), (lv d1 (mT c2) d2), (iv r.2.2.2.2.2.1), (bv r.2.2.2.2.2.2)], Da d1 d2 c2]) := by
 unfold Np at H
 refine Qt (n := 31) Tryz.func143 K K K ?_
 have e5 := hO
 refine aQ ?_
 obtain ⟨p, z, a0, b2, H⟩ := Qu H
 obtain ⟨b5, b8, b9, d3, H⟩ := Qu H
 obtain ⟨f, d4, H⟩ := Qd H
 obtain ⟨a6, a3, a4, c0, H⟩ := Qu H
 obtain ⟨a, d5, H⟩ := Qd H
 refine aG [GEq (lv t u v), Zt t Qj.sz 1, GEq (sv p), GEq (pt g1 0), GEq (lv t u v), Zt t Qj.sz 2, GEq (sv b5), GEq (iv f.1), GEq (pt g1 0), GEq (lv t u v), Zt t Qj.sz 3, GEq (sv a6), GEq (iv a.1), GEq (.agg #[(sv p), (iv f.1), (iv a.1), (lv none ([] : List (Int × Int)) 0), (lv none ([] : List Tk) 0)]), Ry, Ry] [7, 12, 14, 15] ((fun (X0 X1 X2 X3 : Ent) => [([], fun vs w => VL vs [] ∧ SP S w0 w [X0, X1]), ([7], fun vs w => VL vs [(iv f.1)] ∧ SP S w0 w [X1, X2]), ([14], fun vs w => ∃ (a1 : Nat), VL vs [(pt a1 0)] ∧ SP S w0 w [X0, X1, Qs a1 33 #[(sv ([] : Bs)), (iv 0), (iv 0), (lv none ([] : List (Int × Int)) 0), (lv none ([] : List Tk) 0)]]), ([7, 12], fun vs w => VL vs [(iv f.1), (iv a.1)] ∧ SP S w0 w [X1, X3]), ([7, 14], fun vs w => ∃ (a2 : Nat), VL vs [(iv f.1), (pt a2 0)] ∧ SP S w0 w [X1, X2, Qs a2 33 #[(sv ([] : Bs)), (iv 0), (iv 0), (lv none ([] : List (Int × Int)) 0), (lv none ([] : List Tk) 0)]]), ([7, 12, 14], fun vs w => ∃ (a5 : Nat), VL vs [(iv f.1), (iv a.1), (pt a5 0)] ∧ SP S w0 w [X1, X3, Qs a5 33 #[(sv ([] : Bs)), (iv 0), (iv 0), (lv none ([] : List (Int × Int)) 0), (lv none ([] : List Tk) 0)]]), ([7, 12, 14, 15], fun vs w => ∃ (a7 : Nat), VL vs [(iv f.1), (iv a.1), (pt a7 0), undef] ∧ SP S w0 w [X1, X3, Qs a7 33 #[(sv p), (iv f.1), (iv a.1), (lv none ([] : List (Int × Int)) 0), (lv none ([] : List Tk) 0)]])]) (Qs g1 72 #[(iv q2), (iv q3), (iv q4), (iv q5), (lv A7 (mT d9) c8), (iv b3), (bv b4)]) (Da A7 c8 d9) (Qs g1 72 #[(iv f.2.1), (iv f.2.2.1), (iv f.2.2.2.1), (iv f.2.2.2.2.1), (lv A7 (mT d9) c8), (iv f.2.2.2.2.2.1), (bv f.2.2.2.2.2.2)]) (Qs g1 72 #[(iv a.2.1), (iv a.2.2.1), (iv a.2.2.2.1), (iv a.2.2.2.2.1), (lv A7 (mT d9) c8), (iv a.2.2.2.2.2.1), (bv a.2.2.2.2.2.2)])) 16 6 ⟨trivial, SP.drew e5⟩ ?_ ?_
 iterate 16 refine And.intro ?_ ?_
 exact trivial
 ·exact oU (hC (hS 1 (lv t u v)) (h0))
 ·refine Owe.light K [0, 1, 2, 3, 4, 5] K (Qc ?_ (Qc ?_ (Qc ?_ (Qc ?_ (Qc ?_ (Qc ?_ Qq))))))
  ·rintro P W hs g ⟨-, e7⟩
   refine kM (kc (kA g 0 5) k0) fun o => ?_
   refine zE Qj u t v 79 9 (.tmp 5) (.const (.int .i64 (1))) 1 6 (q W (SP.mod e7)) z a0 ?_
   intro e8 e9 f0 t3 hc526
   exact ⟨rfl, _, Qa o, ⟨e8, e9, f0, rfl⟩⟩
  ·rintro P W hs g ⟨⟨t4, -⟩, f1⟩
   refine kM (kc (kA g 0 5) k0) fun o => ?_
   refine zE Qj u t v 79 9 (.tmp 5) (.const (.int .i64 (1))) 1 6 (q W (SP.mod f1)) z a0 ?_
   intro f2 f3 f4 t5 hc534
   exact ⟨rfl, _, Qa o, ⟨f2, f3, f4, rfl⟩⟩
  ·rintro P W hs g ⟨a1, ⟨t6, -⟩, f5⟩
   refine kM (kc (kA g 0 5) k0) fun o => ?_
   refine zE Qj u t v 79 9 (.tmp 5) (.const (.int .i64 (1))) 1 6 (q W (SP.mod f5)) z a0 ?_
   intro f6 f7 f8 t7 hc542
   exact ⟨rfl, _, Qa o, ⟨f6, f7, f8, rfl⟩⟩
  ·rintro P W hs g ⟨⟨t8, t9, -⟩, f9⟩
   refine kM (kc (kA g 0 5) k0) fun o => ?_
   refine zE Qj u t v 79 9 (.tmp 5) (.const (.int .i64 (1))) 1 6 (q W (SP.mod f9)) z a0 ?_
   intro g0 g2 g3 u0 hc551
   exact ⟨rfl, _, Qa o, ⟨g0, g2, g3, rfl⟩⟩
  ·rintro P W hs g ⟨a2, ⟨u1, u2, -⟩, g4⟩
   refine kM (kc (kA g 0 5) k0) fun o => ?_
   refine zE Qj u t v 79 9 (.tmp 5) (.const (.int .i64 (1))) 1 6 (q W (SP.mod g4)) z a0 ?_
   intro g5 g6 g7 u3 hc560
   exact ⟨rfl, _, Qa o, ⟨g5, g6, g7, rfl⟩⟩
  rintro P W hs g ⟨a5, ⟨u4, u5, u6, -⟩, g8⟩
  refine kM (kc (kA g 0 5) k0) fun o => ?_
  refine zE Qj u t v 79 9 (.tmp 5) (.const (.int .i64 (1))) 1 6 (q W (SP.mod g8)) z a0 ?_
  intro g9 h1 h2 u7 hc570
  exact ⟨rfl, _, Qa o, ⟨g9, h1, h2, rfl⟩⟩
 ·refine Owe.light K [0, 1, 2, 3, 4, 5] K (Qc ?_ (Qc ?_ (Qc ?_ (Qc ?_ (Qc ?_ (Qc ?_ Qq))))))
  ·rintro P W hs g ⟨-, h3⟩
   obtain ⟨h4, h5, h6, e6⟩ := g 1 6 K
   refine kM (kc e6 k0) fun o => ?_
   refine sC 9 6 h4 (h5 + Int.toNat 1 * Qj.sz) (sv p) 7 (Ql (e := Qj) (Qh (q W (SP.mod h3)) h6 z a0) b2 (j := 0) rfl) ?_
   exact eK o
  ·rintro P W hs g ⟨⟨u8, -⟩, h7⟩
   obtain ⟨h8, h9, i0, e6⟩ := g 1 6 K
   refine kM (kc e6 k0) fun o => ?_
   refine sC 9 6 h8 (h9 + Int.toNat 1 * Qj.sz) (sv p) 7 (Ql (e := Qj) (Qh (q W (SP.mod h7)) i0 z a0) b2 (j := 0) rfl) ?_
   exact eK o
  ·rintro P W hs g ⟨a1, ⟨u9, -⟩, i1⟩
   obtain ⟨i2, i3, i4, e6⟩ := g 1 6 K
   refine kM (kc e6 k0) fun o => ?_
   refine sC 9 6 i2 (i3 + Int.toNat 1 * Qj.sz) (sv p) 7 (Ql (e := Qj) (Qh (q W (SP.mod i1)) i4 z a0) b2 (j := 0) rfl) ?_
   exact eK o
  ·rintro P W hs g ⟨⟨v0, v1, -⟩, i5⟩
   obtain ⟨i6, i7, i8, e6⟩ := g 1 6 K
   refine kM (kc e6 k0) fun o => ?_
   refine sC 9 6 i6 (i7 + Int.toNat 1 * Qj.sz) (sv p) 7 (Ql (e := Qj) (Qh (q W (SP.mod i5)) i8 z a0) b2 (j := 0) rfl) ?_
   exact eK o
  ·rintro P W hs g ⟨a2, ⟨v2, v3, -⟩, i9⟩
   obtain ⟨j0, j1, j2, e6⟩ := g 1 6 K
   refine kM (kc e6 k0) fun o => ?_
   refine sC 9 6 j0 (j1 + Int.toNat 1 * Qj.sz) (sv p) 7 (Ql (e := Qj) (Qh (q W (SP.mod i9)) j2 z a0) b2 (j := 0) rfl) ?_
   exact eK o
  rintro P W hs g ⟨a5, ⟨v4, v5, v6, -⟩, j3⟩
  obtain ⟨j4, j5, j6, e6⟩ := g 1 6 K
  refine kM (kc e6 k0) fun o => ?_
  refine sC 9 6 j4 (j5 + Int.toNat 1 * Qj.sz) (sv p) 7 (Ql (e := Qj) (Qh (q W (SP.mod j3)) j6 z a0) b2 (j := 0) rfl) ?_
  exact eK o
 ·exact oU (hC (hS 0 (pt g1 0)) (h0))
 ·exact oU (hC (hS 1 (lv t u v)) (h0))
 ·refine Owe.light K [0, 2] K (Qc ?_ (Qc ?_ Qq))
  ·rintro P W hs g ⟨-, j7⟩
   refine kM (kc (kA g 4 9) k0) fun o => ?_
   refine zE Qj u t v 79 9 (.tmp 9) (.const (.int .i64 (2))) 2 10 (q W (SP.mod j7)) b8 b9 ?_
   intro j8 j9 k1 v7 hc616
   exact ⟨rfl, _, Qa o, ⟨j8, j9, k1, rfl⟩⟩
  rintro P W hs g ⟨a1, ⟨v8, -⟩, k2⟩
  refine kM (kc (kA g 4 9) k0) fun o => ?_
  refine zE Qj u t v 79 9 (.tmp 9) (.const (.int .i64 (2))) 2 10 (q W (SP.mod k2)) b8 b9 ?_
  intro k3 k4 k5 v9 hc624
  exact ⟨rfl, _, Qa o, ⟨k3, k4, k5, rfl⟩⟩
 ·refine Owe.light K [0, 2] K (Qc ?_ (Qc ?_ Qq))
  ·rintro P W hs g ⟨-, k6⟩
   obtain ⟨k7, k8, k9, c3⟩ := g 5 10 K
   refine kM (kc c3 k0) fun o => ?_
   refine sC 9 10 k7 (k8 + Int.toNat 2 * Qj.sz) (sv b5) 11 (Ql (e := Qj) (Qh (q W (SP.mod k6)) k9 b8 b9) d3 (j := 0) rfl) ?_
   exact eK o
  rintro P W hs g ⟨a1, ⟨w1, -⟩, l0⟩
  obtain ⟨l1, l2, l3, c3⟩ := g 5 10 K
  refine kM (kc c3 k0) fun o => ?_
  refine sC 9 10 l1 (l2 + Int.toNat 2 * Qj.sz) (sv b5) 11 (Ql (e := Qj) (Qh (q W (SP.mod l0)) l3 b8 b9) d3 (j := 0) rfl) ?_
  exact eK o
 ·refine Owe.heavy K [(0, 1), (2, 4)] K (Qc ⟨K, K, ?_⟩ (Qc ⟨K, K, ?_⟩ Qq))
  ·rintro P W hs g ⟨-, c4⟩
   refine kM (kc (kA g 3 8) (kc (kA g 6 11) k0)) fun o => ?_
   refine cF 164 #[(.tmp 8), (.tmp 11)] #[70, 9] 12 Tryz.call164 (Vs g1 (lv A7 (mT d9) c8) q2 q3 q4 q5 b3 b4 b5 W (fun w hm => hL w (SP.through c4 (l := [0]) rfl hm)) (Ru c4 [0] rfl rfl) f d4) ?_
   rintro e l4 ⟨rfl, d6⟩
   refine ⟨_, rfl, ?_⟩
   have l5 : SP S w0 l4 [Da A7 c8 d9, Qs g1 72 #[(iv f.2.1), (iv f.2.2.1), (iv f.2.2.2.1), (iv f.2.2.2.2.1), (lv A7 (mT d9) c8), (iv f.2.2.2.2.2.1), (bv f.2.2.2.2.2.2)]] := Jq c4 [0] [1] rfl rfl d6 rfl
   clear d6
   refine ⟨_, Qa o, rfl, ?_⟩
   exact (ai (ai rfl (trivial)) l5)
  rintro P W hs g ⟨a1, ⟨l6, -⟩, c5⟩
  refine kM (kc (kA g 3 8) (kc (kA g 6 11) k0)) fun o => ?_
  refine cF 164 #[(.tmp 8), (.tmp 11)] #[70, 9] 12 Tryz.call164 (Vs g1 (lv A7 (mT d9) c8) q2 q3 q4 q5 b3 b4 b5 W (fun w hm => hL w (SP.through c5 (l := [0]) rfl hm)) (Ru c5 [0] rfl rfl) f d4) ?_
  rintro e l7 ⟨rfl, d7⟩
  refine ⟨_, rfl, ?_⟩
  have l8 : SP S w0 l7 [Da A7 c8 d9, Qs a1 33 #[(sv ([] : Bs)), (iv 0), (iv 0), (lv none ([] : List (Int × Int)) 0), (lv none ([] : List Tk) 0)], Qs g1 72 #[(iv f.2.1), (iv f.2.2.1), (iv f.2.2.2.1), (iv f.2.2.2.2.1), (lv A7 (mT d9) c8), (iv f.2.2.2.2.2.1), (bv f.2.2.2.2.2.2)]] := Jq c5 [0] [1, 2] rfl rfl d7 rfl
  clear d7
  refine ⟨_, Qa o, rfl, ?_⟩
  exact (ei a1 (ai (ai rfl (ai l6 (trivial))) (SP.sel l8 [0, 2, 1] rfl rfl)))
 ·exact oU (hC (hS 0 (pt g1 0)) (h0))
 ·exact oU (hC (hS 1 (lv t u v)) (h0))
 ·refine Owe.light K [0, 1, 2, 4] K (Qc ?_ (Qc ?_ (Qc ?_ (Qc ?_ Qq))))
  ·rintro P W hs g ⟨-, l9⟩
   refine kM (kc (kA g 9 14) k0) fun o => ?_
   refine zE Qj u t v 79 9 (.tmp 14) (.const (.int .i64 (3))) 3 15 (q W (SP.mod l9)) a3 a4 ?_
   intro m0 m1 m2 w2 hc655
   exact ⟨rfl, _, Qa o, ⟨m0, m1, m2, rfl⟩⟩
  ·rintro P W hs g ⟨⟨w3, -⟩, m3⟩
   refine kM (kc (kA g 9 14) k0) fun o => ?_
   refine zE Qj u t v 79 9 (.tmp 14) (.const (.int .i64 (3))) 3 15 (q W (SP.mod m3)) a3 a4 ?_
   intro m4 m5 m6 w4 hc663
   exact ⟨rfl, _, Qa o, ⟨m4, m5, m6, rfl⟩⟩
  ·rintro P W hs g ⟨a1, ⟨w5, -⟩, m7⟩
   refine kM (kc (kA g 9 14) k0) fun o => ?_
   refine zE Qj u t v 79 9 (.tmp 14) (.const (.int .i64 (3))) 3 15 (q W (SP.mod m7)) a3 a4 ?_
   intro m8 m9 n0 w6 hc671
   exact ⟨rfl, _, Qa o, ⟨m8, m9, n0, rfl⟩⟩
  rintro P W hs g ⟨a2, ⟨w7, w8, -⟩, n1⟩
  refine kM (kc (kA g 9 14) k0) fun o => ?_
  refine zE Qj u t v 79 9 (.tmp 14) (.const (.int .i64 (3))) 3 15 (q W (SP.mod n1)) a3 a4 ?_
  intro n2 n3 n4 w9 hc680
  exact ⟨rfl, _, Qa o, ⟨n2, n3, n4, rfl⟩⟩
 ·refine Owe.light K [0, 1, 2, 4] K (Qc ?_ (Qc ?_ (Qc ?_ (Qc ?_ Qq))))
  ·rintro P W hs g ⟨-, n5⟩
   obtain ⟨n6, n7, n8, a8⟩ := g 10 15 K
   refine kM (kc a8 k0) fun o => ?_
   refine sC 9 15 n6 (n7 + Int.toNat 3 * Qj.sz) (sv a6) 16 (Ql (e := Qj) (Qh (q W (SP.mod n5)) n8 a3 a4) c0 (j := 0) rfl) ?_
   exact eK o
  ·rintro P W hs g ⟨⟨x0, -⟩, n9⟩
   obtain ⟨o0, o1, o2, a8⟩ := g 10 15 K
   refine kM (kc a8 k0) fun o => ?_
   refine sC 9 15 o0 (o1 + Int.toNat 3 * Qj.sz) (sv a6) 16 (Ql (e := Qj) (Qh (q W (SP.mod n9)) o2 a3 a4) c0 (j := 0) rfl) ?_
   exact eK o
  ·rintro P W hs g ⟨a1, ⟨x1, -⟩, o3⟩
   obtain ⟨o4, o5, o6, a8⟩ := g 10 15 K
   refine kM (kc a8 k0) fun o => ?_
   refine sC 9 15 o4 (o5 + Int.toNat 3 * Qj.sz) (sv a6) 16 (Ql (e := Qj) (Qh (q W (SP.mod o3)) o6 a3 a4) c0 (j := 0) rfl) ?_
   exact eK o
  rintro P W hs g ⟨a2, ⟨x2, x3, -⟩, o7⟩
  obtain ⟨o8, o9, p0, a8⟩ := g 10 15 K
  refine kM (kc a8 k0) fun o => ?_
  refine sC 9 15 o8 (o9 + Int.toNat 3 * Qj.sz) (sv a6) 16 (Ql (e := Qj) (Qh (q W (SP.mod o7)) p0 a3 a4) c0 (j := 0) rfl) ?_
  exact eK o
 ·refine Owe.heavy K [(1, 3), (4, 5)] K (Qc ⟨K, K, ?_⟩ (Qc ⟨K, K, ?_⟩ Qq))
  ·rintro P W hs g ⟨⟨p1, -⟩, c6⟩
   refine kM (kc (kA g 8 13) (kc (kA g 11 16) k0)) fun o => ?_
   refine cF 164 #[(.tmp 13), (.tmp 16)] #[70, 9] 17 Tryz.call164 (Vs g1 (lv A7 (mT d9) c8) f.2.1 f.2.2.1 f.2.2.2.1 f.2.2.2.2.1 f.2.2.2.2.2.1 f.2.2.2.2.2.2 a6 W (fun w hm => hL w (SP.through c6 (l := [1]) rfl hm)) (Ru c6 [1] rfl rfl) a d5) ?_
   rintro e p2 ⟨rfl, d8⟩
   refine ⟨_, rfl, ?_⟩
   have p3 : SP S w0 p2 [Da A7 c8 d9, Qs g1 72 #[(iv a.2.1), (iv a.2.2.1), (iv a.2.2.2.1), (iv a.2.2.2.2.1), (lv A7 (mT d9) c8), (iv a.2.2.2.2.2.1), (bv a.2.2.2.2.2.2)]] := Jq c6 [1] [0] rfl rfl d8 rfl
   clear d8
   refine ⟨_, Qa o, rfl, ?_⟩
   exact (ai (ai p1 (ai rfl (trivial))) p3)
  rintro P W hs g ⟨a2, ⟨p4, p5, -⟩, c7⟩
  refine kM (kc (kA g 8 13) (kc (kA g 11 16) k0)) fun o => ?_
  refine cF 164 #[(.tmp 13), (.tmp 16)] #[70, 9] 17 Tryz.call164 (Vs g1 (lv A7 (mT d9) c8) f.2.1 f.2.2.1 f.2.2.2.1 f.2.2.2.2.1 f.2.2.2.2.2.1 f.2.2.2.2.2.2 a6 W (fun w hm => hL w (SP.through c7 (l := [1]) rfl hm)) (Ru c7 [1] rfl rfl) a d5) ?_
  rintro e p6 ⟨rfl, e0⟩
  refine ⟨_, rfl, ?_⟩
  have p7 : SP S w0 p6 [Da A7 c8 d9, Qs a2 33 #[(sv ([] : Bs)), (iv 0), (iv 0), (lv none ([] : List (Int × Int)) 0), (lv none ([] : List Tk) 0)], Qs g1 72 #[(iv a.2.1), (iv a.2.2.1), (iv a.2.2.2.1), (iv a.2.2.2.2.1), (lv A7 (mT d9) c8), (iv a.2.2.2.2.2.1), (bv a.2.2.2.2.2.2)]] := Jq c7 [1] [0, 2] rfl rfl e0 rfl
  clear e0
  refine ⟨_, Qa o, rfl, ?_⟩
  exact (ei a2 (ai (ai p4 (ai rfl (ai p5 (trivial)))) (SP.sel p7 [0, 2, 1] rfl rfl)))
 ·exact oU (hC (hA 2 7) (hC (hA 7 12) (hC (hA 12 17) (h0))))
 ·refine Owe.heavy K [(0, 2), (1, 4), (3, 5)] K (Qc ⟨K, K, ?_⟩ (Qc ⟨K, K, ?_⟩ (Qc ⟨K, K, ?_⟩ Qq)))
  ·rintro P W hs g ⟨-, p8⟩
   refine kN [] trivial fun o => ?_
   refine zA 33 (.agg #[(sv ([] : Bs)), (iv 0), (iv 0), (lv none ([] : List (Int × Int)) 0), (lv none ([] : List Tk) 0)]) 4 p8 ?_
   intro p9 x4 q0
   refine ⟨_, Qa o, trivial, ?_⟩
   exact (ei p9 (ai (ai rfl (trivial)) q0))
  ·rintro P W hs g ⟨⟨q1, -⟩, q6⟩
   refine kN [] trivial fun o => ?_
   refine zA 33 (.agg #[(sv ([] : Bs)), (iv 0), (iv 0), (lv none ([] : List (Int × Int)) 0), (lv none ([] : List Tk) 0)]) 4 q6 ?_
   intro q7 x5 q8
   refine ⟨_, Qa o, trivial, ?_⟩
   exact (ei q7 (ai (ai q1 (ai rfl (trivial))) q8))
  rintro P W hs g ⟨⟨q9, r0, -⟩, r1⟩
  refine kN [] trivial fun o => ?_
  refine zA 33 (.agg #[(sv ([] : Bs)), (iv 0), (iv 0), (lv none ([] : List (Int × Int)) 0), (lv none ([] : List Tk) 0)]) 4 r1 ?_
  intro r2 x6 r3
  refine ⟨_, Qa o, trivial, ?_⟩
  exact (ei r2 (ai (ai q9 (ai r0 (ai rfl (trivial)))) r3))
 ·refine oH 5 6 ?_
  rintro P W hs g ⟨a5, ⟨r4, r5, e1, -⟩, r6⟩
  refine kN [(4, (pt a5 0)), (18, (.agg #[(sv p), (iv f.1), (iv a.1), (lv none ([] : List (Int × Int)) 0), (lv none ([] : List Tk) 0)]))] ⟨(Qr (h := 14) K).symm.trans e1, g 13 18 K, trivial⟩ fun o => ?_
  refine zT 33 (.tmp 4) (.tmp 18) a5 0 2 (.agg #[(sv p), (iv f.1), (iv a.1), (lv none ([] : List (Int × Int)) 0), (lv none ([] : List Tk) 0)]) #[(sv p), (iv f.1), (iv a.1), (lv none ([] : List (Int × Int)) 0), (lv none ([] : List Tk) 0)] none r6 ?_
  intro x7 r7
  refine ⟨_, Qa o, trivial, ?_⟩
  exact (ei a5 (ai (ai r4 (ai r5 (ai e1 (ai rfl (trivial))))) r7))
 rintro P x8 hs hf ⟨a7, ⟨x9, y0, r8, y1, -⟩, r9⟩
 refine Qy [(0, (pt g1 0)), (4, (pt a7 0))] ⟨(hs 0 K).trans K, (Qr (h := 14) K).symm.trans r8, trivial⟩ ?_
 obtain ⟨hl762, H⟩ := Zx H
 rw [show (mT d9) ++ ([(p, f.1, a.1, ([] : List (Int × Int)), ([] : List Tk))] : List Qb) = (mT (d9 ++ [(p, f.1, a.1, (none, 0, ([] : List (Int × Int))), (none, 0, ([] : List Tk)))])) from Mm (d0 := d9) (y := (p, f.1, a.1, (none, 0, ([] : List (Int × Int))), (none, 0, ([] : List Tk))))] at H
 refine aG [GEq (pt g1 0), GEq (pt g1 0), GEq (pt g1 0), GEq (pt g1 0), GEq (pt g1 4), GEq (lv A7 (mT d9) c8), GEq (.agg #[(sv p), (iv f.1), (iv a.1), (lv none ([] : List (Int × Int)) 0), (lv none ([] : List Tk) 0)]), Ry, Ry, GEq (pt g1 0), GEq (pt g1 0), GEq (pt g1 4), Ry] [7, 8, 12] ((fun (X0 X1 : Ent) => [([], fun vs w => VL vs [] ∧ SP S w0 w [Da A7 c8 d9, X0, X1]), ([7], fun vs w => ∃ (a9 : Nat), VL vs [(lv (some ⟨a9, 0, none⟩) ([(p, f.1, a.1, ([] : List (Int × Int)), ([] : List Tk))] : List Qb) (List.length ([(p, f.1, a.1, ([] : List (Int × Int)), ([] : List Tk))] : List Qb)))] ∧ SP S w0 w [Da A7 c8 d9, X0, X1, Vh 33 Vu (some ⟨a9, 0, none⟩) (List.length ([(p, f.1, a.1, ([] : List (Int × Int)), ([] : List Tk))] : List Qb)) ([(p, f.1, a.1, (none, 0, ([] : List (Int × Int))), (none, 0, ([] : List Tk)))] : List Qg)]), ([7, 8], fun vs w => ∃ (c1 : Nat), ∃ (b0 : Option Addr), ∃ (b1 : Nat), VL vs [(lv (some ⟨c1, 0, none⟩) ([(p, f.1, a.1, ([] : List (Int × Int)), ([] : List Tk))] : List Qb) (List.length ([(p, f.1, a.1, ([] : List (Int × Int)), ([] : List Tk))] : List Qb))), (lv b0 (mT (d9 ++ [(p, f.1, a.1, (none, 0, ([] : List (Int × Int))), (none, 0, ([] : List Tk)))])) b1)] ∧ SP S w0 w [Da b0 b1 (d9 ++ [(p, f.1, a.1, (none, 0, ([] : List (Int × Int))), (none, 0, ([] : List Tk)))]), X0, X1, Vh 33 Vu (some ⟨c1, 0, none⟩) (List.length ([(p, f.1, a.1, ([] : List (Int × Int)), ([] : List Tk))] : List Qb)) ([(p, f.1, a.1, (none, 0, ([] : List (Int × Int))), (none, 0, ([] : List Tk)))] : List Qg)]), ([7, 8, 12], fun vs w => ∃ (c9 : Nat), ∃ (b6 : Option Addr), ∃ (b7 : Nat), VL vs [(lv (some ⟨c9, 0, none⟩) ([(p, f.1, a.1, ([] : List (Int × Int)), ([] : List Tk))] : List Qb) (List.length ([(p, f.1, a.1, ([] : List (Int × Int)), ([] : List Tk))] : List Qb))), (lv b6 (mT (d9 ++ [(p, f.1, a.1, (none, 0, ([] : List (Int × Int))), (none, 0, ([] : List Tk)))])) b7), undef] ∧ SP S w0 w [Da b6 b7 (d9 ++ [(p, f.1, a.1, (none, 0, ([] : List (Int × Int))), (none, 0, ([] : List Tk)))]), Qs g1 72 #[(iv a.2.1), (iv a.2.2.1), (iv a.2.2.2.1), (iv a.2.2.2.2.1), (lv b6 (mT (d9 ++ [(p, f.1, a.1, (none, 0, ([] : List (Int × Int))), (none, 0, ([] : List Tk)))])) b7), (iv a.2.2.2.2.2.1), (bv a.2.2.2.2.2.2)], X1, Vh 33 Vu (some ⟨c9, 0, none⟩) (List.length ([(p, f.1, a.1, ([] : List (Int × Int)), ([] : List Tk))] : List Qb)) ([(p, f.1, a.1, (none, 0, ([] : List (Int × Int))), (none, 0, ([] : List Tk)))] : List Qg)])]) (Qs g1 72 #[(iv a.2.1), (iv a.2.2.1), (iv a.2.2.2.1), (iv a.2.2.2.2.1), (lv A7 (mT d9) c8), (iv a.2.2.2.2.2.1), (bv a.2.2.2.2.2.2)]) (Qs a7 33 #[(sv p), (iv f.1), (iv a.1), (lv none ([] : List (Int × Int)) 0), (lv none ([] : List Tk) 0)])) 13 3 ⟨trivial, SP.drew r9⟩ ?_ ?_
 iterate 13 refine And.intro ?_ ?_
 exact trivial
 ·exact oU (hC (hS 0 (pt g1 0)) (h0))
 ·exact oU (hC (hS 0 (pt g1 0)) (h0))
 ·exact oU (hC (hA 1 20) (h0))
 ·exact oU (hC (hA 2 21) (h0))
 ·exact oU (hC (hA 3 22) (h0))
 ·refine Owe.light K [0, 1] K (Qc ?_ (Qc ?_ Qq))
  ·rintro P W hs g ⟨-, s0⟩
   refine kM (kc (kA g 4 23) k0) fun o => ?_
   refine sL 22 23 g1 4 1 (lv A7 (mT d9) c8) 24 s0 rfl ?_
   exact eK o
  rintro P W hs g ⟨a9, ⟨y2, -⟩, s1⟩
  refine kM (kc (kA g 4 23) k0) fun o => ?_
  refine sL 22 23 g1 4 1 (lv A7 (mT d9) c8) 24 s1 rfl ?_
  exact eK o
 ·refine oL 0 ?_
  rintro P W hs g ⟨-, s2⟩
  refine kM (kc (kS hs 4 (pt a7 0)) k0) fun o => ?_
  refine sL 33 4 a7 0 2 (.agg #[(sv p), (iv f.1), (iv a.1), (lv none ([] : List (Int × Int)) 0), (lv none ([] : List Tk) 0)]) 25 s2 rfl ?_
  exact eK o
 ·refine oH 0 1 ?_
  rintro P W hs g ⟨-, s3⟩
  refine kM (kc (kA g 6 25) k0) fun o => ?_
  refine zN Vu 22 33 1 #[(0, (.tmp 25))] #[(sv p), (iv f.1), (iv a.1), (lv none ([] : List (Int × Int)) 0), (lv none ([] : List Tk) 0)] ([(p, f.1, a.1, (none, 0, ([] : List (Int × Int))), (none, 0, ([] : List Tk)))] : List Qg) 26 s3 ?_
  intro s4 y3 s5
  refine ⟨_, Qa o, trivial, ?_⟩
  exact (ei s4 (ai (ai rfl (trivial)) s5))
 ·refine oH 1 2 ?_
  rintro P W hs g ⟨a9, ⟨e2, -⟩, e3⟩
  refine kN [(24, (lv A7 (mT d9) c8)), (26, (lv (some ⟨a9, 0, none⟩) ([(p, f.1, a.1, ([] : List (Int × Int)), ([] : List Tk))] : List Qb) (List.length ([(p, f.1, a.1, ([] : List (Int × Int)), ([] : List Tk))] : List Qb))))] ⟨g 5 24 K, (Qr (h := 7) K).symm.trans e2, trivial⟩ fun o => ?_
  refine Li (d := d9) (m := ([(p, f.1, a.1, (none, 0, ([] : List (Int × Int))), (none, 0, ([] : List Tk)))] : List Qg)) (y := (p, f.1, a.1, (none, 0, ([] : List (Int × Int))), (none, 0, ([] : List Tk)))) (A := A7) (c := c8) (T := 22) (TX := 22) (b := 80) (s := (.tmp 24)) (x := (.tmp 26)) (i := 0) (vx := (lv (some ⟨a9, 0, none⟩) ([(p, f.1, a.1, ([] : List (Int × Int)), ([] : List Tk))] : List Qb) (List.length ([(p, f.1, a.1, ([] : List (Int × Int)), ([] : List Tk))] : List Qb)))) (dst := (some 27)) (k := 8) K rfl K K K K K e3 rfl (Rj (E := 33) K (Qz (SP.get e3 (i := 3) rfl))) rfl rfl (lm := ([(p, f.1, a.1, ([] : List (Int × Int)), ([] : List Tk))] : List Qb)) hl762 rfl ?_
  intro s6 s7 y4 s8
  refine ⟨_, Qa o, trivial, ?_⟩
  exact (ei a9 (ei s6 (ei s7 (ai (ai e2 (ai rfl (trivial))) s8))))
 ·exact oU (hC (hA 0 19) (h0))
 ·exact oU (hC (hA 9 28) (h0))
 ·exact oU (hC (hA 10 29) (h0))
 ·refine oH 2 3 ?_
  rintro P W hs g ⟨c1, b0, b1, ⟨s9, e4, -⟩, t0⟩
  refine kN [(30, (pt g1 4)), (27, (lv b0 (mT (d9 ++ [(p, f.1, a.1, (none, 0, ([] : List (Int × Int))), (none, 0, ([] : List Tk)))])) b1))] ⟨g 11 30 K, (Qr (h := 8) K).symm.trans e4, trivial⟩ fun o => ?_
  refine zT 22 (.tmp 30) (.tmp 27) g1 4 1 (lv b0 (mT (d9 ++ [(p, f.1, a.1, (none, 0, ([] : List (Int × Int))), (none, 0, ([] : List Tk)))])) b1) #[(iv a.2.1), (iv a.2.2.1), (iv a.2.2.2.1), (iv a.2.2.2.2.1), (lv b0 (mT (d9 ++ [(p, f.1, a.1, (none, 0, ([] : List (Int × Int))), (none, 0, ([] : List Tk)))])) b1), (iv a.2.2.2.2.2.1), (bv a.2.2.2.2.2.2)] none t0 ?_
  intro y5 t1
  refine ⟨_, Qa o, trivial, ?_⟩
  exact (ei c1 (ei b0 (ei b1 (ai (ai s9 (ai e4 (ai rfl (trivial)))) t1))))
 rintro P y6 hs hf ⟨c9, b6, b7, ⟨y7, y8, y9, -⟩, t2⟩
 refine Qy [] trivial ?_
 refine ⟨(.tuple #[]), K, ?_⟩
 obtain rfl := Qe H
 exact ⟨b6, b7, (d9 ++ [(p, f.1, a.1, (none, 0, ([] : List (Int × Int))), (none, 0, ([] : List Tk)))]), rfl, rfl, SP.sel t2 [1,0] rfl rfl⟩
def Um (q2 : Int) (q3 : Int) (q4 : Int) (q5 : Int) (q6 : (List Qb)) (a : Int) (b : Bool) : Option ((List UInt8) × Int × Int × (List (Int × Int)) × (List ((List UInt8) × (List UInt8) × Int)) × Int × Int × Int × Int × Int × Bool) :=
  (cond (((List.length q6 : Nat) : Int) == 0) (some (([] : List UInt8), 0, 0, ([] : List (Int × Int)), ([] : List ((List UInt8) × (List UInt8) × Int)), q2, q3, q4, q5, a, true)) none)
set_option maxHeartbeats 40000000 in
theorem Rw {S : List Nat} (g1 : Nat) (A7 : Option Addr) (c8 : Nat) (q2 : Int) (q3 : Int) (q4 : Int) (q5 : Int) (a : (List Qg)) (b : Int) (d : Bool) (w0 : World) (hO : SP S w0 w0 [Qs g1 72 #[(iv q2), (iv q3), (iv q4), (iv q5), (lv A7 (mT a) c8), (iv b), (bv d)]]) (s : ∀ w, Mod S w0 w → (dDS Vu Fv).ok w (A7, c8, a)) (r : (Bs × Int × Int × (List (Int × Int)) × (List Tk) × Int × Int × Int × Int × Int × Bool)) (H : Um q2 q3 q4 q5 (mT a) b d = some r) :
  Calls Tryz.prog 166 #[(pt g1 0)] w0 (fun e W => ∃ (f : Nat) (g : Option Addr) (h : Nat) (i : Option Addr) (j : Nat), e = .returned (pt f 0) ∧ SP S w0 W [Qs f 33 #[(sv r.1), (iv r.2.1), (iv r.2.2.1), (lv g r.2.2.2.1 h), (lv i r.2.2.2.2.1 j)], Vh 102 (Qf (Qv .u32) (Qv .i64)) g h r.2.2.2.1, Vh 37 (Qf Qj (Qf Qj (Qv .i64))) i j r.2.2.2.2.1, Qs g1 72 #[(iv r.2.2.2.2.2.1), (iv r.2.2.2.2.2.2.1), (iv r.2.2.2.2.2.2.2.1), (iv r.2.2.2.2.2.2.2.2.1), (lv A7 (mT a) c8), (iv r.2.2.2.2.2.2.2.2.2.1), (bv r.2.2.2.2.2.2.2.2.2.2)]]) := by
 unfold Um at H
 refine Qt (n := 28) Tryz.func166 K K K ?_
 have k := hO
 refine aC ?_
 refine iR 1 1 [(2, (.pointer none))] ?_
 refine iF ?_
 refine aQ ?_
 refine aC ?_
 refine iR 4 4 [(3, (pt g1 0)), (4, (pt g1 0)), (5, (pt g1 0)), (6, (pt g1 4))] ?_
 refine jL 5 22 6 g1 4 0 (lv A7 (mT a) c8) 7 k rfl ?_
 refine iR 2 7 [(8, (iv (ln (mT a)))), (9, (bv ((ln (mT a)) == 0)))] ?_
 refine iF ?_
 refine cD 9 H (fun H => ?_) fun H => ?_
 ·refine aC ?_
  refine iR 3 3 [(10, (pt g1 0)), (11, (pt g1 0)), (12, (pt g1 6))] ?_
  refine iS 4 ?_
  refine zT 4 (.tmp 12) (.const (.bool true)) g1 6 0 (bv true) #[(iv q2), (iv q3), (iv q4), (iv q5), (lv A7 (mT a) c8), (iv b), (bv true)] none k ?_
  intro t m
  refine iF ?_
  refine aC ?_
  refine iR 1 1 [(13, (.agg #[(sv ([] : Bs)), (iv 0), (iv 0), (lv none ([] : List (Int × Int)) 0), (lv none ([] : List Tk) 0)]))] ?_
  refine iS 2 ?_
  refine zB 33 (.tmp 13) (.agg #[(sv ([] : Bs)), (iv 0), (iv 0), (lv none ([] : List (Int × Int)) 0), (lv none ([] : List Tk) 0)]) 14 m ?_
  intro c l o
  refine iR 1 3 [(2, (pt c 0))] ?_
  refine iF ?_
  refine At.ret K ?_
  have p : SP S w0 l [Qs g1 72 #[(iv q2), (iv q3), (iv q4), (iv q5), (lv A7 (mT a) c8), (iv b), (bv true)], Qs c 33 #[(sv ([] : Bs)), (iv 0), (iv 0), (lv none ([] : List (Int × Int)) 0), (lv none ([] : List Tk) 0)], Vh 102 (Qf (Qv .u32) (Qv .i64)) none 0 ([] : List (Int × Int))] := Nu o 102 (Qf (Qv .u32) (Qv .i64))
  have q : SP S w0 l [Qs g1 72 #[(iv q2), (iv q3), (iv q4), (iv q5), (lv A7 (mT a) c8), (iv b), (bv true)], Qs c 33 #[(sv ([] : Bs)), (iv 0), (iv 0), (lv none ([] : List (Int × Int)) 0), (lv none ([] : List Tk) 0)], Vh 102 (Qf (Qv .u32) (Qv .i64)) none 0 ([] : List (Int × Int)), Vh 37 (Qf Qj (Qf Qj (Qv .i64))) none 0 ([] : List Tk)] := Nu p 37 (Qf Qj (Qf Qj (Qv .i64)))
  refine ⟨(pt c 0), K, ?_⟩
  obtain rfl := Qe H
  exact ⟨c, none, 0, none, 0, rfl, SP.sel q [1,2,3,0] rfl rfl⟩
 cases H
def Jm (q2 : Int) (q3 : Int) (q4 : Int) (q5 : Int) (q6 : (List Qb)) (a : Int) (b : Bool) : Option Unit :=
  (cond (((List.length q6 : Nat) : Int) == 0) none ((idx q6 (IntKind.wrap .i64 (((List.length q6 : Nat) : Int) - 1))).bind fun c => (some ())))
set_option maxHeartbeats 40000000 in
theorem Rx {S : List Nat} (g1 : Nat) (A7 : Option Addr) (c8 : Nat) (q2 : Int) (q3 : Int) (q4 : Int) (q5 : Int) (a : (List Qg)) (g : Int) (h : Bool) (w0 : World) (hO : SP S w0 w0 [Qs g1 72 #[(iv q2), (iv q3), (iv q4), (iv q5), (lv A7 (mT a) c8), (iv g), (bv h)]]) (i : ∀ w, Mod S w0 w → (dDS Vu Fv).ok w (A7, c8, a)) (r : Unit) (H : Jm q2 q3 q4 q5 (mT a) g h = some r) :
  Calls Tryz.prog 166 #[(pt g1 0)] w0 (fun e W => ∃ (j : Nat) (m : Nat), e = .returned (.pointer (some ⟨j, (m + (List.length (mT a) - 1) * Vu.sz), none⟩)) ∧ A7 = some ⟨j, m, none⟩ ∧ SP S w0 W [Qs g1 72 #[(iv q2), (iv q3), (iv q4), (iv q5), (lv A7 (mT a) c8), (iv g), (bv h)]]) := by
 unfold Jm at H
 refine Qt (n := 28) Tryz.func166 K K K ?_
 have o := hO
 refine aC ?_
 refine iR 1 1 [(2, (.pointer none))] ?_
 refine iF ?_
 refine aQ ?_
 refine aC ?_
 refine iR 4 4 [(3, (pt g1 0)), (4, (pt g1 0)), (5, (pt g1 0)), (6, (pt g1 4))] ?_
 refine jL 5 22 6 g1 4 0 (lv A7 (mT a) c8) 7 o rfl ?_
 refine iR 2 7 [(8, (iv (ln (mT a)))), (9, (bv ((ln (mT a)) == 0)))] ?_
 refine iF ?_
 refine cD 9 H (fun H => ?_) fun H => ?_
 ·cases H
 refine At.skip K ?_
 refine aQ ?_
 obtain ⟨b0, p, q, b1, H⟩ := J9 H
 refine aG [GEq (pt g1 0), GEq (pt g1 0), GEq (pt g1 0), GEq (pt g1 4), GEq (lv A7 (mT a) c8), GEq (pt g1 0), GEq (pt g1 0), GEq (pt g1 0), GEq (pt g1 4), GEq (lv A7 (mT a) c8), GEq (iv (ln (mT a))), GEq (iv (IntKind.wrap .i64 ((ln (mT a)) - 1))), Zt A7 Vu.sz (IntKind.wrap .i64 ((ln (mT a)) - 1)), Zt A7 Vu.sz (IntKind.wrap .i64 ((ln (mT a)) - 1))] [] (tG S w0 [Qs g1 72 #[(iv q2), (iv q3), (iv q4), (iv q5), (lv A7 (mT a) c8), (iv g), (bv h)]] [([], [])]) 14 0 ⟨trivial, SP.drew o⟩ ?_ ?_
 iterate 14 refine And.intro ?_ ?_
 exact trivial
 ·exact oU (hC (hS 0 (pt g1 0)) (h0))
 ·exact oU (hC (hA 0 15) (h0))
 ·exact oU (hC (hA 1 16) (h0))
 ·exact oU (hC (hA 2 17) (h0))
 ·refine oL 0 ?_
  rintro P W hs b ⟨-, a0⟩
  refine kM (kc (kA b 3 18) k0) fun f => ?_
  refine sL 22 18 g1 4 0 (lv A7 (mT a) c8) 19 a0 rfl ?_
  exact eK f
 ·exact oU (hC (hS 0 (pt g1 0)) (h0))
 ·exact oU (hC (hA 5 20) (h0))
 ·exact oU (hC (hA 6 21) (h0))
 ·exact oU (hC (hA 7 22) (h0))
 ·refine oL 0 ?_
  rintro P W hs b ⟨-, a1⟩
  refine kM (kc (kA b 8 23) k0) fun f => ?_
  refine sL 22 23 g1 4 0 (lv A7 (mT a) c8) 24 a1 rfl ?_
  exact eK f
 ·exact oU (hC (hA 9 24) (h0))
 ·exact oU (hC (hA 10 25) (h0))
 ·refine oL 0 ?_
  rintro P W hs b ⟨-, a2⟩
  refine kM (kc (kA b 4 19) (kc (kA b 11 26) k0)) fun f => ?_
  refine Xd stT (e := Vu) (l := a) (A := A7) (c := c8) (T := 22) (E := 33) (x := (.tmp 19)) (ix := (.tmp 26)) (ki := .i64) (iz := (IntKind.wrap .i64 ((ln (mT a)) - 1))) (d := (some 27)) (k := 12) K rfl K K K K ((fun w hm => (Zh (i w hm))) W (SP.mod a2)) p q ?_
  intro a3 a4 a5 b2 hc68
  exact ⟨rfl, _, Qa f, ⟨a3, a4, a5, rfl⟩⟩
 ·refine oL 0 ?_
  rintro P W hs b ⟨-, b3⟩
  obtain ⟨s, t, a6, a7⟩ := b 12 27 K
  refine kM (kc a7 k0) fun f => ?_
  refine Qx.run (k := 13) (v := (.pointer (some ⟨s, (t + Int.toNat (IntKind.wrap .i64 ((ln (mT a)) - 1)) * Vu.sz), none⟩))) K ?_
  exact ⟨rfl, _, Qa f, ⟨s, t, a6, rfl⟩⟩
 rintro P a8 hs hf ⟨-, u⟩
 obtain ⟨y, z, a9, e2⟩ := hf 13 2 K
 refine Qy _ (kc e2 k0) ?_
 refine At.ret K ?_
 refine ⟨(.pointer (some ⟨y, (z + Int.toNat (IntKind.wrap .i64 ((ln (mT a)) - 1)) * Vu.sz), none⟩)), K, ?_⟩
 obtain rfl := Qe H
 exact ⟨y, z, (by rw [last_idx (RdT.max ((fun w hm => (Zh (i w hm))) a8 (SP.mod u))) p q]), a9, SP.sel u [0] rfl rfl⟩
def Ub (q6 : (List Qb)) (b : (Int × Int × Bool)) (a : ((List UInt8) × Int × Int × (List (Int × Int)) × (List ((List UInt8) × (List UInt8) × Int)) × Int × Int × Int × Int × Int × Bool)) (c : Bool) : Option (Int × Int × Int × Int × (List Qb) × Int × Bool) :=
  ((app a.2.2.2.1 ([(b.1, b.2.1)] : List (Int × Int))).bind fun d => (some (a.2.2.2.2.2.1, a.2.2.2.2.2.2.1, a.2.2.2.2.2.2.2.1, a.2.2.2.2.2.2.2.2.1, q6, a.2.2.2.2.2.2.2.2.2.1, c)))
def Yz (q2 : Int) (q3 : Int) (q4 : Int) (q5 : Int) (c : Int) (b : (Int × Int × Bool)) (d : (List Qb)) (a : Qb) (e : Bool) : Option (Int × Int × Int × Int × (List Qb) × Int × Bool) :=
  ((app a.2.2.2.1 ([(b.1, b.2.1)] : List (Int × Int))).bind fun f => (some (q2, q3, q4, q5, (d ++ [(a.1, a.2.1, a.2.2.1, f, a.2.2.2.2)]), c, e)))
def Gu (q2 : Int) (q3 : Int) (q4 : Int) (q5 : Int) (q6 : (List Qb)) (b : Int) (e : Bool) (g : (List (List UInt8))) : Option (Int × Int × Int × Int × (List Qb) × Int × Bool) :=
  ((idx g 1).bind fun h => ((Bh h).bind fun a => (cond (List.isEmpty q6) ((Um q2 q3 q4 q5 q6 b e).bind fun c => (cond c.2.2.2.2.2.2.2.2.2.2 (Ub q6 a c true) (cond (!a.2.2) (Ub q6 a c true) (Ub q6 a c (decide (((List.length c.2.2.2.2.1 : Nat) : Int) > 0)))))) ((Jm q2 q3 q4 q5 q6 b e).bind fun i => (Tu q6 (fun f d j => (cond e (Yz q2 q3 q4 q5 b a f d true) (cond (!a.2.2) (Yz q2 q3 q4 q5 b a f d true) (Yz q2 q3 q4 q5 b a f d (decide (((List.length d.2.2.2.2 : Nat) : Int) > 0)))))))))))
set_option maxHeartbeats 40000000 in
theorem C4 {S : List Nat} (g1 : Nat) (A7 : Option Addr) (c8 : Nat) (c7 : Option Addr) (c9 : Nat) (q2 : Int) (q3 : Int) (q4 : Int) (q5 : Int) (d9 : (List Qg)) (a6 : Int) (b3 : Bool) (c3 : (List Bs)) (w0 : World) (hL : ∀ w, Mod S w0 w → Be w) (hO : SP S w0 w0 [Qs g1 72 #[(iv q2), (iv q3), (iv q4), (iv q5), (.slice A7 (List.length (mT d9)) c8), (iv a6), (bv b3)], Da A7 c8 d9]) (e3 : ∀ w, Mod S w0 w → RdT Qj w c7 c9 c3) (r : (Int × Int × Int × Int × (List Qb) × Int × Bool)) (H : Gu q2 q3 q4 q5 (mT d9) a6 b3 c3 = some r) :
  Calls Tryz.prog 144 #[(pt g1 0), (.slice c7 (List.length c3) c9)] w0 (fun e W => ∃ (e4 : Option Addr) (e5 : Nat) (e0 : List Qg), e = .returned (.tuple #[]) ∧ r.2.2.2.2.1 = List.map stT e0 ∧ SP S w0 W [Qs g1 72 #[(iv r.1), (iv r.2.1), (iv r.2.2.1), (iv r.2.2.2.1), (.slice e4 (List.length (mT e0)) e5), (iv r.2.2.2.2.2.1), (bv r.2.2.2.2.2.2)], Da e4 e5 e0]) := by
 unfold Gu at H
 refine Qt (n := 45) Tryz.func144 K K K ?_
 have d1 := hO
 refine aC ?_
 refine iR 1 1 [(8, (.slice c7 (List.length c3) c9))] ?_
 obtain ⟨e6, e7, e8, g0, H⟩ := Qu H
 refine jE 2 Qj c3 c7 c9 79 9 (.tmp 8) (.const (.int .i64 (1))) 1 9 (e3 w0 (SP.mod d1)) e7 e8 ?_
 intro g2 g3 g4 l1 hc272
 refine jX 3 9 9 g2 (g3 + Int.toNat 1 * Qj.sz) (sv e6) 10 (Ql (e := Qj) (Qh (e3 w0 (SP.mod d1)) g4 e7 e8) g0 (j := 0) rfl) ?_
 obtain ⟨a, g5, H⟩ := Qd H
 refine iS 4 ?_
 refine cS d1 165 #[(.tmp 10)] #[9] 11 Tryz.call165 (Ib  e6 w0 (hL w0 (SP.mod d1)) a g5) ?_
 intro l2 g6
 refine iR 3 7 [(7, (.tuple #[(.agg #[(.int .u32 a.1), (iv a.2.1)]), (bv a.2.2)])), (12, (.agg #[(.int .u32 a.1), (iv a.2.1)])), (13, (bv a.2.2))] ?_
 refine iS 8 ?_
 refine zA 102 (.agg #[(.int .u32 0), (iv 0)]) 4 g6 ?_
 intro a4 l3 g7
 refine iS 9 ?_
 refine zT 102 (.tmp 4) (.tmp 12) a4 0 2 (.agg #[(.int .u32 a.1), (iv a.2.1)]) #[(.int .u32 a.1), (iv a.2.1)] none g7 ?_
 intro e9 c1
 refine iR 1 10 [(5, (bv a.2.2))] ?_
 refine iF ?_
 refine aC ?_
 refine iR 1 1 [(14, (pt g1 0))] ?_
 rcases Bool.eq_false_or_eq_true (List.isEmpty (mT d9)) with d2 | d2
 ·have H := ct H d2
  obtain ⟨o, g8, H⟩ := Qd H
  refine iS 2 ?_
  refine cF 166 #[(.tmp 14)] #[70] 15 Tryz.call166 (Rw g1 A7 c8 q2 q3 q4 q5 d9 a6 b3 e9 (Ru c1 [0] rfl rfl) (fun w hm => D6 (SP.still c1 (l := [0]) (i := 1) rfl rfl rfl hm)) o g8) ?_
  rintro e g9 ⟨a0, a7, a8, b1, b2, rfl, f0⟩
  refine ⟨_, rfl, ?_⟩
  have c4 : SP S w0 g9 [Da A7 c8 d9, Qs a4 102 #[(.int .u32 a.1), (iv a.2.1)], Qs a0 33 #[(sv o.1), (iv o.2.1), (iv o.2.2.1), (.slice a7 (List.length o.2.2.2.1) a8), (.slice b1 (List.length o.2.2.2.2.1) b2)], Vh 102 (Qf (Qv .u32) (Qv .i64)) a7 a8 o.2.2.2.1, Vh 37 (Qf Qj (Qf Qj (Qv .i64))) b1 b2 o.2.2.2.2.1, Qs g1 72 #[(iv o.2.2.2.2.2.1), (iv o.2.2.2.2.2.2.1), (iv o.2.2.2.2.2.2.2.1), (iv o.2.2.2.2.2.2.2.2.1), (.slice A7 (List.length (mT d9)) c8), (iv o.2.2.2.2.2.2.2.2.2.1), (bv o.2.2.2.2.2.2.2.2.2.2)]] := Jq c1 [0] [1, 2] rfl rfl f0 rfl
  clear f0
  refine iR 1 3 [(6, (pt a0 0))] ?_
  refine iF ?_
  refine aQ ?_
  refine At.join (fun ρ w => ∃ (d3 : Bool), Vq ρ [(4, (pt a4 0)), (6, (pt a0 0))] ∧ SP S w0 w [Da A7 c8 d9, Qs g1 72 #[(iv o.2.2.2.2.2.1), (iv o.2.2.2.2.2.2.1), (iv o.2.2.2.2.2.2.2.1), (iv o.2.2.2.2.2.2.2.2.1), (.slice A7 (List.length (mT d9)) c8), (iv o.2.2.2.2.2.2.2.2.2.1), (bv d3)], Qs a4 102 #[(.int .u32 a.1), (iv a.2.1)], Vh 102 (Qf (Qv .u32) (Qv .i64)) a7 a8 o.2.2.2.1, Vh 37 (Qf Qj (Qf Qj (Qv .i64))) b1 b2 o.2.2.2.2.1, Qs a0 33 #[(sv o.1), (iv o.2.1), (iv o.2.2.1), (.slice a7 (List.length o.2.2.2.1) a8), (.slice b1 (List.length o.2.2.2.2.1) b2)]] ∧ Ub (mT d9) a o d3 = some r) ?_ ?_
  ·refine aR ?_
   refine iR 4 4 [(16, (pt g1 0)), (17, (pt g1 0)), (18, (pt g1 0)), (19, (pt g1 6))] ?_
   refine jL 5 4 19 g1 6 5 (bv o.2.2.2.2.2.2.2.2.2.2) 20 c4 rfl ?_
   refine iR 1 6 [(21, (bv o.2.2.2.2.2.2.2.2.2.2))] ?_
   refine gD 21 H (fun H => ?_) fun H => ?_
   ·refine iR 13 19 (uN 22 2 ((24, (bv true)) :: (25, (bv true)) :: (uN 26 6 [(32, (bv true)), (33, (pt g1 0)), (34, (pt g1 6))]))) ?_
    refine iS 20 ?_
    refine zT 4 (.tmp 34) (.tmp 32) g1 6 5 (bv true) #[(iv o.2.2.2.2.2.1), (iv o.2.2.2.2.2.2.1), (iv o.2.2.2.2.2.2.2.1), (iv o.2.2.2.2.2.2.2.2.1), (.slice A7 (List.length (mT d9)) c8), (iv o.2.2.2.2.2.2.2.2.2.1), (bv true)] none c4 ?_
    intro l4 h1
    refine iF ?_
    exact ⟨true, ⟨K, K, trivial⟩, SP.sel h1 [0, 5, 1, 3, 4, 2] rfl rfl, H⟩
   refine iR 4 10 [(22, (bv a.2.2)), (23, (bv (!a.2.2))), (24, (bv (!a.2.2))), (25, (bv (!a.2.2)))] ?_
   refine gD 25 H (fun H => ?_) fun H => ?_
   ·refine iR 9 19 (uN 26 6 [(32, (bv true)), (33, (pt g1 0)), (34, (pt g1 6))]) ?_
    refine iS 20 ?_
    refine zT 4 (.tmp 34) (.tmp 32) g1 6 5 (bv true) #[(iv o.2.2.2.2.2.1), (iv o.2.2.2.2.2.2.1), (iv o.2.2.2.2.2.2.2.1), (iv o.2.2.2.2.2.2.2.2.1), (.slice A7 (List.length (mT d9)) c8), (iv o.2.2.2.2.2.2.2.2.2.1), (bv true)] none c4 ?_
    intro l5 h2
    refine iF ?_
    exact ⟨true, ⟨K, K, trivial⟩, SP.sel h2 [0, 5, 1, 3, 4, 2] rfl rfl, H⟩
   refine iR 3 13 [(26, (pt a0 0)), (27, (pt a0 0)), (28, (pt a0 4))] ?_
   refine jL 14 31 28 a0 4 2 (.slice b1 (List.length o.2.2.2.2.1) b2) 29 c4 rfl ?_
   refine iR 5 19 [(30, (iv (ln o.2.2.2.2.1))), (31, (bv (decide ((ln o.2.2.2.2.1) > 0)))), (32, (bv (decide ((ln o.2.2.2.2.1) > 0)))), (33, (pt g1 0)), (34, (pt g1 6))] ?_
   refine iS 20 ?_
   refine zT 4 (.tmp 34) (.tmp 32) g1 6 5 (bv (decide ((ln o.2.2.2.2.1) > 0))) #[(iv o.2.2.2.2.2.1), (iv o.2.2.2.2.2.2.1), (iv o.2.2.2.2.2.2.2.1), (iv o.2.2.2.2.2.2.2.2.1), (.slice A7 (List.length (mT d9)) c8), (iv o.2.2.2.2.2.2.2.2.2.1), (bv (decide ((ln o.2.2.2.2.1) > 0)))] none c4 ?_
   intro l6 h3
   refine iF ?_
   exact ⟨(decide ((ln o.2.2.2.2.1) > 0)), ⟨K, K, trivial⟩, SP.sel h3 [0, 5, 1, 3, 4, 2] rfl rfl, H⟩
  rintro ρ l7 ⟨d3, hk, h4, H⟩
  unfold Ub at H
  first | refine At.known _ hk ?_ | rw [← Qo hk]
  obtain ⟨hl318, H⟩ := Zx H
  obtain ⟨b4, hyl319⟩ : ∃ y, o.2.2.2.1 ++ ([(a.1, a.2.1)] : List (Int × Int)) = y := ⟨_, rfl⟩
  try rw [hyl319] at H
  refine aG [GEq (pt a0 0), GEq (pt a0 0), GEq (pt a0 0), GEq (pt a0 3), GEq (.slice a7 (List.length o.2.2.2.1) a8), GEq (.agg #[(.int .u32 a.1), (iv a.2.1)]), Ry, Ry, GEq (pt a0 0), GEq (pt a0 3), Ry] [6, 7, 10] ((fun (X0 X1 X2 X3 X4 X5 : Ent) => [([], fun vs w => VL vs [] ∧ SP S w0 w [X0, X1, X2, X3, X4, X5]), ([6], fun vs w => ∃ (b5 : Nat), VL vs [(.slice (some ⟨b5, 0, none⟩) (List.length ([(a.1, a.2.1)] : List (Int × Int))) (List.length ([(a.1, a.2.1)] : List (Int × Int))))] ∧ SP S w0 w [X0, X1, X2, X3, X4, X5, Vh 102 (Qf (Qv .u32) (Qv .i64)) (some ⟨b5, 0, none⟩) (List.length ([(a.1, a.2.1)] : List (Int × Int))) ([(a.1, a.2.1)] : List (Int × Int))]), ([6, 7], fun vs w => ∃ (d4 : Nat), ∃ (b6 : Option Addr), ∃ (b7 : Nat), VL vs [(.slice (some ⟨d4, 0, none⟩) (List.length ([(a.1, a.2.1)] : List (Int × Int))) (List.length ([(a.1, a.2.1)] : List (Int × Int)))), (.slice b6 (List.length b4) b7)] ∧ SP S w0 w [X0, X1, X2, Vh 102 (Qf (Qv .u32) (Qv .i64)) b6 b7 b4, X4, X5, Vh 102 (Qf (Qv .u32) (Qv .i64)) (some ⟨d4, 0, none⟩) (List.length ([(a.1, a.2.1)] : List (Int × Int))) ([(a.1, a.2.1)] : List (Int × Int))]), ([6, 7, 10], fun vs w => ∃ (e1 : Nat), ∃ (d5 : Option Addr), ∃ (d6 : Nat), VL vs [(.slice (some ⟨e1, 0, none⟩) (List.length ([(a.1, a.2.1)] : List (Int × Int))) (List.length ([(a.1, a.2.1)] : List (Int × Int)))), (.slice d5 (List.length b4) d6), undef] ∧ SP S w0 w [X0, X1, X2, Vh 102 (Qf (Qv .u32) (Qv .i64)) d5 d6 b4, X4, Qs a0 33 #[(sv o.1), (iv o.2.1), (iv o.2.2.1), (.slice d5 (List.length b4) d6), (.slice b1 (List.length o.2.2.2.2.1) b2)], Vh 102 (Qf (Qv .u32) (Qv .i64)) (some ⟨e1, 0, none⟩) (List.length ([(a.1, a.2.1)] : List (Int × Int))) ([(a.1, a.2.1)] : List (Int × Int))])]) (Da A7 c8 d9) (Qs g1 72 #[(iv o.2.2.2.2.2.1), (iv o.2.2.2.2.2.2.1), (iv o.2.2.2.2.2.2.2.1), (iv o.2.2.2.2.2.2.2.2.1), (.slice A7 (List.length (mT d9)) c8), (iv o.2.2.2.2.2.2.2.2.2.1), (bv d3)]) (Qs a4 102 #[(.int .u32 a.1), (iv a.2.1)]) (Vh 102 (Qf (Qv .u32) (Qv .i64)) a7 a8 o.2.2.2.1) (Vh 37 (Qf Qj (Qf Qj (Qv .i64))) b1 b2 o.2.2.2.2.1) (Qs a0 33 #[(sv o.1), (iv o.2.1), (iv o.2.2.1), (.slice a7 (List.length o.2.2.2.1) a8), (.slice b1 (List.length o.2.2.2.2.1) b2)])) 11 3 ⟨trivial, SP.drew h4⟩ ?_ ?_
  iterate 11 refine And.intro ?_ ?_
  exact trivial
  ·exact oU (hC (hS 6 (pt a0 0)) (h0))
  ·exact oU (hC (hS 6 (pt a0 0)) (h0))
  ·exact oU (hC (hA 1 36) (h0))
  ·exact oU (hC (hA 2 37) (h0))
  ·refine Owe.light K [0, 1] K (Qc ?_ (Qc ?_ Qq))
   ·rintro P W hs a1 ⟨-, h5⟩
    refine kM (kc (kA a1 3 38) k0) fun u => ?_
    refine sL 30 38 a0 3 5 (.slice a7 (List.length o.2.2.2.1) a8) 39 h5 rfl ?_
    exact eK u
   rintro P W hs a1 ⟨b5, ⟨l8, -⟩, h6⟩
   refine kM (kc (kA a1 3 38) k0) fun u => ?_
   refine sL 30 38 a0 3 5 (.slice a7 (List.length o.2.2.2.1) a8) 39 h6 rfl ?_
   exact eK u
  ·refine oL 0 ?_
   rintro P W hs a1 ⟨-, h7⟩
   refine kM (kc (kS hs 4 (pt a4 0)) k0) fun u => ?_
   refine sL 102 4 a4 0 2 (.agg #[(.int .u32 a.1), (iv a.2.1)]) 40 h7 rfl ?_
   exact eK u
  ·refine oH 0 1 ?_
   rintro P W hs a1 ⟨-, h8⟩
   refine kM (kc (kA a1 5 40) k0) fun u => ?_
   refine zN (Qf (Qv .u32) (Qv .i64)) 30 102 1 #[(0, (.tmp 40))] #[(.int .u32 a.1), (iv a.2.1)] ([(a.1, a.2.1)] : List (Int × Int)) 41 h8 ?_
   intro h9 l9 i0
   refine ⟨_, Qa u, trivial, ?_⟩
   exact (ei h9 (ai (ai rfl (trivial)) i0))
  ·refine oH 1 2 ?_
   rintro P W hs a1 ⟨b5, ⟨f1, -⟩, f2⟩
   refine kN [(39, (.slice a7 (List.length o.2.2.2.1) a8)), (41, (.slice (some ⟨b5, 0, none⟩) (List.length ([(a.1, a.2.1)] : List (Int × Int))) (List.length ([(a.1, a.2.1)] : List (Int × Int)))))] ⟨a1 4 39 K, (Qr (h := 6) K).symm.trans f1, trivial⟩ fun u => ?_
   refine Qx.append (e := (Qf (Qv .u32) (Qv .i64))) (l := o.2.2.2.1) (m := ([(a.1, a.2.1)] : List (Int × Int))) (A := a7) (c := a8) (T := 30) (TX := 30) (E := 102) (b := 16) (s := (.tmp 39)) (x := (.tmp 41)) (i := 3) (vx := (.slice (some ⟨b5, 0, none⟩) (List.length ([(a.1, a.2.1)] : List (Int × Int))) (List.length ([(a.1, a.2.1)] : List (Int × Int))))) (d := (some 42)) (k := 7) K rfl K K K K rfl f2 rfl (Rj (E := 102) K (Qz (SP.get f2 (i := 6) rfl))) hl318 ?_
   rw [hyl319]
   intro i1 i2 m0 i3
   refine ⟨_, Qa u, trivial, ?_⟩
   exact (ei b5 (ei i1 (ei i2 (ai (ai f1 (ai rfl (trivial))) i3))))
  ·exact oU (hC (hA 0 35) (h0))
  ·exact oU (hC (hA 8 43) (h0))
  ·refine oH 2 3 ?_
   rintro P W hs a1 ⟨d4, b6, b7, ⟨i4, f3, -⟩, i5⟩
   refine kN [(44, (pt a0 3)), (42, (.slice b6 (List.length b4) b7))] ⟨a1 9 44 K, (Qr (h := 7) K).symm.trans f3, trivial⟩ fun u => ?_
   refine zT 30 (.tmp 44) (.tmp 42) a0 3 5 (.slice b6 (List.length b4) b7) #[(sv o.1), (iv o.2.1), (iv o.2.2.1), (.slice b6 (List.length b4) b7), (.slice b1 (List.length o.2.2.2.2.1) b2)] none i5 ?_
   intro m1 i6
   refine ⟨_, Qa u, trivial, ?_⟩
   exact (ei d4 (ei b6 (ei b7 (ai (ai i4 (ai f3 (ai rfl (trivial)))) i6))))
  rintro P m2 hs hf ⟨e1, d5, d6, ⟨m3, m4, m5, -⟩, i7⟩
  refine Qy [] trivial ?_
  refine ⟨(.tuple #[]), K, ?_⟩
  obtain rfl := Qe H
  exact ⟨A7, c8, d9, rfl, rfl, SP.sel i7 [1,0] rfl rfl⟩
 have H := cf H d2
 obtain ⟨i8, i9, H⟩ := Qd H
 refine iS 2 ?_
 refine cF 166 #[(.tmp 14)] #[70] 15 Tryz.call166 (Rx g1 A7 c8 q2 q3 q4 q5 d9 a6 b3 e9 (Ru c1 [0] rfl rfl) (fun w hm => D6 (SP.still c1 (l := [0]) (i := 1) rfl rfl rfl hm)) i8 i9) ?_
 rintro e f4 ⟨a2, a3, rfl, d7, f5⟩
 refine ⟨_, rfl, ?_⟩
 have j0 : SP S w0 f4 [Da A7 c8 d9, Qs a4 102 #[(.int .u32 a.1), (iv a.2.1)], Qs g1 72 #[(iv q2), (iv q3), (iv q4), (iv q5), (.slice A7 (List.length (mT d9)) c8), (iv a6), (bv b3)]] := Jq c1 [0] [1, 2] rfl rfl f5 rfl
 clear f5
 obtain ⟨p, g, e2⟩ := Ly d2
 have Hd407 := Lz e2 H
 have hnd407 : List.length (mT d9) - 1 = List.length p := by rw [e2]; simp
 rw [hnd407]
 subst e2
 have H := Hd407
 have c5 : SP S w0 f4 [Vh 33 Vu A7 c8 (p ++ [g]), Qs a4 102 #[(.int .u32 a.1), (iv a.2.1)], Qs g1 72 #[(iv q2), (iv q3), (iv q4), (iv q5), (.slice A7 (List.length (mT (p ++ [g]))) c8), (iv a6), (bv b3)], It p, Vh 102 (Qf (Qv .u32) (Qv .i64)) g.2.2.2.1.1 g.2.2.2.1.2.1 (stT g).2.2.2.1, Vh 37 (Qf Qj (Qf Qj (Qv .i64))) g.2.2.2.2.1 g.2.2.2.2.2.1 (stT g).2.2.2.2] := Kw j0 (i := 0) rfl rfl
 refine iR 1 3 [(6, (.pointer (some ⟨a2, (a3 + (List.length p) * Vu.sz), none⟩)))] ?_
 refine iF ?_
 refine aQ ?_
 refine At.join (fun ρ w => ∃ (c2 : Bool), Vq ρ [(4, (pt a4 0)), (6, (.pointer (some ⟨a2, (a3 + (List.length p) * Vu.sz), none⟩)))] ∧ SP S w0 w [Vh 33 Vu A7 c8 (p ++ [g]), It p, Vh 102 (Qf (Qv .u32) (Qv .i64)) g.2.2.2.1.1 g.2.2.2.1.2.1 (stT g).2.2.2.1, Vh 37 (Qf Qj (Qf Qj (Qv .i64))) g.2.2.2.2.1 g.2.2.2.2.2.1 (stT g).2.2.2.2, Qs g1 72 #[(iv q2), (iv q3), (iv q4), (iv q5), (.slice A7 (List.length (mT (p ++ [g]))) c8), (iv a6), (bv c2)], Qs a4 102 #[(.int .u32 a.1), (iv a.2.1)]] ∧ Yz q2 q3 q4 q5 a6 a (mT p) (stT g) c2 = some r) ?_ ?_
 ·refine aR ?_
  refine iR 4 4 [(16, (pt g1 0)), (17, (pt g1 0)), (18, (pt g1 0)), (19, (pt g1 6))] ?_
  refine jL 5 4 19 g1 6 2 (bv b3) 20 c5 rfl ?_
  refine iR 1 6 [(21, (bv b3))] ?_
  refine gD 21 H (fun H => ?_) fun H => ?_
  ·refine iR 13 19 (uN 22 2 ((24, (bv true)) :: (25, (bv true)) :: (uN 26 6 [(32, (bv true)), (33, (pt g1 0)), (34, (pt g1 6))]))) ?_
   refine iS 20 ?_
   refine zT 4 (.tmp 34) (.tmp 32) g1 6 2 (bv true) #[(iv q2), (iv q3), (iv q4), (iv q5), (.slice A7 (List.length (mT (p ++ [g]))) c8), (iv a6), (bv true)] none c5 ?_
   intro m6 j1
   refine iF ?_
   exact ⟨true, ⟨K, K, trivial⟩, SP.sel j1 [0, 3, 4, 5, 2, 1] rfl rfl, H⟩
  refine iR 4 10 [(22, (bv a.2.2)), (23, (bv (!a.2.2))), (24, (bv (!a.2.2))), (25, (bv (!a.2.2)))] ?_
  refine gD 25 H (fun H => ?_) fun H => ?_
  ·refine iR 9 19 (uN 26 6 [(32, (bv true)), (33, (pt g1 0)), (34, (pt g1 6))]) ?_
   refine iS 20 ?_
   refine zT 4 (.tmp 34) (.tmp 32) g1 6 2 (bv true) #[(iv q2), (iv q3), (iv q4), (iv q5), (.slice A7 (List.length (mT (p ++ [g]))) c8), (iv a6), (bv true)] none c5 ?_
   intro m7 j2
   refine iF ?_
   exact ⟨true, ⟨K, K, trivial⟩, SP.sel j2 [0, 3, 4, 5, 2, 1] rfl rfl, H⟩
  refine iR 3 13 [(26, (.pointer (some ⟨a2, (a3 + (List.length p) * Vu.sz), none⟩))), (27, (.pointer (some ⟨a2, (a3 + (List.length p) * Vu.sz), none⟩))), (28, (.pointer (some ⟨a2, (a3 + (List.length p) * Vu.sz + 4), none⟩)))] ?_
  refine jX 14 31 28 a2 (a3 + (List.length p) * Vu.sz + 4) (.slice g.2.2.2.2.1 (List.length (stT g).2.2.2.2) g.2.2.2.2.2.1) 29 (C3 (SP.get c5 (i := 0) rfl) d7 (f := 4) rfl) ?_
  refine iR 5 19 [(30, (iv (ln (stT g).2.2.2.2))), (31, (bv (decide ((ln (stT g).2.2.2.2) > 0)))), (32, (bv (decide ((ln (stT g).2.2.2.2) > 0)))), (33, (pt g1 0)), (34, (pt g1 6))] ?_
  refine iS 20 ?_
  refine zT 4 (.tmp 34) (.tmp 32) g1 6 2 (bv (decide ((ln (stT g).2.2.2.2) > 0))) #[(iv q2), (iv q3), (iv q4), (iv q5), (.slice A7 (List.length (mT (p ++ [g]))) c8), (iv a6), (bv (decide ((ln (stT g).2.2.2.2) > 0)))] none c5 ?_
  intro m8 j3
  refine iF ?_
  exact ⟨(decide ((ln (stT g).2.2.2.2) > 0)), ⟨K, K, trivial⟩, SP.sel j3 [0, 3, 4, 5, 2, 1] rfl rfl, H⟩
 rintro ρ m9 ⟨c2, hk, j4, H⟩
 unfold Yz at H
 first | refine At.known _ hk ?_ | rw [← Qo hk]
 obtain ⟨hl433, H⟩ := Zx H
 obtain ⟨a5, hyl434⟩ : ∃ y, (stT g).2.2.2.1 ++ ([(a.1, a.2.1)] : List (Int × Int)) = y := ⟨_, rfl⟩
 try rw [hyl434] at H
 refine aG [GEq (.pointer (some ⟨a2, (a3 + (List.length p) * Vu.sz), none⟩)), GEq (.pointer (some ⟨a2, (a3 + (List.length p) * Vu.sz), none⟩)), GEq (.pointer (some ⟨a2, (a3 + (List.length p) * Vu.sz), none⟩)), GEq (.pointer (some ⟨a2, (a3 + (List.length p) * Vu.sz + 3), none⟩)), GEq (.slice g.2.2.2.1.1 (List.length (stT g).2.2.2.1) g.2.2.2.1.2.1), GEq (.agg #[(.int .u32 a.1), (iv a.2.1)]), Ry, Ry, GEq (.pointer (some ⟨a2, (a3 + (List.length p) * Vu.sz), none⟩)), GEq (.pointer (some ⟨a2, (a3 + (List.length p) * Vu.sz + 3), none⟩)), Ry] [6, 7, 10] ((fun (X0 X1 X2 X3 X4 X5 : Ent) => [([], fun vs w => VL vs [] ∧ SP S w0 w [X0, X1, X2, X3, X4, X5]), ([6], fun vs w => ∃ (b8 : Nat), VL vs [(.slice (some ⟨b8, 0, none⟩) (List.length ([(a.1, a.2.1)] : List (Int × Int))) (List.length ([(a.1, a.2.1)] : List (Int × Int))))] ∧ SP S w0 w [X0, X1, X2, X3, X4, X5, Vh 102 (Qf (Qv .u32) (Qv .i64)) (some ⟨b8, 0, none⟩) (List.length ([(a.1, a.2.1)] : List (Int × Int))) ([(a.1, a.2.1)] : List (Int × Int))]), ([6, 7], fun vs w => ∃ (d8 : Nat), ∃ (b9 : Option Addr), ∃ (c0 : Nat), VL vs [(.slice (some ⟨d8, 0, none⟩) (List.length ([(a.1, a.2.1)] : List (Int × Int))) (List.length ([(a.1, a.2.1)] : List (Int × Int)))), (.slice b9 (List.length a5) c0)] ∧ SP S w0 w [X0, X1, Vh 102 (Qf (Qv .u32) (Qv .i64)) b9 c0 a5, X3, X4, X5, Vh 102 (Qf (Qv .u32) (Qv .i64)) (some ⟨d8, 0, none⟩) (List.length ([(a.1, a.2.1)] : List (Int × Int))) ([(a.1, a.2.1)] : List (Int × Int))]), ([6, 7, 10], fun vs w => ∃ (c6 : Nat), ∃ (a9 : Option Addr), ∃ (b0 : Nat), VL vs [(.slice (some ⟨c6, 0, none⟩) (List.length ([(a.1, a.2.1)] : List (Int × Int))) (List.length ([(a.1, a.2.1)] : List (Int × Int)))), (.slice a9 (List.length a5) b0), undef] ∧ SP S w0 w [Vh 33 Vu A7 c8 (p ++ [((g.1, g.2.1, g.2.2.1, (a9, b0, a5), g.2.2.2.2) : Qg)]), X1, Vh 102 (Qf (Qv .u32) (Qv .i64)) a9 b0 a5, X3, X4, X5, Vh 102 (Qf (Qv .u32) (Qv .i64)) (some ⟨c6, 0, none⟩) (List.length ([(a.1, a.2.1)] : List (Int × Int))) ([(a.1, a.2.1)] : List (Int × Int))])]) (Vh 33 Vu A7 c8 (p ++ [g])) (It p) (Vh 102 (Qf (Qv .u32) (Qv .i64)) g.2.2.2.1.1 g.2.2.2.1.2.1 (stT g).2.2.2.1) (Vh 37 (Qf Qj (Qf Qj (Qv .i64))) g.2.2.2.2.1 g.2.2.2.2.2.1 (stT g).2.2.2.2) (Qs g1 72 #[(iv q2), (iv q3), (iv q4), (iv q5), (.slice A7 (List.length (mT (p ++ [g]))) c8), (iv a6), (bv c2)]) (Qs a4 102 #[(.int .u32 a.1), (iv a.2.1)])) 11 3 ⟨trivial, SP.drew j4⟩ ?_ ?_
 iterate 11 refine And.intro ?_ ?_
 exact trivial
 ·exact oU (hC (hS 6 (.pointer (some ⟨a2, (a3 + (List.length p) * Vu.sz), none⟩))) (h0))
 ·exact oU (hC (hS 6 (.pointer (some ⟨a2, (a3 + (List.length p) * Vu.sz), none⟩))) (h0))
 ·exact oU (hC (hA 1 36) (h0))
 ·exact oU (hC (hA 2 37) (h0))
 ·refine Owe.light K [0, 1] K (Qc ?_ (Qc ?_ Qq))
  ·rintro P W hs a1 ⟨-, j5⟩
   refine kM (kc (kA a1 3 38) k0) fun u => ?_
   refine sC 30 38 a2 (a3 + (List.length p) * Vu.sz + 3) (.slice g.2.2.2.1.1 (List.length (stT g).2.2.2.1) g.2.2.2.1.2.1) 39 (C3 (SP.get j5 (i := 0) rfl) d7 (f := 3) rfl) ?_
   exact eK u
  rintro P W hs a1 ⟨b8, ⟨n0, -⟩, j6⟩
  refine kM (kc (kA a1 3 38) k0) fun u => ?_
  refine sC 30 38 a2 (a3 + (List.length p) * Vu.sz + 3) (.slice g.2.2.2.1.1 (List.length (stT g).2.2.2.1) g.2.2.2.1.2.1) 39 (C3 (SP.get j6 (i := 0) rfl) d7 (f := 3) rfl) ?_
  exact eK u
 ·refine oL 0 ?_
  rintro P W hs a1 ⟨-, j7⟩
  refine kM (kc (kS hs 4 (pt a4 0)) k0) fun u => ?_
  refine sL 102 4 a4 0 5 (.agg #[(.int .u32 a.1), (iv a.2.1)]) 40 j7 rfl ?_
  exact eK u
 ·refine oH 0 1 ?_
  rintro P W hs a1 ⟨-, j8⟩
  refine kM (kc (kA a1 5 40) k0) fun u => ?_
  refine zN (Qf (Qv .u32) (Qv .i64)) 30 102 1 #[(0, (.tmp 40))] #[(.int .u32 a.1), (iv a.2.1)] ([(a.1, a.2.1)] : List (Int × Int)) 41 j8 ?_
  intro j9 n1 k1
  refine ⟨_, Qa u, trivial, ?_⟩
  exact (ei j9 (ai (ai rfl (trivial)) k1))
 ·refine oH 1 2 ?_
  rintro P W hs a1 ⟨b8, ⟨f6, -⟩, f7⟩
  refine kN [(39, (.slice g.2.2.2.1.1 (List.length (stT g).2.2.2.1) g.2.2.2.1.2.1)), (41, (.slice (some ⟨b8, 0, none⟩) (List.length ([(a.1, a.2.1)] : List (Int × Int))) (List.length ([(a.1, a.2.1)] : List (Int × Int)))))] ⟨a1 4 39 K, (Qr (h := 6) K).symm.trans f6, trivial⟩ fun u => ?_
  refine Qx.append (e := (Qf (Qv .u32) (Qv .i64))) (l := (stT g).2.2.2.1) (m := ([(a.1, a.2.1)] : List (Int × Int))) (A := g.2.2.2.1.1) (c := g.2.2.2.1.2.1) (T := 30) (TX := 30) (E := 102) (b := 16) (s := (.tmp 39)) (x := (.tmp 41)) (i := 2) (vx := (.slice (some ⟨b8, 0, none⟩) (List.length ([(a.1, a.2.1)] : List (Int × Int))) (List.length ([(a.1, a.2.1)] : List (Int × Int))))) (d := (some 42)) (k := 7) K rfl K K K K rfl f7 rfl (Rj (E := 102) K (Qz (SP.get f7 (i := 6) rfl))) hl433 ?_
  rw [hyl434]
  intro k2 k3 n2 k4
  refine ⟨_, Qa u, trivial, ?_⟩
  exact (ei b8 (ei k2 (ei k3 (ai (ai f6 (ai rfl (trivial))) k4))))
 ·exact oU (hC (hA 0 35) (h0))
 ·exact oU (hC (hA 8 43) (h0))
 ·refine oH 2 3 ?_
  rintro P W hs a1 ⟨d8, b9, c0, ⟨k5, f8, -⟩, k6⟩
  refine kN [(44, (.pointer (some ⟨a2, (a3 + (List.length p) * Vu.sz + 3), none⟩))), (42, (.slice b9 (List.length a5) c0))] ⟨a1 9 44 K, (Qr (h := 7) K).symm.trans f8, trivial⟩ fun u => ?_
  refine F5 (t := 30) (x := (.tmp 44)) (z := (.tmp 42)) (A := A7) (c := c8) (d0 := p) (y := g) (y' := ((g.1, g.2.1, g.2.2.1, (b9, c0, a5), g.2.2.2.2) : Qg)) (b := a2) (off := a3) (f := 3) (i := 0) (v := (.slice b9 (List.length a5) c0)) (dst := none) (k := 10) K rfl d7 K K k6 rfl K rfl K ?_
  intro n3 k7
  refine ⟨_, Qa u, trivial, ?_⟩
  exact (ei d8 (ei b9 (ei c0 (ai (ai k5 (ai f8 (ai rfl (trivial)))) k7))))
 rintro P f9 hs hf ⟨c6, a9, b0, ⟨n4, n5, n6, -⟩, k8⟩
 refine Qy [] trivial ?_
 have k9 : SP S w0 f9 [Da A7 c8 (p ++ [((g.1, g.2.1, g.2.2.1, (a9, b0, a5), g.2.2.2.2) : Qg)]), Qs g1 72 #[(iv q2), (iv q3), (iv q4), (iv q5), (.slice A7 (List.length (mT (p ++ [g]))) c8), (iv a6), (bv c2)], Qs a4 102 #[(.int .u32 a.1), (iv a.2.1)], Vh 102 (Qf (Qv .u32) (Qv .i64)) (some ⟨c6, 0, none⟩) (List.length ([(a.1, a.2.1)] : List (Int × Int))) ([(a.1, a.2.1)] : List (Int × Int))] := Iu k8 (A := A7) (c := c8) (d0 := p) (y := ((g.1, g.2.1, g.2.2.1, (a9, b0, a5), g.2.2.2.2) : Qg)) (i := 0) (q := 1) (j := 2) (m := 3) rfl rfl rfl rfl (by decide) (by decide) (by decide) rfl
 have l0 : SP S w0 f9 [Da A7 c8 (p ++ [((g.1, g.2.1, g.2.2.1, (a9, b0, a5), g.2.2.2.2) : Qg)]), Qs g1 72 #[(iv q2), (iv q3), (iv q4), (iv q5), (.slice A7 (List.length (mT (p ++ [((g.1, g.2.1, g.2.2.1, (a9, b0, a5), g.2.2.2.2) : Qg)]))) c8), (iv a6), (bv c2)], Qs a4 102 #[(.int .u32 a.1), (iv a.2.1)], Vh 102 (Qf (Qv .u32) (Qv .i64)) (some ⟨c6, 0, none⟩) (List.length ([(a.1, a.2.1)] : List (Int × Int))) ([(a.1, a.2.1)] : List (Int × Int))] := by have h := k9; rw [S0 (d0 := p) (y := g) ((g.1, g.2.1, g.2.2.1, (a9, b0, a5), g.2.2.2.2) : Qg)] at h; exact h
 refine ⟨(.tuple #[]), K, ?_⟩
 obtain rfl := Qe H
 exact ⟨A7, c8, (p ++ [((g.1, g.2.1, g.2.2.1, (a9, b0, a5), g.2.2.2.2) : Qg)]), rfl, (Mm (d0 := p) (y := ((g.1, g.2.1, g.2.2.1, (a9, b0, a5), g.2.2.2.2) : Qg))), SP.sel l0 [1,0] rfl rfl⟩
def X6 (q2 : Int) (q3 : Int) (q4 : Int) (q5 : Int) (q6 : (List Qb)) (f : Int) (e : (List (List UInt8))) (h : ((List UInt8) × Bool)) (g : Bool) : Option (Int × Int × Int × Int × (List Qb) × Int × Bool) :=
  (cond (List.isEmpty q6) ((Um q2 q3 q4 q5 q6 f g).bind fun a => ((idx e 1).bind fun i => ((idx e 3).bind fun j => ((V2 a.2.2.2.2.2.1 a.2.2.2.2.2.2.1 a.2.2.2.2.2.2.2.1 a.2.2.2.2.2.2.2.2.1 a.2.2.2.2.2.2.2.2.2.1 a.2.2.2.2.2.2.2.2.2.2 j).bind fun b => ((app a.2.2.2.2.1 ([(i, h.1, b.1)] : List ((List UInt8) × (List UInt8) × Int))).bind fun o => (some (b.2.1, b.2.2.1, b.2.2.2.1, b.2.2.2.2.1, q6, b.2.2.2.2.2.1, b.2.2.2.2.2.2))))))) ((Jm q2 q3 q4 q5 q6 f g).bind fun p => (Tu q6 (fun k d q => ((idx e 1).bind fun l => ((idx e 3).bind fun m => ((V2 q2 q3 q4 q5 f g m).bind fun c => ((app d.2.2.2.2 ([(l, h.1, c.1)] : List ((List UInt8) × (List UInt8) × Int))).bind fun n => (some (c.2.1, c.2.2.1, c.2.2.2.1, c.2.2.2.2.1, (k ++ [(d.1, d.2.1, d.2.2.1, d.2.2.2.1, n)]), c.2.2.2.2.2.1, c.2.2.2.2.2.2))))))))))
def N7 (q2 : Int) (q3 : Int) (q4 : Int) (q5 : Int) (q6 : (List Qb)) (c : Int) (d : Bool) (a : (List (List UInt8))) : Option (Int × Int × Int × Int × (List Qb) × Int × Bool) :=
  ((idx a 2).bind fun e => ((R5 e).bind fun b => (cond d (X6 q2 q3 q4 q5 q6 c a b true) (X6 q2 q3 q4 q5 q6 c a b (!b.2)))))
set_option maxHeartbeats 40000000 in
theorem Cb {S : List Nat} (g1 : Nat) (A7 : Option Addr) (c8 : Nat) (a5 : Option Addr) (a9 : Nat) (q2 : Int) (q3 : Int) (q4 : Int) (q5 : Int) (d9 : (List Qg)) (b5 : Int) (d5 : Bool) (a8 : (List Bs)) (w0 : World) (hL : ∀ w, Mod S w0 w → Be w) (hO : SP S w0 w0 [Qs g1 72 #[(iv q2), (iv q3), (iv q4), (iv q5), (.slice A7 (List.length (mT d9)) c8), (iv b5), (bv d5)], Da A7 c8 d9]) (b2 : ∀ w, Mod S w0 w → RdT Qj w a5 a9 a8) (r : (Int × Int × Int × Int × (List Qb) × Int × Bool)) (H : N7 q2 q3 q4 q5 (mT d9) b5 d5 a8 = some r) :
  Calls Tryz.prog 145 #[(pt g1 0), (.slice a5 (List.length a8) a9)] w0 (fun e W => ∃ (f7 : Option Addr) (f8 : Nat) (e7 : List Qg), e = .returned (.tuple #[]) ∧ r.2.2.2.2.1 = List.map stT e7 ∧ SP S w0 W [Qs g1 72 #[(iv r.1), (iv r.2.1), (iv r.2.2.1), (iv r.2.2.2.1), (.slice f7 (List.length (mT e7)) f8), (iv r.2.2.2.2.2.1), (bv r.2.2.2.2.2.2)], Da f7 f8 e7]) := by
 unfold N7 at H
 refine Qt (n := 47) Tryz.func145 K K K ?_
 have e8 := hO
 refine aC ?_
 refine iR 1 1 [(8, (.slice a5 (List.length a8) a9))] ?_
 obtain ⟨f9, g0, g2, i4, H⟩ := Qu H
 refine jE 2 Qj a8 a5 a9 79 9 (.tmp 8) (.const (.int .i64 (2))) 2 9 (b2 w0 (SP.mod e8)) g0 g2 ?_
 intro i5 i6 i7 t7 hc424
 refine jX 3 9 9 i5 (i6 + Int.toNat 2 * Qj.sz) (sv f9) 10 (Ql (e := Qj) (Qh (b2 w0 (SP.mod e8)) i7 g0 g2) i4 (j := 0) rfl) ?_
 obtain ⟨g, i8, H⟩ := Qd H
 refine iS 4 ?_
 refine cF 161 #[(.tmp 10)] #[9] 11 Tryz.call161 (Hg  f9 w0  g i8) ?_
 rintro e t8 ⟨a6, a7, rfl, g3⟩
 refine ⟨_, rfl, ?_⟩
 have e9 := SP.call e8 g3
 clear g3
 refine iR 5 9 [(7, (.tuple #[(.slice a6 (List.length g.1) a7), (bv g.2)])), (12, (.slice a6 (List.length g.1) a7)), (13, (bv g.2)), (4, (.slice a6 (List.length g.1) a7)), (5, (bv g.2))] ?_
 refine iF ?_
 refine aQ ?_
 refine At.join (fun ρ w => ∃ (c0 : Bool), Vq ρ [(0, (pt g1 0)), (1, (.slice a5 (List.length a8) a9)), (4, (.slice a6 (List.length g.1) a7))] ∧ SP S w0 w [Da A7 c8 d9, Qs g1 72 #[(iv q2), (iv q3), (iv q4), (iv q5), (.slice A7 (List.length (mT d9)) c8), (iv b5), (bv c0)], Vh 5 eU8 a6 a7 g.1] ∧ X6 q2 q3 q4 q5 (mT d9) b5 a8 g c0 = some r) ?_ ?_
 ·refine aR ?_
  refine iR 4 4 [(14, (pt g1 0)), (15, (pt g1 0)), (16, (pt g1 0)), (17, (pt g1 6))] ?_
  refine jL 5 4 17 g1 6 0 (bv d5) 18 e9 rfl ?_
  refine iR 1 6 [(19, (bv d5))] ?_
  refine gD 19 H (fun H => ?_) fun H => ?_
  ·refine iR 5 11 [(20, undef), (21, undef), (22, (bv true)), (23, (pt g1 0)), (24, (pt g1 6))] ?_
   refine iS 12 ?_
   refine zT 4 (.tmp 24) (.tmp 22) g1 6 0 (bv true) #[(iv q2), (iv q3), (iv q4), (iv q5), (.slice A7 (List.length (mT d9)) c8), (iv b5), (bv true)] none e9 ?_
   intro t9 i9
   refine iF ?_
   exact ⟨true, ⟨K, K, K, trivial⟩, SP.sel i9 [1, 0, 2] rfl rfl, H⟩
  refine iR 5 11 [(20, (bv g.2)), (21, (bv (!g.2))), (22, (bv (!g.2))), (23, (pt g1 0)), (24, (pt g1 6))] ?_
  refine iS 12 ?_
  refine zT 4 (.tmp 24) (.tmp 22) g1 6 0 (bv (!g.2)) #[(iv q2), (iv q3), (iv q4), (iv q5), (.slice A7 (List.length (mT d9)) c8), (iv b5), (bv (!g.2))] none e9 ?_
  intro u0 j0
  refine iF ?_
  exact ⟨(!g.2), ⟨K, K, K, trivial⟩, SP.sel j0 [1, 0, 2] rfl rfl, H⟩
 rintro ρ g4 ⟨c0, hk, d3, H⟩
 unfold X6 at H
 first | refine At.known _ hk ?_ | rw [← Qo hk]
 refine aC ?_
 refine iR 1 1 [(25, (pt g1 0))] ?_
 rcases Bool.eq_false_or_eq_true (List.isEmpty (mT d9)) with d6 | d6
 ·have H := ct H d6
  obtain ⟨u, j1, H⟩ := Qd H
  refine iS 2 ?_
  refine cF 166 #[(.tmp 25)] #[70] 26 Tryz.call166 (Rw g1 A7 c8 q2 q3 q4 q5 d9 b5 c0 g4 (Ru d3 [1] rfl rfl) (fun w hm => D6 (SP.still d3 (l := [1]) (i := 0) rfl rfl rfl hm)) u j1) ?_
  rintro e j2 ⟨b0, c1, c2, b6, b7, rfl, g5⟩
  refine ⟨_, rfl, ?_⟩
  have j3 : SP S w0 j2 [Da A7 c8 d9, Vh 5 eU8 a6 a7 g.1, Qs b0 33 #[(sv u.1), (iv u.2.1), (iv u.2.2.1), (.slice c1 (List.length u.2.2.2.1) c2), (.slice b6 (List.length u.2.2.2.2.1) b7)], Vh 102 (Qf (Qv .u32) (Qv .i64)) c1 c2 u.2.2.2.1, Vh 37 (Qf Qj (Qf Qj (Qv .i64))) b6 b7 u.2.2.2.2.1, Qs g1 72 #[(iv u.2.2.2.2.2.1), (iv u.2.2.2.2.2.2.1), (iv u.2.2.2.2.2.2.2.1), (iv u.2.2.2.2.2.2.2.2.1), (.slice A7 (List.length (mT d9)) c8), (iv u.2.2.2.2.2.2.2.2.2.1), (bv u.2.2.2.2.2.2.2.2.2.2)]] := Jq d3 [1] [0, 2] rfl rfl g5 rfl
  clear g5
  refine iR 1 3 [(6, (pt b0 0))] ?_
  refine iF ?_
  obtain ⟨a4, d7, d8, g6, H⟩ := Qu H
  obtain ⟨f0, g7, g8, j4, H⟩ := Qu H
  obtain ⟨a1, j5, H⟩ := Qd H
  obtain ⟨hl485, H⟩ := Zx H
  obtain ⟨c3, hyl486⟩ : ∃ y, u.2.2.2.2.1 ++ ([(a4, g.1, a1.1)] : List Tk) = y := ⟨_, rfl⟩
  try rw [hyl486] at H
  refine aG [GEq (pt b0 0), GEq (pt b0 0), GEq (pt b0 0), GEq (pt b0 4), GEq (.slice b6 (List.length u.2.2.2.2.1) b7), GEq (.slice a5 (List.length a8) a9), Zt a5 Qj.sz 1, GEq (sv a4), GEq (.slice a6 (List.length g.1) a7), GEq (sv g.1), GEq (pt g1 0), GEq (.slice a5 (List.length a8) a9), Zt a5 Qj.sz 3, GEq (sv f0), GEq (iv a1.1), GEq (.agg #[(sv a4), (sv g.1), (iv a1.1)]), Ry, Ry, GEq (pt b0 0), GEq (pt b0 4), Ry] [14, 16, 17, 20] ((fun (X0 X1 X2 X3 X4 X5 : Ent) => [([], fun vs w => VL vs [] ∧ SP S w0 w [X0, X1, X2, X3, X4, Qs g1 72 #[(iv u.2.2.2.2.2.1), (iv u.2.2.2.2.2.2.1), (iv u.2.2.2.2.2.2.2.1), (iv u.2.2.2.2.2.2.2.2.1), (.slice A7 (List.length (mT d9)) c8), (iv u.2.2.2.2.2.2.2.2.2.1), (bv u.2.2.2.2.2.2.2.2.2.2)]]), ([14], fun vs w => VL vs [(iv a1.1)] ∧ SP S w0 w [X0, X1, X2, X3, X4, X5]), ([14, 16], fun vs w => ∃ (c4 : Nat), VL vs [(iv a1.1), (.slice (some ⟨c4, 0, none⟩) (List.length ([(a4, g.1, a1.1)] : List Tk)) (List.length ([(a4, g.1, a1.1)] : List Tk)))] ∧ SP S w0 w [X0, X1, X2, X3, X4, X5, Vh 37 (Qf Qj (Qf Qj (Qv .i64))) (some ⟨c4, 0, none⟩) (List.length ([(a4, g.1, a1.1)] : List Tk)) ([(a4, g.1, a1.1)] : List Tk)]), ([14, 16, 17], fun vs w => ∃ (e0 : Nat), ∃ (c5 : Option Addr), ∃ (c6 : Nat), VL vs [(iv a1.1), (.slice (some ⟨e0, 0, none⟩) (List.length ([(a4, g.1, a1.1)] : List Tk)) (List.length ([(a4, g.1, a1.1)] : List Tk))), (.slice c5 (List.length c3) c6)] ∧ SP S w0 w [X0, X1, X2, X3, Vh 37 (Qf Qj (Qf Qj (Qv .i64))) c5 c6 c3, X5, Vh 37 (Qf Qj (Qf Qj (Qv .i64))) (some ⟨e0, 0, none⟩) (List.length ([(a4, g.1, a1.1)] : List Tk)) ([(a4, g.1, a1.1)] : List Tk)]), ([14, 16, 17, 20], fun vs w => ∃ (f1 : Nat), ∃ (e1 : Option Addr), ∃ (e2 : Nat), VL vs [(iv a1.1), (.slice (some ⟨f1, 0, none⟩) (List.length ([(a4, g.1, a1.1)] : List Tk)) (List.length ([(a4, g.1, a1.1)] : List Tk))), (.slice e1 (List.length c3) e2), undef] ∧ SP S w0 w [X0, X1, Qs b0 33 #[(sv u.1), (iv u.2.1), (iv u.2.2.1), (.slice c1 (List.length u.2.2.2.1) c2), (.slice e1 (List.length c3) e2)], X3, Vh 37 (Qf Qj (Qf Qj (Qv .i64))) e1 e2 c3, X5, Vh 37 (Qf Qj (Qf Qj (Qv .i64))) (some ⟨f1, 0, none⟩) (List.length ([(a4, g.1, a1.1)] : List Tk)) ([(a4, g.1, a1.1)] : List Tk)])]) (Da A7 c8 d9) (Vh 5 eU8 a6 a7 g.1) (Qs b0 33 #[(sv u.1), (iv u.2.1), (iv u.2.2.1), (.slice c1 (List.length u.2.2.2.1) c2), (.slice b6 (List.length u.2.2.2.2.1) b7)]) (Vh 102 (Qf (Qv .u32) (Qv .i64)) c1 c2 u.2.2.2.1) (Vh 37 (Qf Qj (Qf Qj (Qv .i64))) b6 b7 u.2.2.2.2.1) (Qs g1 72 #[(iv a1.2.1), (iv a1.2.2.1), (iv a1.2.2.2.1), (iv a1.2.2.2.2.1), (.slice A7 (List.length (mT d9)) c8), (iv a1.2.2.2.2.2.1), (bv a1.2.2.2.2.2.2)])) 21 4 ⟨trivial, SP.drew j3⟩ ?_ ?_
  iterate 21 refine And.intro ?_ ?_
  exact trivial
  ·exact oU (hC (hS 6 (pt b0 0)) (h0))
  ·exact oU (hC (hS 6 (pt b0 0)) (h0))
  ·exact oU (hC (hA 1 28) (h0))
  ·exact oU (hC (hA 2 29) (h0))
  ·refine Owe.light K [0, 1, 2] K (Qc ?_ (Qc ?_ (Qc ?_ Qq)))
   ·rintro P W hs o ⟨-, j6⟩
    refine kM (kc (kA o 3 30) k0) fun p => ?_
    refine sL 31 30 b0 4 2 (.slice b6 (List.length u.2.2.2.2.1) b7) 31 j6 rfl ?_
    exact eK p
   ·rintro P W hs o ⟨⟨u1, -⟩, j7⟩
    refine kM (kc (kA o 3 30) k0) fun p => ?_
    refine sL 31 30 b0 4 2 (.slice b6 (List.length u.2.2.2.2.1) b7) 31 j7 rfl ?_
    exact eK p
   rintro P W hs o ⟨c4, ⟨u2, u3, -⟩, j8⟩
   refine kM (kc (kA o 3 30) k0) fun p => ?_
   refine sL 31 30 b0 4 2 (.slice b6 (List.length u.2.2.2.2.1) b7) 31 j8 rfl ?_
   exact eK p
  ·exact oU (hC (hS 1 (.slice a5 (List.length a8) a9)) (h0))
  ·refine Owe.light K [0, 1] K (Qc ?_ (Qc ?_ Qq))
   ·rintro P W hs o ⟨-, j9⟩
    refine kM (kc (kA o 5 32) k0) fun p => ?_
    refine zE Qj a8 a5 a9 79 9 (.tmp 32) (.const (.int .i64 (1))) 1 33 (b2 W (SP.mod j9)) d7 d8 ?_
    intro k1 k2 k3 u4 hc549
    exact ⟨rfl, _, Qa p, ⟨k1, k2, k3, rfl⟩⟩
   rintro P W hs o ⟨⟨u5, -⟩, k4⟩
   refine kM (kc (kA o 5 32) k0) fun p => ?_
   refine zE Qj a8 a5 a9 79 9 (.tmp 32) (.const (.int .i64 (1))) 1 33 (b2 W (SP.mod k4)) d7 d8 ?_
   intro k5 k6 k7 u6 hc557
   exact ⟨rfl, _, Qa p, ⟨k5, k6, k7, rfl⟩⟩
  ·refine Owe.light K [0, 1] K (Qc ?_ (Qc ?_ Qq))
   ·rintro P W hs o ⟨-, k8⟩
    obtain ⟨k9, l0, l1, c7⟩ := o 6 33 K
    refine kM (kc c7 k0) fun p => ?_
    refine sC 9 33 k9 (l0 + Int.toNat 1 * Qj.sz) (sv a4) 34 (Ql (e := Qj) (Qh (b2 W (SP.mod k8)) l1 d7 d8) g6 (j := 0) rfl) ?_
    exact eK p
   rintro P W hs o ⟨⟨u7, -⟩, l2⟩
   obtain ⟨l3, l4, l5, c7⟩ := o 6 33 K
   refine kM (kc c7 k0) fun p => ?_
   refine sC 9 33 l3 (l4 + Int.toNat 1 * Qj.sz) (sv a4) 34 (Ql (e := Qj) (Qh (b2 W (SP.mod l2)) l5 d7 d8) g6 (j := 0) rfl) ?_
   exact eK p
  ·exact oU (hC (hS 4 (.slice a6 (List.length g.1) a7)) (h0))
  ·refine Owe.light K [0, 1] K (Qc ?_ (Qc ?_ Qq))
   ·rintro P W hs o ⟨-, l6⟩
    refine kM (kc (kA o 8 35) k0) fun p => ?_
    refine Gf (T := 48) (S' := 9) (E := 5) (x := (.tmp 35)) (A := a6) (c := a7) (l := g.1) (d := (some 36)) (k := 9) K rfl K K K K (Qz (SP.get l6 (i := 1) rfl)) ?_
    exact eK p
   rintro P W hs o ⟨⟨u8, -⟩, l7⟩
   refine kM (kc (kA o 8 35) k0) fun p => ?_
   refine Gf (T := 48) (S' := 9) (E := 5) (x := (.tmp 35)) (A := a6) (c := a7) (l := g.1) (d := (some 36)) (k := 9) K rfl K K K K (Qz (SP.get l7 (i := 1) rfl)) ?_
   exact eK p
  ·exact oU (hC (hS 0 (pt g1 0)) (h0))
  ·exact oU (hC (hS 1 (.slice a5 (List.length a8) a9)) (h0))
  ·refine oL 0 ?_
   rintro P W hs o ⟨-, l8⟩
   refine kM (kc (kA o 11 38) k0) fun p => ?_
   refine zE Qj a8 a5 a9 79 9 (.tmp 38) (.const (.int .i64 (3))) 3 39 (b2 W (SP.mod l8)) g7 g8 ?_
   intro l9 m0 m1 u9 hc580
   exact ⟨rfl, _, Qa p, ⟨l9, m0, m1, rfl⟩⟩
  ·refine oL 0 ?_
   rintro P W hs o ⟨-, m2⟩
   obtain ⟨m3, m4, m5, f2⟩ := o 12 39 K
   refine kM (kc f2 k0) fun p => ?_
   refine sC 9 39 m3 (m4 + Int.toNat 3 * Qj.sz) (sv f0) 40 (Ql (e := Qj) (Qh (b2 W (SP.mod m2)) m5 g7 g8) j4 (j := 0) rfl) ?_
   exact eK p
  ·refine oH 0 1 ?_
   rintro P W hs o ⟨-, f3⟩
   refine kM (kc (kA o 10 37) (kc (kA o 13 40) k0)) fun p => ?_
   refine cF 164 #[(.tmp 37), (.tmp 40)] #[70, 9] 41 Tryz.call164 (Vs g1 (.slice A7 (List.length (mT d9)) c8) u.2.2.2.2.2.1 u.2.2.2.2.2.2.1 u.2.2.2.2.2.2.2.1 u.2.2.2.2.2.2.2.2.1 u.2.2.2.2.2.2.2.2.2.1 u.2.2.2.2.2.2.2.2.2.2 f0 W (fun w hm => hL w (SP.through f3 (l := [5]) rfl hm)) (Ru f3 [5] rfl rfl) a1 j5) ?_
   rintro e m6 ⟨rfl, g9⟩
   refine ⟨_, rfl, ?_⟩
   have m7 : SP S w0 m6 [Da A7 c8 d9, Vh 5 eU8 a6 a7 g.1, Qs b0 33 #[(sv u.1), (iv u.2.1), (iv u.2.2.1), (.slice c1 (List.length u.2.2.2.1) c2), (.slice b6 (List.length u.2.2.2.2.1) b7)], Vh 102 (Qf (Qv .u32) (Qv .i64)) c1 c2 u.2.2.2.1, Vh 37 (Qf Qj (Qf Qj (Qv .i64))) b6 b7 u.2.2.2.2.1, Qs g1 72 #[(iv a1.2.1), (iv a1.2.2.1), (iv a1.2.2.2.1), (iv a1.2.2.2.2.1), (.slice A7 (List.length (mT d9)) c8), (iv a1.2.2.2.2.2.1), (bv a1.2.2.2.2.2.2)]] := Jq f3 [5] [0, 1, 2, 3, 4] rfl rfl g9 rfl
   clear g9
   refine ⟨_, Qa p, rfl, ?_⟩
   exact (ai (ai rfl (trivial)) m7)
  ·exact oU (hC (hA 7 34) (hC (hA 9 36) (hC (hA 14 41) (h0))))
  ·refine oH 1 2 ?_
   rintro P W hs o ⟨⟨m8, -⟩, m9⟩
   refine kM (kc (kA o 15 42) k0) fun p => ?_
   refine zN (Qf Qj (Qf Qj (Qv .i64))) 31 37 1 #[(0, (.tmp 42))] #[(sv a4), (sv g.1), (iv a1.1)] ([(a4, g.1, a1.1)] : List Tk) 43 m9 ?_
   intro n0 v0 n1
   refine ⟨_, Qa p, trivial, ?_⟩
   exact (ei n0 (ai (ai m8 (ai rfl (trivial))) n1))
  ·refine oH 2 3 ?_
   rintro P W hs o ⟨c4, ⟨n2, h1, -⟩, h2⟩
   refine kN [(31, (.slice b6 (List.length u.2.2.2.2.1) b7)), (43, (.slice (some ⟨c4, 0, none⟩) (List.length ([(a4, g.1, a1.1)] : List Tk)) (List.length ([(a4, g.1, a1.1)] : List Tk))))] ⟨o 4 31 K, (Qr (h := 16) K).symm.trans h1, trivial⟩ fun p => ?_
   refine Qx.append (e := (Qf Qj (Qf Qj (Qv .i64)))) (l := u.2.2.2.2.1) (m := ([(a4, g.1, a1.1)] : List Tk)) (A := b6) (c := b7) (T := 31) (TX := 31) (E := 37) (b := 40) (s := (.tmp 31)) (x := (.tmp 43)) (i := 4) (vx := (.slice (some ⟨c4, 0, none⟩) (List.length ([(a4, g.1, a1.1)] : List Tk)) (List.length ([(a4, g.1, a1.1)] : List Tk)))) (d := (some 44)) (k := 17) K rfl K K K K rfl h2 rfl (Rj (E := 37) K (Qz (SP.get h2 (i := 6) rfl))) hl485 ?_
   rw [hyl486]
   intro n3 n4 v1 n5
   refine ⟨_, Qa p, trivial, ?_⟩
   exact (ei c4 (ei n3 (ei n4 (ai (ai n2 (ai h1 (ai rfl (trivial)))) n5))))
  ·exact oU (hC (hA 0 27) (h0))
  ·exact oU (hC (hA 18 45) (h0))
  ·refine oH 3 4 ?_
   rintro P W hs o ⟨e0, c5, c6, ⟨n6, n7, h3, -⟩, n8⟩
   refine kN [(46, (pt b0 4)), (44, (.slice c5 (List.length c3) c6))] ⟨o 19 46 K, (Qr (h := 17) K).symm.trans h3, trivial⟩ fun p => ?_
   refine zT 31 (.tmp 46) (.tmp 44) b0 4 2 (.slice c5 (List.length c3) c6) #[(sv u.1), (iv u.2.1), (iv u.2.2.1), (.slice c1 (List.length u.2.2.2.1) c2), (.slice c5 (List.length c3) c6)] none n8 ?_
   intro v2 n9
   refine ⟨_, Qa p, trivial, ?_⟩
   exact (ei e0 (ei c5 (ei c6 (ai (ai n6 (ai n7 (ai h3 (ai rfl (trivial))))) n9))))
  rintro P v3 hs hf ⟨f1, e1, e2, ⟨v4, v5, v6, v7, -⟩, o0⟩
  refine Qy [] trivial ?_
  refine ⟨(.tuple #[]), K, ?_⟩
  obtain rfl := Qe H
  exact ⟨A7, c8, d9, rfl, rfl, SP.sel o0 [5,0] rfl rfl⟩
 have H := cf H d6
 obtain ⟨o1, o2, H⟩ := Qd H
 refine iS 2 ?_
 refine cF 166 #[(.tmp 25)] #[70] 26 Tryz.call166 (Rx g1 A7 c8 q2 q3 q4 q5 d9 b5 c0 g4 (Ru d3 [1] rfl rfl) (fun w hm => D6 (SP.still d3 (l := [1]) (i := 0) rfl rfl rfl hm)) o1 o2) ?_
 rintro e h4 ⟨b3, b4, rfl, e3, h5⟩
 refine ⟨_, rfl, ?_⟩
 have o3 : SP S w0 h4 [Da A7 c8 d9, Vh 5 eU8 a6 a7 g.1, Qs g1 72 #[(iv q2), (iv q3), (iv q4), (iv q5), (.slice A7 (List.length (mT d9)) c8), (iv b5), (bv c0)]] := Jq d3 [1] [0, 2] rfl rfl h5 rfl
 clear h5
 obtain ⟨a2, a, f4⟩ := Ly d6
 have Hd634 := Lz f4 H
 have hnd634 : List.length (mT d9) - 1 = List.length a2 := by rw [f4]; simp
 rw [hnd634]
 subst f4
 have H := Hd634
 have o4 : SP S w0 h4 [Vh 33 Vu A7 c8 (a2 ++ [a]), Vh 5 eU8 a6 a7 g.1, Qs g1 72 #[(iv q2), (iv q3), (iv q4), (iv q5), (.slice A7 (List.length (mT (a2 ++ [a]))) c8), (iv b5), (bv c0)], It a2, Vh 102 (Qf (Qv .u32) (Qv .i64)) a.2.2.2.1.1 a.2.2.2.1.2.1 (stT a).2.2.2.1, Vh 37 (Qf Qj (Qf Qj (Qv .i64))) a.2.2.2.2.1 a.2.2.2.2.2.1 (stT a).2.2.2.2] := Kw o3 (i := 0) rfl rfl
 refine iR 1 3 [(6, (.pointer (some ⟨b3, (b4 + (List.length a2) * Vu.sz), none⟩)))] ?_
 refine iF ?_
 obtain ⟨a3, e4, e5, h6, H⟩ := Qu H
 obtain ⟨f5, h7, h8, o5, H⟩ := Qu H
 obtain ⟨a0, o6, H⟩ := Qd H
 obtain ⟨hl670, H⟩ := Zx H
 obtain ⟨b1, hyl671⟩ : ∃ y, (stT a).2.2.2.2 ++ ([(a3, g.1, a0.1)] : List Tk) = y := ⟨_, rfl⟩
 try rw [hyl671] at H
 refine aG [GEq (.pointer (some ⟨b3, (b4 + (List.length a2) * Vu.sz), none⟩)), GEq (.pointer (some ⟨b3, (b4 + (List.length a2) * Vu.sz), none⟩)), GEq (.pointer (some ⟨b3, (b4 + (List.length a2) * Vu.sz), none⟩)), GEq (.pointer (some ⟨b3, (b4 + (List.length a2) * Vu.sz + 4), none⟩)), GEq (.slice a.2.2.2.2.1 (List.length (stT a).2.2.2.2) a.2.2.2.2.2.1), GEq (.slice a5 (List.length a8) a9), Zt a5 Qj.sz 1, GEq (sv a3), GEq (.slice a6 (List.length g.1) a7), GEq (sv g.1), GEq (pt g1 0), GEq (.slice a5 (List.length a8) a9), Zt a5 Qj.sz 3, GEq (sv f5), GEq (iv a0.1), GEq (.agg #[(sv a3), (sv g.1), (iv a0.1)]), Ry, Ry, GEq (.pointer (some ⟨b3, (b4 + (List.length a2) * Vu.sz), none⟩)), GEq (.pointer (some ⟨b3, (b4 + (List.length a2) * Vu.sz + 4), none⟩)), Ry] [14, 16, 17, 20] ((fun (X0 X1 X2 X3 X4 X5 : Ent) => [([], fun vs w => VL vs [] ∧ SP S w0 w [X0, X1, Qs g1 72 #[(iv q2), (iv q3), (iv q4), (iv q5), (.slice A7 (List.length (mT (a2 ++ [a]))) c8), (iv b5), (bv c0)], X2, X3, X4]), ([14], fun vs w => VL vs [(iv a0.1)] ∧ SP S w0 w [X0, X1, X2, X3, X4, X5]), ([14, 16], fun vs w => ∃ (c9 : Nat), VL vs [(iv a0.1), (.slice (some ⟨c9, 0, none⟩) (List.length ([(a3, g.1, a0.1)] : List Tk)) (List.length ([(a3, g.1, a0.1)] : List Tk)))] ∧ SP S w0 w [X0, X1, X2, X3, X4, X5, Vh 37 (Qf Qj (Qf Qj (Qv .i64))) (some ⟨c9, 0, none⟩) (List.length ([(a3, g.1, a0.1)] : List Tk)) ([(a3, g.1, a0.1)] : List Tk)]), ([14, 16, 17], fun vs w => ∃ (e6 : Nat), ∃ (d1 : Option Addr), ∃ (d2 : Nat), VL vs [(iv a0.1), (.slice (some ⟨e6, 0, none⟩) (List.length ([(a3, g.1, a0.1)] : List Tk)) (List.length ([(a3, g.1, a0.1)] : List Tk))), (.slice d1 (List.length b1) d2)] ∧ SP S w0 w [X0, X1, X2, X3, Vh 37 (Qf Qj (Qf Qj (Qv .i64))) d1 d2 b1, X5, Vh 37 (Qf Qj (Qf Qj (Qv .i64))) (some ⟨e6, 0, none⟩) (List.length ([(a3, g.1, a0.1)] : List Tk)) ([(a3, g.1, a0.1)] : List Tk)]), ([14, 16, 17, 20], fun vs w => ∃ (d4 : Nat), ∃ (b8 : Option Addr), ∃ (b9 : Nat), VL vs [(iv a0.1), (.slice (some ⟨d4, 0, none⟩) (List.length ([(a3, g.1, a0.1)] : List Tk)) (List.length ([(a3, g.1, a0.1)] : List Tk))), (.slice b8 (List.length b1) b9), undef] ∧ SP S w0 w [Vh 33 Vu A7 c8 (a2 ++ [((a.1, a.2.1, a.2.2.1, a.2.2.2.1, (b8, b9, b1)) : Qg)]), X1, X2, X3, Vh 37 (Qf Qj (Qf Qj (Qv .i64))) b8 b9 b1, X5, Vh 37 (Qf Qj (Qf Qj (Qv .i64))) (some ⟨d4, 0, none⟩) (List.length ([(a3, g.1, a0.1)] : List Tk)) ([(a3, g.1, a0.1)] : List Tk)])]) (Vh 33 Vu A7 c8 (a2 ++ [a])) (Vh 5 eU8 a6 a7 g.1) (It a2) (Vh 102 (Qf (Qv .u32) (Qv .i64)) a.2.2.2.1.1 a.2.2.2.1.2.1 (stT a).2.2.2.1) (Vh 37 (Qf Qj (Qf Qj (Qv .i64))) a.2.2.2.2.1 a.2.2.2.2.2.1 (stT a).2.2.2.2) (Qs g1 72 #[(iv a0.2.1), (iv a0.2.2.1), (iv a0.2.2.2.1), (iv a0.2.2.2.2.1), (.slice A7 (List.length (mT (a2 ++ [a]))) c8), (iv a0.2.2.2.2.2.1), (bv a0.2.2.2.2.2.2)])) 21 4 ⟨trivial, SP.drew o4⟩ ?_ ?_
 iterate 21 refine And.intro ?_ ?_
 exact trivial
 ·exact oU (hC (hS 6 (.pointer (some ⟨b3, (b4 + (List.length a2) * Vu.sz), none⟩))) (h0))
 ·exact oU (hC (hS 6 (.pointer (some ⟨b3, (b4 + (List.length a2) * Vu.sz), none⟩))) (h0))
 ·exact oU (hC (hA 1 28) (h0))
 ·exact oU (hC (hA 2 29) (h0))
 ·refine Owe.light K [0, 1, 2] K (Qc ?_ (Qc ?_ (Qc ?_ Qq)))
  ·rintro P W hs o ⟨-, o7⟩
   refine kM (kc (kA o 3 30) k0) fun p => ?_
   refine sC 31 30 b3 (b4 + (List.length a2) * Vu.sz + 4) (.slice a.2.2.2.2.1 (List.length (stT a).2.2.2.2) a.2.2.2.2.2.1) 31 (C3 (SP.get o7 (i := 0) rfl) e3 (f := 4) rfl) ?_
   exact eK p
  ·rintro P W hs o ⟨⟨v8, -⟩, o8⟩
   refine kM (kc (kA o 3 30) k0) fun p => ?_
   refine sC 31 30 b3 (b4 + (List.length a2) * Vu.sz + 4) (.slice a.2.2.2.2.1 (List.length (stT a).2.2.2.2) a.2.2.2.2.2.1) 31 (C3 (SP.get o8 (i := 0) rfl) e3 (f := 4) rfl) ?_
   exact eK p
  rintro P W hs o ⟨c9, ⟨v9, w1, -⟩, o9⟩
  refine kM (kc (kA o 3 30) k0) fun p => ?_
  refine sC 31 30 b3 (b4 + (List.length a2) * Vu.sz + 4) (.slice a.2.2.2.2.1 (List.length (stT a).2.2.2.2) a.2.2.2.2.2.1) 31 (C3 (SP.get o9 (i := 0) rfl) e3 (f := 4) rfl) ?_
  exact eK p
 ·exact oU (hC (hS 1 (.slice a5 (List.length a8) a9)) (h0))
 ·refine Owe.light K [0, 1] K (Qc ?_ (Qc ?_ Qq))
  ·rintro P W hs o ⟨-, p0⟩
   refine kM (kc (kA o 5 32) k0) fun p => ?_
   refine zE Qj a8 a5 a9 79 9 (.tmp 32) (.const (.int .i64 (1))) 1 33 (b2 W (SP.mod p0)) e4 e5 ?_
   intro p1 p2 p3 w2 hc734
   exact ⟨rfl, _, Qa p, ⟨p1, p2, p3, rfl⟩⟩
  rintro P W hs o ⟨⟨w3, -⟩, p4⟩
  refine kM (kc (kA o 5 32) k0) fun p => ?_
  refine zE Qj a8 a5 a9 79 9 (.tmp 32) (.const (.int .i64 (1))) 1 33 (b2 W (SP.mod p4)) e4 e5 ?_
  intro p5 p6 p7 w4 hc742
  exact ⟨rfl, _, Qa p, ⟨p5, p6, p7, rfl⟩⟩
 ·refine Owe.light K [0, 1] K (Qc ?_ (Qc ?_ Qq))
  ·rintro P W hs o ⟨-, p8⟩
   obtain ⟨p9, q0, q1, c7⟩ := o 6 33 K
   refine kM (kc c7 k0) fun p => ?_
   refine sC 9 33 p9 (q0 + Int.toNat 1 * Qj.sz) (sv a3) 34 (Ql (e := Qj) (Qh (b2 W (SP.mod p8)) q1 e4 e5) h6 (j := 0) rfl) ?_
   exact eK p
  rintro P W hs o ⟨⟨w5, -⟩, q6⟩
  obtain ⟨q7, q8, q9, c7⟩ := o 6 33 K
  refine kM (kc c7 k0) fun p => ?_
  refine sC 9 33 q7 (q8 + Int.toNat 1 * Qj.sz) (sv a3) 34 (Ql (e := Qj) (Qh (b2 W (SP.mod q6)) q9 e4 e5) h6 (j := 0) rfl) ?_
  exact eK p
 ·exact oU (hC (hS 4 (.slice a6 (List.length g.1) a7)) (h0))
 ·refine Owe.light K [0, 1] K (Qc ?_ (Qc ?_ Qq))
  ·rintro P W hs o ⟨-, r0⟩
   refine kM (kc (kA o 8 35) k0) fun p => ?_
   refine Gf (T := 48) (S' := 9) (E := 5) (x := (.tmp 35)) (A := a6) (c := a7) (l := g.1) (d := (some 36)) (k := 9) K rfl K K K K (Qz (SP.get r0 (i := 1) rfl)) ?_
   exact eK p
  rintro P W hs o ⟨⟨w6, -⟩, r1⟩
  refine kM (kc (kA o 8 35) k0) fun p => ?_
  refine Gf (T := 48) (S' := 9) (E := 5) (x := (.tmp 35)) (A := a6) (c := a7) (l := g.1) (d := (some 36)) (k := 9) K rfl K K K K (Qz (SP.get r1 (i := 1) rfl)) ?_
  exact eK p
 ·exact oU (hC (hS 0 (pt g1 0)) (h0))
 ·exact oU (hC (hS 1 (.slice a5 (List.length a8) a9)) (h0))
 ·refine oL 0 ?_
  rintro P W hs o ⟨-, r2⟩
  refine kM (kc (kA o 11 38) k0) fun p => ?_
  refine zE Qj a8 a5 a9 79 9 (.tmp 38) (.const (.int .i64 (3))) 3 39 (b2 W (SP.mod r2)) h7 h8 ?_
  intro r3 r4 r5 w7 hc765
  exact ⟨rfl, _, Qa p, ⟨r3, r4, r5, rfl⟩⟩
 ·refine oL 0 ?_
  rintro P W hs o ⟨-, r6⟩
  obtain ⟨r7, r8, r9, f2⟩ := o 12 39 K
  refine kM (kc f2 k0) fun p => ?_
  refine sC 9 39 r7 (r8 + Int.toNat 3 * Qj.sz) (sv f5) 40 (Ql (e := Qj) (Qh (b2 W (SP.mod r6)) r9 h7 h8) o5 (j := 0) rfl) ?_
  exact eK p
 ·refine oH 0 1 ?_
  rintro P W hs o ⟨-, f6⟩
  refine kM (kc (kA o 10 37) (kc (kA o 13 40) k0)) fun p => ?_
  refine cF 164 #[(.tmp 37), (.tmp 40)] #[70, 9] 41 Tryz.call164 (Vs g1 (.slice A7 (List.length (mT (a2 ++ [a]))) c8) q2 q3 q4 q5 b5 c0 f5 W (fun w hm => hL w (SP.through f6 (l := [2]) rfl hm)) (Ru f6 [2] rfl rfl) a0 o6) ?_
  rintro e s0 ⟨rfl, h9⟩
  refine ⟨_, rfl, ?_⟩
  have s1 : SP S w0 s0 [Vh 33 Vu A7 c8 (a2 ++ [a]), Vh 5 eU8 a6 a7 g.1, It a2, Vh 102 (Qf (Qv .u32) (Qv .i64)) a.2.2.2.1.1 a.2.2.2.1.2.1 (stT a).2.2.2.1, Vh 37 (Qf Qj (Qf Qj (Qv .i64))) a.2.2.2.2.1 a.2.2.2.2.2.1 (stT a).2.2.2.2, Qs g1 72 #[(iv a0.2.1), (iv a0.2.2.1), (iv a0.2.2.2.1), (iv a0.2.2.2.2.1), (.slice A7 (List.length (mT (a2 ++ [a]))) c8), (iv a0.2.2.2.2.2.1), (bv a0.2.2.2.2.2.2)]] := Jq f6 [2] [0, 1, 3, 4, 5] rfl rfl h9 rfl
  clear h9
  refine ⟨_, Qa p, rfl, ?_⟩
  exact (ai (ai rfl (trivial)) s1)
 ·exact oU (hC (hA 7 34) (hC (hA 9 36) (hC (hA 14 41) (h0))))
 ·refine oH 1 2 ?_
  rintro P W hs o ⟨⟨s2, -⟩, s3⟩
  refine kM (kc (kA o 15 42) k0) fun p => ?_
  refine zN (Qf Qj (Qf Qj (Qv .i64))) 31 37 1 #[(0, (.tmp 42))] #[(sv a3), (sv g.1), (iv a0.1)] ([(a3, g.1, a0.1)] : List Tk) 43 s3 ?_
  intro s4 w8 s5
  refine ⟨_, Qa p, trivial, ?_⟩
  exact (ei s4 (ai (ai s2 (ai rfl (trivial))) s5))
 ·refine oH 2 3 ?_
  rintro P W hs o ⟨c9, ⟨s6, i0, -⟩, i1⟩
  refine kN [(31, (.slice a.2.2.2.2.1 (List.length (stT a).2.2.2.2) a.2.2.2.2.2.1)), (43, (.slice (some ⟨c9, 0, none⟩) (List.length ([(a3, g.1, a0.1)] : List Tk)) (List.length ([(a3, g.1, a0.1)] : List Tk))))] ⟨o 4 31 K, (Qr (h := 16) K).symm.trans i0, trivial⟩ fun p => ?_
  refine Qx.append (e := (Qf Qj (Qf Qj (Qv .i64)))) (l := (stT a).2.2.2.2) (m := ([(a3, g.1, a0.1)] : List Tk)) (A := a.2.2.2.2.1) (c := a.2.2.2.2.2.1) (T := 31) (TX := 31) (E := 37) (b := 40) (s := (.tmp 31)) (x := (.tmp 43)) (i := 4) (vx := (.slice (some ⟨c9, 0, none⟩) (List.length ([(a3, g.1, a0.1)] : List Tk)) (List.length ([(a3, g.1, a0.1)] : List Tk)))) (d := (some 44)) (k := 17) K rfl K K K K rfl i1 rfl (Rj (E := 37) K (Qz (SP.get i1 (i := 6) rfl))) hl670 ?_
  rw [hyl671]
  intro s7 s8 w9 s9
  refine ⟨_, Qa p, trivial, ?_⟩
  exact (ei c9 (ei s7 (ei s8 (ai (ai s6 (ai i0 (ai rfl (trivial)))) s9))))
 ·exact oU (hC (hA 0 27) (h0))
 ·exact oU (hC (hA 18 45) (h0))
 ·refine oH 3 4 ?_
  rintro P W hs o ⟨e6, d1, d2, ⟨t0, t1, i2, -⟩, t2⟩
  refine kN [(46, (.pointer (some ⟨b3, (b4 + (List.length a2) * Vu.sz + 4), none⟩))), (44, (.slice d1 (List.length b1) d2))] ⟨o 19 46 K, (Qr (h := 17) K).symm.trans i2, trivial⟩ fun p => ?_
  refine F5 (t := 31) (x := (.tmp 46)) (z := (.tmp 44)) (A := A7) (c := c8) (d0 := a2) (y := a) (y' := ((a.1, a.2.1, a.2.2.1, a.2.2.2.1, (d1, d2, b1)) : Qg)) (b := b3) (off := b4) (f := 4) (i := 0) (v := (.slice d1 (List.length b1) d2)) (dst := none) (k := 20) K rfl e3 K K t2 rfl K rfl K ?_
  intro x0 t3
  refine ⟨_, Qa p, trivial, ?_⟩
  exact (ei e6 (ei d1 (ei d2 (ai (ai t0 (ai t1 (ai i2 (ai rfl (trivial))))) t3))))
 rintro P i3 hs hf ⟨d4, b8, b9, ⟨x1, x2, x3, x4, -⟩, t4⟩
 refine Qy [] trivial ?_
 have t5 : SP S w0 i3 [Da A7 c8 (a2 ++ [((a.1, a.2.1, a.2.2.1, a.2.2.2.1, (b8, b9, b1)) : Qg)]), Vh 5 eU8 a6 a7 g.1, Qs g1 72 #[(iv a0.2.1), (iv a0.2.2.1), (iv a0.2.2.2.1), (iv a0.2.2.2.2.1), (.slice A7 (List.length (mT (a2 ++ [a]))) c8), (iv a0.2.2.2.2.2.1), (bv a0.2.2.2.2.2.2)], Vh 37 (Qf Qj (Qf Qj (Qv .i64))) (some ⟨d4, 0, none⟩) (List.length ([(a3, g.1, a0.1)] : List Tk)) ([(a3, g.1, a0.1)] : List Tk)] := Iu t4 (A := A7) (c := c8) (d0 := a2) (y := ((a.1, a.2.1, a.2.2.1, a.2.2.2.1, (b8, b9, b1)) : Qg)) (i := 0) (q := 2) (j := 3) (m := 4) rfl rfl rfl rfl (by decide) (by decide) (by decide) rfl
 have t6 : SP S w0 i3 [Da A7 c8 (a2 ++ [((a.1, a.2.1, a.2.2.1, a.2.2.2.1, (b8, b9, b1)) : Qg)]), Vh 5 eU8 a6 a7 g.1, Qs g1 72 #[(iv a0.2.1), (iv a0.2.2.1), (iv a0.2.2.2.1), (iv a0.2.2.2.2.1), (.slice A7 (List.length (mT (a2 ++ [((a.1, a.2.1, a.2.2.1, a.2.2.2.1, (b8, b9, b1)) : Qg)]))) c8), (iv a0.2.2.2.2.2.1), (bv a0.2.2.2.2.2.2)], Vh 37 (Qf Qj (Qf Qj (Qv .i64))) (some ⟨d4, 0, none⟩) (List.length ([(a3, g.1, a0.1)] : List Tk)) ([(a3, g.1, a0.1)] : List Tk)] := by have h := t5; rw [S0 (d0 := a2) (y := a) ((a.1, a.2.1, a.2.2.1, a.2.2.2.1, (b8, b9, b1)) : Qg)] at h; exact h
 refine ⟨(.tuple #[]), K, ?_⟩
 obtain rfl := Qe H
 exact ⟨A7, c8, (a2 ++ [((a.1, a.2.1, a.2.2.1, a.2.2.2.1, (b8, b9, b1)) : Qg)]), rfl, (Mm (d0 := a2) (y := ((a.1, a.2.1, a.2.2.1, a.2.2.2.1, (b8, b9, b1)) : Qg))), SP.sel t6 [2,0] rfl rfl⟩
end Go.Proofs.YtoflbpmbkmephaaGreatDoor
namespace Go.Proofs.YtoflbpmbkmephaaGreatDoor
open Go.RowKit
open Go.MapKept (sameNow_of_keys IsKey)
abbrev Zi : List UInt8 := [116, 105, 109, 101, 115]
abbrev Zs : List UInt8 := [116, 101, 110, 97, 110, 116]
abbrev Dt : List UInt8 := [110, 101, 116]
abbrev Y2 : List UInt8 := [116, 111, 107, 101, 110]
def cin (w : List UInt8) : Bool := w == Zi || (w == Zs || (w == Dt || w == Y2))
def Bt (w : List UInt8) : Int := cond (w == Zi) 5 (cond (w == Zs) 4 (cond (w == Dt) 2 4))
def Bj (w : List UInt8) : FuncId := cond (w == Zi) 142 (cond (w == Zs) 143 (cond (w == Dt) 144 145))
def cval (w : List UInt8) : Value := .agg #[.int .i64 (Bt w), .func (.func (Bj w)) #[] #[]]
def S1 : KV := [(.string ⟨List.toArray Zi⟩, cval Zi), (.string ⟨List.toArray Zs⟩, cval Zs), (.string ⟨List.toArray Dt⟩, cval Dt), (.string ⟨List.toArray Y2⟩, cval Y2)]
theorem Kx {w : List UInt8} (h : cin w = true) : w = Zi ∨ w = Zs ∨ w = Dt ∨ w = Y2 := by
  unfold cin at h
  rw [Bool.or_eq_true, Bool.or_eq_true, Bool.or_eq_true] at h
  rcases h with h | h | h | h
  · exact .inl (eq_of_beq h)
  · exact .inr (.inl (eq_of_beq h))
  · exact .inr (.inr (.inl (eq_of_beq h)))
  · exact .inr (.inr (.inr (eq_of_beq h)))
theorem ctab_in {w : List UInt8} (h : cin w = true) : ∃ j, En .string (.string ⟨List.toArray w⟩) S1 0 = some (some (j, cval w)) := by
  rcases Kx h with rfl | rfl | rfl | rfl
  · exact ⟨0, by kernel_rfl⟩
  · exact ⟨1, by kernel_rfl⟩
  · exact ⟨2, by kernel_rfl⟩
  · exact ⟨3, by kernel_rfl⟩
theorem Mn {a b : List UInt8} (h : (a == b) = false) : Instr.sameNow .string (.string ⟨List.toArray a⟩) (.string ⟨List.toArray b⟩) = some false := by
  obtain ⟨r, h1, h2⟩ := sameNow_of_keys (d := .string) (a := .string ⟨List.toArray a⟩) (b := .string ⟨List.toArray b⟩) trivial trivial
  cases r
  · exact h1
  · have h3 := h2.1 rfl
    injection h3 with h3
    injection h3 with h3
    have h4 : a = b := by simpa using congrArg Array.toList h3
    rw [h4] at h
    simp at h
theorem S2 {w : List UInt8} (h : cin w = false) : En .string (.string ⟨List.toArray w⟩) S1 0 = some none := by
  unfold cin at h
  rw [Bool.or_eq_false_iff, Bool.or_eq_false_iff, Bool.or_eq_false_iff] at h
  obtain ⟨h1, h2, h3, h4⟩ := h
  simp only [S1, En, Mn h1, Mn h2, Mn h3, Mn h4]
theorem P3 (w : List UInt8) (args : Array Value) (w0 : World) : (callFunc (Bj w) args).run Tryz.prog w0 = .ok (.enter (Bj w) args) w0 := by
  unfold Bj
  cases (w == Zi)
  · cases (w == Zs)
    · cases (w == Dt)
      · exact Tryz.call145 args w0
      · exact Tryz.call144 args w0
    · exact Tryz.call143 args w0
  · exact Tryz.call142 args w0
def Ky (w : List UInt8) (q2 q3 q4 q5 : Int) (l : List Qb) (q7 : Int) (q8 : Bool) (p : List (List UInt8)) : Option (Int × Int × Int × Int × List Qb × Int × Bool) :=
  cond (w == Zi) ((N6 q2 q3 q4 q5 q7 q8 p).bind fun z => some (z.1, z.2.1, z.2.2.1, z.2.2.2.1, l, z.2.2.2.2.1, z.2.2.2.2.2))
    (cond (w == Zs) (Np q2 q3 q4 q5 l q7 q8 p) (cond (w == Dt) (Gu q2 q3 q4 q5 l q7 q8 p) (N7 q2 q3 q4 q5 l q7 q8 p)))
theorem O1 (w : List UInt8) {S : List Nat} (g1 : Nat) (A7 : Option Addr) (c8 : Nat) (A13 : Option Addr) (c14 : Nat) (q2 q3 q4 q5 : Int) (d9 : List Qg) (q10 : Int) (q11 : Bool) (p12 : List (List UInt8)) (w0 : World) (hL : ∀ w, Mod S w0 w → Be w)
    (hO : SP S w0 w0 [Qs g1 72 #[(.int .i64 q2), (.int .i64 q3), (.int .i64 q4), (.int .i64 q5), (.slice A7 (List.length (List.map stT d9)) c8), (.int .i64 q10), (.bool q11)], Da A7 c8 d9]) (hr15 : ∀ w, Mod S w0 w → RdT Qj w A13 c14 p12)
    (r : Int × Int × Int × Int × List Qb × Int × Bool) (H : Ky w q2 q3 q4 q5 (List.map stT d9) q10 q11 p12 = some r) :
    Calls Tryz.prog (Bj w) #[(.pointer (some ⟨g1, 0, none⟩)), (.slice A13 (List.length p12) c14)] w0 (fun e w' => ∃ (A : Option Addr) (c : Nat) (d : List Qg), e = .returned (.tuple #[]) ∧ r.2.2.2.2.1 = List.map stT d ∧ SP S w0 w' [Qs g1 72 #[(.int .i64 r.1), (.int .i64 r.2.1), (.int .i64 r.2.2.1), (.int .i64 r.2.2.2.1), (.slice A (List.length (List.map stT d)) c), (.int .i64 r.2.2.2.2.2.1), (.bool r.2.2.2.2.2.2)], Da A c d]) := by
  unfold Ky at H
  unfold Bj
  cases h1 : (w == Zi) <;> rw [h1] at H
  · cases h2 : (w == Zs) <;> rw [h2] at H
    · cases h3 : (w == Dt) <;> rw [h3] at H
      · exact Cb g1 A7 c8 A13 c14 q2 q3 q4 q5 d9 q10 q11 p12 w0 hL hO hr15 r H
      · exact C4 g1 A7 c8 A13 c14 q2 q3 q4 q5 d9 q10 q11 p12 w0 hL hO hr15 r H
    · exact B7 g1 A7 c8 A13 c14 q2 q3 q4 q5 d9 q10 q11 p12 w0 hL hO hr15 r H
  · obtain ⟨z, hz, H⟩ := Qd H
    have hw := Ca g1 (.slice A7 (List.length (List.map stT d9)) c8) A13 c14 q2 q3 q4 q5 q10 q11 p12 w0 (fun w hm => hL w (SP.through hO (l := [0]) rfl hm)) (Ru hO [0] rfl rfl) (fun w hm => hr15 w (SP.through hO (l := [0]) rfl hm)) z hz
    refine hw.mono fun e w' hp => ?_
    obtain ⟨he, hs⟩ := hp
    injection H with H
    subst H
    have h2 : SP S w0 w' [Da A7 c8 d9, Qs g1 72 #[(.int .i64 z.1), (.int .i64 z.2.1), (.int .i64 z.2.2.1), (.int .i64 z.2.2.2.1), (.slice A7 (List.length (List.map stT d9)) c8), (.int .i64 z.2.2.2.2.1), (.bool z.2.2.2.2.2)]] := Jq hO [0] [1] rfl rfl hs rfl
    exact ⟨A7, c8, d9, he, rfl, SP.sel h2 [1, 0] rfl rfl⟩
end Go.Proofs.YtoflbpmbkmephaaGreatDoor
namespace Go.Proofs.YtoflbpmbkmephaaGreatDoor
open Go.RowKit
def R6  : Option Unit :=
  (some ())
set_option maxHeartbeats 40000000 in
theorem Gv   (w0 : World)  (r : Unit) (H : R6  = some r) :
  Calls Tryz.prog 91 #[] w0 (fun e W => ∃ (g1 : Nat), e = .returned (.map (some g1)) ∧ SP [] w0 W [Ts g1 S1]) := by
 unfold R6 at H
 refine Qt (n := 7) Tryz.func91 K K K ?_
 have a := Qw [] w0
 refine aC ?_
 refine iR 1 1 [(0, (.map none))] ?_
 refine iF ?_
 refine aC ?_
 refine iS 1 ?_
 refine Tt (T := 144) (dst := (some 1)) (o := 0) K rfl a ?_
 intro g2 w3 b
 refine iR 1 2 [(2, (.agg #[(iv 5), (.func (.func 142) #[] #[])]))] ?_
 refine iS 3 ?_
 refine Hy (T := 144) (kt := 9) (et := 142) (m := g2) (L := []) (k := (.string ⟨List.toArray ([116, 105, 109, 101, 115] : Bs)⟩)) (v := (.agg #[(iv 5), (.func (.func 142) #[] #[])])) (d := .string) (x := (.tmp 1)) (ix := (.const (.string ⟨List.toArray ([116, 105, 109, 101, 115] : Bs)⟩))) (y := (.tmp 2)) (i := 0) (dst := none) (o := 2) K rfl K K K K K K K K b rfl ?_
 intro w6 c
 refine iR 1 4 [(3, (.agg #[(iv 4), (.func (.func 143) #[] #[])]))] ?_
 refine iS 5 ?_
 refine Hy (T := 144) (kt := 9) (et := 142) (m := g2) (L := ([] ++ [((sv ([116, 105, 109, 101, 115] : Bs)), (.agg #[(iv 5), (.func (.func 142) #[] #[])]))])) (k := (.string ⟨List.toArray ([116, 101, 110, 97, 110, 116] : Bs)⟩)) (v := (.agg #[(iv 4), (.func (.func 143) #[] #[])])) (d := .string) (x := (.tmp 1)) (ix := (.const (.string ⟨List.toArray ([116, 101, 110, 97, 110, 116] : Bs)⟩))) (y := (.tmp 3)) (i := 0) (dst := none) (o := 4) K rfl K K K K K K K K c rfl ?_
 intro w9 f
 refine iR 1 6 [(4, (.agg #[(iv 2), (.func (.func 144) #[] #[])]))] ?_
 refine iS 7 ?_
 refine Hy (T := 144) (kt := 9) (et := 142) (m := g2) (L := (([] ++ [((sv ([116, 105, 109, 101, 115] : Bs)), (.agg #[(iv 5), (.func (.func 142) #[] #[])]))]) ++ [((sv ([116, 101, 110, 97, 110, 116] : Bs)), (.agg #[(iv 4), (.func (.func 143) #[] #[])]))])) (k := (.string ⟨List.toArray ([110, 101, 116] : Bs)⟩)) (v := (.agg #[(iv 2), (.func (.func 144) #[] #[])])) (d := .string) (x := (.tmp 1)) (ix := (.const (.string ⟨List.toArray ([110, 101, 116] : Bs)⟩))) (y := (.tmp 4)) (i := 0) (dst := none) (o := 6) K rfl K K K K K K K K f rfl ?_
 intro j g
 refine iR 1 8 [(5, (.agg #[(iv 4), (.func (.func 145) #[] #[])]))] ?_
 refine iS 9 ?_
 refine Hy (T := 144) (kt := 9) (et := 142) (m := g2) (L := ((([] ++ [((sv ([116, 105, 109, 101, 115] : Bs)), (.agg #[(iv 5), (.func (.func 142) #[] #[])]))]) ++ [((sv ([116, 101, 110, 97, 110, 116] : Bs)), (.agg #[(iv 4), (.func (.func 143) #[] #[])]))]) ++ [((sv ([110, 101, 116] : Bs)), (.agg #[(iv 2), (.func (.func 144) #[] #[])]))])) (k := (.string ⟨List.toArray ([116, 111, 107, 101, 110] : Bs)⟩)) (v := (.agg #[(iv 4), (.func (.func 145) #[] #[])])) (d := .string) (x := (.tmp 1)) (ix := (.const (.string ⟨List.toArray ([116, 111, 107, 101, 110] : Bs)⟩))) (y := (.tmp 5)) (i := 0) (dst := none) (o := 8) K rfl K K K K K K K K g rfl ?_
 intro l h
 refine iR 2 11 [(6, (.map (some g2))), (0, (.map (some g2)))] ?_
 refine iF ?_
 refine At.ret K ?_
 refine ⟨(.map (some g2)), K, ?_⟩
 obtain rfl := Qe H
 exact ⟨g2, rfl, SP.sel h [0] rfl rfl⟩
def Ju (a : (Int × Int × Int × Int × (List Qb) × Int × Bool)) (b : (List Qb)) (c : Bool) : Option (Bool × Int × Int × Int × Int × (List Qb) × Int × Bool) :=
  (some (c, a.1, a.2.1, a.2.2.1, a.2.2.2.1, b, (IntKind.wrap .i64 (a.2.2.2.2.2.1 + 1)), a.2.2.2.2.2.2))
def Jv (q2 : Int) (q3 : Int) (q4 : Int) (q5 : Int) (q6 : (List Qb)) (c : Int) (d : Bool) (e : ((List (List UInt8)))) (f : (List UInt8)) (g : Bool) : Option (Bool × Int × Int × Int × Int × (List Qb) × Int × Bool) :=
  (cond g (some (false, q2, q3, q4, q5, q6, c, d)) ((Ky f q2 q3 q4 q5 q6 c d e).bind fun a => ((some a.2.2.2.2.1).bind fun b => (cond (!a.2.2.2.2.2.2) ((Jo a.1 a.2.1 a.2.2.1 a.2.2.2.1 b).bind fun h => (Ju a b h)) (Ju a b false)))))
def Ys (q2 : Int) (q3 : Int) (q4 : Int) (q5 : Int) (q6 : (List Qb)) (c : Int) (d : Bool) (f : (List UInt8)) : Option (Bool × Int × Int × Int × Int × (List Qb) × Int × Bool) :=
  ((Nh f ([10] : List UInt8)).bind fun e => ((Rn e.1 ([32] : List UInt8)).bind fun a => ((R6 ).bind fun g => ((idx a 0).bind fun b => (cond (cin b) (cond (!e.2) (Jv q2 q3 q4 q5 q6 c d a b true) (Jv q2 q3 q4 q5 q6 c d a b (((List.length a : Nat) : Int) != (Bt b)))) (some (false, q2, q3, q4, q5, q6, c, d)))))))
set_option maxHeartbeats 40000000 in
theorem Cp {S : List Nat} (g1 : Nat) (A7 : Option Addr) (c8 : Nat) (q2 : Int) (q3 : Int) (q4 : Int) (q5 : Int) (d9 : (List Qg)) (b2 : Int) (b3 : Bool) (b9 : Bs) (w0 : World) (hL : ∀ w, Mod S w0 w → Be w) (hO : SP S w0 w0 [Qs g1 72 #[(iv q2), (iv q3), (iv q4), (iv q5), (lv A7 (mT d9) c8), (iv b2), (bv b3)], Da A7 c8 d9])  (r : (Bool × Int × Int × Int × Int × (List Qb) × Int × Bool)) (H : Ys q2 q3 q4 q5 (mT d9) b2 b3 b9 = some r) :
  Calls Tryz.prog 41 #[(pt g1 0), (sv b9)] w0 (fun e W => ∃ (d1 : Option Addr) (d2 : Nat) (c5 : List Qg), e = .returned (bv r.1) ∧ r.2.2.2.2.2.1 = List.map stT c5 ∧ SP S w0 W [Qs g1 72 #[(iv r.2.1), (iv r.2.2.1), (iv r.2.2.2.1), (iv r.2.2.2.2.1), (lv d1 (mT c5) d2), (iv r.2.2.2.2.2.2.1), (bv r.2.2.2.2.2.2.2)], Da d1 d2 c5]) := by
 unfold Ys at H
 refine Qt (n := 61) Tryz.func41 K K K ?_
 have e6 := hO
 refine aC ?_
 refine iR 1 1 [(4, (bv false))] ?_
 refine iF ?_
 refine aC ?_
 refine iR 1 1 [(10, (sv b9))] ?_
 obtain ⟨z, e7, H⟩ := Qd H
 refine iS 2 ?_
 refine cS e6 90 #[(.tmp 10), (.const (.string ⟨List.toArray ([10] : Bs)⟩))] #[9, 9] 11 Tryz.call90 (C0  b9 ([10] : Bs) w0  z e7) ?_
 intro e8 e9
 refine iR 5 7 [(9, (.tuple #[(sv z.1), (bv z.2)])), (12, (sv z.1)), (13, (bv z.2)), (1, (sv z.1)), (5, (bv z.2))] ?_
 refine iF ?_
 refine aC ?_
 refine iR 1 1 [(14, (sv z.1))] ?_
 obtain ⟨q, f0, H⟩ := Qd H
 refine iS 2 ?_
 refine cF 67 #[(.tmp 14), (.const (.string ⟨List.toArray ([32] : Bs)⟩))] #[9, 9] 15 Tryz.call67 (Fz  z.1 ([32] : Bs) e8  q f0) ?_
 rintro e r4 ⟨s, t, rfl, d3⟩
 refine ⟨_, rfl, ?_⟩
 have d4 := SP.call e9 d3
 clear d3
 refine iR 1 3 [(6, (lv s q t))] ?_
 refine iF ?_
 refine aQ ?_
 obtain ⟨c0, c1, H⟩ := Qd H
 obtain ⟨g, u, y, a9, H⟩ := Qu H
 rcases Bool.eq_false_or_eq_true (cin g) with b4 | b4
 ·have H := ct H b4
  refine aG [Ry, GEq (lv s q t), Zt s Qj.sz 0, GEq (sv g), GEq (.tuple #[(.agg #[(iv (Bt g)), (.func (.func (Bj g)) #[] #[])]), (bv true)]), GEq (.tuple #[(.agg #[(iv (Bt g)), (.func (.func (Bj g)) #[] #[])]), (bv true)]), GEq (.agg #[(iv (Bt g)), (.func (.func (Bj g)) #[] #[])]), GEq (bv true), Ry, Ry, GEq (bv true)] [0, 8, 9] ((fun (X0 X1 X2 : Ent) => [([], fun vs w => VL vs [] ∧ SP S w0 w [X0, X1, X2]), ([0], fun vs w => ∃ (a2 : Nat), VL vs [(.map (some a2))] ∧ SP S w0 w [X0, X1, X2, Ts a2 S1]), ([8], fun vs w => ∃ (b5 : Nat), VL vs [(pt b5 0)] ∧ SP S w0 w [X0, X1, X2, Qs b5 142 #[(iv 0), .nilFunc]]), ([0, 8], fun vs w => ∃ (a3 : Nat), ∃ (a4 : Nat), VL vs [(.map (some a3)), (pt a4 0)] ∧ SP S w0 w [X0, X1, X2, Ts a3 S1, Qs a4 142 #[(iv 0), .nilFunc]]), ([0, 8, 9], fun vs w => ∃ (c6 : Nat), ∃ (a1 : Nat), VL vs [(.map (some c6)), (pt a1 0), undef] ∧ SP S w0 w [X0, X1, X2, Ts c6 S1, Qs a1 142 #[(iv (Bt g)), (.func (.func (Bj g)) #[] #[])]])]) (Qs g1 72 #[(iv q2), (iv q3), (iv q4), (iv q5), (lv A7 (mT d9) c8), (iv b2), (bv b3)]) (Da A7 c8 d9) (Vh 9 Qj s t q)) 11 4 ⟨trivial, SP.drew d4⟩ ?_ ?_
  iterate 11 refine And.intro ?_ ?_
  exact trivial
  ·refine Owe.heavy K [(0, 1), (2, 3)] K (Qc ⟨K, K, ?_⟩ (Qc ⟨K, K, ?_⟩ Qq))
   ·rintro P W hs c ⟨-, f1⟩
    refine kN [] trivial fun a => ?_
    refine cF 91 #[] #[] 17 Tryz.call91 (Gv   W  c0 c1) ?_
    rintro e r5 ⟨f2, rfl, d5⟩
    refine ⟨_, rfl, ?_⟩
    have f3 := SP.call f1 d5
    clear d5
    refine ⟨_, Qa a, trivial, ?_⟩
    exact (ei f2 (ai (ai rfl (trivial)) f3))
   rintro P W hs c ⟨b5, ⟨f4, -⟩, f5⟩
   refine kN [] trivial fun a => ?_
   refine cF 91 #[] #[] 17 Tryz.call91 (Gv   W  c0 c1) ?_
   rintro e r6 ⟨f6, rfl, d6⟩
   refine ⟨_, rfl, ?_⟩
   have f7 := SP.call f5 d6
   clear d6
   refine ⟨_, Qa a, trivial, ?_⟩
   exact (ei f6 (ei b5 (ai (ai rfl (ai f4 (trivial))) (SP.sel f7 [0, 1, 2, 4, 3] rfl rfl))))
  ·exact oU (hC (hS 6 (lv s q t)) (h0))
  ·refine Owe.light K [0, 1, 2, 3] K (Qc ?_ (Qc ?_ (Qc ?_ (Qc ?_ Qq))))
   ·rintro P W hs c ⟨-, f8⟩
    refine kM (kc (kA c 1 18) k0) fun a => ?_
    refine zE Qj q s t 79 9 (.tmp 18) (.const (.int .i64 (0))) 0 19 (Qz (SP.get f8 (i := 2) rfl)) u y ?_
    intro f9 g0 g2 r7 hc454
    exact ⟨rfl, _, Qa a, ⟨f9, g0, g2, rfl⟩⟩
   ·rintro P W hs c ⟨a2, ⟨r8, -⟩, g3⟩
    refine kM (kc (kA c 1 18) k0) fun a => ?_
    refine zE Qj q s t 79 9 (.tmp 18) (.const (.int .i64 (0))) 0 19 (Qz (SP.get g3 (i := 2) rfl)) u y ?_
    intro g4 g5 g6 r9 hc462
    exact ⟨rfl, _, Qa a, ⟨g4, g5, g6, rfl⟩⟩
   ·rintro P W hs c ⟨b5, ⟨s0, -⟩, g7⟩
    refine kM (kc (kA c 1 18) k0) fun a => ?_
    refine zE Qj q s t 79 9 (.tmp 18) (.const (.int .i64 (0))) 0 19 (Qz (SP.get g7 (i := 2) rfl)) u y ?_
    intro g8 g9 h1 s1 hc470
    exact ⟨rfl, _, Qa a, ⟨g8, g9, h1, rfl⟩⟩
   rintro P W hs c ⟨a3, a4, ⟨s2, s3, -⟩, h2⟩
   refine kM (kc (kA c 1 18) k0) fun a => ?_
   refine zE Qj q s t 79 9 (.tmp 18) (.const (.int .i64 (0))) 0 19 (Qz (SP.get h2 (i := 2) rfl)) u y ?_
   intro h3 h4 h5 s4 hc479
   exact ⟨rfl, _, Qa a, ⟨h3, h4, h5, rfl⟩⟩
  ·refine Owe.light K [0, 1, 2, 3] K (Qc ?_ (Qc ?_ (Qc ?_ (Qc ?_ Qq))))
   ·rintro P W hs c ⟨-, h6⟩
    obtain ⟨h7, h8, h9, a0⟩ := c 2 19 K
    refine kM (kc a0 k0) fun a => ?_
    refine sC 9 19 h7 (h8 + Int.toNat 0 * Qj.sz) (sv g) 20 (Ql (e := Qj) (Qh (Qz (SP.get h6 (i := 2) rfl)) h9 u y) a9 (j := 0) rfl) ?_
    exact eK a
   ·rintro P W hs c ⟨a2, ⟨s5, -⟩, i0⟩
    obtain ⟨i1, i2, i3, a0⟩ := c 2 19 K
    refine kM (kc a0 k0) fun a => ?_
    refine sC 9 19 i1 (i2 + Int.toNat 0 * Qj.sz) (sv g) 20 (Ql (e := Qj) (Qh (Qz (SP.get i0 (i := 2) rfl)) i3 u y) a9 (j := 0) rfl) ?_
    exact eK a
   ·rintro P W hs c ⟨b5, ⟨s6, -⟩, i4⟩
    obtain ⟨i5, i6, i7, a0⟩ := c 2 19 K
    refine kM (kc a0 k0) fun a => ?_
    refine sC 9 19 i5 (i6 + Int.toNat 0 * Qj.sz) (sv g) 20 (Ql (e := Qj) (Qh (Qz (SP.get i4 (i := 2) rfl)) i7 u y) a9 (j := 0) rfl) ?_
    exact eK a
   rintro P W hs c ⟨a3, a4, ⟨s7, s8, -⟩, i8⟩
   obtain ⟨i9, j0, j1, a0⟩ := c 2 19 K
   refine kM (kc a0 k0) fun a => ?_
   refine sC 9 19 i9 (j0 + Int.toNat 0 * Qj.sz) (sv g) 20 (Ql (e := Qj) (Qh (Qz (SP.get i8 (i := 2) rfl)) j1 u y) a9 (j := 0) rfl) ?_
   exact eK a
  ·refine Owe.light K [1, 3] K (Qc ?_ (Qc ?_ Qq))
   ·rintro P W hs c ⟨a2, ⟨j2, -⟩, j3⟩
    refine kN [(17, (.map (some a2))), (20, (sv g))] ⟨(Qr (h := 0) K).symm.trans j2, c 3 20 K, trivial⟩ fun a => ?_
    refine Ku (T := 144) (kt := 9) (et := 142) (m := a2) (L := S1) (k := (.string ⟨List.toArray g⟩)) (d := .string) (x := (.tmp 17)) (ix := (.tmp 20)) (dst := (some 21)) (o := 4) (v := cval g) K rfl K K K K K (ctab_in b4) (SP.get j3 (i := 3) rfl) ?_
    exact eK a
   rintro P W hs c ⟨a3, a4, ⟨j4, s9, -⟩, j5⟩
   refine kN [(17, (.map (some a3))), (20, (sv g))] ⟨(Qr (h := 0) K).symm.trans j4, c 3 20 K, trivial⟩ fun a => ?_
   refine Ku (T := 144) (kt := 9) (et := 142) (m := a3) (L := S1) (k := (.string ⟨List.toArray g⟩)) (d := .string) (x := (.tmp 17)) (ix := (.tmp 20)) (dst := (some 21)) (o := 4) (v := cval g) K rfl K K K K K (ctab_in b4) (SP.get j5 (i := 3) rfl) ?_
   exact eK a
  ·exact oU (hC (hA 4 21) (h0))
  ·exact oU (hC (hA 5 16) (h0))
  ·exact oU (hC (hA 5 16) (h0))
  ·refine Owe.heavy K [(0, 2), (1, 3)] K (Qc ⟨K, K, ?_⟩ (Qc ⟨K, K, ?_⟩ Qq))
   ·rintro P W hs c ⟨-, j6⟩
    refine kN [] trivial fun a => ?_
    refine zA 142 (.agg #[(iv 0), .nilFunc]) 7 j6 ?_
    intro j7 t0 j8
    refine ⟨_, Qa a, trivial, ?_⟩
    exact (ei j7 (ai (ai rfl (trivial)) j8))
   rintro P W hs c ⟨a2, ⟨j9, -⟩, k1⟩
   refine kN [] trivial fun a => ?_
   refine zA 142 (.agg #[(iv 0), .nilFunc]) 7 k1 ?_
   intro k2 t1 k3
   refine ⟨_, Qa a, trivial, ?_⟩
   exact (ei a2 (ei k2 (ai (ai j9 (ai rfl (trivial))) k3)))
  ·refine oH 3 4 ?_
   rintro P W hs c ⟨a3, a4, ⟨k4, d7, -⟩, k5⟩
   refine kN [(7, (pt a4 0)), (22, (.agg #[(iv (Bt g)), (.func (.func (Bj g)) #[] #[])]))] ⟨(Qr (h := 8) K).symm.trans d7, c 6 22 K, trivial⟩ fun a => ?_
   refine zT 142 (.tmp 7) (.tmp 22) a4 0 4 (.agg #[(iv (Bt g)), (.func (.func (Bj g)) #[] #[])]) #[(iv (Bt g)), (.func (.func (Bj g)) #[] #[])] none k5 ?_
   intro t2 k6
   refine ⟨_, Qa a, trivial, ?_⟩
   exact (ei a3 (ei a4 (ai (ai k4 (ai d7 (ai rfl (trivial)))) k6)))
  ·exact oU (hC (hA 7 23) (h0))
  rintro P t3 hs hf ⟨c6, a1, ⟨t4, k7, t5, -⟩, c7⟩
  refine Qy [(0, (pt g1 0)), (5, (bv z.2)), (6, (lv s q t)), (7, (pt a1 0)), (8, (bv true))] ⟨(hs 0 K).trans K, (hs 5 K).trans K, (hs 6 K).trans K, (Qr (h := 8) K).symm.trans k7, hf 10 8 K, trivial⟩ ?_
  refine aQ ?_
  refine aQ ?_
  refine At.join (fun ρ w => ∃ (c9 : Bool), Vq ρ [(0, (pt g1 0)), (6, (lv s q t)), (7, (pt a1 0)), (36, (bv c9))] ∧ SP S w0 w [Da A7 c8 d9, Qs g1 72 #[(iv q2), (iv q3), (iv q4), (iv q5), (lv A7 (mT d9) c8), (iv b2), (bv b3)], Qs a1 142 #[(iv (Bt g)), (.func (.func (Bj g)) #[] #[])], Vh 9 Qj s t q] ∧ Jv q2 q3 q4 q5 (mT d9) b2 b3 q g c9 = some r) ?_ ?_
  ·refine aR ?_
   refine iR 7 7 [(24, (bv true)), (25, (bv false)), (26, (bv false)), (27, (bv z.2)), (28, (bv (!z.2))), (29, (bv (!z.2))), (30, (bv (!z.2)))] ?_
   refine gD 30 H (fun H => ?_) fun H => ?_
   ·refine iR 6 13 (uN 31 5 [(36, (bv true))]) ?_
    refine iF ?_
    exact ⟨true, ⟨K, K, K, K, trivial⟩, SP.sel c7 [1, 0, 4, 2] rfl rfl, H⟩
   refine iR 3 10 [(31, (lv s q t)), (32, (iv (ln q))), (33, (pt a1 0))] ?_
   refine jL 11 3 33 a1 0 4 (iv (Bt g)) 34 c7 rfl ?_
   refine iR 2 13 [(35, (bv ((ln q) != (Bt g)))), (36, (bv ((ln q) != (Bt g))))] ?_
   refine iF ?_
   exact ⟨((ln q) != (Bt g)), ⟨K, K, K, K, trivial⟩, SP.sel c7 [1, 0, 4, 2] rfl rfl, H⟩
  rintro ρ k8 ⟨c9, hk, b6, H⟩
  unfold Jv at H
  first | refine At.known _ hk ?_ | rw [← Qo hk]
  refine cD 36 H (fun H => ?_) fun H => ?_
  ·refine aC ?_
   refine iR 1 1 [(4, (bv false))] ?_
   refine iF ?_
   refine At.ret K ?_
   refine ⟨(bv false), K, ?_⟩
   obtain rfl := Qe H
   exact ⟨A7, c8, d9, rfl, rfl, SP.sel b6 [1,0] rfl rfl⟩
  refine At.skip K ?_
  refine aC ?_
  refine iR 1 1 [(37, (pt a1 1))] ?_
  refine jL 2 140 37 a1 1 2 (.func (.func (Bj g)) #[] #[]) 38 b6 rfl ?_
  refine iR 2 4 [(39, (pt g1 0)), (40, (lv s q t))] ?_
  obtain ⟨p, k9, H⟩ := Qd H
  refine iS 5 ?_
  refine Uo (f := (Bj g)) (fo := (.tmp 38)) (xs := #[(.tmp 39), (.tmp 40)]) (tys := #[70, 79]) (first := #[]) (captured := #[]) (d := (some 41)) (k := 4) K rfl K K (P3 g) (O1 g g1 A7 c8 s t q2 q3 q4 q5 d9 b2 b3 q k8 (fun w hm => hL w (SP.through b6 (l := [1, 0]) rfl hm)) (Ru b6 [1, 0] rfl rfl) (fun w hm => (Qz (SP.still b6 (l := [1, 0]) (i := 3) rfl rfl rfl hm))) p k9) ?_
  rintro e l0 ⟨b0, b1, a5, rfl, l1, d8⟩
  obtain ⟨t6, hll552, H⟩ := Z4 H
  rw [l1] at hll552
  subst hll552
  refine ⟨_, rfl, ?_⟩
  have e0 : SP S w0 l0 [Qs a1 142 #[(iv (Bt g)), (.func (.func (Bj g)) #[] #[])], Vh 9 Qj s t q, Qs g1 72 #[(iv p.1), (iv p.2.1), (iv p.2.2.1), (iv p.2.2.2.1), (lv b0 (mT a5) b1), (iv p.2.2.2.2.2.1), (bv p.2.2.2.2.2.2)], Da b0 b1 a5] := Jq b6 [1, 0] [2, 3] rfl rfl d8 rfl
  clear d8
  refine iF ?_
  refine aC ?_
  refine iR 3 3 [(42, (pt g1 0)), (43, (pt g1 0)), (44, (pt g1 5))] ?_
  refine jL 4 3 44 g1 5 2 (iv p.2.2.2.2.2.1) 45 e0 rfl ?_
  refine iR 3 7 [(46, (iv (IntKind.wrap .i64 (p.2.2.2.2.2.1 + 1)))), (47, (pt g1 0)), (48, (pt g1 5))] ?_
  refine iS 8 ?_
  refine zT 3 (.tmp 48) (.tmp 46) g1 5 2 (iv (IntKind.wrap .i64 (p.2.2.2.2.2.1 + 1))) #[(iv p.1), (iv p.2.1), (iv p.2.2.1), (iv p.2.2.2.1), (lv b0 (mT a5) b1), (iv (IntKind.wrap .i64 (p.2.2.2.2.2.1 + 1))), (bv p.2.2.2.2.2.2)] none e0 ?_
  intro e1 b7
  refine iF ?_
  refine aQ ?_
  refine At.join (fun ρ w => ∃ (c2 : Bool), Vq ρ [(4, (bv c2))] ∧ SP S w0 w [Da b0 b1 a5, Qs g1 72 #[(iv p.1), (iv p.2.1), (iv p.2.2.1), (iv p.2.2.2.1), (lv b0 (mT a5) b1), (iv (IntKind.wrap .i64 (p.2.2.2.2.2.1 + 1))), (bv p.2.2.2.2.2.2)]] ∧ Ju p (mT a5) c2 = some r) ?_ ?_
  ·refine aR ?_
   refine iR 3 3 [(49, (pt g1 0)), (50, (pt g1 0)), (51, (pt g1 6))] ?_
   refine jL 4 4 51 g1 6 2 (bv p.2.2.2.2.2.2) 52 b7 rfl ?_
   refine iR 2 6 [(53, (bv (!p.2.2.2.2.2.2))), (54, (bv (!p.2.2.2.2.2.2)))] ?_
   refine gD 54 H (fun H => ?_) fun H => ?_
   ·refine iR 3 9 [(55, (pt g1 0)), (56, (pt g1 0)), (57, (pt g1 0))] ?_
    refine jL 10 24 57 g1 0 2 (.agg #[(iv p.1), (iv p.2.1), (iv p.2.2.1), (iv p.2.2.2.1), (lv b0 (mT a5) b1)]) 58 b7 rfl ?_
    obtain ⟨c3, l2, H⟩ := Qd H
    refine iS 11 ?_
    refine cS b7 22 #[(.tmp 58)] #[24] 59 Tryz.call22 (Za b0 b1 p.1 p.2.1 p.2.2.1 p.2.2.2.1 a5 e1 (hL e1 (SP.mod b7)) (D6 (SP.get b7 (i := 3) rfl)) c3 l2) ?_
    intro t7 l3
    refine iR 2 13 [(60, (bv c3)), (4, (bv c3))] ?_
    refine iF ?_
    exact ⟨c3, ⟨K, trivial⟩, SP.sel l3 [3, 2] rfl rfl, H⟩
   refine iR 7 13 (uN 55 5 [(60, (bv false)), (4, (bv false))]) ?_
   refine iF ?_
   exact ⟨false, ⟨K, trivial⟩, SP.sel b7 [3, 2] rfl rfl, H⟩
  rintro ρ t8 ⟨c2, hk, l4, H⟩
  unfold Ju at H
  first | refine At.known _ hk ?_ | rw [← Qo hk]
  refine At.ret K ?_
  refine ⟨(bv c2), K, ?_⟩
  obtain rfl := Qe H
  exact ⟨b0, b1, a5, rfl, rfl, SP.sel l4 [1,0] rfl rfl⟩
 have H := cf H b4
 refine aG [Ry, GEq (lv s q t), Zt s Qj.sz 0, GEq (sv g), GEq (.tuple #[(.agg #[(iv 0), .nilFunc]), (bv false)]), GEq (.tuple #[(.agg #[(iv 0), .nilFunc]), (bv false)]), GEq (.agg #[(iv 0), .nilFunc]), GEq (bv false), Ry, Ry, GEq (bv false)] [0, 8, 9] ((fun (X0 X1 X2 : Ent) => [([], fun vs w => VL vs [] ∧ SP S w0 w [X0, X1, X2]), ([0], fun vs w => ∃ (a6 : Nat), VL vs [(.map (some a6))] ∧ SP S w0 w [X0, X1, X2, Ts a6 S1]), ([8], fun vs w => ∃ (b8 : Nat), VL vs [(pt b8 0)] ∧ SP S w0 w [X0, X1, X2, Qs b8 142 #[(iv 0), .nilFunc]]), ([0, 8], fun vs w => ∃ (a7 : Nat), ∃ (a8 : Nat), VL vs [(.map (some a7)), (pt a8 0)] ∧ SP S w0 w [X0, X1, X2, Ts a7 S1, Qs a8 142 #[(iv 0), .nilFunc]]), ([0, 8, 9], fun vs w => ∃ (d0 : Nat), ∃ (c4 : Nat), VL vs [(.map (some d0)), (pt c4 0), undef] ∧ SP S w0 w [X0, X1, X2, Ts d0 S1, Qs c4 142 #[(iv 0), .nilFunc]])]) (Qs g1 72 #[(iv q2), (iv q3), (iv q4), (iv q5), (lv A7 (mT d9) c8), (iv b2), (bv b3)]) (Da A7 c8 d9) (Vh 9 Qj s t q)) 11 4 ⟨trivial, SP.drew d4⟩ ?_ ?_
 iterate 11 refine And.intro ?_ ?_
 exact trivial
 ·refine Owe.heavy K [(0, 1), (2, 3)] K (Qc ⟨K, K, ?_⟩ (Qc ⟨K, K, ?_⟩ Qq))
  ·rintro P W hs c ⟨-, l5⟩
   refine kN [] trivial fun a => ?_
   refine cF 91 #[] #[] 17 Tryz.call91 (Gv   W  c0 c1) ?_
   rintro e t9 ⟨l6, rfl, e2⟩
   refine ⟨_, rfl, ?_⟩
   have l7 := SP.call l5 e2
   clear e2
   refine ⟨_, Qa a, trivial, ?_⟩
   exact (ei l6 (ai (ai rfl (trivial)) l7))
  rintro P W hs c ⟨b8, ⟨l8, -⟩, l9⟩
  refine kN [] trivial fun a => ?_
  refine cF 91 #[] #[] 17 Tryz.call91 (Gv   W  c0 c1) ?_
  rintro e u0 ⟨m0, rfl, e3⟩
  refine ⟨_, rfl, ?_⟩
  have m1 := SP.call l9 e3
  clear e3
  refine ⟨_, Qa a, trivial, ?_⟩
  exact (ei m0 (ei b8 (ai (ai rfl (ai l8 (trivial))) (SP.sel m1 [0, 1, 2, 4, 3] rfl rfl))))
 ·exact oU (hC (hS 6 (lv s q t)) (h0))
 ·refine Owe.light K [0, 1, 2, 3] K (Qc ?_ (Qc ?_ (Qc ?_ (Qc ?_ Qq))))
  ·rintro P W hs c ⟨-, m2⟩
   refine kM (kc (kA c 1 18) k0) fun a => ?_
   refine zE Qj q s t 79 9 (.tmp 18) (.const (.int .i64 (0))) 0 19 (Qz (SP.get m2 (i := 2) rfl)) u y ?_
   intro m3 m4 m5 u1 hc632
   exact ⟨rfl, _, Qa a, ⟨m3, m4, m5, rfl⟩⟩
  ·rintro P W hs c ⟨a6, ⟨u2, -⟩, m6⟩
   refine kM (kc (kA c 1 18) k0) fun a => ?_
   refine zE Qj q s t 79 9 (.tmp 18) (.const (.int .i64 (0))) 0 19 (Qz (SP.get m6 (i := 2) rfl)) u y ?_
   intro m7 m8 m9 u3 hc640
   exact ⟨rfl, _, Qa a, ⟨m7, m8, m9, rfl⟩⟩
  ·rintro P W hs c ⟨b8, ⟨u4, -⟩, n0⟩
   refine kM (kc (kA c 1 18) k0) fun a => ?_
   refine zE Qj q s t 79 9 (.tmp 18) (.const (.int .i64 (0))) 0 19 (Qz (SP.get n0 (i := 2) rfl)) u y ?_
   intro n1 n2 n3 u5 hc648
   exact ⟨rfl, _, Qa a, ⟨n1, n2, n3, rfl⟩⟩
  rintro P W hs c ⟨a7, a8, ⟨u6, u7, -⟩, n4⟩
  refine kM (kc (kA c 1 18) k0) fun a => ?_
  refine zE Qj q s t 79 9 (.tmp 18) (.const (.int .i64 (0))) 0 19 (Qz (SP.get n4 (i := 2) rfl)) u y ?_
  intro n5 n6 n7 u8 hc657
  exact ⟨rfl, _, Qa a, ⟨n5, n6, n7, rfl⟩⟩
 ·refine Owe.light K [0, 1, 2, 3] K (Qc ?_ (Qc ?_ (Qc ?_ (Qc ?_ Qq))))
  ·rintro P W hs c ⟨-, n8⟩
   obtain ⟨n9, o0, o1, a0⟩ := c 2 19 K
   refine kM (kc a0 k0) fun a => ?_
   refine sC 9 19 n9 (o0 + Int.toNat 0 * Qj.sz) (sv g) 20 (Ql (e := Qj) (Qh (Qz (SP.get n8 (i := 2) rfl)) o1 u y) a9 (j := 0) rfl) ?_
   exact eK a
  ·rintro P W hs c ⟨a6, ⟨u9, -⟩, o2⟩
   obtain ⟨o3, o4, o5, a0⟩ := c 2 19 K
   refine kM (kc a0 k0) fun a => ?_
   refine sC 9 19 o3 (o4 + Int.toNat 0 * Qj.sz) (sv g) 20 (Ql (e := Qj) (Qh (Qz (SP.get o2 (i := 2) rfl)) o5 u y) a9 (j := 0) rfl) ?_
   exact eK a
  ·rintro P W hs c ⟨b8, ⟨v0, -⟩, o6⟩
   obtain ⟨o7, o8, o9, a0⟩ := c 2 19 K
   refine kM (kc a0 k0) fun a => ?_
   refine sC 9 19 o7 (o8 + Int.toNat 0 * Qj.sz) (sv g) 20 (Ql (e := Qj) (Qh (Qz (SP.get o6 (i := 2) rfl)) o9 u y) a9 (j := 0) rfl) ?_
   exact eK a
  rintro P W hs c ⟨a7, a8, ⟨v1, v2, -⟩, p0⟩
  obtain ⟨p1, p2, p3, a0⟩ := c 2 19 K
  refine kM (kc a0 k0) fun a => ?_
  refine sC 9 19 p1 (p2 + Int.toNat 0 * Qj.sz) (sv g) 20 (Ql (e := Qj) (Qh (Qz (SP.get p0 (i := 2) rfl)) p3 u y) a9 (j := 0) rfl) ?_
  exact eK a
 ·refine Owe.light K [1, 3] K (Qc ?_ (Qc ?_ Qq))
  ·rintro P W hs c ⟨a6, ⟨p4, -⟩, p5⟩
   refine kN [(17, (.map (some a6))), (20, (sv g))] ⟨(Qr (h := 0) K).symm.trans p4, c 3 20 K, trivial⟩ fun a => ?_
   refine Kv (T := 144) (kt := 9) (et := 142) (m := a6) (L := S1) (k := (.string ⟨List.toArray g⟩)) (d := .string) (x := (.tmp 17)) (ix := (.tmp 20)) (dst := (some 21)) (o := 4) (v := (.agg #[(iv 0), .nilFunc])) K rfl K K K K (fun _ => K) K (S2 b4) (SP.get p5 (i := 3) rfl) ?_
   exact eK a
  rintro P W hs c ⟨a7, a8, ⟨p6, v3, -⟩, p7⟩
  refine kN [(17, (.map (some a7))), (20, (sv g))] ⟨(Qr (h := 0) K).symm.trans p6, c 3 20 K, trivial⟩ fun a => ?_
  refine Kv (T := 144) (kt := 9) (et := 142) (m := a7) (L := S1) (k := (.string ⟨List.toArray g⟩)) (d := .string) (x := (.tmp 17)) (ix := (.tmp 20)) (dst := (some 21)) (o := 4) (v := (.agg #[(iv 0), .nilFunc])) K rfl K K K K (fun _ => K) K (S2 b4) (SP.get p7 (i := 3) rfl) ?_
  exact eK a
 ·exact oU (hC (hA 4 21) (h0))
 ·exact oU (hC (hA 5 16) (h0))
 ·exact oU (hC (hA 5 16) (h0))
 ·refine Owe.heavy K [(0, 2), (1, 3)] K (Qc ⟨K, K, ?_⟩ (Qc ⟨K, K, ?_⟩ Qq))
  ·rintro P W hs c ⟨-, p8⟩
   refine kN [] trivial fun a => ?_
   refine zA 142 (.agg #[(iv 0), .nilFunc]) 7 p8 ?_
   intro p9 v4 q0
   refine ⟨_, Qa a, trivial, ?_⟩
   exact (ei p9 (ai (ai rfl (trivial)) q0))
  rintro P W hs c ⟨a6, ⟨q1, -⟩, q6⟩
  refine kN [] trivial fun a => ?_
  refine zA 142 (.agg #[(iv 0), .nilFunc]) 7 q6 ?_
  intro q7 v5 q8
  refine ⟨_, Qa a, trivial, ?_⟩
  exact (ei a6 (ei q7 (ai (ai q1 (ai rfl (trivial))) q8)))
 ·refine oH 3 4 ?_
  rintro P W hs c ⟨a7, a8, ⟨q9, e4, -⟩, r0⟩
  refine kN [(7, (pt a8 0)), (22, (.agg #[(iv 0), .nilFunc]))] ⟨(Qr (h := 8) K).symm.trans e4, c 6 22 K, trivial⟩ fun a => ?_
  refine zT 142 (.tmp 7) (.tmp 22) a8 0 4 (.agg #[(iv 0), .nilFunc]) #[(iv 0), .nilFunc] none r0 ?_
  intro v6 r1
  refine ⟨_, Qa a, trivial, ?_⟩
  exact (ei a7 (ei a8 (ai (ai q9 (ai e4 (ai rfl (trivial)))) r1)))
 ·exact oU (hC (hA 7 23) (h0))
 rintro P v7 hs hf ⟨d0, c4, ⟨v8, r2, v9, -⟩, r3⟩
 refine Qy [(0, (pt g1 0)), (5, (bv z.2)), (6, (lv s q t)), (7, (pt c4 0)), (8, (bv false))] ⟨(hs 0 K).trans K, (hs 5 K).trans K, (hs 6 K).trans K, (Qr (h := 8) K).symm.trans r2, hf 10 8 K, trivial⟩ ?_
 refine aQ ?_
 refine aC ?_
 refine iR 13 13 ((24, (bv false)) :: (25, (bv true)) :: (26, (bv true)) :: (uN 27 2 ((29, (bv true)) :: (30, (bv true)) :: (uN 31 5 [(36, (bv true))])))) ?_
 refine iF ?_
 refine At.cd K (o := (.tmp 36)) K (b := true) K (fun e5 => ?_) (fun e5 => ?_)
 rotate_left
 ·cases e5
 refine aC ?_
 refine iR 1 1 [(4, (bv false))] ?_
 refine iF ?_
 refine At.ret K ?_
 refine ⟨(bv false), K, ?_⟩
 obtain rfl := Qe H
 exact ⟨A7, c8, d9, rfl, rfl, SP.sel r3 [0,1] rfl rfl⟩
end Go.Proofs.YtoflbpmbkmephaaGreatDoor
namespace Go.Proofs.YtoflbpmbkmephaaGreatDoor
open Go.RowKit
def L0 : Ent := ⟨[], fun _ => True, fun _ _ _ h => h⟩
def Yv (Q : World → Prop) (E : Ent) (A : Option Addr) (c : Nat) (l : List Qb) : Prop := ∃ d : List Qg, l = List.map stT d ∧ ∀ w, Q w → E.ok w → (dDS Vu Fv).ok w (A, c, d)
section
variable {S : List Nat} {w w' w0 : World} {es : List Ent} {Q Q' : World → Prop} {E E' e1 e2 : Ent} {A : Option Addr} {c : Nat} {l : List Qb} {d : List Qg} {i j : Nat} {T : TypeId}
theorem Cq (h : SP S w0 w es) : SP S w0 w (es ++ [L0]) := h.push (Below.refl _ _) trivial fun k hk => by cases hk
theorem Ig (h : SP S w0 w es) (hi : es[i]? = some e1) (hj : es[j]? = some e2) (hij : i ≠ j) : ∃ E : Ent, (∀ w, E.ok w → e1.ok w ∧ e2.ok w) ∧ SP S w0 w ((es.set i E).eraseIdx j) :=
  let E : Ent := ⟨e1.fp ++ e2.fp, fun w => e1.ok w ∧ e2.ok w, fun w w' hk hh => ⟨e1.loc w w' (fun k hm => hk k (List.mem_append_left _ hm)) hh.1, e2.loc w w' (fun k hm => hk k (List.mem_append_right _ hm)) hh.2⟩⟩
  ⟨E, fun _ h => h, h.join2 (e := E) hi hj hij ⟨h.get hi, h.get hj⟩ (fun k hk => List.mem_append.1 hk) rfl⟩
theorem Bv (h : Yv Q E A c l) (hq : ∀ w, Q' w → E'.ok w → Q w ∧ E.ok w) : Yv Q' E' A c l := by
  obtain ⟨d, h1, h2⟩ := h
  exact ⟨d, h1, fun w a b => h2 w (hq w a b).1 (hq w a b).2⟩
theorem O2 (h : Yv Q E A c l) (hq : ∀ w, Q' w → Q w ∧ E.ok w) : ∃ d : List Qg, l = List.map stT d ∧ ∀ w, Q' w → (dDS Vu Fv).ok w (A, c, d) := by
  obtain ⟨d, h1, h2⟩ := h
  exact ⟨d, h1, fun w a => h2 w (hq w a).1 (hq w a).2⟩
theorem C5 (h : Yv Q E A c l) (hq : Q w) (he : E.ok w) : ∃ d : List Qg, l = List.map stT d ∧ (dDS Vu Fv).ok w (A, c, d) := by
  obtain ⟨d, h1, h2⟩ := h
  exact ⟨d, h1, h2 w hq he⟩
theorem Yv.nil (Q : World → Prop) (E : Ent) : Yv Q E none 0 [] := ⟨[], rfl, fun w _ _ => ds_nil Vu Fv w⟩
theorem Hz (E : Ent) (h : ∀ w, Q w → (dDS Vu Fv).ok w (A, c, d)) : Yv Q E A c (List.map stT d) := ⟨d, rfl, fun w a _ => h w a⟩
theorem O3 (h : ∀ w, Q w → ∀ y ∈ d, Fv.ok w y) : Yv Q (Vh T Vu A c d) A c (List.map stT d) := ⟨d, rfl, fun w a b => ds_mk (Qz b) (h w a)⟩
end
section
variable {α : Type} {e : Enc α} {p : Dp α} {w w0 : World} {Q : World → Prop} {A : Option Addr} {c : Nat} {l m : List α}
theorem el_R (h : ∀ w, Q w → (dDS e p).ok w (A, c, l)) : ∀ w, Q w → ∀ y ∈ l, p.ok w y := fun w hq => (h w hq).2
theorem elq_nil : ∀ w, Q w → ∀ y ∈ ([] : List α), p.ok w y := fun w _ y hy => by cases hy
theorem Mo (h1 : ∀ w, Q w → ∀ y ∈ l, p.ok w y) (h2 : ∀ w, Q w → ∀ y ∈ m, p.ok w y) : ∀ w, Q w → ∀ y ∈ l ++ m, p.ok w y := fun w hq y hy => by
  rcases List.mem_append.1 hy with hy | hy
  · exact h1 w hq y hy
  · exact h2 w hq y hy
theorem ds_cut {i j : Int} (h0 : 0 ≤ i) (h1 : i ≤ j) (h2 : j ≤ (l.length : Int)) (h : (dDS e p).ok w (A, c, l)) : (dDS e p).ok w (K3 e.sz c i.toNat A, c - i.toNat, List.drop i.toNat (List.take j.toNat l)) :=
  ⟨RdT.part (A := A) (c := c) (l := l) h.1 (by omega) (by omega), fun y hy => h.2 y (List.mem_of_mem_take (List.mem_of_mem_drop hy))⟩
end
theorem elq_ten {Q : World → Prop} {nm : List UInt8} {a b : Int} {A1 A2 : Option Addr} {c1 c2 : Nat} {l1 : List (Int × Int)} {l2 : List (List UInt8 × List UInt8 × Int)} (h1 : ∀ w, Q w → RdT eNet w A1 c1 l1) (h2 : ∀ w, Q w → RdT eTok w A2 c2 l2) : ∀ w, Q w → ∀ y ∈ ([(nm, a, b, (A1, c1, l1), (A2, c2, l2))] : List Qg), Fv.ok w y := fun w hq y hy => by
  rw [List.mem_singleton] at hy
  subst hy
  exact ⟨trivial, trivial, trivial, ⟨h1 w hq, fun _ _ => trivial⟩, ⟨h2 w hq, fun _ _ => trivial⟩⟩
theorem I8 {l m : List Qg} : List.map stT l ++ List.map stT m = List.map stT (l ++ m) := List.map_append.symm
theorem map_cut {l : List Qg} {i j : Nat} : List.drop i (List.take j (List.map stT l)) = List.map stT (List.drop i (List.take j l)) := by rw [List.map_drop, List.map_take]
theorem Mp {l : List Qg} {j : Int} (h : j ≤ ((List.map stT l).length : Int)) : j ≤ (l.length : Int) := by rw [List.length_map] at h; exact h
section
variable {α γ : Type} {P : Program} {n : Nat} {ρ : Fr} {w w0 : World} {B : Code} {p : List Bool} {k : Nat} {K : Fr → World → Prop} {S : List Nat} {es : List Ent} {d : Option Nat} {e : Enc α} {A A2 : Option Addr} {c c2 i b : Nat} {l m : List α}
theorem De (f : α → γ) {T TX E E2 : TypeId} {s x : Operand} (ho : Bl (Qi B p) k ρ = some (.call { callee := .builtin .append, args := #[s, x], argTypes := #[T, TX] }, d)) (hd : Jn n d = true)
    (hv : opv ρ s = .slice A (List.length (List.map f l)) c) (hx : opv ρ x = .slice A2 (List.length (List.map f m)) c2) (hT : P.underlying T = some (.slice E)) (hE : (P.info? E).map (fun i => (i.zero.map (·.cells.size), i.size, i.bytes)) = some (some e.sz, e.sz, b)) (hb : (Nat.ble 1 e.sz && Nat.ble b 65536) = true)
    (hs : SP S w0 w es) (hi : es[i]? = some (Vh E e A c l)) (hTX : P.underlying TX = some (.slice E2)) (hrd : RdT e w A2 c2 m) (hlen : (List.map f l).length + (List.map f m).length ≤ 2147483648)
    (next : ∀ (A' : Option Addr) (c' : Nat) (w' : World), SP S w0 w' (es.set i (Vh E e A' c' (l ++ m))) → K (Rh ρ d (.slice A' (List.length (List.map f (l ++ m))) c')) w') : Qx P n B p k K ρ w := by
  rw [List.length_map] at hv hx
  rw [List.length_map, List.length_map] at hlen
  refine Qx.append ho hd hv hx hT hE hb hs hi (Rj hTX hrd) hlen fun A' c' w' hs' => ?_
  have := next A' c' w' hs'
  rw [List.length_map] at this
  exact this
theorem Cj (f : α → γ) {T E : TypeId} {x : Operand} {lo hi : Option Operand} {i j : Int} (ho : Bl (Qi B p) k ρ = some (.slice T x lo hi none, d)) (hd : Jn n d = true)
    (hx : opv ρ x = .slice A (List.length (List.map f l)) c) (hT : P.underlying T = some (.slice E)) (hE : (P.info? E).map (·.size) = some e.sz) (hlo : Io ρ lo i 0) (hhi : Io ρ hi j (List.length (List.map f l))) (hc : l.length ≤ c)
    (h0 : 0 ≤ i) (h1 : i ≤ j) (h2 : j ≤ ((List.map f l).length : Int))
    (next : K (Rh ρ d (.slice (K3 e.sz c i.toNat A) (List.length (List.map f (List.drop i.toNat (List.take j.toNat l)))) (c - i.toNat))) w) : Qx P n B p k K ρ w := by
  rw [List.length_map] at hx hhi h2 next
  exact Ea ho hd hx hT hE hlo hhi hc h0 h1 h2 rfl next
end
end Go.Proofs.YtoflbpmbkmephaaGreatDoor
