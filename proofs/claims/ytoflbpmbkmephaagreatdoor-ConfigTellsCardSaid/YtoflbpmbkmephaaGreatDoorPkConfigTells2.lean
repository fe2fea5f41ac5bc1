import Derived.Test.YtoflbpmbkmephaaGreatDoorPkConfigTells1
set_option linter.unusedSimpArgs false
set_option linter.unusedVariables false
set_option linter.unusedSectionVars false
set_option maxRecDepth 100000
set_option maxHeartbeats 40000000
namespace Go.Proofs.YtoflbpmbkmephaaGreatDoor
open Go.RowKit
def Zk (a : Int → Option (Bool)) (b : Int) (c : Bool) : Option (Bool) :=
  (cond c (some (false)) (a (IntKind.wrap .i64 (b + 1))))
def V9 (a : Int → Option (Bool)) (b : Int) (c : UInt8) (d : Bool) : Option (Bool) :=
  (cond (!d) (cond (decide (((c).toNat : Int) < 97)) (cond (decide (((c).toNat : Int) < 48)) (Zk a b true) (Zk a b (decide (((c).toNat : Int) > 57)))) (cond (decide (((c).toNat : Int) > 122)) (cond (decide (((c).toNat : Int) < 48)) (Zk a b true) (Zk a b (decide (((c).toNat : Int) > 57)))) (Zk a b false))) (Zk a b false))
def J8 (b : Int → Option (Bool)) (a : Bool) : Option (Bool) :=
  (some (a))
def X9 (b : Int → Option (Bool)) (p1 : (List UInt8)) (a : Int) : Option (Bool) :=
  (cond (decide (a < ((List.length p1 : Nat) : Int))) ((idx p1 a).bind fun c => (cond (((c).toNat : Int) == 45) (cond (decide (a > 0)) (V9 b a c (decide (a < (IntKind.wrap .i64 (((List.length p1 : Nat) : Int) - 1))))) (V9 b a c false)) (V9 b a c false))) (cond (decide (((List.length p1 : Nat) : Int) ≥ 1)) (J8 b (decide (((List.length p1 : Nat) : Int) ≤ 20))) (J8 b false)))
def Vb (p1 : (List UInt8)) : Nat → Int → Option (Bool)
  | 0, _ => none
  | f + 1, a => X9  (Vb p1 f) p1 a
def Uq (p1 : (List UInt8)) : Option (Bool) :=
  (Vb p1 Zj 0)
set_option maxHeartbeats 40000000 in
theorem Vn  (p1 : Bs) (w0 : World)  (r : (Bool)) (H : Uq p1 = some r) :
  Calls Tryz.prog 75 #[(sv p1)] w0 (fun e W => e = .returned (bv r) ∧ SP [] w0 W []) := by
 unfold Uq at H
 refine Qt (n := 54) Tryz.func75 K K K ?_
 have m := Qw [] w0
 refine aC ?_
 refine iR 1 1 [(2, (bv false))] ?_
 refine iF ?_
 refine aQ ?_
 refine aC ?_
 refine iR 1 1 [(3, (iv 0))] ?_
 refine iF ?_
 refine Z3 K (id := 0) K ?_
 refine Gm K (fun f7 ρ w => ∃ (c : Int), Vq ρ [(0, (sv p1)), (3, (iv c))] ∧ SP [] w0 w [] ∧ Vb p1 f7 c = some r) (by rintro ρ w ⟨c, hk, hs, H⟩; cases H) ?_ Zj ?_
 ·rintro f7 ρ s ⟨c, hk, h, H⟩
  refine At.known _ hk ?_
  replace H := (show X9 (Vb p1 f7) p1 c = some r from H)
  unfold X9 at H
  refine aQ ?_
  refine aC ?_
  refine iR 4 4 [(6, (iv c)), (7, (sv p1)), (8, (iv (ln p1))), (9, (bv (decide (c < (ln p1)))))] ?_
  refine iF ?_
  refine cD 9 H (fun H => ?_) fun H => ?_
  ·refine At.skip K ?_
   refine aQ ?_
   refine Z3 K (id := 1) K ?_
   refine aC ?_
   refine iR 2 2 [(12, (sv p1)), (13, (iv c))] ?_
   obtain ⟨b, o, t, p, H⟩ := Qu H
   refine iS 3 ?_
   refine Xg (a := p1) (u := b) (T := 9) (x := (.tmp 12)) (ix := (.tmp 13)) (ki := .i64) (iz := c) (d := (some 14)) (k := 2) K rfl K K K o p ?_
   refine iR 1 4 [(4, (.int .u8 ((b).toNat : Int)))] ?_
   refine iF ?_
   refine aQ ?_
   refine At.join (fun ρ w => ∃ (f : Bool), Vq ρ [(0, (sv p1)), (3, (iv c)), (4, (.int .u8 ((b).toNat : Int))), (5, (bv f))] ∧ SP [] w0 w [] ∧ V9 (Vb p1 f7) c b f = some r) ?_ ?_
   ·refine aR ?_
    refine iR 3 3 [(15, (.int .u8 ((b).toNat : Int))), (16, (bv (((b).toNat : Int) == 45))), (17, (bv (((b).toNat : Int) == 45)))] ?_
    refine gD 17 H (fun H => ?_) fun H => ?_
    ·refine iR 4 7 [(18, (iv c)), (19, (bv (decide (c > 0)))), (20, (bv (decide (c > 0)))), (21, (bv (decide (c > 0))))] ?_
     refine gD 21 H (fun H => ?_) fun H => ?_
     ·refine iR 7 14 [(22, (iv c)), (23, (sv p1)), (24, (iv (ln p1))), (25, (iv (IntKind.wrap .i64 ((ln p1) - 1)))), (26, (bv (decide (c < (IntKind.wrap .i64 ((ln p1) - 1)))))), (27, (bv (decide (c < (IntKind.wrap .i64 ((ln p1) - 1)))))), (5, (bv (decide (c < (IntKind.wrap .i64 ((ln p1) - 1))))))] ?_
      refine iF ?_
      exact ⟨(decide (c < (IntKind.wrap .i64 ((ln p1) - 1)))), ⟨K, K, K, K, trivial⟩, SP.sel h [] rfl rfl, H⟩
     refine iR 7 14 (uN 22 5 [(27, (bv false)), (5, (bv false))]) ?_
     refine iF ?_
     exact ⟨false, ⟨K, K, K, K, trivial⟩, SP.sel h [] rfl rfl, H⟩
    refine iR 11 14 (uN 18 2 ((20, (bv false)) :: (21, (bv false)) :: (uN 22 5 [(27, (bv false)), (5, (bv false))]))) ?_
    refine iF ?_
    exact ⟨false, ⟨K, K, K, K, trivial⟩, SP.sel h [] rfl rfl, H⟩
   rintro ρ v ⟨f, hk, g, H⟩
   unfold V9 at H
   first | refine At.known _ hk ?_ | rw [← Qo hk]
   refine aQ ?_
   refine At.join (fun ρ w => ∃ (j : Bool), Vq ρ [(0, (sv p1)), (3, (iv c)), (45, (bv j))] ∧ SP [] w0 w [] ∧ Zk (Vb p1 f7) c j = some r) ?_ ?_
   ·refine aR ?_
    refine iR 3 3 [(28, (bv f)), (29, (bv (!f))), (30, (bv (!f)))] ?_
    refine gD 30 H (fun H => ?_) fun H => ?_
    ·refine iR 3 6 [(31, (.int .u8 ((b).toNat : Int))), (32, (bv (decide (((b).toNat : Int) < 97)))), (33, (bv (decide (((b).toNat : Int) < 97))))] ?_
     refine gD 33 H (fun H => ?_) fun H => ?_
     ·refine iR 8 14 [(34, undef), (35, undef), (36, (bv true)), (37, (bv true)), (38, (bv true)), (39, (.int .u8 ((b).toNat : Int))), (40, (bv (decide (((b).toNat : Int) < 48)))), (41, (bv (decide (((b).toNat : Int) < 48))))] ?_
      refine gD 41 H (fun H => ?_) fun H => ?_
      ·refine iR 4 18 [(42, undef), (43, undef), (44, (bv true)), (45, (bv true))] ?_
       refine iF ?_
       exact ⟨true, ⟨K, K, K, trivial⟩, SP.sel g [] rfl rfl, H⟩
      refine iR 4 18 [(42, (.int .u8 ((b).toNat : Int))), (43, (bv (decide (((b).toNat : Int) > 57)))), (44, (bv (decide (((b).toNat : Int) > 57)))), (45, (bv (decide (((b).toNat : Int) > 57))))] ?_
      refine iF ?_
      exact ⟨(decide (((b).toNat : Int) > 57)), ⟨K, K, K, trivial⟩, SP.sel g [] rfl rfl, H⟩
     refine iR 5 11 [(34, (.int .u8 ((b).toNat : Int))), (35, (bv (decide (((b).toNat : Int) > 122)))), (36, (bv (decide (((b).toNat : Int) > 122)))), (37, (bv (decide (((b).toNat : Int) > 122)))), (38, (bv (decide (((b).toNat : Int) > 122))))] ?_
     refine gD 38 H (fun H => ?_) fun H => ?_
     ·refine iR 3 14 [(39, (.int .u8 ((b).toNat : Int))), (40, (bv (decide (((b).toNat : Int) < 48)))), (41, (bv (decide (((b).toNat : Int) < 48))))] ?_
      refine gD 41 H (fun H => ?_) fun H => ?_
      ·refine iR 4 18 [(42, undef), (43, undef), (44, (bv true)), (45, (bv true))] ?_
       refine iF ?_
       exact ⟨true, ⟨K, K, K, trivial⟩, SP.sel g [] rfl rfl, H⟩
      refine iR 4 18 [(42, (.int .u8 ((b).toNat : Int))), (43, (bv (decide (((b).toNat : Int) > 57)))), (44, (bv (decide (((b).toNat : Int) > 57)))), (45, (bv (decide (((b).toNat : Int) > 57))))] ?_
      refine iF ?_
      exact ⟨(decide (((b).toNat : Int) > 57)), ⟨K, K, K, trivial⟩, SP.sel g [] rfl rfl, H⟩
     refine iR 7 18 (uN 39 6 [(45, (bv false))]) ?_
     refine iF ?_
     exact ⟨false, ⟨K, K, K, trivial⟩, SP.sel g [] rfl rfl, H⟩
    refine iR 15 18 (uN 31 6 ((37, (bv false)) :: (38, (bv false)) :: (uN 39 6 [(45, (bv false))]))) ?_
    refine iF ?_
    exact ⟨false, ⟨K, K, K, trivial⟩, SP.sel g [] rfl rfl, H⟩
   rintro ρ y ⟨j, hk, l, H⟩
   unfold Zk at H
   first | refine At.known _ hk ?_ | rw [← Qo hk]
   refine cD 45 H (fun H => ?_) fun H => ?_
   ·refine aC ?_
    refine iR 1 1 [(2, (bv false))] ?_
    refine iF ?_
    refine At.ret K ?_
    refine ⟨(bv false), K, ?_⟩
    obtain rfl := Qe H
    exact ⟨rfl, SP.sel l [] rfl rfl⟩
   refine At.skip K ?_
   refine aR ?_
   refine iR 3 3 [(10, (iv c)), (11, (iv (IntKind.wrap .i64 (c + 1)))), (3, (iv (IntKind.wrap .i64 (c + 1))))] ?_
   refine iF ?_
   exact ⟨(IntKind.wrap .i64 (c + 1)), ⟨K, K, trivial⟩, SP.sel l [] rfl rfl, H⟩
  refine At.exit K (id := 0) K ?_
  refine aQ ?_
  refine At.join (fun ρ w => ∃ (i : Bool), Vq ρ [(2, (bv i))] ∧ SP [] w0 w [] ∧ J8 (Vb p1 f7) i = some r) ?_ ?_
  ·refine aR ?_
   refine iR 4 4 [(46, (sv p1)), (47, (iv (ln p1))), (48, (bv (decide ((ln p1) ≥ 1)))), (49, (bv (decide ((ln p1) ≥ 1))))] ?_
   refine gD 49 H (fun H => ?_) fun H => ?_
   ·refine iR 5 9 [(50, (sv p1)), (51, (iv (ln p1))), (52, (bv (decide ((ln p1) ≤ 20)))), (53, (bv (decide ((ln p1) ≤ 20)))), (2, (bv (decide ((ln p1) ≤ 20))))] ?_
    refine iF ?_
    exact ⟨(decide ((ln p1) ≤ 20)), ⟨K, trivial⟩, SP.sel h [] rfl rfl, H⟩
   refine iR 5 9 (uN 50 3 [(53, (bv false)), (2, (bv false))]) ?_
   refine iF ?_
   exact ⟨false, ⟨K, trivial⟩, SP.sel h [] rfl rfl, H⟩
  rintro ρ z ⟨i, hk, q, H⟩
  unfold J8 at H
  first | refine At.known _ hk ?_ | rw [← Qo hk]
  refine At.ret K ?_
  refine ⟨(bv i), K, ?_⟩
  obtain rfl := Qe H
  exact ⟨rfl, SP.sel q [] rfl rfl⟩
 exact ⟨0, ⟨K, K, trivial⟩, SP.sel m [] rfl rfl, H⟩
def Jc (a : (List UInt8) → Int → Option ((List UInt8))) (b : Int) (c : (List UInt8)) : Option ((List UInt8)) :=
  (a c (IntKind.wrap .i64 (b - 1)))
def Ya (b : (List UInt8) → Int → Option ((List UInt8))) (p1 : Int) (c : (List UInt8)) (a : Int) : Option ((List UInt8)) :=
  (cond (decide (a ≥ 0)) ((chk (decide (0 ≤ (IntKind.wrap .i64 (8 * a))))).bind fun _ => ((X8 (IntKind.wrap .i64 (Int.tmod (Ip .u32 p1 (IntKind.wrap .i64 (8 * a))) 256))).bind fun e => ((app c e).bind fun d => (cond (decide (a > 0)) ((app d ([46] : List UInt8)).bind fun f => (Jc b a f)) (Jc b a d))))) (some (c)))
def Zl (p1 : Int) : Nat → (List UInt8) → Int → Option ((List UInt8))
  | 0, _, _ => none
  | f + 1, a, b => Ya  (Zl p1 f) p1 a b
def Nx (p1 : Int) : Option ((List UInt8)) :=
  (Zl p1 Zj ([] : List UInt8) 3)
set_option maxHeartbeats 40000000 in
theorem Eb  (p1 : Int) (w0 : World)  (r : (Bs)) (H : Nx p1 = some r) :
  Calls Tryz.prog 80 #[(.int .u32 p1)] w0 (fun e W => e = .returned (sv r) ∧ SP [] w0 W []) := by
 unfold Nx at H
 refine Qt (n := 23) Tryz.func80 K K K ?_
 have o := Qw [] w0
 refine aC ?_
 refine iR 1 1 [(2, (sv ([] : Bs)))] ?_
 refine iF ?_
 refine aC ?_
 refine iR 1 1 [(3, (sv ([] : Bs)))] ?_
 refine iF ?_
 refine aQ ?_
 refine aC ?_
 refine iR 1 1 [(4, (iv 3))] ?_
 refine iF ?_
 refine Z3 K (id := 0) K ?_
 refine Gm K (fun f3 ρ w => ∃ (f : Bs) (c : Int), Vq ρ [(0, (.int .u32 p1)), (3, (sv f)), (4, (iv c))] ∧ SP [] w0 w [] ∧ Zl p1 f3 f c = some r) (by rintro ρ w ⟨f, c, hk, hs, H⟩; cases H) ?_ Zj ?_
 ·rintro f3 ρ p ⟨f, c, hk, j, H⟩
  refine At.known _ hk ?_
  replace H := (show Ya (Zl p1 f3) p1 f c = some r from H)
  unfold Ya at H
  refine aQ ?_
  refine aC ?_
  refine iR 2 2 [(5, (iv c)), (6, (bv (decide (c ≥ 0))))] ?_
  refine iF ?_
  refine cD 6 H (fun H => ?_) fun H => ?_
  ·refine At.skip K ?_
   refine aQ ?_
   refine Z3 K (id := 1) K ?_
   refine aC ?_
   refine iR 4 4 [(9, (sv f)), (10, (.int .u32 p1)), (11, (iv c)), (12, (iv (IntKind.wrap .i64 (8 * c))))] ?_
   obtain ⟨hl47, H⟩ := Dh H
   refine iS 5 ?_
   refine Qx.shift (op := .shr) (T := 50) (T' := 3) (x := (.tmp 10)) (y := (.tmp 12)) (kx := .u32) (ky := .i64) (a := p1) (b := (IntKind.wrap .i64 (8 * c))) (v := (.int .u32 (Ip .u32 p1 (IntKind.wrap .i64 (8 * c))))) (d := (some 13)) (k := 4) K rfl K K (of_decide_eq_true hl47) rfl ?_
   refine iR 2 7 [(14, (.int .u32 (Int.tmod (Ip .u32 p1 (IntKind.wrap .i64 (8 * c))) 256))), (15, (iv (IntKind.wrap .i64 (Int.tmod (Ip .u32 p1 (IntKind.wrap .i64 (8 * c))) 256))))] ?_
   obtain ⟨i, q, H⟩ := Qd H
   refine iS 8 ?_
   refine cS j 110 #[(.tmp 15)] #[2] 16 Tryz.call110 (Nr  (IntKind.wrap .i64 (Int.tmod (Ip .u32 p1 (IntKind.wrap .i64 (8 * c))) 256)) p  i q) ?_
   intro t l
   obtain ⟨hl55, H⟩ := Zx H
   obtain ⟨g, hyl54⟩ : ∃ y, f ++ i = y := ⟨_, rfl⟩
   rw [hyl54] at H
   refine iS 9 ?_
   refine Yn (T := 9) (T' := 9) (x := (.tmp 9)) (y := (.tmp 16)) (a := f) (b := i) (d := (some 17)) (k := 8) K rfl K K hl55 ?_
   rw [hyl54]
   refine iR 1 10 [(3, (sv g))] ?_
   refine iF ?_
   refine aC ?_
   refine iR 2 2 [(18, (iv c)), (19, (bv (decide (c > 0))))] ?_
   refine iF ?_
   refine At.join (fun ρ w => ∃ (h : Bs), Vq ρ [(0, (.int .u32 p1)), (3, (sv h)), (4, (iv c))] ∧ SP [] w0 w [] ∧ Jc (Zl p1 f3) c h = some r) ?_ ?_
   ·refine cD 19 H (fun H => ?_) fun H => ?_
    ·refine aR ?_
     refine iR 1 1 [(20, (sv g))] ?_
     obtain ⟨hl64, H⟩ := Zx H
     obtain ⟨m, hyl63⟩ : ∃ y, g ++ ([46] : Bs) = y := ⟨_, rfl⟩
     rw [hyl63] at H
     refine iS 2 ?_
     refine Yn (T := 9) (T' := 9) (x := (.tmp 20)) (y := (.const (.string ⟨List.toArray ([46] : Bs)⟩))) (a := g) (b := ([46] : Bs)) (d := (some 21)) (k := 1) K rfl K K hl64 ?_
     rw [hyl63]
     refine iR 1 3 [(3, (sv m))] ?_
     refine iF ?_
     exact ⟨m, ⟨K, K, K, trivial⟩, SP.sel l [] rfl rfl, H⟩
    refine At.skip K ?_
    exact ⟨g, ⟨K, K, K, trivial⟩, SP.sel l [] rfl rfl, H⟩
   rintro ρ u ⟨h, hk, s, H⟩
   unfold Jc at H
   first | refine At.known _ hk ?_ | rw [← Qo hk]
   refine aR ?_
   refine iR 3 3 [(7, (iv c)), (8, (iv (IntKind.wrap .i64 (c - 1)))), (4, (iv (IntKind.wrap .i64 (c - 1))))] ?_
   refine iF ?_
   exact ⟨h, (IntKind.wrap .i64 (c - 1)), ⟨K, K, K, trivial⟩, SP.sel s [] rfl rfl, H⟩
  refine At.exit K (id := 0) K ?_
  refine aC ?_
  refine iR 2 2 [(22, (sv f)), (2, (sv f))] ?_
  refine iF ?_
  refine At.ret K ?_
  refine ⟨(sv f), K, ?_⟩
  obtain rfl := Qe H
  exact ⟨rfl, SP.sel j [] rfl rfl⟩
 exact ⟨([] : Bs), 3, ⟨K, K, K, trivial⟩, SP.sel o [] rfl rfl, H⟩
def Yo (b : Int → Option ((List UInt8) × (List UInt8) × Bool)) (p1 : (List UInt8)) (p2 : UInt8) (a : Int) : Option ((List UInt8) × (List UInt8) × Bool) :=
  (cond (decide (a < ((List.length p1 : Nat) : Int))) ((idx p1 a).bind fun c => (cond (((c).toNat : Int) == ((p2).toNat : Int)) ((sub p1 0 a).bind fun d => ((sub p1 (IntKind.wrap .i64 (a + 1)) ((List.length p1 : Nat) : Int)).bind fun e => (some (d, e, true)))) (b (IntKind.wrap .i64 (a + 1))))) (some (p1, ([] : List UInt8), false)))
def Yp (p1 : (List UInt8)) (p2 : UInt8) : Nat → Int → Option ((List UInt8) × (List UInt8) × Bool)
  | 0, _ => none
  | f + 1, a => Yo  (Yp p1 p2 f) p1 p2 a
def U9 (p1 : (List UInt8)) (p2 : UInt8) : Option ((List UInt8) × (List UInt8) × Bool) :=
  (Yp p1 p2 Zj 0)
set_option maxHeartbeats 40000000 in
theorem Dx  (p1 : Bs) (p2 : UInt8) (w0 : World)  (r : (Bs × Bs × Bool)) (H : U9 p1 p2 = some r) :
  Calls Tryz.prog 134 #[(sv p1), (.int .u8 ((p2).toNat : Int))] w0 (fun e W => e = .returned (.tuple #[(sv r.1), (sv r.2.1), (bv r.2.2)]) ∧ SP [] w0 W []) := by
 unfold U9 at H
 refine Qt (n := 27) Tryz.func134 K K K ?_
 have o := Qw [] w0
 refine aC ?_
 refine iR 3 3 [(4, (sv ([] : Bs))), (5, (sv ([] : Bs))), (6, (bv false))] ?_
 refine iF ?_
 refine aQ ?_
 refine aC ?_
 refine iR 1 1 [(7, (iv 0))] ?_
 refine iF ?_
 refine Z3 K (id := 0) K ?_
 refine Gm K (fun f1 ρ w => ∃ (b : Int), Vq ρ [(0, (sv p1)), (1, (.int .u8 ((p2).toNat : Int))), (7, (iv b))] ∧ SP [] w0 w [] ∧ Yp p1 p2 f1 b = some r) (by rintro ρ w ⟨b, hk, hs, H⟩; cases H) ?_ Zj ?_
 ·rintro f1 ρ a3 ⟨b, hk, f, H⟩
  refine At.known _ hk ?_
  replace H := (show Yo (Yp p1 p2 f1) p1 p2 b = some r from H)
  unfold Yo at H
  refine aQ ?_
  refine aC ?_
  refine iR 4 4 [(8, (iv b)), (9, (sv p1)), (10, (iv (ln p1))), (11, (bv (decide (b < (ln p1)))))] ?_
  refine iF ?_
  refine cD 11 H (fun H => ?_) fun H => ?_
  ·refine At.skip K ?_
   refine aQ ?_
   refine Z3 K (id := 1) K ?_
   refine aC ?_
   refine iR 2 2 [(14, (sv p1)), (15, (iv b))] ?_
   obtain ⟨m, p, a4, q, H⟩ := Qu H
   refine iS 3 ?_
   refine Xg (a := p1) (u := m) (T := 9) (x := (.tmp 14)) (ix := (.tmp 15)) (ki := .i64) (iz := b) (d := (some 16)) (k := 2) K rfl K K K p q ?_
   refine iR 2 5 [(17, (.int .u8 ((p2).toNat : Int))), (18, (bv (((m).toNat : Int) == ((p2).toNat : Int))))] ?_
   refine iF ?_
   refine cD 18 H (fun H => ?_) fun H => ?_
   ·refine aQ ?_
    obtain ⟨s, t, v, H⟩ := G9 H
    obtain ⟨g, hyl58⟩ : ∃ y, (List.drop (Int.toNat 0) (List.take (Int.toNat b) p1)) = y := ⟨_, rfl⟩
    rw [hyl58] at H
    obtain ⟨z, a0, a1, H⟩ := G9 H
    obtain ⟨h, hyl62⟩ : ∃ y, (List.drop (Int.toNat (IntKind.wrap .i64 (b + 1))) (List.take (Int.toNat (ln p1)) p1)) = y := ⟨_, rfl⟩
    rw [hyl62] at H
    refine aG [GEq (sv p1), GEq (iv b), GEq (sv g), GEq (sv p1), GEq (iv b), GEq (iv (IntKind.wrap .i64 (b + 1))), GEq (sv h), GEq (sv g), GEq (sv h), GEq (bv true)] [] (tG [] w0 [] [([], [])]) 10 0 ⟨trivial, SP.drew f⟩ ?_ ?_
    iterate 10 refine And.intro ?_ ?_
    exact trivial
    ·exact oU (hC (hS 0 (sv p1)) (h0))
    ·exact oU (hC (hS 7 (iv b)) (h0))
    ·refine oL 0 ?_
     rintro P W hs c ⟨-, a5⟩
     refine kM (kc (kA c 0 19) (kc (kA c 1 20) k0)) fun l => ?_
     refine Jp (a := p1) (T := 9) (x := (.tmp 19)) (lo := none) (hi := (some (.tmp 20))) (i := 0) (j := b) (d := (some 21)) (k := 2) K rfl K K rfl ⟨.i64, K⟩ s t v ?_
     rw [hyl58]
     exact eK l
    ·exact oU (hC (hS 0 (sv p1)) (h0))
    ·exact oU (hC (hS 7 (iv b)) (h0))
    ·exact oU (hC (hA 4 23) (h0))
    ·refine oL 0 ?_
     rintro P W hs c ⟨-, a6⟩
     refine kM (kc (kA c 3 22) (kc (kA c 5 24) k0)) fun l => ?_
     refine Jp (a := p1) (T := 9) (x := (.tmp 22)) (lo := (some (.tmp 24))) (hi := none) (i := (IntKind.wrap .i64 (b + 1))) (j := (ln p1)) (d := (some 25)) (k := 6) K rfl K K ⟨.i64, K⟩ rfl z a0 a1 ?_
     rw [hyl62]
     exact eK l
    ·exact oU (hC (hA 2 21) (h0))
    ·exact oU (hC (hA 6 25) (h0))
    ·exact Owe.run K [] trivial (bv true) (fun _ _ => K) rfl
    rintro P a7 hs hf ⟨-, a2⟩
    refine Qy _ (kc (kF hf 7 4) (kc (kF hf 8 5) (kc (kF hf 9 6) k0))) ?_
    refine At.ret K ?_
    refine ⟨(.tuple #[(sv g), (sv h), (bv true)]), K, ?_⟩
    obtain rfl := Qe H
    exact ⟨rfl, SP.sel a2 [] rfl rfl⟩
   refine At.skip K ?_
   refine aR ?_
   refine iR 3 3 [(12, (iv b)), (13, (iv (IntKind.wrap .i64 (b + 1)))), (7, (iv (IntKind.wrap .i64 (b + 1))))] ?_
   refine iF ?_
   exact ⟨(IntKind.wrap .i64 (b + 1)), ⟨K, K, K, trivial⟩, SP.sel f [] rfl rfl, H⟩
  refine At.exit K (id := 0) K ?_
  refine aC ?_
  refine iR 4 4 [(26, (sv p1)), (4, (sv p1)), (5, (sv ([] : Bs))), (6, (bv false))] ?_
  refine iF ?_
  refine At.ret K ?_
  refine ⟨(.tuple #[(sv p1), (sv ([] : Bs)), (bv false)]), K, ?_⟩
  obtain rfl := Qe H
  exact ⟨rfl, SP.sel f [] rfl rfl⟩
 exact ⟨0, ⟨K, K, K, trivial⟩, SP.sel o [] rfl rfl, H⟩
def Jd (a : (List UInt8) → Int → Int → Option (Int × Bool)) (b : Int) (c : Int) (d : ((List UInt8) × (List UInt8) × Bool)) (e : (Int × Bool)) (f : Bool) : Option (Int × Bool) :=
  (cond f (some (0, false)) (a d.2.1 (IntKind.wrap .u32 ((IntKind.wrap .u32 (256 * b)) + (IntKind.wrap .u32 e.1))) (IntKind.wrap .i64 (c + 1))))
def Ug (e : (List UInt8) → Int → Int → Option (Int × Bool)) (f : (List UInt8)) (d : Int) (a : Int) : Option (Int × Bool) :=
  (cond (decide (a < 4)) ((U9 f (46 : UInt8)).bind fun b => ((Y7 b.1).bind fun c => (cond (!c.2) (Jd e d a b c true) (cond (decide (c.1 > 255)) (Jd e d a b c true) (Jd e d a b c (!(b.2.2 == (decide (a < 3))))))))) (some (d, true)))
def Yb  : Nat → (List UInt8) → Int → Int → Option (Int × Bool)
  | 0, _, _, _ => none
  | f + 1, a, b, c => Ug  (Yb  f) a b c
def Ny (p1 : (List UInt8)) : Option (Int × Bool) :=
  (Yb  Zj p1 0 0)
set_option maxHeartbeats 40000000 in
theorem Ec  (p1 : Bs) (w0 : World)  (r : (Int × Bool)) (H : Ny p1 = some r) :
  Calls Tryz.prog 73 #[(sv p1)] w0 (fun e W => e = .returned (.tuple #[(.int .u32 r.1), (bv r.2)]) ∧ SP [] w0 W []) := by
 unfold Ny at H
 refine Qt (n := 45) Tryz.func73 K K K ?_
 have k := Qw [] w0
 refine aC ?_
 refine iR 2 2 [(2, (.int .u32 0)), (3, (bv false))] ?_
 refine iF ?_
 refine aC ?_
 refine iR 1 1 [(4, (.int .u32 0))] ?_
 refine iF ?_
 refine aQ ?_
 refine aC ?_
 refine iR 1 1 [(5, (iv 0))] ?_
 refine iF ?_
 refine Z3 K (id := 0) K ?_
 refine Gm K (fun f3 ρ w => ∃ (f : Bs) (d : Int) (c : Int), Vq ρ [(0, (sv f)), (4, (.int .u32 d)), (5, (iv c))] ∧ SP [] w0 w [] ∧ Yb  f3 f d c = some r) (by rintro ρ w ⟨f, d, c, hk, hs, H⟩; cases H) ?_ Zj ?_
 ·rintro f3 ρ l ⟨f, d, c, hk, i, H⟩
  refine At.known _ hk ?_
  replace H := (show Ug (Yb f3) f d c = some r from H)
  unfold Ug at H
  refine aQ ?_
  refine aC ?_
  refine iR 2 2 [(11, (iv c)), (12, (bv (decide (c < 4))))] ?_
  refine iF ?_
  refine cD 12 H (fun H => ?_) fun H => ?_
  ·refine At.skip K ?_
   refine aQ ?_
   refine Z3 K (id := 1) K ?_
   refine aC ?_
   refine iR 1 1 [(16, (sv f))] ?_
   obtain ⟨a, m, H⟩ := Qd H
   refine iS 2 ?_
   refine cS i 134 #[(.tmp 16), (.const (.int .u8 (46)))] #[9, 5] 17 Tryz.call134 (Dx  f (46 : UInt8) l  a m) ?_
   intro o p
   refine iR 7 9 [(15, (.tuple #[(sv a.1), (sv a.2.1), (bv a.2.2)])), (18, (sv a.1)), (19, (sv a.2.1)), (20, (bv a.2.2)), (6, (sv a.1)), (7, (sv a.2.1)), (8, (bv a.2.2))] ?_
   refine iF ?_
   refine aC ?_
   refine iR 1 1 [(22, (sv a.1))] ?_
   obtain ⟨b, q, H⟩ := Qd H
   refine iS 2 ?_
   refine cS p 71 #[(.tmp 22)] #[9] 23 Tryz.call71 (Up  a.1 o  b q) ?_
   intro s g
   refine iR 5 7 [(21, (.tuple #[(iv b.1), (bv b.2)])), (24, (iv b.1)), (25, (bv b.2)), (9, (iv b.1)), (10, (bv b.2))] ?_
   refine iF ?_
   refine aQ ?_
   refine aQ ?_
   refine At.join (fun ρ w => ∃ (h : Bool), Vq ρ [(4, (.int .u32 d)), (5, (iv c)), (7, (sv a.2.1)), (9, (iv b.1)), (37, (bv h))] ∧ SP [] w0 w [] ∧ Jd (Yb f3) d c a b h = some r) ?_ ?_
   ·refine aR ?_
    refine iR 3 3 [(26, (bv b.2)), (27, (bv (!b.2))), (28, (bv (!b.2)))] ?_
    refine gD 28 H (fun H => ?_) fun H => ?_
    ·refine iR 9 12 (uN 29 2 ((31, (bv true)) :: (32, (bv true)) :: (uN 33 4 [(37, (bv true))]))) ?_
     refine iF ?_
     exact ⟨true, ⟨K, K, K, K, K, trivial⟩, SP.sel g [] rfl rfl, H⟩
    refine iR 4 7 [(29, (iv b.1)), (30, (bv (decide (b.1 > 255)))), (31, (bv (decide (b.1 > 255)))), (32, (bv (decide (b.1 > 255))))] ?_
    refine gD 32 H (fun H => ?_) fun H => ?_
    ·refine iR 5 12 (uN 33 4 [(37, (bv true))]) ?_
     refine iF ?_
     exact ⟨true, ⟨K, K, K, K, K, trivial⟩, SP.sel g [] rfl rfl, H⟩
    refine iR 5 12 [(33, (bv a.2.2)), (34, (iv c)), (35, (bv (decide (c < 3)))), (36, (bv (!(a.2.2 == (decide (c < 3)))))), (37, (bv (!(a.2.2 == (decide (c < 3))))))] ?_
    refine iF ?_
    exact ⟨(!(a.2.2 == (decide (c < 3)))), ⟨K, K, K, K, K, trivial⟩, SP.sel g [] rfl rfl, H⟩
   rintro ρ t ⟨h, hk, j, H⟩
   unfold Jd at H
   first | refine At.known _ hk ?_ | rw [← Qo hk]
   refine cD 37 H (fun H => ?_) fun H => ?_
   ·refine aC ?_
    refine iR 2 2 [(2, (.int .u32 0)), (3, (bv false))] ?_
    refine iF ?_
    refine At.ret K ?_
    refine ⟨(.tuple #[(.int .u32 0), (bv false)]), K, ?_⟩
    obtain rfl := Qe H
    exact ⟨rfl, SP.sel j [] rfl rfl⟩
   refine At.skip K ?_
   refine aC ?_
   refine iR 6 6 [(38, (.int .u32 d)), (39, (.int .u32 (IntKind.wrap .u32 (256 * d)))), (40, (iv b.1)), (41, (.int .u32 (IntKind.wrap .u32 b.1))), (42, (.int .u32 (IntKind.wrap .u32 ((IntKind.wrap .u32 (256 * d)) + (IntKind.wrap .u32 b.1))))), (4, (.int .u32 (IntKind.wrap .u32 ((IntKind.wrap .u32 (256 * d)) + (IntKind.wrap .u32 b.1)))))] ?_
   refine iF ?_
   refine aR ?_
   refine iR 2 2 [(43, (sv a.2.1)), (0, (sv a.2.1))] ?_
   refine iF ?_
   refine aR ?_
   refine iR 3 3 [(13, (iv c)), (14, (iv (IntKind.wrap .i64 (c + 1)))), (5, (iv (IntKind.wrap .i64 (c + 1))))] ?_
   refine iF ?_
   exact ⟨a.2.1, (IntKind.wrap .u32 ((IntKind.wrap .u32 (256 * d)) + (IntKind.wrap .u32 b.1))), (IntKind.wrap .i64 (c + 1)), ⟨K, K, K, trivial⟩, SP.sel j [] rfl rfl, H⟩
  refine At.exit K (id := 0) K ?_
  refine aC ?_
  refine iR 3 3 [(44, (.int .u32 d)), (2, (.int .u32 d)), (3, (bv true))] ?_
  refine iF ?_
  refine At.ret K ?_
  refine ⟨(.tuple #[(.int .u32 d), (bv true)]), K, ?_⟩
  obtain rfl := Qe H
  exact ⟨rfl, SP.sel i [] rfl rfl⟩
 exact ⟨p1, 0, 0, ⟨K, K, K, trivial⟩, SP.sel k [] rfl rfl, H⟩
def Nz (p1 : Int) (p2 : Int) : Option (Int) :=
  (cond (p2 == 0) (some (0)) ((chk (decide (0 ≤ (IntKind.wrap .i64 (32 - p2))))).bind fun _ => ((chk (decide (0 ≤ (IntKind.wrap .i64 (32 - p2))))).bind fun _ => (some ((K4 .u32 (Ip .u32 p1 (IntKind.wrap .i64 (32 - p2))) (IntKind.wrap .i64 (32 - p2))))))))
set_option maxHeartbeats 40000000 in
theorem Ed  (p1 : Int) (p2 : Int) (w0 : World)  (r : (Int)) (H : Nz p1 p2 = some r) :
  Calls Tryz.prog 149 #[(.int .u32 p1), (iv p2)] w0 (fun e W => e = .returned (.int .u32 r) ∧ SP [] w0 W []) := by
 unfold Nz at H
 refine Qt (n := 14) Tryz.func149 K K K ?_
 have c := Qw [] w0
 refine aC ?_
 refine iR 1 1 [(4, (.int .u32 0))] ?_
 refine iF ?_
 refine aQ ?_
 refine aC ?_
 refine iR 2 2 [(5, (iv p2)), (6, (bv (p2 == 0)))] ?_
 refine iF ?_
 refine cD 6 H (fun H => ?_) fun H => ?_
 ·refine aC ?_
  refine iR 1 1 [(4, (.int .u32 0))] ?_
  refine iF ?_
  refine At.ret K ?_
  refine ⟨(.int .u32 0), K, ?_⟩
  obtain rfl := Qe H
  exact ⟨rfl, SP.sel c [] rfl rfl⟩
 refine At.skip K ?_
 refine aC ?_
 refine iR 3 3 [(7, (.int .u32 p1)), (8, (iv p2)), (9, (iv (IntKind.wrap .i64 (32 - p2))))] ?_
 obtain ⟨hl4, H⟩ := Dh H
 refine iS 4 ?_
 refine Qx.shift (op := .shr) (T := 50) (T' := 3) (x := (.tmp 7)) (y := (.tmp 9)) (kx := .u32) (ky := .i64) (a := p1) (b := (IntKind.wrap .i64 (32 - p2))) (v := (.int .u32 (Ip .u32 p1 (IntKind.wrap .i64 (32 - p2))))) (d := (some 10)) (k := 3) K rfl K K (of_decide_eq_true hl4) rfl ?_
 refine iR 2 6 [(11, (iv p2)), (12, (iv (IntKind.wrap .i64 (32 - p2))))] ?_
 obtain ⟨hl5, H⟩ := Dh H
 refine iS 7 ?_
 refine Qx.shift (op := .shl) (T := 50) (T' := 3) (x := (.tmp 10)) (y := (.tmp 12)) (kx := .u32) (ky := .i64) (a := (Ip .u32 p1 (IntKind.wrap .i64 (32 - p2)))) (b := (IntKind.wrap .i64 (32 - p2))) (v := (.int .u32 (K4 .u32 (Ip .u32 p1 (IntKind.wrap .i64 (32 - p2))) (IntKind.wrap .i64 (32 - p2))))) (d := (some 13)) (k := 6) K rfl K K (of_decide_eq_true hl5) rfl ?_
 refine iR 1 8 [(4, (.int .u32 (K4 .u32 (Ip .u32 p1 (IntKind.wrap .i64 (32 - p2))) (IntKind.wrap .i64 (32 - p2)))))] ?_
 refine iF ?_
 refine At.ret K ?_
 refine ⟨(.int .u32 (K4 .u32 (Ip .u32 p1 (IntKind.wrap .i64 (32 - p2))) (IntKind.wrap .i64 (32 - p2)))), K, ?_⟩
 obtain rfl := Qe H
 exact ⟨rfl, SP.sel c [] rfl rfl⟩
def Yx (a : Bool) : Option (Bool) :=
  (some (a))
def Y8 (b : Int) (a : Int) : Option (Bool) :=
  (cond (decide (a ≥ 0)) (cond (decide (a ≤ 32)) ((Nz b a).bind fun c => (Yx (c == b))) (Yx false)) (Yx false))
set_option maxHeartbeats 40000000 in
theorem Gg  (d : Int) (a : Int) (w0 : World)  (r : (Bool)) (H : Y8 d a = some r) :
  Calls Tryz.prog 104 #[(.agg #[(.int .u32 d), (iv a)])] w0 (fun e W => e = .returned (bv r) ∧ SP [] w0 W []) := by
 unfold Y8 at H
 refine Qt (n := 21) Tryz.func104 K K K ?_
 have k := Qw [] w0
 refine aC ?_
 refine iS 1 ?_
 refine zB 102 (.tmp 0) (.agg #[(.int .u32 d), (iv a)]) 1 k ?_
 intro g3 w4 j
 refine iR 1 2 [(2, (bv false))] ?_
 refine iF ?_
 refine aQ ?_
 refine At.join (fun ρ w => ∃ (i : Bool), Vq ρ [(2, (bv i))] ∧ SP [] w0 w [] ∧ Yx i = some r) ?_ ?_
 ·rcases Bool.eq_false_or_eq_true (decide (a ≥ 0)) with g | g
  ·have H := ct H g
   rcases Bool.eq_false_or_eq_true (decide (a ≤ 32)) with f | f
   ·have H := ct H f
    obtain ⟨h, l, H⟩ := Qd H
    refine aG [GEq (pt g3 1), GEq (iv a), GEq (bv (decide (a ≥ 0))), GEq (bv (decide (a ≥ 0))), GEq (pt g3 1), GEq (iv a), GEq (bv (decide (a ≤ 32))), GEq (bv (decide (a ≤ 32))), GEq (bv (decide (a ≤ 32))), GEq (pt g3 0), GEq (.int .u32 d), GEq (pt g3 1), GEq (iv a), GEq (.int .u32 h), GEq (pt g3 0), GEq (.int .u32 d), GEq (bv (h == d)), GEq (bv (h == d)), GEq (bv (h == d))] [13] (tG [] w0 [Qs g3 102 #[(.int .u32 d), (iv a)]] [([], []), ([13], [(.int .u32 h)])]) 19 1 ⟨trivial, SP.drew j⟩ ?_ ?_
    iterate 19 refine And.intro ?_ ?_
    exact trivial
    ·exact oU (hC (hS 1 (pt g3 0)) (h0))
    ·refine oL 0 ?_
     rintro P W hs b ⟨-, m⟩
     refine kM (kc (kA b 0 3) k0) fun c => ?_
     refine sL 3 3 g3 1 0 (iv a) 4 m rfl ?_
     exact eK c
    ·exact oU (hC (hA 1 4) (h0))
    ·exact oU (hC (hA 2 5) (h0))
    ·exact oU (hC (hS 1 (pt g3 0)) (hC (hB 3 6 g) (h0)))
    ·refine oL 0 ?_
     rintro P W hs b ⟨-, o⟩
     refine kM (kc (kA b 4 7) (kc (eb (kA b 3 6) g) k0)) fun c => ?_
     refine sL 3 7 g3 1 0 (iv a) 8 o rfl ?_
     exact eK c
    ·exact oU (hC (hA 5 8) (hC (hB 3 6 g) (h0)))
    ·exact oU (hC (hB 3 6 g) (hC (hA 6 9) (h0)))
    ·exact oU (hC (hA 7 10) (h0))
    ·exact oU (hC (hS 1 (pt g3 0)) (hC (hB 8 11 f) (h0)))
    ·refine oL 0 ?_
     rintro P W hs b ⟨-, p⟩
     refine kM (kc (kA b 9 12) (kc (eb (kA b 8 11) f) k0)) fun c => ?_
     refine sL 50 12 g3 0 0 (.int .u32 d) 13 p rfl ?_
     exact eK c
    ·exact oU (hC (hS 1 (pt g3 0)) (hC (hB 8 11 f) (h0)))
    ·refine oL 0 ?_
     rintro P W hs b ⟨-, q⟩
     refine kM (kc (kA b 11 14) (kc (eb (kA b 8 11) f) k0)) fun c => ?_
     refine sL 3 14 g3 1 0 (iv a) 15 q rfl ?_
     exact eK c
    ·refine oH 0 1 ?_
     rintro P W hs b ⟨-, s⟩
     refine kM (kc (kA b 10 13) (kc (kA b 12 15) (kc (eb (kA b 8 11) f) k0))) fun c => ?_
     refine cS s 149 #[(.tmp 13), (.tmp 15)] #[50, 3] 16 Tryz.call149 (Ed  d a W  h l) ?_
     intro a4 t
     refine ⟨_, Qa c, rfl, ?_⟩
     exact (ai (ai rfl (trivial)) t)
    ·exact oU (hC (hS 1 (pt g3 0)) (hC (hB 8 11 f) (h0)))
    ·refine Owe.light K [0, 1] K (Qc ?_ (Qc ?_ Qq))
     ·rintro P W hs b ⟨-, u⟩
      refine kM (kc (kA b 14 17) (kc (eb (kA b 8 11) f) k0)) fun c => ?_
      refine sL 50 17 g3 0 0 (.int .u32 d) 18 u rfl ?_
      exact eK c
     rintro P W hs b ⟨⟨a5, -⟩, v⟩
     refine kM (kc (kA b 14 17) (kc (eb (kA b 8 11) f) k0)) fun c => ?_
     refine sL 50 17 g3 0 0 (.int .u32 d) 18 v rfl ?_
     exact eK c
    ·exact oU (hC (hA 13 16) (hC (hA 15 18) (hC (hB 8 11 f) (h0))))
    ·exact oU (hC (hB 8 11 f) (hC (hA 16 19) (h0)))
    ·exact oU (hC (hA 17 20) (h0))
    rintro P a6 hs hf ⟨⟨a7, -⟩, x⟩
    refine Qy _ (kc (kF hf 18 2) k0) ?_
    exact ⟨(h == d), ⟨K, trivial⟩, SP.sel x [] rfl rfl, H⟩
   have H := cf H f
   refine aG [GEq (pt g3 1), GEq (iv a), GEq (bv (decide (a ≥ 0))), GEq (bv (decide (a ≥ 0))), GEq (pt g3 1), GEq (iv a), GEq (bv (decide (a ≤ 32))), GEq (bv (decide (a ≤ 32))), GEq (bv (decide (a ≤ 32))), GEq undef, GEq undef, GEq undef, GEq undef, GEq undef, GEq undef, GEq undef, GEq undef, GEq (bv false), GEq (bv false)] [] (tG [] w0 [Qs g3 102 #[(.int .u32 d), (iv a)]] [([], [])]) 19 0 ⟨trivial, SP.drew j⟩ ?_ ?_
   iterate 19 refine And.intro ?_ ?_
   exact trivial
   ·exact oU (hC (hS 1 (pt g3 0)) (h0))
   ·refine oL 0 ?_
    rintro P W hs b ⟨-, y⟩
    refine kM (kc (kA b 0 3) k0) fun c => ?_
    refine sL 3 3 g3 1 0 (iv a) 4 y rfl ?_
    exact eK c
   ·exact oU (hC (hA 1 4) (h0))
   ·exact oU (hC (hA 2 5) (h0))
   ·exact oU (hC (hS 1 (pt g3 0)) (hC (hB 3 6 g) (h0)))
   ·refine oL 0 ?_
    rintro P W hs b ⟨-, z⟩
    refine kM (kc (kA b 4 7) (kc (eb (kA b 3 6) g) k0)) fun c => ?_
    refine sL 3 7 g3 1 0 (iv a) 8 z rfl ?_
    exact eK c
   ·exact oU (hC (hA 5 8) (hC (hB 3 6 g) (h0)))
   ·exact oU (hC (hB 3 6 g) (hC (hA 6 9) (h0)))
   ·exact oU (hC (hA 7 10) (h0))
   iterate 8 exact oY (hC (hB 8 11 f) (h0))
   ·exact oU (hC (hB 8 11 f) (hC (hA 16 19) (h0)))
   ·exact oU (hC (hA 17 20) (h0))
   rintro P a8 hs hf ⟨-, a0⟩
   refine Qy _ (kc (kF hf 18 2) k0) ?_
   exact ⟨false, ⟨K, trivial⟩, SP.sel a0 [] rfl rfl, H⟩
  have H := cf H g
  refine aG [GEq (pt g3 1), GEq (iv a), GEq (bv (decide (a ≥ 0))), GEq (bv (decide (a ≥ 0))), GEq undef, GEq undef, GEq undef, GEq (bv false), GEq (bv false), GEq undef, GEq undef, GEq undef, GEq undef, GEq undef, GEq undef, GEq undef, GEq undef, GEq (bv false), GEq (bv false)] [] (tG [] w0 [Qs g3 102 #[(.int .u32 d), (iv a)]] [([], [])]) 19 0 ⟨trivial, SP.drew j⟩ ?_ ?_
  iterate 19 refine And.intro ?_ ?_
  exact trivial
  ·exact oU (hC (hS 1 (pt g3 0)) (h0))
  ·refine oL 0 ?_
   rintro P W hs b ⟨-, a1⟩
   refine kM (kc (kA b 0 3) k0) fun c => ?_
   refine sL 3 3 g3 1 0 (iv a) 4 a1 rfl ?_
   exact eK c
  ·exact oU (hC (hA 1 4) (h0))
  ·exact oU (hC (hA 2 5) (h0))
  iterate 3 exact oY (hC (hB 3 6 g) (h0))
  ·exact oU (hC (hB 3 6 g) (hC (hA 6 9) (h0)))
  ·exact oU (hC (hA 7 10) (h0))
  iterate 8 exact oY (hC (hA 8 11) (h0))
  ·exact oU (hC (hA 8 11) (hC (hA 16 19) (h0)))
  ·exact oU (hC (hA 17 20) (h0))
  rintro P a9 hs hf ⟨-, a2⟩
  refine Qy _ (kc (kF hf 18 2) k0) ?_
  exact ⟨false, ⟨K, trivial⟩, SP.sel a2 [] rfl rfl, H⟩
 rintro ρ b0 ⟨i, hk, a3, H⟩
 unfold Yx at H
 first | refine At.known _ hk ?_ | rw [← Qo hk]
 refine At.ret K ?_
 refine ⟨(bv i), K, ?_⟩
 obtain rfl := Qe H
 exact ⟨rfl, SP.sel a3 [] rfl rfl⟩
def Nd (a : Int) (b : Int) : Option ((List UInt8)) :=
  ((Y8 a b).bind fun z7 => (cond (!z7) (some (([] : List UInt8))) ((Nx a).bind fun c => ((app c ([47] : List UInt8)).bind fun d => ((X8 b).bind fun e => ((app d e).bind fun f => (some (f))))))))
set_option maxHeartbeats 40000000 in
theorem Cu  (i : Int) (g : Int) (w0 : World)  (r : (Bs)) (H : Nd i g = some r) :
  Calls Tryz.prog 65 #[(.agg #[(.int .u32 i), (iv g)])] w0 (fun e W => e = .returned (sv r) ∧ SP [] w0 W []) := by
 unfold Nd at H
 refine Qt (n := 14) Tryz.func65 K K K ?_
 have s := Qw [] w0
 refine aC ?_
 refine iS 1 ?_
 refine zB 102 (.tmp 0) (.agg #[(.int .u32 i), (iv g)]) 1 s ?_
 intro g3 w4 p
 refine iR 1 2 [(2, (sv ([] : Bs)))] ?_
 refine iF ?_
 refine aQ ?_
 refine aC ?_
 refine jL 1 102 1 g3 0 0 (.agg #[(.int .u32 i), (iv g)]) 3 p rfl ?_
 obtain ⟨z7, t, H⟩ := Qd H
 refine iS 2 ?_
 refine cS p 104 #[(.tmp 3)] #[102] 4 Tryz.call104 (Gg  i g w4  z7 t) ?_
 intro w9 q
 refine iR 1 3 [(5, (bv (!z7)))] ?_
 refine iF ?_
 refine cD 5 H (fun H => ?_) fun H => ?_
 ·refine aC ?_
  refine iR 1 1 [(2, (sv ([] : Bs)))] ?_
  refine iF ?_
  refine At.ret K ?_
  refine ⟨(sv ([] : Bs)), K, ?_⟩
  obtain rfl := Qe H
  exact ⟨rfl, SP.sel q [] rfl rfl⟩
 refine At.skip K ?_
 refine aQ ?_
 obtain ⟨j, u, H⟩ := Qd H
 obtain ⟨hl21, H⟩ := Zx H
 obtain ⟨m, hyl20⟩ : ∃ y, j ++ ([47] : Bs) = y := ⟨_, rfl⟩
 rw [hyl20] at H
 obtain ⟨l, v, H⟩ := Qd H
 obtain ⟨hl29, H⟩ := Zx H
 obtain ⟨o, hyl28⟩ : ∃ y, m ++ l = y := ⟨_, rfl⟩
 rw [hyl28] at H
 refine aG [GEq (pt g3 0), GEq (.int .u32 i), GEq (sv j), GEq (sv m), GEq (pt g3 1), GEq (iv g), GEq (sv l), GEq (sv o), GEq (sv o)] [2, 6] (tG [] w0 [Qs g3 102 #[(.int .u32 i), (iv g)]] [([], []), ([2], [(sv j)]), ([2, 6], [(sv j), (sv l)])]) 9 2 ⟨trivial, SP.drew q⟩ ?_ ?_
 iterate 9 refine And.intro ?_ ?_
 exact trivial
 ·exact oU (hC (hS 1 (pt g3 0)) (h0))
 ·refine oL 0 ?_
  rintro P W hs f ⟨-, w⟩
  refine kM (kc (kA f 0 6) k0) fun c => ?_
  refine sL 50 6 g3 0 0 (.int .u32 i) 7 w rfl ?_
  exact eK c
 ·refine oH 0 1 ?_
  rintro P W hs f ⟨-, z⟩
  refine kM (kc (kA f 1 7) k0) fun c => ?_
  refine cS z 80 #[(.tmp 7)] #[50] 8 Tryz.call80 (Eb  i W  j u) ?_
  intro b0 a0
  refine ⟨_, Qa c, rfl, ?_⟩
  exact (ai (ai rfl (trivial)) a0)
 ·refine Owe.light K [1, 2] K (Qc ?_ (Qc ?_ Qq))
  ·rintro P W hs f ⟨⟨a1, -⟩, b1⟩
   refine kN [(8, (sv j))] ⟨(Qr (h := 2) K).symm.trans a1, trivial⟩ fun c => ?_
   refine Yn (T := 9) (T' := 9) (x := (.tmp 8)) (y := (.const (.string ⟨List.toArray ([47] : Bs)⟩))) (a := j) (b := ([47] : Bs)) (d := (some 9)) (k := 3) K rfl K K hl21 ?_
   rw [hyl20]
   exact eK c
  rintro P W hs f ⟨⟨a2, b2, -⟩, b3⟩
  refine kN [(8, (sv j))] ⟨(Qr (h := 2) K).symm.trans a2, trivial⟩ fun c => ?_
  refine Yn (T := 9) (T' := 9) (x := (.tmp 8)) (y := (.const (.string ⟨List.toArray ([47] : Bs)⟩))) (a := j) (b := ([47] : Bs)) (d := (some 9)) (k := 3) K rfl K K hl21 ?_
  rw [hyl20]
  exact eK c
 ·exact oU (hC (hS 1 (pt g3 0)) (h0))
 ·refine Owe.light K [0, 1] K (Qc ?_ (Qc ?_ Qq))
  ·rintro P W hs f ⟨-, a3⟩
   refine kM (kc (kA f 4 10) k0) fun c => ?_
   refine sL 3 10 g3 1 0 (iv g) 11 a3 rfl ?_
   exact eK c
  rintro P W hs f ⟨⟨b4, -⟩, a4⟩
  refine kM (kc (kA f 4 10) k0) fun c => ?_
  refine sL 3 10 g3 1 0 (iv g) 11 a4 rfl ?_
  exact eK c
 ·refine oH 1 2 ?_
  rintro P W hs f ⟨⟨a5, -⟩, a6⟩
  refine kM (kc (kA f 5 11) k0) fun c => ?_
  refine cS a6 110 #[(.tmp 11)] #[2] 12 Tryz.call110 (Nr  g W  l v) ?_
  intro b5 a7
  refine ⟨_, Qa c, rfl, ?_⟩
  exact (ai (ai a5 (ai rfl (trivial))) a7)
 ·refine oL 2 ?_
  rintro P W hs f ⟨⟨b6, a8, -⟩, b7⟩
  refine kN [(9, (sv m)), (12, (sv l))] ⟨f 3 9 K, (Qr (h := 6) K).symm.trans a8, trivial⟩ fun c => ?_
  refine Yn (T := 9) (T' := 9) (x := (.tmp 9)) (y := (.tmp 12)) (a := m) (b := l) (d := (some 13)) (k := 7) K rfl K K hl29 ?_
  rw [hyl28]
  exact eK c
 ·exact oU (hC (hA 7 13) (h0))
 rintro P b8 hs hf ⟨⟨b9, c0, -⟩, a9⟩
 refine Qy _ (kc (kF hf 8 2) k0) ?_
 refine At.ret K ?_
 refine ⟨(sv o), K, ?_⟩
 obtain rfl := Qe H
 exact ⟨rfl, SP.sel a9 [] rfl rfl⟩
def Xf (a : (Int × Bool)) (b : (Int × Bool)) (c : Bool) : Option (Int × Int × Bool) :=
  (cond c (some (0, 0, false)) (some (a.1, b.1, true)))
def Gh (p1 : (List UInt8)) : Option (Int × Int × Bool) :=
  ((U9 p1 (47 : UInt8)).bind fun z6 => ((Ny z6.1).bind fun b => ((Y7 z6.2.1).bind fun a => (cond (!z6.2.2) (Xf b a true) (cond (!b.2) (Xf b a true) (cond (!a.2) (Xf b a true) (cond (decide (a.1 > 32)) (Xf b a true) ((Y8 b.1 a.1).bind fun c => (Xf b a (!c))))))))))
set_option maxHeartbeats 40000000 in
theorem E0  (p1 : Bs) (w0 : World)  (r : (Int × Int × Bool)) (H : Gh p1 = some r) :
  Calls Tryz.prog 93 #[(sv p1)] w0 (fun e W => e = .returned (.tuple #[(.agg #[(.int .u32 r.1), (iv r.2.1)]), (bv r.2.2)]) ∧ SP [] w0 W []) := by
 unfold Gh at H
 refine Qt (n := 52) Tryz.func93 K K K ?_
 have m := Qw [] w0
 refine aC ?_
 refine iS 1 ?_
 refine zA 102 (.agg #[(.int .u32 0), (iv 0)]) 2 m ?_
 intro g2 w3 o
 refine iR 1 2 [(3, (bv false))] ?_
 refine iF ?_
 refine aC ?_
 refine iR 1 1 [(12, (sv p1))] ?_
 obtain ⟨z6, p, H⟩ := Qd H
 refine iS 2 ?_
 refine cS o 134 #[(.tmp 12), (.const (.int .u8 (47)))] #[9, 5] 13 Tryz.call134 (Dx  p1 (47 : UInt8) w3  z6 p) ?_
 intro w8 q
 refine iR 7 9 [(11, (.tuple #[(sv z6.1), (sv z6.2.1), (bv z6.2.2)])), (14, (sv z6.1)), (15, (sv z6.2.1)), (16, (bv z6.2.2)), (4, (sv z6.1)), (5, (sv z6.2.1)), (6, (bv z6.2.2))] ?_
 refine iF ?_
 refine aC ?_
 refine iR 1 1 [(18, (sv z6.1))] ?_
 obtain ⟨c, s, H⟩ := Qd H
 refine iS 2 ?_
 refine cS q 73 #[(.tmp 18)] #[9] 19 Tryz.call73 (Ec  z6.1 w8  c s) ?_
 intro u v
 refine iR 5 7 [(17, (.tuple #[(.int .u32 c.1), (bv c.2)])), (20, (.int .u32 c.1)), (21, (bv c.2)), (7, (.int .u32 c.1)), (8, (bv c.2))] ?_
 refine iF ?_
 refine aC ?_
 refine iR 1 1 [(23, (sv z6.2.1))] ?_
 obtain ⟨b, x, H⟩ := Qd H
 refine iS 2 ?_
 refine cS v 71 #[(.tmp 23)] #[9] 24 Tryz.call71 (Up  z6.2.1 u  b x) ?_
 intro y d
 refine iR 5 7 [(22, (.tuple #[(iv b.1), (bv b.2)])), (25, (iv b.1)), (26, (bv b.2)), (9, (iv b.1)), (10, (bv b.2))] ?_
 refine iF ?_
 refine aQ ?_
 refine aQ ?_
 refine At.join (fun ρ w => ∃ (h : Bool), Vq ρ [(2, (pt g2 0)), (7, (.int .u32 c.1)), (9, (iv b.1)), (47, (bv h))] ∧ SP [] w0 w [Qs g2 102 #[(.int .u32 0), (iv 0)]] ∧ Xf c b h = some r) ?_ ?_
 ·refine aR ?_
  refine iR 3 3 [(27, (bv z6.2.2)), (28, (bv (!z6.2.2))), (29, (bv (!z6.2.2)))] ?_
  refine gD 29 H (fun H => ?_) fun H => ?_
  ·refine iR 18 21 (uN 30 2 ((32, (bv true)) :: (33, (bv true)) :: (uN 34 2 ((36, (bv true)) :: (37, (bv true)) :: (uN 38 2 ((40, (bv true)) :: (41, (bv true)) :: (uN 42 5 [(47, (bv true))]))))))) ?_
   refine iF ?_
   exact ⟨true, ⟨K, K, K, K, trivial⟩, SP.sel d [0] rfl rfl, H⟩
  refine iR 4 7 [(30, (bv c.2)), (31, (bv (!c.2))), (32, (bv (!c.2))), (33, (bv (!c.2)))] ?_
  refine gD 33 H (fun H => ?_) fun H => ?_
  ·refine iR 14 21 (uN 34 2 ((36, (bv true)) :: (37, (bv true)) :: (uN 38 2 ((40, (bv true)) :: (41, (bv true)) :: (uN 42 5 [(47, (bv true))]))))) ?_
   refine iF ?_
   exact ⟨true, ⟨K, K, K, K, trivial⟩, SP.sel d [0] rfl rfl, H⟩
  refine iR 4 11 [(34, (bv b.2)), (35, (bv (!b.2))), (36, (bv (!b.2))), (37, (bv (!b.2)))] ?_
  refine gD 37 H (fun H => ?_) fun H => ?_
  ·refine iR 10 21 (uN 38 2 ((40, (bv true)) :: (41, (bv true)) :: (uN 42 5 [(47, (bv true))]))) ?_
   refine iF ?_
   exact ⟨true, ⟨K, K, K, K, trivial⟩, SP.sel d [0] rfl rfl, H⟩
  refine iR 4 15 [(38, (iv b.1)), (39, (bv (decide (b.1 > 32)))), (40, (bv (decide (b.1 > 32)))), (41, (bv (decide (b.1 > 32))))] ?_
  refine gD 41 H (fun H => ?_) fun H => ?_
  ·refine iR 6 21 (uN 42 5 [(47, (bv true))]) ?_
   refine iF ?_
   exact ⟨true, ⟨K, K, K, K, trivial⟩, SP.sel d [0] rfl rfl, H⟩
  refine iR 3 18 [(42, (.int .u32 c.1)), (43, (iv b.1)), (44, (.agg #[(.int .u32 c.1), (iv b.1)]))] ?_
  obtain ⟨f, z, H⟩ := Qd H
  refine iS 19 ?_
  refine cS d 104 #[(.tmp 44)] #[102] 45 Tryz.call104 (Gg  c.1 b.1 y  f z) ?_
  intro a1 a0
  refine iR 2 21 [(46, (bv (!f))), (47, (bv (!f)))] ?_
  refine iF ?_
  exact ⟨(!f), ⟨K, K, K, K, trivial⟩, SP.sel a0 [0] rfl rfl, H⟩
 rintro ρ a2 ⟨h, hk, j, H⟩
 unfold Xf at H
 first | refine At.known _ hk ?_ | rw [← Qo hk]
 refine cD 47 H (fun H => ?_) fun H => ?_
 ·refine aC ?_
  refine iR 1 1 [(48, (.agg #[(.int .u32 0), (iv 0)]))] ?_
  refine iS 2 ?_
  refine zT 102 (.tmp 2) (.tmp 48) g2 0 0 (.agg #[(.int .u32 0), (iv 0)]) #[(.int .u32 0), (iv 0)] none j ?_
  intro a3 k
  refine iR 1 3 [(3, (bv false))] ?_
  refine iF ?_
  refine At.ret K ?_
  refine ⟨(.tuple #[(.agg #[(.int .u32 0), (iv 0)]), (bv false)]), Cl K (Uf (a := 2) (t := 102) (g := g2) (off := 0) K (SP.get k (i := 0) rfl) K) (Nv (t := 3) K), ?_⟩
  obtain rfl := Qe H
  exact ⟨rfl, SP.sel k [] rfl rfl⟩
 refine At.skip K ?_
 refine aC ?_
 refine iR 3 3 [(49, (.int .u32 c.1)), (50, (iv b.1)), (51, (.agg #[(.int .u32 c.1), (iv b.1)]))] ?_
 refine iS 4 ?_
 refine zT 102 (.tmp 2) (.tmp 51) g2 0 0 (.agg #[(.int .u32 c.1), (iv b.1)]) #[(.int .u32 c.1), (iv b.1)] none j ?_
 intro a4 l
 refine iR 1 5 [(3, (bv true))] ?_
 refine iF ?_
 refine At.ret K ?_
 refine ⟨(.tuple #[(.agg #[(.int .u32 c.1), (iv b.1)]), (bv true)]), Cl K (Uf (a := 2) (t := 102) (g := g2) (off := 0) K (SP.get l (i := 0) rfl) K) (Nv (t := 3) K), ?_⟩
 obtain rfl := Qe H
 exact ⟨rfl, SP.sel l [] rfl rfl⟩
end Go.Proofs.YtoflbpmbkmephaaGreatDoor
namespace Go.Proofs.YtoflbpmbkmephaaGreatDoor
theorem J5 {x : Int} (h : -9223372036854775808 ≤ x ∧ x < 9223372036854775808) : IntKind.wrap .i64 x = x := IntWalk.i64_in _ (by omega)
theorem wrap8 (x : Int) : IntKind.wrap .u8 x = x % 256 := by
  unfold IntKind.wrap
  simp only [IntKind.bits, IntKind.signed]
  simp
theorem toU8_nat (n : Nat) : Ex (n : Int) = UInt8.ofNat n := by simp [Ex]
theorem toU8_wrap (n : Nat) : Ex (IntKind.wrap .u8 (n : Int)) = UInt8.ofNat n := by
  rw [wrap8, show ((n : Int) % 256) = ((n % 256 : Nat) : Int) by omega, toU8_nat]
  apply UInt8.toNat_inj.1
  simp [UInt8.toNat_ofNat']
theorem Pp {x : Int} (h : 0 ≤ x ∧ x < 256) : IntKind.wrap .u8 x = x := by rw [wrap8]; omega
theorem Hm (a b : Nat) : Int.tdiv (a : Int) (b : Int) = ((a / b : Nat) : Int) := by
  rw [Int.tdiv_eq_ediv_of_nonneg (by omega)]; rfl
theorem Hn (a b : Nat) : Int.tmod (a : Int) (b : Int) = ((a % b : Nat) : Int) := by
  rw [Int.tmod_eq_emod_of_nonneg (by omega)]; rfl
theorem Hc {α : Type} (l : List α) (i : Nat) : idx l (i : Int) = l[i]? := by unfold idx; rw [if_pos (by omega)]; simp
theorem Zr {α : Type} {l : List α} {i : Nat} (h : i < l.length) : idx l (i : Int) = some l[i] := by rw [Hc, List.getElem?_eq_getElem h]
theorem Bn {α : Type} (l : List α) {i j : Nat} (h : i ≤ j) (hj : j ≤ l.length) : sub l (i : Int) (j : Int) = some ((l.take j).drop i) := by
  unfold sub
  rw [if_pos ⟨by omega, by omega, by omega⟩]
  simp
theorem Ur {α : Type} {l m : List α} (h : l.length + m.length ≤ 2147483648) : app l m = some (l ++ m) := by unfold app; rw [if_pos h]
theorem Fg : Zj = 18446744073709551616 := rfl
theorem u8_lt (c : UInt8) : c.toNat < 256 := c.toNat_lt
theorem Uy {n : Nat} (h : n < 4611686018427387904) : IntKind.wrap .i64 (n : Int) = (n : Int) := J5 (by omega)
end Go.Proofs.YtoflbpmbkmephaaGreatDoor
namespace Go.Proofs.YtoflbpmbkmephaaGreatDoor
def Bf : Nat := 1099511627776
def hi (d : Nat) : UInt8 := UInt8.ofNat (d + 128)
def val (l : List UInt8) : Nat := l.foldl (fun a c => 128 * a + c.toNat % 128) 0
end Go.Proofs.YtoflbpmbkmephaaGreatDoor
namespace Go.Proofs.YtoflbpmbkmephaaGreatDoor
open Go.Lib (decDigits)
def Br (n : Int) : List UInt8 := if 0 ≤ n ∧ n ≤ 1099511627776 then decDigits n.toNat else []
def Ee (c : UInt8) : Bool := decide (48 ≤ c.toNat) && decide (c.toNat ≤ 57)
def Bq (l : List UInt8) : Nat := l.foldl (fun a c => 10 * a + (c.toNat - 48)) 0
def Q9 (s : List UInt8) : Option Nat := if s.all Ee = true ∧ Bq s ≤ Bf ∧ decDigits (Bq s) = s then some (Bq s) else none
def U0 (x : Option Nat) : Int × Bool := match x with | none => (0, false) | some n => ((n : Int), true)
theorem B2 {u : Nat} (h : u < 10) : decDigits u = [UInt8.ofNat (48 + u)] := by rw [decDigits, dif_pos h]
theorem H8 {u : Nat} (h : ¬ u < 10) : decDigits u = decDigits (u / 10) ++ [UInt8.ofNat (48 + u % 10)] := by rw [decDigits, dif_neg h]
theorem Of (l : List UInt8) (c : UInt8) : Bq (l ++ [c]) = 10 * Bq l + (c.toNat - 48) := by simp [Bq]
theorem Og {d : Nat} (h : d < 10) : (UInt8.ofNat (48 + d)).toNat = 48 + d := by simp; omega
theorem dec_ne (n : Nat) : decDigits n ≠ [] := by
  by_cases h : n < 10
  · rw [B2 h]; simp
  · rw [H8 h]; simp
theorem dec_head {n : Nat} (h0 : n ≠ 0) : (decDigits n).headD 0 ≠ 48 := by
  induction n using Nat.strongRecOn with
  | _ n ih =>
    by_cases h : n < 10
    · rw [B2 h]
      intro e
      have := congrArg UInt8.toNat e
      simp only [List.headD_cons] at this
      rw [Og h] at this
      have h48 : (48 : UInt8).toNat = 48 := rfl
      omega
    · rw [H8 h]
      have := ih (n / 10) (by omega) (by omega)
      cases hd : decDigits (n / 10) with
      | nil => exact absurd hd (dec_ne _)
      | cons c r => rw [hd] at this; simpa using this
theorem dec_len {n k : Nat} (hk : 1 ≤ k) (h : n < 10 ^ k) : (decDigits n).length ≤ k := by
  induction k generalizing n with
  | zero => omega
  | succ k ih =>
    by_cases hs : n < 10
    · rw [B2 hs]; simp
    · rw [H8 hs, List.length_append, List.length_singleton]
      have hk1 : 1 ≤ k := by
        rcases Nat.eq_zero_or_pos k with rfl | h1
        · exact absurd (by simpa using h) hs
        · exact h1
      have := ih hk1 (n := n / 10) (by rw [Nat.pow_succ] at h; omega)
      omega
theorem Oh {n : Nat} (h : n ≤ Bf) : (decDigits n).length ≤ 13 := dec_len (by omega) (by
  have : (10 : Nat) ^ 13 = 10000000000000 := by decide
  unfold Bf at h
  omega)
theorem Sp (l m : List UInt8) : Bq l ≤ Bq (l ++ m) := by
  unfold Bq
  rw [List.foldl_append]
  suffices h : ∀ (m : List UInt8) (a : Nat), a ≤ m.foldl (fun a c => 10 * a + (c.toNat - 48)) a by exact h m _
  intro m
  induction m with
  | nil => intro a; exact Nat.le_refl _
  | cons c m ih => intro a; rw [List.foldl_cons]; exact Nat.le_trans (by omega) (ih _)
theorem dval_pos {c : UInt8} (xs : List UInt8) (h : 48 < c.toNat) : 0 < Bq (c :: xs) := by
  have := Sp [c] xs
  have e : Bq [c] = 10 * 0 + (c.toNat - 48) := rfl
  rw [List.singleton_append] at this
  omega
theorem Sq (s : List UInt8) (hd : s.all Ee = true) (hne : s ≠ []) (hh : s.headD 0 ≠ 48 ∨ s.length = 1) : decDigits (Bq s) = s := by
  suffices H : ∀ (k : Nat) (s : List UInt8), s.length = k → s.all Ee = true → s ≠ [] → (s.headD 0 ≠ 48 ∨ s.length = 1) → decDigits (Bq s) = s by exact H _ s rfl hd hne hh
  intro k
  induction k with
  | zero => intro s h _ hne; exact absurd (List.length_eq_zero_iff.1 h) hne
  | succ k ih =>
    intro s hk hd hne hh
    rcases List.eq_nil_or_concat s with rfl | ⟨ys, c, rfl⟩
    · exact absurd rfl hne
    · simp only [List.concat_eq_append] at hk hd hh ⊢
      rw [List.all_append, Bool.and_eq_true] at hd
      have hc : 48 ≤ c.toNat ∧ c.toNat ≤ 57 := by
        have := hd.2
        simpa [Ee] using this
      have ec : UInt8.ofNat (48 + (c.toNat - 48)) = c := UInt8.toNat_inj.1 (by rw [Og (by omega)]; omega)
      rw [Of]
      cases ys with
      | nil =>
        have e0 : Bq [] = 0 := rfl
        rw [e0, B2 (by omega), show 10 * 0 + (c.toNat - 48) = c.toNat - 48 by omega, ec]
        rfl
      | cons y ys =>
        have hy : y ≠ 48 := by
          rcases hh with h | h
          · simpa using h
          · simp at h
        have hy2 : 48 ≤ y.toNat := by
          have := hd.1
          simp [Ee] at this
          exact this.1.1
        have hy3 : 48 < y.toNat := by
          rcases Nat.lt_or_ge 48 y.toNat with h | h
          · exact h
          · exact absurd (UInt8.toNat_inj.1 (show y.toNat = (48 : UInt8).toNat from by have h48 : (48 : UInt8).toNat = 48 := rfl; omega)) hy
        have hp := dval_pos ys hy3
        have hi := ih (y :: ys) (by simpa using hk) hd.1 (by simp) (.inl (by simpa using hy))
        rw [H8 (by omega), show (10 * Bq (y :: ys) + (c.toNat - 48)) / 10 = Bq (y :: ys) by omega, show (10 * Bq (y :: ys) + (c.toNat - 48)) % 10 = c.toNat - 48 by omega, hi, ec]
theorem Cv {s : List UInt8} {n : Nat} (h : Q9 s = some n) : decDigits n = s ∧ n ≤ Bf := by
  unfold Q9 at h
  split at h
  · rename_i hc
    injection h with h
    subst h
    exact ⟨hc.2.2, hc.2.1⟩
  · cases h
theorem Oi {l : List UInt8} {k : Nat} (hk : k < l.length) : Bq (l.take (k + 1)) = 10 * Bq (l.take k) + (l[k].toNat - 48) := by
  rw [List.take_succ_eq_append_getElem hk, Of]
theorem Sr {l : List UInt8} {k : Nat} (hk : k < l.length) (h : (l.take k).all Ee = true) (hx : Ee l[k] = true) : (l.take (k + 1)).all Ee = true := by
  rw [List.take_succ_eq_append_getElem hk, List.all_append, h]
  simp [hx]
theorem Ho {l : List UInt8} {k : Nat} (hk : k < l.length) (hx : Ee l[k] = false) : Q9 l = none := by
  unfold Q9
  rw [if_neg]
  rintro ⟨h, _⟩
  rw [List.all_eq_true] at h
  rw [h _ (List.getElem_mem hk)] at hx
  cases hx
theorem Pq {l : List UInt8} {k : Nat} (h : Bf < Bq (l.take k)) : Q9 l = none := by
  unfold Q9
  rw [if_neg]
  rintro ⟨_, h2, _⟩
  have := Sp (l.take k) (l.drop k)
  rw [List.take_append_drop] at this
  omega
end Go.Proofs.YtoflbpmbkmephaaGreatDoor
namespace Go.Proofs.YtoflbpmbkmephaaGreatDoor
open Go.Lib (decDigits)
structure Digits (B K : Nat) (E : Nat → UInt8) (H : Nat → List UInt8) : Prop where
  base : 1 < B
  zero : H 0 = []
  step : ∀ m, m ≠ 0 → m ≤ K → H m = H (m / B) ++ [E (m % B)]
  mono : ∀ a b, a < B → b < B → ((E a).toNat < (E b).toNat ↔ a < b)
section
variable {B K : Nat} {E : Nat → UInt8} {H : Nat → List UInt8}
theorem Digits.same (D : Digits B K E H) : ∀ m, m ≤ K → ∀ m', m' ≤ K → (H m = H m' ↔ m = m') := by
  intro m
  induction m using Nat.strongRecOn with
  | _ m ih =>
    intro hm m' hm'
    refine ⟨fun h => ?_, fun h => by rw [h]⟩
    have hB := D.base
    by_cases h0 : m = 0
    · subst h0
      by_cases h1 : m' = 0
      · exact h1.symm
      · rw [D.zero, D.step m' h1 hm'] at h
        simp at h
    · by_cases h1 : m' = 0
      · subst h1
        rw [D.zero, D.step m h0 hm] at h
        simp at h
      · rw [D.step m h0 hm, D.step m' h1 hm'] at h
        obtain ⟨e1, e2⟩ := List.append_inj' h rfl
        have hd := Nat.div_lt_self (by omega : 0 < m) hB
        have hdm := Nat.div_le_self m' B
        have hq := (ih (m / B) hd (by omega) (m' / B) (by omega)).1 e1
        have hE : E (m % B) = E (m' % B) := by simpa using e2
        have l1 := D.mono (m % B) (m' % B) (Nat.mod_lt _ (by omega)) (Nat.mod_lt _ (by omega))
        have l2 := D.mono (m' % B) (m % B) (Nat.mod_lt _ (by omega)) (Nat.mod_lt _ (by omega))
        rw [hE] at l1 l2
        have hr : m % B = m' % B := by omega
        have := Nat.div_add_mod m B
        have := Nat.div_add_mod m' B
        rw [hq, hr] at *
        omega
end
def Me (v : Nat) : List UInt8 := if v = 0 then [] else decDigits v
end Go.Proofs.YtoflbpmbkmephaaGreatDoor
namespace Go.Proofs.YtoflbpmbkmephaaGreatDoor
open Go.Lib (decDigits)
theorem D9 (n : Int) : Xv n = some (Br n) := by
  unfold Xv Br
  by_cases h : 0 ≤ n ∧ n ≤ 1099511627776
  · rw [if_pos h, show decide (n < 0) = false by simp; omega, show decide (n > 1099511627776) = false by simp; omega]
    obtain ⟨m, rfl⟩ := Int.eq_ofNat_of_zero_le h.1
    simp only [cond_false, Gx, Gq]
    rw [show (((10 : Int) == 10) && (decide (-9223372036854775808 ≤ (m : Int)) && decide ((m : Int) ≤ 9223372036854775807))) = true by simp; omega]
    simp only [cond_true, Option.bind_some, Go.Lib.itoa_nonneg]
    rfl
  · rw [if_neg h]
    by_cases h0 : n < 0
    · rw [show decide (n < 0) = true by simp; omega]
      rfl
    · rw [show decide (n < 0) = false by simp; omega, show decide (n > 1099511627776) = true by simp; omega]
      rfl
end Go.Proofs.YtoflbpmbkmephaaGreatDoor
namespace Go.Proofs.YtoflbpmbkmephaaGreatDoor
theorem Kl (x : Int) : IntKind.wrap .u32 x = x % 4294967296 := by
  unfold IntKind.wrap
  simp only [IntKind.bits, IntKind.signed]
  simp
theorem bShr32 (a k : Nat) (hk : k ≤ 32) : Ip .u32 (a : Int) (k : Int) = ((a / 2 ^ k : Nat) : Int) := by
  unfold Ip
  have : min ((k : Int).toNat) (IntKind.bits .u32) = k := by simp only [Int.toNat_natCast, IntKind.bits]; omega
  rw [this, Int.fdiv_eq_ediv_of_nonneg _ (by exact_mod_cast Nat.zero_le (2 ^ k))]
  push_cast
  rfl
theorem bShl32 (a k : Nat) (hk : k ≤ 32) : K4 .u32 (a : Int) (k : Int) = ((a * 2 ^ k % 4294967296 : Nat) : Int) := by
  unfold K4
  have : min ((k : Int).toNat) (IntKind.bits .u32) = k := by simp only [Int.toNat_natCast, IntKind.bits]; omega
  have e : ((a : Int) * 2 ^ k) = ((a * 2 ^ k : Nat) : Int) := by push_cast; rfl
  rw [this, Kl, e]
  generalize a * 2 ^ k = q
  omega
theorem ofInt32 (a : Nat) (h : a < 4294967296) : (BitVec.ofInt (IntKind.bits .u32) (a : Int)).toNat = a := by
  show (BitVec.ofInt 32 (a : Int)).toNat = a
  rw [BitVec.ofInt_natCast, BitVec.toNat_ofNat]
  exact Nat.mod_eq_of_lt (by omega)
theorem mask_eq (k : Nat) (hk : k ≤ 32) : 4294967295 * 2 ^ k % 4294967296 = 4294967296 - 2 ^ k := by
  have h : ∀ k : Fin 33, 4294967295 * 2 ^ k.val % 4294967296 = 4294967296 - 2 ^ k.val := by decide
  exact h ⟨k, by omega⟩
theorem Pr (x k : Nat) (hk : k ≤ 32) (hx : x < 4294967296) : Fb .u32 (x : Int) ((4294967296 - 2 ^ k : Nat) : Int) = ((x % 2 ^ k : Nat) : Int) := by
  have hp : 2 ^ k ≤ 4294967296 := by
    have := Nat.pow_le_pow_right (show 0 < 2 by omega) hk
    simpa using this
  have hp1 : 1 ≤ 2 ^ k := Nat.one_le_two_pow
  unfold Fb
  rw [BitVec.toNat_and, BitVec.toNat_not, ofInt32 x hx, ofInt32 _ (by omega), Kl]
  have e : 2 ^ (IntKind.bits .u32) - 1 - (4294967296 - 2 ^ k) = 2 ^ k - 1 := by
    show 4294967296 - 1 - (4294967296 - 2 ^ k) = 2 ^ k - 1
    omega
  rw [e, Nat.and_two_pow_sub_one_eq_mod]
  have := Nat.mod_le x (2 ^ k)
  omega
end Go.Proofs.YtoflbpmbkmephaaGreatDoor
namespace Go.Proofs.YtoflbpmbkmephaaGreatDoor
open Go.Lib (decDigits)
def isLet (c : UInt8) : Bool := (decide (97 ≤ c.toNat) && decide (c.toNat ≤ 122)) || (decide (48 ≤ c.toNat) && decide (c.toNat ≤ 57))
def isNm (c : UInt8) : Bool := isLet c || c == 45
def Fh (s : List UInt8) : Bool := decide (1 ≤ s.length) && decide (s.length ≤ 20) && s.all isNm && !(s.headD 0 == 45) && !(s.getLastD 0 == 45)
def Dl : List UInt8 := [97, 98, 99, 100, 101, 102, 103, 104, 105, 106, 107, 108, 109, 110, 111, 112, 113, 114, 115, 116, 117, 118, 119, 120, 121, 122, 48, 49, 50, 51, 52, 53, 54, 55, 56, 57, 45]
theorem Lq (c : UInt8) : Dl.contains c = isNm c := by
  have h : ∀ n : Fin 256, Dl.contains (UInt8.ofNat n.val) = isNm (UInt8.ofNat n.val) := by decide +kernel
  have e := h ⟨c.toNat, c.toNat_lt⟩
  have : UInt8.ofNat c.toNat = c := by simp
  rw [this] at e
  exact e
theorem Ef {α : Type} (p : α → Bool) : ∀ l : List α, l.dropWhile p = [] ↔ ∀ x ∈ l, p x = true
  | [] => by simp
  | x :: l => by
    rw [List.dropWhile_cons]
    by_cases h : p x = true
    · rw [if_pos h, Ef p l]; simp [h]
    · rw [if_neg h]; simp [h]
theorem F4 {α : Type} (p : α → Bool) : ∀ (l : List α) (x : α) (r : List α), l.dropWhile p = x :: r → p x = false
  | [], x, r, h => by simp at h
  | y :: l, x, r, h => by
    rw [List.dropWhile_cons] at h
    by_cases hy : p y = true
    · rw [if_pos hy] at h; exact F4 p l x r h
    · rw [if_neg hy] at h; injection h with h1 _; subst h1; simpa using hy
theorem trimS_nil (l cs : List UInt8) : Lib.trimS l cs = [] ↔ ∀ x ∈ l, cs.contains x = true := by
  unfold Lib.trimS Lib.trimLeftS Lib.trimRightS
  rw [Ef]
  constructor
  · intro h
    cases hd : l.reverse.dropWhile (cs.contains ·) with
    | nil =>
      have := (Ef _ _).1 hd
      intro x hx
      exact this x (by simpa using hx)
    | cons y r =>
      have h1 := F4 _ _ _ _ hd
      have h2 := h y (by rw [hd]; simp)
      rw [h2] at h1
      cases h1
  · intro h x hx
    refine h x ?_
    have : x ∈ l.reverse.dropWhile (cs.contains ·) := by simpa using hx
    have := List.IsSuffix.subset (List.dropWhile_suffix _) this
    simpa using this
theorem lTrim (s : List UInt8) (h : s.length ≤ 9000) : R2 s Dl = some (Lib.trimS s Dl) := by
  unfold R2
  rw [show (Nat.ble s.length 9223372036854775807 && (Nat.ble Dl.length 4294967280 && Dl.all (fun b => Nat.ble b.toNat 127))) = true by
    rw [Nat.ble_eq_true_of_le (by omega)]
    decide]
  rfl
theorem headD_idx {s : List UInt8} (h : 1 ≤ s.length) : idx s 0 = some (s.headD 0) := by
  cases s with
  | nil => simp at h
  | cons c r => rfl
theorem last_idxN {s : List UInt8} (h : 1 ≤ s.length) (h2 : s.length ≤ 9000) : idx s (IntKind.wrap .i64 (((List.length s : Nat) : Int) - 1)) = some (s.getLastD 0) := by
  rw [J5 (by omega), show (((List.length s : Nat) : Int) - 1) = ((s.length - 1 : Nat) : Int) by omega, Hc]
  cases s with
  | nil => simp at h
  | cons c r => rw [List.getLastD_cons, List.getLastD_eq_getLast?, ← List.getLast?_eq_getElem?]; cases r <;> simp [List.getLast?_cons]
theorem byte45 (c : UInt8) : (((c.toNat : Nat) : Int) != 45) = !(c == 45) := by
  by_cases h : c = 45
  · subst h; rfl
  · rw [show (c == 45) = false by simpa using h]
    rw [Bool.not_false, bne_iff_ne]
    intro e
    exact h (UInt8.toNat_inj.1 (show c.toNat = (45 : UInt8).toNat from by have h9 : (45 : UInt8).toNat = 45 := rfl; omega))
theorem byteEq45 (c : UInt8) : (((c.toNat : Nat) : Int) == 45) = (c == 45) := by
  have := byte45 c
  rw [bne, Bool.not_inj_iff] at this
  exact this
theorem lName (s : List UInt8) (h : s.length ≤ 9000) : Nw s = some (Fh s) := by
  unfold Nw Fh Y4
  by_cases h1 : 1 ≤ s.length
  · have hne : (s == ([] : List UInt8)) = false := by cases s with | nil => simp at h1 | cons c r => rfl
    rw [hne, decide_eq_true h1]
    simp only [Bool.not_false, cond_true]
    by_cases h2 : s.length ≤ 20
    · rw [show decide (((List.length s : Nat) : Int) ≤ 20) = true by simp; omega, decide_eq_true h2]
      have ht := lTrim s h
      unfold Dl at ht
      rw [ht]
      simp only [cond_true, Option.bind_some]
      have hall : (Lib.trimS s Dl == ([] : List UInt8)) = s.all isNm := by
        rw [Bool.eq_iff_iff, beq_iff_eq, trimS_nil, List.all_eq_true]
        exact ⟨fun h x hx => by rw [← Lq]; exact h x hx, fun h x hx => by rw [Lq]; exact h x hx⟩
      unfold Dl at hall
      rw [hall]
      cases s.all isNm with
      | false => rfl
      | true =>
        simp only [cond_true, headD_idx h1, Option.bind_some, byte45, last_idxN h1 h]
        cases s.headD 0 == 45 <;> simp
    · rw [show decide (((List.length s : Nat) : Int) ≤ 20) = false by simp; omega, decide_eq_false h2]
      rfl
  · have : s = [] := List.length_eq_zero_iff.1 (by omega)
    subst this
    rfl
def Wb (s : List UInt8) (i : Nat) : Bool := ((s.getD i 0 == 45) && (decide (0 < i) && decide (i + 1 < s.length))) || isLet (s.getD i 0)
def Ps (s : List UInt8) : Bool := (List.range s.length).all (Wb s) && decide (1 ≤ s.length) && decide (s.length ≤ 20)
theorem Ti (s : List UInt8) (hs : s.length ≤ 9000) : ∀ (d k f : Nat), d = s.length - k → k ≤ s.length → d < f → (∀ j, j < k → Wb s j = true) → Vb s f ((k : Nat) : Int) = some (Ps s) := by
  intro d
  induction d with
  | zero =>
    intro k f hd hk hf hall
    obtain ⟨f, rfl⟩ : ∃ g, f = g + 1 := ⟨f - 1, by omega⟩
    show X9 (Vb s f) s _ = _
    unfold X9 J8 Ps
    have ha : (List.range s.length).all (Wb s) = true := by rw [List.all_eq_true]; intro j hj; exact hall j (by have := List.mem_range.1 hj; omega)
    rw [show decide (((k : Nat) : Int) < ((List.length s : Nat) : Int)) = false by simp; omega, ha]
    simp only [cond_false, Bool.true_and]
    by_cases h1 : 1 ≤ s.length
    · rw [show decide (((List.length s : Nat) : Int) ≥ 1) = true by simp; omega, decide_eq_true h1]
      simp only [cond_true, Bool.true_and]
      congr 1
      rw [decide_eq_decide]
      omega
    · rw [show decide (((List.length s : Nat) : Int) ≥ 1) = false by simp; omega, decide_eq_false h1]
      rfl
  | succ d ih =>
    intro k f hd hk hf hall
    obtain ⟨f, rfl⟩ : ∃ g, f = g + 1 := ⟨f - 1, by omega⟩
    have hlt : k < s.length := by omega
    show X9 (Vb s f) s _ = _
    unfold X9
    have hgd : s.getD k 0 = s[k] := by simp [List.getD, List.getElem?_eq_getElem hlt]
    have w1 : IntKind.wrap .i64 (((List.length s : Nat) : Int) - 1) = ((s.length - 1 : Nat) : Int) := by rw [J5 (by omega)]; omega
    have w4 : IntKind.wrap .i64 ((k : Int) + 1) = ((k + 1 : Nat) : Int) := by rw [J5 (by omega)]; omega
    rw [show decide (((k : Nat) : Int) < ((List.length s : Nat) : Int)) = true by simp; omega, show idx s ((k : Nat) : Int) = some s[k] from Zr hlt]
    simp only [cond_true, Option.bind_some, byteEq45, w1]
    have d0 : decide (((k : Nat) : Int) > 0) = decide (0 < k) := by rw [decide_eq_decide]; omega
    have d1 : decide (((k : Nat) : Int) < ((s.length - 1 : Nat) : Int)) = decide (k + 1 < s.length) := by rw [decide_eq_decide]; omega
    rw [d0, d1]
    have yes : Wb s k = true → Vb s f ((k + 1 : Nat) : Int) = some (Ps s) := fun hok => ih (k + 1) f (by omega) (by omega) (by omega) fun j hj => by
      by_cases hjk : j = k
      · subst hjk; exact hok
      · exact hall j (by omega)
    have no : Wb s k = false → some false = some (Ps s) := fun hno => by
      congr 1
      unfold Ps
      have : (List.range s.length).all (Wb s) = false := by
        rw [Bool.eq_false_iff]
        intro h
        rw [List.all_eq_true] at h
        have := h k (List.mem_range.2 hlt)
        rw [hno] at this
        cases this
      rw [this]
      rfl
    have key : (cond (s[k] == 45) (cond (decide (0 < k)) (V9 (Vb s f) ((k : Nat) : Int) s[k] (decide (k + 1 < s.length))) (V9 (Vb s f) ((k : Nat) : Int) s[k] false)) (V9 (Vb s f) ((k : Nat) : Int) s[k] false)) =
        V9 (Vb s f) ((k : Nat) : Int) s[k] ((s[k] == 45) && (decide (0 < k) && decide (k + 1 < s.length))) := by
      cases s[k] == 45 <;> cases decide (0 < k) <;> simp
    rw [key]
    have hok : Wb s k = (((s[k] == 45) && (decide (0 < k) && decide (k + 1 < s.length))) || isLet s[k]) := by unfold Wb; rw [hgd]
    rw [hok] at yes no
    generalize ((s[k] == 45) && (decide (0 < k) && decide (k + 1 < s.length))) = line at yes no ⊢
    unfold V9 Zk
    simp only [w4]
    cases line with
    | true => exact yes rfl
    | false =>
      simp only [Bool.false_or] at yes no
      unfold isLet at yes no
      generalize s[k].toNat = x at yes no ⊢
      simp only [Bool.not_false, cond_true]
      by_cases h1 : x < 97
      · rw [show decide (((x : Nat) : Int) < 97) = true by simp; omega]
        by_cases h2 : x < 48
        · rw [show decide (((x : Nat) : Int) < 48) = true by simp; omega]
          exact no (by simp; omega)
        · rw [show decide (((x : Nat) : Int) < 48) = false by simp; omega]
          by_cases h3 : 57 < x
          · rw [show decide (((x : Nat) : Int) > 57) = true by simp; omega]
            exact no (by simp; omega)
          · rw [show decide (((x : Nat) : Int) > 57) = false by simp; omega]
            exact yes (by simp; omega)
      · rw [show decide (((x : Nat) : Int) < 97) = false by simp; omega]
        by_cases h2 : 122 < x
        · rw [show decide (((x : Nat) : Int) > 122) = true by simp; omega, show decide (((x : Nat) : Int) < 48) = false by simp; omega, show decide (((x : Nat) : Int) > 57) = true by simp; omega]
          exact no (by simp; omega)
        · rw [show decide (((x : Nat) : Int) > 122) = false by simp; omega]
          exact yes (by simp; omega)
theorem let45 : isLet 45 = false := by decide
theorem nameR_eq (s : List UInt8) : Ps s = Fh s := by
  rw [Bool.eq_iff_iff]
  unfold Ps Fh
  simp only [Bool.and_eq_true, List.all_eq_true, List.mem_range, decide_eq_true_eq, Bool.not_eq_true']
  have hget : ∀ i (hi : i < s.length), s.getD i 0 = s[i] := fun i hi => by simp [List.getD, List.getElem?_eq_getElem hi]
  have hhead : ∀ h : 0 < s.length, s.headD 0 = s[0] := fun h => by cases s with | nil => simp at h | cons c r => rfl
  have hlast : ∀ h : 0 < s.length, s.getLastD 0 = s[s.length - 1] := fun h => by
    have h2 := List.getLast_eq_getElem (l := s) (by intro e; subst e; simp at h)
    rw [← h2, List.getLastD_eq_getLast?, List.getLast?_eq_some_getLast (by intro e; subst e; simp at h)]
    rfl
  constructor
  · rintro ⟨⟨h1, h2⟩, h3⟩
    refine ⟨⟨⟨⟨h2, h3⟩, fun x hx => ?_⟩, ?_⟩, ?_⟩
    · obtain ⟨i, hi, rfl⟩ := List.mem_iff_getElem.1 hx
      have := h1 i hi
      unfold Wb at this
      rw [hget i hi, Bool.or_eq_true, Bool.and_eq_true] at this
      unfold isNm
      rcases this with h | h
      · rw [h.1]; simp
      · rw [h]; rfl
    · have := h1 0 (by omega)
      unfold Wb at this
      rw [hget 0 (by omega)] at this
      rw [hhead (by omega)]
      simp only [Nat.lt_irrefl, decide_false, Bool.false_and, Bool.and_false, Bool.false_or] at this
      rw [Bool.eq_false_iff]
      intro e
      rw [beq_iff_eq.1 e, let45] at this
      cases this
    · have := h1 (s.length - 1) (by omega)
      unfold Wb at this
      rw [hget _ (by omega), show decide (s.length - 1 + 1 < s.length) = false by simp; omega] at this
      rw [hlast (by omega)]
      simp only [Bool.and_false, Bool.false_or] at this
      rw [Bool.eq_false_iff]
      intro e
      rw [beq_iff_eq.1 e, let45] at this
      cases this
  · rintro ⟨⟨⟨⟨h2, h3⟩, h4⟩, h5⟩, h6⟩
    refine ⟨⟨fun i hi => ?_, h2⟩, h3⟩
    have hm := h4 s[i] (List.getElem_mem hi)
    unfold Wb
    rw [hget i hi]
    unfold isNm at hm
    rw [Bool.or_eq_true] at hm ⊢
    rcases hm with hm | hm
    · exact .inr hm
    · refine .inl ?_
      have e45 := beq_iff_eq.1 hm
      rw [hm]
      have i0 : 0 < i := by
        rcases Nat.eq_zero_or_pos i with rfl | h
        · rw [hhead (by omega), hm] at h5; cases h5
        · exact h
      have i1 : i + 1 < s.length := by
        rcases Nat.lt_or_ge (i + 1) s.length with h | h
        · exact h
        · have : i = s.length - 1 := by omega
          subst this
          rw [hlast (by omega), hm] at h6; cases h6
      simp [i0, i1]
theorem rName (s : List UInt8) (h : s.length ≤ 9000) : Uq s = some (Fh s) := by
  unfold Uq
  rw [← nameR_eq]
  exact Ti s h s.length 0 Zj (by omega) (by omega) (by rw [Fg]; omega) (fun j hj => absurd hj (by omega))
def I1 (a : Nat) : List UInt8 := decDigits (a / 16777216 % 256) ++ 46 :: (decDigits (a / 65536 % 256) ++ 46 :: (decDigits (a / 256 % 256) ++ 46 :: decDigits (a % 256)))
theorem Ss {n : Nat} (h : n ≤ 1099511627776) : Br (n : Int) = decDigits n := by unfold Br; rw [if_pos (by omega), Int.toNat_natCast]
theorem Ba {n : Nat} (h : n < 256) : (decDigits n).length ≤ 3 := dec_len (by omega) (by omega)
theorem Hp (a : Nat) (ha : a < 4294967296) (f i : Nat) (acc : List (List UInt8)) (hi : i < 4) (hacc : acc.length ≤ 4) :
    J4 (a : Int) (f + 1) acc (i : Int) = J4 (a : Int) f (acc ++ [decDigits (a / 2 ^ (24 - 8 * i) % 256)]) ((i + 1 : Nat) : Int) := by
  show Ux (J4 (a : Int) f) (a : Int) acc (i : Int) = _
  unfold Ux
  have w1 : IntKind.wrap .i64 (24 - IntKind.wrap .i64 (8 * (i : Int))) = ((24 - 8 * i : Nat) : Int) := by rw [J5 (x := 8 * (i : Int)) (by omega), J5 (by omega)]; omega
  have w2 : IntKind.wrap .i64 (IntKind.wrap .u8 (((a / 2 ^ (24 - 8 * i) : Nat) : Int))) = ((a / 2 ^ (24 - 8 * i) % 256 : Nat) : Int) := by
    rw [wrap8]
    generalize a / 2 ^ (24 - 8 * i) = q
    rw [J5 (by omega)]
    omega
  have w4 : IntKind.wrap .i64 ((i : Int) + 1) = ((i + 1 : Nat) : Int) := by rw [J5 (by omega)]; omega
  rw [show decide ((i : Int) < 4) = true by simp; omega, w1, show decide (0 ≤ ((24 - 8 * i : Nat) : Int)) = true by simp, bShr32 a _ (by omega), w2, D9, Ss (by have := Nat.mod_lt (a / 2 ^ (24 - 8 * i)) (show 0 < 256 by omega); omega), w4]
  simp only [cond_true, chk, Option.bind_some, Ur (show acc.length + [decDigits (a / 2 ^ (24 - 8 * i) % 256)].length ≤ 2147483648 by simp only [List.length_cons, List.length_nil]; omega)]
theorem join4 (x y z t : List UInt8) : Lib.join [x, y, z, t] [46] = x ++ 46 :: (y ++ 46 :: (z ++ 46 :: t)) := by
  simp [Lib.join, List.intercalate, List.intersperse]
theorem Hq (a : Nat) : (I1 a).length ≤ 15 := by
  have h1 := Ba (n := a / 16777216 % 256) (by omega)
  have h2 := Ba (n := a / 65536 % 256) (by omega)
  have h3 := Ba (n := a / 256 % 256) (by omega)
  have h4 := Ba (n := a % 256) (by omega)
  simp only [I1, List.length_append, List.length_cons]
  omega
theorem lDots (a : Nat) (ha : a < 4294967296) : Dj (a : Int) = some (I1 a) := by
  unfold Dj
  obtain ⟨f, hf⟩ : ∃ f, Zj = f + 1 + 1 + 1 + 1 + 1 := ⟨Zj - 5, by rw [Fg]⟩
  rw [hf]
  have s0 := Hp a ha (f + 1 + 1 + 1 + 1) 0 [] (by omega) (by simp)
  have s1 := Hp a ha (f + 1 + 1 + 1) 1 [decDigits (a / 2 ^ 24 % 256)] (by omega) (by simp)
  have s2 := Hp a ha (f + 1 + 1) 2 [decDigits (a / 2 ^ 24 % 256), decDigits (a / 2 ^ 16 % 256)] (by omega) (by simp)
  have s3 := Hp a ha (f + 1) 3 [decDigits (a / 2 ^ 24 % 256), decDigits (a / 2 ^ 16 % 256), decDigits (a / 2 ^ 8 % 256)] (by omega) (by simp)
  refine s0.trans (s1.trans (s2.trans (s3.trans ?_)))
  show Ux (J4 (a : Int) f) (a : Int) [decDigits (a / 2 ^ 24 % 256), decDigits (a / 2 ^ 16 % 256), decDigits (a / 2 ^ 8 % 256), decDigits (a / 2 ^ 0 % 256)] 4 = _
  unfold Ux G2
  rw [join4]
  have e : decDigits (a / 2 ^ 24 % 256) ++ 46 :: (decDigits (a / 2 ^ 16 % 256) ++ 46 :: (decDigits (a / 2 ^ 8 % 256) ++ 46 :: decDigits (a / 2 ^ 0 % 256))) = I1 a := by
    unfold I1
    rw [Nat.pow_zero, Nat.div_one]
  rw [e, Nat.ble_eq_true_of_le (show (I1 a).length ≤ 140737488355328 by have := Hq a; omega)]
  rfl
def Dm (a : Nat) (b : Int) : Bool := decide (0 ≤ b) && (decide (b ≤ 32) && decide (a % 2 ^ (32 - b.toNat) = 0))
def cutN (x : Nat) (b : Int) : Nat := x / 2 ^ (32 - b.toNat) * 2 ^ (32 - b.toNat)
theorem w32 {b : Int} (h0 : 0 ≤ b) (h1 : b ≤ 32) : IntKind.wrap .i64 (32 - b) = ((32 - b.toNat : Nat) : Int) := by rw [J5 (by omega)]; omega
theorem lMask {b : Int} (h0 : 0 ≤ b) (h1 : b ≤ 32) : Dk b = some ((4294967296 - 2 ^ (32 - b.toNat) : Nat) : Int) := by
  unfold Dk
  rw [w32 h0 h1, show decide (0 ≤ ((32 - b.toNat : Nat) : Int)) = true by simp]
  have := bShl32 4294967295 (32 - b.toNat) (by omega)
  rw [show ((4294967295 : Nat) : Int) = 4294967295 from rfl, mask_eq _ (by omega)] at this
  rw [this]
  rfl
theorem lRight (a : Nat) (ha : a < 4294967296) (b : Int) : G4 (a : Int) b = some (Dm a b) := by
  unfold G4 Dm U8
  by_cases h0 : 0 ≤ b
  · rw [show decide (b ≥ 0) = true by simp; omega]
    by_cases h1 : b ≤ 32
    · rw [decide_eq_true h1, lMask h0 h1]
      simp only [cond_true, Option.bind_some, Pr a (32 - b.toNat) (by omega) ha, Bool.true_and]
      congr 1
      rw [Bool.eq_iff_iff, beq_iff_eq, decide_eq_true_eq]
      generalize a % 2 ^ (32 - b.toNat) = q
      omega
    · rw [decide_eq_false h1]; rfl
  · rw [show decide (b ≥ 0) = false by simp; omega]; rfl
theorem cut_le (x : Nat) (b : Int) : cutN x b ≤ x := Nat.div_mul_le_self _ _
theorem cut_id {x : Nat} {b : Int} : cutN x b = x ↔ x % 2 ^ (32 - b.toNat) = 0 := by
  have := Nat.div_add_mod x (2 ^ (32 - b.toNat))
  unfold cutN
  rw [Nat.mul_comm] at this
  omega
theorem rHead (x : Nat) (hx : x < 4294967296) {b : Int} (h0 : 0 ≤ b) (h1 : b ≤ 32) : Nz (x : Int) b = some ((cutN x b : Nat) : Int) := by
  unfold Nz
  by_cases hb : b = 0
  · subst hb
    rw [show cutN x 0 = 0 by unfold cutN; rw [Nat.div_eq_of_lt (by simpa using hx), Nat.zero_mul]]
    rfl
  · have hc := cut_le x b
    rw [show (b == 0) = false by simpa using hb, w32 h0 h1, show decide (0 ≤ ((32 - b.toNat : Nat) : Int)) = true by simp, bShr32 x _ (by omega), bShl32 _ _ (by omega)]
    simp only [cond_false, chk, Option.bind_some]
    congr 2
    unfold cutN at hc ⊢
    exact Nat.mod_eq_of_lt (by omega)
theorem rRight (a : Nat) (ha : a < 4294967296) (b : Int) : Y8 (a : Int) b = some (Dm a b) := by
  unfold Y8 Dm Yx
  by_cases h0 : 0 ≤ b
  · rw [show decide (b ≥ 0) = true by simp; omega]
    by_cases h1 : b ≤ 32
    · rw [decide_eq_true h1, rHead a ha h0 h1]
      simp only [cond_true, Option.bind_some, Bool.true_and]
      congr 1
      rw [Bool.eq_iff_iff, beq_iff_eq, decide_eq_true_eq, ← cut_id]
      omega
    · rw [decide_eq_false h1]; rfl
  · rw [show decide (b ≥ 0) = false by simp; omega]; rfl
def Cg (a : Nat) (b : Int) : List UInt8 := match Dm a b with | true => I1 a ++ 47 :: decDigits b.toNat | false => []
theorem Eg {a : Nat} {b : Int} (h : Dm a b = true) : 0 ≤ b ∧ b ≤ 32 := by
  unfold Dm at h
  simp only [Bool.and_eq_true, decide_eq_true_eq] at h
  exact ⟨h.1, h.2.1⟩
theorem lSlash (a : Nat) (ha : a < 4294967296) (b : Int) : G5 (a : Int) b = some (Cg a b) := by
  unfold G5 Cg
  rw [lRight a ha b]
  simp only [Option.bind_some]
  cases hr : Dm a b with
  | false => rfl
  | true =>
    obtain ⟨h0, h1⟩ := Eg hr
    have hl := Hq a
    have hd : Br b = decDigits b.toNat := by unfold Br; rw [if_pos (by omega)]
    have hd3 := Ba (n := b.toNat) (by omega)
    simp only [Bool.not_true, cond_false, lDots a ha, Option.bind_some, D9, hd]
    rw [Ur (by simp only [List.length_cons, List.length_nil]; omega)]
    simp only [Option.bind_some]
    rw [Ur (by simp only [List.length_append, List.length_cons, List.length_nil]; omega)]
    simp
end Go.Proofs.YtoflbpmbkmephaaGreatDoor
namespace Go.Proofs.YtoflbpmbkmephaaGreatDoor
open Go.RowKit
abbrev DS (α : Type) := Option Addr × Nat × List α
def eDS {α : Type} (e : Enc α) : Enc (DS α) := ⟨1, fun x => [.slice x.1 (List.length x.2.2) x.2.1], fun _ => rfl, fun _ v hv => by simp at hv; subst hv; rfl⟩
abbrev Qg := List UInt8 × Int × Int × DS (Int × Int) × DS (List UInt8 × List UInt8 × Int)
abbrev Qb := List UInt8 × Int × Int × List (Int × Int) × List (List UInt8 × List UInt8 × Int)
abbrev stT (y : Qg) : Qb := (y.1, y.2.1, y.2.2.1, y.2.2.2.1.2.2, y.2.2.2.2.2.2)
structure Dp (α : Type) where
  ok : World → α → Prop
  mono : ∀ {w w' : World} {x : α}, Below w.heap.size w w' → ok w x → ok w' x
def dT {α : Type} : Dp α := ⟨fun _ _ => True, fun _ _ => trivial⟩
def Tj {α β : Type} (a : Dp α) (b : Dp β) : Dp (α × β) := ⟨fun w x => a.ok w x.1 ∧ b.ok w x.2, fun hb h => ⟨a.mono hb h.1, b.mono hb h.2⟩⟩
def dDS {α : Type} (e : Enc α) (p : Dp α) : Dp (DS α) := ⟨fun w x => RdT e w x.1 x.2.1 x.2.2 ∧ ∀ y ∈ x.2.2, p.ok w y, fun hb h => ⟨RdT.below h.1 hb, fun y hy => p.mono hb (h.2 y hy)⟩⟩
abbrev eNet : Enc (Int × Int) := Qf (Qv .u32) (Qv .i64)
abbrev eTok : Enc (List UInt8 × List UInt8 × Int) := Qf Qj (Qf Qj (Qv .i64))
abbrev Vu : Enc Qg := Qf Qj (Qf (Qv .i64) (Qf (Qv .i64) (Qf (eDS eNet) (eDS eTok))))
abbrev Fv : Dp Qg := Tj dT (Tj dT (Tj dT (Tj (dDS eNet dT) (dDS eTok dT))))
section
variable {α β γ : Type} {e : Enc α} {p : Dp α} {q : Dp β} {w w' w0 : World} {es : List Ent}
theorem Zh {A : Option Addr} {c : Nat} {l : List α} (h : (dDS e p).ok w (A, c, l)) : RdT e w A c l := h.1
theorem Gd {A : Option Addr} {c : Nat} {l : List α} (h : (dDS e p).ok w (A, c, l)) {i : Nat} {x : α} (hx : l[i]? = some x) : p.ok w x := h.2 x (List.mem_of_getElem? hx)
theorem dp1 {x : α × β} (h : (Tj p q).ok w x) : p.ok w x.1 := h.1
theorem dp2 {x : α × β} (h : (Tj p q).ok w x) : q.ok w x.2 := h.2
theorem ds_nil (e : Enc α) (p : Dp α) (w : World) : (dDS e p).ok w (none, 0, []) := ⟨RdT.nil e w, fun y hy => by cases hy⟩
theorem ds_mk {A : Option Addr} {c : Nat} {l : List α} (h : RdT e w A c l) (h2 : ∀ y ∈ l, p.ok w y) : (dDS e p).ok w (A, c, l) := ⟨h, h2⟩
theorem Dp.sp {x : α} (h : p.ok w0 x) (hs : SP [] w0 w es) : p.ok w x := p.mono hs.keeps h
theorem Gi (hs : SP [] w0 w es) (hb : Below w.heap.size w w') : Below w0.heap.size w0 w' := (hs.below hb).keeps
theorem SP.still {S : List Nat} {es' : List Ent} {e : Ent} {l : List Nat} {i : Nat} (h : SP S w0 w es) (he : es' = Ms es l) (hi : es[i]? = some e) (hn : l.all (fun j => !(Nat.beq i j)) = true) (hm : Mod (es'.flatMap Ent.fp) w w') : e.ok w' := by
  subst he
  have hg := h.own.get hi
  refine e.loc w w' (fun k hk => hm.block k (hg.2 k hk).2 fun hkl => ?_) hg.1
  obtain ⟨e', he', hke⟩ := List.mem_flatMap.1 hkl
  obtain ⟨j, hj, hej⟩ := Ce he'
  refine h.own.apart hi hej (fun hij => ?_) k hk hke
  rw [List.all_eq_true] at hn
  have := hn j hj
  rw [hij, Nat.beq_refl] at this
  cases this
theorem J9 {f : α → γ} {l : List α} {i : Int} {K : γ → Option β} {r : β} (h : (idx (List.map f l) i).bind K = some r) : ∃ y, 0 ≤ i ∧ i < (l.length : Int) ∧ l[i.toNat]? = some y ∧ K (f y) = some r := by
  obtain ⟨x, h0, h1, hx, hK⟩ := Qu h
  rw [List.length_map] at h1
  rw [List.getElem?_map, Option.map_eq_some_iff] at hx
  obtain ⟨y, hy, rfl⟩ := hx
  exact ⟨y, h0, h1, hy, hK⟩
end
section
variable {α γ : Type} {e : Enc α} {P : Program} {n : Nat} {B : Code} {p : List Bool} {k : Nat} {K : Fr → World → Prop} {ρ : Fr} {w : World} {A : Option Addr} {c : Nat} {l : List α} {d : Option Nat}
theorem Xd (f : α → γ) {T E : TypeId} {x ix : Operand} {ki : IntKind} {iz : Int} (ho : Bl (Qi B p) k ρ = some (.indexAddr T x ix, d)) (hd : Jn n d = true)
    (hx : opv ρ x = .slice A (List.length (List.map f l)) c) (hix : opv ρ ix = .int ki iz) (hT : P.underlying T = some (.slice E)) (hE : (P.info? E).map (·.size) = some e.sz) (hr : RdT e w A c l) (h0 : 0 ≤ iz) (h1 : iz < (l.length : Int))
    (next : ∀ b off : Nat, A = some ⟨b, off, none⟩ → b < w.heap.size → (∀ j u, (Vm e l)[j]? = some u → w.cell? ⟨b, off + j, none⟩ = some u) → K (Rh ρ d (.pointer (some ⟨b, off + iz.toNat * e.sz, none⟩))) w) :
    Qx P n B p k K ρ w := by
  rw [List.length_map] at hx
  exact Kh ho hd hx hix hT hE hr h0 h1 next
end
abbrev mT (d : List Qg) : List Qb := List.map stT d
end Go.Proofs.YtoflbpmbkmephaaGreatDoor
namespace Go.Proofs.YtoflbpmbkmephaaGreatDoor
open Go.RowKit
def N0 (v5 : Bool) : Option (Bool) :=
  (some (v5))
def Jr (p1 : Int) (p2 : Int) (p3 : Int) : Option (Bool) :=
  (cond (decide (p1 ≥ p2)) (N0 (decide (p1 ≤ p3))) (N0 false))
set_option maxHeartbeats 40000000 in
theorem U1  (p1 : Int) (p2 : Int) (p3 : Int) (w0 : World)  (r : (Bool)) (H : Jr p1 p2 p3 = some r) :
  Calls Tryz.prog 48 #[(iv p1), (iv p2), (iv p3)] w0 (fun e W => e = .returned (bv r) ∧ SP [] w0 W []) := by
 unfold Jr at H
 refine Qt (n := 15) Tryz.func48 K K K ?_
 have a := Qw [] w0
 refine aC ?_
 refine iR 1 1 [(6, (bv false))] ?_
 refine iF ?_
 refine aQ ?_
 refine At.join (fun ρ w => ∃ (v5 : Bool), Vq ρ [(6, (bv v5))] ∧ SP [] w0 w [] ∧ N0 v5 = some r) ?_ ?_
 ·refine aR ?_
  refine iR 4 4 [(7, (iv p1)), (8, (iv p2)), (9, (bv (decide (p1 ≥ p2)))), (10, (bv (decide (p1 ≥ p2))))] ?_
  refine gD 10 H (fun H => ?_) fun H => ?_
  ·refine iR 5 9 [(11, (iv p1)), (12, (iv p3)), (13, (bv (decide (p1 ≤ p3)))), (14, (bv (decide (p1 ≤ p3)))), (6, (bv (decide (p1 ≤ p3))))] ?_
   refine iF ?_
   exact ⟨(decide (p1 ≤ p3)), ⟨K, trivial⟩, SP.sel a [] rfl rfl, H⟩
  refine iR 5 9 (uN 11 3 [(14, (bv false)), (6, (bv false))]) ?_
  refine iF ?_
  exact ⟨false, ⟨K, trivial⟩, SP.sel a [] rfl rfl, H⟩
 rintro ρ w6 ⟨v5, hk, b, H⟩
 unfold N0 at H
 first | refine At.known _ hk ?_ | rw [← Qo hk]
 refine At.ret K ?_
 refine ⟨(bv v5), K, ?_⟩
 obtain rfl := Qe H
 exact ⟨rfl, SP.sel b [] rfl rfl⟩
def Vf (c : Int → Option (Int)) (p1 : (List (Int × Int))) (p5 : (Int → Int → Option (Bool))) (a : Int) : Option (Int) :=
  (cond (decide (a < ((List.length p1 : Nat) : Int))) ((idx p1 a).bind fun b => ((p5 b.1 b.2).bind fun d => (cond d (some (a)) (c (IntKind.wrap .i64 (a + 1)))))) (some ((-1))))
def Q5 (p1 : (List (Int × Int))) (p5 : (Int → Int → Option (Bool))) : Nat → Int → Option (Int)
  | 0, _ => none
  | f + 1, a => Vf  (Q5 p1 p5 f) p1 p5 a
def Xb (p1 : (List (Int × Int))) (p5 : (Int → Int → Option (Bool))) : Option (Int) :=
  (Q5 p1 p5 Zj 0)
set_option maxHeartbeats 40000000 in
theorem Rk (A2 : Option Addr) (c3 : Nat) (c : FuncId) (g : Array Value) (p1 : (List (Int × Int))) (p5 : (Int → Int → Option (Bool))) (w0 : World) (j : RdT (Qf (Qv .u32) (Qv .i64)) w0 A2 c3 p1) (hcf8 : ∀ (args : Array Value) (w : World), (callFunc c args).run Tryz.prog w = .ok (.enter c args) w) (q : ∀ (y0 : Int) (y1 : Int) (z : (Bool)) (w : World), Below w0.heap.size w0 w → p5 y0 y1 = some z → Calls Tryz.prog c (([(.agg #[(.int .u32 y0), (iv y1)])] : List Value) ++ (g).toList).toArray w (fun e W => e = .returned (bv z) ∧ SP [] w W [])) (r : (Int)) (H : Xb p1 p5 = some r) :
  Calls Tryz.prog 147 #[(lv A2 p1 c3), (.func (.func c) #[] g)] w0 (fun e W => e = .returned (iv r) ∧ SP [] w0 W []) := by
 unfold Xb at H
 refine Qt (n := 19) Tryz.func147 K K K ?_
 have s := Qw [] w0
 refine aC ?_
 refine iR 1 1 [(4, (iv 0))] ?_
 refine iF ?_
 refine aQ ?_
 refine aC ?_
 refine iR 3 3 [(6, (lv A2 p1 c3)), (7, (iv (ln p1))), (8, (iv 0))] ?_
 refine iF ?_
 refine Z3 K (id := 0) K ?_
 refine Gm K (fun f1 ρ w => ∃ (a : Int), Vq ρ [(0, (lv A2 p1 c3)), (1, (.func (.func c) #[] g)), (7, (iv (ln p1))), (8, (iv a))] ∧ SP [] w0 w [] ∧ Q5 p1 p5 f1 a = some r) (by rintro ρ w ⟨a, hk, hs, H⟩; cases H) ?_ Zj ?_
 ·rintro f1 ρ u ⟨a, hk, i, H⟩
  refine At.known _ hk ?_
  replace H := (show Vf (Q5 p1 p5 f1) p1 p5 a = some r from H)
  unfold Vf at H
  refine aC ?_
  refine iR 1 1 [(9, (bv (decide (a < (ln p1)))))] ?_
  refine iF ?_
  refine aQ ?_
  refine cD 9 H (fun H => ?_) fun H => ?_
  ·refine At.skip K ?_
   refine aQ ?_
   refine Z3 K (id := 1) K ?_
   refine aC ?_
   refine iR 2 2 [(10, (iv a)), (5, (iv a))] ?_
   refine iF ?_
   refine aC ?_
   refine iR 3 3 [(11, (.func (.func c) #[] g)), (12, (lv A2 p1 c3)), (13, (iv a))] ?_
   obtain ⟨h, l, m, v, H⟩ := Qu H
   refine jE 4 (Qf (Qv .u32) (Qv .i64)) p1 A2 c3 30 102 (.tmp 12) (.tmp 13) a 14 (RdT.sp j i) l m ?_
   intro y a0 a1 a4 hc55
   refine iS 5 ?_
   refine Qx.cells (t := 102) (x := (.tmp 14)) (b := y) (off := (a0 + Int.toNat a * (Qf (Qv .u32) (Qv .i64)).sz)) (xs := [(.int .u32 h.1), (iv h.2)]) (d := (some 15)) (k := 4) K rfl K K K (Vd (e := (Qf (Qv .u32) (Qv .i64))) (Qh (RdT.sp j i) a1 l m) v rfl) ?_
   obtain ⟨a2, a3, H⟩ := Qd H
   refine iS 6 ?_
   refine Uo (f := c) (fo := (.tmp 11)) (xs := #[(.tmp 15)]) (tys := #[102]) (first := #[]) (captured := g) (args := (([(.agg #[(.int .u32 h.1), (iv h.2)])] : List Value) ++ (g).toList)) (d := (some 16)) (k := 5) K rfl K K hcf8 (q h.1 h.2 a2 u  (SP.keeps i)  a3) ?_
   rintro e a5 ⟨rfl, o⟩
   refine ⟨_, rfl, ?_⟩
   have p := SP.call i o
   clear o
   refine iF ?_
   refine cD 16 H (fun H => ?_) fun H => ?_
   ·refine aC ?_
    refine iR 2 2 [(17, (iv a)), (4, (iv a))] ?_
    refine iF ?_
    refine At.ret K ?_
    refine ⟨(iv a), K, ?_⟩
    obtain rfl := Qe H
    exact ⟨rfl, SP.sel p [] rfl rfl⟩
   refine At.skip K ?_
   refine aR ?_
   refine iR 2 2 [(18, (iv (IntKind.wrap .i64 (a + 1)))), (8, (iv (IntKind.wrap .i64 (a + 1))))] ?_
   refine iF ?_
   exact ⟨(IntKind.wrap .i64 (a + 1)), ⟨K, K, K, K, trivial⟩, SP.sel p [] rfl rfl, H⟩
  refine At.exit K (id := 0) K ?_
  refine aC ?_
  refine iR 1 1 [(4, (iv (-1)))] ?_
  refine iF ?_
  refine At.ret K ?_
  refine ⟨(iv (-1)), K, ?_⟩
  obtain rfl := Qe H
  exact ⟨rfl, SP.sel i [] rfl rfl⟩
 exact ⟨0, ⟨K, K, K, K, trivial⟩, SP.sel s [] rfl rfl, H⟩
def V3 (p1 : (List (Int × Int))) (p5 : (Int → Int → Option (Bool))) : Option (Bool) :=
  ((Xb p1 p5).bind fun a => (some ((decide (a ≥ 0)))))
set_option maxHeartbeats 40000000 in
theorem Gy (A2 : Option Addr) (c3 : Nat) (a : FuncId) (b : Array Value) (p1 : (List (Int × Int))) (p5 : (Int → Int → Option (Bool))) (w0 : World) (f : RdT (Qf (Qv .u32) (Qv .i64)) w0 A2 c3 p1) (hcf8 : ∀ (args : Array Value) (w : World), (callFunc a args).run Tryz.prog w = .ok (.enter a args) w) (g : ∀ (y0 : Int) (y1 : Int) (z : (Bool)) (w : World), Below w0.heap.size w0 w → p5 y0 y1 = some z → Calls Tryz.prog a (([(.agg #[(.int .u32 y0), (iv y1)])] : List Value) ++ (b).toList).toArray w (fun e W => e = .returned (bv z) ∧ SP [] w W [])) (r : (Bool)) (H : V3 p1 p5 = some r) :
  Calls Tryz.prog 96 #[(lv A2 p1 c3), (.func (.func a) #[] b)] w0 (fun e W => e = .returned (bv r) ∧ SP [] w0 W []) := by
 unfold V3 at H
 refine Qt (n := 9) Tryz.func96 K K K ?_
 have d := Qw [] w0
 refine aC ?_
 refine iR 1 1 [(4, (bv false))] ?_
 refine iF ?_
 refine aC ?_
 refine iR 2 2 [(5, (lv A2 p1 c3)), (6, (.func (.func a) #[] b))] ?_
 obtain ⟨c, h, H⟩ := Qd H
 refine iS 3 ?_
 refine cS d 147 #[(.tmp 5), (.tmp 6)] #[30, 154] 7 Tryz.call147 (Rk A2 c3 a b p1 p5 w0 (RdT.sp f d) hcf8 (fun y0 y1 z w  hw  hz => g y0 y1 z w  (Gi d hw)  hz) c h) ?_
 intro j i
 refine iR 2 5 [(8, (bv (decide (c ≥ 0)))), (4, (bv (decide (c ≥ 0))))] ?_
 refine iF ?_
 refine At.ret K ?_
 refine ⟨(bv (decide (c ≥ 0))), K, ?_⟩
 obtain rfl := Qe H
 exact ⟨rfl, SP.sel i [] rfl rfl⟩
def Qp (c : Int → Option (Int)) (p1 : (List ((List UInt8) × (List UInt8) × Int))) (p5 : ((List UInt8) → (List UInt8) → Int → Option (Bool))) (a : Int) : Option (Int) :=
  (cond (decide (a < ((List.length p1 : Nat) : Int))) ((idx p1 a).bind fun b => ((p5 b.1 b.2.1 b.2.2).bind fun d => (cond d (some (a)) (c (IntKind.wrap .i64 (a + 1)))))) (some ((-1))))
def Qm (p1 : (List ((List UInt8) × (List UInt8) × Int))) (p5 : ((List UInt8) → (List UInt8) → Int → Option (Bool))) : Nat → Int → Option (Int)
  | 0, _ => none
  | f + 1, a => Qp  (Qm p1 p5 f) p1 p5 a
def Vl (p1 : (List ((List UInt8) × (List UInt8) × Int))) (p5 : ((List UInt8) → (List UInt8) → Int → Option (Bool))) : Option (Int) :=
  (Qm p1 p5 Zj 0)
set_option maxHeartbeats 40000000 in
theorem Js (A2 : Option Addr) (c3 : Nat) (g : FuncId) (h : Array Value) (p1 : (List Tk)) (p5 : (Bs → Bs → Int → Option (Bool))) (w0 : World) (j : RdT (Qf Qj (Qf Qj (Qv .i64))) w0 A2 c3 p1) (hcf8 : ∀ (args : Array Value) (w : World), (callFunc g args).run Tryz.prog w = .ok (.enter g args) w) (q : ∀ (y0 : Bs) (y1 : Bs) (y2 : Int) (z : (Bool)) (w : World), Below w0.heap.size w0 w → p5 y0 y1 y2 = some z → Calls Tryz.prog g (([(.agg #[(sv y0), (sv y1), (iv y2)])] : List Value) ++ (h).toList).toArray w (fun e W => e = .returned (bv z) ∧ SP [] w W [])) (r : (Int)) (H : Vl p1 p5 = some r) :
  Calls Tryz.prog 46 #[(lv A2 p1 c3), (.func (.func g) #[] h)] w0 (fun e W => e = .returned (iv r) ∧ SP [] w0 W []) := by
 unfold Vl at H
 refine Qt (n := 19) Tryz.func46 K K K ?_
 have s := Qw [] w0
 refine aC ?_
 refine iR 1 1 [(4, (iv 0))] ?_
 refine iF ?_
 refine aQ ?_
 refine aC ?_
 refine iR 3 3 [(6, (lv A2 p1 c3)), (7, (iv (ln p1))), (8, (iv 0))] ?_
 refine iF ?_
 refine Z3 K (id := 0) K ?_
 refine Gm K (fun f1 ρ w => ∃ (a : Int), Vq ρ [(0, (lv A2 p1 c3)), (1, (.func (.func g) #[] h)), (7, (iv (ln p1))), (8, (iv a))] ∧ SP [] w0 w [] ∧ Qm p1 p5 f1 a = some r) (by rintro ρ w ⟨a, hk, hs, H⟩; cases H) ?_ Zj ?_
 ·rintro f1 ρ u ⟨a, hk, i, H⟩
  refine At.known _ hk ?_
  replace H := (show Qp (Qm p1 p5 f1) p1 p5 a = some r from H)
  unfold Qp at H
  refine aC ?_
  refine iR 1 1 [(9, (bv (decide (a < (ln p1)))))] ?_
  refine iF ?_
  refine aQ ?_
  refine cD 9 H (fun H => ?_) fun H => ?_
  ·refine At.skip K ?_
   refine aQ ?_
   refine Z3 K (id := 1) K ?_
   refine aC ?_
   refine iR 2 2 [(10, (iv a)), (5, (iv a))] ?_
   refine iF ?_
   refine aC ?_
   refine iR 3 3 [(11, (.func (.func g) #[] h)), (12, (lv A2 p1 c3)), (13, (iv a))] ?_
   obtain ⟨c, l, m, v, H⟩ := Qu H
   refine jE 4 (Qf Qj (Qf Qj (Qv .i64))) p1 A2 c3 31 37 (.tmp 12) (.tmp 13) a 14 (RdT.sp j i) l m ?_
   intro y a0 a1 a4 hc55
   refine iS 5 ?_
   refine Qx.cells (t := 37) (x := (.tmp 14)) (b := y) (off := (a0 + Int.toNat a * (Qf Qj (Qf Qj (Qv .i64))).sz)) (xs := [(sv c.1), (sv c.2.1), (iv c.2.2)]) (d := (some 15)) (k := 4) K rfl K K K (Vd (e := (Qf Qj (Qf Qj (Qv .i64)))) (Qh (RdT.sp j i) a1 l m) v rfl) ?_
   obtain ⟨a2, a3, H⟩ := Qd H
   refine iS 6 ?_
   refine Uo (f := g) (fo := (.tmp 11)) (xs := #[(.tmp 15)]) (tys := #[37]) (first := #[]) (captured := h) (args := (([(.agg #[(sv c.1), (sv c.2.1), (iv c.2.2)])] : List Value) ++ (h).toList)) (d := (some 16)) (k := 5) K rfl K K hcf8 (q c.1 c.2.1 c.2.2 a2 u  (SP.keeps i)  a3) ?_
   rintro e a5 ⟨rfl, o⟩
   refine ⟨_, rfl, ?_⟩
   have p := SP.call i o
   clear o
   refine iF ?_
   refine cD 16 H (fun H => ?_) fun H => ?_
   ·refine aC ?_
    refine iR 2 2 [(17, (iv a)), (4, (iv a))] ?_
    refine iF ?_
    refine At.ret K ?_
    refine ⟨(iv a), K, ?_⟩
    obtain rfl := Qe H
    exact ⟨rfl, SP.sel p [] rfl rfl⟩
   refine At.skip K ?_
   refine aR ?_
   refine iR 2 2 [(18, (iv (IntKind.wrap .i64 (a + 1)))), (8, (iv (IntKind.wrap .i64 (a + 1))))] ?_
   refine iF ?_
   exact ⟨(IntKind.wrap .i64 (a + 1)), ⟨K, K, K, K, trivial⟩, SP.sel p [] rfl rfl, H⟩
  refine At.exit K (id := 0) K ?_
  refine aC ?_
  refine iR 1 1 [(4, (iv (-1)))] ?_
  refine iF ?_
  refine At.ret K ?_
  refine ⟨(iv (-1)), K, ?_⟩
  obtain rfl := Qe H
  exact ⟨rfl, SP.sel i [] rfl rfl⟩
 exact ⟨0, ⟨K, K, K, K, trivial⟩, SP.sel s [] rfl rfl, H⟩
def Vt (p1 : (List ((List UInt8) × (List UInt8) × Int))) (p5 : ((List UInt8) → (List UInt8) → Int → Option (Bool))) : Option (Bool) :=
  ((Vl p1 p5).bind fun a => (some ((decide (a ≥ 0)))))
set_option maxHeartbeats 40000000 in
theorem Ge (A2 : Option Addr) (c3 : Nat) (a : FuncId) (b : Array Value) (p1 : (List Tk)) (p5 : (Bs → Bs → Int → Option (Bool))) (w0 : World) (f : RdT (Qf Qj (Qf Qj (Qv .i64))) w0 A2 c3 p1) (hcf8 : ∀ (args : Array Value) (w : World), (callFunc a args).run Tryz.prog w = .ok (.enter a args) w) (g : ∀ (y0 : Bs) (y1 : Bs) (y2 : Int) (z : (Bool)) (w : World), Below w0.heap.size w0 w → p5 y0 y1 y2 = some z → Calls Tryz.prog a (([(.agg #[(sv y0), (sv y1), (iv y2)])] : List Value) ++ (b).toList).toArray w (fun e W => e = .returned (bv z) ∧ SP [] w W [])) (r : (Bool)) (H : Vt p1 p5 = some r) :
  Calls Tryz.prog 98 #[(lv A2 p1 c3), (.func (.func a) #[] b)] w0 (fun e W => e = .returned (bv r) ∧ SP [] w0 W []) := by
 unfold Vt at H
 refine Qt (n := 9) Tryz.func98 K K K ?_
 have d := Qw [] w0
 refine aC ?_
 refine iR 1 1 [(4, (bv false))] ?_
 refine iF ?_
 refine aC ?_
 refine iR 2 2 [(5, (lv A2 p1 c3)), (6, (.func (.func a) #[] b))] ?_
 obtain ⟨c, h, H⟩ := Qd H
 refine iS 3 ?_
 refine cS d 46 #[(.tmp 5), (.tmp 6)] #[31, 84] 7 Tryz.call46 (Js A2 c3 a b p1 p5 w0 (RdT.sp f d) hcf8 (fun y0 y1 y2 z w  hw  hz => g y0 y1 y2 z w  (Gi d hw)  hz) c h) ?_
 intro j i
 refine iR 2 5 [(8, (bv (decide (c ≥ 0)))), (4, (bv (decide (c ≥ 0))))] ?_
 refine iF ?_
 refine At.ret K ?_
 refine ⟨(bv (decide (c ≥ 0))), K, ?_⟩
 obtain rfl := Qe H
 exact ⟨rfl, SP.sel i [] rfl rfl⟩
def Qn (c : Int → Option (Int)) (p1 : (List Qb)) (p6 : ((List UInt8) → Int → Int → (List (Int × Int)) → (List ((List UInt8) × (List UInt8) × Int)) → Option (Bool))) (b : Int) : Option (Int) :=
  (cond (decide (b < ((List.length p1 : Nat) : Int))) ((idx p1 b).bind fun a => ((p6 a.1 a.2.1 a.2.2.1 a.2.2.2.1 a.2.2.2.2).bind fun d => (cond d (some (b)) (c (IntKind.wrap .i64 (b + 1)))))) (some ((-1))))
def Qk (p1 : (List Qb)) (p6 : ((List UInt8) → Int → Int → (List (Int × Int)) → (List ((List UInt8) × (List UInt8) × Int)) → Option (Bool))) : Nat → Int → Option (Int)
  | 0, _ => none
  | f + 1, a => Qn  (Qk p1 p6 f) p1 p6 a
def Vj (p1 : (List Qb)) (p6 : ((List UInt8) → Int → Int → (List (Int × Int)) → (List ((List UInt8) × (List UInt8) × Int)) → Option (Bool))) : Option (Int) :=
  (Qk p1 p6 Zj 0)
set_option maxHeartbeats 40000000 in
theorem Je (A2 : Option Addr) (c3 : Nat) (h : FuncId) (j : Array Value) (d5 : (List Qg)) (p6 : (Bs → Int → Int → (List (Int × Int)) → (List Tk) → Option (Bool))) (w0 : World) (m : (dDS Vu Fv).ok w0 (A2, c3, d5)) (hcf9 : ∀ (args : Array Value) (w : World), (callFunc h args).run Tryz.prog w = .ok (.enter h args) w) (v : ∀ (y0 : Bs) (y1 : Int) (y2 : Int) (y3 : (List (Int × Int))) (y4 : (List Tk)) (z : (Bool)) (w : World) (Ay3 : Option Addr) (cy3 : Nat) (Ay4 : Option Addr) (cy4 : Nat), Below w0.heap.size w0 w → RdT (Qf (Qv .u32) (Qv .i64)) w Ay3 cy3 y3 → RdT (Qf Qj (Qf Qj (Qv .i64))) w Ay4 cy4 y4 → p6 y0 y1 y2 y3 y4 = some z → Calls Tryz.prog h (([(.agg #[(sv y0), (iv y1), (iv y2), (lv Ay3 y3 cy3), (lv Ay4 y4 cy4)])] : List Value) ++ (j).toList).toArray w (fun e W => e = .returned (bv z) ∧ SP [] w W [])) (r : (Int)) (H : Vj (mT d5) p6 = some r) :
  Calls Tryz.prog 44 #[(lv A2 (mT d5) c3), (.func (.func h) #[] j)] w0 (fun e W => e = .returned (iv r) ∧ SP [] w0 W []) := by
 unfold Vj at H
 refine Qt (n := 19) Tryz.func44 K K K ?_
 have y := Qw [] w0
 refine aC ?_
 refine iR 1 1 [(4, (iv 0))] ?_
 refine iF ?_
 refine aQ ?_
 refine aC ?_
 refine iR 3 3 [(6, (lv A2 (mT d5) c3)), (7, (iv (ln (mT d5)))), (8, (iv 0))] ?_
 refine iF ?_
 refine Z3 K (id := 0) K ?_
 refine Gm K (fun f1 ρ w => ∃ (g : Int), Vq ρ [(0, (lv A2 (mT d5) c3)), (1, (.func (.func h) #[] j)), (7, (iv (ln (mT d5)))), (8, (iv g))] ∧ SP [] w0 w [] ∧ Qk (mT d5) p6 f1 g = some r) (by rintro ρ w ⟨g, hk, hs, H⟩; cases H) ?_ Zj ?_
 ·rintro f1 ρ a0 ⟨g, hk, i, H⟩
  refine At.known _ hk ?_
  replace H := (show Qn (Qk (mT d5) p6 f1) (mT d5) p6 g = some r from H)
  unfold Qn at H
  refine aC ?_
  refine iR 1 1 [(9, (bv (decide (g < (ln (mT d5))))))] ?_
  refine iF ?_
  refine aQ ?_
  refine cD 9 H (fun H => ?_) fun H => ?_
  ·refine At.skip K ?_
   refine aQ ?_
   refine Z3 K (id := 1) K ?_
   refine aC ?_
   refine iR 2 2 [(10, (iv g)), (5, (iv g))] ?_
   refine iF ?_
   refine aC ?_
   refine iR 3 3 [(11, (.func (.func h) #[] j)), (12, (lv A2 (mT d5) c3)), (13, (iv g))] ?_
   obtain ⟨a, p, q, o, H⟩ := J9 H
   refine iS 4 ?_
   refine Xd stT (e := Vu) (l := d5) (A := A2) (c := c3) (T := 22) (E := 33) (x := (.tmp 12)) (ix := (.tmp 13)) (ki := .i64) (iz := g) (d := (some 14)) (k := 3) K rfl K K K K (RdT.sp (Zh m) i) p q ?_
   intro a1 a2 a3 a6 hc59
   refine iS 5 ?_
   refine Qx.cells (t := 33) (x := (.tmp 14)) (b := a1) (off := (a2 + Int.toNat g * Vu.sz)) (xs := [(sv (stT a).1), (iv (stT a).2.1), (iv (stT a).2.2.1), (lv a.2.2.2.1.1 (stT a).2.2.2.1 a.2.2.2.1.2.1), (lv a.2.2.2.2.1 (stT a).2.2.2.2 a.2.2.2.2.2.1)]) (d := (some 15)) (k := 4) K rfl K K K (Vd (e := Vu) (Qh (RdT.sp (Zh m) i) a3 p q) o rfl) ?_
   obtain ⟨a4, a5, H⟩ := Qd H
   refine iS 6 ?_
   refine Uo (f := h) (fo := (.tmp 11)) (xs := #[(.tmp 15)]) (tys := #[33]) (first := #[]) (captured := j) (args := (([(.agg #[(sv (stT a).1), (iv (stT a).2.1), (iv (stT a).2.2.1), (lv a.2.2.2.1.1 (stT a).2.2.2.1 a.2.2.2.1.2.1), (lv a.2.2.2.2.1 (stT a).2.2.2.2 a.2.2.2.2.2.1)])] : List Value) ++ (j).toList)) (d := (some 16)) (k := 5) K rfl K K hcf9 (v (stT a).1 (stT a).2.1 (stT a).2.2.1 (stT a).2.2.2.1 (stT a).2.2.2.2 a4 a0 a.2.2.2.1.1 a.2.2.2.1.2.1 a.2.2.2.2.1 a.2.2.2.2.2.1 (SP.keeps i) (RdT.sp (Zh (dp1 (dp2 (dp2 (dp2 (Gd m o)))))) i) (RdT.sp (Zh (dp2 (dp2 (dp2 (dp2 (Gd m o)))))) i) a5) ?_
   rintro e a7 ⟨rfl, s⟩
   refine ⟨_, rfl, ?_⟩
   have u := SP.call i s
   clear s
   refine iF ?_
   refine cD 16 H (fun H => ?_) fun H => ?_
   ·refine aC ?_
    refine iR 2 2 [(17, (iv g)), (4, (iv g))] ?_
    refine iF ?_
    refine At.ret K ?_
    refine ⟨(iv g), K, ?_⟩
    obtain rfl := Qe H
    exact ⟨rfl, SP.sel u [] rfl rfl⟩
   refine At.skip K ?_
   refine aR ?_
   refine iR 2 2 [(18, (iv (IntKind.wrap .i64 (g + 1)))), (8, (iv (IntKind.wrap .i64 (g + 1))))] ?_
   refine iF ?_
   exact ⟨(IntKind.wrap .i64 (g + 1)), ⟨K, K, K, K, trivial⟩, SP.sel u [] rfl rfl, H⟩
  refine At.exit K (id := 0) K ?_
  refine aC ?_
  refine iR 1 1 [(4, (iv (-1)))] ?_
  refine iF ?_
  refine At.ret K ?_
  refine ⟨(iv (-1)), K, ?_⟩
  obtain rfl := Qe H
  exact ⟨rfl, SP.sel i [] rfl rfl⟩
 exact ⟨0, ⟨K, K, K, K, trivial⟩, SP.sel y [] rfl rfl, H⟩
def Vo (p1 : (List Qb)) (p6 : ((List UInt8) → Int → Int → (List (Int × Int)) → (List ((List UInt8) × (List UInt8) × Int)) → Option (Bool))) : Option (Bool) :=
  ((Vj p1 p6).bind fun a => (some ((decide (a ≥ 0)))))
set_option maxHeartbeats 40000000 in
theorem N1 (A2 : Option Addr) (c3 : Nat) (a : FuncId) (b : Array Value) (d5 : (List Qg)) (p6 : (Bs → Int → Int → (List (Int × Int)) → (List Tk) → Option (Bool))) (w0 : World) (f : (dDS Vu Fv).ok w0 (A2, c3, d5)) (hcf9 : ∀ (args : Array Value) (w : World), (callFunc a args).run Tryz.prog w = .ok (.enter a args) w) (g : ∀ (y0 : Bs) (y1 : Int) (y2 : Int) (y3 : (List (Int × Int))) (y4 : (List Tk)) (z : (Bool)) (w : World) (Ay3 : Option Addr) (cy3 : Nat) (Ay4 : Option Addr) (cy4 : Nat), Below w0.heap.size w0 w → RdT (Qf (Qv .u32) (Qv .i64)) w Ay3 cy3 y3 → RdT (Qf Qj (Qf Qj (Qv .i64))) w Ay4 cy4 y4 → p6 y0 y1 y2 y3 y4 = some z → Calls Tryz.prog a (([(.agg #[(sv y0), (iv y1), (iv y2), (lv Ay3 y3 cy3), (lv Ay4 y4 cy4)])] : List Value) ++ (b).toList).toArray w (fun e W => e = .returned (bv z) ∧ SP [] w W [])) (r : (Bool)) (H : Vo (mT d5) p6 = some r) :
  Calls Tryz.prog 49 #[(lv A2 (mT d5) c3), (.func (.func a) #[] b)] w0 (fun e W => e = .returned (bv r) ∧ SP [] w0 W []) := by
 unfold Vo at H
 refine Qt (n := 9) Tryz.func49 K K K ?_
 have d := Qw [] w0
 refine aC ?_
 refine iR 1 1 [(4, (bv false))] ?_
 refine iF ?_
 refine aC ?_
 refine iR 2 2 [(5, (lv A2 (mT d5) c3)), (6, (.func (.func a) #[] b))] ?_
 obtain ⟨c, h, H⟩ := Qd H
 refine iS 3 ?_
 refine cS d 44 #[(.tmp 5), (.tmp 6)] #[22, 82] 7 Tryz.call44 (Je A2 c3 a b d5 p6 w0 (Dp.sp f d) hcf9 (fun y0 y1 y2 y3 y4 z w Ay3 cy3 Ay4 cy4 hw hy3 hy4 hz => g y0 y1 y2 y3 y4 z w Ay3 cy3 Ay4 cy4 (Gi d hw) hy3 hy4 hz) c h) ?_
 intro j i
 refine iR 2 5 [(8, (bv (decide (c ≥ 0)))), (4, (bv (decide (c ≥ 0))))] ?_
 refine iF ?_
 refine At.ret K ?_
 refine ⟨(bv (decide (c ≥ 0))), K, ?_⟩
 obtain rfl := Qe H
 exact ⟨rfl, SP.sel i [] rfl rfl⟩
def Na (a : Int) (b : Int) : Option (Bool) :=
  ((G5 a b).bind fun z7 => (some ((z7 == ([] : List UInt8)))))
set_option maxHeartbeats 40000000 in
theorem E1  (a : Int) (b : Int) (w0 : World) (hL : Be w0)  (r : (Bool)) (H : Na a b = some r) :
  Calls Tryz.prog 97 #[(.agg #[(.int .u32 a), (iv b)])] w0 (fun e W => e = .returned (bv r) ∧ SP [] w0 W []) := by
 unfold Na at H
 refine Qt (n := 6) Tryz.func97 K K K ?_
 have d := Qw [] w0
 refine aC ?_
 refine iS 1 ?_
 refine zB 102 (.tmp 0) (.agg #[(.int .u32 a), (iv b)]) 1 d ?_
 intro g3 w4 c
 refine iR 1 2 [(2, (bv false))] ?_
 refine iF ?_
 refine aC ?_
 refine jL 1 102 1 g3 0 0 (.agg #[(.int .u32 a), (iv b)]) 3 c rfl ?_
 obtain ⟨z7, f, H⟩ := Qd H
 refine iS 2 ?_
 refine cS c 60 #[(.tmp 3)] #[102] 4 Tryz.call60 (B1  a b w4 (Q4 hL (SP.keeps c)) z7 f) ?_
 intro w9 g
 refine jO 3 9 (.tmp 4) (.const (.string ⟨List.toArray ([] : Bs)⟩)) z7 ([] : Bs) 5 ?_
 refine iR 1 4 [(2, (bv (z7 == ([] : Bs))))] ?_
 refine iF ?_
 refine At.ret K ?_
 refine ⟨(bv (z7 == ([] : Bs))), K, ?_⟩
 obtain rfl := Qe H
 exact ⟨rfl, SP.sel g [] rfl rfl⟩
def Nb (a : Bool) : Option (Bool) :=
  (some (a))
def R3 (a : (List UInt8)) (b : (List UInt8)) (c : Int) : Option (Bool) :=
  ((Nw a).bind fun d => (cond d ((Jr ((List.length b : Nat) : Int) 1 32).bind fun e => (cond e ((Jr c 0 1099511627776).bind fun f => (Nb f)) (Nb false))) (Nb false)))
set_option maxHeartbeats 40000000 in
theorem Hd  (b : Bs) (a : Bs) (c : Int) (w0 : World)  (r : (Bool)) (H : R3 b a c = some r) :
  Calls Tryz.prog 100 #[(.agg #[(sv b), (sv a), (iv c)])] w0 (fun e W => e = .returned (bv r) ∧ SP [] w0 W []) := by
 unfold R3 at H
 refine Qt (n := 17) Tryz.func100 K K K ?_
 have l := Qw [] w0
 refine aC ?_
 refine iS 1 ?_
 refine zB 37 (.tmp 0) (.agg #[(sv b), (sv a), (iv c)]) 1 l ?_
 intro g4 w5 j
 refine iR 1 2 [(2, (bv false))] ?_
 refine iF ?_
 refine aQ ?_
 refine At.join (fun ρ w => ∃ (d : Bool), Vq ρ [(2, (bv d))] ∧ SP [] w0 w [] ∧ Nb d = some r) ?_ ?_
 ·refine aR ?_
  refine iR 1 1 [(3, (pt g4 0))] ?_
  refine jL 2 9 3 g4 0 0 (sv b) 4 j rfl ?_
  obtain ⟨k, m, H⟩ := Qd H
  refine iS 3 ?_
  refine cS j 101 #[(.tmp 4)] #[9] 5 Tryz.call101 (Cf  b w5  k m) ?_
  intro o g
  refine iR 1 4 [(6, (bv k))] ?_
  refine gD 6 H (fun H => ?_) fun H => ?_
  ·refine iR 1 5 [(7, (pt g4 1))] ?_
   refine jL 6 9 7 g4 1 0 (sv a) 8 g rfl ?_
   refine iR 1 7 [(9, (iv (ln a)))] ?_
   obtain ⟨h, p, H⟩ := Qd H
   refine iS 8 ?_
   refine cS g 48 #[(.tmp 9), (.const (.int .i64 (1))), (.const (.int .i64 (32)))] #[2, 2, 2] 10 Tryz.call48 (U1  (ln a) 1 32 o  h p) ?_
   intro q i
   refine iR 2 10 [(11, (bv h)), (12, (bv h))] ?_
   refine gD 12 H (fun H => ?_) fun H => ?_
   ·refine iR 1 11 [(13, (pt g4 2))] ?_
    refine jL 12 2 13 g4 2 0 (iv c) 14 i rfl ?_
    obtain ⟨f, s, H⟩ := Qd H
    refine iS 13 ?_
    refine cS i 48 #[(.tmp 14), (.const (.int .i64 (0))), (.const (.int .i64 (1099511627776)))] #[2, 2, 2] 15 Tryz.call48 (U1  c 0 1099511627776 q  f s) ?_
    intro v t
    refine iR 2 15 [(16, (bv f)), (2, (bv f))] ?_
    refine iF ?_
    exact ⟨f, ⟨K, trivial⟩, SP.sel t [] rfl rfl, H⟩
   refine iR 5 15 (uN 13 3 [(16, (bv false)), (2, (bv false))]) ?_
   refine iF ?_
   exact ⟨false, ⟨K, trivial⟩, SP.sel i [] rfl rfl, H⟩
  refine iR 11 15 (uN 7 4 ((11, (bv false)) :: (12, (bv false)) :: (uN 13 3 [(16, (bv false)), (2, (bv false))]))) ?_
  refine iF ?_
  exact ⟨false, ⟨K, trivial⟩, SP.sel g [] rfl rfl, H⟩
 rintro ρ x ⟨d, hk, u, H⟩
 unfold Nb at H
 first | refine At.known _ hk ?_ | rw [← Qo hk]
 refine At.ret K ?_
 refine ⟨(bv d), K, ?_⟩
 obtain rfl := Qe H
 exact ⟨rfl, SP.sel u [] rfl rfl⟩
def Gj (a : (List UInt8)) (b : (List UInt8)) (c : Int) : Option (Bool) :=
  ((R3 a b c).bind fun z8 => (some ((!z8))))
set_option maxHeartbeats 40000000 in
theorem E3  (a : Bs) (b : Bs) (c : Int) (w0 : World)  (r : (Bool)) (H : Gj a b c = some r) :
  Calls Tryz.prog 99 #[(.agg #[(sv a), (sv b), (iv c)])] w0 (fun e W => e = .returned (bv r) ∧ SP [] w0 W []) := by
 unfold Gj at H
 refine Qt (n := 6) Tryz.func99 K K K ?_
 have f := Qw [] w0
 refine aC ?_
 refine iS 1 ?_
 refine zB 37 (.tmp 0) (.agg #[(sv a), (sv b), (iv c)]) 1 f ?_
 intro g4 w5 d
 refine iR 1 2 [(2, (bv false))] ?_
 refine iF ?_
 refine aC ?_
 refine jL 1 37 1 g4 0 0 (.agg #[(sv a), (sv b), (iv c)]) 3 d rfl ?_
 obtain ⟨z8, g, H⟩ := Qd H
 refine iS 2 ?_
 refine cS d 100 #[(.tmp 3)] #[37] 4 Tryz.call100 (Hd  a b c w5  z8 g) ?_
 intro i h
 refine iR 2 4 [(5, (bv (!z8))), (2, (bv (!z8)))] ?_
 refine iF ?_
 refine At.ret K ?_
 refine ⟨(bv (!z8)), K, ?_⟩
 obtain rfl := Qe H
 exact ⟨rfl, SP.sel h [] rfl rfl⟩
def V4 (d : Int → Option (Bool)) (p1 : (List ((List UInt8) × (List UInt8) × Int))) (p5 : ((List UInt8) → (List UInt8) → Int → Option ((List UInt8)))) (a : Int) : Option (Bool) :=
  (cond (decide (a < ((List.length p1 : Nat) : Int))) ((idx p1 (IntKind.wrap .i64 (a - 1))).bind fun b => ((p5 b.1 b.2.1 b.2.2).bind fun e => ((idx p1 a).bind fun c => ((p5 c.1 c.2.1 c.2.2).bind fun f => (cond (!(Op.bytesLess e f)) (some (false)) (d (IntKind.wrap .i64 (a + 1)))))))) (some (true)))
def V5 (p1 : (List ((List UInt8) × (List UInt8) × Int))) (p5 : ((List UInt8) → (List UInt8) → Int → Option ((List UInt8)))) : Nat → Int → Option (Bool)
  | 0, _ => none
  | f + 1, a => V4  (V5 p1 p5 f) p1 p5 a
def Y0 (p1 : (List ((List UInt8) × (List UInt8) × Int))) (p5 : ((List UInt8) → (List UInt8) → Int → Option ((List UInt8)))) : Option (Bool) :=
  (V5 p1 p5 Zj 1)
set_option maxHeartbeats 40000000 in
theorem Bg (A2 : Option Addr) (c3 : Nat) (l : FuncId) (m : Array Value) (p1 : (List Tk)) (p5 : (Bs → Bs → Int → Option (Bs))) (w0 : World) (s : RdT (Qf Qj (Qf Qj (Qv .i64))) w0 A2 c3 p1) (hcf8 : ∀ (args : Array Value) (w : World), (callFunc l args).run Tryz.prog w = .ok (.enter l args) w) (a1 : ∀ (y0 : Bs) (y1 : Bs) (y2 : Int) (z : (Bs)) (w : World), Below w0.heap.size w0 w → p5 y0 y1 y2 = some z → Calls Tryz.prog l (([(.agg #[(sv y0), (sv y1), (iv y2)])] : List Value) ++ (m).toList).toArray w (fun e W => e = .returned (sv z) ∧ SP [] w W [])) (r : (Bool)) (H : Y0 p1 p5 = some r) :
  Calls Tryz.prog 102 #[(lv A2 p1 c3), (.func (.func l) #[] m)] w0 (fun e W => e = .returned (bv r) ∧ SP [] w0 W []) := by
 unfold Y0 at H
 refine Qt (n := 26) Tryz.func102 K K K ?_
 have b1 := Qw [] w0
 refine aC ?_
 refine iR 1 1 [(4, (bv false))] ?_
 refine iF ?_
 refine aQ ?_
 refine aC ?_
 refine iR 1 1 [(5, (iv 1))] ?_
 refine iF ?_
 refine Z3 K (id := 0) K ?_
 refine Gm K (fun f1 ρ w => ∃ (c : Int), Vq ρ [(0, (lv A2 p1 c3)), (1, (.func (.func l) #[] m)), (5, (iv c))] ∧ SP [] w0 w [] ∧ V5 p1 p5 f1 c = some r) (by rintro ρ w ⟨c, hk, hs, H⟩; cases H) ?_ Zj ?_
 ·rintro f1 ρ e6 ⟨c, hk, a2, H⟩
  refine At.known _ hk ?_
  replace H := (show V4 (V5 p1 p5 f1) p1 p5 c = some r from H)
  unfold V4 at H
  refine aQ ?_
  refine aC ?_
  refine iR 4 4 [(6, (iv c)), (7, (lv A2 p1 c3)), (8, (iv (ln p1))), (9, (bv (decide (c < (ln p1)))))] ?_
  refine iF ?_
  refine cD 9 H (fun H => ?_) fun H => ?_
  ·refine At.skip K ?_
   refine aQ ?_
   refine Z3 K (id := 1) K ?_
   refine aQ ?_
   obtain ⟨o, a3, a4, b2, H⟩ := Qu H
   obtain ⟨p, b3, H⟩ := Qd H
   obtain ⟨j, u, v, a5, H⟩ := Qu H
   obtain ⟨q, b4, H⟩ := Qd H
   refine aG [GEq (.func (.func l) #[] m), GEq (lv A2 p1 c3), GEq (iv c), GEq (iv (IntKind.wrap .i64 (c - 1))), Zt A2 (Qf Qj (Qf Qj (Qv .i64))).sz (IntKind.wrap .i64 (c - 1)), GEq (.agg #[(sv o.1), (sv o.2.1), (iv o.2.2)]), GEq (sv p), GEq (.func (.func l) #[] m), GEq (lv A2 p1 c3), GEq (iv c), Zt A2 (Qf Qj (Qf Qj (Qv .i64))).sz c, GEq (.agg #[(sv j.1), (sv j.2.1), (iv j.2.2)]), GEq (sv q), GEq (bv (!(Op.bytesLess p q)))] [6, 12] (tG [] w0 [] [([], []), ([6], [(sv p)]), ([6, 12], [(sv p), (sv q)])]) 14 2 ⟨trivial, SP.drew a2⟩ ?_ ?_
   iterate 14 refine And.intro ?_ ?_
   exact trivial
   ·exact oU (hC (hS 1 (.func (.func l) #[] m)) (h0))
   ·exact oU (hC (hS 0 (lv A2 p1 c3)) (h0))
   ·exact oU (hC (hS 5 (iv c)) (h0))
   ·exact oU (hC (hA 2 14) (h0))
   ·refine oL 0 ?_
    rintro P W hs g ⟨-, b5⟩
    refine kM (kc (kA g 1 13) (kc (kA g 3 15) k0)) fun i => ?_
    refine zE (Qf Qj (Qf Qj (Qv .i64))) p1 A2 c3 31 37 (.tmp 13) (.tmp 15) (IntKind.wrap .i64 (c - 1)) 16 (RdT.sp s b5) a3 a4 ?_
    intro b6 b7 b8 e7 hc269
    exact ⟨rfl, _, Qa i, ⟨b6, b7, b8, rfl⟩⟩
   ·refine oL 0 ?_
    rintro P W hs g ⟨-, b9⟩
    obtain ⟨c0, c1, c2, c4⟩ := g 4 16 K
    refine kM (kc c4 k0) fun i => ?_
    refine Qx.cells (t := 37) (x := (.tmp 16)) (b := c0) (off := (c1 + Int.toNat (IntKind.wrap .i64 (c - 1)) * (Qf Qj (Qf Qj (Qv .i64))).sz)) (xs := [(sv o.1), (sv o.2.1), (iv o.2.2)]) (d := (some 17)) (k := 5) K rfl K K K (Vd (e := (Qf Qj (Qf Qj (Qv .i64)))) (Qh (RdT.sp s b9) c2 a3 a4) b2 rfl) ?_
    exact eK i
   ·refine oH 0 1 ?_
    rintro P W hs g ⟨-, a6⟩
    refine kM (kc (kA g 0 12) (kc (kA g 5 17) k0)) fun i => ?_
    refine Uo (f := l) (fo := (.tmp 12)) (xs := #[(.tmp 17)]) (tys := #[37]) (first := #[]) (captured := m) (args := (([(.agg #[(sv o.1), (sv o.2.1), (iv o.2.2)])] : List Value) ++ (m).toList)) (d := (some 18)) (k := 6) K rfl K K hcf8 (a1 o.1 o.2.1 o.2.2 p W  (SP.keeps a6)  b3) ?_
    rintro e e8 ⟨rfl, a7⟩
    refine ⟨_, rfl, ?_⟩
    have c5 := SP.call a6 a7
    clear a7
    refine ⟨_, Qa i, rfl, ?_⟩
    exact (ai (ai rfl (trivial)) c5)
   ·exact oU (hC (hS 1 (.func (.func l) #[] m)) (h0))
   ·exact oU (hC (hS 0 (lv A2 p1 c3)) (h0))
   ·exact oU (hC (hS 5 (iv c)) (h0))
   ·refine Owe.light K [0, 1] K (Qc ?_ (Qc ?_ Qq))
    ·rintro P W hs g ⟨-, c6⟩
     refine kM (kc (kA g 8 20) (kc (kA g 9 21) k0)) fun i => ?_
     refine zE (Qf Qj (Qf Qj (Qv .i64))) p1 A2 c3 31 37 (.tmp 20) (.tmp 21) c 22 (RdT.sp s c6) u v ?_
     intro c7 c8 c9 e9 hc287
     exact ⟨rfl, _, Qa i, ⟨c7, c8, c9, rfl⟩⟩
    rintro P W hs g ⟨⟨f0, -⟩, d0⟩
    refine kM (kc (kA g 8 20) (kc (kA g 9 21) k0)) fun i => ?_
    refine zE (Qf Qj (Qf Qj (Qv .i64))) p1 A2 c3 31 37 (.tmp 20) (.tmp 21) c 22 (RdT.sp s d0) u v ?_
    intro d1 d2 d3 f2 hc295
    exact ⟨rfl, _, Qa i, ⟨d1, d2, d3, rfl⟩⟩
   ·refine Owe.light K [0, 1] K (Qc ?_ (Qc ?_ Qq))
    ·rintro P W hs g ⟨-, d4⟩
     obtain ⟨d5, d6, d7, a0⟩ := g 10 22 K
     refine kM (kc a0 k0) fun i => ?_
     refine Qx.cells (t := 37) (x := (.tmp 22)) (b := d5) (off := (d6 + Int.toNat c * (Qf Qj (Qf Qj (Qv .i64))).sz)) (xs := [(sv j.1), (sv j.2.1), (iv j.2.2)]) (d := (some 23)) (k := 11) K rfl K K K (Vd (e := (Qf Qj (Qf Qj (Qv .i64)))) (Qh (RdT.sp s d4) d7 u v) a5 rfl) ?_
     exact eK i
    rintro P W hs g ⟨⟨f3, -⟩, d8⟩
    obtain ⟨d9, e0, e1, a0⟩ := g 10 22 K
    refine kM (kc a0 k0) fun i => ?_
    refine Qx.cells (t := 37) (x := (.tmp 22)) (b := d9) (off := (e0 + Int.toNat c * (Qf Qj (Qf Qj (Qv .i64))).sz)) (xs := [(sv j.1), (sv j.2.1), (iv j.2.2)]) (d := (some 23)) (k := 11) K rfl K K K (Vd (e := (Qf Qj (Qf Qj (Qv .i64)))) (Qh (RdT.sp s d8) e1 u v) a5 rfl) ?_
    exact eK i
   ·refine oH 1 2 ?_
    rintro P W hs g ⟨⟨e2, -⟩, a8⟩
    refine kM (kc (kA g 7 19) (kc (kA g 11 23) k0)) fun i => ?_
    refine Uo (f := l) (fo := (.tmp 19)) (xs := #[(.tmp 23)]) (tys := #[37]) (first := #[]) (captured := m) (args := (([(.agg #[(sv j.1), (sv j.2.1), (iv j.2.2)])] : List Value) ++ (m).toList)) (d := (some 24)) (k := 12) K rfl K K hcf8 (a1 j.1 j.2.1 j.2.2 q W  (SP.keeps a8)  b4) ?_
    rintro e f4 ⟨rfl, a9⟩
    refine ⟨_, rfl, ?_⟩
    have e3 := SP.call a8 a9
    clear a9
    refine ⟨_, Qa i, rfl, ?_⟩
    exact (ai (ai e2 (ai rfl (trivial))) e3)
   ·refine oL 2 ?_
    rintro P W hs g ⟨⟨e4, e5, -⟩, f5⟩
    refine kN [(18, (sv p)), (24, (sv q))] ⟨(Qr (h := 6) K).symm.trans e4, (Qr (h := 12) K).symm.trans e5, trivial⟩ fun i => ?_
    refine U7 (op := .geq) (T := 9) (T' := 9) (x := (.tmp 18)) (y := (.tmp 24)) (a := p) (b := q) (r := (bv (!(Op.bytesLess p q)))) (d := (some 25)) (k := 13) K rfl K K rfl ?_
    exact eK i
   rintro P f6 hs hf ⟨⟨f7, f8, -⟩, b0⟩
   refine Qy _ (kc (kT hs 0 (lv A2 p1 c3)) (kc (kT hs 1 (.func (.func l) #[] m)) (kc (kT hs 5 (iv c)) (kc (kF hf 13 25) k0)))) ?_
   refine cD 25 H (fun H => ?_) fun H => ?_
   ·refine aC ?_
    refine iR 1 1 [(4, (bv false))] ?_
    refine iF ?_
    refine At.ret K ?_
    refine ⟨(bv false), K, ?_⟩
    obtain rfl := Qe H
    exact ⟨rfl, SP.sel b0 [] rfl rfl⟩
   refine At.skip K ?_
   refine aR ?_
   refine iR 3 3 [(10, (iv c)), (11, (iv (IntKind.wrap .i64 (c + 1)))), (5, (iv (IntKind.wrap .i64 (c + 1))))] ?_
   refine iF ?_
   exact ⟨(IntKind.wrap .i64 (c + 1)), ⟨K, K, K, trivial⟩, SP.sel b0 [] rfl rfl, H⟩
  refine At.exit K (id := 0) K ?_
  refine aC ?_
  refine iR 1 1 [(4, (bv true))] ?_
  refine iF ?_
  refine At.ret K ?_
  refine ⟨(bv true), K, ?_⟩
  obtain rfl := Qe H
  exact ⟨rfl, SP.sel a2 [] rfl rfl⟩
 exact ⟨1, ⟨K, K, K, trivial⟩, SP.sel b1 [] rfl rfl, H⟩
def Rq (a : (List UInt8)) (b : (List UInt8)) (c : Int) : Option ((List UInt8)) :=
  (some (a))
set_option maxHeartbeats 40000000 in
theorem E5  (a : Bs) (b : Bs) (c : Int) (w0 : World)  (r : (Bs)) (H : Rq a b c = some r) :
  Calls Tryz.prog 103 #[(.agg #[(sv a), (sv b), (iv c)])] w0 (fun e W => e = .returned (sv r) ∧ SP [] w0 W []) := by
 unfold Rq at H
 refine Qt (n := 5) Tryz.func103 K K K ?_
 have f := Qw [] w0
 refine aC ?_
 refine iS 1 ?_
 refine zB 37 (.tmp 0) (.agg #[(sv a), (sv b), (iv c)]) 1 f ?_
 intro g4 w5 d
 refine iR 1 2 [(2, (sv ([] : Bs)))] ?_
 refine iF ?_
 refine aC ?_
 refine iR 1 1 [(3, (pt g4 0))] ?_
 refine jL 2 9 3 g4 0 0 (sv a) 4 d rfl ?_
 refine iR 1 3 [(2, (sv a))] ?_
 refine iF ?_
 refine At.ret K ?_
 refine ⟨(sv a), K, ?_⟩
 obtain rfl := Qe H
 exact ⟨rfl, SP.sel d [] rfl rfl⟩
def Us (a : Bool) : Option (Bool) :=
  (some (a))
def Ut (a : Int) (b : Int) (c : (List ((List UInt8) × (List UInt8) × Int))) (d : Bool) : Option (Bool) :=
  (cond d (some (false)) ((Jr a 0 8).bind fun e => (cond e ((Jr b 0 8).bind fun f => (cond f ((Y0 c (fun y0 y1 y2 => Rq y0 y1 y2)).bind fun g => (Us g)) (Us false))) (Us false))))
def N2 (a : Int) (b : Int) (c : (List ((List UInt8) × (List UInt8) × Int))) (d : Bool) : Option (Bool) :=
  (Ut a b c d)
def N3 (a : Int) (b : Int) (c : (List ((List UInt8) × (List UInt8) × Int))) (d : Bool) : Option (Bool) :=
  (N2 a b c d)
def Uu (g : (List UInt8)) (b : Int) (c : Int) (d : (List (Int × Int))) (a : (List ((List UInt8) × (List UInt8) × Int))) (e : Bool) : Option (Bool) :=
  (cond e (Ut b c a e) ((Nw g).bind fun f => (cond (!f) (N2 b c a (!f)) (cond (decide (((List.length d : Nat) : Int) > 4)) (N3 b c a (decide (((List.length d : Nat) : Int) > 4))) (N3 b c a (decide (((List.length a : Nat) : Int) > 4)))))))
def Rm (c : (List UInt8)) (d : Int) (e : Int) (a : (List (Int × Int))) (b : (List ((List UInt8) × (List UInt8) × Int))) : Option (Bool) :=
  ((V3 a (fun y0 y1 => Na y0 y1)).bind fun f => (cond f (Uu c d e a b true) ((Vt b (fun y0 y1 y2 => Gj y0 y1 y2)).bind fun g => (Uu c d e a b g))))
set_option maxHeartbeats 40000000 in
theorem Fw (A5 : Option Addr) (c6 : Nat) (A9 : Option Addr) (g : Nat) (h : Bs) (d : Int) (f : Int) (c : (List (Int × Int))) (b : (List Tk)) (w0 : World) (hL : Be w0) (a5 : RdT (Qf (Qv .u32) (Qv .i64)) w0 A5 c6 c) (a3 : RdT (Qf Qj (Qf Qj (Qv .i64))) w0 A9 g b) (r : (Bool)) (H : Rm h d f c b = some r) :
  Calls Tryz.prog 51 #[(.agg #[(sv h), (iv d), (iv f), (lv A5 c c6), (lv A9 b g)])] w0 (fun e W => e = .returned (bv r) ∧ SP [] w0 W []) := by
 unfold Rm at H
 refine Qt (n := 40) Tryz.func51 K K K ?_
 have a6 := Qw [] w0
 refine aC ?_
 refine iS 1 ?_
 refine zB 33 (.tmp 0) (.agg #[(sv h), (iv d), (iv f), (lv A5 c c6), (lv A9 b g)]) 1 a6 ?_
 intro a a7 k
 refine iR 1 2 [(2, (bv false))] ?_
 refine iF ?_
 refine aC ?_
 refine iR 1 1 [(4, (pt a 3))] ?_
 refine jL 2 30 4 a 3 0 (lv A5 c c6) 5 k rfl ?_
 obtain ⟨l, a8, H⟩ := Qd H
 refine iS 3 ?_
 refine cS k 96 #[(.tmp 5), (.func 97)] #[30, 154] 6 Tryz.call96 (Gy A5 c6 97 #[] c (fun y0 y1 => Na y0 y1) a7 (RdT.sp a5 k) Tryz.call97 (fun y0 y1 z w  hw  hz => E1  y0 y1 w (Q4 (Q4 hL (SP.keeps k)) hw) z hz) l a8) ?_
 intro a9 m
 refine iR 1 4 [(3, (bv l))] ?_
 refine iF ?_
 refine aQ ?_
 refine At.join (fun ρ w => ∃ (i : Bool), Vq ρ [(1, (pt a 0)), (3, (bv i))] ∧ SP [] w0 w [Qs a 33 #[(sv h), (iv d), (iv f), (lv A5 c c6), (lv A9 b g)]] ∧ Uu h d f c b i = some r) ?_ ?_
 ·refine aR ?_
  refine iR 2 2 [(7, (bv l)), (8, (bv l))] ?_
  refine gD 8 H (fun H => ?_) fun H => ?_
  ·refine iR 5 7 (uN 9 3 [(12, (bv true)), (3, (bv true))]) ?_
   refine iF ?_
   exact ⟨true, ⟨K, K, trivial⟩, SP.sel m [0] rfl rfl, H⟩
  refine iR 1 3 [(9, (pt a 4))] ?_
  refine jL 4 31 9 a 4 0 (lv A9 b g) 10 m rfl ?_
  obtain ⟨o, b0, H⟩ := Qd H
  refine iS 5 ?_
  refine cS m 98 #[(.tmp 10), (.func 99)] #[31, 84] 11 Tryz.call98 (Ge A9 g 99 #[] b (fun y0 y1 y2 => Gj y0 y1 y2) a9 (RdT.sp a3 m) Tryz.call99 (fun y0 y1 y2 z w  hw  hz => E3  y0 y1 y2 w  z hz) o b0) ?_
  intro c4 b1
  refine iR 2 7 [(12, (bv o)), (3, (bv o))] ?_
  refine iF ?_
  exact ⟨o, ⟨K, K, trivial⟩, SP.sel b1 [0] rfl rfl, H⟩
 rintro ρ b2 ⟨i, hk, x, H⟩
 unfold Uu at H
 first | refine At.known _ hk ?_ | rw [← Qo hk]
 refine aQ ?_
 refine Z3 K (id := 0) K ?_
 refine aQ ?_
 refine aC ?_
 refine iR 2 2 [(14, (bv i)), (13, (bv i))] ?_
 refine iF ?_
 refine At.join (fun ρ w => ∃ (y : Bool), Vq ρ [(1, (pt a 0)), (13, (bv y))] ∧ SP [] w0 w [Qs a 33 #[(sv h), (iv d), (iv f), (lv A5 c c6), (lv A9 b g)]] ∧ Ut d f b y = some r) ?_ ?_
 ·refine cD 13 H (fun H => ?_) fun H => ?_
  ·refine At.skip K ?_
   exact ⟨i, ⟨K, K, trivial⟩, SP.sel x [0] rfl rfl, H⟩
  refine aC ?_
  refine iR 1 1 [(15, (pt a 0))] ?_
  refine jL 2 9 15 a 0 0 (sv h) 16 x rfl ?_
  obtain ⟨p, b3, H⟩ := Qd H
  refine iS 3 ?_
  refine cS x 101 #[(.tmp 16)] #[9] 17 Tryz.call101 (Cf  h b2  p b3) ?_
  intro c5 j
  refine iR 2 5 [(18, (bv (!p))), (13, (bv (!p)))] ?_
  refine iF ?_
  refine At.join (fun ρ w => ∃ (q : Bool), Vq ρ [(1, (pt a 0)), (13, (bv q))] ∧ SP [] w0 w [Qs a 33 #[(sv h), (iv d), (iv f), (lv A5 c c6), (lv A9 b g)]] ∧ N2 d f b q = some r) ?_ ?_
  ·refine cD 13 H (fun H => ?_) fun H => ?_
   ·refine At.skip K ?_
    exact ⟨(!p), ⟨K, K, trivial⟩, SP.sel j [0] rfl rfl, H⟩
   refine aC ?_
   refine iR 1 1 [(19, (pt a 3))] ?_
   refine jL 2 30 19 a 3 0 (lv A5 c c6) 20 j rfl ?_
   refine iR 3 5 [(21, (iv (ln c))), (22, (bv (decide ((ln c) > 4)))), (13, (bv (decide ((ln c) > 4))))] ?_
   refine iF ?_
   refine At.join (fun ρ w => ∃ (s : Bool), Vq ρ [(1, (pt a 0)), (13, (bv s))] ∧ SP [] w0 w [Qs a 33 #[(sv h), (iv d), (iv f), (lv A5 c c6), (lv A9 b g)]] ∧ N3 d f b s = some r) ?_ ?_
   ·refine cD 13 H (fun H => ?_) fun H => ?_
    ·refine At.skip K ?_
     exact ⟨(decide ((ln c) > 4)), ⟨K, K, trivial⟩, SP.sel j [0] rfl rfl, H⟩
    refine aR ?_
    refine iR 1 1 [(23, (pt a 4))] ?_
    refine jL 2 31 23 a 4 0 (lv A9 b g) 24 j rfl ?_
    refine iR 3 5 [(25, (iv (ln b))), (26, (bv (decide ((ln b) > 4)))), (13, (bv (decide ((ln b) > 4))))] ?_
    refine iF ?_
    exact ⟨(decide ((ln b) > 4)), ⟨K, K, trivial⟩, SP.sel j [0] rfl rfl, H⟩
   rintro ρ c7 ⟨s, hk, b4, H⟩
   unfold N3 at H
   first | refine At.known _ hk ?_ | rw [← Qo hk]
   exact ⟨s, ⟨K, K, trivial⟩, SP.sel b4 [0] rfl rfl, H⟩
  rintro ρ c8 ⟨q, hk, b5, H⟩
  unfold N2 at H
  first | refine At.known _ hk ?_ | rw [← Qo hk]
  exact ⟨q, ⟨K, K, trivial⟩, SP.sel b5 [0] rfl rfl, H⟩
 rintro ρ b6 ⟨y, hk, a0, H⟩
 unfold Ut at H
 first | refine At.known _ hk ?_ | rw [← Qo hk]
 refine cD 13 H (fun H => ?_) fun H => ?_
 ·refine aC ?_
  refine iR 1 1 [(2, (bv false))] ?_
  refine iF ?_
  refine At.ret K ?_
  refine ⟨(bv false), K, ?_⟩
  obtain rfl := Qe H
  exact ⟨rfl, SP.sel a0 [] rfl rfl⟩
 refine At.skip K ?_
 refine aQ ?_
 refine At.join (fun ρ w => ∃ (t : Bool), Vq ρ [(2, (bv t))] ∧ SP [] w0 w [] ∧ Us t = some r) ?_ ?_
 ·refine aR ?_
  refine iR 1 1 [(27, (pt a 1))] ?_
  refine jL 2 3 27 a 1 0 (iv d) 28 a0 rfl ?_
  obtain ⟨a4, b7, H⟩ := Qd H
  refine iS 3 ?_
  refine cS a0 48 #[(.tmp 28), (.const (.int .i64 (0))), (.const (.int .i64 (8)))] #[2, 2, 2] 29 Tryz.call48 (U1  d 0 8 b6  a4 b7) ?_
  intro b8 a1
  refine iR 1 4 [(30, (bv a4))] ?_
  refine gD 30 H (fun H => ?_) fun H => ?_
  ·refine iR 1 5 [(31, (pt a 2))] ?_
   refine jL 6 3 31 a 2 0 (iv f) 32 a1 rfl ?_
   obtain ⟨a2, b9, H⟩ := Qd H
   refine iS 7 ?_
   refine cS a1 48 #[(.tmp 32), (.const (.int .i64 (0))), (.const (.int .i64 (8)))] #[2, 2, 2] 33 Tryz.call48 (U1  f 0 8 b8  a2 b9) ?_
   intro c0 u
   refine iR 2 9 [(34, (bv a2)), (35, (bv a2))] ?_
   refine gD 35 H (fun H => ?_) fun H => ?_
   ·refine iR 1 10 [(36, (pt a 4))] ?_
    refine jL 11 31 36 a 4 0 (lv A9 b g) 37 u rfl ?_
    obtain ⟨v, c1, H⟩ := Qd H
    refine iS 12 ?_
    refine cS u 102 #[(.tmp 37), (.func 103)] #[31, 157] 38 Tryz.call102 (Bg A9 g 103 #[] b (fun y0 y1 y2 => Rq y0 y1 y2) c0 (RdT.sp a3 u) Tryz.call103 (fun y0 y1 y2 z w  hw  hz => E5  y0 y1 y2 w  z hz) v c1) ?_
    intro c9 c2
    refine iR 2 14 [(39, (bv v)), (2, (bv v))] ?_
    refine iF ?_
    exact ⟨v, ⟨K, trivial⟩, SP.sel c2 [] rfl rfl, H⟩
   refine iR 5 14 (uN 36 3 [(39, (bv false)), (2, (bv false))]) ?_
   refine iF ?_
   exact ⟨false, ⟨K, trivial⟩, SP.sel u [] rfl rfl, H⟩
  refine iR 10 14 (uN 31 3 ((34, (bv false)) :: (35, (bv false)) :: (uN 36 3 [(39, (bv false)), (2, (bv false))]))) ?_
  refine iF ?_
  exact ⟨false, ⟨K, trivial⟩, SP.sel a1 [] rfl rfl, H⟩
 rintro ρ d0 ⟨t, hk, c3, H⟩
 unfold Us at H
 first | refine At.known _ hk ?_ | rw [← Qo hk]
 refine At.ret K ?_
 refine ⟨(bv t), K, ?_⟩
 obtain rfl := Qe H
 exact ⟨rfl, SP.sel c3 [] rfl rfl⟩
def Gz (a : (List UInt8)) (b : Int) (c : Int) (d : (List (Int × Int))) (e : (List ((List UInt8) × (List UInt8) × Int))) : Option (Bool) :=
  ((Rm a b c d e).bind fun f => (some ((!f))))
set_option maxHeartbeats 40000000 in
theorem Fi (A5 : Option Addr) (c6 : Nat) (A9 : Option Addr) (c : Nat) (d : Bs) (f : Int) (g : Int) (a : (List (Int × Int))) (b : (List Tk)) (w0 : World) (hL : Be w0) (j : RdT (Qf (Qv .u32) (Qv .i64)) w0 A5 c6 a) (k : RdT (Qf Qj (Qf Qj (Qv .i64))) w0 A9 c b) (r : (Bool)) (H : Gz d f g a b = some r) :
  Calls Tryz.prog 50 #[(.agg #[(sv d), (iv f), (iv g), (lv A5 a c6), (lv A9 b c)])] w0 (fun e W => e = .returned (bv r) ∧ SP [] w0 W []) := by
 unfold Gz at H
 refine Qt (n := 6) Tryz.func50 K K K ?_
 have l := Qw [] w0
 refine aC ?_
 refine iS 1 ?_
 refine zB 33 (.tmp 0) (.agg #[(sv d), (iv f), (iv g), (lv A5 a c6), (lv A9 b c)]) 1 l ?_
 intro m o h
 refine iR 1 2 [(2, (bv false))] ?_
 refine iF ?_
 refine aC ?_
 refine jL 1 33 1 m 0 0 (.agg #[(sv d), (iv f), (iv g), (lv A5 a c6), (lv A9 b c)]) 3 h rfl ?_
 obtain ⟨i, p, H⟩ := Qd H
 refine iS 2 ?_
 refine cS h 51 #[(.tmp 3)] #[33] 4 Tryz.call51 (Fw A5 c6 A9 c d f g a b o (Q4 hL (SP.keeps h)) (RdT.sp j h) (RdT.sp k h) i p) ?_
 intro s q
 refine iR 2 4 [(5, (bv (!i))), (2, (bv (!i)))] ?_
 refine iF ?_
 refine At.ret K ?_
 refine ⟨(bv (!i)), K, ?_⟩
 obtain rfl := Qe H
 exact ⟨rfl, SP.sel q [] rfl rfl⟩
def V0 (d : Int → Option (Bool)) (p1 : (List Qb)) (p6 : ((List UInt8) → Int → Int → (List (Int × Int)) → (List ((List UInt8) × (List UInt8) × Int)) → Option ((List UInt8)))) (c : Int) : Option (Bool) :=
  (cond (decide (c < ((List.length p1 : Nat) : Int))) ((idx p1 (IntKind.wrap .i64 (c - 1))).bind fun a => ((p6 a.1 a.2.1 a.2.2.1 a.2.2.2.1 a.2.2.2.2).bind fun e => ((idx p1 c).bind fun b => ((p6 b.1 b.2.1 b.2.2.1 b.2.2.2.1 b.2.2.2.2).bind fun f => (cond (!(Op.bytesLess e f)) (some (false)) (d (IntKind.wrap .i64 (c + 1)))))))) (some (true)))
def V1 (p1 : (List Qb)) (p6 : ((List UInt8) → Int → Int → (List (Int × Int)) → (List ((List UInt8) × (List UInt8) × Int)) → Option ((List UInt8)))) : Nat → Int → Option (Bool)
  | 0, _ => none
  | f + 1, a => V0  (V1 p1 p6 f) p1 p6 a
def Ym (p1 : (List Qb)) (p6 : ((List UInt8) → Int → Int → (List (Int × Int)) → (List ((List UInt8) × (List UInt8) × Int)) → Option ((List UInt8)))) : Option (Bool) :=
  (V1 p1 p6 Zj 1)
set_option maxHeartbeats 40000000 in
theorem D2 (A2 : Option Addr) (c3 : Nat) (p : FuncId) (q : Array Value) (d5 : (List Qg)) (p6 : (Bs → Int → Int → (List (Int × Int)) → (List Tk) → Option (Bs))) (w0 : World) (s : (dDS Vu Fv).ok w0 (A2, c3, d5)) (hcf9 : ∀ (args : Array Value) (w : World), (callFunc p args).run Tryz.prog w = .ok (.enter p args) w) (a7 : ∀ (y0 : Bs) (y1 : Int) (y2 : Int) (y3 : (List (Int × Int))) (y4 : (List Tk)) (z : (Bs)) (w : World) (Ay3 : Option Addr) (cy3 : Nat) (Ay4 : Option Addr) (cy4 : Nat), Below w0.heap.size w0 w → RdT (Qf (Qv .u32) (Qv .i64)) w Ay3 cy3 y3 → RdT (Qf Qj (Qf Qj (Qv .i64))) w Ay4 cy4 y4 → p6 y0 y1 y2 y3 y4 = some z → Calls Tryz.prog p (([(.agg #[(sv y0), (iv y1), (iv y2), (lv Ay3 y3 cy3), (lv Ay4 y4 cy4)])] : List Value) ++ (q).toList).toArray w (fun e W => e = .returned (sv z) ∧ SP [] w W [])) (r : (Bool)) (H : Ym (mT d5) p6 = some r) :
  Calls Tryz.prog 52 #[(lv A2 (mT d5) c3), (.func (.func p) #[] q)] w0 (fun e W => e = .returned (bv r) ∧ SP [] w0 W []) := by
 unfold Ym at H
 refine Qt (n := 26) Tryz.func52 K K K ?_
 have b4 := Qw [] w0
 refine aC ?_
 refine iR 1 1 [(4, (bv false))] ?_
 refine iF ?_
 refine aQ ?_
 refine aC ?_
 refine iR 1 1 [(5, (iv 1))] ?_
 refine iF ?_
 refine Z3 K (id := 0) K ?_
 refine Gm K (fun f1 ρ w => ∃ (j : Int), Vq ρ [(0, (lv A2 (mT d5) c3)), (1, (.func (.func p) #[] q)), (5, (iv j))] ∧ SP [] w0 w [] ∧ V1 (mT d5) p6 f1 j = some r) (by rintro ρ w ⟨j, hk, hs, H⟩; cases H) ?_ Zj ?_
 ·rintro f1 ρ e9 ⟨j, hk, a8, H⟩
  refine At.known _ hk ?_
  replace H := (show V0 (V1 (mT d5) p6 f1) (mT d5) p6 j = some r from H)
  unfold V0 at H
  refine aQ ?_
  refine aC ?_
  refine iR 4 4 [(6, (iv j)), (7, (lv A2 (mT d5) c3)), (8, (iv (ln (mT d5)))), (9, (bv (decide (j < (ln (mT d5))))))] ?_
  refine iF ?_
  refine cD 9 H (fun H => ?_) fun H => ?_
  ·refine At.skip K ?_
   refine aQ ?_
   refine Z3 K (id := 1) K ?_
   refine aQ ?_
   obtain ⟨i, a9, b0, a5, H⟩ := J9 H
   obtain ⟨u, b5, H⟩ := Qd H
   obtain ⟨g, a0, a1, a2, H⟩ := J9 H
   obtain ⟨v, b6, H⟩ := Qd H
   refine aG [GEq (.func (.func p) #[] q), GEq (lv A2 (mT d5) c3), GEq (iv j), GEq (iv (IntKind.wrap .i64 (j - 1))), Zt A2 Vu.sz (IntKind.wrap .i64 (j - 1)), GEq (.agg #[(sv (stT i).1), (iv (stT i).2.1), (iv (stT i).2.2.1), (lv i.2.2.2.1.1 (stT i).2.2.2.1 i.2.2.2.1.2.1), (lv i.2.2.2.2.1 (stT i).2.2.2.2 i.2.2.2.2.2.1)]), GEq (sv u), GEq (.func (.func p) #[] q), GEq (lv A2 (mT d5) c3), GEq (iv j), Zt A2 Vu.sz j, GEq (.agg #[(sv (stT g).1), (iv (stT g).2.1), (iv (stT g).2.2.1), (lv g.2.2.2.1.1 (stT g).2.2.2.1 g.2.2.2.1.2.1), (lv g.2.2.2.2.1 (stT g).2.2.2.2 g.2.2.2.2.2.1)]), GEq (sv v), GEq (bv (!(Op.bytesLess u v)))] [6, 12] (tG [] w0 [] [([], []), ([6], [(sv u)]), ([6, 12], [(sv u), (sv v)])]) 14 2 ⟨trivial, SP.drew a8⟩ ?_ ?_
   iterate 14 refine And.intro ?_ ?_
   exact trivial
   ·exact oU (hC (hS 1 (.func (.func p) #[] q)) (h0))
   ·exact oU (hC (hS 0 (lv A2 (mT d5) c3)) (h0))
   ·exact oU (hC (hS 5 (iv j)) (h0))
   ·exact oU (hC (hA 2 14) (h0))
   ·refine oL 0 ?_
    rintro P W hs m ⟨-, b7⟩
    refine kM (kc (kA m 1 13) (kc (kA m 3 15) k0)) fun o => ?_
    refine Xd stT (e := Vu) (l := d5) (A := A2) (c := c3) (T := 22) (E := 33) (x := (.tmp 13)) (ix := (.tmp 15)) (ki := .i64) (iz := (IntKind.wrap .i64 (j - 1))) (d := (some 16)) (k := 4) K rfl K K K K (RdT.sp (Zh s) b7) a9 b0 ?_
    intro b8 b9 c0 f0 hc276
    exact ⟨rfl, _, Qa o, ⟨b8, b9, c0, rfl⟩⟩
   ·refine oL 0 ?_
    rintro P W hs m ⟨-, c1⟩
    obtain ⟨c2, c4, c5, c6⟩ := m 4 16 K
    refine kM (kc c6 k0) fun o => ?_
    refine Qx.cells (t := 33) (x := (.tmp 16)) (b := c2) (off := (c4 + Int.toNat (IntKind.wrap .i64 (j - 1)) * Vu.sz)) (xs := [(sv (stT i).1), (iv (stT i).2.1), (iv (stT i).2.2.1), (lv i.2.2.2.1.1 (stT i).2.2.2.1 i.2.2.2.1.2.1), (lv i.2.2.2.2.1 (stT i).2.2.2.2 i.2.2.2.2.2.1)]) (d := (some 17)) (k := 5) K rfl K K K (Vd (e := Vu) (Qh (RdT.sp (Zh s) c1) c5 a9 b0) a5 rfl) ?_
    exact eK o
   ·refine oH 0 1 ?_
    rintro P W hs m ⟨-, a3⟩
    refine kM (kc (kA m 0 12) (kc (kA m 5 17) k0)) fun o => ?_
    refine Uo (f := p) (fo := (.tmp 12)) (xs := #[(.tmp 17)]) (tys := #[33]) (first := #[]) (captured := q) (args := (([(.agg #[(sv (stT i).1), (iv (stT i).2.1), (iv (stT i).2.2.1), (lv i.2.2.2.1.1 (stT i).2.2.2.1 i.2.2.2.1.2.1), (lv i.2.2.2.2.1 (stT i).2.2.2.2 i.2.2.2.2.2.1)])] : List Value) ++ (q).toList)) (d := (some 18)) (k := 6) K rfl K K hcf9 (a7 (stT i).1 (stT i).2.1 (stT i).2.2.1 (stT i).2.2.2.1 (stT i).2.2.2.2 u W i.2.2.2.1.1 i.2.2.2.1.2.1 i.2.2.2.2.1 i.2.2.2.2.2.1 (SP.keeps a3) (RdT.sp (Zh (dp1 (dp2 (dp2 (dp2 (Gd s a5)))))) a3) (RdT.sp (Zh (dp2 (dp2 (dp2 (dp2 (Gd s a5)))))) a3) b5) ?_
    rintro e f2 ⟨rfl, b1⟩
    refine ⟨_, rfl, ?_⟩
    have c7 := SP.call a3 b1
    clear b1
    refine ⟨_, Qa o, rfl, ?_⟩
    exact (ai (ai rfl (trivial)) c7)
   ·exact oU (hC (hS 1 (.func (.func p) #[] q)) (h0))
   ·exact oU (hC (hS 0 (lv A2 (mT d5) c3)) (h0))
   ·exact oU (hC (hS 5 (iv j)) (h0))
   ·refine Owe.light K [0, 1] K (Qc ?_ (Qc ?_ Qq))
    ·rintro P W hs m ⟨-, c8⟩
     refine kM (kc (kA m 8 20) (kc (kA m 9 21) k0)) fun o => ?_
     refine Xd stT (e := Vu) (l := d5) (A := A2) (c := c3) (T := 22) (E := 33) (x := (.tmp 20)) (ix := (.tmp 21)) (ki := .i64) (iz := j) (d := (some 22)) (k := 10) K rfl K K K K (RdT.sp (Zh s) c8) a0 a1 ?_
     intro c9 d0 d1 f3 hc294
     exact ⟨rfl, _, Qa o, ⟨c9, d0, d1, rfl⟩⟩
    rintro P W hs m ⟨⟨f4, -⟩, d2⟩
    refine kM (kc (kA m 8 20) (kc (kA m 9 21) k0)) fun o => ?_
    refine Xd stT (e := Vu) (l := d5) (A := A2) (c := c3) (T := 22) (E := 33) (x := (.tmp 20)) (ix := (.tmp 21)) (ki := .i64) (iz := j) (d := (some 22)) (k := 10) K rfl K K K K (RdT.sp (Zh s) d2) a0 a1 ?_
    intro d3 d4 d6 f5 hc302
    exact ⟨rfl, _, Qa o, ⟨d3, d4, d6, rfl⟩⟩
   ·refine Owe.light K [0, 1] K (Qc ?_ (Qc ?_ Qq))
    ·rintro P W hs m ⟨-, d7⟩
     obtain ⟨d8, d9, e0, a6⟩ := m 10 22 K
     refine kM (kc a6 k0) fun o => ?_
     refine Qx.cells (t := 33) (x := (.tmp 22)) (b := d8) (off := (d9 + Int.toNat j * Vu.sz)) (xs := [(sv (stT g).1), (iv (stT g).2.1), (iv (stT g).2.2.1), (lv g.2.2.2.1.1 (stT g).2.2.2.1 g.2.2.2.1.2.1), (lv g.2.2.2.2.1 (stT g).2.2.2.2 g.2.2.2.2.2.1)]) (d := (some 23)) (k := 11) K rfl K K K (Vd (e := Vu) (Qh (RdT.sp (Zh s) d7) e0 a0 a1) a2 rfl) ?_
     exact eK o
    rintro P W hs m ⟨⟨f6, -⟩, e1⟩
    obtain ⟨e2, e3, e4, a6⟩ := m 10 22 K
    refine kM (kc a6 k0) fun o => ?_
    refine Qx.cells (t := 33) (x := (.tmp 22)) (b := e2) (off := (e3 + Int.toNat j * Vu.sz)) (xs := [(sv (stT g).1), (iv (stT g).2.1), (iv (stT g).2.2.1), (lv g.2.2.2.1.1 (stT g).2.2.2.1 g.2.2.2.1.2.1), (lv g.2.2.2.2.1 (stT g).2.2.2.2 g.2.2.2.2.2.1)]) (d := (some 23)) (k := 11) K rfl K K K (Vd (e := Vu) (Qh (RdT.sp (Zh s) e1) e4 a0 a1) a2 rfl) ?_
    exact eK o
   ·refine oH 1 2 ?_
    rintro P W hs m ⟨⟨e5, -⟩, a4⟩
    refine kM (kc (kA m 7 19) (kc (kA m 11 23) k0)) fun o => ?_
    refine Uo (f := p) (fo := (.tmp 19)) (xs := #[(.tmp 23)]) (tys := #[33]) (first := #[]) (captured := q) (args := (([(.agg #[(sv (stT g).1), (iv (stT g).2.1), (iv (stT g).2.2.1), (lv g.2.2.2.1.1 (stT g).2.2.2.1 g.2.2.2.1.2.1), (lv g.2.2.2.2.1 (stT g).2.2.2.2 g.2.2.2.2.2.1)])] : List Value) ++ (q).toList)) (d := (some 24)) (k := 12) K rfl K K hcf9 (a7 (stT g).1 (stT g).2.1 (stT g).2.2.1 (stT g).2.2.2.1 (stT g).2.2.2.2 v W g.2.2.2.1.1 g.2.2.2.1.2.1 g.2.2.2.2.1 g.2.2.2.2.2.1 (SP.keeps a4) (RdT.sp (Zh (dp1 (dp2 (dp2 (dp2 (Gd s a2)))))) a4) (RdT.sp (Zh (dp2 (dp2 (dp2 (dp2 (Gd s a2)))))) a4) b6) ?_
    rintro e f7 ⟨rfl, b2⟩
    refine ⟨_, rfl, ?_⟩
    have e6 := SP.call a4 b2
    clear b2
    refine ⟨_, Qa o, rfl, ?_⟩
    exact (ai (ai e5 (ai rfl (trivial))) e6)
   ·refine oL 2 ?_
    rintro P W hs m ⟨⟨e7, e8, -⟩, f8⟩
    refine kN [(18, (sv u)), (24, (sv v))] ⟨(Qr (h := 6) K).symm.trans e7, (Qr (h := 12) K).symm.trans e8, trivial⟩ fun o => ?_
    refine U7 (op := .geq) (T := 9) (T' := 9) (x := (.tmp 18)) (y := (.tmp 24)) (a := u) (b := v) (r := (bv (!(Op.bytesLess u v)))) (d := (some 25)) (k := 13) K rfl K K rfl ?_
    exact eK o
   rintro P f9 hs hf ⟨⟨g0, g1, -⟩, b3⟩
   refine Qy _ (kc (kT hs 0 (lv A2 (mT d5) c3)) (kc (kT hs 1 (.func (.func p) #[] q)) (kc (kT hs 5 (iv j)) (kc (kF hf 13 25) k0)))) ?_
   refine cD 25 H (fun H => ?_) fun H => ?_
   ·refine aC ?_
    refine iR 1 1 [(4, (bv false))] ?_
    refine iF ?_
    refine At.ret K ?_
    refine ⟨(bv false), K, ?_⟩
    obtain rfl := Qe H
    exact ⟨rfl, SP.sel b3 [] rfl rfl⟩
   refine At.skip K ?_
   refine aR ?_
   refine iR 3 3 [(10, (iv j)), (11, (iv (IntKind.wrap .i64 (j + 1)))), (5, (iv (IntKind.wrap .i64 (j + 1))))] ?_
   refine iF ?_
   exact ⟨(IntKind.wrap .i64 (j + 1)), ⟨K, K, K, trivial⟩, SP.sel b3 [] rfl rfl, H⟩
  refine At.exit K (id := 0) K ?_
  refine aC ?_
  refine iR 1 1 [(4, (bv true))] ?_
  refine iF ?_
  refine At.ret K ?_
  refine ⟨(bv true), K, ?_⟩
  obtain rfl := Qe H
  exact ⟨rfl, SP.sel a8 [] rfl rfl⟩
 exact ⟨1, ⟨K, K, K, trivial⟩, SP.sel b4 [] rfl rfl, H⟩
def R9 (a : (List UInt8)) (b : Int) (c : Int) (d : (List (Int × Int))) (e : (List ((List UInt8) × (List UInt8) × Int))) : Option ((List UInt8)) :=
  (some (a))
set_option maxHeartbeats 40000000 in
theorem Fj (A5 : Option Addr) (c6 : Nat) (A9 : Option Addr) (d : Nat) (a : Bs) (f : Int) (g : Int) (b : (List (Int × Int))) (c : (List Tk)) (w0 : World) (k : RdT (Qf (Qv .u32) (Qv .i64)) w0 A5 c6 b) (l : RdT (Qf Qj (Qf Qj (Qv .i64))) w0 A9 d c) (r : (Bs)) (H : R9 a f g b c = some r) :
  Calls Tryz.prog 53 #[(.agg #[(sv a), (iv f), (iv g), (lv A5 b c6), (lv A9 c d)])] w0 (fun e W => e = .returned (sv r) ∧ SP [] w0 W []) := by
 unfold R9 at H
 refine Qt (n := 5) Tryz.func53 K K K ?_
 have j := Qw [] w0
 refine aC ?_
 refine iS 1 ?_
 refine zB 33 (.tmp 0) (.agg #[(sv a), (iv f), (iv g), (lv A5 b c6), (lv A9 c d)]) 1 j ?_
 intro h m i
 refine iR 1 2 [(2, (sv ([] : Bs)))] ?_
 refine iF ?_
 refine aC ?_
 refine iR 1 1 [(3, (pt h 0))] ?_
 refine jL 2 9 3 h 0 0 (sv a) 4 i rfl ?_
 refine iR 1 3 [(2, (sv a))] ?_
 refine iF ?_
 refine At.ret K ?_
 refine ⟨(sv a), K, ?_⟩
 obtain rfl := Qe H
 exact ⟨rfl, SP.sel i [] rfl rfl⟩
def Nc (b : Int → Option (Bool)) (a : Bool) : Option (Bool) :=
  (some (a))
def Jf (a : Int → Option (Bool)) (d : Int) (e : Int) (f : Int) (g : Int) (b : (List Qb)) (c : Int) : Option (Bool) :=
  (cond (decide (c < ((List.length ([d, e, f, g] : List Int) : Nat) : Int))) ((idx ([d, e, f, g] : List Int) c).bind fun h => ((Jr h 1 1073741824).bind fun i => (cond (!i) (some (false)) (a (IntKind.wrap .i64 (c + 1)))))) (cond (decide (((List.length b : Nat) : Int) ≤ 8)) ((Vo b (fun y0 y1 y2 y3 y4 => Gz y0 y1 y2 y3 y4)).bind fun j => (cond (!j) ((Ym b (fun y0 y1 y2 y3 y4 => R9 y0 y1 y2 y3 y4)).bind fun k => (Nc a k)) (Nc a false))) (Nc a false)))
def Uc (a : Int) (b : Int) (c : Int) (d : Int) (e : (List Qb)) : Nat → Int → Option (Bool)
  | 0, _ => none
  | f + 1, g => Jf  (Uc a b c d e f) a b c d e g
def Jo (a : Int) (b : Int) (c : Int) (d : Int) (e : (List Qb)) : Option (Bool) :=
  (Uc a b c d e Zj 0)
set_option maxHeartbeats 40000000 in
theorem Za (A6 : Option Addr) (c7 : Nat) (a : Int) (b : Int) (c : Int) (d : Int) (d9 : (List Qg)) (w0 : World) (hL : Be w0) (t : (dDS Vu Fv).ok w0 (A6, c7, d9)) (r : (Bool)) (H : Jo a b c d (mT d9) = some r) :
  Calls Tryz.prog 22 #[(.agg #[(iv a), (iv b), (iv c), (iv d), (lv A6 (mT d9) c7)])] w0 (fun e W => e = .returned (bv r) ∧ SP [] w0 W []) := by
 unfold Jo at H
 refine Qt (n := 38) Tryz.func22 K K K ?_
 have a1 := Qw [] w0
 refine aC ?_
 refine iS 1 ?_
 refine zB 24 (.tmp 0) (.agg #[(iv a), (iv b), (iv c), (iv d), (lv A6 (mT d9) c7)]) 1 a1 ?_
 intro f b3 k
 refine iR 1 2 [(2, (bv false))] ?_
 refine iF ?_
 refine aQ ?_
 refine aC ?_
 refine iR 1 1 [(5, (pt f 0))] ?_
 refine jL 2 2 5 f 0 0 (iv a) 6 k rfl ?_
 refine iR 1 3 [(7, (pt f 1))] ?_
 refine jL 4 2 7 f 1 0 (iv b) 8 k rfl ?_
 refine iR 1 5 [(9, (pt f 2))] ?_
 refine jL 6 2 9 f 2 0 (iv c) 10 k rfl ?_
 refine iR 1 7 [(11, (pt f 3))] ?_
 refine jL 8 2 11 f 3 0 (iv d) 12 k rfl ?_
 refine iS 9 ?_
 refine zN (Qv .i64) 85 2 4 #[(0, (.tmp 6)), (1, (.tmp 8)), (2, (.tmp 10)), (3, (.tmp 12))] #[(iv a), (iv b), (iv c), (iv d)] ([a, b, c, d] : List Int) 13 k ?_
 intro s b4 a2
 refine iR 2 11 [(14, (iv (ln ([a, b, c, d] : List Int)))), (15, (iv 0))] ?_
 refine iF ?_
 refine Z3 K (id := 0) K ?_
 refine Gm K (fun f3 ρ w => ∃ (g : Int), Vq ρ [(1, (pt f 0)), (13, (lv (some ⟨s, 0, none⟩) ([a, b, c, d] : List Int) (List.length ([a, b, c, d] : List Int)))), (14, (iv (ln ([a, b, c, d] : List Int)))), (15, (iv g))] ∧ SP [] w0 w [Qs f 24 #[(iv a), (iv b), (iv c), (iv d), (lv A6 (mT d9) c7)], Vh 2 (Qv .i64) (some ⟨s, 0, none⟩) (List.length ([a, b, c, d] : List Int)) ([a, b, c, d] : List Int)] ∧ Uc a b c d (mT d9) f3 g = some r) (by rintro ρ w ⟨g, hk, hs, H⟩; cases H) ?_ Zj ?_
 ·rintro f3 ρ u ⟨g, hk, h, H⟩
  refine At.known _ hk ?_
  replace H := (show Jf (Uc a b c d (mT d9) f3) a b c d (mT d9) g = some r from H)
  unfold Jf at H
  refine aC ?_
  refine iR 1 1 [(16, (bv (decide (g < (ln ([a, b, c, d] : List Int))))))] ?_
  refine iF ?_
  refine aQ ?_
  refine cD 16 H (fun H => ?_) fun H => ?_
  ·refine At.skip K ?_
   refine aQ ?_
   refine Z3 K (id := 1) K ?_
   refine aC ?_
   obtain ⟨l, v, x, a3, H⟩ := Qu H
   refine jE 1 (Qv .i64) ([a, b, c, d] : List Int) (some ⟨s, 0, none⟩) (List.length ([a, b, c, d] : List Int)) 85 2 (.tmp 13) (.tmp 15) g 17 (Qz (SP.get h (i := 1) rfl)) v x ?_
   intro a4 a5 a6 b5 hc125
   refine jX 2 2 17 a4 (a5 + Int.toNat g * (Qv .i64).sz) (iv l) 18 (Ql (e := (Qv .i64)) (Qh (Qz (SP.get h (i := 1) rfl)) a6 v x) a3 (j := 0) rfl) ?_
   refine iR 1 3 [(4, (iv l))] ?_
   refine iF ?_
   refine aC ?_
   refine iR 1 1 [(19, (iv l))] ?_
   obtain ⟨y, a7, H⟩ := Qd H
   refine iS 2 ?_
   refine cS h 48 #[(.tmp 19), (.const (.int .i64 (1))), (.const (.int .i64 (1073741824)))] #[2, 2, 2] 20 Tryz.call48 (U1  l 1 1073741824 u  y a7) ?_
   intro b6 a0
   refine iR 1 3 [(21, (bv (!y)))] ?_
   refine iF ?_
   refine cD 21 H (fun H => ?_) fun H => ?_
   ·refine aC ?_
    refine iR 1 1 [(2, (bv false))] ?_
    refine iF ?_
    refine At.ret K ?_
    refine ⟨(bv false), K, ?_⟩
    obtain rfl := Qe H
    exact ⟨rfl, SP.sel a0 [] rfl rfl⟩
   refine At.skip K ?_
   refine aR ?_
   refine iR 2 2 [(22, (iv (IntKind.wrap .i64 (g + 1)))), (15, (iv (IntKind.wrap .i64 (g + 1))))] ?_
   refine iF ?_
   exact ⟨(IntKind.wrap .i64 (g + 1)), ⟨K, K, K, K, trivial⟩, SP.sel a0 [0, 1] rfl rfl, H⟩
  refine At.exit K (id := 0) K ?_
  refine aQ ?_
  refine At.join (fun ρ w => ∃ (m : Bool), Vq ρ [(2, (bv m))] ∧ SP [] w0 w [] ∧ Nc (Uc a b c d (mT d9) f3) m = some r) ?_ ?_
  ·refine aR ?_
   refine iR 1 1 [(23, (pt f 4))] ?_
   refine jL 2 22 23 f 4 0 (lv A6 (mT d9) c7) 24 h rfl ?_
   refine iR 3 5 [(25, (iv (ln (mT d9)))), (26, (bv (decide ((ln (mT d9)) ≤ 8)))), (27, (bv (decide ((ln (mT d9)) ≤ 8))))] ?_
   refine gD 27 H (fun H => ?_) fun H => ?_
   ·refine iR 1 6 [(28, (pt f 4))] ?_
    refine jL 7 22 28 f 4 0 (lv A6 (mT d9) c7) 29 h rfl ?_
    obtain ⟨o, a8, H⟩ := Qd H
    refine iS 8 ?_
    refine cS h 49 #[(.tmp 29), (.func 50)] #[22, 82] 30 Tryz.call49 (N1 A6 c7 50 #[] d9 (fun y0 y1 y2 y3 y4 => Gz y0 y1 y2 y3 y4) u (Dp.sp t h) Tryz.call50 (fun y0 y1 y2 y3 y4 z w Ay3 cy3 Ay4 cy4 hw hy3 hy4 hz => Fi Ay3 cy3 Ay4 cy4 y0 y1 y2 y3 y4 w (Q4 (Q4 hL (SP.keeps h)) hw) hy3 hy4 z hz) o a8) ?_
    intro a9 p
    refine iR 3 11 [(31, (bv (!o))), (32, (bv (!o))), (33, (bv (!o)))] ?_
    refine gD 33 H (fun H => ?_) fun H => ?_
    ·refine iR 1 12 [(34, (pt f 4))] ?_
     refine jL 13 22 34 f 4 0 (lv A6 (mT d9) c7) 35 p rfl ?_
     obtain ⟨q, b0, H⟩ := Qd H
     refine iS 14 ?_
     refine cS p 52 #[(.tmp 35), (.func 53)] #[22, 89] 36 Tryz.call52 (D2 A6 c7 53 #[] d9 (fun y0 y1 y2 y3 y4 => R9 y0 y1 y2 y3 y4) a9 (Dp.sp t p) Tryz.call53 (fun y0 y1 y2 y3 y4 z w Ay3 cy3 Ay4 cy4 hw hy3 hy4 hz => Fj Ay3 cy3 Ay4 cy4 y0 y1 y2 y3 y4 w hy3 hy4 z hz) q b0) ?_
     intro b7 b1
     refine iR 2 16 [(37, (bv q)), (2, (bv q))] ?_
     refine iF ?_
     exact ⟨q, ⟨K, trivial⟩, SP.sel b1 [] rfl rfl, H⟩
    refine iR 5 16 (uN 34 3 [(37, (bv false)), (2, (bv false))]) ?_
    refine iF ?_
    exact ⟨false, ⟨K, trivial⟩, SP.sel p [] rfl rfl, H⟩
   refine iR 11 16 (uN 28 4 ((32, (bv false)) :: (33, (bv false)) :: (uN 34 3 [(37, (bv false)), (2, (bv false))]))) ?_
   refine iF ?_
   exact ⟨false, ⟨K, trivial⟩, SP.sel h [] rfl rfl, H⟩
  rintro ρ b8 ⟨m, hk, b2, H⟩
  unfold Nc at H
  first | refine At.known _ hk ?_ | rw [← Qo hk]
  refine At.ret K ?_
  refine ⟨(bv m), K, ?_⟩
  obtain rfl := Qe H
  exact ⟨rfl, SP.sel b2 [] rfl rfl⟩
 exact ⟨0, ⟨K, K, K, K, trivial⟩, SP.sel a2 [0, 1] rfl rfl, H⟩
end Go.Proofs.YtoflbpmbkmephaaGreatDoor
namespace Go.Proofs.YtoflbpmbkmephaaGreatDoor
open Go.RowKit
def Q0 (d : Int → Option (Bool)) (a : Int → Option (Bool)) (b : Int) (c : Bool) : Option (Bool) :=
  (cond c (some (false)) (a (IntKind.wrap .i64 (b + 1))))
def Vr (b : Int → Option (Bool)) (c : Int → Option (Bool)) (e : (List ((List UInt8) × (List UInt8) × Int))) (a : Int) : Option (Bool) :=
  (cond (decide (a < ((List.length e : Nat) : Int))) ((idx e a).bind fun d => ((Uq d.1).bind fun f => (cond (!f) (Q0 b c a true) (cond (decide (a > 0)) ((idx e (IntKind.wrap .i64 (a - 1))).bind fun g => (cond (!(Op.bytesLess g.1 d.1)) (Q0 b c a true) (cond (d.2.1 == ([] : List UInt8)) (Q0 b c a true) (cond (decide (((List.length d.2.1 : Nat) : Int) > 32)) (Q0 b c a true) (cond (decide (d.2.2 < 0)) (Q0 b c a true) (Q0 b c a (decide (d.2.2 > 1099511627776)))))))) (cond (d.2.1 == ([] : List UInt8)) (Q0 b c a true) (cond (decide (((List.length d.2.1 : Nat) : Int) > 32)) (Q0 b c a true) (cond (decide (d.2.2 < 0)) (Q0 b c a true) (Q0 b c a (decide (d.2.2 > 1099511627776)))))))))) (some (true)))
def Vc (a : Int → Option (Bool)) (b : (List ((List UInt8) × (List UInt8) × Int))) : Nat → Int → Option (Bool)
  | 0, _ => none
  | f + 1, c => Vr a (Vc a b f) b c
def V6 (b : Int → Option (Bool)) (c : (List (Int × Int))) (e : (List ((List UInt8) × (List UInt8) × Int))) (a : Int) : Option (Bool) :=
  (cond (decide (a < ((List.length c : Nat) : Int))) ((idx c a).bind fun d => ((Y8 d.1 d.2).bind fun f => (cond (!f) (some (false)) (b (IntKind.wrap .i64 (a + 1)))))) (Vc b e Zj 0))
def Q6 (a : (List (Int × Int))) (b : (List ((List UInt8) × (List UInt8) × Int))) : Nat → Int → Option (Bool)
  | 0, _ => none
  | f + 1, c => V6  (Q6 a b f) a b c
def Ve (a : (List (Int × Int))) (b : (List ((List UInt8) × (List UInt8) × Int))) (c : Bool) : Option (Bool) :=
  (cond c (some (false)) (Q6 a b Zj 0))
def Y1 (e : (List UInt8)) (c : Int) (d : Int) (a : (List (Int × Int))) (b : (List ((List UInt8) × (List UInt8) × Int))) : Option (Bool) :=
  ((Uq e).bind fun f => (cond (!f) (Ve a b true) (cond (decide (c < 0)) (Ve a b true) (cond (decide (c > 8)) (Ve a b true) (cond (decide (d < 0)) (Ve a b true) (cond (decide (d > 8)) (Ve a b true) (cond (decide (((List.length a : Nat) : Int) > 4)) (Ve a b true) (Ve a b (decide (((List.length b : Nat) : Int) > 4))))))))))
set_option maxHeartbeats 40000000 in
theorem Uh (A5 : Option Addr) (c6 : Nat) (A9 : Option Addr) (z : Nat) (a5 : Bs) (a0 : Int) (a1 : Int) (u : (List (Int × Int))) (o : (List Tk)) (w0 : World) (c9 : RdT (Qf (Qv .u32) (Qv .i64)) w0 A5 c6 u) (b0 : RdT (Qf Qj (Qf Qj (Qv .i64))) w0 A9 z o) (r : (Bool)) (H : Y1 a5 a0 a1 u o = some r) :
  Calls Tryz.prog 54 #[(.agg #[(sv a5), (iv a0), (iv a1), (lv A5 u c6), (lv A9 o z)])] w0 (fun e W => e = .returned (bv r) ∧ SP [] w0 W []) := by
 unfold Y1 at H
 refine Qt (n := 109) Tryz.func54 K K K ?_
 have e9 := Qw [] w0
 refine aC ?_
 refine iS 1 ?_
 refine zB 33 (.tmp 0) (.agg #[(sv a5), (iv a0), (iv a1), (lv A5 u c6), (lv A9 o z)]) 1 e9 ?_
 intro m f0 d0
 refine iR 1 2 [(2, (bv false))] ?_
 refine iF ?_
 refine aQ ?_
 refine aQ ?_
 refine At.join (fun ρ w => ∃ (c5 : Bool), Vq ρ [(1, (pt m 0)), (41, (bv c5))] ∧ SP [] w0 w [Qs m 33 #[(sv a5), (iv a0), (iv a1), (lv A5 u c6), (lv A9 o z)]] ∧ Ve u o c5 = some r) ?_ ?_
 ·refine aR ?_
  refine iR 1 1 [(6, (pt m 0))] ?_
  refine jL 2 9 6 m 0 0 (sv a5) 7 d0 rfl ?_
  obtain ⟨c7, f1, H⟩ := Qd H
  refine iS 3 ?_
  refine cS d0 75 #[(.tmp 7)] #[9] 8 Tryz.call75 (Vn  a5 f0  c7 f1) ?_
  intro s0 a7
  refine iR 2 5 [(9, (bv (!c7))), (10, (bv (!c7)))] ?_
  refine gD 10 H (fun H => ?_) fun H => ?_
  ·refine iR 31 36 (uN 11 3 ((14, (bv true)) :: (15, (bv true)) :: (uN 16 3 ((19, (bv true)) :: (20, (bv true)) :: (uN 21 3 ((24, (bv true)) :: (25, (bv true)) :: (uN 26 3 ((29, (bv true)) :: (30, (bv true)) :: (uN 31 4 ((35, (bv true)) :: (36, (bv true)) :: (uN 37 4 [(41, (bv true))]))))))))))) ?_
   refine iF ?_
   exact ⟨true, ⟨K, K, trivial⟩, SP.sel a7 [0] rfl rfl, H⟩
  refine iR 1 6 [(11, (pt m 1))] ?_
  refine jL 7 3 11 m 1 0 (iv a0) 12 a7 rfl ?_
  refine iR 3 10 [(13, (bv (decide (a0 < 0)))), (14, (bv (decide (a0 < 0)))), (15, (bv (decide (a0 < 0))))] ?_
  refine gD 15 H (fun H => ?_) fun H => ?_
  ·refine iR 26 36 (uN 16 3 ((19, (bv true)) :: (20, (bv true)) :: (uN 21 3 ((24, (bv true)) :: (25, (bv true)) :: (uN 26 3 ((29, (bv true)) :: (30, (bv true)) :: (uN 31 4 ((35, (bv true)) :: (36, (bv true)) :: (uN 37 4 [(41, (bv true))]))))))))) ?_
   refine iF ?_
   exact ⟨true, ⟨K, K, trivial⟩, SP.sel a7 [0] rfl rfl, H⟩
  refine iR 1 11 [(16, (pt m 1))] ?_
  refine jL 12 3 16 m 1 0 (iv a0) 17 a7 rfl ?_
  refine iR 3 15 [(18, (bv (decide (a0 > 8)))), (19, (bv (decide (a0 > 8)))), (20, (bv (decide (a0 > 8))))] ?_
  refine gD 20 H (fun H => ?_) fun H => ?_
  ·refine iR 21 36 (uN 21 3 ((24, (bv true)) :: (25, (bv true)) :: (uN 26 3 ((29, (bv true)) :: (30, (bv true)) :: (uN 31 4 ((35, (bv true)) :: (36, (bv true)) :: (uN 37 4 [(41, (bv true))]))))))) ?_
   refine iF ?_
   exact ⟨true, ⟨K, K, trivial⟩, SP.sel a7 [0] rfl rfl, H⟩
  refine iR 1 16 [(21, (pt m 2))] ?_
  refine jL 17 3 21 m 2 0 (iv a1) 22 a7 rfl ?_
  refine iR 3 20 [(23, (bv (decide (a1 < 0)))), (24, (bv (decide (a1 < 0)))), (25, (bv (decide (a1 < 0))))] ?_
  refine gD 25 H (fun H => ?_) fun H => ?_
  ·refine iR 16 36 (uN 26 3 ((29, (bv true)) :: (30, (bv true)) :: (uN 31 4 ((35, (bv true)) :: (36, (bv true)) :: (uN 37 4 [(41, (bv true))]))))) ?_
   refine iF ?_
   exact ⟨true, ⟨K, K, trivial⟩, SP.sel a7 [0] rfl rfl, H⟩
  refine iR 1 21 [(26, (pt m 2))] ?_
  refine jL 22 3 26 m 2 0 (iv a1) 27 a7 rfl ?_
  refine iR 3 25 [(28, (bv (decide (a1 > 8)))), (29, (bv (decide (a1 > 8)))), (30, (bv (decide (a1 > 8))))] ?_
  refine gD 30 H (fun H => ?_) fun H => ?_
  ·refine iR 11 36 (uN 31 4 ((35, (bv true)) :: (36, (bv true)) :: (uN 37 4 [(41, (bv true))]))) ?_
   refine iF ?_
   exact ⟨true, ⟨K, K, trivial⟩, SP.sel a7 [0] rfl rfl, H⟩
  refine iR 1 26 [(31, (pt m 3))] ?_
  refine jL 27 30 31 m 3 0 (lv A5 u c6) 32 a7 rfl ?_
  refine iR 4 31 [(33, (iv (ln u))), (34, (bv (decide ((ln u) > 4)))), (35, (bv (decide ((ln u) > 4)))), (36, (bv (decide ((ln u) > 4))))] ?_
  refine gD 36 H (fun H => ?_) fun H => ?_
  ·refine iR 5 36 (uN 37 4 [(41, (bv true))]) ?_
   refine iF ?_
   exact ⟨true, ⟨K, K, trivial⟩, SP.sel a7 [0] rfl rfl, H⟩
  refine iR 1 32 [(37, (pt m 4))] ?_
  refine jL 33 31 37 m 4 0 (lv A9 o z) 38 a7 rfl ?_
  refine iR 3 36 [(39, (iv (ln o))), (40, (bv (decide ((ln o) > 4)))), (41, (bv (decide ((ln o) > 4))))] ?_
  refine iF ?_
  exact ⟨(decide ((ln o) > 4)), ⟨K, K, trivial⟩, SP.sel a7 [0] rfl rfl, H⟩
 rintro ρ s1 ⟨c5, hk, d1, H⟩
 unfold Ve at H
 first | refine At.known _ hk ?_ | rw [← Qo hk]
 refine cD 41 H (fun H => ?_) fun H => ?_
 ·refine aC ?_
  refine iR 1 1 [(2, (bv false))] ?_
  refine iF ?_
  refine At.ret K ?_
  refine ⟨(bv false), K, ?_⟩
  obtain rfl := Qe H
  exact ⟨rfl, SP.sel d1 [] rfl rfl⟩
 refine At.skip K ?_
 refine aQ ?_
 refine aC ?_
 refine iR 1 1 [(3, (iv 0))] ?_
 refine iF ?_
 refine Z3 K (id := 0) K ?_
 refine Gm K (fun b9 ρ w => ∃ (a6 : Int), Vq ρ [(1, (pt m 0)), (3, (iv a6))] ∧ SP [] w0 w [Qs m 33 #[(sv a5), (iv a0), (iv a1), (lv A5 u c6), (lv A9 o z)]] ∧ Q6 u o b9 a6 = some r) (by rintro ρ w ⟨a6, hk, hs, H⟩; cases H) ?_ Zj ?_
 ·rintro b9 ρ f2 ⟨a6, hk, c0, H⟩
  refine At.known _ hk ?_
  replace H := (show V6 (Q6 u o b9) u o a6 = some r from H)
  unfold V6 at H
  refine aQ ?_
  refine aC ?_
  refine iR 2 2 [(42, (iv a6)), (43, (pt m 3))] ?_
  refine jL 3 30 43 m 3 0 (lv A5 u c6) 44 c0 rfl ?_
  refine iR 2 5 [(45, (iv (ln u))), (46, (bv (decide (a6 < (ln u)))))] ?_
  refine iF ?_
  refine cD 46 H (fun H => ?_) fun H => ?_
  ·refine At.skip K ?_
   refine aQ ?_
   refine Z3 K (id := 1) K ?_
   refine aC ?_
   refine iR 1 1 [(49, (pt m 3))] ?_
   refine jL 2 30 49 m 3 0 (lv A5 u c6) 50 c0 rfl ?_
   refine iR 1 3 [(51, (iv a6))] ?_
   obtain ⟨c3, d2, d3, f3, H⟩ := Qu H
   refine jE 4 (Qf (Qv .u32) (Qv .i64)) u A5 c6 30 102 (.tmp 50) (.tmp 51) a6 52 (RdT.sp c9 c0) d2 d3 ?_
   intro f4 f5 f6 s2 hc5167
   refine iS 5 ?_
   refine Qx.cells (t := 102) (x := (.tmp 52)) (b := f4) (off := (f5 + Int.toNat a6 * (Qf (Qv .u32) (Qv .i64)).sz)) (xs := [(.int .u32 c3.1), (iv c3.2)]) (d := (some 53)) (k := 4) K rfl K K K (Vd (e := (Qf (Qv .u32) (Qv .i64))) (Qh (RdT.sp c9 c0) f6 d2 d3) f3 rfl) ?_
   obtain ⟨d4, f7, H⟩ := Qd H
   refine iS 6 ?_
   refine cS c0 104 #[(.tmp 53)] #[102] 54 Tryz.call104 (Gg  c3.1 c3.2 f2  d4 f7) ?_
   intro s3 d5
   refine iR 1 7 [(55, (bv (!d4)))] ?_
   refine iF ?_
   refine cD 55 H (fun H => ?_) fun H => ?_
   ·refine aC ?_
    refine iR 1 1 [(2, (bv false))] ?_
    refine iF ?_
    refine At.ret K ?_
    refine ⟨(bv false), K, ?_⟩
    obtain rfl := Qe H
    exact ⟨rfl, SP.sel d5 [] rfl rfl⟩
   refine At.skip K ?_
   refine aR ?_
   refine iR 3 3 [(47, (iv a6)), (48, (iv (IntKind.wrap .i64 (a6 + 1)))), (3, (iv (IntKind.wrap .i64 (a6 + 1))))] ?_
   refine iF ?_
   exact ⟨(IntKind.wrap .i64 (a6 + 1)), ⟨K, K, trivial⟩, SP.sel d5 [0] rfl rfl, H⟩
  refine At.exit K (id := 0) K ?_
  refine aQ ?_
  refine aC ?_
  refine iR 1 1 [(4, (iv 0))] ?_
  refine iF ?_
  refine Z3 K (id := 2) K ?_
  refine Gm K (fun c4 ρ w => ∃ (i : Int), Vq ρ [(1, (pt m 0)), (4, (iv i))] ∧ SP [] w0 w [Qs m 33 #[(sv a5), (iv a0), (iv a1), (lv A5 u c6), (lv A9 o z)]] ∧ Vc (Q6 u o b9) o c4 i = some r) (by rintro ρ w ⟨i, hk, hs, H⟩; cases H) ?_ Zj ?_
  ·rintro c4 ρ s4 ⟨i, hk, c1, H⟩
   refine At.known _ hk ?_
   replace H := (show Vr (Q6 u o b9) (Vc (Q6 u o b9) o c4) o i = some r from H)
   unfold Vr at H
   refine aQ ?_
   refine aC ?_
   refine iR 2 2 [(56, (iv i)), (57, (pt m 4))] ?_
   refine jL 3 31 57 m 4 0 (lv A9 o z) 58 c1 rfl ?_
   refine iR 2 5 [(59, (iv (ln o))), (60, (bv (decide (i < (ln o)))))] ?_
   refine iF ?_
   refine cD 60 H (fun H => ?_) fun H => ?_
   ·refine At.skip K ?_
    refine aQ ?_
    refine Z3 K (id := 3) K ?_
    refine aC ?_
    refine iR 1 1 [(63, (pt m 4))] ?_
    refine jL 2 31 63 m 4 0 (lv A9 o z) 64 c1 rfl ?_
    refine iR 1 3 [(65, (iv i))] ?_
    obtain ⟨c, d6, d7, f8, H⟩ := Qu H
    refine jE 4 (Qf Qj (Qf Qj (Qv .i64))) o A9 z 31 37 (.tmp 64) (.tmp 65) i 66 (RdT.sp b0 c1) d6 d7 ?_
    intro f9 g0 g1 s5 hc6882
    refine iS 5 ?_
    refine Qx.cells (t := 37) (x := (.tmp 66)) (b := f9) (off := (g0 + Int.toNat i * (Qf Qj (Qf Qj (Qv .i64))).sz)) (xs := [(sv c.1), (sv c.2.1), (iv c.2.2)]) (d := (some 67)) (k := 4) K rfl K K K (Vd (e := (Qf Qj (Qf Qj (Qv .i64)))) (Qh (RdT.sp b0 c1) g1 d6 d7) f8 rfl) ?_
    refine iS 6 ?_
    refine zA 37 (.agg #[(sv ([] : Bs)), (sv ([] : Bs)), (iv 0)]) 5 c1 ?_
    intro h s6 g2
    refine iS 7 ?_
    refine zT 37 (.tmp 5) (.tmp 67) h 0 1 (.agg #[(sv c.1), (sv c.2.1), (iv c.2.2)]) #[(sv c.1), (sv c.2.1), (iv c.2.2)] none g2 ?_
    intro s7 b1
    refine iF ?_
    refine aQ ?_
    refine At.join (fun ρ w => ∃ (c8 : Bool), Vq ρ [(1, (pt m 0)), (4, (iv i)), (108, (bv c8))] ∧ SP [] w0 w [Qs m 33 #[(sv a5), (iv a0), (iv a1), (lv A5 u c6), (lv A9 o z)]] ∧ Q0 (Q6 u o b9) (Vc (Q6 u o b9) o c4) i c8 = some r) ?_ ?_
    ·obtain ⟨p, b2, H⟩ := Qd H
     rcases Bool.eq_false_or_eq_true (!p) with q | q
     ·have H := ct H q
      refine aG [GEq (pt h 0), GEq (sv c.1), GEq (bv p), GEq (bv (!p)), GEq (bv (!p)), GEq undef, GEq undef, GEq undef, GEq undef, GEq undef, GEq undef, GEq undef, GEq undef, GEq undef, GEq undef, GEq undef, GEq undef, GEq undef, GEq undef, GEq (bv true), GEq (bv true), GEq undef, GEq undef, GEq undef, GEq (bv true), GEq (bv true), GEq undef, GEq undef, GEq undef, GEq undef, GEq (bv true), GEq (bv true), GEq undef, GEq undef, GEq undef, GEq (bv true), GEq (bv true), GEq undef, GEq undef, GEq undef, GEq (bv true)] [2] (tG [] w0 [Qs m 33 #[(sv a5), (iv a0), (iv a1), (lv A5 u c6), (lv A9 o z)], Qs h 37 #[(sv c.1), (sv c.2.1), (iv c.2.2)]] [([], []), ([2], [(bv p)])]) 41 1 ⟨trivial, SP.drew b1⟩ ?_ ?_
      iterate 41 refine And.intro ?_ ?_
      exact trivial
      ·exact oU (hC (hS 5 (pt h 0)) (h0))
      ·refine oL 0 ?_
       rintro P W hs f ⟨-, g3⟩
       refine kM (kc (kA f 0 68) k0) fun g => ?_
       refine sL 9 68 h 0 1 (sv c.1) 69 g3 rfl ?_
       exact eK g
      ·refine oH 0 1 ?_
       rintro P W hs f ⟨-, g4⟩
       refine kM (kc (kA f 1 69) k0) fun g => ?_
       refine cS g4 75 #[(.tmp 69)] #[9] 70 Tryz.call75 (Vn  c.1 W  p b2) ?_
       intro s8 g5
       refine ⟨_, Qa g, rfl, ?_⟩
       exact (ai (ai rfl (trivial)) g5)
      ·exact oU (hC (hA 2 70) (h0))
      ·exact oU (hC (hA 3 71) (h0))
      iterate 3 exact oY (hC (hB 4 72 q) (h0))
      iterate 10 exact oY (hC (hA 7 75) (h0))
      ·exact oY (hC (hB 4 72 q) (h0))
      ·exact oU (hC (hB 4 72 q) (hC (hA 18 86) (h0)))
      ·exact oU (hC (hA 19 87) (h0))
      iterate 3 exact oY (hC (hA 20 88) (h0))
      ·exact oU (hC (hA 20 88) (hC (hA 23 91) (h0)))
      ·exact oU (hC (hA 24 92) (h0))
      iterate 4 exact oY (hC (hA 25 93) (h0))
      ·exact oU (hC (hA 25 93) (hC (hA 29 97) (h0)))
      ·exact oU (hC (hA 30 98) (h0))
      iterate 3 exact oY (hC (hA 31 99) (h0))
      ·exact oU (hC (hA 31 99) (hC (hA 34 102) (h0)))
      ·exact oU (hC (hA 35 103) (h0))
      iterate 3 exact oY (hC (hA 36 104) (h0))
      ·exact oU (hC (hA 36 104) (hC (hA 39 107) (h0)))
      rintro P s9 hs hf ⟨⟨t0, -⟩, g6⟩
      refine Qy _ (kc (kT hs 1 (pt m 0)) (kc (kT hs 4 (iv i)) (kc (kF hf 40 108) k0))) ?_
      exact ⟨true, ⟨K, K, K, trivial⟩, SP.sel g6 [0] rfl rfl, H⟩
     have H := cf H q
     rcases Bool.eq_false_or_eq_true (decide (i > 0)) with l | l
     ·have H := ct H l
      obtain ⟨s, b3, b4, c2, H⟩ := Qu H
      rcases Bool.eq_false_or_eq_true (!(Op.bytesLess s.1 c.1)) with a2 | a2
      ·have H := ct H a2
       refine aG [GEq (pt h 0), GEq (sv c.1), GEq (bv p), GEq (bv (!p)), GEq (bv (!p)), GEq (iv i), GEq (bv (decide (i > 0))), GEq (bv (decide (i > 0))), GEq (pt m 4), GEq (lv A9 o z), GEq (iv i), GEq (iv (IntKind.wrap .i64 (i - 1))), Zt A9 (Qf Qj (Qf Qj (Qv .i64))).sz (IntKind.wrap .i64 (i - 1)), Zt A9 (Qf Qj (Qf Qj (Qv .i64))).sz (IntKind.wrap .i64 (i - 1)), GEq (sv s.1), GEq (pt h 0), GEq (sv c.1), GEq (bv (!(Op.bytesLess s.1 c.1))), GEq (bv (!(Op.bytesLess s.1 c.1))), GEq (bv (!(Op.bytesLess s.1 c.1))), GEq (bv (!(Op.bytesLess s.1 c.1))), GEq undef, GEq undef, GEq undef, GEq (bv true), GEq (bv true), GEq undef, GEq undef, GEq undef, GEq undef, GEq (bv true), GEq (bv true), GEq undef, GEq undef, GEq undef, GEq (bv true), GEq (bv true), GEq undef, GEq undef, GEq undef, GEq (bv true)] [2] (tG [] w0 [Qs m 33 #[(sv a5), (iv a0), (iv a1), (lv A5 u c6), (lv A9 o z)], Qs h 37 #[(sv c.1), (sv c.2.1), (iv c.2.2)]] [([], []), ([2], [(bv p)])]) 41 1 ⟨trivial, SP.drew b1⟩ ?_ ?_
       iterate 41 refine And.intro ?_ ?_
       exact trivial
       ·exact oU (hC (hS 5 (pt h 0)) (h0))
       ·refine oL 0 ?_
        rintro P W hs f ⟨-, g7⟩
        refine kM (kc (kA f 0 68) k0) fun g => ?_
        refine sL 9 68 h 0 1 (sv c.1) 69 g7 rfl ?_
        exact eK g
       ·refine oH 0 1 ?_
        rintro P W hs f ⟨-, g8⟩
        refine kM (kc (kA f 1 69) k0) fun g => ?_
        refine cS g8 75 #[(.tmp 69)] #[9] 70 Tryz.call75 (Vn  c.1 W  p b2) ?_
        intro t1 g9
        refine ⟨_, Qa g, rfl, ?_⟩
        exact (ai (ai rfl (trivial)) g9)
       ·exact oU (hC (hA 2 70) (h0))
       ·exact oU (hC (hA 3 71) (h0))
       ·exact oU (hC (hS 4 (iv i)) (hC (hB 4 72 q) (h0)))
       ·exact oU (hC (hA 5 73) (hC (hB 4 72 q) (h0)))
       ·exact oU (hC (hA 6 74) (hC (hB 4 72 q) (h0)))
       ·exact oU (hC (hS 1 (pt m 0)) (hC (hB 7 75 l) (h0)))
       ·refine oL 1 ?_
        rintro P W hs f ⟨⟨t2, -⟩, h1⟩
        refine kM (kc (kA f 8 76) (kc (eb (kA f 7 75) l) k0)) fun g => ?_
        refine sL 31 76 m 4 0 (lv A9 o z) 77 h1 rfl ?_
        exact eK g
       ·exact oU (hC (hS 4 (iv i)) (hC (hB 7 75 l) (h0)))
       ·exact oU (hC (hA 10 78) (hC (hB 7 75 l) (h0)))
       ·refine oL 1 ?_
        rintro P W hs f ⟨⟨t3, -⟩, h2⟩
        refine kM (kc (kA f 9 77) (kc (kA f 11 79) (kc (eb (kA f 7 75) l) k0))) fun g => ?_
        refine zE (Qf Qj (Qf Qj (Qv .i64))) o A9 z 31 37 (.tmp 77) (.tmp 79) (IntKind.wrap .i64 (i - 1)) 80 (RdT.sp b0 h2) b3 b4 ?_
        intro h3 h4 h5 t4 hc7363
        exact ⟨rfl, _, Qa g, ⟨h3, h4, h5, rfl⟩⟩
       ·refine oL 1 ?_
        rintro P W hs f ⟨⟨t5, -⟩, t6⟩
        obtain ⟨d8, d9, h6, b5⟩ := f 12 80 K
        refine kM (kc b5 (kc (eb (kA f 7 75) l) k0)) fun g => ?_
        refine Qx.run (k := 13) (v := (.pointer (some ⟨d8, (d9 + Int.toNat (IntKind.wrap .i64 (i - 1)) * (Qf Qj (Qf Qj (Qv .i64))).sz), none⟩))) K ?_
        exact ⟨rfl, _, Qa g, ⟨d8, d9, h6, rfl⟩⟩
       ·refine oL 1 ?_
        rintro P W hs f ⟨⟨t7, -⟩, h7⟩
        obtain ⟨h8, h9, i0, b6⟩ := f 13 81 K
        refine kM (kc b6 (kc (eb (kA f 7 75) l) k0)) fun g => ?_
        refine sC 9 81 h8 (h9 + Int.toNat (IntKind.wrap .i64 (i - 1)) * (Qf Qj (Qf Qj (Qv .i64))).sz) (sv s.1) 82 (Ql (e := (Qf Qj (Qf Qj (Qv .i64)))) (Qh (RdT.sp b0 h7) i0 b3 b4) c2 (j := 0) rfl) ?_
        exact eK g
       ·exact oU (hC (hS 5 (pt h 0)) (hC (hB 7 75 l) (h0)))
       ·refine oL 1 ?_
        rintro P W hs f ⟨⟨t8, -⟩, i1⟩
        refine kM (kc (kA f 15 83) (kc (eb (kA f 7 75) l) k0)) fun g => ?_
        refine sL 9 83 h 0 1 (sv c.1) 84 i1 rfl ?_
        exact eK g
       ·refine oL 1 ?_
        rintro P W hs f ⟨⟨t9, -⟩, u0⟩
        refine kM (kc (kA f 14 82) (kc (kA f 16 84) (kc (eb (kA f 7 75) l) k0))) fun g => ?_
        refine U7 (op := .geq) (T := 9) (T' := 9) (x := (.tmp 82)) (y := (.tmp 84)) (a := s.1) (b := c.1) (r := (bv (!(Op.bytesLess s.1 c.1)))) (d := (some 85)) (k := 17) K rfl K K rfl ?_
        exact eK g
       ·exact oU (hC (hB 7 75 l) (hC (hA 17 85) (hC (hB 4 72 q) (h0))))
       ·exact oU (hC (hB 4 72 q) (hC (hA 18 86) (h0)))
       ·exact oU (hC (hA 19 87) (h0))
       iterate 3 exact oY (hC (hB 20 88 a2) (h0))
       ·exact oU (hC (hB 20 88 a2) (hC (hA 23 91) (h0)))
       ·exact oU (hC (hA 24 92) (h0))
       iterate 4 exact oY (hC (hA 25 93) (h0))
       ·exact oU (hC (hA 25 93) (hC (hA 29 97) (h0)))
       ·exact oU (hC (hA 30 98) (h0))
       iterate 3 exact oY (hC (hA 31 99) (h0))
       ·exact oU (hC (hA 31 99) (hC (hA 34 102) (h0)))
       ·exact oU (hC (hA 35 103) (h0))
       iterate 3 exact oY (hC (hA 36 104) (h0))
       ·exact oU (hC (hA 36 104) (hC (hA 39 107) (h0)))
       rintro P u1 hs hf ⟨⟨u2, -⟩, i2⟩
       refine Qy _ (kc (kT hs 1 (pt m 0)) (kc (kT hs 4 (iv i)) (kc (kF hf 40 108) k0))) ?_
       exact ⟨true, ⟨K, K, K, trivial⟩, SP.sel i2 [0] rfl rfl, H⟩
      have H := cf H a2
      rcases Bool.eq_false_or_eq_true (c.2.1 == ([] : Bs)) with a3 | a3
      ·have H := ct H a3
       refine aG [GEq (pt h 0), GEq (sv c.1), GEq (bv p), GEq (bv (!p)), GEq (bv (!p)), GEq (iv i), GEq (bv (decide (i > 0))), GEq (bv (decide (i > 0))), GEq (pt m 4), GEq (lv A9 o z), GEq (iv i), GEq (iv (IntKind.wrap .i64 (i - 1))), Zt A9 (Qf Qj (Qf Qj (Qv .i64))).sz (IntKind.wrap .i64 (i - 1)), Zt A9 (Qf Qj (Qf Qj (Qv .i64))).sz (IntKind.wrap .i64 (i - 1)), GEq (sv s.1), GEq (pt h 0), GEq (sv c.1), GEq (bv (!(Op.bytesLess s.1 c.1))), GEq (bv (!(Op.bytesLess s.1 c.1))), GEq (bv (!(Op.bytesLess s.1 c.1))), GEq (bv (!(Op.bytesLess s.1 c.1))), GEq (pt h 1), GEq (sv c.2.1), GEq (bv (c.2.1 == ([] : Bs))), GEq (bv (c.2.1 == ([] : Bs))), GEq (bv (c.2.1 == ([] : Bs))), GEq undef, GEq undef, GEq undef, GEq undef, GEq (bv true), GEq (bv true), GEq undef, GEq undef, GEq undef, GEq (bv true), GEq (bv true), GEq undef, GEq undef, GEq undef, GEq (bv true)] [2] (tG [] w0 [Qs m 33 #[(sv a5), (iv a0), (iv a1), (lv A5 u c6), (lv A9 o z)], Qs h 37 #[(sv c.1), (sv c.2.1), (iv c.2.2)]] [([], []), ([2], [(bv p)])]) 41 1 ⟨trivial, SP.drew b1⟩ ?_ ?_
       iterate 41 refine And.intro ?_ ?_
       exact trivial
       ·exact oU (hC (hS 5 (pt h 0)) (h0))
       ·refine oL 0 ?_
        rintro P W hs f ⟨-, i3⟩
        refine kM (kc (kA f 0 68) k0) fun g => ?_
        refine sL 9 68 h 0 1 (sv c.1) 69 i3 rfl ?_
        exact eK g
       ·refine oH 0 1 ?_
        rintro P W hs f ⟨-, i4⟩
        refine kM (kc (kA f 1 69) k0) fun g => ?_
        refine cS i4 75 #[(.tmp 69)] #[9] 70 Tryz.call75 (Vn  c.1 W  p b2) ?_
        intro u3 i5
        refine ⟨_, Qa g, rfl, ?_⟩
        exact (ai (ai rfl (trivial)) i5)
       ·exact oU (hC (hA 2 70) (h0))
       ·exact oU (hC (hA 3 71) (h0))
       ·exact oU (hC (hS 4 (iv i)) (hC (hB 4 72 q) (h0)))
       ·exact oU (hC (hA 5 73) (hC (hB 4 72 q) (h0)))
       ·exact oU (hC (hA 6 74) (hC (hB 4 72 q) (h0)))
       ·exact oU (hC (hS 1 (pt m 0)) (hC (hB 7 75 l) (h0)))
       ·refine oL 1 ?_
        rintro P W hs f ⟨⟨u4, -⟩, i6⟩
        refine kM (kc (kA f 8 76) (kc (eb (kA f 7 75) l) k0)) fun g => ?_
        refine sL 31 76 m 4 0 (lv A9 o z) 77 i6 rfl ?_
        exact eK g
       ·exact oU (hC (hS 4 (iv i)) (hC (hB 7 75 l) (h0)))
       ·exact oU (hC (hA 10 78) (hC (hB 7 75 l) (h0)))
       ·refine oL 1 ?_
        rintro P W hs f ⟨⟨u5, -⟩, i7⟩
        refine kM (kc (kA f 9 77) (kc (kA f 11 79) (kc (eb (kA f 7 75) l) k0))) fun g => ?_
        refine zE (Qf Qj (Qf Qj (Qv .i64))) o A9 z 31 37 (.tmp 77) (.tmp 79) (IntKind.wrap .i64 (i - 1)) 80 (RdT.sp b0 i7) b3 b4 ?_
        intro i8 i9 j0 u6 hc7409
        exact ⟨rfl, _, Qa g, ⟨i8, i9, j0, rfl⟩⟩
       ·refine oL 1 ?_
        rintro P W hs f ⟨⟨u7, -⟩, u8⟩
        obtain ⟨e0, e1, j1, b5⟩ := f 12 80 K
        refine kM (kc b5 (kc (eb (kA f 7 75) l) k0)) fun g => ?_
        refine Qx.run (k := 13) (v := (.pointer (some ⟨e0, (e1 + Int.toNat (IntKind.wrap .i64 (i - 1)) * (Qf Qj (Qf Qj (Qv .i64))).sz), none⟩))) K ?_
        exact ⟨rfl, _, Qa g, ⟨e0, e1, j1, rfl⟩⟩
       ·refine oL 1 ?_
        rintro P W hs f ⟨⟨u9, -⟩, j2⟩
        obtain ⟨j3, j4, j5, b6⟩ := f 13 81 K
        refine kM (kc b6 (kc (eb (kA f 7 75) l) k0)) fun g => ?_
        refine sC 9 81 j3 (j4 + Int.toNat (IntKind.wrap .i64 (i - 1)) * (Qf Qj (Qf Qj (Qv .i64))).sz) (sv s.1) 82 (Ql (e := (Qf Qj (Qf Qj (Qv .i64)))) (Qh (RdT.sp b0 j2) j5 b3 b4) c2 (j := 0) rfl) ?_
        exact eK g
       ·exact oU (hC (hS 5 (pt h 0)) (hC (hB 7 75 l) (h0)))
       ·refine oL 1 ?_
        rintro P W hs f ⟨⟨v0, -⟩, j6⟩
        refine kM (kc (kA f 15 83) (kc (eb (kA f 7 75) l) k0)) fun g => ?_
        refine sL 9 83 h 0 1 (sv c.1) 84 j6 rfl ?_
        exact eK g
       ·refine oL 1 ?_
        rintro P W hs f ⟨⟨v1, -⟩, v2⟩
        refine kM (kc (kA f 14 82) (kc (kA f 16 84) (kc (eb (kA f 7 75) l) k0))) fun g => ?_
        refine U7 (op := .geq) (T := 9) (T' := 9) (x := (.tmp 82)) (y := (.tmp 84)) (a := s.1) (b := c.1) (r := (bv (!(Op.bytesLess s.1 c.1)))) (d := (some 85)) (k := 17) K rfl K K rfl ?_
        exact eK g
       ·exact oU (hC (hB 7 75 l) (hC (hA 17 85) (hC (hB 4 72 q) (h0))))
       ·exact oU (hC (hB 4 72 q) (hC (hA 18 86) (h0)))
       ·exact oU (hC (hA 19 87) (h0))
       ·exact oU (hC (hS 5 (pt h 0)) (hC (hB 20 88 a2) (h0)))
       ·refine oL 1 ?_
        rintro P W hs f ⟨⟨v3, -⟩, j7⟩
        refine kM (kc (kA f 21 89) (kc (eb (kA f 20 88) a2) k0)) fun g => ?_
        refine sL 9 89 h 1 1 (sv c.2.1) 90 j7 rfl ?_
        exact eK g
       ·refine oL 1 ?_
        rintro P W hs f ⟨⟨v4, -⟩, v5⟩
        refine kM (kc (kA f 22 90) (kc (eb (kA f 20 88) a2) k0)) fun g => ?_
        refine zO 9 (.tmp 90) (.const (.string ⟨List.toArray ([] : Bs)⟩)) c.2.1 ([] : Bs) 91 ?_
        exact eK g
       ·exact oU (hC (hB 20 88 a2) (hC (hA 23 91) (h0)))
       ·exact oU (hC (hA 24 92) (h0))
       iterate 4 exact oY (hC (hB 25 93 a3) (h0))
       ·exact oU (hC (hB 25 93 a3) (hC (hA 29 97) (h0)))
       ·exact oU (hC (hA 30 98) (h0))
       iterate 3 exact oY (hC (hA 31 99) (h0))
       ·exact oU (hC (hA 31 99) (hC (hA 34 102) (h0)))
       ·exact oU (hC (hA 35 103) (h0))
       iterate 3 exact oY (hC (hA 36 104) (h0))
       ·exact oU (hC (hA 36 104) (hC (hA 39 107) (h0)))
       rintro P v6 hs hf ⟨⟨v7, -⟩, j8⟩
       refine Qy _ (kc (kT hs 1 (pt m 0)) (kc (kT hs 4 (iv i)) (kc (kF hf 40 108) k0))) ?_
       exact ⟨true, ⟨K, K, K, trivial⟩, SP.sel j8 [0] rfl rfl, H⟩
      have H := cf H a3
      rcases Bool.eq_false_or_eq_true (decide ((ln c.2.1) > 32)) with a8 | a8
      ·have H := ct H a8
       refine aG [GEq (pt h 0), GEq (sv c.1), GEq (bv p), GEq (bv (!p)), GEq (bv (!p)), GEq (iv i), GEq (bv (decide (i > 0))), GEq (bv (decide (i > 0))), GEq (pt m 4), GEq (lv A9 o z), GEq (iv i), GEq (iv (IntKind.wrap .i64 (i - 1))), Zt A9 (Qf Qj (Qf Qj (Qv .i64))).sz (IntKind.wrap .i64 (i - 1)), Zt A9 (Qf Qj (Qf Qj (Qv .i64))).sz (IntKind.wrap .i64 (i - 1)), GEq (sv s.1), GEq (pt h 0), GEq (sv c.1), GEq (bv (!(Op.bytesLess s.1 c.1))), GEq (bv (!(Op.bytesLess s.1 c.1))), GEq (bv (!(Op.bytesLess s.1 c.1))), GEq (bv (!(Op.bytesLess s.1 c.1))), GEq (pt h 1), GEq (sv c.2.1), GEq (bv (c.2.1 == ([] : Bs))), GEq (bv (c.2.1 == ([] : Bs))), GEq (bv (c.2.1 == ([] : Bs))), GEq (pt h 1), GEq (sv c.2.1), GEq (iv (ln c.2.1)), GEq (bv (decide ((ln c.2.1) > 32))), GEq (bv (decide ((ln c.2.1) > 32))), GEq (bv (decide ((ln c.2.1) > 32))), GEq undef, GEq undef, GEq undef, GEq (bv true), GEq (bv true), GEq undef, GEq undef, GEq undef, GEq (bv true)] [2] (tG [] w0 [Qs m 33 #[(sv a5), (iv a0), (iv a1), (lv A5 u c6), (lv A9 o z)], Qs h 37 #[(sv c.1), (sv c.2.1), (iv c.2.2)]] [([], []), ([2], [(bv p)])]) 41 1 ⟨trivial, SP.drew b1⟩ ?_ ?_
       iterate 41 refine And.intro ?_ ?_
       exact trivial
       ·exact oU (hC (hS 5 (pt h 0)) (h0))
       ·refine oL 0 ?_
        rintro P W hs f ⟨-, j9⟩
        refine kM (kc (kA f 0 68) k0) fun g => ?_
        refine sL 9 68 h 0 1 (sv c.1) 69 j9 rfl ?_
        exact eK g
       ·refine oH 0 1 ?_
        rintro P W hs f ⟨-, k1⟩
        refine kM (kc (kA f 1 69) k0) fun g => ?_
        refine cS k1 75 #[(.tmp 69)] #[9] 70 Tryz.call75 (Vn  c.1 W  p b2) ?_
        intro v8 k2
        refine ⟨_, Qa g, rfl, ?_⟩
        exact (ai (ai rfl (trivial)) k2)
       ·exact oU (hC (hA 2 70) (h0))
       ·exact oU (hC (hA 3 71) (h0))
       ·exact oU (hC (hS 4 (iv i)) (hC (hB 4 72 q) (h0)))
       ·exact oU (hC (hA 5 73) (hC (hB 4 72 q) (h0)))
       ·exact oU (hC (hA 6 74) (hC (hB 4 72 q) (h0)))
       ·exact oU (hC (hS 1 (pt m 0)) (hC (hB 7 75 l) (h0)))
       ·refine oL 1 ?_
        rintro P W hs f ⟨⟨v9, -⟩, k3⟩
        refine kM (kc (kA f 8 76) (kc (eb (kA f 7 75) l) k0)) fun g => ?_
        refine sL 31 76 m 4 0 (lv A9 o z) 77 k3 rfl ?_
        exact eK g
       ·exact oU (hC (hS 4 (iv i)) (hC (hB 7 75 l) (h0)))
       ·exact oU (hC (hA 10 78) (hC (hB 7 75 l) (h0)))
       ·refine oL 1 ?_
        rintro P W hs f ⟨⟨w1, -⟩, k4⟩
        refine kM (kc (kA f 9 77) (kc (kA f 11 79) (kc (eb (kA f 7 75) l) k0))) fun g => ?_
        refine zE (Qf Qj (Qf Qj (Qv .i64))) o A9 z 31 37 (.tmp 77) (.tmp 79) (IntKind.wrap .i64 (i - 1)) 80 (RdT.sp b0 k4) b3 b4 ?_
        intro k5 k6 k7 w2 hc7461
        exact ⟨rfl, _, Qa g, ⟨k5, k6, k7, rfl⟩⟩
       ·refine oL 1 ?_
        rintro P W hs f ⟨⟨w3, -⟩, w4⟩
        obtain ⟨e2, e3, k8, b5⟩ := f 12 80 K
        refine kM (kc b5 (kc (eb (kA f 7 75) l) k0)) fun g => ?_
        refine Qx.run (k := 13) (v := (.pointer (some ⟨e2, (e3 + Int.toNat (IntKind.wrap .i64 (i - 1)) * (Qf Qj (Qf Qj (Qv .i64))).sz), none⟩))) K ?_
        exact ⟨rfl, _, Qa g, ⟨e2, e3, k8, rfl⟩⟩
       ·refine oL 1 ?_
        rintro P W hs f ⟨⟨w5, -⟩, k9⟩
        obtain ⟨l0, l1, l2, b6⟩ := f 13 81 K
        refine kM (kc b6 (kc (eb (kA f 7 75) l) k0)) fun g => ?_
        refine sC 9 81 l0 (l1 + Int.toNat (IntKind.wrap .i64 (i - 1)) * (Qf Qj (Qf Qj (Qv .i64))).sz) (sv s.1) 82 (Ql (e := (Qf Qj (Qf Qj (Qv .i64)))) (Qh (RdT.sp b0 k9) l2 b3 b4) c2 (j := 0) rfl) ?_
        exact eK g
       ·exact oU (hC (hS 5 (pt h 0)) (hC (hB 7 75 l) (h0)))
       ·refine oL 1 ?_
        rintro P W hs f ⟨⟨w6, -⟩, l3⟩
        refine kM (kc (kA f 15 83) (kc (eb (kA f 7 75) l) k0)) fun g => ?_
        refine sL 9 83 h 0 1 (sv c.1) 84 l3 rfl ?_
        exact eK g
       ·refine oL 1 ?_
        rintro P W hs f ⟨⟨w7, -⟩, w8⟩
        refine kM (kc (kA f 14 82) (kc (kA f 16 84) (kc (eb (kA f 7 75) l) k0))) fun g => ?_
        refine U7 (op := .geq) (T := 9) (T' := 9) (x := (.tmp 82)) (y := (.tmp 84)) (a := s.1) (b := c.1) (r := (bv (!(Op.bytesLess s.1 c.1)))) (d := (some 85)) (k := 17) K rfl K K rfl ?_
        exact eK g
       ·exact oU (hC (hB 7 75 l) (hC (hA 17 85) (hC (hB 4 72 q) (h0))))
       ·exact oU (hC (hB 4 72 q) (hC (hA 18 86) (h0)))
       ·exact oU (hC (hA 19 87) (h0))
       ·exact oU (hC (hS 5 (pt h 0)) (hC (hB 20 88 a2) (h0)))
       ·refine oL 1 ?_
        rintro P W hs f ⟨⟨w9, -⟩, l4⟩
        refine kM (kc (kA f 21 89) (kc (eb (kA f 20 88) a2) k0)) fun g => ?_
        refine sL 9 89 h 1 1 (sv c.2.1) 90 l4 rfl ?_
        exact eK g
       ·refine oL 1 ?_
        rintro P W hs f ⟨⟨x0, -⟩, x1⟩
        refine kM (kc (kA f 22 90) (kc (eb (kA f 20 88) a2) k0)) fun g => ?_
        refine zO 9 (.tmp 90) (.const (.string ⟨List.toArray ([] : Bs)⟩)) c.2.1 ([] : Bs) 91 ?_
        exact eK g
       ·exact oU (hC (hB 20 88 a2) (hC (hA 23 91) (h0)))
       ·exact oU (hC (hA 24 92) (h0))
       ·exact oU (hC (hS 5 (pt h 0)) (hC (hB 25 93 a3) (h0)))
       ·refine oL 1 ?_
        rintro P W hs f ⟨⟨x2, -⟩, l5⟩
        refine kM (kc (kA f 26 94) (kc (eb (kA f 25 93) a3) k0)) fun g => ?_
        refine sL 9 94 h 1 1 (sv c.2.1) 95 l5 rfl ?_
        exact eK g
       ·exact oU (hC (hA 27 95) (hC (hB 25 93 a3) (h0)))
       ·exact oU (hC (hA 28 96) (hC (hB 25 93 a3) (h0)))
       ·exact oU (hC (hB 25 93 a3) (hC (hA 29 97) (h0)))
       ·exact oU (hC (hA 30 98) (h0))
       iterate 3 exact oY (hC (hB 31 99 a8) (h0))
       ·exact oU (hC (hB 31 99 a8) (hC (hA 34 102) (h0)))
       ·exact oU (hC (hA 35 103) (h0))
       iterate 3 exact oY (hC (hA 36 104) (h0))
       ·exact oU (hC (hA 36 104) (hC (hA 39 107) (h0)))
       rintro P x3 hs hf ⟨⟨x4, -⟩, l6⟩
       refine Qy _ (kc (kT hs 1 (pt m 0)) (kc (kT hs 4 (iv i)) (kc (kF hf 40 108) k0))) ?_
       exact ⟨true, ⟨K, K, K, trivial⟩, SP.sel l6 [0] rfl rfl, H⟩
      have H := cf H a8
      rcases Bool.eq_false_or_eq_true (decide (c.2.2 < 0)) with b7 | b7
      ·have H := ct H b7
       refine aG [GEq (pt h 0), GEq (sv c.1), GEq (bv p), GEq (bv (!p)), GEq (bv (!p)), GEq (iv i), GEq (bv (decide (i > 0))), GEq (bv (decide (i > 0))), GEq (pt m 4), GEq (lv A9 o z), GEq (iv i), GEq (iv (IntKind.wrap .i64 (i - 1))), Zt A9 (Qf Qj (Qf Qj (Qv .i64))).sz (IntKind.wrap .i64 (i - 1)), Zt A9 (Qf Qj (Qf Qj (Qv .i64))).sz (IntKind.wrap .i64 (i - 1)), GEq (sv s.1), GEq (pt h 0), GEq (sv c.1), GEq (bv (!(Op.bytesLess s.1 c.1))), GEq (bv (!(Op.bytesLess s.1 c.1))), GEq (bv (!(Op.bytesLess s.1 c.1))), GEq (bv (!(Op.bytesLess s.1 c.1))), GEq (pt h 1), GEq (sv c.2.1), GEq (bv (c.2.1 == ([] : Bs))), GEq (bv (c.2.1 == ([] : Bs))), GEq (bv (c.2.1 == ([] : Bs))), GEq (pt h 1), GEq (sv c.2.1), GEq (iv (ln c.2.1)), GEq (bv (decide ((ln c.2.1) > 32))), GEq (bv (decide ((ln c.2.1) > 32))), GEq (bv (decide ((ln c.2.1) > 32))), GEq (pt h 2), GEq (iv c.2.2), GEq (bv (decide (c.2.2 < 0))), GEq (bv (decide (c.2.2 < 0))), GEq (bv (decide (c.2.2 < 0))), GEq undef, GEq undef, GEq undef, GEq (bv true)] [2] (tG [] w0 [Qs m 33 #[(sv a5), (iv a0), (iv a1), (lv A5 u c6), (lv A9 o z)], Qs h 37 #[(sv c.1), (sv c.2.1), (iv c.2.2)]] [([], []), ([2], [(bv p)])]) 41 1 ⟨trivial, SP.drew b1⟩ ?_ ?_
       iterate 41 refine And.intro ?_ ?_
       exact trivial
       ·exact oU (hC (hS 5 (pt h 0)) (h0))
       ·refine oL 0 ?_
        rintro P W hs f ⟨-, l7⟩
        refine kM (kc (kA f 0 68) k0) fun g => ?_
        refine sL 9 68 h 0 1 (sv c.1) 69 l7 rfl ?_
        exact eK g
       ·refine oH 0 1 ?_
        rintro P W hs f ⟨-, l8⟩
        refine kM (kc (kA f 1 69) k0) fun g => ?_
        refine cS l8 75 #[(.tmp 69)] #[9] 70 Tryz.call75 (Vn  c.1 W  p b2) ?_
        intro x5 l9
        refine ⟨_, Qa g, rfl, ?_⟩
        exact (ai (ai rfl (trivial)) l9)
       ·exact oU (hC (hA 2 70) (h0))
       ·exact oU (hC (hA 3 71) (h0))
       ·exact oU (hC (hS 4 (iv i)) (hC (hB 4 72 q) (h0)))
       ·exact oU (hC (hA 5 73) (hC (hB 4 72 q) (h0)))
       ·exact oU (hC (hA 6 74) (hC (hB 4 72 q) (h0)))
       ·exact oU (hC (hS 1 (pt m 0)) (hC (hB 7 75 l) (h0)))
       ·refine oL 1 ?_
        rintro P W hs f ⟨⟨x6, -⟩, m0⟩
        refine kM (kc (kA f 8 76) (kc (eb (kA f 7 75) l) k0)) fun g => ?_
        refine sL 31 76 m 4 0 (lv A9 o z) 77 m0 rfl ?_
        exact eK g
       ·exact oU (hC (hS 4 (iv i)) (hC (hB 7 75 l) (h0)))
       ·exact oU (hC (hA 10 78) (hC (hB 7 75 l) (h0)))
       ·refine oL 1 ?_
        rintro P W hs f ⟨⟨x7, -⟩, m1⟩
        refine kM (kc (kA f 9 77) (kc (kA f 11 79) (kc (eb (kA f 7 75) l) k0))) fun g => ?_
        refine zE (Qf Qj (Qf Qj (Qv .i64))) o A9 z 31 37 (.tmp 77) (.tmp 79) (IntKind.wrap .i64 (i - 1)) 80 (RdT.sp b0 m1) b3 b4 ?_
        intro m2 m3 m4 x8 hc7516
        exact ⟨rfl, _, Qa g, ⟨m2, m3, m4, rfl⟩⟩
       ·refine oL 1 ?_
        rintro P W hs f ⟨⟨x9, -⟩, y0⟩
        obtain ⟨e4, e5, m5, b5⟩ := f 12 80 K
        refine kM (kc b5 (kc (eb (kA f 7 75) l) k0)) fun g => ?_
        refine Qx.run (k := 13) (v := (.pointer (some ⟨e4, (e5 + Int.toNat (IntKind.wrap .i64 (i - 1)) * (Qf Qj (Qf Qj (Qv .i64))).sz), none⟩))) K ?_
        exact ⟨rfl, _, Qa g, ⟨e4, e5, m5, rfl⟩⟩
       ·refine oL 1 ?_
        rintro P W hs f ⟨⟨y1, -⟩, m6⟩
        obtain ⟨m7, m8, m9, b6⟩ := f 13 81 K
        refine kM (kc b6 (kc (eb (kA f 7 75) l) k0)) fun g => ?_
        refine sC 9 81 m7 (m8 + Int.toNat (IntKind.wrap .i64 (i - 1)) * (Qf Qj (Qf Qj (Qv .i64))).sz) (sv s.1) 82 (Ql (e := (Qf Qj (Qf Qj (Qv .i64)))) (Qh (RdT.sp b0 m6) m9 b3 b4) c2 (j := 0) rfl) ?_
        exact eK g
       ·exact oU (hC (hS 5 (pt h 0)) (hC (hB 7 75 l) (h0)))
       ·refine oL 1 ?_
        rintro P W hs f ⟨⟨y2, -⟩, n0⟩
        refine kM (kc (kA f 15 83) (kc (eb (kA f 7 75) l) k0)) fun g => ?_
        refine sL 9 83 h 0 1 (sv c.1) 84 n0 rfl ?_
        exact eK g
       ·refine oL 1 ?_
        rintro P W hs f ⟨⟨y3, -⟩, y4⟩
        refine kM (kc (kA f 14 82) (kc (kA f 16 84) (kc (eb (kA f 7 75) l) k0))) fun g => ?_
        refine U7 (op := .geq) (T := 9) (T' := 9) (x := (.tmp 82)) (y := (.tmp 84)) (a := s.1) (b := c.1) (r := (bv (!(Op.bytesLess s.1 c.1)))) (d := (some 85)) (k := 17) K rfl K K rfl ?_
        exact eK g
       ·exact oU (hC (hB 7 75 l) (hC (hA 17 85) (hC (hB 4 72 q) (h0))))
       ·exact oU (hC (hB 4 72 q) (hC (hA 18 86) (h0)))
       ·exact oU (hC (hA 19 87) (h0))
       ·exact oU (hC (hS 5 (pt h 0)) (hC (hB 20 88 a2) (h0)))
       ·refine oL 1 ?_
        rintro P W hs f ⟨⟨y5, -⟩, n1⟩
        refine kM (kc (kA f 21 89) (kc (eb (kA f 20 88) a2) k0)) fun g => ?_
        refine sL 9 89 h 1 1 (sv c.2.1) 90 n1 rfl ?_
        exact eK g
       ·refine oL 1 ?_
        rintro P W hs f ⟨⟨y6, -⟩, y7⟩
        refine kM (kc (kA f 22 90) (kc (eb (kA f 20 88) a2) k0)) fun g => ?_
        refine zO 9 (.tmp 90) (.const (.string ⟨List.toArray ([] : Bs)⟩)) c.2.1 ([] : Bs) 91 ?_
        exact eK g
       ·exact oU (hC (hB 20 88 a2) (hC (hA 23 91) (h0)))
       ·exact oU (hC (hA 24 92) (h0))
       ·exact oU (hC (hS 5 (pt h 0)) (hC (hB 25 93 a3) (h0)))
       ·refine oL 1 ?_
        rintro P W hs f ⟨⟨y8, -⟩, n2⟩
        refine kM (kc (kA f 26 94) (kc (eb (kA f 25 93) a3) k0)) fun g => ?_
        refine sL 9 94 h 1 1 (sv c.2.1) 95 n2 rfl ?_
        exact eK g
       ·exact oU (hC (hA 27 95) (hC (hB 25 93 a3) (h0)))
       ·exact oU (hC (hA 28 96) (hC (hB 25 93 a3) (h0)))
       ·exact oU (hC (hB 25 93 a3) (hC (hA 29 97) (h0)))
       ·exact oU (hC (hA 30 98) (h0))
       ·exact oU (hC (hS 5 (pt h 0)) (hC (hB 31 99 a8) (h0)))
       ·refine oL 1 ?_
        rintro P W hs f ⟨⟨y9, -⟩, n3⟩
        refine kM (kc (kA f 32 100) (kc (eb (kA f 31 99) a8) k0)) fun g => ?_
        refine sL 2 100 h 2 1 (iv c.2.2) 101 n3 rfl ?_
        exact eK g
       ·exact oU (hC (hA 33 101) (hC (hB 31 99 a8) (h0)))
       ·exact oU (hC (hB 31 99 a8) (hC (hA 34 102) (h0)))
       ·exact oU (hC (hA 35 103) (h0))
       iterate 3 exact oY (hC (hB 36 104 b7) (h0))
       ·exact oU (hC (hB 36 104 b7) (hC (hA 39 107) (h0)))
       rintro P z0 hs hf ⟨⟨z1, -⟩, n4⟩
       refine Qy _ (kc (kT hs 1 (pt m 0)) (kc (kT hs 4 (iv i)) (kc (kF hf 40 108) k0))) ?_
       exact ⟨true, ⟨K, K, K, trivial⟩, SP.sel n4 [0] rfl rfl, H⟩
      have H := cf H b7
      refine aG [GEq (pt h 0), GEq (sv c.1), GEq (bv p), GEq (bv (!p)), GEq (bv (!p)), GEq (iv i), GEq (bv (decide (i > 0))), GEq (bv (decide (i > 0))), GEq (pt m 4), GEq (lv A9 o z), GEq (iv i), GEq (iv (IntKind.wrap .i64 (i - 1))), Zt A9 (Qf Qj (Qf Qj (Qv .i64))).sz (IntKind.wrap .i64 (i - 1)), Zt A9 (Qf Qj (Qf Qj (Qv .i64))).sz (IntKind.wrap .i64 (i - 1)), GEq (sv s.1), GEq (pt h 0), GEq (sv c.1), GEq (bv (!(Op.bytesLess s.1 c.1))), GEq (bv (!(Op.bytesLess s.1 c.1))), GEq (bv (!(Op.bytesLess s.1 c.1))), GEq (bv (!(Op.bytesLess s.1 c.1))), GEq (pt h 1), GEq (sv c.2.1), GEq (bv (c.2.1 == ([] : Bs))), GEq (bv (c.2.1 == ([] : Bs))), GEq (bv (c.2.1 == ([] : Bs))), GEq (pt h 1), GEq (sv c.2.1), GEq (iv (ln c.2.1)), GEq (bv (decide ((ln c.2.1) > 32))), GEq (bv (decide ((ln c.2.1) > 32))), GEq (bv (decide ((ln c.2.1) > 32))), GEq (pt h 2), GEq (iv c.2.2), GEq (bv (decide (c.2.2 < 0))), GEq (bv (decide (c.2.2 < 0))), GEq (bv (decide (c.2.2 < 0))), GEq (pt h 2), GEq (iv c.2.2), GEq (bv (decide (c.2.2 > 1099511627776))), GEq (bv (decide (c.2.2 > 1099511627776)))] [2] (tG [] w0 [Qs m 33 #[(sv a5), (iv a0), (iv a1), (lv A5 u c6), (lv A9 o z)], Qs h 37 #[(sv c.1), (sv c.2.1), (iv c.2.2)]] [([], []), ([2], [(bv p)])]) 41 1 ⟨trivial, SP.drew b1⟩ ?_ ?_
      iterate 41 refine And.intro ?_ ?_
      exact trivial
      ·exact oU (hC (hS 5 (pt h 0)) (h0))
      ·refine oL 0 ?_
       rintro P W hs f ⟨-, n5⟩
       refine kM (kc (kA f 0 68) k0) fun g => ?_
       refine sL 9 68 h 0 1 (sv c.1) 69 n5 rfl ?_
       exact eK g
      ·refine oH 0 1 ?_
       rintro P W hs f ⟨-, n6⟩
       refine kM (kc (kA f 1 69) k0) fun g => ?_
       refine cS n6 75 #[(.tmp 69)] #[9] 70 Tryz.call75 (Vn  c.1 W  p b2) ?_
       intro z2 n7
       refine ⟨_, Qa g, rfl, ?_⟩
       exact (ai (ai rfl (trivial)) n7)
      ·exact oU (hC (hA 2 70) (h0))
      ·exact oU (hC (hA 3 71) (h0))
      ·exact oU (hC (hS 4 (iv i)) (hC (hB 4 72 q) (h0)))
      ·exact oU (hC (hA 5 73) (hC (hB 4 72 q) (h0)))
      ·exact oU (hC (hA 6 74) (hC (hB 4 72 q) (h0)))
      ·exact oU (hC (hS 1 (pt m 0)) (hC (hB 7 75 l) (h0)))
      ·refine oL 1 ?_
       rintro P W hs f ⟨⟨z3, -⟩, n8⟩
       refine kM (kc (kA f 8 76) (kc (eb (kA f 7 75) l) k0)) fun g => ?_
       refine sL 31 76 m 4 0 (lv A9 o z) 77 n8 rfl ?_
       exact eK g
      ·exact oU (hC (hS 4 (iv i)) (hC (hB 7 75 l) (h0)))
      ·exact oU (hC (hA 10 78) (hC (hB 7 75 l) (h0)))
      ·refine oL 1 ?_
       rintro P W hs f ⟨⟨z4, -⟩, n9⟩
       refine kM (kc (kA f 9 77) (kc (kA f 11 79) (kc (eb (kA f 7 75) l) k0))) fun g => ?_
       refine zE (Qf Qj (Qf Qj (Qv .i64))) o A9 z 31 37 (.tmp 77) (.tmp 79) (IntKind.wrap .i64 (i - 1)) 80 (RdT.sp b0 n9) b3 b4 ?_
       intro o0 o1 o2 z5 hc7573
       exact ⟨rfl, _, Qa g, ⟨o0, o1, o2, rfl⟩⟩
      ·refine oL 1 ?_
       rintro P W hs f ⟨⟨z6, -⟩, z7⟩
       obtain ⟨e6, e7, o3, b5⟩ := f 12 80 K
       refine kM (kc b5 (kc (eb (kA f 7 75) l) k0)) fun g => ?_
       refine Qx.run (k := 13) (v := (.pointer (some ⟨e6, (e7 + Int.toNat (IntKind.wrap .i64 (i - 1)) * (Qf Qj (Qf Qj (Qv .i64))).sz), none⟩))) K ?_
       exact ⟨rfl, _, Qa g, ⟨e6, e7, o3, rfl⟩⟩
      ·refine oL 1 ?_
       rintro P W hs f ⟨⟨z8, -⟩, o4⟩
       obtain ⟨o5, o6, o7, b6⟩ := f 13 81 K
       refine kM (kc b6 (kc (eb (kA f 7 75) l) k0)) fun g => ?_
       refine sC 9 81 o5 (o6 + Int.toNat (IntKind.wrap .i64 (i - 1)) * (Qf Qj (Qf Qj (Qv .i64))).sz) (sv s.1) 82 (Ql (e := (Qf Qj (Qf Qj (Qv .i64)))) (Qh (RdT.sp b0 o4) o7 b3 b4) c2 (j := 0) rfl) ?_
       exact eK g
      ·exact oU (hC (hS 5 (pt h 0)) (hC (hB 7 75 l) (h0)))
      ·refine oL 1 ?_
       rintro P W hs f ⟨⟨z9, -⟩, o8⟩
       refine kM (kc (kA f 15 83) (kc (eb (kA f 7 75) l) k0)) fun g => ?_
       refine sL 9 83 h 0 1 (sv c.1) 84 o8 rfl ?_
       exact eK g
      ·refine oL 1 ?_
       rintro P W hs f ⟨⟨aa0, -⟩, aa1⟩
       refine kM (kc (kA f 14 82) (kc (kA f 16 84) (kc (eb (kA f 7 75) l) k0))) fun g => ?_
       refine U7 (op := .geq) (T := 9) (T' := 9) (x := (.tmp 82)) (y := (.tmp 84)) (a := s.1) (b := c.1) (r := (bv (!(Op.bytesLess s.1 c.1)))) (d := (some 85)) (k := 17) K rfl K K rfl ?_
       exact eK g
      ·exact oU (hC (hB 7 75 l) (hC (hA 17 85) (hC (hB 4 72 q) (h0))))
      ·exact oU (hC (hB 4 72 q) (hC (hA 18 86) (h0)))
      ·exact oU (hC (hA 19 87) (h0))
      ·exact oU (hC (hS 5 (pt h 0)) (hC (hB 20 88 a2) (h0)))
      ·refine oL 1 ?_
       rintro P W hs f ⟨⟨aa2, -⟩, o9⟩
       refine kM (kc (kA f 21 89) (kc (eb (kA f 20 88) a2) k0)) fun g => ?_
       refine sL 9 89 h 1 1 (sv c.2.1) 90 o9 rfl ?_
       exact eK g
      ·refine oL 1 ?_
       rintro P W hs f ⟨⟨aa3, -⟩, aa4⟩
       refine kM (kc (kA f 22 90) (kc (eb (kA f 20 88) a2) k0)) fun g => ?_
       refine zO 9 (.tmp 90) (.const (.string ⟨List.toArray ([] : Bs)⟩)) c.2.1 ([] : Bs) 91 ?_
       exact eK g
      ·exact oU (hC (hB 20 88 a2) (hC (hA 23 91) (h0)))
      ·exact oU (hC (hA 24 92) (h0))
      ·exact oU (hC (hS 5 (pt h 0)) (hC (hB 25 93 a3) (h0)))
      ·refine oL 1 ?_
       rintro P W hs f ⟨⟨aa5, -⟩, p0⟩
       refine kM (kc (kA f 26 94) (kc (eb (kA f 25 93) a3) k0)) fun g => ?_
       refine sL 9 94 h 1 1 (sv c.2.1) 95 p0 rfl ?_
       exact eK g
      ·exact oU (hC (hA 27 95) (hC (hB 25 93 a3) (h0)))
      ·exact oU (hC (hA 28 96) (hC (hB 25 93 a3) (h0)))
      ·exact oU (hC (hB 25 93 a3) (hC (hA 29 97) (h0)))
      ·exact oU (hC (hA 30 98) (h0))
      ·exact oU (hC (hS 5 (pt h 0)) (hC (hB 31 99 a8) (h0)))
      ·refine oL 1 ?_
       rintro P W hs f ⟨⟨aa6, -⟩, p1⟩
       refine kM (kc (kA f 32 100) (kc (eb (kA f 31 99) a8) k0)) fun g => ?_
       refine sL 2 100 h 2 1 (iv c.2.2) 101 p1 rfl ?_
       exact eK g
      ·exact oU (hC (hA 33 101) (hC (hB 31 99 a8) (h0)))
      ·exact oU (hC (hB 31 99 a8) (hC (hA 34 102) (h0)))
      ·exact oU (hC (hA 35 103) (h0))
      ·exact oU (hC (hS 5 (pt h 0)) (hC (hB 36 104 b7) (h0)))
      ·refine oL 1 ?_
       rintro P W hs f ⟨⟨aa7, -⟩, p2⟩
       refine kM (kc (kA f 37 105) (kc (eb (kA f 36 104) b7) k0)) fun g => ?_
       refine sL 2 105 h 2 1 (iv c.2.2) 106 p2 rfl ?_
       exact eK g
      ·exact oU (hC (hA 38 106) (hC (hB 36 104 b7) (h0)))
      ·exact oU (hC (hB 36 104 b7) (hC (hA 39 107) (h0)))
      rintro P aa8 hs hf ⟨⟨aa9, -⟩, p3⟩
      refine Qy _ (kc (kT hs 1 (pt m 0)) (kc (kT hs 4 (iv i)) (kc (kF hf 40 108) k0))) ?_
      exact ⟨(decide (c.2.2 > 1099511627776)), ⟨K, K, K, trivial⟩, SP.sel p3 [0] rfl rfl, H⟩
     have H := cf H l
     rcases Bool.eq_false_or_eq_true (c.2.1 == ([] : Bs)) with a4 | a4
     ·have H := ct H a4
      refine aG [GEq (pt h 0), GEq (sv c.1), GEq (bv p), GEq (bv (!p)), GEq (bv (!p)), GEq (iv i), GEq (bv (decide (i > 0))), GEq (bv (decide (i > 0))), GEq undef, GEq undef, GEq undef, GEq undef, GEq undef, GEq undef, GEq undef, GEq undef, GEq undef, GEq undef, GEq (bv false), GEq (bv false), GEq (bv false), GEq (pt h 1), GEq (sv c.2.1), GEq (bv (c.2.1 == ([] : Bs))), GEq (bv (c.2.1 == ([] : Bs))), GEq (bv (c.2.1 == ([] : Bs))), GEq undef, GEq undef, GEq undef, GEq undef, GEq (bv true), GEq (bv true), GEq undef, GEq undef, GEq undef, GEq (bv true), GEq (bv true), GEq undef, GEq undef, GEq undef, GEq (bv true)] [2] (tG [] w0 [Qs m 33 #[(sv a5), (iv a0), (iv a1), (lv A5 u c6), (lv A9 o z)], Qs h 37 #[(sv c.1), (sv c.2.1), (iv c.2.2)]] [([], []), ([2], [(bv p)])]) 41 1 ⟨trivial, SP.drew b1⟩ ?_ ?_
      iterate 41 refine And.intro ?_ ?_
      exact trivial
      ·exact oU (hC (hS 5 (pt h 0)) (h0))
      ·refine oL 0 ?_
       rintro P W hs f ⟨-, p4⟩
       refine kM (kc (kA f 0 68) k0) fun g => ?_
       refine sL 9 68 h 0 1 (sv c.1) 69 p4 rfl ?_
       exact eK g
      ·refine oH 0 1 ?_
       rintro P W hs f ⟨-, p5⟩
       refine kM (kc (kA f 1 69) k0) fun g => ?_
       refine cS p5 75 #[(.tmp 69)] #[9] 70 Tryz.call75 (Vn  c.1 W  p b2) ?_
       intro ab0 p6
       refine ⟨_, Qa g, rfl, ?_⟩
       exact (ai (ai rfl (trivial)) p6)
      ·exact oU (hC (hA 2 70) (h0))
      ·exact oU (hC (hA 3 71) (h0))
      ·exact oU (hC (hS 4 (iv i)) (hC (hB 4 72 q) (h0)))
      ·exact oU (hC (hA 5 73) (hC (hB 4 72 q) (h0)))
      ·exact oU (hC (hA 6 74) (hC (hB 4 72 q) (h0)))
      iterate 10 exact oY (hC (hB 7 75 l) (h0))
      ·exact oU (hC (hB 7 75 l) (hC (hA 17 85) (hC (hB 4 72 q) (h0))))
      ·exact oU (hC (hB 4 72 q) (hC (hA 18 86) (h0)))
      ·exact oU (hC (hA 19 87) (h0))
      ·exact oU (hC (hS 5 (pt h 0)) (hC (hA 20 88) (h0)))
      ·refine oL 1 ?_
       rintro P W hs f ⟨⟨ab1, -⟩, p7⟩
       refine kM (kc (kA f 21 89) (kc (kA f 20 88) k0)) fun g => ?_
       refine sL 9 89 h 1 1 (sv c.2.1) 90 p7 rfl ?_
       exact eK g
      ·refine oL 1 ?_
       rintro P W hs f ⟨⟨ab2, -⟩, ab3⟩
       refine kM (kc (kA f 22 90) (kc (kA f 20 88) k0)) fun g => ?_
       refine zO 9 (.tmp 90) (.const (.string ⟨List.toArray ([] : Bs)⟩)) c.2.1 ([] : Bs) 91 ?_
       exact eK g
      ·exact oU (hC (hA 20 88) (hC (hA 23 91) (h0)))
      ·exact oU (hC (hA 24 92) (h0))
      iterate 4 exact oY (hC (hB 25 93 a4) (h0))
      ·exact oU (hC (hB 25 93 a4) (hC (hA 29 97) (h0)))
      ·exact oU (hC (hA 30 98) (h0))
      iterate 3 exact oY (hC (hA 31 99) (h0))
      ·exact oU (hC (hA 31 99) (hC (hA 34 102) (h0)))
      ·exact oU (hC (hA 35 103) (h0))
      iterate 3 exact oY (hC (hA 36 104) (h0))
      ·exact oU (hC (hA 36 104) (hC (hA 39 107) (h0)))
      rintro P ab4 hs hf ⟨⟨ab5, -⟩, p8⟩
      refine Qy _ (kc (kT hs 1 (pt m 0)) (kc (kT hs 4 (iv i)) (kc (kF hf 40 108) k0))) ?_
      exact ⟨true, ⟨K, K, K, trivial⟩, SP.sel p8 [0] rfl rfl, H⟩
     have H := cf H a4
     rcases Bool.eq_false_or_eq_true (decide ((ln c.2.1) > 32)) with a9 | a9
     ·have H := ct H a9
      refine aG [GEq (pt h 0), GEq (sv c.1), GEq (bv p), GEq (bv (!p)), GEq (bv (!p)), GEq (iv i), GEq (bv (decide (i > 0))), GEq (bv (decide (i > 0))), GEq undef, GEq undef, GEq undef, GEq undef, GEq undef, GEq undef, GEq undef, GEq undef, GEq undef, GEq undef, GEq (bv false), GEq (bv false), GEq (bv false), GEq (pt h 1), GEq (sv c.2.1), GEq (bv (c.2.1 == ([] : Bs))), GEq (bv (c.2.1 == ([] : Bs))), GEq (bv (c.2.1 == ([] : Bs))), GEq (pt h 1), GEq (sv c.2.1), GEq (iv (ln c.2.1)), GEq (bv (decide ((ln c.2.1) > 32))), GEq (bv (decide ((ln c.2.1) > 32))), GEq (bv (decide ((ln c.2.1) > 32))), GEq undef, GEq undef, GEq undef, GEq (bv true), GEq (bv true), GEq undef, GEq undef, GEq undef, GEq (bv true)] [2] (tG [] w0 [Qs m 33 #[(sv a5), (iv a0), (iv a1), (lv A5 u c6), (lv A9 o z)], Qs h 37 #[(sv c.1), (sv c.2.1), (iv c.2.2)]] [([], []), ([2], [(bv p)])]) 41 1 ⟨trivial, SP.drew b1⟩ ?_ ?_
      iterate 41 refine And.intro ?_ ?_
      exact trivial
      ·exact oU (hC (hS 5 (pt h 0)) (h0))
      ·refine oL 0 ?_
       rintro P W hs f ⟨-, p9⟩
       refine kM (kc (kA f 0 68) k0) fun g => ?_
       refine sL 9 68 h 0 1 (sv c.1) 69 p9 rfl ?_
       exact eK g
      ·refine oH 0 1 ?_
       rintro P W hs f ⟨-, q0⟩
       refine kM (kc (kA f 1 69) k0) fun g => ?_
       refine cS q0 75 #[(.tmp 69)] #[9] 70 Tryz.call75 (Vn  c.1 W  p b2) ?_
       intro ab6 q1
       refine ⟨_, Qa g, rfl, ?_⟩
       exact (ai (ai rfl (trivial)) q1)
      ·exact oU (hC (hA 2 70) (h0))
      ·exact oU (hC (hA 3 71) (h0))
      ·exact oU (hC (hS 4 (iv i)) (hC (hB 4 72 q) (h0)))
      ·exact oU (hC (hA 5 73) (hC (hB 4 72 q) (h0)))
      ·exact oU (hC (hA 6 74) (hC (hB 4 72 q) (h0)))
      iterate 10 exact oY (hC (hB 7 75 l) (h0))
      ·exact oU (hC (hB 7 75 l) (hC (hA 17 85) (hC (hB 4 72 q) (h0))))
      ·exact oU (hC (hB 4 72 q) (hC (hA 18 86) (h0)))
      ·exact oU (hC (hA 19 87) (h0))
      ·exact oU (hC (hS 5 (pt h 0)) (hC (hA 20 88) (h0)))
      ·refine oL 1 ?_
       rintro P W hs f ⟨⟨ab7, -⟩, q2⟩
       refine kM (kc (kA f 21 89) (kc (kA f 20 88) k0)) fun g => ?_
       refine sL 9 89 h 1 1 (sv c.2.1) 90 q2 rfl ?_
       exact eK g
      ·refine oL 1 ?_
       rintro P W hs f ⟨⟨ab8, -⟩, ab9⟩
       refine kM (kc (kA f 22 90) (kc (kA f 20 88) k0)) fun g => ?_
       refine zO 9 (.tmp 90) (.const (.string ⟨List.toArray ([] : Bs)⟩)) c.2.1 ([] : Bs) 91 ?_
       exact eK g
      ·exact oU (hC (hA 20 88) (hC (hA 23 91) (h0)))
      ·exact oU (hC (hA 24 92) (h0))
      ·exact oU (hC (hS 5 (pt h 0)) (hC (hB 25 93 a4) (h0)))
      ·refine oL 1 ?_
       rintro P W hs f ⟨⟨ac0, -⟩, q3⟩
       refine kM (kc (kA f 26 94) (kc (eb (kA f 25 93) a4) k0)) fun g => ?_
       refine sL 9 94 h 1 1 (sv c.2.1) 95 q3 rfl ?_
       exact eK g
      ·exact oU (hC (hA 27 95) (hC (hB 25 93 a4) (h0)))
      ·exact oU (hC (hA 28 96) (hC (hB 25 93 a4) (h0)))
      ·exact oU (hC (hB 25 93 a4) (hC (hA 29 97) (h0)))
      ·exact oU (hC (hA 30 98) (h0))
      iterate 3 exact oY (hC (hB 31 99 a9) (h0))
      ·exact oU (hC (hB 31 99 a9) (hC (hA 34 102) (h0)))
      ·exact oU (hC (hA 35 103) (h0))
      iterate 3 exact oY (hC (hA 36 104) (h0))
      ·exact oU (hC (hA 36 104) (hC (hA 39 107) (h0)))
      rintro P ac1 hs hf ⟨⟨ac2, -⟩, q4⟩
      refine Qy _ (kc (kT hs 1 (pt m 0)) (kc (kT hs 4 (iv i)) (kc (kF hf 40 108) k0))) ?_
      exact ⟨true, ⟨K, K, K, trivial⟩, SP.sel q4 [0] rfl rfl, H⟩
     have H := cf H a9
     rcases Bool.eq_false_or_eq_true (decide (c.2.2 < 0)) with b8 | b8
     ·have H := ct H b8
      refine aG [GEq (pt h 0), GEq (sv c.1), GEq (bv p), GEq (bv (!p)), GEq (bv (!p)), GEq (iv i), GEq (bv (decide (i > 0))), GEq (bv (decide (i > 0))), GEq undef, GEq undef, GEq undef, GEq undef, GEq undef, GEq undef, GEq undef, GEq undef, GEq undef, GEq undef, GEq (bv false), GEq (bv false), GEq (bv false), GEq (pt h 1), GEq (sv c.2.1), GEq (bv (c.2.1 == ([] : Bs))), GEq (bv (c.2.1 == ([] : Bs))), GEq (bv (c.2.1 == ([] : Bs))), GEq (pt h 1), GEq (sv c.2.1), GEq (iv (ln c.2.1)), GEq (bv (decide ((ln c.2.1) > 32))), GEq (bv (decide ((ln c.2.1) > 32))), GEq (bv (decide ((ln c.2.1) > 32))), GEq (pt h 2), GEq (iv c.2.2), GEq (bv (decide (c.2.2 < 0))), GEq (bv (decide (c.2.2 < 0))), GEq (bv (decide (c.2.2 < 0))), GEq undef, GEq undef, GEq undef, GEq (bv true)] [2] (tG [] w0 [Qs m 33 #[(sv a5), (iv a0), (iv a1), (lv A5 u c6), (lv A9 o z)], Qs h 37 #[(sv c.1), (sv c.2.1), (iv c.2.2)]] [([], []), ([2], [(bv p)])]) 41 1 ⟨trivial, SP.drew b1⟩ ?_ ?_
      iterate 41 refine And.intro ?_ ?_
      exact trivial
      ·exact oU (hC (hS 5 (pt h 0)) (h0))
      ·refine oL 0 ?_
       rintro P W hs f ⟨-, q5⟩
       refine kM (kc (kA f 0 68) k0) fun g => ?_
       refine sL 9 68 h 0 1 (sv c.1) 69 q5 rfl ?_
       exact eK g
      ·refine oH 0 1 ?_
       rintro P W hs f ⟨-, q6⟩
       refine kM (kc (kA f 1 69) k0) fun g => ?_
       refine cS q6 75 #[(.tmp 69)] #[9] 70 Tryz.call75 (Vn  c.1 W  p b2) ?_
       intro ac3 q7
       refine ⟨_, Qa g, rfl, ?_⟩
       exact (ai (ai rfl (trivial)) q7)
      ·exact oU (hC (hA 2 70) (h0))
      ·exact oU (hC (hA 3 71) (h0))
      ·exact oU (hC (hS 4 (iv i)) (hC (hB 4 72 q) (h0)))
      ·exact oU (hC (hA 5 73) (hC (hB 4 72 q) (h0)))
      ·exact oU (hC (hA 6 74) (hC (hB 4 72 q) (h0)))
      iterate 10 exact oY (hC (hB 7 75 l) (h0))
      ·exact oU (hC (hB 7 75 l) (hC (hA 17 85) (hC (hB 4 72 q) (h0))))
      ·exact oU (hC (hB 4 72 q) (hC (hA 18 86) (h0)))
      ·exact oU (hC (hA 19 87) (h0))
      ·exact oU (hC (hS 5 (pt h 0)) (hC (hA 20 88) (h0)))
      ·refine oL 1 ?_
       rintro P W hs f ⟨⟨ac4, -⟩, q8⟩
       refine kM (kc (kA f 21 89) (kc (kA f 20 88) k0)) fun g => ?_
       refine sL 9 89 h 1 1 (sv c.2.1) 90 q8 rfl ?_
       exact eK g
      ·refine oL 1 ?_
       rintro P W hs f ⟨⟨ac5, -⟩, ac6⟩
       refine kM (kc (kA f 22 90) (kc (kA f 20 88) k0)) fun g => ?_
       refine zO 9 (.tmp 90) (.const (.string ⟨List.toArray ([] : Bs)⟩)) c.2.1 ([] : Bs) 91 ?_
       exact eK g
      ·exact oU (hC (hA 20 88) (hC (hA 23 91) (h0)))
      ·exact oU (hC (hA 24 92) (h0))
      ·exact oU (hC (hS 5 (pt h 0)) (hC (hB 25 93 a4) (h0)))
      ·refine oL 1 ?_
       rintro P W hs f ⟨⟨ac7, -⟩, q9⟩
       refine kM (kc (kA f 26 94) (kc (eb (kA f 25 93) a4) k0)) fun g => ?_
       refine sL 9 94 h 1 1 (sv c.2.1) 95 q9 rfl ?_
       exact eK g
      ·exact oU (hC (hA 27 95) (hC (hB 25 93 a4) (h0)))
      ·exact oU (hC (hA 28 96) (hC (hB 25 93 a4) (h0)))
      ·exact oU (hC (hB 25 93 a4) (hC (hA 29 97) (h0)))
      ·exact oU (hC (hA 30 98) (h0))
      ·exact oU (hC (hS 5 (pt h 0)) (hC (hB 31 99 a9) (h0)))
      ·refine oL 1 ?_
       rintro P W hs f ⟨⟨ac8, -⟩, r0⟩
       refine kM (kc (kA f 32 100) (kc (eb (kA f 31 99) a9) k0)) fun g => ?_
       refine sL 2 100 h 2 1 (iv c.2.2) 101 r0 rfl ?_
       exact eK g
      ·exact oU (hC (hA 33 101) (hC (hB 31 99 a9) (h0)))
      ·exact oU (hC (hB 31 99 a9) (hC (hA 34 102) (h0)))
      ·exact oU (hC (hA 35 103) (h0))
      iterate 3 exact oY (hC (hB 36 104 b8) (h0))
      ·exact oU (hC (hB 36 104 b8) (hC (hA 39 107) (h0)))
      rintro P ac9 hs hf ⟨⟨ad0, -⟩, r1⟩
      refine Qy _ (kc (kT hs 1 (pt m 0)) (kc (kT hs 4 (iv i)) (kc (kF hf 40 108) k0))) ?_
      exact ⟨true, ⟨K, K, K, trivial⟩, SP.sel r1 [0] rfl rfl, H⟩
     have H := cf H b8
     refine aG [GEq (pt h 0), GEq (sv c.1), GEq (bv p), GEq (bv (!p)), GEq (bv (!p)), GEq (iv i), GEq (bv (decide (i > 0))), GEq (bv (decide (i > 0))), GEq undef, GEq undef, GEq undef, GEq undef, GEq undef, GEq undef, GEq undef, GEq undef, GEq undef, GEq undef, GEq (bv false), GEq (bv false), GEq (bv false), GEq (pt h 1), GEq (sv c.2.1), GEq (bv (c.2.1 == ([] : Bs))), GEq (bv (c.2.1 == ([] : Bs))), GEq (bv (c.2.1 == ([] : Bs))), GEq (pt h 1), GEq (sv c.2.1), GEq (iv (ln c.2.1)), GEq (bv (decide ((ln c.2.1) > 32))), GEq (bv (decide ((ln c.2.1) > 32))), GEq (bv (decide ((ln c.2.1) > 32))), GEq (pt h 2), GEq (iv c.2.2), GEq (bv (decide (c.2.2 < 0))), GEq (bv (decide (c.2.2 < 0))), GEq (bv (decide (c.2.2 < 0))), GEq (pt h 2), GEq (iv c.2.2), GEq (bv (decide (c.2.2 > 1099511627776))), GEq (bv (decide (c.2.2 > 1099511627776)))] [2] (tG [] w0 [Qs m 33 #[(sv a5), (iv a0), (iv a1), (lv A5 u c6), (lv A9 o z)], Qs h 37 #[(sv c.1), (sv c.2.1), (iv c.2.2)]] [([], []), ([2], [(bv p)])]) 41 1 ⟨trivial, SP.drew b1⟩ ?_ ?_
     iterate 41 refine And.intro ?_ ?_
     exact trivial
     ·exact oU (hC (hS 5 (pt h 0)) (h0))
     ·refine oL 0 ?_
      rintro P W hs f ⟨-, r2⟩
      refine kM (kc (kA f 0 68) k0) fun g => ?_
      refine sL 9 68 h 0 1 (sv c.1) 69 r2 rfl ?_
      exact eK g
     ·refine oH 0 1 ?_
      rintro P W hs f ⟨-, r3⟩
      refine kM (kc (kA f 1 69) k0) fun g => ?_
      refine cS r3 75 #[(.tmp 69)] #[9] 70 Tryz.call75 (Vn  c.1 W  p b2) ?_
      intro ad1 r4
      refine ⟨_, Qa g, rfl, ?_⟩
      exact (ai (ai rfl (trivial)) r4)
     ·exact oU (hC (hA 2 70) (h0))
     ·exact oU (hC (hA 3 71) (h0))
     ·exact oU (hC (hS 4 (iv i)) (hC (hB 4 72 q) (h0)))
     ·exact oU (hC (hA 5 73) (hC (hB 4 72 q) (h0)))
     ·exact oU (hC (hA 6 74) (hC (hB 4 72 q) (h0)))
     iterate 10 exact oY (hC (hB 7 75 l) (h0))
     ·exact oU (hC (hB 7 75 l) (hC (hA 17 85) (hC (hB 4 72 q) (h0))))
     ·exact oU (hC (hB 4 72 q) (hC (hA 18 86) (h0)))
     ·exact oU (hC (hA 19 87) (h0))
     ·exact oU (hC (hS 5 (pt h 0)) (hC (hA 20 88) (h0)))
     ·refine oL 1 ?_
      rintro P W hs f ⟨⟨ad2, -⟩, r5⟩
      refine kM (kc (kA f 21 89) (kc (kA f 20 88) k0)) fun g => ?_
      refine sL 9 89 h 1 1 (sv c.2.1) 90 r5 rfl ?_
      exact eK g
     ·refine oL 1 ?_
      rintro P W hs f ⟨⟨ad3, -⟩, ad4⟩
      refine kM (kc (kA f 22 90) (kc (kA f 20 88) k0)) fun g => ?_
      refine zO 9 (.tmp 90) (.const (.string ⟨List.toArray ([] : Bs)⟩)) c.2.1 ([] : Bs) 91 ?_
      exact eK g
     ·exact oU (hC (hA 20 88) (hC (hA 23 91) (h0)))
     ·exact oU (hC (hA 24 92) (h0))
     ·exact oU (hC (hS 5 (pt h 0)) (hC (hB 25 93 a4) (h0)))
     ·refine oL 1 ?_
      rintro P W hs f ⟨⟨ad5, -⟩, r6⟩
      refine kM (kc (kA f 26 94) (kc (eb (kA f 25 93) a4) k0)) fun g => ?_
      refine sL 9 94 h 1 1 (sv c.2.1) 95 r6 rfl ?_
      exact eK g
     ·exact oU (hC (hA 27 95) (hC (hB 25 93 a4) (h0)))
     ·exact oU (hC (hA 28 96) (hC (hB 25 93 a4) (h0)))
     ·exact oU (hC (hB 25 93 a4) (hC (hA 29 97) (h0)))
     ·exact oU (hC (hA 30 98) (h0))
     ·exact oU (hC (hS 5 (pt h 0)) (hC (hB 31 99 a9) (h0)))
     ·refine oL 1 ?_
      rintro P W hs f ⟨⟨ad6, -⟩, r7⟩
      refine kM (kc (kA f 32 100) (kc (eb (kA f 31 99) a9) k0)) fun g => ?_
      refine sL 2 100 h 2 1 (iv c.2.2) 101 r7 rfl ?_
      exact eK g
     ·exact oU (hC (hA 33 101) (hC (hB 31 99 a9) (h0)))
     ·exact oU (hC (hB 31 99 a9) (hC (hA 34 102) (h0)))
     ·exact oU (hC (hA 35 103) (h0))
     ·exact oU (hC (hS 5 (pt h 0)) (hC (hB 36 104 b8) (h0)))
     ·refine oL 1 ?_
      rintro P W hs f ⟨⟨ad7, -⟩, r8⟩
      refine kM (kc (kA f 37 105) (kc (eb (kA f 36 104) b8) k0)) fun g => ?_
      refine sL 2 105 h 2 1 (iv c.2.2) 106 r8 rfl ?_
      exact eK g
     ·exact oU (hC (hA 38 106) (hC (hB 36 104 b8) (h0)))
     ·exact oU (hC (hB 36 104 b8) (hC (hA 39 107) (h0)))
     rintro P ad8 hs hf ⟨⟨ad9, -⟩, r9⟩
     refine Qy _ (kc (kT hs 1 (pt m 0)) (kc (kT hs 4 (iv i)) (kc (kF hf 40 108) k0))) ?_
     exact ⟨(decide (c.2.2 > 1099511627776)), ⟨K, K, K, trivial⟩, SP.sel r9 [0] rfl rfl, H⟩
    rintro ρ ae0 ⟨c8, hk, e8, H⟩
    unfold Q0 at H
    first | refine At.known _ hk ?_ | rw [← Qo hk]
    refine cD 108 H (fun H => ?_) fun H => ?_
    ·refine aC ?_
     refine iR 1 1 [(2, (bv false))] ?_
     refine iF ?_
     refine At.ret K ?_
     refine ⟨(bv false), K, ?_⟩
     obtain rfl := Qe H
     exact ⟨rfl, SP.sel e8 [] rfl rfl⟩
    refine At.skip K ?_
    refine aR ?_
    refine iR 3 3 [(61, (iv i)), (62, (iv (IntKind.wrap .i64 (i + 1)))), (4, (iv (IntKind.wrap .i64 (i + 1))))] ?_
    refine iF ?_
    exact ⟨(IntKind.wrap .i64 (i + 1)), ⟨K, K, trivial⟩, SP.sel e8 [0] rfl rfl, H⟩
   refine At.exit K (id := 2) K ?_
   refine aC ?_
   refine iR 1 1 [(2, (bv true))] ?_
   refine iF ?_
   refine At.ret K ?_
   refine ⟨(bv true), K, ?_⟩
   obtain rfl := Qe H
   exact ⟨rfl, SP.sel c1 [] rfl rfl⟩
  exact ⟨0, ⟨K, K, trivial⟩, SP.sel c0 [0] rfl rfl, H⟩
 exact ⟨0, ⟨K, K, trivial⟩, SP.sel d1 [0] rfl rfl, H⟩
def Ui (v3 : Bool) : Option (Bool) :=
  (some (v3))
def Yt (p1 : Int) : Option (Bool) :=
  (cond (decide (p1 ≥ 1)) (Ui (decide (p1 ≤ 1073741824))) (Ui false))
set_option maxHeartbeats 40000000 in
theorem U3  (p1 : Int) (w0 : World)  (r : (Bool)) (H : Yt p1 = some r) :
  Calls Tryz.prog 55 #[(iv p1)] w0 (fun e W => e = .returned (bv r) ∧ SP [] w0 W []) := by
 unfold Yt at H
 refine Qt (n := 9) Tryz.func55 K K K ?_
 have a := Qw [] w0
 refine aC ?_
 refine iR 1 1 [(2, (bv false))] ?_
 refine iF ?_
 refine aQ ?_
 refine At.join (fun ρ w => ∃ (v3 : Bool), Vq ρ [(2, (bv v3))] ∧ SP [] w0 w [] ∧ Ui v3 = some r) ?_ ?_
 ·refine aR ?_
  refine iR 3 3 [(3, (iv p1)), (4, (bv (decide (p1 ≥ 1)))), (5, (bv (decide (p1 ≥ 1))))] ?_
  refine gD 5 H (fun H => ?_) fun H => ?_
  ·refine iR 4 7 [(6, (iv p1)), (7, (bv (decide (p1 ≤ 1073741824)))), (8, (bv (decide (p1 ≤ 1073741824)))), (2, (bv (decide (p1 ≤ 1073741824))))] ?_
   refine iF ?_
   exact ⟨(decide (p1 ≤ 1073741824)), ⟨K, trivial⟩, SP.sel a [] rfl rfl, H⟩
  refine iR 4 7 [(6, undef), (7, undef), (8, (bv false)), (2, (bv false))] ?_
  refine iF ?_
  exact ⟨false, ⟨K, trivial⟩, SP.sel a [] rfl rfl, H⟩
 rintro ρ w4 ⟨v3, hk, b, H⟩
 unfold Ui at H
 first | refine At.known _ hk ?_ | rw [← Qo hk]
 refine At.ret K ?_
 refine ⟨(bv v3), K, ?_⟩
 obtain rfl := Qe H
 exact ⟨rfl, SP.sel b [] rfl rfl⟩
def Yy (a : Int → Option (Bool)) (b : Int) (c : Bool) : Option (Bool) :=
  (cond c (some (false)) (a (IntKind.wrap .i64 (b + 1))))
def Zv (b : Int → Option (Bool)) (a : Bool) : Option (Bool) :=
  (some (a))
def Xj (a : Int → Option (Bool)) (e : Int) (f : Int) (g : Int) (h : Int) (c : (List Qb)) (b : Int) : Option (Bool) :=
  (cond (decide (b < ((List.length c : Nat) : Int))) ((idx c b).bind fun d => ((Y1 d.1 d.2.1 d.2.2.1 d.2.2.2.1 d.2.2.2.2).bind fun i => (cond (!i) (Yy a b true) (cond (decide (b > 0)) ((idx c (IntKind.wrap .i64 (b - 1))).bind fun j => ((idx c b).bind fun k => (Yy a b (!(Op.bytesLess j.1 k.1))))) (Yy a b false))))) ((Yt e).bind fun l => (cond l ((Yt f).bind fun m => (cond m ((Yt g).bind fun n => (cond n ((Yt h).bind fun o => (cond o (Zv a (decide (((List.length c : Nat) : Int) ≤ 8))) (Zv a false))) (Zv a false))) (Zv a false))) (Zv a false))))
def Zf (a : Int) (b : Int) (c : Int) (d : Int) (e : (List Qb)) : Nat → Int → Option (Bool)
  | 0, _ => none
  | f + 1, g => Xj  (Zf a b c d e f) a b c d e g
def Z6 (a : Int) (b : Int) (c : Int) (d : Int) (e : (List Qb)) : Option (Bool) :=
  (Zf a b c d e Zj 0)
set_option maxHeartbeats 40000000 in
theorem Vx (A6 : Option Addr) (c7 : Nat) (u : Int) (z : Int) (a0 : Int) (a1 : Int) (d9 : (List Qg)) (w0 : World) (p : (dDS Vu Fv).ok w0 (A6, c7, d9)) (r : (Bool)) (H : Z6 u z a0 a1 (mT d9) = some r) :
  Calls Tryz.prog 23 #[(.agg #[(iv u), (iv z), (iv a0), (iv a1), (lv A6 (mT d9) c7)])] w0 (fun e W => e = .returned (bv r) ∧ SP [] w0 W []) := by
 unfold Z6 at H
 refine Qt (n := 62) Tryz.func23 K K K ?_
 have d3 := Qw [] w0
 refine aC ?_
 refine iS 1 ?_
 refine zB 24 (.tmp 0) (.agg #[(iv u), (iv z), (iv a0), (iv a1), (lv A6 (mT d9) c7)]) 1 d3 ?_
 intro m k7 d4
 refine iR 1 2 [(2, (bv false))] ?_
 refine iF ?_
 refine aQ ?_
 refine aC ?_
 refine iR 1 1 [(3, (iv 0))] ?_
 refine iF ?_
 refine Z3 K (id := 0) K ?_
 refine Gm K (fun f5 ρ w => ∃ (h : Int), Vq ρ [(1, (pt m 0)), (3, (iv h))] ∧ SP [] w0 w [Qs m 24 #[(iv u), (iv z), (iv a0), (iv a1), (lv A6 (mT d9) c7)]] ∧ Zf u z a0 a1 (mT d9) f5 h = some r) (by rintro ρ w ⟨h, hk, hs, H⟩; cases H) ?_ Zj ?_
 ·rintro f5 ρ d5 ⟨h, hk, a5, H⟩
  refine At.known _ hk ?_
  replace H := (show Xj (Zf u z a0 a1 (mT d9) f5) u z a0 a1 (mT d9) h = some r from H)
  unfold Xj at H
  refine aQ ?_
  refine aC ?_
  refine iR 2 2 [(4, (iv h)), (5, (pt m 4))] ?_
  refine jL 3 22 5 m 4 0 (lv A6 (mT d9) c7) 6 a5 rfl ?_
  refine iR 2 5 [(7, (iv (ln (mT d9)))), (8, (bv (decide (h < (ln (mT d9))))))] ?_
  refine iF ?_
  refine cD 8 H (fun H => ?_) fun H => ?_
  ·refine At.skip K ?_
   refine aQ ?_
   refine Z3 K (id := 1) K ?_
   refine aQ ?_
   refine At.join (fun ρ w => ∃ (b0 : Bool), Vq ρ [(1, (pt m 0)), (3, (iv h)), (37, (bv b0))] ∧ SP [] w0 w [Qs m 24 #[(iv u), (iv z), (iv a0), (iv a1), (lv A6 (mT d9) c7)]] ∧ Yy (Zf u z a0 a1 (mT d9) f5) h b0 = some r) ?_ ?_
   ·obtain ⟨f, a6, a7, a2, H⟩ := J9 H
    obtain ⟨q, b1, H⟩ := Qd H
    rcases Bool.eq_false_or_eq_true (!q) with s | s
    ·have H := ct H s
     refine aG [GEq (pt m 4), GEq (lv A6 (mT d9) c7), GEq (iv h), Zt A6 Vu.sz h, GEq (.agg #[(sv (stT f).1), (iv (stT f).2.1), (iv (stT f).2.2.1), (lv f.2.2.2.1.1 (stT f).2.2.2.1 f.2.2.2.1.2.1), (lv f.2.2.2.2.1 (stT f).2.2.2.2 f.2.2.2.2.2.1)]), GEq (bv q), GEq (bv (!q)), GEq (bv (!q)), GEq undef, GEq undef, GEq undef, GEq undef, GEq undef, GEq undef, GEq undef, GEq undef, GEq undef, GEq undef, GEq undef, GEq undef, GEq undef, GEq undef, GEq undef, GEq undef, GEq undef, GEq undef, GEq (bv true)] [5] (tG [] w0 [Qs m 24 #[(iv u), (iv z), (iv a0), (iv a1), (lv A6 (mT d9) c7)]] [([], []), ([5], [(bv q)])]) 27 1 ⟨trivial, SP.drew a5⟩ ?_ ?_
     iterate 27 refine And.intro ?_ ?_
     exact trivial
     ·exact oU (hC (hS 1 (pt m 0)) (h0))
     ·refine oL 0 ?_
      rintro P W hs g ⟨-, d6⟩
      refine kM (kc (kA g 0 11) k0) fun i => ?_
      refine sL 22 11 m 4 0 (lv A6 (mT d9) c7) 12 d6 rfl ?_
      exact eK i
     ·exact oU (hC (hS 3 (iv h)) (h0))
     ·refine oL 0 ?_
      rintro P W hs g ⟨-, d7⟩
      refine kM (kc (kA g 1 12) (kc (kA g 2 13) k0)) fun i => ?_
      refine Xd stT (e := Vu) (l := d9) (A := A6) (c := c7) (T := 22) (E := 33) (x := (.tmp 12)) (ix := (.tmp 13)) (ki := .i64) (iz := h) (d := (some 14)) (k := 3) K rfl K K K K (RdT.sp (Zh p) d7) a6 a7 ?_
      intro d8 e0 e1 k8 hc1033
      exact ⟨rfl, _, Qa i, ⟨d8, e0, e1, rfl⟩⟩
     ·refine oL 0 ?_
      rintro P W hs g ⟨-, e2⟩
      obtain ⟨e3, e4, e5, a8⟩ := g 3 14 K
      refine kM (kc a8 k0) fun i => ?_
      refine Qx.cells (t := 33) (x := (.tmp 14)) (b := e3) (off := (e4 + Int.toNat h * Vu.sz)) (xs := [(sv (stT f).1), (iv (stT f).2.1), (iv (stT f).2.2.1), (lv f.2.2.2.1.1 (stT f).2.2.2.1 f.2.2.2.1.2.1), (lv f.2.2.2.2.1 (stT f).2.2.2.2 f.2.2.2.2.2.1)]) (d := (some 15)) (k := 4) K rfl K K K (Vd (e := Vu) (Qh (RdT.sp (Zh p) e2) e5 a6 a7) a2 rfl) ?_
      exact eK i
     ·refine oH 0 1 ?_
      rintro P W hs g ⟨-, b2⟩
      refine kM (kc (kA g 4 15) k0) fun i => ?_
      refine cS b2 54 #[(.tmp 15)] #[33] 16 Tryz.call54 (Uh f.2.2.2.1.1 f.2.2.2.1.2.1 f.2.2.2.2.1 f.2.2.2.2.2.1 (stT f).1 (stT f).2.1 (stT f).2.2.1 (stT f).2.2.2.1 (stT f).2.2.2.2 W (RdT.sp (Zh (dp1 (dp2 (dp2 (dp2 (Gd p a2)))))) b2) (RdT.sp (Zh (dp2 (dp2 (dp2 (dp2 (Gd p a2)))))) b2) q b1) ?_
      intro k9 e6
      refine ⟨_, Qa i, rfl, ?_⟩
      exact (ai (ai rfl (trivial)) e6)
     ·exact oU (hC (hA 5 16) (h0))
     ·exact oU (hC (hA 6 17) (h0))
     iterate 3 exact oY (hC (hB 7 18 s) (h0))
     iterate 14 exact oY (hC (hA 10 21) (h0))
     ·exact oY (hC (hB 7 18 s) (h0))
     ·exact oU (hC (hB 7 18 s) (hC (hA 25 36) (h0)))
     rintro P l0 hs hf ⟨⟨l1, -⟩, e7⟩
     refine Qy _ (kc (kT hs 1 (pt m 0)) (kc (kT hs 3 (iv h)) (kc (kF hf 26 37) k0))) ?_
     exact ⟨true, ⟨K, K, K, trivial⟩, SP.sel e7 [0] rfl rfl, H⟩
    have H := cf H s
    rcases Bool.eq_false_or_eq_true (decide (h > 0)) with o | o
    ·have H := ct H o
     obtain ⟨a3, c2, c3, e8, H⟩ := J9 H
     obtain ⟨a4, c4, c5, e9, H⟩ := J9 H
     refine aG [GEq (pt m 4), GEq (lv A6 (mT d9) c7), GEq (iv h), Zt A6 Vu.sz h, GEq (.agg #[(sv (stT f).1), (iv (stT f).2.1), (iv (stT f).2.2.1), (lv f.2.2.2.1.1 (stT f).2.2.2.1 f.2.2.2.1.2.1), (lv f.2.2.2.2.1 (stT f).2.2.2.2 f.2.2.2.2.2.1)]), GEq (bv q), GEq (bv (!q)), GEq (bv (!q)), GEq (iv h), GEq (bv (decide (h > 0))), GEq (bv (decide (h > 0))), GEq (pt m 4), GEq (lv A6 (mT d9) c7), GEq (iv h), GEq (iv (IntKind.wrap .i64 (h - 1))), Zt A6 Vu.sz (IntKind.wrap .i64 (h - 1)), Zt A6 Vu.sz (IntKind.wrap .i64 (h - 1)), GEq (sv (stT a3).1), GEq (pt m 4), GEq (lv A6 (mT d9) c7), GEq (iv h), Zt A6 Vu.sz h, Zt A6 Vu.sz h, GEq (sv (stT a4).1), GEq (bv (!(Op.bytesLess (stT a3).1 (stT a4).1))), GEq (bv (!(Op.bytesLess (stT a3).1 (stT a4).1))), GEq (bv (!(Op.bytesLess (stT a3).1 (stT a4).1)))] [5] (tG [] w0 [Qs m 24 #[(iv u), (iv z), (iv a0), (iv a1), (lv A6 (mT d9) c7)]] [([], []), ([5], [(bv q)])]) 27 1 ⟨trivial, SP.drew a5⟩ ?_ ?_
     iterate 27 refine And.intro ?_ ?_
     exact trivial
     ·exact oU (hC (hS 1 (pt m 0)) (h0))
     ·refine oL 0 ?_
      rintro P W hs g ⟨-, f0⟩
      refine kM (kc (kA g 0 11) k0) fun i => ?_
      refine sL 22 11 m 4 0 (lv A6 (mT d9) c7) 12 f0 rfl ?_
      exact eK i
     ·exact oU (hC (hS 3 (iv h)) (h0))
     ·refine oL 0 ?_
      rintro P W hs g ⟨-, f1⟩
      refine kM (kc (kA g 1 12) (kc (kA g 2 13) k0)) fun i => ?_
      refine Xd stT (e := Vu) (l := d9) (A := A6) (c := c7) (T := 22) (E := 33) (x := (.tmp 12)) (ix := (.tmp 13)) (ki := .i64) (iz := h) (d := (some 14)) (k := 3) K rfl K K K K (RdT.sp (Zh p) f1) a6 a7 ?_
      intro f2 f3 f4 l2 hc1082
      exact ⟨rfl, _, Qa i, ⟨f2, f3, f4, rfl⟩⟩
     ·refine oL 0 ?_
      rintro P W hs g ⟨-, f6⟩
      obtain ⟨f7, f8, f9, a8⟩ := g 3 14 K
      refine kM (kc a8 k0) fun i => ?_
      refine Qx.cells (t := 33) (x := (.tmp 14)) (b := f7) (off := (f8 + Int.toNat h * Vu.sz)) (xs := [(sv (stT f).1), (iv (stT f).2.1), (iv (stT f).2.2.1), (lv f.2.2.2.1.1 (stT f).2.2.2.1 f.2.2.2.1.2.1), (lv f.2.2.2.2.1 (stT f).2.2.2.2 f.2.2.2.2.2.1)]) (d := (some 15)) (k := 4) K rfl K K K (Vd (e := Vu) (Qh (RdT.sp (Zh p) f6) f9 a6 a7) a2 rfl) ?_
      exact eK i
     ·refine oH 0 1 ?_
      rintro P W hs g ⟨-, b3⟩
      refine kM (kc (kA g 4 15) k0) fun i => ?_
      refine cS b3 54 #[(.tmp 15)] #[33] 16 Tryz.call54 (Uh f.2.2.2.1.1 f.2.2.2.1.2.1 f.2.2.2.2.1 f.2.2.2.2.2.1 (stT f).1 (stT f).2.1 (stT f).2.2.1 (stT f).2.2.2.1 (stT f).2.2.2.2 W (RdT.sp (Zh (dp1 (dp2 (dp2 (dp2 (Gd p a2)))))) b3) (RdT.sp (Zh (dp2 (dp2 (dp2 (dp2 (Gd p a2)))))) b3) q b1) ?_
      intro l3 g0
      refine ⟨_, Qa i, rfl, ?_⟩
      exact (ai (ai rfl (trivial)) g0)
     ·exact oU (hC (hA 5 16) (h0))
     ·exact oU (hC (hA 6 17) (h0))
     ·exact oU (hC (hS 3 (iv h)) (hC (hB 7 18 s) (h0)))
     ·exact oU (hC (hA 8 19) (hC (hB 7 18 s) (h0)))
     ·exact oU (hC (hA 9 20) (hC (hB 7 18 s) (h0)))
     ·exact oU (hC (hS 1 (pt m 0)) (hC (hB 10 21 o) (h0)))
     ·refine oL 1 ?_
      rintro P W hs g ⟨⟨l4, -⟩, g1⟩
      refine kM (kc (kA g 11 22) (kc (eb (kA g 10 21) o) k0)) fun i => ?_
      refine sL 22 22 m 4 0 (lv A6 (mT d9) c7) 23 g1 rfl ?_
      exact eK i
     ·exact oU (hC (hS 3 (iv h)) (hC (hB 10 21 o) (h0)))
     ·exact oU (hC (hA 13 24) (hC (hB 10 21 o) (h0)))
     ·refine oL 1 ?_
      rintro P W hs g ⟨⟨l5, -⟩, g2⟩
      refine kM (kc (kA g 12 23) (kc (kA g 14 25) (kc (eb (kA g 10 21) o) k0))) fun i => ?_
      refine Xd stT (e := Vu) (l := d9) (A := A6) (c := c7) (T := 22) (E := 33) (x := (.tmp 23)) (ix := (.tmp 25)) (ki := .i64) (iz := (IntKind.wrap .i64 (h - 1))) (d := (some 26)) (k := 15) K rfl K K K K (RdT.sp (Zh p) g2) c2 c3 ?_
      intro g3 g4 g5 l6 hc1104
      exact ⟨rfl, _, Qa i, ⟨g3, g4, g5, rfl⟩⟩
     ·refine oL 1 ?_
      rintro P W hs g ⟨⟨l7, -⟩, l8⟩
      obtain ⟨c6, c8, g6, g7⟩ := g 15 26 K
      refine kM (kc g7 (kc (eb (kA g 10 21) o) k0)) fun i => ?_
      refine Qx.run (k := 16) (v := (.pointer (some ⟨c6, (c8 + Int.toNat (IntKind.wrap .i64 (h - 1)) * Vu.sz), none⟩))) K ?_
      exact ⟨rfl, _, Qa i, ⟨c6, c8, g6, rfl⟩⟩
     ·refine oL 1 ?_
      rintro P W hs g ⟨⟨l9, -⟩, g8⟩
      obtain ⟨g9, h1, h2, h3⟩ := g 16 27 K
      refine kM (kc h3 (kc (eb (kA g 10 21) o) k0)) fun i => ?_
      refine sC 9 27 g9 (h1 + Int.toNat (IntKind.wrap .i64 (h - 1)) * Vu.sz) (sv (stT a3).1) 28 (Ql (e := Vu) (Qh (RdT.sp (Zh p) g8) h2 c2 c3) e8 (j := 0) rfl) ?_
      exact eK i
     ·exact oU (hC (hS 1 (pt m 0)) (hC (hB 10 21 o) (h0)))
     ·refine oL 1 ?_
      rintro P W hs g ⟨⟨m0, -⟩, h4⟩
      refine kM (kc (kA g 18 29) (kc (eb (kA g 10 21) o) k0)) fun i => ?_
      refine sL 22 29 m 4 0 (lv A6 (mT d9) c7) 30 h4 rfl ?_
      exact eK i
     ·exact oU (hC (hS 3 (iv h)) (hC (hB 10 21 o) (h0)))
     ·refine oL 1 ?_
      rintro P W hs g ⟨⟨m1, -⟩, h5⟩
      refine kM (kc (kA g 19 30) (kc (kA g 20 31) (kc (eb (kA g 10 21) o) k0))) fun i => ?_
      refine Xd stT (e := Vu) (l := d9) (A := A6) (c := c7) (T := 22) (E := 33) (x := (.tmp 30)) (ix := (.tmp 31)) (ki := .i64) (iz := h) (d := (some 32)) (k := 21) K rfl K K K K (RdT.sp (Zh p) h5) c4 c5 ?_
      intro h6 h7 h8 m2 hc1127
      exact ⟨rfl, _, Qa i, ⟨h6, h7, h8, rfl⟩⟩
     ·refine oL 1 ?_
      rintro P W hs g ⟨⟨m3, -⟩, m4⟩
      obtain ⟨c9, d0, h9, i0⟩ := g 21 32 K
      refine kM (kc i0 (kc (eb (kA g 10 21) o) k0)) fun i => ?_
      refine Qx.run (k := 22) (v := (.pointer (some ⟨c9, (d0 + Int.toNat h * Vu.sz), none⟩))) K ?_
      exact ⟨rfl, _, Qa i, ⟨c9, d0, h9, rfl⟩⟩
     ·refine oL 1 ?_
      rintro P W hs g ⟨⟨m5, -⟩, i1⟩
      obtain ⟨i2, i3, i4, i5⟩ := g 22 33 K
      refine kM (kc i5 (kc (eb (kA g 10 21) o) k0)) fun i => ?_
      refine sC 9 33 i2 (i3 + Int.toNat h * Vu.sz) (sv (stT a4).1) 34 (Ql (e := Vu) (Qh (RdT.sp (Zh p) i1) i4 c4 c5) e9 (j := 0) rfl) ?_
      exact eK i
     ·refine oL 1 ?_
      rintro P W hs g ⟨⟨m6, -⟩, m7⟩
      refine kM (kc (kA g 17 28) (kc (kA g 23 34) (kc (eb (kA g 10 21) o) k0))) fun i => ?_
      refine U7 (op := .geq) (T := 9) (T' := 9) (x := (.tmp 28)) (y := (.tmp 34)) (a := (stT a3).1) (b := (stT a4).1) (r := (bv (!(Op.bytesLess (stT a3).1 (stT a4).1)))) (d := (some 35)) (k := 24) K rfl K K rfl ?_
      exact eK i
     ·exact oU (hC (hB 10 21 o) (hC (hA 24 35) (hC (hB 7 18 s) (h0))))
     ·exact oU (hC (hB 7 18 s) (hC (hA 25 36) (h0)))
     rintro P m8 hs hf ⟨⟨m9, -⟩, i6⟩
     refine Qy _ (kc (kT hs 1 (pt m 0)) (kc (kT hs 3 (iv h)) (kc (kF hf 26 37) k0))) ?_
     exact ⟨(!(Op.bytesLess (stT a3).1 (stT a4).1)), ⟨K, K, K, trivial⟩, SP.sel i6 [0] rfl rfl, H⟩
    have H := cf H o
    refine aG [GEq (pt m 4), GEq (lv A6 (mT d9) c7), GEq (iv h), Zt A6 Vu.sz h, GEq (.agg #[(sv (stT f).1), (iv (stT f).2.1), (iv (stT f).2.2.1), (lv f.2.2.2.1.1 (stT f).2.2.2.1 f.2.2.2.1.2.1), (lv f.2.2.2.2.1 (stT f).2.2.2.2 f.2.2.2.2.2.1)]), GEq (bv q), GEq (bv (!q)), GEq (bv (!q)), GEq (iv h), GEq (bv (decide (h > 0))), GEq (bv (decide (h > 0))), GEq undef, GEq undef, GEq undef, GEq undef, GEq undef, GEq undef, GEq undef, GEq undef, GEq undef, GEq undef, GEq undef, GEq undef, GEq undef, GEq undef, GEq (bv false), GEq (bv false)] [5] (tG [] w0 [Qs m 24 #[(iv u), (iv z), (iv a0), (iv a1), (lv A6 (mT d9) c7)]] [([], []), ([5], [(bv q)])]) 27 1 ⟨trivial, SP.drew a5⟩ ?_ ?_
    iterate 27 refine And.intro ?_ ?_
    exact trivial
    ·exact oU (hC (hS 1 (pt m 0)) (h0))
    ·refine oL 0 ?_
     rintro P W hs g ⟨-, i7⟩
     refine kM (kc (kA g 0 11) k0) fun i => ?_
     refine sL 22 11 m 4 0 (lv A6 (mT d9) c7) 12 i7 rfl ?_
     exact eK i
    ·exact oU (hC (hS 3 (iv h)) (h0))
    ·refine oL 0 ?_
     rintro P W hs g ⟨-, i8⟩
     refine kM (kc (kA g 1 12) (kc (kA g 2 13) k0)) fun i => ?_
     refine Xd stT (e := Vu) (l := d9) (A := A6) (c := c7) (T := 22) (E := 33) (x := (.tmp 12)) (ix := (.tmp 13)) (ki := .i64) (iz := h) (d := (some 14)) (k := 3) K rfl K K K K (RdT.sp (Zh p) i8) a6 a7 ?_
     intro i9 j0 j1 n0 hc1159
     exact ⟨rfl, _, Qa i, ⟨i9, j0, j1, rfl⟩⟩
    ·refine oL 0 ?_
     rintro P W hs g ⟨-, j2⟩
     obtain ⟨j3, j4, j5, a8⟩ := g 3 14 K
     refine kM (kc a8 k0) fun i => ?_
     refine Qx.cells (t := 33) (x := (.tmp 14)) (b := j3) (off := (j4 + Int.toNat h * Vu.sz)) (xs := [(sv (stT f).1), (iv (stT f).2.1), (iv (stT f).2.2.1), (lv f.2.2.2.1.1 (stT f).2.2.2.1 f.2.2.2.1.2.1), (lv f.2.2.2.2.1 (stT f).2.2.2.2 f.2.2.2.2.2.1)]) (d := (some 15)) (k := 4) K rfl K K K (Vd (e := Vu) (Qh (RdT.sp (Zh p) j2) j5 a6 a7) a2 rfl) ?_
     exact eK i
    ·refine oH 0 1 ?_
     rintro P W hs g ⟨-, b4⟩
     refine kM (kc (kA g 4 15) k0) fun i => ?_
     refine cS b4 54 #[(.tmp 15)] #[33] 16 Tryz.call54 (Uh f.2.2.2.1.1 f.2.2.2.1.2.1 f.2.2.2.2.1 f.2.2.2.2.2.1 (stT f).1 (stT f).2.1 (stT f).2.2.1 (stT f).2.2.2.1 (stT f).2.2.2.2 W (RdT.sp (Zh (dp1 (dp2 (dp2 (dp2 (Gd p a2)))))) b4) (RdT.sp (Zh (dp2 (dp2 (dp2 (dp2 (Gd p a2)))))) b4) q b1) ?_
     intro n1 j6
     refine ⟨_, Qa i, rfl, ?_⟩
     exact (ai (ai rfl (trivial)) j6)
    ·exact oU (hC (hA 5 16) (h0))
    ·exact oU (hC (hA 6 17) (h0))
    ·exact oU (hC (hS 3 (iv h)) (hC (hB 7 18 s) (h0)))
    ·exact oU (hC (hA 8 19) (hC (hB 7 18 s) (h0)))
    ·exact oU (hC (hA 9 20) (hC (hB 7 18 s) (h0)))
    iterate 14 exact oY (hC (hB 10 21 o) (h0))
    ·exact oU (hC (hB 10 21 o) (hC (hA 24 35) (hC (hB 7 18 s) (h0))))
    ·exact oU (hC (hB 7 18 s) (hC (hA 25 36) (h0)))
    rintro P n2 hs hf ⟨⟨n3, -⟩, j7⟩
    refine Qy _ (kc (kT hs 1 (pt m 0)) (kc (kT hs 3 (iv h)) (kc (kF hf 26 37) k0))) ?_
    exact ⟨false, ⟨K, K, K, trivial⟩, SP.sel j7 [0] rfl rfl, H⟩
   rintro ρ n4 ⟨b0, hk, d1, H⟩
   unfold Yy at H
   first | refine At.known _ hk ?_ | rw [← Qo hk]
   refine cD 37 H (fun H => ?_) fun H => ?_
   ·refine aC ?_
    refine iR 1 1 [(2, (bv false))] ?_
    refine iF ?_
    refine At.ret K ?_
    refine ⟨(bv false), K, ?_⟩
    obtain rfl := Qe H
    exact ⟨rfl, SP.sel d1 [] rfl rfl⟩
   refine At.skip K ?_
   refine aR ?_
   refine iR 3 3 [(9, (iv h)), (10, (iv (IntKind.wrap .i64 (h + 1)))), (3, (iv (IntKind.wrap .i64 (h + 1))))] ?_
   refine iF ?_
   exact ⟨(IntKind.wrap .i64 (h + 1)), ⟨K, K, trivial⟩, SP.sel d1 [0] rfl rfl, H⟩
  refine At.exit K (id := 0) K ?_
  refine aQ ?_
  refine At.join (fun ρ w => ∃ (a9 : Bool), Vq ρ [(2, (bv a9))] ∧ SP [] w0 w [] ∧ Zv (Zf u z a0 a1 (mT d9) f5) a9 = some r) ?_ ?_
  ·refine aR ?_
   refine iR 1 1 [(38, (pt m 0))] ?_
   refine jL 2 2 38 m 0 0 (iv u) 39 a5 rfl ?_
   obtain ⟨d2, j8, H⟩ := Qd H
   refine iS 3 ?_
   refine cS a5 55 #[(.tmp 39)] #[2] 40 Tryz.call55 (U3  u d5  d2 j8) ?_
   intro j9 b5
   refine iR 1 4 [(41, (bv d2))] ?_
   refine gD 41 H (fun H => ?_) fun H => ?_
   ·refine iR 1 5 [(42, (pt m 1))] ?_
    refine jL 6 2 42 m 1 0 (iv z) 43 b5 rfl ?_
    obtain ⟨b6, k1, H⟩ := Qd H
    refine iS 7 ?_
    refine cS b5 55 #[(.tmp 43)] #[2] 44 Tryz.call55 (U3  z j9  b6 k1) ?_
    intro k2 b7
    refine iR 2 9 [(45, (bv b6)), (46, (bv b6))] ?_
    refine gD 46 H (fun H => ?_) fun H => ?_
    ·refine iR 1 10 [(47, (pt m 2))] ?_
     refine jL 11 2 47 m 2 0 (iv a0) 48 b7 rfl ?_
     obtain ⟨b8, k3, H⟩ := Qd H
     refine iS 12 ?_
     refine cS b7 55 #[(.tmp 48)] #[2] 49 Tryz.call55 (U3  a0 k2  b8 k3) ?_
     intro k4 b9
     refine iR 2 14 [(50, (bv b8)), (51, (bv b8))] ?_
     refine gD 51 H (fun H => ?_) fun H => ?_
     ·refine iR 1 15 [(52, (pt m 3))] ?_
      refine jL 16 2 52 m 3 0 (iv a1) 53 b9 rfl ?_
      obtain ⟨c0, k5, H⟩ := Qd H
      refine iS 17 ?_
      refine cS b9 55 #[(.tmp 53)] #[2] 54 Tryz.call55 (U3  a1 k4  c0 k5) ?_
      intro n5 c1
      refine iR 2 19 [(55, (bv c0)), (56, (bv c0))] ?_
      refine gD 56 H (fun H => ?_) fun H => ?_
      ·refine iR 1 20 [(57, (pt m 4))] ?_
       refine jL 21 22 57 m 4 0 (lv A6 (mT d9) c7) 58 c1 rfl ?_
       refine iR 4 25 [(59, (iv (ln (mT d9)))), (60, (bv (decide ((ln (mT d9)) ≤ 8)))), (61, (bv (decide ((ln (mT d9)) ≤ 8)))), (2, (bv (decide ((ln (mT d9)) ≤ 8))))] ?_
       refine iF ?_
       exact ⟨(decide ((ln (mT d9)) ≤ 8)), ⟨K, trivial⟩, SP.sel c1 [] rfl rfl, H⟩
      refine iR 6 25 (uN 57 4 [(61, (bv false)), (2, (bv false))]) ?_
      refine iF ?_
      exact ⟨false, ⟨K, trivial⟩, SP.sel c1 [] rfl rfl, H⟩
     refine iR 11 25 (uN 52 3 ((55, (bv false)) :: (56, (bv false)) :: (uN 57 4 [(61, (bv false)), (2, (bv false))]))) ?_
     refine iF ?_
     exact ⟨false, ⟨K, trivial⟩, SP.sel b9 [] rfl rfl, H⟩
    refine iR 16 25 (uN 47 3 ((50, (bv false)) :: (51, (bv false)) :: (uN 52 3 ((55, (bv false)) :: (56, (bv false)) :: (uN 57 4 [(61, (bv false)), (2, (bv false))]))))) ?_
    refine iF ?_
    exact ⟨false, ⟨K, trivial⟩, SP.sel b7 [] rfl rfl, H⟩
   refine iR 21 25 (uN 42 3 ((45, (bv false)) :: (46, (bv false)) :: (uN 47 3 ((50, (bv false)) :: (51, (bv false)) :: (uN 52 3 ((55, (bv false)) :: (56, (bv false)) :: (uN 57 4 [(61, (bv false)), (2, (bv false))]))))))) ?_
   refine iF ?_
   exact ⟨false, ⟨K, trivial⟩, SP.sel b5 [] rfl rfl, H⟩
  rintro ρ n6 ⟨a9, hk, k6, H⟩
  unfold Zv at H
  first | refine At.known _ hk ?_ | rw [← Qo hk]
  refine At.ret K ?_
  refine ⟨(bv a9), K, ?_⟩
  obtain rfl := Qe H
  exact ⟨rfl, SP.sel k6 [] rfl rfl⟩
 exact ⟨0, ⟨K, K, trivial⟩, SP.sel d4 [0] rfl rfl, H⟩
theorem Cm (A6 : Option Addr) (c7 : Nat) (a : Int) (b : Int) (c : Int) (d : Int) (f : (List Qb)) (w0 : World) (g : ∃ d9 : List Qg, f = List.map stT d9 ∧ (dDS Vu Fv).ok w0 (A6, c7, d9)) (r : (Bool)) (H : Z6 a b c d f = some r) :
  Calls Tryz.prog 23 #[(.agg #[(iv a), (iv b), (iv c), (iv d), (lv A6 f c7)])] w0 (fun e W => e = .returned (bv r) ∧ SP [] w0 W []) := by
 obtain ⟨d9, rfl, g⟩ := g
 exact Vx A6 c7 a b c d d9 w0 g r H
def Yc (d : Int → Option ((List UInt8) × Int × Int × (List (Int × Int)) × (List ((List UInt8) × (List UInt8) × Int)) × Bool)) (c : (List Qb)) (e : (List UInt8)) (b : Int) : Option ((List UInt8) × Int × Int × (List (Int × Int)) × (List ((List UInt8) × (List UInt8) × Int)) × Bool) :=
  (cond (decide (b < ((List.length c : Nat) : Int))) ((idx c b).bind fun f => (cond (f.1 == e) ((idx c b).bind fun a => (some (a.1, a.2.1, a.2.2.1, a.2.2.2.1, a.2.2.2.2, true))) (d (IntKind.wrap .i64 (b + 1))))) (some (([] : List UInt8), 0, 0, ([] : List (Int × Int)), ([] : List ((List UInt8) × (List UInt8) × Int)), false)))
def Yd (a : (List Qb)) (b : (List UInt8)) : Nat → Int → Option ((List UInt8) × Int × Int × (List (Int × Int)) × (List ((List UInt8) × (List UInt8) × Int)) × Bool)
  | 0, _ => none
  | f + 1, c => Yc  (Yd a b f) a b c
def Rc (c : Int) (d : Int) (e : Int) (f : Int) (a : (List Qb)) (b : (List UInt8)) : Option ((List UInt8) × Int × Int × (List (Int × Int)) × (List ((List UInt8) × (List UInt8) × Int)) × Bool) :=
  (Yd a b Zj 0)
set_option maxHeartbeats 40000000 in
theorem Eh {R : World → Prop} (A6 : Option Addr) (c7 : Nat) (u : Int) (v : Int) (y : Int) (z : Int) (d9 : (List Qg)) (o : Bs) (w0 : World) (hR : ∀ w, Below w0.heap.size w0 w → R w) (q : ∀ w, R w → (dDS Vu Fv).ok w (A6, c7, d9)) (r : (Bs × Int × Int × (List (Int × Int)) × (List Tk) × Bool)) (H : Rc u v y z (mT d9) o = some r) :
  Calls Tryz.prog 19 #[(.agg #[(iv u), (iv v), (iv y), (iv z), (lv A6 (mT d9) c7)]), (sv o)] w0 (fun e W => ∃ (a2 : Option Addr) (a3 : Nat) (a4 : Option Addr) (a5 : Nat), e = .returned (.tuple #[(.agg #[(sv r.1), (iv r.2.1), (iv r.2.2.1), (lv a2 r.2.2.2.1 a3), (lv a4 r.2.2.2.2.1 a5)]), (bv r.2.2.2.2.2)]) ∧ (∀ w, R w → RdT (Qf (Qv .u32) (Qv .i64)) w a2 a3 r.2.2.2.1) ∧ (∀ w, R w → RdT (Qf Qj (Qf Qj (Qv .i64))) w a4 a5 r.2.2.2.2.1) ∧ SP [] w0 W []) := by
 unfold Rc at H
 refine Qt (n := 28) Tryz.func19 K K K ?_
 have b5 := Qw [] w0
 refine aC ?_
 refine iS 1 ?_
 refine zB 24 (.tmp 0) (.agg #[(iv u), (iv v), (iv y), (iv z), (lv A6 (mT d9) c7)]) 2 b5 ?_
 intro p c3 b6
 refine iS 2 ?_
 refine zA 33 (.agg #[(sv ([] : Bs)), (iv 0), (iv 0), (lv none ([] : List (Int × Int)) 0), (lv none ([] : List Tk) 0)]) 4 b6 ?_
 intro s c4 b7
 refine iR 1 3 [(5, (bv false))] ?_
 refine iF ?_
 refine aQ ?_
 refine aC ?_
 refine iR 1 1 [(6, (iv 0))] ?_
 refine iF ?_
 refine Z3 K (id := 0) K ?_
 refine Gm K (fun f1 ρ w => ∃ (h : Int), Vq ρ [(1, (sv o)), (2, (pt p 0)), (4, (pt s 0)), (6, (iv h))] ∧ SP [] w0 w [Qs p 24 #[(iv u), (iv v), (iv y), (iv z), (lv A6 (mT d9) c7)], Qs s 33 #[(sv ([] : Bs)), (iv 0), (iv 0), (lv none ([] : List (Int × Int)) 0), (lv none ([] : List Tk) 0)]] ∧ Yd (mT d9) o f1 h = some r) (by rintro ρ w ⟨h, hk, hs, H⟩; cases H) ?_ Zj ?_
 ·rintro f1 ρ a0 ⟨h, hk, m, H⟩
  refine At.known _ hk ?_
  replace H := (show Yc (Yd (mT d9) o f1) (mT d9) o h = some r from H)
  unfold Yc at H
  refine aQ ?_
  refine aC ?_
  refine iR 2 2 [(7, (iv h)), (8, (pt p 4))] ?_
  refine jL 3 22 8 p 4 0 (lv A6 (mT d9) c7) 9 m rfl ?_
  refine iR 2 5 [(10, (iv (ln (mT d9)))), (11, (bv (decide (h < (ln (mT d9))))))] ?_
  refine iF ?_
  refine cD 11 H (fun H => ?_) fun H => ?_
  ·refine At.skip K ?_
   refine aQ ?_
   refine Z3 K (id := 1) K ?_
   refine aC ?_
   refine iR 1 1 [(14, (pt p 4))] ?_
   refine jL 2 22 14 p 4 0 (lv A6 (mT d9) c7) 15 m rfl ?_
   refine iR 1 3 [(16, (iv h))] ?_
   obtain ⟨a6, a7, a8, b8, H⟩ := J9 H
   refine iS 4 ?_
   refine Xd stT (e := Vu) (l := d9) (A := A6) (c := c7) (T := 22) (E := 33) (x := (.tmp 15)) (ix := (.tmp 16)) (ki := .i64) (iz := h) (d := (some 17)) (k := 3) K rfl K K K K ((fun w hm => (Zh (q w hm))) a0 (hR _ (SP.keeps m))) a7 a8 ?_
   intro a9 b0 b9 c5 hc93
   refine iR 1 5 [(18, (.pointer (some ⟨a9, (b0 + Int.toNat h * Vu.sz), none⟩)))] ?_
   refine jX 6 9 18 a9 (b0 + Int.toNat h * Vu.sz) (sv (stT a6).1) 19 (Ql (e := Vu) (Qh ((fun w hm => (Zh (q w hm))) a0 (hR _ (SP.keeps m))) b9 a7 a8) b8 (j := 0) rfl) ?_
   refine iR 1 7 [(20, (sv o))] ?_
   refine jO 8 9 (.tmp 19) (.tmp 20) ((stT a6).1) o 21 ?_
   refine iF ?_
   refine cD 21 H (fun H => ?_) fun H => ?_
   ·refine aC ?_
    refine iR 1 1 [(22, (pt p 4))] ?_
    refine jL 2 22 22 p 4 0 (lv A6 (mT d9) c7) 23 m rfl ?_
    refine iR 1 3 [(24, (iv h))] ?_
    obtain ⟨f, b1, b2, a1, H⟩ := J9 H
    refine iS 4 ?_
    refine Xd stT (e := Vu) (l := d9) (A := A6) (c := c7) (T := 22) (E := 33) (x := (.tmp 23)) (ix := (.tmp 24)) (ki := .i64) (iz := h) (d := (some 25)) (k := 3) K rfl K K K K ((fun w hm => (Zh (q w hm))) a0 (hR _ (SP.keeps m))) b1 b2 ?_
    intro c0 c1 c2 c6 hc104
    refine iS 5 ?_
    refine Qx.cells (t := 33) (x := (.tmp 25)) (b := c0) (off := (c1 + Int.toNat h * Vu.sz)) (xs := [(sv (stT f).1), (iv (stT f).2.1), (iv (stT f).2.2.1), (lv f.2.2.2.1.1 (stT f).2.2.2.1 f.2.2.2.1.2.1), (lv f.2.2.2.2.1 (stT f).2.2.2.2 f.2.2.2.2.2.1)]) (d := (some 26)) (k := 4) K rfl K K K (Vd (e := Vu) (Qh ((fun w hm => (Zh (q w hm))) a0 (hR _ (SP.keeps m))) c2 b1 b2) a1 rfl) ?_
    refine iS 6 ?_
    refine zT 33 (.tmp 4) (.tmp 26) s 0 1 (.agg #[(sv (stT f).1), (iv (stT f).2.1), (iv (stT f).2.2.1), (lv f.2.2.2.1.1 (stT f).2.2.2.1 f.2.2.2.1.2.1), (lv f.2.2.2.2.1 (stT f).2.2.2.2 f.2.2.2.2.2.1)]) #[(sv (stT f).1), (iv (stT f).2.1), (iv (stT f).2.2.1), (lv f.2.2.2.1.1 (stT f).2.2.2.1 f.2.2.2.1.2.1), (lv f.2.2.2.2.1 (stT f).2.2.2.2 f.2.2.2.2.2.1)] none m ?_
    intro c8 b3
    refine iR 1 7 [(5, (bv true))] ?_
    refine iF ?_
    refine At.ret K ?_
    refine ⟨(.tuple #[(.agg #[(sv (stT f).1), (iv (stT f).2.1), (iv (stT f).2.2.1), (lv f.2.2.2.1.1 (stT f).2.2.2.1 f.2.2.2.1.2.1), (lv f.2.2.2.2.1 (stT f).2.2.2.2 f.2.2.2.2.2.1)]), (bv true)]), Cl K (Uf (a := 4) (t := 33) (g := s) (off := 0) K (SP.get b3 (i := 1) rfl) K) (Nv (t := 5) K), ?_⟩
    obtain rfl := Qe H
    exact ⟨f.2.2.2.1.1, f.2.2.2.1.2.1, f.2.2.2.2.1, f.2.2.2.2.2.1, rfl, (fun w hm => (Zh ((fun w hm => (dp1 (dp2 (dp2 (dp2 (Gd (q w hm) a1)))))) w hm))), (fun w hm => (Zh ((fun w hm => (dp2 (dp2 (dp2 (dp2 (Gd (q w hm) a1)))))) w hm))), SP.sel b3 [] rfl rfl⟩
   refine At.skip K ?_
   refine aR ?_
   refine iR 3 3 [(12, (iv h)), (13, (iv (IntKind.wrap .i64 (h + 1)))), (6, (iv (IntKind.wrap .i64 (h + 1))))] ?_
   refine iF ?_
   exact ⟨(IntKind.wrap .i64 (h + 1)), ⟨K, K, K, K, trivial⟩, SP.sel m [0, 1] rfl rfl, H⟩
  refine At.exit K (id := 0) K ?_
  refine aC ?_
  refine iR 1 1 [(27, (.agg #[(sv ([] : Bs)), (iv 0), (iv 0), (lv none ([] : List (Int × Int)) 0), (lv none ([] : List Tk) 0)]))] ?_
  refine iS 2 ?_
  refine zT 33 (.tmp 4) (.tmp 27) s 0 1 (.agg #[(sv ([] : Bs)), (iv 0), (iv 0), (lv none ([] : List (Int × Int)) 0), (lv none ([] : List Tk) 0)]) #[(sv ([] : Bs)), (iv 0), (iv 0), (lv none ([] : List (Int × Int)) 0), (lv none ([] : List Tk) 0)] none m ?_
  intro c9 b4
  refine iR 1 3 [(5, (bv false))] ?_
  refine iF ?_
  refine At.ret K ?_
  refine ⟨(.tuple #[(.agg #[(sv ([] : Bs)), (iv 0), (iv 0), (lv none ([] : List (Int × Int)) 0), (lv none ([] : List Tk) 0)]), (bv false)]), Cl K (Uf (a := 4) (t := 33) (g := s) (off := 0) K (SP.get b4 (i := 1) rfl) K) (Nv (t := 5) K), ?_⟩
  obtain rfl := Qe H
  exact ⟨none, 0, none, 0, rfl, (fun w _ => RdT.nil (Qf (Qv .u32) (Qv .i64)) w), (fun w _ => RdT.nil (Qf Qj (Qf Qj (Qv .i64))) w), SP.sel b4 [] rfl rfl⟩
 exact ⟨0, ⟨K, K, K, K, trivial⟩, SP.sel b7 [0, 1] rfl rfl, H⟩
def Xk (d : Int → Option ((List UInt8) × (List UInt8) × Int × Bool)) (b : (List ((List UInt8) × (List UInt8) × Int))) (e : (List UInt8)) (a : Int) : Option ((List UInt8) × (List UInt8) × Int × Bool) :=
  (cond (decide (a < ((List.length b : Nat) : Int))) ((idx b a).bind fun f => (cond (f.1 == e) ((idx b a).bind fun c => (some (c.1, c.2.1, c.2.2, true))) (d (IntKind.wrap .i64 (a + 1))))) (some (([] : List UInt8), ([] : List UInt8), 0, false)))
def Xl (a : (List ((List UInt8) × (List UInt8) × Int))) (b : (List UInt8)) : Nat → Int → Option ((List UInt8) × (List UInt8) × Int × Bool)
  | 0, _ => none
  | f + 1, c => Xk  (Xl a b f) a b c
def Gr (c : (List UInt8)) (d : Int) (e : Int) (f : (List (Int × Int))) (a : (List ((List UInt8) × (List UInt8) × Int))) (b : (List UInt8)) : Option ((List UInt8) × (List UInt8) × Int × Bool) :=
  (Xl a b Zj 0)
set_option maxHeartbeats 40000000 in
theorem Cw (A5 : Option Addr) (c6 : Nat) (A9 : Option Addr) (m : Nat) (u : Bs) (v : Int) (y : Int) (s : (List (Int × Int))) (f : (List Tk)) (o : Bs) (w0 : World) (b8 : RdT (Qf (Qv .u32) (Qv .i64)) w0 A5 c6 s) (z : RdT (Qf Qj (Qf Qj (Qv .i64))) w0 A9 m f) (r : (Bs × Bs × Int × Bool)) (H : Gr u v y s f o = some r) :
  Calls Tryz.prog 21 #[(.agg #[(sv u), (iv v), (iv y), (lv A5 s c6), (lv A9 f m)]), (sv o)] w0 (fun e W => e = .returned (.tuple #[(.agg #[(sv r.1), (sv r.2.1), (iv r.2.2.1)]), (bv r.2.2.2)]) ∧ SP [] w0 W []) := by
 unfold Gr at H
 refine Qt (n := 28) Tryz.func21 K K K ?_
 have a9 := Qw [] w0
 refine aC ?_
 refine iS 1 ?_
 refine zB 33 (.tmp 0) (.agg #[(sv u), (iv v), (iv y), (lv A5 s c6), (lv A9 f m)]) 2 a9 ?_
 intro p b9 b0
 refine iS 2 ?_
 refine zA 37 (.agg #[(sv ([] : Bs)), (sv ([] : Bs)), (iv 0)]) 4 b0 ?_
 intro q c0 b1
 refine iR 1 3 [(5, (bv false))] ?_
 refine iF ?_
 refine aQ ?_
 refine aC ?_
 refine iR 1 1 [(6, (iv 0))] ?_
 refine iF ?_
 refine Z3 K (id := 0) K ?_
 refine Gm K (fun f1 ρ w => ∃ (c : Int), Vq ρ [(1, (sv o)), (2, (pt p 0)), (4, (pt q 0)), (6, (iv c))] ∧ SP [] w0 w [Qs p 33 #[(sv u), (iv v), (iv y), (lv A5 s c6), (lv A9 f m)], Qs q 37 #[(sv ([] : Bs)), (sv ([] : Bs)), (iv 0)]] ∧ Xl f o f1 c = some r) (by rintro ρ w ⟨c, hk, hs, H⟩; cases H) ?_ Zj ?_
 ·rintro f1 ρ c1 ⟨c, hk, l, H⟩
  refine At.known _ hk ?_
  replace H := (show Xk (Xl f o f1) f o c = some r from H)
  unfold Xk at H
  refine aQ ?_
  refine aC ?_
  refine iR 2 2 [(7, (iv c)), (8, (pt p 4))] ?_
  refine jL 3 31 8 p 4 0 (lv A9 f m) 9 l rfl ?_
  refine iR 2 5 [(10, (iv (ln f))), (11, (bv (decide (c < (ln f)))))] ?_
  refine iF ?_
  refine cD 11 H (fun H => ?_) fun H => ?_
  ·refine At.skip K ?_
   refine aQ ?_
   refine Z3 K (id := 1) K ?_
   refine aC ?_
   refine iR 1 1 [(14, (pt p 4))] ?_
   refine jL 2 31 14 p 4 0 (lv A9 f m) 15 l rfl ?_
   refine iR 1 3 [(16, (iv c))] ?_
   obtain ⟨a0, a1, a2, b2, H⟩ := Qu H
   refine jE 4 (Qf Qj (Qf Qj (Qv .i64))) f A9 m 31 37 (.tmp 15) (.tmp 16) c 17 (RdT.sp z l) a1 a2 ?_
   intro a3 a4 b3 c2 hc84
   refine iR 1 5 [(18, (.pointer (some ⟨a3, (a4 + Int.toNat c * (Qf Qj (Qf Qj (Qv .i64))).sz), none⟩)))] ?_
   refine jX 6 9 18 a3 (a4 + Int.toNat c * (Qf Qj (Qf Qj (Qv .i64))).sz) (sv a0.1) 19 (Ql (e := (Qf Qj (Qf Qj (Qv .i64)))) (Qh (RdT.sp z l) b3 a1 a2) b2 (j := 0) rfl) ?_
   refine iR 1 7 [(20, (sv o))] ?_
   refine jO 8 9 (.tmp 19) (.tmp 20) a0.1 o 21 ?_
   refine iF ?_
   refine cD 21 H (fun H => ?_) fun H => ?_
   ·refine aC ?_
    refine iR 1 1 [(22, (pt p 4))] ?_
    refine jL 2 31 22 p 4 0 (lv A9 f m) 23 l rfl ?_
    refine iR 1 3 [(24, (iv c))] ?_
    obtain ⟨h, a5, a6, b4, H⟩ := Qu H
    refine jE 4 (Qf Qj (Qf Qj (Qv .i64))) f A9 m 31 37 (.tmp 23) (.tmp 24) c 25 (RdT.sp z l) a5 a6 ?_
    intro b5 b6 b7 c3 hc94
    refine iS 5 ?_
    refine Qx.cells (t := 37) (x := (.tmp 25)) (b := b5) (off := (b6 + Int.toNat c * (Qf Qj (Qf Qj (Qv .i64))).sz)) (xs := [(sv h.1), (sv h.2.1), (iv h.2.2)]) (d := (some 26)) (k := 4) K rfl K K K (Vd (e := (Qf Qj (Qf Qj (Qv .i64)))) (Qh (RdT.sp z l) b7 a5 a6) b4 rfl) ?_
    refine iS 6 ?_
    refine zT 37 (.tmp 4) (.tmp 26) q 0 1 (.agg #[(sv h.1), (sv h.2.1), (iv h.2.2)]) #[(sv h.1), (sv h.2.1), (iv h.2.2)] none l ?_
    intro c4 a7
    refine iR 1 7 [(5, (bv true))] ?_
    refine iF ?_
    refine At.ret K ?_
    refine ⟨(.tuple #[(.agg #[(sv h.1), (sv h.2.1), (iv h.2.2)]), (bv true)]), Cl K (Uf (a := 4) (t := 37) (g := q) (off := 0) K (SP.get a7 (i := 1) rfl) K) (Nv (t := 5) K), ?_⟩
    obtain rfl := Qe H
    exact ⟨rfl, SP.sel a7 [] rfl rfl⟩
   refine At.skip K ?_
   refine aR ?_
   refine iR 3 3 [(12, (iv c)), (13, (iv (IntKind.wrap .i64 (c + 1)))), (6, (iv (IntKind.wrap .i64 (c + 1))))] ?_
   refine iF ?_
   exact ⟨(IntKind.wrap .i64 (c + 1)), ⟨K, K, K, K, trivial⟩, SP.sel l [0, 1] rfl rfl, H⟩
  refine At.exit K (id := 0) K ?_
  refine aC ?_
  refine iR 1 1 [(27, (.agg #[(sv ([] : Bs)), (sv ([] : Bs)), (iv 0)]))] ?_
  refine iS 2 ?_
  refine zT 37 (.tmp 4) (.tmp 27) q 0 1 (.agg #[(sv ([] : Bs)), (sv ([] : Bs)), (iv 0)]) #[(sv ([] : Bs)), (sv ([] : Bs)), (iv 0)] none l ?_
  intro c5 a8
  refine iR 1 3 [(5, (bv false))] ?_
  refine iF ?_
  refine At.ret K ?_
  refine ⟨(.tuple #[(.agg #[(sv ([] : Bs)), (sv ([] : Bs)), (iv 0)]), (bv false)]), Cl K (Uf (a := 4) (t := 37) (g := q) (off := 0) K (SP.get a8 (i := 1) rfl) K) (Nv (t := 5) K), ?_⟩
  obtain rfl := Qe H
  exact ⟨rfl, SP.sel a8 [] rfl rfl⟩
 exact ⟨0, ⟨K, K, K, K, trivial⟩, SP.sel b1 [0, 1] rfl rfl, H⟩
def Yi (f : Int → Int → Option (Bool)) (g : Int → Int → Option (Bool)) (h : Int) (b : Qb) (c : Int) (a : Int) (i : Bool) : Option (Bool) :=
  (cond i ((idx b.2.2.2.2 a).bind fun d => ((idx b.2.2.2.2 a).bind fun e => (g (IntKind.wrap .i64 ((IntKind.wrap .i64 (c + (if 3000 < ((List.length d.1 : Nat) : Int) then 3000 else ((List.length d.1 : Nat) : Int)))) + (if 3000 < ((List.length e.2.1 : Nat) : Int) then 3000 else ((List.length e.2.1 : Nat) : Int)))) (IntKind.wrap .i64 (a + 1))))) (f c (IntKind.wrap .i64 (h + 1))))
def Z7 (d : Int → Int → Option (Bool)) (e : Int → Int → Option (Bool)) (f : Int) (a : Qb) (b : Int) (c : Int) : Option (Bool) :=
  (cond (decide (c < ((List.length a.2.2.2.2 : Nat) : Int))) (Yi d e f a b c (decide (b < 3000))) (Yi d e f a b c false))
def V7 (a : Int → Int → Option (Bool)) (b : Int) (c : Qb) : Nat → Int → Int → Option (Bool)
  | 0, _, _ => none
  | f + 1, d, e => Z7 a (V7 a b c f) b c d e
def Yj (d : Int → Int → Option (Bool)) (e : (List Qb)) (b : Int) (c : Int) (f : Bool) : Option (Bool) :=
  (cond f ((idx e c).bind fun a => (V7 d c a Zj (IntKind.wrap .i64 ((IntKind.wrap .i64 ((IntKind.wrap .i64 (b + (if 3000 < ((List.length a.1 : Nat) : Int) then 3000 else ((List.length a.1 : Nat) : Int)))) + ((List.length a.2.2.2.1 : Nat) : Int))) + ((List.length a.2.2.2.2 : Nat) : Int))) 0)) (some ((decide (b ≥ 3000)))))
def Xm (d : Int → Int → Option (Bool)) (a : (List Qb)) (b : Int) (c : Int) : Option (Bool) :=
  (cond (decide (c < ((List.length a : Nat) : Int))) (Yj d a b c (decide (b < 3000))) (Yj d a b c false))
def Q8 (a : (List Qb)) : Nat → Int → Int → Option (Bool)
  | 0, _, _ => none
  | f + 1, b, c => Xm  (Q8 a f) a b c
def Gs (b : Int) (c : Int) (d : Int) (e : Int) (a : (List Qb)) : Option (Bool) :=
  (Q8 a Zj ((List.length a : Nat) : Int) 0)
set_option maxHeartbeats 40000000 in
theorem Cx (A6 : Option Addr) (c7 : Nat) (z : Int) (a0 : Int) (a1 : Int) (a2 : Int) (d9 : (List Qg)) (w0 : World) (a3 : (dDS Vu Fv).ok w0 (A6, c7, d9)) (r : (Bool)) (H : Gs z a0 a1 a2 (mT d9) = some r) :
  Calls Tryz.prog 15 #[(.agg #[(iv z), (iv a0), (iv a1), (iv a2), (lv A6 (mT d9) c7)])] w0 (fun e W => e = .returned (bv r) ∧ SP [] w0 W []) := by
 unfold Gs at H
 refine Qt (n := 72) Tryz.func15 K K K ?_
 have c4 := Qw [] w0
 refine aC ?_
 refine iS 1 ?_
 refine zB 24 (.tmp 0) (.agg #[(iv z), (iv a0), (iv a1), (iv a2), (lv A6 (mT d9) c7)]) 1 c4 ?_
 intro p f8 b2
 refine iR 1 2 [(2, (bv false))] ?_
 refine iF ?_
 refine aC ?_
 refine iR 1 1 [(7, (pt p 4))] ?_
 refine jL 2 22 7 p 4 0 (lv A6 (mT d9) c7) 8 b2 rfl ?_
 refine iR 2 4 [(9, (iv (ln (mT d9)))), (3, (iv (ln (mT d9))))] ?_
 refine iF ?_
 refine aQ ?_
 refine aC ?_
 refine iR 1 1 [(4, (iv 0))] ?_
 refine iF ?_
 refine Z3 K (id := 0) K ?_
 refine Gm K (fun y ρ w => ∃ (h : Int) (g : Int), Vq ρ [(1, (pt p 0)), (3, (iv h)), (4, (iv g))] ∧ SP [] w0 w [Qs p 24 #[(iv z), (iv a0), (iv a1), (iv a2), (lv A6 (mT d9) c7)]] ∧ Q8 (mT d9) y h g = some r) (by rintro ρ w ⟨h, g, hk, hs, H⟩; cases H) ?_ Zj ?_
 ·rintro y ρ f9 ⟨h, g, hk, a8, H⟩
  refine At.known _ hk ?_
  replace H := (show Xm (Q8 (mT d9) y) (mT d9) h g = some r from H)
  unfold Xm at H
  refine aQ ?_
  refine aQ ?_
  refine At.join (fun ρ w => ∃ (a9 : Bool), Vq ρ [(1, (pt p 0)), (3, (iv h)), (4, (iv g)), (18, (bv a9))] ∧ SP [] w0 w [Qs p 24 #[(iv z), (iv a0), (iv a1), (iv a2), (lv A6 (mT d9) c7)]] ∧ Yj (Q8 (mT d9) y) (mT d9) h g a9 = some r) ?_ ?_
  ·refine aR ?_
   refine iR 2 2 [(10, (iv g)), (11, (pt p 4))] ?_
   refine jL 3 22 11 p 4 0 (lv A6 (mT d9) c7) 12 a8 rfl ?_
   refine iR 3 6 [(13, (iv (ln (mT d9)))), (14, (bv (decide (g < (ln (mT d9)))))), (15, (bv (decide (g < (ln (mT d9))))))] ?_
   refine gD 15 H (fun H => ?_) fun H => ?_
   ·refine iR 3 9 [(16, (iv h)), (17, (bv (decide (h < 3000)))), (18, (bv (decide (h < 3000))))] ?_
    refine iF ?_
    exact ⟨(decide (h < 3000)), ⟨K, K, K, K, trivial⟩, SP.sel a8 [0] rfl rfl, H⟩
   refine iR 3 9 [(16, undef), (17, undef), (18, (bv false))] ?_
   refine iF ?_
   exact ⟨false, ⟨K, K, K, K, trivial⟩, SP.sel a8 [0] rfl rfl, H⟩
  rintro ρ g0 ⟨a9, hk, a4, H⟩
  unfold Yj at H
  first | refine At.known _ hk ?_ | rw [← Qo hk]
  refine cD 18 H (fun H => ?_) fun H => ?_
  ·refine At.skip K ?_
   refine aQ ?_
   refine Z3 K (id := 1) K ?_
   refine aC ?_
   refine iR 1 1 [(21, (pt p 4))] ?_
   refine jL 2 22 21 p 4 0 (lv A6 (mT d9) c7) 22 a4 rfl ?_
   refine iR 1 3 [(23, (iv g))] ?_
   obtain ⟨a, b3, b4, a5, H⟩ := J9 H
   refine iS 4 ?_
   refine Xd stT (e := Vu) (l := d9) (A := A6) (c := c7) (T := 22) (E := 33) (x := (.tmp 22)) (ix := (.tmp 23)) (ki := .i64) (iz := g) (d := (some 24)) (k := 3) K rfl K K K K (RdT.sp (Zh a3) a4) b3 b4 ?_
   intro c5 c6 c8 g1 hc480
   refine iS 5 ?_
   refine Qx.cells (t := 33) (x := (.tmp 24)) (b := c5) (off := (c6 + Int.toNat g * Vu.sz)) (xs := [(sv (stT a).1), (iv (stT a).2.1), (iv (stT a).2.2.1), (lv a.2.2.2.1.1 (stT a).2.2.2.1 a.2.2.2.1.2.1), (lv a.2.2.2.2.1 (stT a).2.2.2.2 a.2.2.2.2.2.1)]) (d := (some 25)) (k := 4) K rfl K K K (Vd (e := Vu) (Qh (RdT.sp (Zh a3) a4) c8 b3 b4) a5 rfl) ?_
   refine iS 6 ?_
   refine zA 33 (.agg #[(sv ([] : Bs)), (iv 0), (iv 0), (lv none ([] : List (Int × Int)) 0), (lv none ([] : List Tk) 0)]) 5 a4 ?_
   intro i g2 c9
   refine iS 7 ?_
   refine zT 33 (.tmp 5) (.tmp 25) i 0 1 (.agg #[(sv (stT a).1), (iv (stT a).2.1), (iv (stT a).2.2.1), (lv a.2.2.2.1.1 (stT a).2.2.2.1 a.2.2.2.1.2.1), (lv a.2.2.2.2.1 (stT a).2.2.2.2 a.2.2.2.2.2.1)]) #[(sv (stT a).1), (iv (stT a).2.1), (iv (stT a).2.2.1), (lv a.2.2.2.1.1 (stT a).2.2.2.1 a.2.2.2.1.2.1), (lv a.2.2.2.2.1 (stT a).2.2.2.2 a.2.2.2.2.2.1)] none c9 ?_
   intro g3 a6
   refine iF ?_
   refine aC ?_
   refine iR 2 2 [(26, (iv h)), (27, (pt i 0))] ?_
   refine jL 3 9 27 i 0 1 (sv (stT a).1) 28 a6 rfl ?_
   refine iR 4 7 [(29, (iv (ln (stT a).1))), (30, (iv (if 3000 < (ln (stT a).1) then 3000 else (ln (stT a).1)))), (31, (iv (IntKind.wrap .i64 (h + (if 3000 < (ln (stT a).1) then 3000 else (ln (stT a).1)))))), (32, (pt i 3))] ?_
   refine jL 8 30 32 i 3 1 (lv a.2.2.2.1.1 (stT a).2.2.2.1 a.2.2.2.1.2.1) 33 a6 rfl ?_
   refine iR 3 11 [(34, (iv (ln (stT a).2.2.2.1))), (35, (iv (IntKind.wrap .i64 ((IntKind.wrap .i64 (h + (if 3000 < (ln (stT a).1) then 3000 else (ln (stT a).1)))) + (ln (stT a).2.2.2.1))))), (36, (pt i 4))] ?_
   refine jL 12 31 36 i 4 1 (lv a.2.2.2.2.1 (stT a).2.2.2.2 a.2.2.2.2.2.1) 37 a6 rfl ?_
   refine iR 3 15 [(38, (iv (ln (stT a).2.2.2.2))), (39, (iv (IntKind.wrap .i64 ((IntKind.wrap .i64 ((IntKind.wrap .i64 (h + (if 3000 < (ln (stT a).1) then 3000 else (ln (stT a).1)))) + (ln (stT a).2.2.2.1))) + (ln (stT a).2.2.2.2))))), (3, (iv (IntKind.wrap .i64 ((IntKind.wrap .i64 ((IntKind.wrap .i64 (h + (if 3000 < (ln (stT a).1) then 3000 else (ln (stT a).1)))) + (ln (stT a).2.2.2.1))) + (ln (stT a).2.2.2.2)))))] ?_
   refine iF ?_
   refine aC ?_
   refine iR 1 1 [(6, (iv 0))] ?_
   refine iF ?_
   refine Z3 K (id := 2) K ?_
   refine Gm K (fun a7 ρ w => ∃ (m : Int) (f : Int), Vq ρ [(1, (pt p 0)), (3, (iv m)), (4, (iv g)), (5, (pt i 0)), (6, (iv f))] ∧ SP [] w0 w [Qs p 24 #[(iv z), (iv a0), (iv a1), (iv a2), (lv A6 (mT d9) c7)], Qs i 33 #[(sv (stT a).1), (iv (stT a).2.1), (iv (stT a).2.2.1), (lv a.2.2.2.1.1 (stT a).2.2.2.1 a.2.2.2.1.2.1), (lv a.2.2.2.2.1 (stT a).2.2.2.2 a.2.2.2.2.2.1)]] ∧ V7 (Q8 (mT d9) y) g (stT a) a7 m f = some r) (by rintro ρ w ⟨m, f, hk, hs, H⟩; cases H) ?_ Zj ?_
   ·rintro a7 ρ g4 ⟨m, f, hk, b0, H⟩
    refine At.known _ hk ?_
    replace H := (show Z7 (Q8 (mT d9) y) (V7 (Q8 (mT d9) y) g (stT a) a7) g (stT a) m f = some r from H)
    unfold Z7 at H
    refine aQ ?_
    refine aQ ?_
    refine At.join (fun ρ w => ∃ (b1 : Bool), Vq ρ [(1, (pt p 0)), (3, (iv m)), (4, (iv g)), (5, (pt i 0)), (6, (iv f)), (48, (bv b1))] ∧ SP [] w0 w [Qs p 24 #[(iv z), (iv a0), (iv a1), (iv a2), (lv A6 (mT d9) c7)], Qs i 33 #[(sv (stT a).1), (iv (stT a).2.1), (iv (stT a).2.2.1), (lv a.2.2.2.1.1 (stT a).2.2.2.1 a.2.2.2.1.2.1), (lv a.2.2.2.2.1 (stT a).2.2.2.2 a.2.2.2.2.2.1)]] ∧ Yi (Q8 (mT d9) y) (V7 (Q8 (mT d9) y) g (stT a) a7) g (stT a) m f b1 = some r) ?_ ?_
    ·refine aR ?_
     refine iR 2 2 [(40, (iv f)), (41, (pt i 4))] ?_
     refine jL 3 31 41 i 4 1 (lv a.2.2.2.2.1 (stT a).2.2.2.2 a.2.2.2.2.2.1) 42 b0 rfl ?_
     refine iR 3 6 [(43, (iv (ln (stT a).2.2.2.2))), (44, (bv (decide (f < (ln (stT a).2.2.2.2))))), (45, (bv (decide (f < (ln (stT a).2.2.2.2)))))] ?_
     refine gD 45 H (fun H => ?_) fun H => ?_
     ·refine iR 3 9 [(46, (iv m)), (47, (bv (decide (m < 3000)))), (48, (bv (decide (m < 3000))))] ?_
      refine iF ?_
      exact ⟨(decide (m < 3000)), ⟨K, K, K, K, K, K, trivial⟩, SP.sel b0 [0, 1] rfl rfl, H⟩
     refine iR 3 9 [(46, undef), (47, undef), (48, (bv false))] ?_
     refine iF ?_
     exact ⟨false, ⟨K, K, K, K, K, K, trivial⟩, SP.sel b0 [0, 1] rfl rfl, H⟩
    rintro ρ g5 ⟨b1, hk, b5, H⟩
    unfold Yi at H
    first | refine At.known _ hk ?_ | rw [← Qo hk]
    refine cD 48 H (fun H => ?_) fun H => ?_
    ·refine At.skip K ?_
     refine aQ ?_
     refine Z3 K (id := 3) K ?_
     obtain ⟨s, b6, b7, d0, H⟩ := Qu H
     obtain ⟨u, b8, b9, d1, H⟩ := Qu H
     refine aG [GEq (iv m), GEq (pt i 4), GEq (lv a.2.2.2.2.1 (stT a).2.2.2.2 a.2.2.2.2.2.1), GEq (iv f), Zt a.2.2.2.2.1 (Qf Qj (Qf Qj (Qv .i64))).sz f, Zt a.2.2.2.2.1 (Qf Qj (Qf Qj (Qv .i64))).sz f, GEq (sv s.1), GEq (iv (ln s.1)), GEq (iv (if 3000 < (ln s.1) then 3000 else (ln s.1))), GEq (iv (IntKind.wrap .i64 (m + (if 3000 < (ln s.1) then 3000 else (ln s.1))))), GEq (pt i 4), GEq (lv a.2.2.2.2.1 (stT a).2.2.2.2 a.2.2.2.2.2.1), GEq (iv f), Zt a.2.2.2.2.1 (Qf Qj (Qf Qj (Qv .i64))).sz f, GElem a.2.2.2.2.1 (Qf Qj (Qf Qj (Qv .i64))).sz f 1, GEq (sv u.2.1), GEq (iv (ln u.2.1)), GEq (iv (if 3000 < (ln u.2.1) then 3000 else (ln u.2.1))), GEq (iv (IntKind.wrap .i64 ((IntKind.wrap .i64 (m + (if 3000 < (ln s.1) then 3000 else (ln s.1)))) + (if 3000 < (ln u.2.1) then 3000 else (ln u.2.1))))), GEq (iv (IntKind.wrap .i64 ((IntKind.wrap .i64 (m + (if 3000 < (ln s.1) then 3000 else (ln s.1)))) + (if 3000 < (ln u.2.1) then 3000 else (ln u.2.1)))))] [] (tG [] w0 [Qs p 24 #[(iv z), (iv a0), (iv a1), (iv a2), (lv A6 (mT d9) c7)], Qs i 33 #[(sv (stT a).1), (iv (stT a).2.1), (iv (stT a).2.2.1), (lv a.2.2.2.1.1 (stT a).2.2.2.1 a.2.2.2.1.2.1), (lv a.2.2.2.2.1 (stT a).2.2.2.2 a.2.2.2.2.2.1)]] [([], [])]) 20 0 ⟨trivial, SP.drew b5⟩ ?_ ?_
     iterate 20 refine And.intro ?_ ?_
     exact trivial
     ·exact oU (hC (hS 3 (iv m)) (h0))
     ·exact oU (hC (hS 5 (pt i 0)) (h0))
     ·refine oL 0 ?_
      rintro P W hs o ⟨-, d2⟩
      refine kM (kc (kA o 1 52) k0) fun q => ?_
      refine sL 31 52 i 4 1 (lv a.2.2.2.2.1 (stT a).2.2.2.2 a.2.2.2.2.2.1) 53 d2 rfl ?_
      exact eK q
     ·exact oU (hC (hS 6 (iv f)) (h0))
     ·refine oL 0 ?_
      rintro P W hs o ⟨-, d3⟩
      refine kM (kc (kA o 2 53) (kc (kA o 3 54) k0)) fun q => ?_
      refine zE (Qf Qj (Qf Qj (Qv .i64))) ((stT a).2.2.2.2) a.2.2.2.2.1 a.2.2.2.2.2.1 31 37 (.tmp 53) (.tmp 54) f 55 (RdT.sp (Zh (dp2 (dp2 (dp2 (dp2 (Gd a3 a5)))))) d3) b6 b7 ?_
      intro d4 d5 d6 g6 hc655
      exact ⟨rfl, _, Qa q, ⟨d4, d5, d6, rfl⟩⟩
     ·refine oL 0 ?_
      rintro P W hs o ⟨-, g7⟩
      obtain ⟨c0, c1, d7, d8⟩ := o 4 55 K
      refine kM (kc d8 k0) fun q => ?_
      refine Qx.run (k := 5) (v := (.pointer (some ⟨c0, (c1 + Int.toNat f * (Qf Qj (Qf Qj (Qv .i64))).sz), none⟩))) K ?_
      exact ⟨rfl, _, Qa q, ⟨c0, c1, d7, rfl⟩⟩
     ·refine oL 0 ?_
      rintro P W hs o ⟨-, e0⟩
      obtain ⟨e1, e2, e3, e4⟩ := o 5 56 K
      refine kM (kc e4 k0) fun q => ?_
      refine sC 9 56 e1 (e2 + Int.toNat f * (Qf Qj (Qf Qj (Qv .i64))).sz) (sv s.1) 57 (Ql (e := (Qf Qj (Qf Qj (Qv .i64)))) (Qh (RdT.sp (Zh (dp2 (dp2 (dp2 (dp2 (Gd a3 a5)))))) e0) e3 b6 b7) d0 (j := 0) rfl) ?_
      exact eK q
     ·exact oU (hC (hA 6 57) (h0))
     ·exact oU (hC (hA 7 58) (h0))
     ·exact oU (hC (hA 0 51) (hC (hA 8 59) (h0)))
     ·exact oU (hC (hS 5 (pt i 0)) (h0))
     ·refine oL 0 ?_
      rintro P W hs o ⟨-, e5⟩
      refine kM (kc (kA o 10 61) k0) fun q => ?_
      refine sL 31 61 i 4 1 (lv a.2.2.2.2.1 (stT a).2.2.2.2 a.2.2.2.2.2.1) 62 e5 rfl ?_
      exact eK q
     ·exact oU (hC (hS 6 (iv f)) (h0))
     ·refine oL 0 ?_
      rintro P W hs o ⟨-, e6⟩
      refine kM (kc (kA o 11 62) (kc (kA o 12 63) k0)) fun q => ?_
      refine zE (Qf Qj (Qf Qj (Qv .i64))) ((stT a).2.2.2.2) a.2.2.2.2.1 a.2.2.2.2.2.1 31 37 (.tmp 62) (.tmp 63) f 64 (RdT.sp (Zh (dp2 (dp2 (dp2 (dp2 (Gd a3 a5)))))) e6) b8 b9 ?_
      intro e7 e8 e9 g8 hc674
      exact ⟨rfl, _, Qa q, ⟨e7, e8, e9, rfl⟩⟩
     ·refine oL 0 ?_
      rintro P W hs o ⟨-, g9⟩
      obtain ⟨c2, c3, f0, f1⟩ := o 13 64 K
      refine kM (kc f1 k0) fun q => ?_
      refine Qx.run (k := 14) (v := (.pointer (some ⟨c2, (c3 + Int.toNat f * (Qf Qj (Qf Qj (Qv .i64))).sz + 1), none⟩))) K ?_
      exact ⟨rfl, _, Qa q, ⟨c2, c3, f0, rfl⟩⟩
     ·refine oL 0 ?_
      rintro P W hs o ⟨-, f2⟩
      obtain ⟨f3, f4, f5, f6⟩ := o 14 65 K
      refine kM (kc f6 k0) fun q => ?_
      refine sC 9 65 f3 (f4 + Int.toNat f * (Qf Qj (Qf Qj (Qv .i64))).sz + 1) (sv u.2.1) 66 (Ql (e := (Qf Qj (Qf Qj (Qv .i64)))) (Qh (RdT.sp (Zh (dp2 (dp2 (dp2 (dp2 (Gd a3 a5)))))) f2) f5 b8 b9) d1 (j := 1) rfl) ?_
      exact eK q
     ·exact oU (hC (hA 15 66) (h0))
     ·exact oU (hC (hA 16 67) (h0))
     ·exact oU (hC (hA 9 60) (hC (hA 17 68) (h0)))
     ·exact oU (hC (hA 18 69) (h0))
     rintro P h1 hs hf ⟨-, f7⟩
     refine Qy _ (kc (kT hs 1 (pt p 0)) (kc (kF hf 19 3) (kc (kT hs 4 (iv g)) (kc (kT hs 5 (pt i 0)) (kc (kT hs 6 (iv f)) k0))))) ?_
     refine aR ?_
     refine iR 3 3 [(49, (iv f)), (50, (iv (IntKind.wrap .i64 (f + 1)))), (6, (iv (IntKind.wrap .i64 (f + 1))))] ?_
     refine iF ?_
     exact ⟨(IntKind.wrap .i64 ((IntKind.wrap .i64 (m + (if 3000 < (ln s.1) then 3000 else (ln s.1)))) + (if 3000 < (ln u.2.1) then 3000 else (ln u.2.1)))), (IntKind.wrap .i64 (f + 1)), ⟨K, K, K, K, K, trivial⟩, SP.sel f7 [0, 1] rfl rfl, H⟩
    refine At.exit K (id := 2) K ?_
    refine aR ?_
    refine iR 3 3 [(19, (iv g)), (20, (iv (IntKind.wrap .i64 (g + 1)))), (4, (iv (IntKind.wrap .i64 (g + 1))))] ?_
    refine iF ?_
    exact ⟨m, (IntKind.wrap .i64 (g + 1)), ⟨K, K, K, trivial⟩, SP.sel b5 [0] rfl rfl, H⟩
   exact ⟨(IntKind.wrap .i64 ((IntKind.wrap .i64 ((IntKind.wrap .i64 (h + (if 3000 < (ln (stT a).1) then 3000 else (ln (stT a).1)))) + (ln (stT a).2.2.2.1))) + (ln (stT a).2.2.2.2))), 0, ⟨K, K, K, K, K, trivial⟩, SP.sel a6 [0, 1] rfl rfl, H⟩
  refine At.exit K (id := 0) K ?_
  refine aC ?_
  refine iR 3 3 [(70, (iv h)), (71, (bv (decide (h ≥ 3000)))), (2, (bv (decide (h ≥ 3000))))] ?_
  refine iF ?_
  refine At.ret K ?_
  refine ⟨(bv (decide (h ≥ 3000))), K, ?_⟩
  obtain rfl := Qe H
  exact ⟨rfl, SP.sel a4 [] rfl rfl⟩
 exact ⟨(ln (mT d9)), 0, ⟨K, K, K, trivial⟩, SP.sel b2 [0] rfl rfl, H⟩
end Go.Proofs.YtoflbpmbkmephaaGreatDoor
namespace Go.Proofs.YtoflbpmbkmephaaGreatDoor
abbrev Str := List UInt8
abbrev La := Int × Int
abbrev E8 := Str × Str × Int
theorem lNameM (s : Str) (h : s.length ≤ 140737488355328) : Nw s = some (Fh s) := by
  by_cases h9 : s.length ≤ 9000
  · exact lName s h9
  · unfold Nw Y4 Fh
    have hne : (s == ([] : List UInt8)) = false := by rw [beq_eq_false_iff_ne]; intro e; subst e; simp at h9
    rw [hne, show decide (((List.length s : Nat) : Int) ≤ 20) = false from decide_eq_false (by omega), show decide (s.length ≤ 20) = false from decide_eq_false (by omega)]
    simp
theorem I2 (l : List La) (P : La → Bool) (p : Int → Int → Option Bool) (hp : ∀ x ∈ l, p x.1 x.2 = some (P x)) (hl : l.length ≤ 140737488355328) :
    ∀ (d i f : Nat), d = l.length - i → i ≤ l.length → d < f → ∃ r, Q5 l p f (i : Int) = some r ∧ decide (r ≥ 0) = (l.drop i).any P := by
  intro d
  induction d with
  | zero =>
    intro i f hd hi hf
    obtain ⟨f, rfl⟩ : ∃ g, f = g + 1 := ⟨f - 1, by omega⟩
    refine ⟨-1, ?_, ?_⟩
    · show Vf (Q5 l p f) l p (i : Int) = _
      unfold Vf
      rw [show decide ((i : Int) < ((l.length : Nat) : Int)) = false from decide_eq_false (by omega), cond_false]
    · rw [List.drop_of_length_le (by omega)]
      rfl
  | succ d ih =>
    intro i f hd hi hf
    obtain ⟨f, rfl⟩ : ∃ g, f = g + 1 := ⟨f - 1, by omega⟩
    have hlt : i < l.length := by omega
    obtain ⟨r, h1, h2⟩ := ih (i + 1) f (by omega) (by omega) (by omega)
    rw [List.drop_eq_getElem_cons hlt, List.any_cons]
    have hstep : Q5 l p (f + 1) (i : Int) = cond (P l[i]) (some (i : Int)) (Q5 l p f ((i + 1 : Nat) : Int)) := by
      show Vf (Q5 l p f) l p (i : Int) = _
      unfold Vf
      rw [show decide ((i : Int) < ((l.length : Nat) : Int)) = true from decide_eq_true (by omega), cond_true, Zr hlt, Option.bind_some, hp _ (List.getElem_mem hlt), Option.bind_some, show ((i : Int) + 1) = ((i + 1 : Nat) : Int) by omega, Uy (by omega)]
    rw [hstep]
    cases hP : P l[i] with
    | true => exact ⟨(i : Int), rfl, by rw [decide_eq_true (by omega), Bool.true_or]⟩
    | false => exact ⟨r, h1, by rw [h2, Bool.false_or]⟩
theorem Pt (l : List La) (P : La → Bool) (p : Int → Int → Option Bool) (hp : ∀ x ∈ l, p x.1 x.2 = some (P x)) (hl : l.length ≤ 140737488355328) : V3 l p = some (l.any P) := by
  obtain ⟨r, h1, h2⟩ := I2 l P p hp hl l.length 0 Zj (by omega) (by omega) (by unfold Zj; omega)
  unfold V3 Xb
  rw [show ((0 : Nat) : Int) = 0 from rfl] at h1
  rw [h1, Option.bind_some, h2, List.drop_zero]
theorem Hr (l : List E8) (P : E8 → Bool) (p : Str → Str → Int → Option Bool) (hp : ∀ x ∈ l, p x.1 x.2.1 x.2.2 = some (P x)) (hl : l.length ≤ 140737488355328) :
    ∀ (d i f : Nat), d = l.length - i → i ≤ l.length → d < f → ∃ r, Qm l p f (i : Int) = some r ∧ decide (r ≥ 0) = (l.drop i).any P := by
  intro d
  induction d with
  | zero =>
    intro i f hd hi hf
    obtain ⟨f, rfl⟩ : ∃ g, f = g + 1 := ⟨f - 1, by omega⟩
    refine ⟨-1, ?_, ?_⟩
    · show Qp (Qm l p f) l p (i : Int) = _
      unfold Qp
      rw [show decide ((i : Int) < ((l.length : Nat) : Int)) = false from decide_eq_false (by omega), cond_false]
    · rw [List.drop_of_length_le (by omega)]
      rfl
  | succ d ih =>
    intro i f hd hi hf
    obtain ⟨f, rfl⟩ : ∃ g, f = g + 1 := ⟨f - 1, by omega⟩
    have hlt : i < l.length := by omega
    obtain ⟨r, h1, h2⟩ := ih (i + 1) f (by omega) (by omega) (by omega)
    rw [List.drop_eq_getElem_cons hlt, List.any_cons]
    have hstep : Qm l p (f + 1) (i : Int) = cond (P l[i]) (some (i : Int)) (Qm l p f ((i + 1 : Nat) : Int)) := by
      show Qp (Qm l p f) l p (i : Int) = _
      unfold Qp
      rw [show decide ((i : Int) < ((l.length : Nat) : Int)) = true from decide_eq_true (by omega), cond_true, Zr hlt, Option.bind_some, hp _ (List.getElem_mem hlt), Option.bind_some, show ((i : Int) + 1) = ((i + 1 : Nat) : Int) by omega, Uy (by omega)]
    rw [hstep]
    cases hP : P l[i] with
    | true => exact ⟨(i : Int), rfl, by rw [decide_eq_true (by omega), Bool.true_or]⟩
    | false => exact ⟨r, h1, by rw [h2, Bool.false_or]⟩
theorem Mf (l : List E8) (P : E8 → Bool) (p : Str → Str → Int → Option Bool) (hp : ∀ x ∈ l, p x.1 x.2.1 x.2.2 = some (P x)) (hl : l.length ≤ 140737488355328) : Vt l p = some (l.any P) := by
  obtain ⟨r, h1, h2⟩ := Hr l P p hp hl l.length 0 Zj (by omega) (by omega) (by unfold Zj; omega)
  unfold Vt Vl
  rw [show ((0 : Nat) : Int) = 0 from rfl] at h1
  rw [h1, Option.bind_some, h2, List.drop_zero]
theorem He (l : List Qb) (P : Qb → Bool) (p : Str → Int → Int → List La → List E8 → Option Bool) (hp : ∀ x ∈ l, p x.1 x.2.1 x.2.2.1 x.2.2.2.1 x.2.2.2.2 = some (P x)) (hl : l.length ≤ 140737488355328) :
    ∀ (d i f : Nat), d = l.length - i → i ≤ l.length → d < f → ∃ r, Qk l p f (i : Int) = some r ∧ decide (r ≥ 0) = (l.drop i).any P := by
  intro d
  induction d with
  | zero =>
    intro i f hd hi hf
    obtain ⟨f, rfl⟩ : ∃ g, f = g + 1 := ⟨f - 1, by omega⟩
    refine ⟨-1, ?_, ?_⟩
    · show Qn (Qk l p f) l p (i : Int) = _
      unfold Qn
      rw [show decide ((i : Int) < ((l.length : Nat) : Int)) = false from decide_eq_false (by omega), cond_false]
    · rw [List.drop_of_length_le (by omega)]
      rfl
  | succ d ih =>
    intro i f hd hi hf
    obtain ⟨f, rfl⟩ : ∃ g, f = g + 1 := ⟨f - 1, by omega⟩
    have hlt : i < l.length := by omega
    obtain ⟨r, h1, h2⟩ := ih (i + 1) f (by omega) (by omega) (by omega)
    rw [List.drop_eq_getElem_cons hlt, List.any_cons]
    have hstep : Qk l p (f + 1) (i : Int) = cond (P l[i]) (some (i : Int)) (Qk l p f ((i + 1 : Nat) : Int)) := by
      show Qn (Qk l p f) l p (i : Int) = _
      unfold Qn
      rw [show decide ((i : Int) < ((l.length : Nat) : Int)) = true from decide_eq_true (by omega), cond_true, Zr hlt, Option.bind_some, hp _ (List.getElem_mem hlt), Option.bind_some, show ((i : Int) + 1) = ((i + 1 : Nat) : Int) by omega, Uy (by omega)]
    rw [hstep]
    cases hP : P l[i] with
    | true => exact ⟨(i : Int), rfl, by rw [decide_eq_true (by omega), Bool.true_or]⟩
    | false => exact ⟨r, h1, by rw [h2, Bool.false_or]⟩
theorem Lb (l : List Qb) (P : Qb → Bool) (p : Str → Int → Int → List La → List E8 → Option Bool) (hp : ∀ x ∈ l, p x.1 x.2.1 x.2.2.1 x.2.2.2.1 x.2.2.2.2 = some (P x)) (hl : l.length ≤ 140737488355328) : Vo l p = some (l.any P) := by
  obtain ⟨r, h1, h2⟩ := He l P p hp hl l.length 0 Zj (by omega) (by omega) (by unfold Zj; omega)
  unfold Vo Vj
  rw [show ((0 : Nat) : Int) = 0 from rfl] at h1
  rw [h1, Option.bind_some, h2, List.drop_zero]
def K5 : List Str → Bool
  | [] => true
  | [_] => true
  | a :: b :: r => Op.bytesLess a b && K5 (b :: r)
theorem Km (l : List Str) (i : Nat) (h : i + 1 < l.length) : K5 (l.drop i) = (Op.bytesLess (l[i]'(by omega)) (l[i + 1]'h) && K5 (l.drop (i + 1))) := by
  rw [List.drop_eq_getElem_cons (by omega : i < l.length), List.drop_eq_getElem_cons h]
  rfl
theorem Fq (l : List Str) (i : Nat) (h : l.length ≤ i + 1) : K5 (l.drop i) = true := by
  by_cases h2 : i < l.length
  · rw [List.drop_eq_getElem_cons h2, List.drop_of_length_le (by omega)]
    rfl
  · rw [List.drop_of_length_le (by omega)]
    rfl
theorem I3 (l : List E8) (p : Str → Str → Int → Option Str) (hp : ∀ x : E8, p x.1 x.2.1 x.2.2 = some x.1) (hl : l.length ≤ 140737488355328) :
    ∀ (d i f : Nat), d = l.length - i → 1 ≤ i → d < f → V5 l p f (i : Int) = some (K5 ((l.map (·.1)).drop (i - 1))) := by
  intro d
  induction d with
  | zero =>
    intro i f hd hi hf
    obtain ⟨f, rfl⟩ : ∃ g, f = g + 1 := ⟨f - 1, by omega⟩
    show V4 (V5 l p f) l p (i : Int) = _
    unfold V4
    rw [show decide ((i : Int) < ((l.length : Nat) : Int)) = false from decide_eq_false (by omega), cond_false, Fq _ _ (by simp; omega)]
  | succ d ih =>
    intro i f hd hi hf
    obtain ⟨f, rfl⟩ : ∃ g, f = g + 1 := ⟨f - 1, by omega⟩
    have hlt : i < l.length := by omega
    have hlt' : i - 1 < l.length := by omega
    show V4 (V5 l p f) l p (i : Int) = _
    unfold V4
    rw [show decide ((i : Int) < ((l.length : Nat) : Int)) = true from decide_eq_true (by omega), cond_true, show ((i : Int) - 1) = ((i - 1 : Nat) : Int) by omega, Uy (by omega), Zr hlt', Option.bind_some, hp, Option.bind_some, Zr hlt, Option.bind_some, hp, Option.bind_some,
      show ((i : Int) + 1) = ((i + 1 : Nat) : Int) by omega, Uy (by omega), ih (i + 1) f (by omega) (by omega) (by omega), Km _ (i - 1) (by simp; omega)]
    simp only [show i - 1 + 1 = i by omega, show i + 1 - 1 = i by omega, List.getElem_map]
    cases Op.bytesLess l[i - 1].1 l[i].1 with
    | true => rfl
    | false => rfl
theorem Pu (l : List E8) (p : Str → Str → Int → Option Str) (hp : ∀ x : E8, p x.1 x.2.1 x.2.2 = some x.1) (hl : l.length ≤ 140737488355328) : Y0 l p = some (K5 (l.map (·.1))) := by
  have := I3 l p hp hl (l.length - 1) 1 Zj rfl (Nat.le_refl _) (by unfold Zj; omega)
  unfold Y0
  rw [show ((1 : Nat) : Int) = 1 from rfl] at this
  rw [this]
  rfl
theorem H9 (l : List Qb) (p : Str → Int → Int → List La → List E8 → Option Str) (hp : ∀ x : Qb, p x.1 x.2.1 x.2.2.1 x.2.2.2.1 x.2.2.2.2 = some x.1) (hl : l.length ≤ 140737488355328) :
    ∀ (d i f : Nat), d = l.length - i → 1 ≤ i → d < f → V1 l p f (i : Int) = some (K5 ((l.map (·.1)).drop (i - 1))) := by
  intro d
  induction d with
  | zero =>
    intro i f hd hi hf
    obtain ⟨f, rfl⟩ : ∃ g, f = g + 1 := ⟨f - 1, by omega⟩
    show V0 (V1 l p f) l p (i : Int) = _
    unfold V0
    rw [show decide ((i : Int) < ((l.length : Nat) : Int)) = false from decide_eq_false (by omega), cond_false, Fq _ _ (by simp; omega)]
  | succ d ih =>
    intro i f hd hi hf
    obtain ⟨f, rfl⟩ : ∃ g, f = g + 1 := ⟨f - 1, by omega⟩
    have hlt : i < l.length := by omega
    have hlt' : i - 1 < l.length := by omega
    show V0 (V1 l p f) l p (i : Int) = _
    unfold V0
    rw [show decide ((i : Int) < ((l.length : Nat) : Int)) = true from decide_eq_true (by omega), cond_true, show ((i : Int) - 1) = ((i - 1 : Nat) : Int) by omega, Uy (by omega), Zr hlt', Option.bind_some, hp, Option.bind_some, Zr hlt, Option.bind_some, hp, Option.bind_some,
      show ((i : Int) + 1) = ((i + 1 : Nat) : Int) by omega, Uy (by omega), ih (i + 1) f (by omega) (by omega) (by omega), Km _ (i - 1) (by simp; omega)]
    simp only [show i - 1 + 1 = i by omega, show i + 1 - 1 = i by omega, List.getElem_map]
    cases Op.bytesLess l[i - 1].1 l[i].1 with
    | true => rfl
    | false => rfl
theorem Oj (l : List Qb) (p : Str → Int → Int → List La → List E8 → Option Str) (hp : ∀ x : Qb, p x.1 x.2.1 x.2.2.1 x.2.2.2.1 x.2.2.2.2 = some x.1) (hl : l.length ≤ 140737488355328) : Ym l p = some (K5 (l.map (·.1))) := by
  have := H9 l p hp hl (l.length - 1) 1 Zj rfl (Nat.le_refl _) (by unfold Zj; omega)
  unfold Ym
  rw [show ((1 : Nat) : Int) = 1 from rfl] at this
  rw [this]
  rfl
def Mg (n : La) : Bool := Dm n.1.toNat n.2
def I4 (x : E8) : Bool := Fh x.1 && ((decide (1 ≤ x.2.1.length) && decide (x.2.1.length ≤ 32)) && (decide (0 ≤ x.2.2) && decide (x.2.2 ≤ 1099511627776)))
def qOk (n : Int) : Bool := decide (0 ≤ n) && decide (n ≤ 8)
def Hf (t : Qb) : Bool := (t.2.2.2.1.all Mg && t.2.2.2.2.all I4) && ((Fh t.1 && (decide (t.2.2.2.1.length ≤ 4) && decide (t.2.2.2.2.length ≤ 4))) && ((qOk t.2.1 && qOk t.2.2.1) && K5 (t.2.2.2.2.map (·.1))))
def G0 (n : Int) : Bool := decide (1 ≤ n) && decide (n ≤ 1073741824)
def Ok (w g i e : Int) (l : List Qb) : Bool := (G0 w && (G0 g && (G0 i && G0 e))) && (decide (l.length ≤ 8) && (l.all Hf && K5 (l.map (·.1))))
def Pe (t : Qb) : Prop := t.1.length ≤ 140737488355328 ∧ t.2.2.2.1.length ≤ 140737488355328 ∧ t.2.2.2.2.length ≤ 140737488355328 ∧ (∀ n ∈ t.2.2.2.1, 0 ≤ n.1 ∧ n.1 < 4294967296) ∧ ∀ x ∈ t.2.2.2.2, x.1.length ≤ 140737488355328 ∧ x.2.1.length ≤ 140737488355328
theorem Kn (n a b : Int) : Jr n a b = some (decide (a ≤ n) && decide (n ≤ b)) := by
  unfold Jr N0
  by_cases h : n ≥ a
  · rw [show decide (n ≥ a) = true from decide_eq_true h]
    rfl
  · rw [show decide (n ≥ a) = false from decide_eq_false h]
    rfl
theorem slash_nil (a : Nat) (b : Int) : (Cg a b == ([] : List UInt8)) = !(Dm a b) := by
  unfold Cg
  cases Dm a b with
  | true =>
    simp only [Bool.not_true, beq_eq_false_iff_ne]
    intro h
    have := congrArg List.length h
    simp at this
  | false => rfl
theorem lNetBad {n : La} (h : 0 ≤ n.1 ∧ n.1 < 4294967296) : Na n.1 n.2 = some (!(Mg n)) := by
  unfold Na Mg
  obtain ⟨a, ha⟩ : ∃ a : Nat, n.1 = (a : Int) := ⟨n.1.toNat, by omega⟩
  rw [ha, lSlash a (by omega), Option.bind_some, slash_nil, Int.toNat_natCast]
theorem lToken {x : E8} (h : x.1.length ≤ 140737488355328) : R3 x.1 x.2.1 x.2.2 = some (I4 x) := by
  unfold R3 Nb I4
  rw [lNameM _ h, Option.bind_some, Kn, Kn]
  cases Fh x.1 with
  | false => rfl
  | true =>
    rw [cond_true, Option.bind_some, show decide (1 ≤ ((List.length x.2.1 : Nat) : Int)) = decide (1 ≤ x.2.1.length) from decide_eq_decide.2 (by omega), show decide (((List.length x.2.1 : Nat) : Int) ≤ 32) = decide (x.2.1.length ≤ 32) from decide_eq_decide.2 (by omega)]
    cases (decide (1 ≤ x.2.1.length) && decide (x.2.1.length ≤ 32)) <;> rfl
theorem Pv {α : Type} (p : α → Bool) (l : List α) : l.any (fun x => !(p x)) = !(l.all p) := by
  induction l with
  | nil => rfl
  | cons x l ih => rw [List.any_cons, List.all_cons, ih, Bool.not_and]
theorem lTenant {t : Qb} (h : Pe t) : Rm t.1 t.2.1 t.2.2.1 t.2.2.2.1 t.2.2.2.2 = some (Hf t) := by
  obtain ⟨h1, h2, h3, h4, h5⟩ := h
  unfold Rm
  rw [Pt t.2.2.2.1 (fun n => !(Mg n)) _ (fun n hn => lNetBad (h4 n hn)) h2, Option.bind_some, Mf t.2.2.2.2 (fun x => !(I4 x)) _ (fun x hx => by unfold Gj; rw [lToken (h5 x hx).1]; rfl) h3, Pv, Pv]
  have k5 : ∀ v, Ut t.2.1 t.2.2.1 t.2.2.2.2 v = some (!v && ((qOk t.2.1 && qOk t.2.2.1) && K5 (t.2.2.2.2.map (·.1)))) := by
    intro v
    unfold Ut Us
    cases v with
    | true => rfl
    | false =>
      rw [cond_false, Kn, Kn, Option.bind_some, Option.bind_some, Pu _ _ (fun x => rfl) h3]
      unfold qOk
      cases (decide (0 ≤ t.2.1) && decide (t.2.1 ≤ 8)) <;> cases (decide (0 ≤ t.2.2.1) && decide (t.2.2.1 ≤ 8)) <;> cases K5 (t.2.2.2.2.map (·.1)) <;> rfl
  have k1 : ∀ v, Uu t.1 t.2.1 t.2.2.1 t.2.2.2.1 t.2.2.2.2 v = some (!v && ((Fh t.1 && (decide (t.2.2.2.1.length ≤ 4) && decide (t.2.2.2.2.length ≤ 4))) && ((qOk t.2.1 && qOk t.2.2.1) && K5 (t.2.2.2.2.map (·.1))))) := by
    intro v
    unfold Uu N3 N2
    cases v with
    | true => rw [cond_true, k5]; rfl
    | false =>
      rw [cond_false, lNameM _ h1, Option.bind_some]
      simp only [k5]
      rw [show decide (((List.length t.2.2.2.1 : Nat) : Int) > 4) = !(decide (t.2.2.2.1.length ≤ 4)) by rw [← decide_not]; exact decide_eq_decide.2 (by omega), show decide (((List.length t.2.2.2.2 : Nat) : Int) > 4) = !(decide (t.2.2.2.2.length ≤ 4)) by rw [← decide_not]; exact decide_eq_decide.2 (by omega)]
      cases Fh t.1 <;> cases decide (t.2.2.2.1.length ≤ 4) <;> cases decide (t.2.2.2.2.length ≤ 4) <;> rfl
  unfold Hf
  cases t.2.2.2.1.all Mg with
  | false =>
    rw [show (!false) = true from rfl, cond_true, k1]
    rfl
  | true =>
    rw [show (!true) = false from rfl, cond_false, Option.bind_some, k1]
    cases t.2.2.2.2.all I4 <;> rfl
theorem Tl (w g i e : Int) (l : List Qb) (rec3 : Int → Option Bool) (hl : l.length ≤ 140737488355328) (hq : ∀ t ∈ l, Pe t) : Jf rec3 w g i e l ((0 + 1 + 1 + 1 + 1 : Nat) : Int) = some (decide (l.length ≤ 8) && (l.all Hf && K5 (l.map (·.1)))) := by
  unfold Jf Nc
  rw [show decide (((0 + 1 + 1 + 1 + 1 : Nat) : Int) < ((List.length ([w, g, i, e] : List Int) : Nat) : Int)) = false from rfl, cond_false, Lb l (fun t => !(Hf t)) _ (fun t ht => by unfold Gz; rw [lTenant (hq t ht)]; rfl) hl, Pv, Oj _ _ (fun x => rfl) hl,
    show decide (((List.length l : Nat) : Int) ≤ 8) = decide (l.length ≤ 8) from decide_eq_decide.2 (by omega)]
  cases decide (l.length ≤ 8) <;> cases l.all Hf <;> cases K5 (l.map (·.1)) <;> rfl
theorem Ei (w g i e : Int) (l : List Qb) (rec3 : Int → Option Bool) (k : Nat) (x : Int) (hk : k < 4) (hx : [w, g, i, e][k]? = some x) : Jf rec3 w g i e l (k : Int) = cond (G0 x) (rec3 ((k + 1 : Nat) : Int)) (some false) := by
  unfold Jf
  rw [show decide ((k : Int) < ((List.length ([w, g, i, e] : List Int) : Nat) : Int)) = true from decide_eq_true (by simp only [List.length_cons, List.length_nil]; omega), cond_true, show idx ([w, g, i, e] : List Int) (k : Int) = some x by rw [Hc]; exact hx, Option.bind_some, Kn, Option.bind_some, show ((k : Int) + 1) = ((k + 1 : Nat) : Int) by omega, Uy (by omega)]
  unfold G0
  cases (decide (1 ≤ x) && decide (x ≤ 1073741824)) <;> rfl
theorem lCfg (w g i e : Int) (l : List Qb) (hl : l.length ≤ 140737488355328) (hq : ∀ t ∈ l, Pe t) : Jo w g i e l = some (Ok w g i e l) := by
  have unf : ∀ f (v : Int), Uc w g i e l (f + 1) v = Jf (Uc w g i e l f) w g i e l v := fun _ _ => rfl
  unfold Jo Ok
  rw [show Zj = 18446744073709551611 + 1 + 1 + 1 + 1 + 1 from rfl]
  rw [unf, show (0 : Int) = ((0 : Nat) : Int) from rfl, Ei w g i e l _ 0 w (by omega) rfl, unf, Ei w g i e l _ (0 + 1) g (by omega) rfl, unf, Ei w g i e l _ (0 + 1 + 1) i (by omega) rfl, unf, Ei w g i e l _ (0 + 1 + 1 + 1) e (by omega) rfl, unf, Tl w g i e l _ hl hq]
  cases G0 w <;> cases G0 g <;> cases G0 i <;> cases G0 e <;> rfl
end Go.Proofs.YtoflbpmbkmephaaGreatDoor
