import Derived.Test.YtoflbpmbkmephaaGreatDoorPkConfigChanged3
set_option linter.unusedSimpArgs false
set_option linter.unusedVariables false
set_option linter.unusedSectionVars false
set_option maxRecDepth 100000
set_option maxHeartbeats 40000000
namespace Go.Proofs.YtoflbpmbkmephaaGreatDoor
open Go.RowKit
def Zv (q4 : (List UInt8)) (p7 : (List UInt8)) : Option (Int × (List UInt8)) :=
  ((app q4 p7).bind fun a => (some (((List.length p7 : Nat) : Int), a)))
set_option maxHeartbeats 40000000 in
theorem Jh {S : List Nat} (g1 : Nat) (v2 : Value) (A5 : Option Addr) (c6 : Nat) (q4 : (List UInt8)) (p7 : (List UInt8)) (w0 : World) (hO : SP S w0 w0 [Qr g1 93 #[v2, (.slice A5 (List.length q4) c6)], Q3 5 eU8 A5 c6 q4]) (u : BP g1 v2) (r : (Int × (List UInt8))) (H : Zv q4 p7 = some r) :
  Calls Tryz.prog 57 #[(pt g1 0), (.string ⟨List.toArray p7⟩)] w0 (fun e w' => ∃ (h : Option Addr) (j : Nat), e = .returned (.tuple #[(.int .i64 r.1), .nilIface]) ∧ SP S w0 w' [Qr g1 93 #[(pt g1 0), (.slice h (List.length r.2) j)], Q3 5 eU8 h j r.2]) := by
 unfold Zv at H
 refine Qx (n := 19) Tryz.func57 K K K ?_
 have w := hO
 refine aQ ?_
 refine aR ?_
 refine iR 2 2 [(4, (.int .i64 0)), (5, .nilIface)] ?_
 refine iF ?_
 refine aQ ?_
 refine aR ?_
 refine iR 1 1 [(6, (pt g1 0))] ?_
 refine iS 2 ?_
 refine cF 105 #[(.tmp 6)] #[91] 7 Tryz.call105 (Bt (g := g1) (v := v2) (x := (.slice A5 (List.length q4) c6)) u w (i := 0) rfl) ?_
 rintro e z ⟨rfl, o⟩
 refine ⟨_, rfl, ?_⟩
 have p : SP S w0 z [Qr g1 93 #[(pt g1 0), (.slice A5 (List.length q4) c6)], Q3 5 eU8 A5 c6 q4] := o
 clear o
 refine iF ?_
 refine aQ ?_
 refine aR ?_
 refine iR 4 4 [(8, (pt g1 0)), (9, (pt g1 0)), (10, (pt g1 0)), (11, (pt g1 1))] ?_
 refine iS 5 ?_
 refine sL 48 11 g1 1 0 (.slice A5 (List.length q4) c6) 12 p rfl ?_
 refine iR 1 6 [(13, (.string ⟨List.toArray p7⟩))] ?_
 obtain ⟨hl26, H⟩ := Ys H
 obtain ⟨q, hyl27⟩ : ∃ y, q4 ++ p7 = y := ⟨_, rfl⟩
 try rw [hyl27] at H
 refine iS 7 ?_
 refine Qi.append (e := eU8) (l := q4) (m := p7) (A := A5) (c := c6) (T := 48) (TX := 9) (E := 5) (b := 1) (s := (.tmp 12)) (x := (.tmp 13)) (i := 1) (vx := (.string ⟨List.toArray p7⟩)) (d := (some 14)) (k := 6) K rfl K K K K rfl p rfl (src_str K p7) hl26 ?_
 rw [hyl27]
 intro a f a2 a0
 refine iR 2 9 [(15, (pt g1 0)), (16, (pt g1 1))] ?_
 refine iS 10 ?_
 refine Qi.store (t := 48) (x := (.tmp 16)) (y := (.tmp 14)) (g := g1) (off := 1) (i := 0) (v := (.slice a (List.length q) f)) (cs' := #[(pt g1 0), (.slice a (List.length q) f)]) (d := none) (k := 9) K rfl K K a0 rfl K ?_
 intro a3 a1
 refine iF ?_
 refine aQ ?_
 refine aR ?_
 refine iR 4 4 [(17, (.string ⟨List.toArray p7⟩)), (18, (.int .i64 ((List.length p7 : Nat) : Int))), (4, (.int .i64 ((List.length p7 : Nat) : Int))), (5, .nilIface)] ?_
 refine iF ?_
 refine At.ret K ?_
 refine ⟨(.tuple #[(.int .i64 ((List.length p7 : Nat) : Int)), .nilIface]), K, ?_⟩
 obtain rfl := Qg H
 exact ⟨a, f, rfl, SP.sel a1 [0,1] rfl rfl⟩
def Xg (p1 : (List (List UInt8))) (q8 : (List UInt8)) : Option ((List UInt8)) :=
  ((Y5 p1 ([32] : List UInt8)).bind fun a => ((app a ([10] : List UInt8)).bind fun b => ((Zv q8 b).bind fun c => (some (c.2)))))
set_option maxHeartbeats 40000000 in
theorem Xs {S : List Nat} (A2 : Option Addr) (c3 : Nat) (g5 : Nat) (v6 : Value) (A9 : Option Addr) (c : Nat) (p1 : (List (List UInt8))) (q8 : (List UInt8)) (w0 : World) (hO : SP S w0 w0 [Qr g5 93 #[v6, (.slice A9 (List.length q8) c)], Q3 5 eU8 A9 c q8]) (s : ∀ w, Mod S w0 w → RdT Qm w A2 c3 p1) (t : BP g5 v6) (r : ((List UInt8))) (H : Xg p1 q8 = some r) :
  Calls Tryz.prog 56 #[(.slice A2 (List.length p1) c3), (pt g5 0)] w0 (fun e w' => ∃ (j : Option Addr) (l : Nat), e = .returned (.tuple #[]) ∧ SP S w0 w' [Qr g5 93 #[(pt g5 0), (.slice j (List.length r) l)], Q3 5 eU8 j l r]) := by
 unfold Xg at H
 refine Qx (n := 7) Tryz.func56 K K K ?_
 have m := hO
 refine aR ?_
 refine iR 1 1 [(3, (.slice A2 (List.length p1) c3))] ?_
 obtain ⟨f, u, H⟩ := Qd H
 refine iS 2 ?_
 refine cF 58 #[(.tmp 3), (.const (.string ⟨List.toArray ([32] : List UInt8)⟩))] #[79, 9] 4 Tryz.call58 (Ul A2 c3 p1 ([32] : List UInt8) w0 (s w0 (SP.mod m)) f u) ?_
 rintro e v ⟨rfl, o⟩
 refine ⟨_, rfl, ?_⟩
 have p := SP.call m o
 clear o
 obtain ⟨hl36, H⟩ := Ys H
 obtain ⟨z, hyl35⟩ : ∃ y, f ++ ([10] : List UInt8) = y := ⟨_, rfl⟩
 rw [hyl35] at H
 refine iS 3 ?_
 refine No (T := 9) (T' := 9) (x := (.tmp 4)) (y := (.const (.string ⟨List.toArray ([10] : List UInt8)⟩))) (a := f) (b := ([10] : List UInt8)) (d := (some 5)) (k := 2) K rfl K K hl36 ?_
 rw [hyl35]
 obtain ⟨g, a0, H⟩ := Qd H
 refine iS 4 ?_
 refine cF 57 #[(.tmp 1), (.tmp 5)] #[93, 9] 6 Tryz.call57 (Jh g5 v6 A9 c q8 z v (Yw p [0, 1] rfl rfl) t g a0) ?_
 rintro e a1 ⟨h, i, rfl, q⟩
 refine ⟨_, rfl, ?_⟩
 have a2 : SP S w0 a1 [Qr g5 93 #[(pt g5 0), (.slice h (List.length g.2) i)], Q3 5 eU8 h i g.2] := Zd p [0, 1] [] rfl rfl q rfl
 clear q
 refine iF ?_
 refine ⟨(.tuple #[]), K, ?_⟩
 obtain rfl := Qg H
 exact ⟨h, i, rfl, SP.sel a2 [0,1] rfl rfl⟩
def Jr (e : (List UInt8) → Int → Option ((List UInt8))) (k : (List UInt8) → Int → Option ((List UInt8))) (f : (List UInt8) → Int → Option ((List UInt8))) (g : Int) (c : Qc) (d : (List UInt8)) (b : Int) : Option ((List UInt8)) :=
  (cond (decide (b < ((List.length c.2.2.2.2 : Nat) : Int))) ((idx c.2.2.2.2 b).bind fun a => ((chk (Nat.ble (List.length a.2.1) 281474976710656)).bind fun _ => ((Gq a.2.1).bind fun h => ((V0 a.2.2).bind fun i => ((Xg ([([116, 111, 107, 101, 110] : List UInt8), a.1, h, i] : List (List UInt8)) d).bind fun j => (f j (IntKind.wrap .i64 (b + 1)))))))) (e d (IntKind.wrap .i64 (g + 1))))
def Yl (a : (List UInt8) → Int → Option ((List UInt8))) (b : (List UInt8) → Int → Option ((List UInt8))) (c : Int) (d : Qc) : Nat → (List UInt8) → Int → Option ((List UInt8))
  | 0, _, _ => none
  | f + 1, e, g => Jr a b (Yl a b c d f) c d e g
def Js (f : (List UInt8) → Int → Option ((List UInt8))) (c : (List UInt8) → Int → Option ((List UInt8))) (g : Int) (a : Qc) (d : (List UInt8)) (b : Int) : Option ((List UInt8)) :=
  (cond (decide (b < ((List.length a.2.2.2.1 : Nat) : Int))) ((idx a.2.2.2.1 b).bind fun e => ((Yb e.1 e.2).bind fun h => ((Xg ([([110, 101, 116] : List UInt8), h] : List (List UInt8)) d).bind fun i => (c i (IntKind.wrap .i64 (b + 1)))))) (Yl f c g a Yg d 0))
def Zg (a : (List UInt8) → Int → Option ((List UInt8))) (b : Int) (c : Qc) : Nat → (List UInt8) → Int → Option ((List UInt8))
  | 0, _, _ => none
  | f + 1, d, e => Js a (Zg a b c f) b c d e
def Jt (e : (List UInt8) → Int → Option ((List UInt8))) (c : (List Qc)) (d : (List UInt8)) (b : Int) : Option ((List UInt8)) :=
  (cond (decide (b < ((List.length c : Nat) : Int))) ((idx c b).bind fun a => ((V0 a.2.1).bind fun f => ((V0 a.2.2.1).bind fun g => ((Xg ([([116, 101, 110, 97, 110, 116] : List UInt8), a.1, f, g] : List (List UInt8)) d).bind fun h => (Zg e b a Yg h 0))))) (some (d)))
def Vc (a : (List Qc)) : Nat → (List UInt8) → Int → Option ((List UInt8))
  | 0, _, _ => none
  | f + 1, b, c => Jt  (Vc a f) a b c
def U9 (a : Int) (b : Int) (c : Int) (d : Int) (e : (List Qc)) : Option ((List UInt8)) :=
  ((Q4 a b c d e).bind fun f => (cond (!f) (some (([] : List UInt8))) ((V0 a).bind fun g => ((V0 b).bind fun h => ((V0 c).bind fun i => ((V0 d).bind fun j => ((Xg ([([116, 105, 109, 101, 115] : List UInt8), g, h, i, j] : List (List UInt8)) ([] : List UInt8)).bind fun k => (Vc e Yg k 0))))))))
set_option maxHeartbeats 40000000 in
theorem Rn (A6 : Option Addr) (c7 : Nat) (b8 : Int) (b4 : Int) (b3 : Int) (b1 : Int) (d9 : (List Qe)) (w0 : World) (hL : Ub w0) (d0 : (dDS Vr B3).ok w0 (A6, c7, d9)) (r : ((List UInt8))) (H : U9 b8 b4 b3 b1 (List.map stT d9) = some r) :
  Calls Tryz.prog 24 #[(.agg #[(.int .i64 b8), (.int .i64 b4), (.int .i64 b3), (.int .i64 b1), (.slice A6 (List.length (List.map stT d9)) c7)])] w0 (fun e w' => e = .returned (.string ⟨List.toArray r⟩) ∧ SP [] w0 w' []) := by
 unfold U9 at H
 refine Qx (n := 83) Tryz.func24 K K K ?_
 have n5 := Qz [] w0
 refine aQ ?_
 refine aR ?_
 refine iS 1 ?_
 refine Zp (t := 24) (x := (.tmp 0)) (v := (.agg #[(.int .i64 b8), (.int .i64 b4), (.int .i64 b3), (.int .i64 b1), (.slice A6 (List.length (List.map stT d9)) c7)])) (d := (some 1)) (k := 0) K rfl K n5 ?_
 intro u n6 e9
 refine iR 1 2 [(2, (.string ⟨List.toArray ([] : List UInt8)⟩))] ?_
 refine iF ?_
 refine aQ ?_
 refine aQ ?_
 refine aR ?_
 refine iS 1 ?_
 refine sL 24 1 u 0 0 (.agg #[(.int .i64 b8), (.int .i64 b4), (.int .i64 b3), (.int .i64 b1), (.slice A6 (List.length (List.map stT d9)) c7)]) 11 e9 rfl ?_
 obtain ⟨f9, n7, H⟩ := Qd H
 refine iS 2 ?_
 refine cF 22 #[(.tmp 11)] #[24] 12 Tryz.call22 (Vm A6 c7 b8 b4 b3 b1 d9 n6 (Qv hL (SP.keeps e9)) (Dp.sp d0 e9) f9 n7) ?_
 rintro e z0 ⟨rfl, i7⟩
 refine ⟨_, rfl, ?_⟩
 have i8 := SP.call e9 i7
 clear i7
 refine iR 1 3 [(13, (.bool (!f9)))] ?_
 refine iF ?_
 refine Z3 K (o := (.tmp 13)) K (b := (!f9)) K (fun g0 => ?_) (fun g0 => ?_)
 ·have H := ct H g0
  refine aQ ?_
  refine aR ?_
  refine iR 1 1 [(2, (.string ⟨List.toArray ([] : List UInt8)⟩))] ?_
  refine iF ?_
  refine At.ret K ?_
  refine ⟨(.string ⟨List.toArray ([] : List UInt8)⟩), K, ?_⟩
  obtain rfl := Qg H
  exact ⟨rfl, SP.sel i8 [] rfl rfl⟩
 ·have H := cf H g0
  refine At.skip K ?_
  refine aQ ?_
  refine aR ?_
  refine iS 1 ?_
  refine Qi.alloc (t := 93) (z := (.agg #[(.pointer none), (.slice none (List.length ([] : List UInt8)) 0)])) (d := (some 3)) (k := 0) K rfl K i8 ?_
  intro m z1 n8
  refine iF ?_
  refine aQ ?_
  refine aR ?_
  refine iR 2 2 [(14, (.func (.func 56) #[] #[(pt m 0)])), (4, (.func (.func 56) #[] #[(pt m 0)]))] ?_
  refine iF ?_
  refine aQ ?_
  obtain ⟨a2, n9, H⟩ := Qd H
  obtain ⟨a3, o0, H⟩ := Qd H
  obtain ⟨a5, o1, H⟩ := Qd H
  obtain ⟨a6, o2, H⟩ := Qd H
  obtain ⟨d4, o3, H⟩ := Qd H
  refine aG [GEq (.func (.func 56) #[] #[(pt m 0)]), GEq (pt u 0), GEq (.int .i64 b8), GEq (.string ⟨List.toArray a2⟩), GEq (pt u 1), GEq (.int .i64 b4), GEq (.string ⟨List.toArray a3⟩), GEq (pt u 2), GEq (.int .i64 b3), GEq (.string ⟨List.toArray a5⟩), GEq (pt u 3), GEq (.int .i64 b1), GEq (.string ⟨List.toArray a6⟩), N5, GEq (.tuple #[])] [3, 6, 9, 12, 13, 14] [([], fun vs w => VL vs [] ∧ SP [] w0 w [Qr u 24 #[(.int .i64 b8), (.int .i64 b4), (.int .i64 b3), (.int .i64 b1), (.slice A6 (List.length (List.map stT d9)) c7)], Qr m 93 #[(.pointer none), (.slice none (List.length ([] : List UInt8)) 0)]]), ([3], fun vs w => VL vs [(.string ⟨List.toArray a2⟩)] ∧ SP [] w0 w [Qr u 24 #[(.int .i64 b8), (.int .i64 b4), (.int .i64 b3), (.int .i64 b1), (.slice A6 (List.length (List.map stT d9)) c7)], Qr m 93 #[(.pointer none), (.slice none (List.length ([] : List UInt8)) 0)]]), ([3, 6], fun vs w => VL vs [(.string ⟨List.toArray a2⟩), (.string ⟨List.toArray a3⟩)] ∧ SP [] w0 w [Qr u 24 #[(.int .i64 b8), (.int .i64 b4), (.int .i64 b3), (.int .i64 b1), (.slice A6 (List.length (List.map stT d9)) c7)], Qr m 93 #[(.pointer none), (.slice none (List.length ([] : List UInt8)) 0)]]), ([3, 6, 9], fun vs w => VL vs [(.string ⟨List.toArray a2⟩), (.string ⟨List.toArray a3⟩), (.string ⟨List.toArray a5⟩)] ∧ SP [] w0 w [Qr u 24 #[(.int .i64 b8), (.int .i64 b4), (.int .i64 b3), (.int .i64 b1), (.slice A6 (List.length (List.map stT d9)) c7)], Qr m 93 #[(.pointer none), (.slice none (List.length ([] : List UInt8)) 0)]]), ([3, 6, 9, 12], fun vs w => VL vs [(.string ⟨List.toArray a2⟩), (.string ⟨List.toArray a3⟩), (.string ⟨List.toArray a5⟩), (.string ⟨List.toArray a6⟩)] ∧ SP [] w0 w [Qr u 24 #[(.int .i64 b8), (.int .i64 b4), (.int .i64 b3), (.int .i64 b1), (.slice A6 (List.length (List.map stT d9)) c7)], Qr m 93 #[(.pointer none), (.slice none (List.length ([] : List UInt8)) 0)]]), ([3, 6, 9, 12, 13], fun vs w => ∃ (c5 : Nat), VL vs [(.string ⟨List.toArray a2⟩), (.string ⟨List.toArray a3⟩), (.string ⟨List.toArray a5⟩), (.string ⟨List.toArray a6⟩), (.slice (some ⟨c5, 0, none⟩) (List.length ([([116, 105, 109, 101, 115] : List UInt8), a2, a3, a5, a6] : List (List UInt8))) (List.length ([([116, 105, 109, 101, 115] : List UInt8), a2, a3, a5, a6] : List (List UInt8))))] ∧ SP [] w0 w [Qr u 24 #[(.int .i64 b8), (.int .i64 b4), (.int .i64 b3), (.int .i64 b1), (.slice A6 (List.length (List.map stT d9)) c7)], Qr m 93 #[(.pointer none), (.slice none (List.length ([] : List UInt8)) 0)], Q3 9 Qm (some ⟨c5, 0, none⟩) (List.length ([([116, 105, 109, 101, 115] : List UInt8), a2, a3, a5, a6] : List (List UInt8))) ([([116, 105, 109, 101, 115] : List UInt8), a2, a3, a5, a6] : List (List UInt8))]), ([3, 6, 9, 12, 13, 14], fun vs w => ∃ (g1 : Nat), ∃ (f0 : Option Addr), ∃ (f1 : Nat), VL vs [(.string ⟨List.toArray a2⟩), (.string ⟨List.toArray a3⟩), (.string ⟨List.toArray a5⟩), (.string ⟨List.toArray a6⟩), (.slice (some ⟨g1, 0, none⟩) (List.length ([([116, 105, 109, 101, 115] : List UInt8), a2, a3, a5, a6] : List (List UInt8))) (List.length ([([116, 105, 109, 101, 115] : List UInt8), a2, a3, a5, a6] : List (List UInt8)))), (.tuple #[])] ∧ SP [] w0 w [Qr u 24 #[(.int .i64 b8), (.int .i64 b4), (.int .i64 b3), (.int .i64 b1), (.slice A6 (List.length (List.map stT d9)) c7)], Q3 9 Qm (some ⟨g1, 0, none⟩) (List.length ([([116, 105, 109, 101, 115] : List UInt8), a2, a3, a5, a6] : List (List UInt8))) ([([116, 105, 109, 101, 115] : List UInt8), a2, a3, a5, a6] : List (List UInt8)), Qr m 93 #[(pt m 0), (.slice f0 (List.length d4) f1)], Q3 5 eU8 f0 f1 d4])] 15 6 ⟨trivial, SP.drew n8⟩ ?_ ?_
  iterate 15 refine And.intro ?_ ?_
  exact trivial
  ·exact oV (hC (hS 4 (.func (.func 56) #[] #[(pt m 0)])) (h0)) (.func (.func 56) #[] #[(pt m 0)])
  ·exact oV (hC (hS 1 (pt u 0)) (h0)) (pt u 0)
  ·refine oL 0 ?_
   ·rintro ρ' w' hs s ⟨z2, o4⟩
    refine kM (kc (kA s 1 16) k0) fun p => ?_
    refine sL 2 16 u 0 0 (.int .i64 b8) 17 o4 rfl ?_
    exact eK p
  ·refine oH 0 1 ?_
   ·rintro ρ' w' hs s ⟨z3, i9⟩
    refine kM (kc (kA s 2 17) k0) fun p => ?_
    refine cF 59 #[(.tmp 17)] #[2] 18 Tryz.call59 (Vs  b8 w' (Qv hL (SP.keeps i9)) a2 n9) ?_
    rintro e z4 ⟨rfl, j0⟩
    refine ⟨_, rfl, ?_⟩
    have o5 := SP.call i9 j0
    clear j0
    refine ⟨_, Qa p, rfl, ?_⟩
    exact (And.intro (And.intro rfl (trivial)) o5)
  ·exact oV (hC (hS 1 (pt u 0)) (h0)) (pt u 1)
  ·refine Owe.light K [0, 1] K (Qb ?_ (Qb ?_ Q1))
   ·rintro ρ' w' hs s ⟨z5, o6⟩
    refine kM (kc (kA s 4 19) k0) fun p => ?_
    refine sL 2 19 u 1 0 (.int .i64 b4) 20 o6 rfl ?_
    exact eK p
   ·rintro ρ' w' hs s ⟨⟨z6, -⟩, o7⟩
    refine kM (kc (kA s 4 19) k0) fun p => ?_
    refine sL 2 19 u 1 0 (.int .i64 b4) 20 o7 rfl ?_
    exact eK p
  ·refine oH 1 2 ?_
   ·rintro ρ' w' hs s ⟨⟨o8, -⟩, j1⟩
    refine kM (kc (kA s 5 20) k0) fun p => ?_
    refine cF 59 #[(.tmp 20)] #[2] 21 Tryz.call59 (Vs  b4 w' (Qv hL (SP.keeps j1)) a3 o0) ?_
    rintro e z7 ⟨rfl, j2⟩
    refine ⟨_, rfl, ?_⟩
    have o9 := SP.call j1 j2
    clear j2
    refine ⟨_, Qa p, rfl, ?_⟩
    exact (And.intro (And.intro o8 (And.intro rfl (trivial))) o9)
  ·exact oV (hC (hS 1 (pt u 0)) (h0)) (pt u 2)
  ·refine Owe.light K [0, 1, 2] K (Qb ?_ (Qb ?_ (Qb ?_ Q1)))
   ·rintro ρ' w' hs s ⟨z8, p0⟩
    refine kM (kc (kA s 7 22) k0) fun p => ?_
    refine sL 2 22 u 2 0 (.int .i64 b3) 23 p0 rfl ?_
    exact eK p
   ·rintro ρ' w' hs s ⟨⟨z9, -⟩, p1⟩
    refine kM (kc (kA s 7 22) k0) fun p => ?_
    refine sL 2 22 u 2 0 (.int .i64 b3) 23 p1 rfl ?_
    exact eK p
   ·rintro ρ' w' hs s ⟨⟨aa0, aa1, -⟩, p2⟩
    refine kM (kc (kA s 7 22) k0) fun p => ?_
    refine sL 2 22 u 2 0 (.int .i64 b3) 23 p2 rfl ?_
    exact eK p
  ·refine oH 2 3 ?_
   ·rintro ρ' w' hs s ⟨⟨p3, p4, -⟩, j3⟩
    refine kM (kc (kA s 8 23) k0) fun p => ?_
    refine cF 59 #[(.tmp 23)] #[2] 24 Tryz.call59 (Vs  b3 w' (Qv hL (SP.keeps j3)) a5 o1) ?_
    rintro e aa2 ⟨rfl, j4⟩
    refine ⟨_, rfl, ?_⟩
    have p5 := SP.call j3 j4
    clear j4
    refine ⟨_, Qa p, rfl, ?_⟩
    exact (And.intro (And.intro p3 (And.intro p4 (And.intro rfl (trivial)))) p5)
  ·exact oV (hC (hS 1 (pt u 0)) (h0)) (pt u 3)
  ·refine Owe.light K [0, 1, 2, 3] K (Qb ?_ (Qb ?_ (Qb ?_ (Qb ?_ Q1))))
   ·rintro ρ' w' hs s ⟨aa3, p6⟩
    refine kM (kc (kA s 10 25) k0) fun p => ?_
    refine sL 2 25 u 3 0 (.int .i64 b1) 26 p6 rfl ?_
    exact eK p
   ·rintro ρ' w' hs s ⟨⟨aa4, -⟩, p7⟩
    refine kM (kc (kA s 10 25) k0) fun p => ?_
    refine sL 2 25 u 3 0 (.int .i64 b1) 26 p7 rfl ?_
    exact eK p
   ·rintro ρ' w' hs s ⟨⟨aa5, aa6, -⟩, p8⟩
    refine kM (kc (kA s 10 25) k0) fun p => ?_
    refine sL 2 25 u 3 0 (.int .i64 b1) 26 p8 rfl ?_
    exact eK p
   ·rintro ρ' w' hs s ⟨⟨aa7, aa8, aa9, -⟩, p9⟩
    refine kM (kc (kA s 10 25) k0) fun p => ?_
    refine sL 2 25 u 3 0 (.int .i64 b1) 26 p9 rfl ?_
    exact eK p
  ·refine oH 3 4 ?_
   ·rintro ρ' w' hs s ⟨⟨q0, q1, q2, -⟩, j5⟩
    refine kM (kc (kA s 11 26) k0) fun p => ?_
    refine cF 59 #[(.tmp 26)] #[2] 27 Tryz.call59 (Vs  b1 w' (Qv hL (SP.keeps j5)) a6 o2) ?_
    rintro e ab0 ⟨rfl, j6⟩
    refine ⟨_, rfl, ?_⟩
    have q3 := SP.call j5 j6
    clear j6
    refine ⟨_, Qa p, rfl, ?_⟩
    exact (And.intro (And.intro q0 (And.intro q1 (And.intro q2 (And.intro rfl (trivial))))) q3)
  ·refine oH 4 5 ?_
   ·rintro ρ' w' hs s ⟨⟨j7, j8, j9, k1, -⟩, q4⟩
    refine kN [(18, (.string ⟨List.toArray a2⟩)), (21, (.string ⟨List.toArray a3⟩)), (24, (.string ⟨List.toArray a5⟩)), (27, (.string ⟨List.toArray a6⟩))] ⟨(Vk (h := 3) K).symm.trans j7, (Vk (h := 6) K).symm.trans j8, (Vk (h := 9) K).symm.trans j9, (Vk (h := 12) K).symm.trans k1, trivial⟩ fun p => ?_
    refine Vp (e := Qm) (T := 79) (E := 9) (len := 5) (parts := #[(0, (.const (.string ⟨List.toArray ([116, 105, 109, 101, 115] : List UInt8)⟩))), (1, (.tmp 18)), (2, (.tmp 21)), (3, (.tmp 24)), (4, (.tmp 27))]) (cs := #[(.string ⟨List.toArray ([116, 105, 109, 101, 115] : List UInt8)⟩), (.string ⟨List.toArray a2⟩), (.string ⟨List.toArray a3⟩), (.string ⟨List.toArray a5⟩), (.string ⟨List.toArray a6⟩)]) ([([116, 105, 109, 101, 115] : List UInt8), a2, a3, a5, a6] : List (List UInt8)) (d := (some 28)) (k := 13) K rfl (fun _ => K) q4 rfl rfl rfl rfl ?_
    intro q5 ab1 q6
    refine ⟨_, Qa p, trivial, ?_⟩
    exact (Exists.intro q5 (And.intro (And.intro j7 (And.intro j8 (And.intro j9 (And.intro k1 (And.intro rfl (trivial)))))) q6))
  ·refine oH 5 6 ?_
   ·rintro ρ' w' hs s ⟨c5, ⟨q7, q8, q9, r0, k2, -⟩, r1⟩
    refine kN [(15, (.func (.func 56) #[] #[(pt m 0)])), (28, (.slice (some ⟨c5, 0, none⟩) (List.length ([([116, 105, 109, 101, 115] : List UInt8), a2, a3, a5, a6] : List (List UInt8))) (List.length ([([116, 105, 109, 101, 115] : List UInt8), a2, a3, a5, a6] : List (List UInt8)))))] ⟨s 0 15 K, (Vk (h := 13) K).symm.trans k2, trivial⟩ fun p => ?_
    have g2 : SP [] w0 w' [Qr u 24 #[(.int .i64 b8), (.int .i64 b4), (.int .i64 b3), (.int .i64 b1), (.slice A6 (List.length (List.map stT d9)) c7)], Qr m 93 #[(.pointer none), (.slice none (List.length ([] : List UInt8)) 0)], Q3 9 Qm (some ⟨c5, 0, none⟩) (List.length ([([116, 105, 109, 101, 115] : List UInt8), a2, a3, a5, a6] : List (List UInt8))) ([([116, 105, 109, 101, 115] : List UInt8), a2, a3, a5, a6] : List (List UInt8)), Q3 5 eU8 none 0 ([] : List UInt8)] := Uj r1 5 eU8
    refine Z4 (f := 56) (fo := (.tmp 15)) (xs := #[(.tmp 28)]) (tys := #[79]) (first := #[]) (captured := #[(pt m 0)]) (d := (some 29)) (k := 14) K rfl K K Tryz.call56 (Xs (some ⟨c5, 0, none⟩) (List.length ([([116, 105, 109, 101, 115] : List UInt8), a2, a3, a5, a6] : List (List UInt8))) m (.pointer none) none 0 ([([116, 105, 109, 101, 115] : List UInt8), a2, a3, a5, a6] : List (List UInt8)) ([] : List UInt8) w' (Yw g2 [1, 3] rfl rfl) (fun w hm => (Vd (SP.still g2 (l := [1, 3]) (i := 2) rfl rfl rfl hm))) (.inl rfl) d4 o3) ?_
    rintro e r2 ⟨g3, g4, rfl, k3⟩
    refine ⟨_, rfl, ?_⟩
    have r3 : SP [] w0 r2 [Qr u 24 #[(.int .i64 b8), (.int .i64 b4), (.int .i64 b3), (.int .i64 b1), (.slice A6 (List.length (List.map stT d9)) c7)], Q3 9 Qm (some ⟨c5, 0, none⟩) (List.length ([([116, 105, 109, 101, 115] : List UInt8), a2, a3, a5, a6] : List (List UInt8))) ([([116, 105, 109, 101, 115] : List UInt8), a2, a3, a5, a6] : List (List UInt8)), Qr m 93 #[(pt m 0), (.slice g3 (List.length d4) g4)], Q3 5 eU8 g3 g4 d4] := Zd g2 [1, 3] [0, 2] rfl rfl k3 rfl
    clear k3
    refine ⟨_, Qa p, rfl, ?_⟩
    exact (Exists.intro c5 (Exists.intro g3 (Exists.intro g4 (And.intro (And.intro q7 (And.intro q8 (And.intro q9 (And.intro r0 (And.intro k2 (And.intro rfl (trivial))))))) r3))))
  ·rintro ρ' w' hs hf ⟨g1, f0, f1, ⟨ab2, ab3, ab4, ab5, ab6, ab7, -⟩, g5⟩
   refine V1 [(1, (pt u 0)), (3, (pt m 0)), (4, (.func (.func 56) #[] #[(pt m 0)]))] ⟨(hs 1 K).trans K, (hs 3 K).trans K, (hs 4 K).trans K, trivial⟩ ?_
   obtain ⟨ab8, r4⟩ : ∃ x, w' = x := ⟨_, rfl⟩
   rw [r4] at g5 ⊢
   refine aQ ?_
   refine aQ ?_
   refine aR ?_
   refine iR 1 1 [(30, (pt u 4))] ?_
   refine iS 2 ?_
   refine sL 22 30 u 4 0 (.slice A6 (List.length (List.map stT d9)) c7) 31 g5 rfl ?_
   refine iR 2 4 [(32, (.int .i64 ((List.length (List.map stT d9) : Nat) : Int))), (33, (.int .i64 0))] ?_
   refine iF ?_
   refine Yz K (id := 0) K ?_
   refine G1 K (fun c3 ρ w => ∃ (b5 : (List UInt8)) (a1 : Int) (b9 : Option Addr) (c0 : Nat), V8 ρ [(3, (pt m 0)), (4, (.func (.func 56) #[] #[(pt m 0)])), (31, (.slice A6 (List.length (List.map stT d9)) c7)), (32, (.int .i64 ((List.length (List.map stT d9) : Nat) : Int))), (33, (.int .i64 a1))] ∧ SP [] w0 w [Q3 5 eU8 b9 c0 b5, Qr m 93 #[(pt m 0), (.slice b9 (List.length b5) c0)]] ∧ Vc (List.map stT d9) c3 b5 a1 = some r) (by rintro ρ w ⟨b5, a1, b9, c0, hk, hs, H⟩; cases H) ?_ Yg ?_
   ·rintro c3 ρ ab9 ⟨b5, a1, b9, c0, hk, f2, H⟩
    refine At.known [(3, (pt m 0)), (4, (.func (.func 56) #[] #[(pt m 0)])), (31, (.slice A6 (List.length (List.map stT d9)) c7)), (32, (.int .i64 ((List.length (List.map stT d9) : Nat) : Int))), (33, (.int .i64 a1))] hk ?_
    replace H := (show Jt (Vc (List.map stT d9) c3) (List.map stT d9) b5 a1 = some r from H)
    unfold Jt at H
    refine aQ ?_
    refine aR ?_
    refine iR 1 1 [(34, (.bool (decide (a1 < ((List.length (List.map stT d9) : Nat) : Int)))))] ?_
    refine iF ?_
    refine aQ ?_
    refine Z3 K (o := (.tmp 34)) K (b := (decide (a1 < ((List.length (List.map stT d9) : Nat) : Int)))) K (fun g6 => ?_) (fun g6 => ?_)
    ·have H := ct H g6
     refine At.skip K ?_
     refine aQ ?_
     refine Yz K (id := 1) K ?_
     refine aQ ?_
     refine aR ?_
     obtain ⟨a, k4, k5, e3, H⟩ := Jm H
     refine iS 1 ?_
     refine Xf stT (e := Vr) (l := d9) (A := A6) (c := c7) (T := 22) (E := 33) (x := (.tmp 31)) (ix := (.tmp 33)) (ki := .i64) (iz := a1) (d := (some 35)) (k := 0) K rfl K K K K (RdT.sp (Xu d0) f2) k4 k5 ?_
     intro r5 r6 r7 ac0 hc10395
     refine iS 2 ?_
     refine Qi.cells (t := 33) (x := (.tmp 35)) (b := r5) (off := (r6 + Int.toNat a1 * Vr.sz)) (xs := [(.string ⟨List.toArray (stT a).1⟩), (.int .i64 (stT a).2.1), (.int .i64 (stT a).2.2.1), (.slice a.2.2.2.1.1 (List.length (stT a).2.2.2.1) a.2.2.2.1.2.1), (.slice a.2.2.2.2.1 (List.length (stT a).2.2.2.2) a.2.2.2.2.2.1)]) (d := (some 36)) (k := 1) K rfl K K K (Vy (e := Vr) (Ql (RdT.sp (Xu d0) f2) r7 k4 k5) e3 rfl) ?_
     refine iS 3 ?_
     refine Qi.alloc (t := 33) (z := (.agg #[(.string ⟨List.toArray ([] : List UInt8)⟩), (.int .i64 0), (.int .i64 0), (.slice none (List.length ([] : List (Int × Int))) 0), (.slice none (List.length ([] : List ((List UInt8) × (List UInt8) × Int))) 0)])) (d := (some 6)) (k := 2) K rfl K f2 ?_
     intro a0 ac1 r8
     refine iS 4 ?_
     refine Qi.store (t := 33) (x := (.tmp 6)) (y := (.tmp 36)) (g := a0) (off := 0) (i := 2) (v := (.agg #[(.string ⟨List.toArray (stT a).1⟩), (.int .i64 (stT a).2.1), (.int .i64 (stT a).2.2.1), (.slice a.2.2.2.1.1 (List.length (stT a).2.2.2.1) a.2.2.2.1.2.1), (.slice a.2.2.2.2.1 (List.length (stT a).2.2.2.2) a.2.2.2.2.2.1)])) (cs' := #[(.string ⟨List.toArray (stT a).1⟩), (.int .i64 (stT a).2.1), (.int .i64 (stT a).2.2.1), (.slice a.2.2.2.1.1 (List.length (stT a).2.2.2.1) a.2.2.2.1.2.1), (.slice a.2.2.2.2.1 (List.length (stT a).2.2.2.2) a.2.2.2.2.2.1)]) (d := none) (k := 3) K rfl K K r8 rfl K ?_
     intro ac2 r9
     refine iF ?_
     refine aQ ?_
     obtain ⟨a7, s0, H⟩ := Qd H
     obtain ⟨a9, s1, H⟩ := Qd H
     obtain ⟨d5, s2, H⟩ := Qd H
     refine aG [GEq (.func (.func 56) #[] #[(pt m 0)]), GEq (pt a0 0), GEq (.string ⟨List.toArray (stT a).1⟩), GEq (pt a0 1), GEq (.int .i64 (stT a).2.1), GEq (.string ⟨List.toArray a7⟩), GEq (pt a0 2), GEq (.int .i64 (stT a).2.2.1), GEq (.string ⟨List.toArray a9⟩), N5, GEq (.tuple #[])] [5, 8, 9, 10] [([], fun vs w => VL vs [] ∧ SP [] w0 w [Q3 5 eU8 b9 c0 b5, Qr m 93 #[(pt m 0), (.slice b9 (List.length b5) c0)], Qr a0 33 #[(.string ⟨List.toArray (stT a).1⟩), (.int .i64 (stT a).2.1), (.int .i64 (stT a).2.2.1), (.slice a.2.2.2.1.1 (List.length (stT a).2.2.2.1) a.2.2.2.1.2.1), (.slice a.2.2.2.2.1 (List.length (stT a).2.2.2.2) a.2.2.2.2.2.1)]]), ([5], fun vs w => VL vs [(.string ⟨List.toArray a7⟩)] ∧ SP [] w0 w [Q3 5 eU8 b9 c0 b5, Qr m 93 #[(pt m 0), (.slice b9 (List.length b5) c0)], Qr a0 33 #[(.string ⟨List.toArray (stT a).1⟩), (.int .i64 (stT a).2.1), (.int .i64 (stT a).2.2.1), (.slice a.2.2.2.1.1 (List.length (stT a).2.2.2.1) a.2.2.2.1.2.1), (.slice a.2.2.2.2.1 (List.length (stT a).2.2.2.2) a.2.2.2.2.2.1)]]), ([5, 8], fun vs w => VL vs [(.string ⟨List.toArray a7⟩), (.string ⟨List.toArray a9⟩)] ∧ SP [] w0 w [Q3 5 eU8 b9 c0 b5, Qr m 93 #[(pt m 0), (.slice b9 (List.length b5) c0)], Qr a0 33 #[(.string ⟨List.toArray (stT a).1⟩), (.int .i64 (stT a).2.1), (.int .i64 (stT a).2.2.1), (.slice a.2.2.2.1.1 (List.length (stT a).2.2.2.1) a.2.2.2.1.2.1), (.slice a.2.2.2.2.1 (List.length (stT a).2.2.2.2) a.2.2.2.2.2.1)]]), ([5, 8, 9], fun vs w => ∃ (d1 : Nat), VL vs [(.string ⟨List.toArray a7⟩), (.string ⟨List.toArray a9⟩), (.slice (some ⟨d1, 0, none⟩) (List.length ([([116, 101, 110, 97, 110, 116] : List UInt8), (stT a).1, a7, a9] : List (List UInt8))) (List.length ([([116, 101, 110, 97, 110, 116] : List UInt8), (stT a).1, a7, a9] : List (List UInt8))))] ∧ SP [] w0 w [Q3 5 eU8 b9 c0 b5, Qr m 93 #[(pt m 0), (.slice b9 (List.length b5) c0)], Qr a0 33 #[(.string ⟨List.toArray (stT a).1⟩), (.int .i64 (stT a).2.1), (.int .i64 (stT a).2.2.1), (.slice a.2.2.2.1.1 (List.length (stT a).2.2.2.1) a.2.2.2.1.2.1), (.slice a.2.2.2.2.1 (List.length (stT a).2.2.2.2) a.2.2.2.2.2.1)], Q3 9 Qm (some ⟨d1, 0, none⟩) (List.length ([([116, 101, 110, 97, 110, 116] : List UInt8), (stT a).1, a7, a9] : List (List UInt8))) ([([116, 101, 110, 97, 110, 116] : List UInt8), (stT a).1, a7, a9] : List (List UInt8))]), ([5, 8, 9, 10], fun vs w => ∃ (g7 : Nat), ∃ (f3 : Option Addr), ∃ (f4 : Nat), VL vs [(.string ⟨List.toArray a7⟩), (.string ⟨List.toArray a9⟩), (.slice (some ⟨g7, 0, none⟩) (List.length ([([116, 101, 110, 97, 110, 116] : List UInt8), (stT a).1, a7, a9] : List (List UInt8))) (List.length ([([116, 101, 110, 97, 110, 116] : List UInt8), (stT a).1, a7, a9] : List (List UInt8)))), (.tuple #[])] ∧ SP [] w0 w [Qr a0 33 #[(.string ⟨List.toArray (stT a).1⟩), (.int .i64 (stT a).2.1), (.int .i64 (stT a).2.2.1), (.slice a.2.2.2.1.1 (List.length (stT a).2.2.2.1) a.2.2.2.1.2.1), (.slice a.2.2.2.2.1 (List.length (stT a).2.2.2.2) a.2.2.2.2.2.1)], Q3 9 Qm (some ⟨g7, 0, none⟩) (List.length ([([116, 101, 110, 97, 110, 116] : List UInt8), (stT a).1, a7, a9] : List (List UInt8))) ([([116, 101, 110, 97, 110, 116] : List UInt8), (stT a).1, a7, a9] : List (List UInt8)), Qr m 93 #[(pt m 0), (.slice f3 (List.length d5) f4)], Q3 5 eU8 f3 f4 d5])] 11 4 ⟨trivial, SP.drew r9⟩ ?_ ?_
     iterate 11 refine And.intro ?_ ?_
     exact trivial
     ·exact oV (hC (hS 4 (.func (.func 56) #[] #[(pt m 0)])) (h0)) (.func (.func 56) #[] #[(pt m 0)])
     ·exact oV (hC (hS 6 (pt a0 0)) (h0)) (pt a0 0)
     ·refine Owe.light K [0, 1, 2] K (Qb ?_ (Qb ?_ (Qb ?_ Q1)))
      ·rintro ρ' w' hs s ⟨ac3, s3⟩
       refine kM (kc (kA s 1 38) k0) fun p => ?_
       refine sL 9 38 a0 0 2 (.string ⟨List.toArray (stT a).1⟩) 39 s3 rfl ?_
       exact eK p
      ·rintro ρ' w' hs s ⟨⟨ac4, -⟩, s4⟩
       refine kM (kc (kA s 1 38) k0) fun p => ?_
       refine sL 9 38 a0 0 2 (.string ⟨List.toArray (stT a).1⟩) 39 s4 rfl ?_
       exact eK p
      ·rintro ρ' w' hs s ⟨⟨ac5, ac6, -⟩, s5⟩
       refine kM (kc (kA s 1 38) k0) fun p => ?_
       refine sL 9 38 a0 0 2 (.string ⟨List.toArray (stT a).1⟩) 39 s5 rfl ?_
       exact eK p
     ·exact oV (hC (hS 6 (pt a0 0)) (h0)) (pt a0 1)
     ·refine oL 0 ?_
      ·rintro ρ' w' hs s ⟨ac7, s6⟩
       refine kM (kc (kA s 3 40) k0) fun p => ?_
       refine sL 3 40 a0 1 2 (.int .i64 (stT a).2.1) 41 s6 rfl ?_
       exact eK p
     ·refine oH 0 1 ?_
      ·rintro ρ' w' hs s ⟨ac8, k6⟩
       refine kM (kc (kA s 4 41) k0) fun p => ?_
       refine cF 59 #[(.tmp 41)] #[2] 42 Tryz.call59 (Vs  (stT a).2.1 w' (Qv hL (SP.keeps k6)) a7 s0) ?_
       rintro e ac9 ⟨rfl, k7⟩
       refine ⟨_, rfl, ?_⟩
       have s7 := SP.call k6 k7
       clear k7
       refine ⟨_, Qa p, rfl, ?_⟩
       exact (And.intro (And.intro rfl (trivial)) s7)
     ·exact oV (hC (hS 6 (pt a0 0)) (h0)) (pt a0 2)
     ·refine Owe.light K [0, 1] K (Qb ?_ (Qb ?_ Q1))
      ·rintro ρ' w' hs s ⟨ad0, s8⟩
       refine kM (kc (kA s 6 43) k0) fun p => ?_
       refine sL 3 43 a0 2 2 (.int .i64 (stT a).2.2.1) 44 s8 rfl ?_
       exact eK p
      ·rintro ρ' w' hs s ⟨⟨ad1, -⟩, s9⟩
       refine kM (kc (kA s 6 43) k0) fun p => ?_
       refine sL 3 43 a0 2 2 (.int .i64 (stT a).2.2.1) 44 s9 rfl ?_
       exact eK p
     ·refine oH 1 2 ?_
      ·rintro ρ' w' hs s ⟨⟨t0, -⟩, k8⟩
       refine kM (kc (kA s 7 44) k0) fun p => ?_
       refine cF 59 #[(.tmp 44)] #[2] 45 Tryz.call59 (Vs  (stT a).2.2.1 w' (Qv hL (SP.keeps k8)) a9 s1) ?_
       rintro e ad2 ⟨rfl, k9⟩
       refine ⟨_, rfl, ?_⟩
       have t1 := SP.call k8 k9
       clear k9
       refine ⟨_, Qa p, rfl, ?_⟩
       exact (And.intro (And.intro t0 (And.intro rfl (trivial))) t1)
     ·refine oH 2 3 ?_
      ·rintro ρ' w' hs s ⟨⟨l0, l1, -⟩, t2⟩
       refine kN [(39, (.string ⟨List.toArray (stT a).1⟩)), (42, (.string ⟨List.toArray a7⟩)), (45, (.string ⟨List.toArray a9⟩))] ⟨s 2 39 K, (Vk (h := 5) K).symm.trans l0, (Vk (h := 8) K).symm.trans l1, trivial⟩ fun p => ?_
       refine Vp (e := Qm) (T := 79) (E := 9) (len := 4) (parts := #[(0, (.const (.string ⟨List.toArray ([116, 101, 110, 97, 110, 116] : List UInt8)⟩))), (1, (.tmp 39)), (2, (.tmp 42)), (3, (.tmp 45))]) (cs := #[(.string ⟨List.toArray ([116, 101, 110, 97, 110, 116] : List UInt8)⟩), (.string ⟨List.toArray (stT a).1⟩), (.string ⟨List.toArray a7⟩), (.string ⟨List.toArray a9⟩)]) ([([116, 101, 110, 97, 110, 116] : List UInt8), (stT a).1, a7, a9] : List (List UInt8)) (d := (some 46)) (k := 9) K rfl (fun _ => K) t2 rfl rfl rfl rfl ?_
       intro t3 ad3 t4
       refine ⟨_, Qa p, trivial, ?_⟩
       exact (Exists.intro t3 (And.intro (And.intro l0 (And.intro l1 (And.intro rfl (trivial)))) t4))
     ·refine oH 3 4 ?_
      ·rintro ρ' w' hs s ⟨d1, ⟨t5, t6, l2, -⟩, g8⟩
       refine kN [(37, (.func (.func 56) #[] #[(pt m 0)])), (46, (.slice (some ⟨d1, 0, none⟩) (List.length ([([116, 101, 110, 97, 110, 116] : List UInt8), (stT a).1, a7, a9] : List (List UInt8))) (List.length ([([116, 101, 110, 97, 110, 116] : List UInt8), (stT a).1, a7, a9] : List (List UInt8)))))] ⟨s 0 37 K, (Vk (h := 9) K).symm.trans l2, trivial⟩ fun p => ?_
       refine Z4 (f := 56) (fo := (.tmp 37)) (xs := #[(.tmp 46)]) (tys := #[79]) (first := #[]) (captured := #[(pt m 0)]) (d := (some 47)) (k := 10) K rfl K K Tryz.call56 (Xs (some ⟨d1, 0, none⟩) (List.length ([([116, 101, 110, 97, 110, 116] : List UInt8), (stT a).1, a7, a9] : List (List UInt8))) m (pt m 0) b9 c0 ([([116, 101, 110, 97, 110, 116] : List UInt8), (stT a).1, a7, a9] : List (List UInt8)) b5 w' (Yw g8 [1, 0] rfl rfl) (fun w hm => (Vd (SP.still g8 (l := [1, 0]) (i := 3) rfl rfl rfl hm))) (.inr rfl) d5 s2) ?_
       rintro e t7 ⟨g9, h1, rfl, l3⟩
       refine ⟨_, rfl, ?_⟩
       have t8 : SP [] w0 t7 [Qr a0 33 #[(.string ⟨List.toArray (stT a).1⟩), (.int .i64 (stT a).2.1), (.int .i64 (stT a).2.2.1), (.slice a.2.2.2.1.1 (List.length (stT a).2.2.2.1) a.2.2.2.1.2.1), (.slice a.2.2.2.2.1 (List.length (stT a).2.2.2.2) a.2.2.2.2.2.1)], Q3 9 Qm (some ⟨d1, 0, none⟩) (List.length ([([116, 101, 110, 97, 110, 116] : List UInt8), (stT a).1, a7, a9] : List (List UInt8))) ([([116, 101, 110, 97, 110, 116] : List UInt8), (stT a).1, a7, a9] : List (List UInt8)), Qr m 93 #[(pt m 0), (.slice g9 (List.length d5) h1)], Q3 5 eU8 g9 h1 d5] := Zd g8 [1, 0] [2, 3] rfl rfl l3 rfl
       clear l3
       refine ⟨_, Qa p, rfl, ?_⟩
       exact (Exists.intro d1 (Exists.intro g9 (Exists.intro h1 (And.intro (And.intro t5 (And.intro t6 (And.intro l2 (And.intro rfl (trivial))))) t8))))
     ·rintro ρ' w' hs hf ⟨g7, f3, f4, ⟨ad4, ad5, ad6, ad7, -⟩, h2⟩
      refine V1 [(3, (pt m 0)), (4, (.func (.func 56) #[] #[(pt m 0)])), (6, (pt a0 0)), (31, (.slice A6 (List.length (List.map stT d9)) c7)), (32, (.int .i64 ((List.length (List.map stT d9) : Nat) : Int))), (33, (.int .i64 a1))] ⟨(hs 3 K).trans K, (hs 4 K).trans K, (hs 6 K).trans K, (hs 31 K).trans K, (hs 32 K).trans K, (hs 33 K).trans K, trivial⟩ ?_
      obtain ⟨ad8, t9⟩ : ∃ x, w' = x := ⟨_, rfl⟩
      rw [t9] at h2 ⊢
      refine aQ ?_
      refine aQ ?_
      refine aR ?_
      refine iR 1 1 [(48, (pt a0 3))] ?_
      refine iS 2 ?_
      refine sL 30 48 a0 3 0 (.slice a.2.2.2.1.1 (List.length (stT a).2.2.2.1) a.2.2.2.1.2.1) 49 h2 rfl ?_
      refine iR 2 4 [(50, (.int .i64 ((List.length (stT a).2.2.2.1 : Nat) : Int))), (51, (.int .i64 0))] ?_
      refine iF ?_
      refine Yz K (id := 2) K ?_
      refine G1 K (fun d6 ρ w => ∃ (c6 : (List UInt8)) (c2 : Int) (d7 : Option Addr) (d8 : Nat), V8 ρ [(3, (pt m 0)), (4, (.func (.func 56) #[] #[(pt m 0)])), (6, (pt a0 0)), (31, (.slice A6 (List.length (List.map stT d9)) c7)), (32, (.int .i64 ((List.length (List.map stT d9) : Nat) : Int))), (33, (.int .i64 a1)), (49, (.slice a.2.2.2.1.1 (List.length (stT a).2.2.2.1) a.2.2.2.1.2.1)), (50, (.int .i64 ((List.length (stT a).2.2.2.1 : Nat) : Int))), (51, (.int .i64 c2))] ∧ SP [] w0 w [Q3 5 eU8 d7 d8 c6, Qr m 93 #[(pt m 0), (.slice d7 (List.length c6) d8)], Qr a0 33 #[(.string ⟨List.toArray (stT a).1⟩), (.int .i64 (stT a).2.1), (.int .i64 (stT a).2.2.1), (.slice a.2.2.2.1.1 (List.length (stT a).2.2.2.1) a.2.2.2.1.2.1), (.slice a.2.2.2.2.1 (List.length (stT a).2.2.2.2) a.2.2.2.2.2.1)]] ∧ Zg (Vc (List.map stT d9) c3) a1 (stT a) d6 c6 c2 = some r) (by rintro ρ w ⟨c6, c2, d7, d8, hk, hs, H⟩; cases H) ?_ Yg ?_
      ·rintro d6 ρ ad9 ⟨c6, c2, d7, d8, hk, e4, H⟩
       refine At.known [(3, (pt m 0)), (4, (.func (.func 56) #[] #[(pt m 0)])), (6, (pt a0 0)), (31, (.slice A6 (List.length (List.map stT d9)) c7)), (32, (.int .i64 ((List.length (List.map stT d9) : Nat) : Int))), (33, (.int .i64 a1)), (49, (.slice a.2.2.2.1.1 (List.length (stT a).2.2.2.1) a.2.2.2.1.2.1)), (50, (.int .i64 ((List.length (stT a).2.2.2.1 : Nat) : Int))), (51, (.int .i64 c2))] hk ?_
       replace H := (show Js (Vc (List.map stT d9) c3) (Zg (Vc (List.map stT d9) c3) a1 (stT a) d6) a1 (stT a) c6 c2 = some r from H)
       unfold Js at H
       refine aQ ?_
       refine aR ?_
       refine iR 1 1 [(52, (.bool (decide (c2 < ((List.length (stT a).2.2.2.1 : Nat) : Int)))))] ?_
       refine iF ?_
       refine aQ ?_
       refine Z3 K (o := (.tmp 52)) K (b := (decide (c2 < ((List.length (stT a).2.2.2.1 : Nat) : Int)))) K (fun h3 => ?_) (fun h3 => ?_)
       ·have H := ct H h3
        refine At.skip K ?_
        refine aQ ?_
        refine Yz K (id := 3) K ?_
        refine aQ ?_
        refine aR ?_
        obtain ⟨c4, l4, l5, u0, H⟩ := Vl H
        refine iS 1 ?_
        refine Qn (e := (Qh (Q8 .u32) (Q8 .i64))) (l := (stT a).2.2.2.1) (A := a.2.2.2.1.1) (c := a.2.2.2.1.2.1) (T := 30) (E := 102) (x := (.tmp 49)) (ix := (.tmp 51)) (ki := .i64) (iz := c2) (d := (some 53)) (k := 0) K rfl K K K K (RdT.sp (Xu (dp1 (dp2 (dp2 (dp2 (Gb d0 e3)))))) e4) l4 l5 ?_
        intro u1 u2 u3 ae0 hc12962
        refine iS 2 ?_
        refine Qi.cells (t := 102) (x := (.tmp 53)) (b := u1) (off := (u2 + Int.toNat c2 * (Qh (Q8 .u32) (Q8 .i64)).sz)) (xs := [(.int .u32 c4.1), (.int .i64 c4.2)]) (d := (some 54)) (k := 1) K rfl K K K (Vy (e := (Qh (Q8 .u32) (Q8 .i64))) (Ql (RdT.sp (Xu (dp1 (dp2 (dp2 (dp2 (Gb d0 e3)))))) e4) u3 l4 l5) u0 rfl) ?_
        refine iS 3 ?_
        refine Qi.alloc (t := 102) (z := (.agg #[(.int .u32 0), (.int .i64 0)])) (d := (some 8)) (k := 2) K rfl K e4 ?_
        intro h4 ae1 u4
        refine iS 4 ?_
        refine Qi.store (t := 102) (x := (.tmp 8)) (y := (.tmp 54)) (g := h4) (off := 0) (i := 3) (v := (.agg #[(.int .u32 c4.1), (.int .i64 c4.2)])) (cs' := #[(.int .u32 c4.1), (.int .i64 c4.2)]) (d := none) (k := 3) K rfl K K u4 rfl K ?_
        intro u5 h5
        refine iF ?_
        refine aR ?_
        refine iR 1 1 [(55, (.func (.func 56) #[] #[(pt m 0)]))] ?_
        refine iS 2 ?_
        refine sL 102 8 h4 0 3 (.agg #[(.int .u32 c4.1), (.int .i64 c4.2)]) 56 h5 rfl ?_
        obtain ⟨d2, u6, H⟩ := Qd H
        refine iS 3 ?_
        refine cF 60 #[(.tmp 56)] #[102] 57 Tryz.call60 (Un  c4.1 c4.2 u5 (Qv hL (SP.keeps h5)) d2 u6) ?_
        rintro e ae2 ⟨rfl, l6⟩
        refine ⟨_, rfl, ?_⟩
        have u7 := SP.call h5 l6
        clear l6
        refine iS 4 ?_
        refine Vp (e := Qm) (T := 79) (E := 9) (len := 2) (parts := #[(0, (.const (.string ⟨List.toArray ([110, 101, 116] : List UInt8)⟩))), (1, (.tmp 57))]) (cs := #[(.string ⟨List.toArray ([110, 101, 116] : List UInt8)⟩), (.string ⟨List.toArray d2⟩)]) ([([110, 101, 116] : List UInt8), d2] : List (List UInt8)) (d := (some 58)) (k := 3) K rfl (fun _ => K) u7 rfl rfl rfl rfl ?_
        intro l7 u8 h6
        obtain ⟨f5, u9, H⟩ := Qd H
        refine iS 5 ?_
        refine Z4 (f := 56) (fo := (.tmp 55)) (xs := #[(.tmp 58)]) (tys := #[79]) (first := #[]) (captured := #[(pt m 0)]) (d := (some 59)) (k := 4) K rfl K K Tryz.call56 (Xs (some ⟨l7, 0, none⟩) (List.length ([([110, 101, 116] : List UInt8), d2] : List (List UInt8))) m (pt m 0) d7 d8 ([([110, 101, 116] : List UInt8), d2] : List (List UInt8)) c6 u8 (Yw h6 [1, 0] rfl rfl) (fun w hm => (Vd (SP.still h6 (l := [1, 0]) (i := 4) rfl rfl rfl hm))) (.inr rfl) f5 u9) ?_
        rintro e v0 ⟨h7, h8, rfl, l8⟩
        refine ⟨_, rfl, ?_⟩
        have v1 : SP [] w0 v0 [Qr a0 33 #[(.string ⟨List.toArray (stT a).1⟩), (.int .i64 (stT a).2.1), (.int .i64 (stT a).2.2.1), (.slice a.2.2.2.1.1 (List.length (stT a).2.2.2.1) a.2.2.2.1.2.1), (.slice a.2.2.2.2.1 (List.length (stT a).2.2.2.2) a.2.2.2.2.2.1)], Qr h4 102 #[(.int .u32 c4.1), (.int .i64 c4.2)], Q3 9 Qm (some ⟨l7, 0, none⟩) (List.length ([([110, 101, 116] : List UInt8), d2] : List (List UInt8))) ([([110, 101, 116] : List UInt8), d2] : List (List UInt8)), Qr m 93 #[(pt m 0), (.slice h7 (List.length f5) h8)], Q3 5 eU8 h7 h8 f5] := Zd h6 [1, 0] [2, 3, 4] rfl rfl l8 rfl
        clear l8
        refine iF ?_
        refine aR ?_
        refine iR 2 2 [(60, (.int .i64 (IntKind.wrap .i64 (c2 + 1)))), (51, (.int .i64 (IntKind.wrap .i64 (c2 + 1))))] ?_
        refine iF ?_
        exact ⟨f5, (IntKind.wrap .i64 (c2 + 1)), h7, h8, ⟨K, K, K, K, K, K, K, K, K, trivial⟩, SP.sel v1 [4, 3, 0] rfl rfl, H⟩
       ·have H := cf H h3
        refine At.exit K (id := 2) K ?_
        refine aQ ?_
        refine aR ?_
        refine iR 1 1 [(61, (pt a0 4))] ?_
        refine iS 2 ?_
        refine sL 31 61 a0 4 2 (.slice a.2.2.2.2.1 (List.length (stT a).2.2.2.2) a.2.2.2.2.2.1) 62 e4 rfl ?_
        refine iR 2 4 [(63, (.int .i64 ((List.length (stT a).2.2.2.2 : Nat) : Int))), (64, (.int .i64 0))] ?_
        refine iF ?_
        refine Yz K (id := 4) K ?_
        refine G1 K (fun h9 ρ w => ∃ (b2 : (List UInt8)) (c1 : Int) (b6 : Option Addr) (b7 : Nat), V8 ρ [(3, (pt m 0)), (4, (.func (.func 56) #[] #[(pt m 0)])), (31, (.slice A6 (List.length (List.map stT d9)) c7)), (32, (.int .i64 ((List.length (List.map stT d9) : Nat) : Int))), (33, (.int .i64 a1)), (62, (.slice a.2.2.2.2.1 (List.length (stT a).2.2.2.2) a.2.2.2.2.2.1)), (63, (.int .i64 ((List.length (stT a).2.2.2.2 : Nat) : Int))), (64, (.int .i64 c1))] ∧ SP [] w0 w [Q3 5 eU8 b6 b7 b2, Qr m 93 #[(pt m 0), (.slice b6 (List.length b2) b7)]] ∧ Yl (Vc (List.map stT d9) c3) (Zg (Vc (List.map stT d9) c3) a1 (stT a) d6) a1 (stT a) h9 b2 c1 = some r) (by rintro ρ w ⟨b2, c1, b6, b7, hk, hs, H⟩; cases H) ?_ Yg ?_
        ·rintro h9 ρ ae3 ⟨b2, c1, b6, b7, hk, f6, H⟩
         refine At.known [(3, (pt m 0)), (4, (.func (.func 56) #[] #[(pt m 0)])), (31, (.slice A6 (List.length (List.map stT d9)) c7)), (32, (.int .i64 ((List.length (List.map stT d9) : Nat) : Int))), (33, (.int .i64 a1)), (62, (.slice a.2.2.2.2.1 (List.length (stT a).2.2.2.2) a.2.2.2.2.2.1)), (63, (.int .i64 ((List.length (stT a).2.2.2.2 : Nat) : Int))), (64, (.int .i64 c1))] hk ?_
         replace H := (show Jr (Vc (List.map stT d9) c3) (Zg (Vc (List.map stT d9) c3) a1 (stT a) d6) (Yl (Vc (List.map stT d9) c3) (Zg (Vc (List.map stT d9) c3) a1 (stT a) d6) a1 (stT a) h9) a1 (stT a) b2 c1 = some r from H)
         unfold Jr at H
         refine aQ ?_
         refine aR ?_
         refine iR 1 1 [(65, (.bool (decide (c1 < ((List.length (stT a).2.2.2.2 : Nat) : Int)))))] ?_
         refine iF ?_
         refine aQ ?_
         refine Z3 K (o := (.tmp 65)) K (b := (decide (c1 < ((List.length (stT a).2.2.2.2 : Nat) : Int)))) K (fun i0 => ?_) (fun i0 => ?_)
         ·have H := ct H i0
          refine At.skip K ?_
          refine aQ ?_
          refine Yz K (id := 5) K ?_
          refine aQ ?_
          refine aR ?_
          obtain ⟨q, l9, m0, v2, H⟩ := Vl H
          refine iS 1 ?_
          refine Qn (e := (Qh Qm (Qh Qm (Q8 .i64)))) (l := (stT a).2.2.2.2) (A := a.2.2.2.2.1) (c := a.2.2.2.2.2.1) (T := 31) (E := 37) (x := (.tmp 62)) (ix := (.tmp 64)) (ki := .i64) (iz := c1) (d := (some 66)) (k := 0) K rfl K K K K (RdT.sp (Xu (dp2 (dp2 (dp2 (dp2 (Gb d0 e3)))))) f6) l9 m0 ?_
          intro v3 v4 v5 ae4 hc13578
          refine iS 2 ?_
          refine Qi.cells (t := 37) (x := (.tmp 66)) (b := v3) (off := (v4 + Int.toNat c1 * (Qh Qm (Qh Qm (Q8 .i64))).sz)) (xs := [(.string ⟨List.toArray q.1⟩), (.string ⟨List.toArray q.2.1⟩), (.int .i64 q.2.2)]) (d := (some 67)) (k := 1) K rfl K K K (Vy (e := (Qh Qm (Qh Qm (Q8 .i64)))) (Ql (RdT.sp (Xu (dp2 (dp2 (dp2 (dp2 (Gb d0 e3)))))) f6) v5 l9 m0) v2 rfl) ?_
          refine iS 3 ?_
          refine Qi.alloc (t := 37) (z := (.agg #[(.string ⟨List.toArray ([] : List UInt8)⟩), (.string ⟨List.toArray ([] : List UInt8)⟩), (.int .i64 0)])) (d := (some 10)) (k := 2) K rfl K f6 ?_
          intro a4 ae5 v6
          refine iS 4 ?_
          refine Qi.store (t := 37) (x := (.tmp 10)) (y := (.tmp 67)) (g := a4) (off := 0) (i := 2) (v := (.agg #[(.string ⟨List.toArray q.1⟩), (.string ⟨List.toArray q.2.1⟩), (.int .i64 q.2.2)])) (cs' := #[(.string ⟨List.toArray q.1⟩), (.string ⟨List.toArray q.2.1⟩), (.int .i64 q.2.2)]) (d := none) (k := 3) K rfl K K v6 rfl K ?_
          intro ae6 v7
          refine iF ?_
          obtain ⟨v8, H⟩ := U0 H
          obtain ⟨a8, v9, H⟩ := Qd H
          obtain ⟨b0, w1, H⟩ := Qd H
          obtain ⟨e0, w2, H⟩ := Qd H
          refine aG [GEq (.func (.func 56) #[] #[(pt m 0)]), GEq (pt a4 0), GEq (.string ⟨List.toArray q.1⟩), GEq (pt a4 1), GEq (.string ⟨List.toArray q.2.1⟩), N5, GEq (.string ⟨List.toArray a8⟩), GEq (pt a4 2), GEq (.int .i64 q.2.2), GEq (.string ⟨List.toArray b0⟩), N5, GEq (.tuple #[])] [5, 6, 9, 10, 11] [([], fun vs w => VL vs [] ∧ SP [] w0 w [Q3 5 eU8 b6 b7 b2, Qr m 93 #[(pt m 0), (.slice b6 (List.length b2) b7)], Qr a4 37 #[(.string ⟨List.toArray q.1⟩), (.string ⟨List.toArray q.2.1⟩), (.int .i64 q.2.2)]]), ([5], fun vs w => ∃ (c8 : Nat), ∃ (c9 : Nat), VL vs [(.slice (some ⟨c8, 0, none⟩) (List.length q.2.1) c9)] ∧ SP [] w0 w [Q3 5 eU8 b6 b7 b2, Qr m 93 #[(pt m 0), (.slice b6 (List.length b2) b7)], Qr a4 37 #[(.string ⟨List.toArray q.1⟩), (.string ⟨List.toArray q.2.1⟩), (.int .i64 q.2.2)], rdE eU8 (some ⟨c8, 0, none⟩) c9 q.2.1]), ([5, 6], fun vs w => ∃ (e1 : Nat), ∃ (e2 : Nat), VL vs [(.slice (some ⟨e1, 0, none⟩) (List.length q.2.1) e2), (.string ⟨List.toArray a8⟩)] ∧ SP [] w0 w [Q3 5 eU8 b6 b7 b2, Qr m 93 #[(pt m 0), (.slice b6 (List.length b2) b7)], Qr a4 37 #[(.string ⟨List.toArray q.1⟩), (.string ⟨List.toArray q.2.1⟩), (.int .i64 q.2.2)], rdE eU8 (some ⟨e1, 0, none⟩) e2 q.2.1]), ([5, 6, 9], fun vs w => ∃ (e5 : Nat), ∃ (e6 : Nat), VL vs [(.slice (some ⟨e5, 0, none⟩) (List.length q.2.1) e6), (.string ⟨List.toArray a8⟩), (.string ⟨List.toArray b0⟩)] ∧ SP [] w0 w [Q3 5 eU8 b6 b7 b2, Qr m 93 #[(pt m 0), (.slice b6 (List.length b2) b7)], Qr a4 37 #[(.string ⟨List.toArray q.1⟩), (.string ⟨List.toArray q.2.1⟩), (.int .i64 q.2.2)], rdE eU8 (some ⟨e5, 0, none⟩) e6 q.2.1]), ([5, 6, 9, 10], fun vs w => ∃ (e7 : Nat), ∃ (e8 : Nat), ∃ (d3 : Nat), VL vs [(.slice (some ⟨e7, 0, none⟩) (List.length q.2.1) e8), (.string ⟨List.toArray a8⟩), (.string ⟨List.toArray b0⟩), (.slice (some ⟨d3, 0, none⟩) (List.length ([([116, 111, 107, 101, 110] : List UInt8), q.1, a8, b0] : List (List UInt8))) (List.length ([([116, 111, 107, 101, 110] : List UInt8), q.1, a8, b0] : List (List UInt8))))] ∧ SP [] w0 w [Q3 5 eU8 b6 b7 b2, Qr m 93 #[(pt m 0), (.slice b6 (List.length b2) b7)], Qr a4 37 #[(.string ⟨List.toArray q.1⟩), (.string ⟨List.toArray q.2.1⟩), (.int .i64 q.2.2)], rdE eU8 (some ⟨e7, 0, none⟩) e8 q.2.1, Q3 9 Qm (some ⟨d3, 0, none⟩) (List.length ([([116, 111, 107, 101, 110] : List UInt8), q.1, a8, b0] : List (List UInt8))) ([([116, 111, 107, 101, 110] : List UInt8), q.1, a8, b0] : List (List UInt8))]), ([5, 6, 9, 10, 11], fun vs w => ∃ (i1 : Nat), ∃ (i2 : Nat), ∃ (i3 : Nat), ∃ (f7 : Option Addr), ∃ (f8 : Nat), VL vs [(.slice (some ⟨i1, 0, none⟩) (List.length q.2.1) i2), (.string ⟨List.toArray a8⟩), (.string ⟨List.toArray b0⟩), (.slice (some ⟨i3, 0, none⟩) (List.length ([([116, 111, 107, 101, 110] : List UInt8), q.1, a8, b0] : List (List UInt8))) (List.length ([([116, 111, 107, 101, 110] : List UInt8), q.1, a8, b0] : List (List UInt8)))), (.tuple #[])] ∧ SP [] w0 w [Qr a4 37 #[(.string ⟨List.toArray q.1⟩), (.string ⟨List.toArray q.2.1⟩), (.int .i64 q.2.2)], rdE eU8 (some ⟨i1, 0, none⟩) i2 q.2.1, Q3 9 Qm (some ⟨i3, 0, none⟩) (List.length ([([116, 111, 107, 101, 110] : List UInt8), q.1, a8, b0] : List (List UInt8))) ([([116, 111, 107, 101, 110] : List UInt8), q.1, a8, b0] : List (List UInt8)), Qr m 93 #[(pt m 0), (.slice f7 (List.length e0) f8)], Q3 5 eU8 f7 f8 e0])] 12 5 ⟨trivial, SP.drew v7⟩ ?_ ?_
          iterate 12 refine And.intro ?_ ?_
          exact trivial
          ·exact oV (hC (hS 4 (.func (.func 56) #[] #[(pt m 0)])) (h0)) (.func (.func 56) #[] #[(pt m 0)])
          ·exact oV (hC (hS 10 (pt a4 0)) (h0)) (pt a4 0)
          ·refine Owe.light K [0, 1, 2, 3] K (Qb ?_ (Qb ?_ (Qb ?_ (Qb ?_ Q1))))
           ·rintro ρ' w' hs s ⟨ae7, w3⟩
            refine kM (kc (kA s 1 69) k0) fun p => ?_
            refine sL 9 69 a4 0 2 (.string ⟨List.toArray q.1⟩) 70 w3 rfl ?_
            exact eK p
           ·rintro ρ' w' hs s ⟨c8, c9, ⟨ae8, -⟩, w4⟩
            refine kM (kc (kA s 1 69) k0) fun p => ?_
            refine sL 9 69 a4 0 2 (.string ⟨List.toArray q.1⟩) 70 w4 rfl ?_
            exact eK p
           ·rintro ρ' w' hs s ⟨e1, e2, ⟨ae9, af0, -⟩, w5⟩
            refine kM (kc (kA s 1 69) k0) fun p => ?_
            refine sL 9 69 a4 0 2 (.string ⟨List.toArray q.1⟩) 70 w5 rfl ?_
            exact eK p
           ·rintro ρ' w' hs s ⟨e5, e6, ⟨af1, af2, af3, -⟩, w6⟩
            refine kM (kc (kA s 1 69) k0) fun p => ?_
            refine sL 9 69 a4 0 2 (.string ⟨List.toArray q.1⟩) 70 w6 rfl ?_
            exact eK p
          ·exact oV (hC (hS 10 (pt a4 0)) (h0)) (pt a4 1)
          ·refine oL 0 ?_
           ·rintro ρ' w' hs s ⟨af4, w7⟩
            refine kM (kc (kA s 3 71) k0) fun p => ?_
            refine sL 9 71 a4 1 2 (.string ⟨List.toArray q.2.1⟩) 72 w7 rfl ?_
            exact eK p
          ·refine oH 0 1 ?_
           ·rintro ρ' w' hs s ⟨af5, w8⟩
            refine kM (kc (kA s 4 72) k0) fun p => ?_
            refine Dh (S' := 9) (T := 48) (E := 5) (x := (.tmp 72)) (l := q.2.1) (d := (some 73)) (k := 5) K rfl K K K K (Di v8) w8 ?_
            intro m1 m2 w9 m3 _
            have x0 : SP [] w0 w9 [Q3 5 eU8 b6 b7 b2, Qr m 93 #[(pt m 0), (.slice b6 (List.length b2) b7)], Qr a4 37 #[(.string ⟨List.toArray q.1⟩), (.string ⟨List.toArray q.2.1⟩), (.int .i64 q.2.2)], rdE eU8 (some ⟨m1, 0, none⟩) m2 q.2.1] := m3
            clear m3
            refine ⟨_, Qa p, trivial, ?_⟩
            exact (Exists.intro m1 (Exists.intro m2 (And.intro (And.intro rfl (trivial)) x0)))
          ·refine oH 1 2 ?_
           ·rintro ρ' w' hs s ⟨c8, c9, ⟨m4, -⟩, m5⟩
            refine kN [(73, (.slice (some ⟨c8, 0, none⟩) (List.length q.2.1) c9))] ⟨(Vk (h := 5) K).symm.trans m4, trivial⟩ fun p => ?_
            refine cF 61 #[(.tmp 73)] #[48] 74 Tryz.call61 (Dg (some ⟨c8, 0, none⟩) c9 q.2.1 w' (rdE_rd (SP.get m5 (i := 3) rfl)) a8 v9) ?_
            rintro e af6 ⟨rfl, m6⟩
            refine ⟨_, rfl, ?_⟩
            have x1 := SP.call m5 m6
            clear m6
            refine ⟨_, Qa p, rfl, ?_⟩
            exact (Exists.intro c8 (Exists.intro c9 (And.intro (And.intro m4 (And.intro rfl (trivial))) x1)))
          ·exact oV (hC (hS 10 (pt a4 0)) (h0)) (pt a4 2)
          ·refine Owe.light K [0, 1, 2] K (Qb ?_ (Qb ?_ (Qb ?_ Q1)))
           ·rintro ρ' w' hs s ⟨af7, x2⟩
            refine kM (kc (kA s 7 75) k0) fun p => ?_
            refine sL 2 75 a4 2 2 (.int .i64 q.2.2) 76 x2 rfl ?_
            exact eK p
           ·rintro ρ' w' hs s ⟨c8, c9, ⟨af8, -⟩, x3⟩
            refine kM (kc (kA s 7 75) k0) fun p => ?_
            refine sL 2 75 a4 2 2 (.int .i64 q.2.2) 76 x3 rfl ?_
            exact eK p
           ·rintro ρ' w' hs s ⟨e1, e2, ⟨af9, ag0, -⟩, x4⟩
            refine kM (kc (kA s 7 75) k0) fun p => ?_
            refine sL 2 75 a4 2 2 (.int .i64 q.2.2) 76 x4 rfl ?_
            exact eK p
          ·refine oH 2 3 ?_
           ·rintro ρ' w' hs s ⟨e1, e2, ⟨x5, x6, -⟩, m7⟩
            refine kM (kc (kA s 8 76) k0) fun p => ?_
            refine cF 59 #[(.tmp 76)] #[2] 77 Tryz.call59 (Vs  q.2.2 w' (Qv hL (SP.keeps m7)) b0 w1) ?_
            rintro e ag1 ⟨rfl, m8⟩
            refine ⟨_, rfl, ?_⟩
            have x7 := SP.call m7 m8
            clear m8
            refine ⟨_, Qa p, rfl, ?_⟩
            exact (Exists.intro e1 (Exists.intro e2 (And.intro (And.intro x5 (And.intro x6 (And.intro rfl (trivial)))) x7)))
          ·refine oH 3 4 ?_
           ·rintro ρ' w' hs s ⟨e5, e6, ⟨x8, m9, n0, -⟩, x9⟩
            refine kN [(70, (.string ⟨List.toArray q.1⟩)), (74, (.string ⟨List.toArray a8⟩)), (77, (.string ⟨List.toArray b0⟩))] ⟨s 2 70 K, (Vk (h := 6) K).symm.trans m9, (Vk (h := 9) K).symm.trans n0, trivial⟩ fun p => ?_
            refine Vp (e := Qm) (T := 79) (E := 9) (len := 4) (parts := #[(0, (.const (.string ⟨List.toArray ([116, 111, 107, 101, 110] : List UInt8)⟩))), (1, (.tmp 70)), (2, (.tmp 74)), (3, (.tmp 77))]) (cs := #[(.string ⟨List.toArray ([116, 111, 107, 101, 110] : List UInt8)⟩), (.string ⟨List.toArray q.1⟩), (.string ⟨List.toArray a8⟩), (.string ⟨List.toArray b0⟩)]) ([([116, 111, 107, 101, 110] : List UInt8), q.1, a8, b0] : List (List UInt8)) (d := (some 78)) (k := 10) K rfl (fun _ => K) x9 rfl rfl rfl rfl ?_
            intro y0 ag2 y1
            refine ⟨_, Qa p, trivial, ?_⟩
            exact (Exists.intro e5 (Exists.intro e6 (Exists.intro y0 (And.intro (And.intro x8 (And.intro m9 (And.intro n0 (And.intro rfl (trivial))))) y1))))
          ·refine oH 4 5 ?_
           ·rintro ρ' w' hs s ⟨e7, e8, d3, ⟨y2, y3, y4, n1, -⟩, i4⟩
            refine kN [(68, (.func (.func 56) #[] #[(pt m 0)])), (78, (.slice (some ⟨d3, 0, none⟩) (List.length ([([116, 111, 107, 101, 110] : List UInt8), q.1, a8, b0] : List (List UInt8))) (List.length ([([116, 111, 107, 101, 110] : List UInt8), q.1, a8, b0] : List (List UInt8)))))] ⟨s 0 68 K, (Vk (h := 10) K).symm.trans n1, trivial⟩ fun p => ?_
            refine Z4 (f := 56) (fo := (.tmp 68)) (xs := #[(.tmp 78)]) (tys := #[79]) (first := #[]) (captured := #[(pt m 0)]) (d := (some 79)) (k := 11) K rfl K K Tryz.call56 (Xs (some ⟨d3, 0, none⟩) (List.length ([([116, 111, 107, 101, 110] : List UInt8), q.1, a8, b0] : List (List UInt8))) m (pt m 0) b6 b7 ([([116, 111, 107, 101, 110] : List UInt8), q.1, a8, b0] : List (List UInt8)) b2 w' (Yw i4 [1, 0] rfl rfl) (fun w hm => (Vd (SP.still i4 (l := [1, 0]) (i := 4) rfl rfl rfl hm))) (.inr rfl) e0 w2) ?_
            rintro e y5 ⟨i5, i6, rfl, n2⟩
            refine ⟨_, rfl, ?_⟩
            have y6 : SP [] w0 y5 [Qr a4 37 #[(.string ⟨List.toArray q.1⟩), (.string ⟨List.toArray q.2.1⟩), (.int .i64 q.2.2)], rdE eU8 (some ⟨e7, 0, none⟩) e8 q.2.1, Q3 9 Qm (some ⟨d3, 0, none⟩) (List.length ([([116, 111, 107, 101, 110] : List UInt8), q.1, a8, b0] : List (List UInt8))) ([([116, 111, 107, 101, 110] : List UInt8), q.1, a8, b0] : List (List UInt8)), Qr m 93 #[(pt m 0), (.slice i5 (List.length e0) i6)], Q3 5 eU8 i5 i6 e0] := Zd i4 [1, 0] [2, 3, 4] rfl rfl n2 rfl
            clear n2
            refine ⟨_, Qa p, rfl, ?_⟩
            exact (Exists.intro e7 (Exists.intro e8 (Exists.intro d3 (Exists.intro i5 (Exists.intro i6 (And.intro (And.intro y2 (And.intro y3 (And.intro y4 (And.intro n1 (And.intro rfl (trivial)))))) y6))))))
          ·rintro ρ' w' hs hf ⟨i1, i2, i3, f7, f8, ⟨ag3, ag4, ag5, ag6, ag7, -⟩, n3⟩
           refine V1 [(3, (pt m 0)), (4, (.func (.func 56) #[] #[(pt m 0)])), (31, (.slice A6 (List.length (List.map stT d9)) c7)), (32, (.int .i64 ((List.length (List.map stT d9) : Nat) : Int))), (33, (.int .i64 a1)), (62, (.slice a.2.2.2.2.1 (List.length (stT a).2.2.2.2) a.2.2.2.2.2.1)), (63, (.int .i64 ((List.length (stT a).2.2.2.2 : Nat) : Int))), (64, (.int .i64 c1))] ⟨(hs 3 K).trans K, (hs 4 K).trans K, (hs 31 K).trans K, (hs 32 K).trans K, (hs 33 K).trans K, (hs 62 K).trans K, (hs 63 K).trans K, (hs 64 K).trans K, trivial⟩ ?_
           obtain ⟨ag8, y7⟩ : ∃ x, w' = x := ⟨_, rfl⟩
           rw [y7] at n3 ⊢
           refine aR ?_
           refine iR 2 2 [(80, (.int .i64 (IntKind.wrap .i64 (c1 + 1)))), (64, (.int .i64 (IntKind.wrap .i64 (c1 + 1))))] ?_
           refine iF ?_
           exact ⟨e0, (IntKind.wrap .i64 (c1 + 1)), f7, f8, ⟨K, K, K, K, K, K, K, K, trivial⟩, SP.sel n3 [4, 3] rfl rfl, H⟩
         ·have H := cf H i0
          refine At.exit K (id := 4) K ?_
          refine aR ?_
          refine iR 2 2 [(81, (.int .i64 (IntKind.wrap .i64 (a1 + 1)))), (33, (.int .i64 (IntKind.wrap .i64 (a1 + 1))))] ?_
          refine iF ?_
          exact ⟨b2, (IntKind.wrap .i64 (a1 + 1)), b6, b7, ⟨K, K, K, K, K, trivial⟩, SP.sel f6 [0, 1] rfl rfl, H⟩
        ·exact ⟨c6, 0, d7, d8, ⟨K, K, K, K, K, K, K, K, trivial⟩, SP.sel e4 [0, 1] rfl rfl, H⟩
      ·exact ⟨d5, 0, f3, f4, ⟨K, K, K, K, K, K, K, K, K, trivial⟩, SP.sel h2 [3, 2, 0] rfl rfl, H⟩
    ·have H := cf H g6
     refine At.exit K (id := 0) K ?_
     refine aQ ?_
     refine aR ?_
     refine iS 1 ?_
     refine cF 62 #[(.tmp 3)] #[93] 82 Tryz.call62 (F8 (g := m) (v := (pt m 0)) (A := b9) (c := c0) (l := b5) f2 (i := 1) (j := 0) rfl rfl (by decide) (.inr rfl)) ?_
     rintro e y8 ⟨rfl, n4⟩
     refine ⟨_, rfl, ?_⟩
     have y9 : SP [] w0 y8 [] := n4
     clear n4
     refine iR 1 2 [(2, (.string ⟨List.toArray b5⟩))] ?_
     refine iF ?_
     refine At.ret K ?_
     refine ⟨(.string ⟨List.toArray b5⟩), K, ?_⟩
     obtain rfl := Qg H
     exact ⟨rfl, SP.sel y9 [] rfl rfl⟩
   ·exact ⟨d4, 0, f0, f1, ⟨K, K, K, K, K, trivial⟩, SP.sel g5 [3, 2] rfl rfl, H⟩
end Go.Proofs.YtoflbpmbkmephaaGreatDoor
namespace Go.Proofs.YtoflbpmbkmephaaGreatDoor
open Go.RowKit
open Go.Lib (decDigits)
theorem okC_iff (c : CfgL) : okC c = true ↔ (Jy c.1 = true ∧ Jy c.2.1 = true ∧ Jy c.2.2.1 = true ∧ Jy c.2.2.2.1 = true) ∧ c.2.2.2.2.length ≤ 8 ∧ (∀ t ∈ c.2.2.2.2, Ba t = true) ∧ Dm (c.2.2.2.2.map (·.1)) = true := by
  unfold okC Ck
  simp only [Bool.and_eq_true, decide_eq_true_eq, List.all_eq_true]
theorem tenOk_iff (t : Qc) : Ba t = true ↔ (∀ n ∈ t.2.2.2.1, Fy n = true) ∧ (∀ x ∈ t.2.2.2.2, Fz x = true) ∧ Bn t.1 = true ∧ t.2.2.2.1.length ≤ 4 ∧ t.2.2.2.2.length ≤ 4 ∧ qOk t.2.1 = true ∧ qOk t.2.2.1 = true ∧ Dm (t.2.2.2.2.map (·.1)) = true := by
  unfold Ba
  simp only [Bool.and_eq_true, decide_eq_true_eq, List.all_eq_true]
  constructor
  · rintro ⟨⟨a, b⟩, ⟨c, d, e⟩, ⟨f, g⟩, h⟩
    exact ⟨a, b, c, d, e, f, g, h⟩
  · rintro ⟨a, b, c, d, e, f, g, h⟩
    exact ⟨⟨a, b⟩, ⟨c, d, e⟩, ⟨f, g⟩, h⟩
end Go.Proofs.YtoflbpmbkmephaaGreatDoor
namespace Go.Proofs.YtoflbpmbkmephaaGreatDoor
open Go.RowKit
def Ju (a : (List UInt8)) (c : Int) (d : Int) (e : (List (Int × Int))) (f : (List ((List UInt8) × (List UInt8) × Int))) (b : (List UInt8)) : Option (Bool) :=
  (some ((a == b)))
set_option maxHeartbeats 40000000 in
theorem G7 (A5 : Option Addr) (c6 : Nat) (A9 : Option Addr) (j : Nat) (l : Nat) (c : (List UInt8)) (m : Int) (o : Int) (h : (List (Int × Int))) (i : (List ((List UInt8) × (List UInt8) × Int))) (f : (List UInt8)) (w0 : World) (u : RdT (Qh (Q8 .u32) (Q8 .i64)) w0 A5 c6 h) (w : RdT (Qh Qm (Qh Qm (Q8 .i64))) w0 A9 j i) (hg13 : w0.heap[l]? = some (.cells #[(.string ⟨List.toArray f⟩)] 9 (0, 0))) (r : (Bool)) (H : Ju c m o h i f = some r) :
  Calls Tryz.prog 45 #[(.agg #[(.string ⟨List.toArray c⟩), (.int .i64 m), (.int .i64 o), (.slice A5 (List.length h) c6), (.slice A9 (List.length i) j)]), (pt l 0)] w0 (fun e w' => e = .returned (.bool r) ∧ SP [] w0 w' []) := by
 unfold Ju at H
 refine Qx (n := 8) Tryz.func45 K K K ?_
 have s := Qz [] w0
 refine aQ ?_
 refine aR ?_
 refine iS 1 ?_
 refine Zp (t := 33) (x := (.tmp 0)) (v := (.agg #[(.string ⟨List.toArray c⟩), (.int .i64 m), (.int .i64 o), (.slice A5 (List.length h) c6), (.slice A9 (List.length i) j)])) (d := (some 2)) (k := 0) K rfl K s ?_
 intro q z p
 refine iR 1 2 [(3, (.bool false))] ?_
 refine iF ?_
 refine aQ ?_
 refine aR ?_
 refine iR 1 1 [(4, (pt q 0))] ?_
 refine iS 2 ?_
 refine sL 9 4 q 0 0 (.string ⟨List.toArray c⟩) 5 p rfl ?_
 refine iS 3 ?_
 refine Bx (t := 9) (t' := 9) (x := (.tmp 1)) (g := l) (off := 0) (cs := #[(.string ⟨List.toArray f⟩)]) (v := (.string ⟨List.toArray f⟩)) (d := (some 6)) (k := 2) K rfl K (Rt hg13 (SP.keeps p)) K ?_
 refine iS 4 ?_
 refine Xd (op := .eql) (T := 9) (T' := 9) (x := (.tmp 5)) (y := (.tmp 6)) (a := c) (b := f) (r := (.bool (c == f))) (d := (some 7)) (k := 3) K rfl K K rfl ?_
 refine iR 1 5 [(3, (.bool (c == f)))] ?_
 refine iF ?_
 refine At.ret K ?_
 refine ⟨(.bool (c == f)), K, ?_⟩
 obtain rfl := Qg H
 exact ⟨rfl, SP.sel p [] rfl rfl⟩
def N1 (e : Int) (f : Int) (g : Int) (h : Int) (b : (List Qc)) (d : (List UInt8)) : Option ((List UInt8) × Int × Int × (List (Int × Int)) × (List ((List UInt8) × (List UInt8) × Int)) × Bool) :=
  ((Q9 b (fun y0 y1 y2 y3 y4 => Ju y0 y1 y2 y3 y4 d)).bind fun c => (cond (decide (c < 0)) (some (([] : List UInt8), 0, 0, ([] : List (Int × Int)), ([] : List ((List UInt8) × (List UInt8) × Int)), false)) ((idx b c).bind fun a => (some (a.1, a.2.1, a.2.2.1, a.2.2.2.1, a.2.2.2.2, true)))))
set_option maxHeartbeats 40000000 in
theorem R7 {R : World → Prop} (A6 : Option Addr) (c7 : Nat) (a1 : Int) (a2 : Int) (a3 : Int) (a4 : Int) (d9 : (List Qe)) (j : (List UInt8)) (w0 : World) (hR : ∀ w, Below w0.heap.size w0 w → R w) (m : ∀ w, R w → (dDS Vr B3).ok w (A6, c7, d9)) (r : ((List UInt8) × Int × Int × (List (Int × Int)) × (List ((List UInt8) × (List UInt8) × Int)) × Bool)) (H : N1 a1 a2 a3 a4 (List.map stT d9) j = some r) :
  Calls Tryz.prog 18 #[(.agg #[(.int .i64 a1), (.int .i64 a2), (.int .i64 a3), (.int .i64 a4), (.slice A6 (List.length (List.map stT d9)) c7)]), (.string ⟨List.toArray j⟩)] w0 (fun e w' => ∃ (a8 : Option Addr) (a9 : Nat) (b0 : Option Addr) (b1 : Nat), e = .returned (.tuple #[(.agg #[(.string ⟨List.toArray r.1⟩), (.int .i64 r.2.1), (.int .i64 r.2.2.1), (.slice a8 (List.length r.2.2.2.1) a9), (.slice b0 (List.length r.2.2.2.2.1) b1)]), (.bool r.2.2.2.2.2)]) ∧ (∀ w, R w → RdT (Qh (Q8 .u32) (Q8 .i64)) w a8 a9 r.2.2.2.1) ∧ (∀ w, R w → RdT (Qh Qm (Qh Qm (Q8 .i64))) w b0 b1 r.2.2.2.2.1) ∧ SP [] w0 w' []) := by
 unfold N1 at H
 refine Qx (n := 19) Tryz.func18 K K K ?_
 have b8 := Qz [] w0
 refine aQ ?_
 refine aR ?_
 refine iS 1 ?_
 refine Zp (t := 24) (x := (.tmp 0)) (v := (.agg #[(.int .i64 a1), (.int .i64 a2), (.int .i64 a3), (.int .i64 a4), (.slice A6 (List.length (List.map stT d9)) c7)])) (d := (some 2)) (k := 0) K rfl K b8 ?_
 intro q c5 b9
 refine iS 2 ?_
 refine Zp (t := 9) (x := (.tmp 1)) (v := (.string ⟨List.toArray j⟩)) (d := (some 3)) (k := 1) K rfl K b9 ?_
 intro s c6 c0
 refine iS 3 ?_
 refine Qi.alloc (t := 33) (z := (.agg #[(.string ⟨List.toArray ([] : List UInt8)⟩), (.int .i64 0), (.int .i64 0), (.slice none (List.length ([] : List (Int × Int))) 0), (.slice none (List.length ([] : List ((List UInt8) × (List UInt8) × Int))) 0)])) (d := (some 4)) (k := 2) K rfl K c0 ?_
 intro u a5 a0
 refine iR 1 4 [(5, (.bool false))] ?_
 refine iF ?_
 refine aQ ?_
 refine aR ?_
 refine iR 1 1 [(7, (pt q 4))] ?_
 refine iS 2 ?_
 refine sL 22 7 q 4 0 (.slice A6 (List.length (List.map stT d9)) c7) 8 a0 rfl ?_
 refine iR 1 3 [(9, (.func (.func 45) #[] #[(pt s 0)]))] ?_
 obtain ⟨h, c1, H⟩ := Qd H
 refine iS 4 ?_
 refine cF 44 #[(.tmp 8), (.tmp 9)] #[22, 82] 10 Tryz.call44 (Za A6 c7 45 #[(pt s 0)] d9 (fun y0 y1 y2 y3 y4 => Ju y0 y1 y2 y3 y4 j) a5 (m a5 (hR _ (SP.keeps a0))) Tryz.call45 (fun y0 y1 y2 y3 y4 z w Ay3 cy3 Ay4 cy4 hw hy3 hy4 hz => G7 Ay3 cy3 Ay4 cy4 s y0 y1 y2 y3 y4 j w hy3 hy4 (Rt (show a5.heap[s]? = some (.cells #[(.string ⟨List.toArray j⟩)] 9 (0, 0)) from SP.get a0 (i := 1) rfl) hw) z hz) h c1) ?_
 rintro e b2 ⟨rfl, b3⟩
 refine ⟨_, rfl, ?_⟩
 have p := SP.call a0 b3
 clear b3
 refine iR 1 5 [(6, (.int .i64 h))] ?_
 refine iF ?_
 refine aQ ?_
 refine aQ ?_
 refine aR ?_
 refine iR 2 2 [(11, (.int .i64 h)), (12, (.bool (decide (h < 0))))] ?_
 refine iF ?_
 refine Z3 K (o := (.tmp 12)) K (b := (decide (h < 0))) K (fun a6 => ?_) (fun a6 => ?_)
 ·have H := ct H a6
  refine aQ ?_
  refine aR ?_
  refine iR 1 1 [(13, (.agg #[(.string ⟨List.toArray ([] : List UInt8)⟩), (.int .i64 0), (.int .i64 0), (.slice none (List.length ([] : List (Int × Int))) 0), (.slice none (List.length ([] : List ((List UInt8) × (List UInt8) × Int))) 0)]))] ?_
  refine iS 2 ?_
  refine Qi.store (t := 33) (x := (.tmp 4)) (y := (.tmp 13)) (g := u) (off := 0) (i := 2) (v := (.agg #[(.string ⟨List.toArray ([] : List UInt8)⟩), (.int .i64 0), (.int .i64 0), (.slice none (List.length ([] : List (Int × Int))) 0), (.slice none (List.length ([] : List ((List UInt8) × (List UInt8) × Int))) 0)])) (cs' := #[(.string ⟨List.toArray ([] : List UInt8)⟩), (.int .i64 0), (.int .i64 0), (.slice none (List.length ([] : List (Int × Int))) 0), (.slice none (List.length ([] : List ((List UInt8) × (List UInt8) × Int))) 0)]) (d := none) (k := 1) K rfl K K p rfl K ?_
  intro c8 b4
  refine iR 1 3 [(5, (.bool false))] ?_
  refine iF ?_
  refine At.ret K ?_
  refine ⟨(.tuple #[(.agg #[(.string ⟨List.toArray ([] : List UInt8)⟩), (.int .i64 0), (.int .i64 0), (.slice none (List.length ([] : List (Int × Int))) 0), (.slice none (List.length ([] : List ((List UInt8) × (List UInt8) × Int))) 0)]), (.bool false)]), Fv K (Da (a := 4) (t := 33) (g := u) (off := 0) K (SP.get b4 (i := 2) rfl) K) (Bz (t := 5) K), ?_⟩
  obtain rfl := Qg H
  exact ⟨none, 0, none, 0, rfl, (fun w _ => RdT.nil (Qh (Q8 .u32) (Q8 .i64)) w), (fun w _ => RdT.nil (Qh Qm (Qh Qm (Q8 .i64))) w), SP.sel b4 [] rfl rfl⟩
 ·have H := cf H a6
  refine At.skip K ?_
  refine aQ ?_
  refine aR ?_
  refine iR 1 1 [(14, (pt q 4))] ?_
  refine iS 2 ?_
  refine sL 22 14 q 4 0 (.slice A6 (List.length (List.map stT d9)) c7) 15 p rfl ?_
  refine iR 1 3 [(16, (.int .i64 h))] ?_
  obtain ⟨f, b5, b6, a7, H⟩ := Jm H
  refine iS 4 ?_
  refine Xf stT (e := Vr) (l := d9) (A := A6) (c := c7) (T := 22) (E := 33) (x := (.tmp 15)) (ix := (.tmp 16)) (ki := .i64) (iz := h) (d := (some 17)) (k := 3) K rfl K K K K ((fun w hm => (Xu (m w hm))) b2 (hR _ (SP.keeps p))) b5 b6 ?_
  intro c2 c3 c4 c9 hc46
  refine iS 5 ?_
  refine Qi.cells (t := 33) (x := (.tmp 17)) (b := c2) (off := (c3 + Int.toNat h * Vr.sz)) (xs := [(.string ⟨List.toArray (stT f).1⟩), (.int .i64 (stT f).2.1), (.int .i64 (stT f).2.2.1), (.slice f.2.2.2.1.1 (List.length (stT f).2.2.2.1) f.2.2.2.1.2.1), (.slice f.2.2.2.2.1 (List.length (stT f).2.2.2.2) f.2.2.2.2.2.1)]) (d := (some 18)) (k := 4) K rfl K K K (Vy (e := Vr) (Ql ((fun w hm => (Xu (m w hm))) b2 (hR _ (SP.keeps p))) c4 b5 b6) a7 rfl) ?_
  refine iS 6 ?_
  refine Qi.store (t := 33) (x := (.tmp 4)) (y := (.tmp 18)) (g := u) (off := 0) (i := 2) (v := (.agg #[(.string ⟨List.toArray (stT f).1⟩), (.int .i64 (stT f).2.1), (.int .i64 (stT f).2.2.1), (.slice f.2.2.2.1.1 (List.length (stT f).2.2.2.1) f.2.2.2.1.2.1), (.slice f.2.2.2.2.1 (List.length (stT f).2.2.2.2) f.2.2.2.2.2.1)])) (cs' := #[(.string ⟨List.toArray (stT f).1⟩), (.int .i64 (stT f).2.1), (.int .i64 (stT f).2.2.1), (.slice f.2.2.2.1.1 (List.length (stT f).2.2.2.1) f.2.2.2.1.2.1), (.slice f.2.2.2.2.1 (List.length (stT f).2.2.2.2) f.2.2.2.2.2.1)]) (d := none) (k := 5) K rfl K K p rfl K ?_
  intro d0 b7
  refine iR 1 7 [(5, (.bool true))] ?_
  refine iF ?_
  refine At.ret K ?_
  refine ⟨(.tuple #[(.agg #[(.string ⟨List.toArray (stT f).1⟩), (.int .i64 (stT f).2.1), (.int .i64 (stT f).2.2.1), (.slice f.2.2.2.1.1 (List.length (stT f).2.2.2.1) f.2.2.2.1.2.1), (.slice f.2.2.2.2.1 (List.length (stT f).2.2.2.2) f.2.2.2.2.2.1)]), (.bool true)]), Fv K (Da (a := 4) (t := 33) (g := u) (off := 0) K (SP.get b7 (i := 2) rfl) K) (Bz (t := 5) K), ?_⟩
  obtain rfl := Qg H
  exact ⟨f.2.2.2.1.1, f.2.2.2.1.2.1, f.2.2.2.2.1, f.2.2.2.2.2.1, rfl, (fun w hm => (Xu ((fun w hm => (dp1 (dp2 (dp2 (dp2 (Gb (m w hm) a7)))))) w hm))), (fun w hm => (Xu ((fun w hm => (dp2 (dp2 (dp2 (dp2 (Gb (m w hm) a7)))))) w hm))), SP.sel b7 [] rfl rfl⟩
def Jb (a : (List UInt8)) (b : (List UInt8)) (c : Int) (c6 : (List UInt8)) : Option (Bool) :=
  (some ((a == c6)))
set_option maxHeartbeats 40000000 in
theorem Gt (g4 : Nat) (c : (List UInt8)) (f : (List UInt8)) (h : Int) (c6 : (List UInt8)) (w0 : World) (hg5 : w0.heap[g4]? = some (.cells #[(.string ⟨List.toArray c6⟩)] 9 (0, 0))) (r : (Bool)) (H : Jb c f h c6 = some r) :
  Calls Tryz.prog 47 #[(.agg #[(.string ⟨List.toArray c⟩), (.string ⟨List.toArray f⟩), (.int .i64 h)]), (pt g4 0)] w0 (fun e w' => e = .returned (.bool r) ∧ SP [] w0 w' []) := by
 unfold Jb at H
 refine Qx (n := 8) Tryz.func47 K K K ?_
 have j := Qz [] w0
 refine aQ ?_
 refine aR ?_
 refine iS 1 ?_
 refine Zp (t := 37) (x := (.tmp 0)) (v := (.agg #[(.string ⟨List.toArray c⟩), (.string ⟨List.toArray f⟩), (.int .i64 h)])) (d := (some 2)) (k := 0) K rfl K j ?_
 intro g7 w8 i
 refine iR 1 2 [(3, (.bool false))] ?_
 refine iF ?_
 refine aQ ?_
 refine aR ?_
 refine iR 1 1 [(4, (pt g7 0))] ?_
 refine iS 2 ?_
 refine sL 9 4 g7 0 0 (.string ⟨List.toArray c⟩) 5 i rfl ?_
 refine iS 3 ?_
 refine Bx (t := 9) (t' := 9) (x := (.tmp 1)) (g := g4) (off := 0) (cs := #[(.string ⟨List.toArray c6⟩)]) (v := (.string ⟨List.toArray c6⟩)) (d := (some 6)) (k := 2) K rfl K (Rt hg5 (SP.keeps i)) K ?_
 refine iS 4 ?_
 refine Xd (op := .eql) (T := 9) (T' := 9) (x := (.tmp 5)) (y := (.tmp 6)) (a := c) (b := c6) (r := (.bool (c == c6))) (d := (some 7)) (k := 3) K rfl K K rfl ?_
 refine iR 1 5 [(3, (.bool (c == c6)))] ?_
 refine iF ?_
 refine At.ret K ?_
 refine ⟨(.bool (c == c6)), K, ?_⟩
 obtain rfl := Qg H
 exact ⟨rfl, SP.sel i [] rfl rfl⟩
def Na (e : (List UInt8)) (f : Int) (g : Int) (h : (List (Int × Int))) (b : (List ((List UInt8) × (List UInt8) × Int))) (d : (List UInt8)) : Option ((List UInt8) × (List UInt8) × Int × Bool) :=
  ((Vb b (fun y0 y1 y2 => Jb y0 y1 y2 d)).bind fun c => (cond (decide (c < 0)) (some (([] : List UInt8), ([] : List UInt8), 0, false)) ((idx b c).bind fun a => (some (a.1, a.2.1, a.2.2, true)))))
set_option maxHeartbeats 40000000 in
theorem Ro (A5 : Option Addr) (c6 : Nat) (A9 : Option Addr) (m : Nat) (a3 : (List UInt8)) (a4 : Int) (a5 : Int) (s : (List (Int × Int))) (h : (List ((List UInt8) × (List UInt8) × Int))) (p : (List UInt8)) (w0 : World) (c2 : RdT (Qh (Q8 .u32) (Q8 .i64)) w0 A5 c6 s) (a6 : RdT (Qh Qm (Qh Qm (Q8 .i64))) w0 A9 m h) (r : ((List UInt8) × (List UInt8) × Int × Bool)) (H : Na a3 a4 a5 s h p = some r) :
  Calls Tryz.prog 20 #[(.agg #[(.string ⟨List.toArray a3⟩), (.int .i64 a4), (.int .i64 a5), (.slice A5 (List.length s) c6), (.slice A9 (List.length h) m)]), (.string ⟨List.toArray p⟩)] w0 (fun e w' => e = .returned (.tuple #[(.agg #[(.string ⟨List.toArray r.1⟩), (.string ⟨List.toArray r.2.1⟩), (.int .i64 r.2.2.1)]), (.bool r.2.2.2)]) ∧ SP [] w0 w' []) := by
 unfold Na at H
 refine Qx (n := 19) Tryz.func20 K K K ?_
 have b4 := Qz [] w0
 refine aQ ?_
 refine aR ?_
 refine iS 1 ?_
 refine Zp (t := 33) (x := (.tmp 0)) (v := (.agg #[(.string ⟨List.toArray a3⟩), (.int .i64 a4), (.int .i64 a5), (.slice A5 (List.length s) c6), (.slice A9 (List.length h) m)])) (d := (some 2)) (k := 0) K rfl K b4 ?_
 intro u c3 b5
 refine iS 2 ?_
 refine Zp (t := 9) (x := (.tmp 1)) (v := (.string ⟨List.toArray p⟩)) (d := (some 3)) (k := 1) K rfl K b5 ?_
 intro a0 c4 b6
 refine iS 3 ?_
 refine Qi.alloc (t := 37) (z := (.agg #[(.string ⟨List.toArray ([] : List UInt8)⟩), (.string ⟨List.toArray ([] : List UInt8)⟩), (.int .i64 0)])) (d := (some 4)) (k := 2) K rfl K b6 ?_
 intro a1 a8 a2
 refine iR 1 4 [(5, (.bool false))] ?_
 refine iF ?_
 refine aQ ?_
 refine aR ?_
 refine iR 1 1 [(7, (pt u 4))] ?_
 refine iS 2 ?_
 refine sL 31 7 u 4 0 (.slice A9 (List.length h) m) 8 a2 rfl ?_
 refine iR 1 3 [(9, (.func (.func 47) #[] #[(pt a0 0)]))] ?_
 obtain ⟨j, b7, H⟩ := Qd H
 refine iS 4 ?_
 refine cF 46 #[(.tmp 8), (.tmp 9)] #[31, 84] 10 Tryz.call46 (Zf A9 m 47 #[(pt a0 0)] h (fun y0 y1 y2 => Jb y0 y1 y2 p) a8 (RdT.sp a6 a2) Tryz.call47 (fun y0 y1 y2 z w  hw  hz => Gt a0 y0 y1 y2 p w (Rt (show a8.heap[a0]? = some (.cells #[(.string ⟨List.toArray p⟩)] 9 (0, 0)) from SP.get a2 (i := 1) rfl) hw) z hz) j b7) ?_
 rintro e c5 ⟨rfl, a9⟩
 refine ⟨_, rfl, ?_⟩
 have q := SP.call a2 a9
 clear a9
 refine iR 1 5 [(6, (.int .i64 j))] ?_
 refine iF ?_
 refine aQ ?_
 refine aQ ?_
 refine aR ?_
 refine iR 2 2 [(11, (.int .i64 j)), (12, (.bool (decide (j < 0))))] ?_
 refine iF ?_
 refine Z3 K (o := (.tmp 12)) K (b := (decide (j < 0))) K (fun a7 => ?_) (fun a7 => ?_)
 ·have H := ct H a7
  refine aQ ?_
  refine aR ?_
  refine iR 1 1 [(13, (.agg #[(.string ⟨List.toArray ([] : List UInt8)⟩), (.string ⟨List.toArray ([] : List UInt8)⟩), (.int .i64 0)]))] ?_
  refine iS 2 ?_
  refine Qi.store (t := 37) (x := (.tmp 4)) (y := (.tmp 13)) (g := a1) (off := 0) (i := 2) (v := (.agg #[(.string ⟨List.toArray ([] : List UInt8)⟩), (.string ⟨List.toArray ([] : List UInt8)⟩), (.int .i64 0)])) (cs' := #[(.string ⟨List.toArray ([] : List UInt8)⟩), (.string ⟨List.toArray ([] : List UInt8)⟩), (.int .i64 0)]) (d := none) (k := 1) K rfl K K q rfl K ?_
  intro w32 b0
  refine iR 1 3 [(5, (.bool false))] ?_
  refine iF ?_
  refine At.ret K ?_
  refine ⟨(.tuple #[(.agg #[(.string ⟨List.toArray ([] : List UInt8)⟩), (.string ⟨List.toArray ([] : List UInt8)⟩), (.int .i64 0)]), (.bool false)]), Fv K (Da (a := 4) (t := 37) (g := a1) (off := 0) K (SP.get b0 (i := 2) rfl) K) (Bz (t := 5) K), ?_⟩
  obtain rfl := Qg H
  exact ⟨rfl, SP.sel b0 [] rfl rfl⟩
 ·have H := cf H a7
  refine At.skip K ?_
  refine aQ ?_
  refine aR ?_
  refine iR 1 1 [(14, (pt u 4))] ?_
  refine iS 2 ?_
  refine sL 31 14 u 4 0 (.slice A9 (List.length h) m) 15 q rfl ?_
  refine iR 1 3 [(16, (.int .i64 j))] ?_
  obtain ⟨f, b1, b2, b8, H⟩ := Vl H
  refine iS 4 ?_
  refine Qn (e := (Qh Qm (Qh Qm (Q8 .i64)))) (l := h) (A := A9) (c := m) (T := 31) (E := 37) (x := (.tmp 15)) (ix := (.tmp 16)) (ki := .i64) (iz := j) (d := (some 17)) (k := 3) K rfl K K K K (RdT.sp a6 q) b1 b2 ?_
  intro b9 c0 c1 c7 hc41
  refine iS 5 ?_
  refine Qi.cells (t := 37) (x := (.tmp 17)) (b := b9) (off := (c0 + Int.toNat j * (Qh Qm (Qh Qm (Q8 .i64))).sz)) (xs := [(.string ⟨List.toArray f.1⟩), (.string ⟨List.toArray f.2.1⟩), (.int .i64 f.2.2)]) (d := (some 18)) (k := 4) K rfl K K K (Vy (e := (Qh Qm (Qh Qm (Q8 .i64)))) (Ql (RdT.sp a6 q) c1 b1 b2) b8 rfl) ?_
  refine iS 6 ?_
  refine Qi.store (t := 37) (x := (.tmp 4)) (y := (.tmp 18)) (g := a1) (off := 0) (i := 2) (v := (.agg #[(.string ⟨List.toArray f.1⟩), (.string ⟨List.toArray f.2.1⟩), (.int .i64 f.2.2)])) (cs' := #[(.string ⟨List.toArray f.1⟩), (.string ⟨List.toArray f.2.1⟩), (.int .i64 f.2.2)]) (d := none) (k := 5) K rfl K K q rfl K ?_
  intro c8 b3
  refine iR 1 7 [(5, (.bool true))] ?_
  refine iF ?_
  refine At.ret K ?_
  refine ⟨(.tuple #[(.agg #[(.string ⟨List.toArray f.1⟩), (.string ⟨List.toArray f.2.1⟩), (.int .i64 f.2.2)]), (.bool true)]), Fv K (Da (a := 4) (t := 37) (g := a1) (off := 0) K (SP.get b3 (i := 2) rfl) K) (Bz (t := 5) K), ?_⟩
  obtain rfl := Qg H
  exact ⟨rfl, SP.sel b3 [] rfl rfl⟩
end Go.Proofs.YtoflbpmbkmephaaGreatDoor
namespace Go.Proofs.YtoflbpmbkmephaaGreatDoor
theorem Fl : ∀ l : Str, Op.bytesLess l l = false
  | [] => rfl
  | a :: l => by
    show ((decide (a < a)) || (a == a && Op.bytesLess l l)) = false
    rw [Fl l, Bool.and_false, Bool.or_false]
    simp
theorem less_tr : ∀ a b c : Str, Op.bytesLess a b = true → Op.bytesLess b c = true → Op.bytesLess a c = true
  | a, [], c, h, _ => by rw [Fe] at h; cases h
  | a, b, [], _, h => by rw [Fe] at h; cases h
  | [], x :: b, y :: c, _, _ => rfl
  | x :: a, y :: b, z :: c, h1, h2 => by
    have e1 : (decide (x < y) || (x == y && Op.bytesLess a b)) = true := h1
    have e2 : (decide (y < z) || (y == z && Op.bytesLess b c)) = true := h2
    show (decide (x < z) || (x == z && Op.bytesLess a c)) = true
    simp only [Bool.or_eq_true, decide_eq_true_eq, Bool.and_eq_true, beq_iff_eq] at e1 e2 ⊢
    rcases e1 with e1 | ⟨rfl, e1⟩
    · rcases e2 with e2 | ⟨rfl, e2⟩
      · exact .inl (UInt8.lt_trans e1 e2)
      · exact .inl e1
    · rcases e2 with e2 | ⟨rfl, e2⟩
      · exact .inl e2
      · exact .inr ⟨rfl, less_tr a b c e1 e2⟩
theorem Fm : ∀ (l : List Str) (x : Str), Dm (x :: l) = true → ∀ y ∈ l, Op.bytesLess x y = true
  | [], x, _, y, hy => by cases hy
  | b :: r, x, h, y, hy => by
    have h' : (Op.bytesLess x b && Dm (b :: r)) = true := h
    rw [Bool.and_eq_true] at h'
    rcases List.mem_cons.1 hy with rfl | hy
    · exact h'.1
    · exact less_tr _ _ _ h'.1 (Fm r b h'.2 y hy)
theorem ris_tail {x : Str} {l : List Str} (h : Dm (x :: l) = true) : Dm l = true := by
  cases l with
  | nil => rfl
  | cons b r =>
    have h' : (Op.bytesLess x b && Dm (b :: r)) = true := h
    rw [Bool.and_eq_true] at h'
    exact h'.2
theorem Dq : ∀ (l : List Str) (x : Str), Dm (l ++ [x]) = true → ∀ y ∈ l, Op.bytesLess y x = true
  | [], x, _, y, hy => by cases hy
  | a :: r, x, h, y, hy => by
    rcases List.mem_cons.1 hy with rfl | hy
    · exact Fm (r ++ [x]) _ h x (by simp)
    · exact Dq r x (ris_tail h) y hy
end Go.Proofs.YtoflbpmbkmephaaGreatDoor
namespace Go.Proofs.YtoflbpmbkmephaaGreatDoor
open Go.RowKit
def Qs (a : Bool) : Option (Bool) :=
  (some (a))
def Ym  : Option (Bool) :=
  ((Z1 ([116, 105, 109, 101, 115, 32, 57, 32, 56, 32, 55, 32, 54, 10, 116, 101, 110, 97, 110, 116, 32, 97, 32, 50, 32, 51, 10, 110, 101, 116, 32, 49, 48, 46, 48, 46, 48, 46, 48, 47, 56, 10, 116, 111, 107, 101, 110, 32, 107, 32, 48, 48, 102, 102, 32, 53, 10, 116, 101, 110, 97, 110, 116, 32, 98, 32, 48, 32, 48, 10] : List UInt8)).bind fun z1 => ((some z1.2.2.2.2.1).bind fun l9 => ((Z1 ([116, 105, 109, 101, 115, 32, 57, 32, 56, 32, 55, 32, 54, 10, 110, 101, 116, 32, 49, 48, 46, 48, 46, 48, 46, 48, 47, 56, 10] : List UInt8)).bind fun b => ((some b.2.2.2.2.1).bind fun h => ((Z1 ([116, 105, 109, 101, 115, 32, 57, 32, 56, 32, 55, 32, 54, 10, 116, 101, 110, 97, 110, 116, 32, 98, 32, 49, 32, 49, 10, 116, 101, 110, 97, 110, 116, 32, 97, 32, 49, 32, 49, 10] : List UInt8)).bind fun c => ((some c.2.2.2.2.1).bind fun i => ((N1 z1.1 z1.2.1 z1.2.2.1 z1.2.2.2.1 l9 ([97] : List UInt8)).bind fun a => ((Na a.1 a.2.1 a.2.2.1 a.2.2.2.1 a.2.2.2.2.1 ([107] : List UInt8)).bind fun d => (cond (z1.2.2.2.2.2.1 == 0) ((U9 z1.1 z1.2.1 z1.2.2.1 z1.2.2.2.1 l9).bind fun e => (cond (e == ([116, 105, 109, 101, 115, 32, 57, 32, 56, 32, 55, 32, 54, 10, 116, 101, 110, 97, 110, 116, 32, 97, 32, 50, 32, 51, 10, 110, 101, 116, 32, 49, 48, 46, 48, 46, 48, 46, 48, 47, 56, 10, 116, 111, 107, 101, 110, 32, 107, 32, 48, 48, 102, 102, 32, 53, 10, 116, 101, 110, 97, 110, 116, 32, 98, 32, 48, 32, 48, 10] : List UInt8)) (cond (((List.length l9 : Nat) : Int) == 2) (cond (z1.2.2.2.1 == 6) (cond (b.2.2.2.2.2.1 == 91) (cond (b.2.2.2.2.2.2 == 1) (cond (c.2.2.2.2.2.1 == 91) (cond (c.2.2.2.2.2.2 == 2) (cond a.2.2.2.2.2 (cond d.2.2.2 (cond (d.2.1 == ([0, 255] : List UInt8)) (cond (d.2.2.1 == 5) ((Q4 z1.1 z1.2.1 z1.2.2.1 z1.2.2.2.1 l9).bind fun f => (cond f ((Q4 0 0 0 0 ([] : List Qc)).bind fun g => (Qs (!g))) (Qs false))) (Qs false)) (Qs false)) (Qs false)) (Qs false)) (Qs false)) (Qs false)) (Qs false)) (Qs false)) (Qs false)) (Qs false)) (Qs false))) (Qs false))))))))))
set_option maxHeartbeats 40000000 in
theorem N2   (w0 : World) (hL : Ub w0)  (r : (Bool)) (H : Ym  = some r) :
  Calls Tryz.prog 14 #[] w0 (fun e w' => e = .returned (.bool r) ∧ SP [] w0 w' []) := by
 unfold Ym at H
 refine Qx (n := 101) Tryz.func14 K K K ?_
 have d0 := Qz [] w0
 refine aQ ?_
 refine aR ?_
 refine iR 1 1 [(0, (.bool false))] ?_
 refine iF ?_
 refine aQ ?_
 refine aR ?_
 refine iR 1 1 [(1, (.string ⟨List.toArray ([116, 105, 109, 101, 115, 32, 57, 32, 56, 32, 55, 32, 54, 10, 116, 101, 110, 97, 110, 116, 32, 97, 32, 50, 32, 51, 10, 110, 101, 116, 32, 49, 48, 46, 48, 46, 48, 46, 48, 47, 56, 10, 116, 111, 107, 101, 110, 32, 107, 32, 48, 48, 102, 102, 32, 53, 10, 116, 101, 110, 97, 110, 116, 32, 98, 32, 48, 32, 48, 10] : List UInt8)⟩))] ?_
 refine iF ?_
 refine aQ ?_
 refine aR ?_
 refine iR 1 1 [(16, (.string ⟨List.toArray ([116, 105, 109, 101, 115, 32, 57, 32, 56, 32, 55, 32, 54, 10, 116, 101, 110, 97, 110, 116, 32, 97, 32, 50, 32, 51, 10, 110, 101, 116, 32, 49, 48, 46, 48, 46, 48, 46, 48, 47, 56, 10, 116, 111, 107, 101, 110, 32, 107, 32, 48, 48, 102, 102, 32, 53, 10, 116, 101, 110, 97, 110, 116, 32, 98, 32, 48, 32, 48, 10] : List UInt8)⟩))] ?_
 obtain ⟨z1, e4, H⟩ := Qd H
 refine iS 2 ?_
 refine cF 16 #[(.tmp 16)] #[9] 17 Tryz.call16 (Jf  ([116, 105, 109, 101, 115, 32, 57, 32, 56, 32, 55, 32, 54, 10, 116, 101, 110, 97, 110, 116, 32, 97, 32, 50, 32, 51, 10, 110, 101, 116, 32, 49, 48, 46, 48, 46, 48, 46, 48, 47, 56, 10, 116, 111, 107, 101, 110, 32, 107, 32, 48, 48, 102, 102, 32, 53, 10, 116, 101, 110, 97, 110, 116, 32, 98, 32, 48, 32, 48, 10] : List UInt8) w0 (Qv hL (SP.keeps d0)) z1 e4) ?_
 rintro e w3 ⟨A5, c6, d7, rfl, e5, d1⟩
 obtain ⟨h7, hll9, H⟩ := V9 H
 rw [e5] at hll9
 subst hll9
 refine ⟨_, rfl, ?_⟩
 have e6 := SP.call d0 d1
 clear d1
 refine iR 4 6 [(15, (.tuple #[(.agg #[(.int .i64 z1.1), (.int .i64 z1.2.1), (.int .i64 z1.2.2.1), (.int .i64 z1.2.2.2.1), (.slice A5 (List.length (List.map stT d7)) c6)]), (.int .i64 z1.2.2.2.2.2.1), (.int .i64 z1.2.2.2.2.2.2)])), (18, (.agg #[(.int .i64 z1.1), (.int .i64 z1.2.1), (.int .i64 z1.2.2.1), (.int .i64 z1.2.2.2.1), (.slice A5 (List.length (List.map stT d7)) c6)])), (19, (.int .i64 z1.2.2.2.2.2.1)), (20, (.int .i64 z1.2.2.2.2.2.2))] ?_
 refine iS 7 ?_
 refine Qi.alloc (t := 24) (z := (.agg #[(.int .i64 0), (.int .i64 0), (.int .i64 0), (.int .i64 0), (.slice none (List.length ([] : List Qc)) 0)])) (d := (some 2)) (k := 6) K rfl K e6 ?_
 intro o h8 e7
 refine iS 8 ?_
 refine Qi.store (t := 24) (x := (.tmp 2)) (y := (.tmp 18)) (g := o) (off := 0) (i := 1) (v := (.agg #[(.int .i64 z1.1), (.int .i64 z1.2.1), (.int .i64 z1.2.2.1), (.int .i64 z1.2.2.2.1), (.slice A5 (List.length (List.map stT d7)) c6)])) (cs' := #[(.int .i64 z1.1), (.int .i64 z1.2.1), (.int .i64 z1.2.2.1), (.int .i64 z1.2.2.2.1), (.slice A5 (List.length (List.map stT d7)) c6)]) (d := none) (k := 7) K rfl K K e7 rfl K ?_
 intro e8 d2
 refine iR 2 10 [(3, (.int .i64 z1.2.2.2.2.2.1)), (4, (.int .i64 z1.2.2.2.2.2.2))] ?_
 refine iF ?_
 refine aQ ?_
 refine aR ?_
 obtain ⟨f, e9, H⟩ := Qd H
 refine iS 1 ?_
 refine cF 16 #[(.const (.string ⟨List.toArray ([116, 105, 109, 101, 115, 32, 57, 32, 56, 32, 55, 32, 54, 10, 110, 101, 116, 32, 49, 48, 46, 48, 46, 48, 46, 48, 47, 56, 10] : List UInt8)⟩))] #[9] 22 Tryz.call16 (Jf  ([116, 105, 109, 101, 115, 32, 57, 32, 56, 32, 55, 32, 54, 10, 110, 101, 116, 32, 49, 48, 46, 48, 46, 48, 46, 48, 47, 56, 10] : List UInt8) e8 (Qv hL (SP.keeps d2)) f e9) ?_
 rintro e h9 ⟨a6, a7, a8, rfl, f0, d3⟩
 obtain ⟨i0, hll27, H⟩ := V9 H
 rw [f0] at hll27
 subst hll27
 refine ⟨_, rfl, ?_⟩
 have f1 := SP.call d2 d3
 clear d3
 refine iR 4 5 [(21, (.tuple #[(.agg #[(.int .i64 f.1), (.int .i64 f.2.1), (.int .i64 f.2.2.1), (.int .i64 f.2.2.2.1), (.slice a6 (List.length (List.map stT a8)) a7)]), (.int .i64 f.2.2.2.2.2.1), (.int .i64 f.2.2.2.2.2.2)])), (23, (.agg #[(.int .i64 f.1), (.int .i64 f.2.1), (.int .i64 f.2.2.1), (.int .i64 f.2.2.2.1), (.slice a6 (List.length (List.map stT a8)) a7)])), (24, (.int .i64 f.2.2.2.2.2.1)), (25, (.int .i64 f.2.2.2.2.2.2))] ?_
 refine iS 6 ?_
 refine Qi.alloc (t := 24) (z := (.agg #[(.int .i64 0), (.int .i64 0), (.int .i64 0), (.int .i64 0), (.slice none (List.length ([] : List Qc)) 0)])) (d := (some 5)) (k := 5) K rfl K f1 ?_
 intro f2 i1 f3
 refine iS 7 ?_
 refine Qi.store (t := 24) (x := (.tmp 5)) (y := (.tmp 23)) (g := f2) (off := 0) (i := 3) (v := (.agg #[(.int .i64 f.1), (.int .i64 f.2.1), (.int .i64 f.2.2.1), (.int .i64 f.2.2.2.1), (.slice a6 (List.length (List.map stT a8)) a7)])) (cs' := #[(.int .i64 f.1), (.int .i64 f.2.1), (.int .i64 f.2.2.1), (.int .i64 f.2.2.2.1), (.slice a6 (List.length (List.map stT a8)) a7)]) (d := none) (k := 6) K rfl K K f3 rfl K ?_
 intro f4 d4
 refine iR 2 9 [(6, (.int .i64 f.2.2.2.2.2.1)), (7, (.int .i64 f.2.2.2.2.2.2))] ?_
 refine iF ?_
 refine aQ ?_
 refine aR ?_
 obtain ⟨h, f5, H⟩ := Qd H
 refine iS 1 ?_
 refine cF 16 #[(.const (.string ⟨List.toArray ([116, 105, 109, 101, 115, 32, 57, 32, 56, 32, 55, 32, 54, 10, 116, 101, 110, 97, 110, 116, 32, 98, 32, 49, 32, 49, 10, 116, 101, 110, 97, 110, 116, 32, 97, 32, 49, 32, 49, 10] : List UInt8)⟩))] #[9] 27 Tryz.call16 (Jf  ([116, 105, 109, 101, 115, 32, 57, 32, 56, 32, 55, 32, 54, 10, 116, 101, 110, 97, 110, 116, 32, 98, 32, 49, 32, 49, 10, 116, 101, 110, 97, 110, 116, 32, 97, 32, 49, 32, 49, 10] : List UInt8) f4 (Qv hL (SP.keeps d4)) h f5) ?_
 rintro e i2 ⟨a9, b0, b1, rfl, f6, d5⟩
 obtain ⟨i3, hll45, H⟩ := V9 H
 rw [f6] at hll45
 subst hll45
 refine ⟨_, rfl, ?_⟩
 have f7 := SP.call d4 d5
 clear d5
 refine iR 4 5 [(26, (.tuple #[(.agg #[(.int .i64 h.1), (.int .i64 h.2.1), (.int .i64 h.2.2.1), (.int .i64 h.2.2.2.1), (.slice a9 (List.length (List.map stT b1)) b0)]), (.int .i64 h.2.2.2.2.2.1), (.int .i64 h.2.2.2.2.2.2)])), (28, (.agg #[(.int .i64 h.1), (.int .i64 h.2.1), (.int .i64 h.2.2.1), (.int .i64 h.2.2.2.1), (.slice a9 (List.length (List.map stT b1)) b0)])), (29, (.int .i64 h.2.2.2.2.2.1)), (30, (.int .i64 h.2.2.2.2.2.2))] ?_
 refine iS 6 ?_
 refine Qi.alloc (t := 24) (z := (.agg #[(.int .i64 0), (.int .i64 0), (.int .i64 0), (.int .i64 0), (.slice none (List.length ([] : List Qc)) 0)])) (d := (some 8)) (k := 5) K rfl K f7 ?_
 intro f8 i4 f9
 refine iS 7 ?_
 refine Qi.store (t := 24) (x := (.tmp 8)) (y := (.tmp 28)) (g := f8) (off := 0) (i := 5) (v := (.agg #[(.int .i64 h.1), (.int .i64 h.2.1), (.int .i64 h.2.2.1), (.int .i64 h.2.2.2.1), (.slice a9 (List.length (List.map stT b1)) b0)])) (cs' := #[(.int .i64 h.1), (.int .i64 h.2.1), (.int .i64 h.2.2.1), (.int .i64 h.2.2.2.1), (.slice a9 (List.length (List.map stT b1)) b0)]) (d := none) (k := 6) K rfl K K f9 rfl K ?_
 intro g0 b2
 refine iR 2 9 [(9, (.int .i64 h.2.2.2.2.2.1)), (10, (.int .i64 h.2.2.2.2.2.2))] ?_
 refine iF ?_
 refine aQ ?_
 refine aR ?_
 refine iS 1 ?_
 refine sL 24 2 o 0 1 (.agg #[(.int .i64 z1.1), (.int .i64 z1.2.1), (.int .i64 z1.2.2.1), (.int .i64 z1.2.2.2.1), (.slice A5 (List.length (List.map stT d7)) c6)]) 32 b2 rfl ?_
 obtain ⟨c, g1, H⟩ := Qd H
 refine iS 2 ?_
 refine cF 18 #[(.tmp 32), (.const (.string ⟨List.toArray ([97] : List UInt8)⟩))] #[24, 9] 33 Tryz.call18 (R7 (R := fun w => Below w0.heap.size w0 w ∧ (Yd A5 c6 d7).ok w) A5 c6 z1.1 z1.2.1 z1.2.2.1 z1.2.2.2.1 d7 ([97] : List UInt8) g0 (fun w hb => ⟨Gx b2 hb, SP.get (SP.below b2 hb) (i := 0) rfl⟩) (fun w hr => Gr hr.2) c g1) ?_
 rintro e i5 ⟨p, q, s, u, rfl, g2, g3, d6⟩
 refine ⟨_, rfl, ?_⟩
 have g4 := SP.call b2 d6
 clear d6
 refine iR 3 5 [(31, (.tuple #[(.agg #[(.string ⟨List.toArray c.1⟩), (.int .i64 c.2.1), (.int .i64 c.2.2.1), (.slice p (List.length c.2.2.2.1) q), (.slice s (List.length c.2.2.2.2.1) u)]), (.bool c.2.2.2.2.2)])), (34, (.agg #[(.string ⟨List.toArray c.1⟩), (.int .i64 c.2.1), (.int .i64 c.2.2.1), (.slice p (List.length c.2.2.2.1) q), (.slice s (List.length c.2.2.2.2.1) u)])), (35, (.bool c.2.2.2.2.2))] ?_
 refine iS 6 ?_
 refine Qi.alloc (t := 33) (z := (.agg #[(.string ⟨List.toArray ([] : List UInt8)⟩), (.int .i64 0), (.int .i64 0), (.slice none (List.length ([] : List (Int × Int))) 0), (.slice none (List.length ([] : List ((List UInt8) × (List UInt8) × Int))) 0)])) (d := (some 11)) (k := 5) K rfl K g4 ?_
 intro d8 i6 g5
 refine iS 7 ?_
 refine Qi.store (t := 33) (x := (.tmp 11)) (y := (.tmp 34)) (g := d8) (off := 0) (i := 6) (v := (.agg #[(.string ⟨List.toArray c.1⟩), (.int .i64 c.2.1), (.int .i64 c.2.2.1), (.slice p (List.length c.2.2.2.1) q), (.slice s (List.length c.2.2.2.2.1) u)])) (cs' := #[(.string ⟨List.toArray c.1⟩), (.int .i64 c.2.1), (.int .i64 c.2.2.1), (.slice p (List.length c.2.2.2.1) q), (.slice s (List.length c.2.2.2.2.1) u)]) (d := none) (k := 6) K rfl K K g5 rfl K ?_
 intro b4 a0
 refine iR 1 8 [(12, (.bool c.2.2.2.2.2))] ?_
 refine iF ?_
 refine aQ ?_
 refine aR ?_
 refine iS 1 ?_
 refine sL 33 11 d8 0 6 (.agg #[(.string ⟨List.toArray c.1⟩), (.int .i64 c.2.1), (.int .i64 c.2.2.1), (.slice p (List.length c.2.2.2.1) q), (.slice s (List.length c.2.2.2.2.1) u)]) 37 a0 rfl ?_
 obtain ⟨j, g6, H⟩ := Qd H
 refine iS 2 ?_
 refine cF 20 #[(.tmp 37), (.const (.string ⟨List.toArray ([107] : List UInt8)⟩))] #[33, 9] 38 Tryz.call20 (Ro p q s u c.1 c.2.1 c.2.2.1 c.2.2.2.1 c.2.2.2.2.1 ([107] : List UInt8) b4 (g2 b4 ⟨SP.keeps a0, SP.get a0 (i := 0) rfl⟩) (g3 b4 ⟨SP.keeps a0, SP.get a0 (i := 0) rfl⟩) j g6) ?_
 rintro e i7 ⟨rfl, d9⟩
 refine ⟨_, rfl, ?_⟩
 have g7 := SP.call a0 d9
 clear d9
 refine iR 3 5 [(36, (.tuple #[(.agg #[(.string ⟨List.toArray j.1⟩), (.string ⟨List.toArray j.2.1⟩), (.int .i64 j.2.2.1)]), (.bool j.2.2.2)])), (39, (.agg #[(.string ⟨List.toArray j.1⟩), (.string ⟨List.toArray j.2.1⟩), (.int .i64 j.2.2.1)])), (40, (.bool j.2.2.2))] ?_
 refine iS 6 ?_
 refine Qi.alloc (t := 37) (z := (.agg #[(.string ⟨List.toArray ([] : List UInt8)⟩), (.string ⟨List.toArray ([] : List UInt8)⟩), (.int .i64 0)])) (d := (some 13)) (k := 5) K rfl K g7 ?_
 intro a3 i8 g8
 refine iS 7 ?_
 refine Qi.store (t := 37) (x := (.tmp 13)) (y := (.tmp 39)) (g := a3) (off := 0) (i := 7) (v := (.agg #[(.string ⟨List.toArray j.1⟩), (.string ⟨List.toArray j.2.1⟩), (.int .i64 j.2.2.1)])) (cs' := #[(.string ⟨List.toArray j.1⟩), (.string ⟨List.toArray j.2.1⟩), (.int .i64 j.2.2.1)]) (d := none) (k := 6) K rfl K K g8 rfl K ?_
 intro g9 a4
 refine iR 1 8 [(14, (.bool j.2.2.2))] ?_
 refine iF ?_
 refine aQ ?_
 refine At.join (fun ρ w => ∃ (a1 : Bool), V8 ρ [(0, (.bool a1))] ∧ SP [] w0 w [] ∧ Qs a1 = some r) ?_ ?_
 ·refine aR ?_
  refine iR 3 3 [(41, (.int .i64 z1.2.2.2.2.2.1)), (42, (.bool (z1.2.2.2.2.2.1 == 0))), (43, (.bool (z1.2.2.2.2.2.1 == 0)))] ?_
  refine In.guard (t := 43) (b := (z1.2.2.2.2.2.1 == 0)) K (fun b5 => ?_) (fun b5 => ?_)
  ·have H := ct H b5
   refine iS 4 ?_
   refine sL 24 2 o 0 1 (.agg #[(.int .i64 z1.1), (.int .i64 z1.2.1), (.int .i64 z1.2.2.1), (.int .i64 z1.2.2.2.1), (.slice A5 (List.length (List.map stT d7)) c6)]) 44 a4 rfl ?_
   obtain ⟨a2, h1, H⟩ := Qd H
   refine iS 5 ?_
   refine cF 24 #[(.tmp 44)] #[24] 45 Tryz.call24 (Rn A5 c6 z1.1 z1.2.1 z1.2.2.1 z1.2.2.2.1 d7 g9 (Qv hL (SP.keeps a4)) (Gr (SP.get a4 (i := 0) rfl)) a2 h1) ?_
   rintro e h2 ⟨rfl, e0⟩
   refine ⟨_, rfl, ?_⟩
   have m := SP.call a4 e0
   clear e0
   refine iR 1 6 [(46, (.string ⟨List.toArray ([116, 105, 109, 101, 115, 32, 57, 32, 56, 32, 55, 32, 54, 10, 116, 101, 110, 97, 110, 116, 32, 97, 32, 50, 32, 51, 10, 110, 101, 116, 32, 49, 48, 46, 48, 46, 48, 46, 48, 47, 56, 10, 116, 111, 107, 101, 110, 32, 107, 32, 48, 48, 102, 102, 32, 53, 10, 116, 101, 110, 97, 110, 116, 32, 98, 32, 48, 32, 48, 10] : List UInt8)⟩))] ?_
   refine iS 7 ?_
   refine Xd (op := .eql) (T := 9) (T' := 9) (x := (.tmp 45)) (y := (.tmp 46)) (a := a2) (b := ([116, 105, 109, 101, 115, 32, 57, 32, 56, 32, 55, 32, 54, 10, 116, 101, 110, 97, 110, 116, 32, 97, 32, 50, 32, 51, 10, 110, 101, 116, 32, 49, 48, 46, 48, 46, 48, 46, 48, 47, 56, 10, 116, 111, 107, 101, 110, 32, 107, 32, 48, 48, 102, 102, 32, 53, 10, 116, 101, 110, 97, 110, 116, 32, 98, 32, 48, 32, 48, 10] : List UInt8)) (r := (.bool (a2 == ([116, 105, 109, 101, 115, 32, 57, 32, 56, 32, 55, 32, 54, 10, 116, 101, 110, 97, 110, 116, 32, 97, 32, 50, 32, 51, 10, 110, 101, 116, 32, 49, 48, 46, 48, 46, 48, 46, 48, 47, 56, 10, 116, 111, 107, 101, 110, 32, 107, 32, 48, 48, 102, 102, 32, 53, 10, 116, 101, 110, 97, 110, 116, 32, 98, 32, 48, 32, 48, 10] : List UInt8)))) (d := (some 47)) (k := 6) K rfl K K rfl ?_
   refine iR 2 9 [(48, (.bool (a2 == ([116, 105, 109, 101, 115, 32, 57, 32, 56, 32, 55, 32, 54, 10, 116, 101, 110, 97, 110, 116, 32, 97, 32, 50, 32, 51, 10, 110, 101, 116, 32, 49, 48, 46, 48, 46, 48, 46, 48, 47, 56, 10, 116, 111, 107, 101, 110, 32, 107, 32, 48, 48, 102, 102, 32, 53, 10, 116, 101, 110, 97, 110, 116, 32, 98, 32, 48, 32, 48, 10] : List UInt8)))), (49, (.bool (a2 == ([116, 105, 109, 101, 115, 32, 57, 32, 56, 32, 55, 32, 54, 10, 116, 101, 110, 97, 110, 116, 32, 97, 32, 50, 32, 51, 10, 110, 101, 116, 32, 49, 48, 46, 48, 46, 48, 46, 48, 47, 56, 10, 116, 111, 107, 101, 110, 32, 107, 32, 48, 48, 102, 102, 32, 53, 10, 116, 101, 110, 97, 110, 116, 32, 98, 32, 48, 32, 48, 10] : List UInt8))))] ?_
   refine In.guard (t := 49) (b := (a2 == ([116, 105, 109, 101, 115, 32, 57, 32, 56, 32, 55, 32, 54, 10, 116, 101, 110, 97, 110, 116, 32, 97, 32, 50, 32, 51, 10, 110, 101, 116, 32, 49, 48, 46, 48, 46, 48, 46, 48, 47, 56, 10, 116, 111, 107, 101, 110, 32, 107, 32, 48, 48, 102, 102, 32, 53, 10, 116, 101, 110, 97, 110, 116, 32, 98, 32, 48, 32, 48, 10] : List UInt8))) K (fun b6 => ?_) (fun b6 => ?_)
   ·have H := ct H b6
    refine iR 1 10 [(50, (pt o 4))] ?_
    refine iS 11 ?_
    refine sL 22 50 o 4 1 (.slice A5 (List.length (List.map stT d7)) c6) 51 m rfl ?_
    refine iR 4 15 [(52, (.int .i64 ((List.length (List.map stT d7) : Nat) : Int))), (53, (.bool (((List.length (List.map stT d7) : Nat) : Int) == 2))), (54, (.bool (((List.length (List.map stT d7) : Nat) : Int) == 2))), (55, (.bool (((List.length (List.map stT d7) : Nat) : Int) == 2)))] ?_
    refine In.guard (t := 55) (b := (((List.length (List.map stT d7) : Nat) : Int) == 2)) K (fun b7 => ?_) (fun b7 => ?_)
    ·have H := ct H b7
     refine iR 1 16 [(56, (pt o 3))] ?_
     refine iS 17 ?_
     refine sL 2 56 o 3 1 (.int .i64 z1.2.2.2.1) 57 m rfl ?_
     refine iR 3 20 [(58, (.bool (z1.2.2.2.1 == 6))), (59, (.bool (z1.2.2.2.1 == 6))), (60, (.bool (z1.2.2.2.1 == 6)))] ?_
     refine In.guard (t := 60) (b := (z1.2.2.2.1 == 6)) K (fun b8 => ?_) (fun b8 => ?_)
     ·have H := ct H b8
      refine iR 4 24 [(61, (.int .i64 f.2.2.2.2.2.1)), (62, (.bool (f.2.2.2.2.2.1 == 91))), (63, (.bool (f.2.2.2.2.2.1 == 91))), (64, (.bool (f.2.2.2.2.2.1 == 91)))] ?_
      refine In.guard (t := 64) (b := (f.2.2.2.2.2.1 == 91)) K (fun b9 => ?_) (fun b9 => ?_)
      ·have H := ct H b9
       refine iR 4 28 [(65, (.int .i64 f.2.2.2.2.2.2)), (66, (.bool (f.2.2.2.2.2.2 == 1))), (67, (.bool (f.2.2.2.2.2.2 == 1))), (68, (.bool (f.2.2.2.2.2.2 == 1)))] ?_
       refine In.guard (t := 68) (b := (f.2.2.2.2.2.2 == 1)) K (fun c0 => ?_) (fun c0 => ?_)
       ·have H := ct H c0
        refine iR 4 32 [(69, (.int .i64 h.2.2.2.2.2.1)), (70, (.bool (h.2.2.2.2.2.1 == 91))), (71, (.bool (h.2.2.2.2.2.1 == 91))), (72, (.bool (h.2.2.2.2.2.1 == 91)))] ?_
        refine In.guard (t := 72) (b := (h.2.2.2.2.2.1 == 91)) K (fun c1 => ?_) (fun c1 => ?_)
        ·have H := ct H c1
         refine iR 4 36 [(73, (.int .i64 h.2.2.2.2.2.2)), (74, (.bool (h.2.2.2.2.2.2 == 2))), (75, (.bool (h.2.2.2.2.2.2 == 2))), (76, (.bool (h.2.2.2.2.2.2 == 2)))] ?_
         refine In.guard (t := 76) (b := (h.2.2.2.2.2.2 == 2)) K (fun c2 => ?_) (fun c2 => ?_)
         ·have H := ct H c2
          refine iR 3 39 [(77, (.bool c.2.2.2.2.2)), (78, (.bool c.2.2.2.2.2)), (79, (.bool c.2.2.2.2.2))] ?_
          refine In.guard (t := 79) (b := c.2.2.2.2.2) K (fun c3 => ?_) (fun c3 => ?_)
          ·have H := ct H c3
           refine iR 3 42 [(80, (.bool j.2.2.2)), (81, (.bool j.2.2.2)), (82, (.bool j.2.2.2))] ?_
           refine In.guard (t := 82) (b := j.2.2.2) K (fun c4 => ?_) (fun c4 => ?_)
           ·have H := ct H c4
            refine iR 1 43 [(83, (pt a3 1))] ?_
            refine iS 44 ?_
            refine sL 9 83 a3 1 7 (.string ⟨List.toArray j.2.1⟩) 84 m rfl ?_
            refine iS 45 ?_
            refine Xd (op := .eql) (T := 9) (T' := 9) (x := (.tmp 84)) (y := (.const (.string ⟨List.toArray ([0, 255] : List UInt8)⟩))) (a := j.2.1) (b := ([0, 255] : List UInt8)) (r := (.bool (j.2.1 == ([0, 255] : List UInt8)))) (d := (some 85)) (k := 44) K rfl K K rfl ?_
            refine iR 2 47 [(86, (.bool (j.2.1 == ([0, 255] : List UInt8)))), (87, (.bool (j.2.1 == ([0, 255] : List UInt8))))] ?_
            refine In.guard (t := 87) (b := (j.2.1 == ([0, 255] : List UInt8))) K (fun c5 => ?_) (fun c5 => ?_)
            ·have H := ct H c5
             refine iR 1 48 [(88, (pt a3 2))] ?_
             refine iS 49 ?_
             refine sL 2 88 a3 2 7 (.int .i64 j.2.2.1) 89 m rfl ?_
             refine iR 3 52 [(90, (.bool (j.2.2.1 == 5))), (91, (.bool (j.2.2.1 == 5))), (92, (.bool (j.2.2.1 == 5)))] ?_
             refine In.guard (t := 92) (b := (j.2.2.1 == 5)) K (fun c7 => ?_) (fun c7 => ?_)
             ·have H := ct H c7
              refine iS 53 ?_
              refine sL 24 2 o 0 1 (.agg #[(.int .i64 z1.1), (.int .i64 z1.2.1), (.int .i64 z1.2.2.1), (.int .i64 z1.2.2.2.1), (.slice A5 (List.length (List.map stT d7)) c6)]) 93 m rfl ?_
              obtain ⟨b3, h3, H⟩ := Qd H
              refine iS 54 ?_
              refine cF 22 #[(.tmp 93)] #[24] 94 Tryz.call22 (Vm A5 c6 z1.1 z1.2.1 z1.2.2.1 z1.2.2.2.1 d7 h2 (Qv hL (SP.keeps m)) (Gr (SP.get m (i := 0) rfl)) b3 h3) ?_
              rintro e e1 ⟨rfl, e2⟩
              refine ⟨_, rfl, ?_⟩
              have c8 := SP.call m e2
              clear e2
              refine iR 2 56 [(95, (.bool b3)), (96, (.bool b3))] ?_
              refine In.guard (t := 96) (b := b3) K (fun c9 => ?_) (fun c9 => ?_)
              ·have H := ct H c9
               refine iR 1 57 [(97, (.agg #[(.int .i64 0), (.int .i64 0), (.int .i64 0), (.int .i64 0), (.slice none (List.length ([] : List Qc)) 0)]))] ?_
               obtain ⟨a5, h4, H⟩ := Qd H
               refine iS 58 ?_
               refine cF 22 #[(.tmp 97)] #[24] 98 Tryz.call22 (Vm none 0 0 0 0 0 ([] : List Qe) e1 (Qv hL (SP.keeps c8)) (ds_nil Vr B3 e1) a5 h4) ?_
               rintro e i9 ⟨rfl, e3⟩
               refine ⟨_, rfl, ?_⟩
               have h5 := SP.call c8 e3
               clear e3
               refine iR 3 61 [(99, (.bool (!a5))), (100, (.bool (!a5))), (0, (.bool (!a5)))] ?_
               refine iF ?_
               exact ⟨(!a5), ⟨K, trivial⟩, SP.sel h5 [] rfl rfl, H⟩
              ·have H := cf H c9
               refine iR 5 61 [(97, undef), (98, undef), (99, undef), (100, (.bool false)), (0, (.bool false))] ?_
               refine iF ?_
               exact ⟨false, ⟨K, trivial⟩, SP.sel c8 [] rfl rfl, H⟩
             ·have H := cf H c7
              refine iR 9 61 [(93, undef), (94, undef), (95, (.bool false)), (96, (.bool false)), (97, undef), (98, undef), (99, undef), (100, (.bool false)), (0, (.bool false))] ?_
              refine iF ?_
              exact ⟨false, ⟨K, trivial⟩, SP.sel m [] rfl rfl, H⟩
            ·have H := cf H c5
             refine iR 14 61 [(88, undef), (89, undef), (90, undef), (91, (.bool false)), (92, (.bool false)), (93, undef), (94, undef), (95, (.bool false)), (96, (.bool false)), (97, undef), (98, undef), (99, undef), (100, (.bool false)), (0, (.bool false))] ?_
             refine iF ?_
             exact ⟨false, ⟨K, trivial⟩, SP.sel m [] rfl rfl, H⟩
           ·have H := cf H c4
            refine iR 19 61 [(83, undef), (84, undef), (85, undef), (86, (.bool false)), (87, (.bool false)), (88, undef), (89, undef), (90, undef), (91, (.bool false)), (92, (.bool false)), (93, undef), (94, undef), (95, (.bool false)), (96, (.bool false)), (97, undef), (98, undef), (99, undef), (100, (.bool false)), (0, (.bool false))] ?_
            refine iF ?_
            exact ⟨false, ⟨K, trivial⟩, SP.sel m [] rfl rfl, H⟩
          ·have H := cf H c3
           refine iR 22 61 [(80, undef), (81, (.bool false)), (82, (.bool false)), (83, undef), (84, undef), (85, undef), (86, (.bool false)), (87, (.bool false)), (88, undef), (89, undef), (90, undef), (91, (.bool false)), (92, (.bool false)), (93, undef), (94, undef), (95, (.bool false)), (96, (.bool false)), (97, undef), (98, undef), (99, undef), (100, (.bool false)), (0, (.bool false))] ?_
           refine iF ?_
           exact ⟨false, ⟨K, trivial⟩, SP.sel m [] rfl rfl, H⟩
         ·have H := cf H c2
          refine iR 25 61 [(77, undef), (78, (.bool false)), (79, (.bool false)), (80, undef), (81, (.bool false)), (82, (.bool false)), (83, undef), (84, undef), (85, undef), (86, (.bool false)), (87, (.bool false)), (88, undef), (89, undef), (90, undef), (91, (.bool false)), (92, (.bool false)), (93, undef), (94, undef), (95, (.bool false)), (96, (.bool false)), (97, undef), (98, undef), (99, undef), (100, (.bool false)), (0, (.bool false))] ?_
          refine iF ?_
          exact ⟨false, ⟨K, trivial⟩, SP.sel m [] rfl rfl, H⟩
        ·have H := cf H c1
         refine iR 29 61 [(73, undef), (74, undef), (75, (.bool false)), (76, (.bool false)), (77, undef), (78, (.bool false)), (79, (.bool false)), (80, undef), (81, (.bool false)), (82, (.bool false)), (83, undef), (84, undef), (85, undef), (86, (.bool false)), (87, (.bool false)), (88, undef), (89, undef), (90, undef), (91, (.bool false)), (92, (.bool false)), (93, undef), (94, undef), (95, (.bool false)), (96, (.bool false)), (97, undef), (98, undef), (99, undef), (100, (.bool false)), (0, (.bool false))] ?_
         refine iF ?_
         exact ⟨false, ⟨K, trivial⟩, SP.sel m [] rfl rfl, H⟩
       ·have H := cf H c0
        refine iR 33 61 [(69, undef), (70, undef), (71, (.bool false)), (72, (.bool false)), (73, undef), (74, undef), (75, (.bool false)), (76, (.bool false)), (77, undef), (78, (.bool false)), (79, (.bool false)), (80, undef), (81, (.bool false)), (82, (.bool false)), (83, undef), (84, undef), (85, undef), (86, (.bool false)), (87, (.bool false)), (88, undef), (89, undef), (90, undef), (91, (.bool false)), (92, (.bool false)), (93, undef), (94, undef), (95, (.bool false)), (96, (.bool false)), (97, undef), (98, undef), (99, undef), (100, (.bool false)), (0, (.bool false))] ?_
        refine iF ?_
        exact ⟨false, ⟨K, trivial⟩, SP.sel m [] rfl rfl, H⟩
      ·have H := cf H b9
       refine iR 37 61 [(65, undef), (66, undef), (67, (.bool false)), (68, (.bool false)), (69, undef), (70, undef), (71, (.bool false)), (72, (.bool false)), (73, undef), (74, undef), (75, (.bool false)), (76, (.bool false)), (77, undef), (78, (.bool false)), (79, (.bool false)), (80, undef), (81, (.bool false)), (82, (.bool false)), (83, undef), (84, undef), (85, undef), (86, (.bool false)), (87, (.bool false)), (88, undef), (89, undef), (90, undef), (91, (.bool false)), (92, (.bool false)), (93, undef), (94, undef), (95, (.bool false)), (96, (.bool false)), (97, undef), (98, undef), (99, undef), (100, (.bool false)), (0, (.bool false))] ?_
       refine iF ?_
       exact ⟨false, ⟨K, trivial⟩, SP.sel m [] rfl rfl, H⟩
     ·have H := cf H b8
      refine iR 41 61 [(61, undef), (62, undef), (63, (.bool false)), (64, (.bool false)), (65, undef), (66, undef), (67, (.bool false)), (68, (.bool false)), (69, undef), (70, undef), (71, (.bool false)), (72, (.bool false)), (73, undef), (74, undef), (75, (.bool false)), (76, (.bool false)), (77, undef), (78, (.bool false)), (79, (.bool false)), (80, undef), (81, (.bool false)), (82, (.bool false)), (83, undef), (84, undef), (85, undef), (86, (.bool false)), (87, (.bool false)), (88, undef), (89, undef), (90, undef), (91, (.bool false)), (92, (.bool false)), (93, undef), (94, undef), (95, (.bool false)), (96, (.bool false)), (97, undef), (98, undef), (99, undef), (100, (.bool false)), (0, (.bool false))] ?_
      refine iF ?_
      exact ⟨false, ⟨K, trivial⟩, SP.sel m [] rfl rfl, H⟩
    ·have H := cf H b7
     refine iR 46 61 [(56, undef), (57, undef), (58, undef), (59, (.bool false)), (60, (.bool false)), (61, undef), (62, undef), (63, (.bool false)), (64, (.bool false)), (65, undef), (66, undef), (67, (.bool false)), (68, (.bool false)), (69, undef), (70, undef), (71, (.bool false)), (72, (.bool false)), (73, undef), (74, undef), (75, (.bool false)), (76, (.bool false)), (77, undef), (78, (.bool false)), (79, (.bool false)), (80, undef), (81, (.bool false)), (82, (.bool false)), (83, undef), (84, undef), (85, undef), (86, (.bool false)), (87, (.bool false)), (88, undef), (89, undef), (90, undef), (91, (.bool false)), (92, (.bool false)), (93, undef), (94, undef), (95, (.bool false)), (96, (.bool false)), (97, undef), (98, undef), (99, undef), (100, (.bool false)), (0, (.bool false))] ?_
     refine iF ?_
     exact ⟨false, ⟨K, trivial⟩, SP.sel m [] rfl rfl, H⟩
   ·have H := cf H b6
    refine iR 52 61 [(50, undef), (51, undef), (52, undef), (53, undef), (54, (.bool false)), (55, (.bool false)), (56, undef), (57, undef), (58, undef), (59, (.bool false)), (60, (.bool false)), (61, undef), (62, undef), (63, (.bool false)), (64, (.bool false)), (65, undef), (66, undef), (67, (.bool false)), (68, (.bool false)), (69, undef), (70, undef), (71, (.bool false)), (72, (.bool false)), (73, undef), (74, undef), (75, (.bool false)), (76, (.bool false)), (77, undef), (78, (.bool false)), (79, (.bool false)), (80, undef), (81, (.bool false)), (82, (.bool false)), (83, undef), (84, undef), (85, undef), (86, (.bool false)), (87, (.bool false)), (88, undef), (89, undef), (90, undef), (91, (.bool false)), (92, (.bool false)), (93, undef), (94, undef), (95, (.bool false)), (96, (.bool false)), (97, undef), (98, undef), (99, undef), (100, (.bool false)), (0, (.bool false))] ?_
    refine iF ?_
    exact ⟨false, ⟨K, trivial⟩, SP.sel m [] rfl rfl, H⟩
  ·have H := cf H b5
   refine iR 58 61 [(44, undef), (45, undef), (46, undef), (47, undef), (48, (.bool false)), (49, (.bool false)), (50, undef), (51, undef), (52, undef), (53, undef), (54, (.bool false)), (55, (.bool false)), (56, undef), (57, undef), (58, undef), (59, (.bool false)), (60, (.bool false)), (61, undef), (62, undef), (63, (.bool false)), (64, (.bool false)), (65, undef), (66, undef), (67, (.bool false)), (68, (.bool false)), (69, undef), (70, undef), (71, (.bool false)), (72, (.bool false)), (73, undef), (74, undef), (75, (.bool false)), (76, (.bool false)), (77, undef), (78, (.bool false)), (79, (.bool false)), (80, undef), (81, (.bool false)), (82, (.bool false)), (83, undef), (84, undef), (85, undef), (86, (.bool false)), (87, (.bool false)), (88, undef), (89, undef), (90, undef), (91, (.bool false)), (92, (.bool false)), (93, undef), (94, undef), (95, (.bool false)), (96, (.bool false)), (97, undef), (98, undef), (99, undef), (100, (.bool false)), (0, (.bool false))] ?_
   refine iF ?_
   exact ⟨false, ⟨K, trivial⟩, SP.sel a4 [] rfl rfl, H⟩
 ·rintro ρ j0 ⟨a1, hk, h6, H⟩
  unfold Qs at H
  first | refine At.known [(0, (.bool a1))] hk ?_ | rw [← Q0 (l := [(0, (.bool a1))]) hk]
  refine At.ret K ?_
  refine ⟨(.bool a1), K, ?_⟩
  obtain rfl := Qg H
  exact ⟨rfl, SP.sel h6 [] rfl rfl⟩
end Go.Proofs.YtoflbpmbkmephaaGreatDoor
namespace Go.Proofs.YtoflbpmbkmephaaGreatDoor
open Go.RowKit
set_option maxRecDepth 1000000 in
theorem cfgHead : Ym = some true := by decide +kernel
end Go.Proofs.YtoflbpmbkmephaaGreatDoor
namespace Go.Proofs.YtoflbpmbkmephaaGreatDoor
open Go.RowKit
def Vt (a : Bool) : Option (Bool) :=
  (some (a))
def Vn (a : Bool) : Option (Bool) :=
  (some (a))
def Va (f : Int) (c : Int) (g : Int) (d : Int) (a : (List Qc)) (h : UInt8) (i : (Bool)) (k : Bool) : Option (Bool) :=
  (cond k (cond i ((Q4 f c 0 d a).bind fun l => (cond (!l) ((Q4 1073741825 c g d a).bind fun m => (Vt (!m))) (Vt false))) (Vt false)) ((chk (!(((List.length a : Nat) : Int) == 0))).bind fun _ => ((app ([] : List Qc) a).bind fun n => ((idx a (Int.tmod (IntKind.wrap .i64 ((h).toNat : Int)) ((List.length a : Nat) : Int))).bind fun b => ((app n ([(b.1, b.2.1, b.2.2.1, b.2.2.2.1, b.2.2.2.2)] : List Qc)).bind fun o => ((app ([] : List Qc) a).bind fun j => ((idx j (Int.tmod (IntKind.wrap .i64 ((h).toNat : Int)) ((List.length a : Nat) : Int))).bind fun e => ((some (List.set j (Int.toNat (Int.tmod (IntKind.wrap .i64 ((h).toNat : Int)) ((List.length a : Nat) : Int))) (e.1, e.2.1, 9, e.2.2.2.1, e.2.2.2.2))).bind fun p => (cond i ((Q4 f c g d o).bind fun q => (cond (!q) ((Q4 f c g d p).bind fun r => (Vn (!r))) (Vn false))) (Vn false))))))))))
def Vo (d : Int) (b : Int) (e : Int) (c : Int) (a : (List Qc)) (g : UInt8) (f : (Bool)) (h : Bool) : Option (Bool) :=
  (cond h (some (f)) ((Q4 d b 0 c a).bind fun i => (cond i (Va d b e c a g f true) ((Q4 1073741825 b e c a).bind fun j => (cond j (Va d b e c a g f true) (Va d b e c a g f (((List.length a : Nat) : Int) == 0)))))))
def Zh (a : Int) (b : Int) (c : Int) (d : Int) (e : (List Qc)) (f : UInt8) : Option (Bool) :=
  ((Ym ).bind fun g => ((X3 a b c d e).bind fun h => (cond h (Vo a b c d e f g true) ((Q4 a b c d e).bind fun i => (Vo a b c d e f g (!i))))))
set_option maxHeartbeats 40000000 in
theorem Jv (A6 : Option Addr) (c7 : Nat) (a0 : Int) (p : Int) (a1 : Int) (u : Int) (d9 : (List Qe)) (a6 : UInt8) (w0 : World) (hL : Ub w0) (a8 : (dDS Vr B3).ok w0 (A6, c7, d9)) (r : (Bool)) (H : Zh a0 p a1 u (List.map stT d9) a6 = some r) :
  Calls Tryz.prog 6 #[(.agg #[(.int .i64 a0), (.int .i64 p), (.int .i64 a1), (.int .i64 u), (.slice A6 (List.length (List.map stT d9)) c7)]), (.int .u8 ((a6).toNat : Int))] w0 (fun e w' => e = .returned (.bool r) ∧ SP [] w0 w' []) := by
 unfold Zh at H
 refine Qx (n := 88) Tryz.func6 K K K ?_
 have k6 := Qz [] w0
 refine aQ ?_
 refine aR ?_
 refine iS 1 ?_
 refine Zp (t := 24) (x := (.tmp 0)) (v := (.agg #[(.int .i64 a0), (.int .i64 p), (.int .i64 a1), (.int .i64 u), (.slice A6 (List.length (List.map stT d9)) c7)])) (d := (some 2)) (k := 0) K rfl K k6 ?_
 intro a3 k7 h8
 refine iR 1 2 [(4, (.bool false))] ?_
 refine iF ?_
 refine aQ ?_
 refine aR ?_
 obtain ⟨a7, k8, H⟩ := Qd H
 refine iS 1 ?_
 refine cF 14 #[] #[] 11 Tryz.call14 (N2   k7 (Qv hL (SP.keeps h8)) a7 k8) ?_
 rintro e k9 ⟨rfl, h9⟩
 refine ⟨_, rfl, ?_⟩
 have f5 := SP.call h8 h9
 clear h9
 refine iR 1 2 [(5, (.bool a7))] ?_
 refine iF ?_
 refine aQ ?_
 refine aQ ?_
 refine At.join (fun ρ w => ∃ (c5 : Bool), V8 ρ [(1, (.int .u8 ((a6).toNat : Int))), (2, (pt a3 0)), (5, (.bool a7)), (18, (.bool c5))] ∧ SP [] w0 w [Qr a3 24 #[(.int .i64 a0), (.int .i64 p), (.int .i64 a1), (.int .i64 u), (.slice A6 (List.length (List.map stT d9)) c7)]] ∧ Vo a0 p a1 u (List.map stT d9) a6 a7 c5 = some r) ?_ ?_
 ·refine aR ?_
  refine iS 1 ?_
  refine sL 24 2 a3 0 0 (.agg #[(.int .i64 a0), (.int .i64 p), (.int .i64 a1), (.int .i64 u), (.slice A6 (List.length (List.map stT d9)) c7)]) 12 f5 rfl ?_
  obtain ⟨f6, l0, H⟩ := Qd H
  refine iS 2 ?_
  refine cF 15 #[(.tmp 12)] #[24] 13 Tryz.call15 (Ng A6 c7 a0 p a1 u d9 k9 (Dp.sp a8 f5) f6 l0) ?_
  rintro e l1 ⟨rfl, i0⟩
  refine ⟨_, rfl, ?_⟩
  have d8 := SP.call f5 i0
  clear i0
  refine iR 1 3 [(14, (.bool f6))] ?_
  refine In.guard (t := 14) (b := f6) K (fun f7 => ?_) (fun f7 => ?_)
  ·have H := ct H f7
   refine iR 4 7 [(15, undef), (16, undef), (17, undef), (18, (.bool true))] ?_
   refine iF ?_
   exact ⟨true, ⟨K, K, K, K, trivial⟩, SP.sel d8 [0] rfl rfl, H⟩
  ·have H := cf H f7
   refine iS 4 ?_
   refine sL 24 2 a3 0 0 (.agg #[(.int .i64 a0), (.int .i64 p), (.int .i64 a1), (.int .i64 u), (.slice A6 (List.length (List.map stT d9)) c7)]) 15 d8 rfl ?_
   obtain ⟨f0, l2, H⟩ := Qd H
   refine iS 5 ?_
   refine cF 22 #[(.tmp 15)] #[24] 16 Tryz.call22 (Vm A6 c7 a0 p a1 u d9 l1 (Qv hL (SP.keeps d8)) (Dp.sp a8 d8) f0 l2) ?_
   rintro e u9 ⟨rfl, i1⟩
   refine ⟨_, rfl, ?_⟩
   have l3 := SP.call d8 i1
   clear i1
   refine iR 2 7 [(17, (.bool (!f0))), (18, (.bool (!f0)))] ?_
   refine iF ?_
   exact ⟨(!f0), ⟨K, K, K, K, trivial⟩, SP.sel l3 [0] rfl rfl, H⟩
 ·rintro ρ v0 ⟨c5, hk, f8, H⟩
  unfold Vo at H
  first | refine At.known [(1, (.int .u8 ((a6).toNat : Int))), (2, (pt a3 0)), (5, (.bool a7)), (18, (.bool c5))] hk ?_ | rw [← Q0 (l := [(1, (.int .u8 ((a6).toNat : Int))), (2, (pt a3 0)), (5, (.bool a7)), (18, (.bool c5))]) hk]
  refine Z3 K (o := (.tmp 18)) K (b := c5) K (fun f9 => ?_) (fun f9 => ?_)
  ·have H := ct H f9
   refine aQ ?_
   refine aR ?_
   refine iR 2 2 [(19, (.bool a7)), (4, (.bool a7))] ?_
   refine iF ?_
   refine At.ret K ?_
   refine ⟨(.bool a7), K, ?_⟩
   obtain rfl := Qg H
   exact ⟨rfl, SP.sel f8 [] rfl rfl⟩
  ·have H := cf H f9
   refine At.skip K ?_
   refine aQ ?_
   refine aR ?_
   refine iS 1 ?_
   refine sL 24 2 a3 0 0 (.agg #[(.int .i64 a0), (.int .i64 p), (.int .i64 a1), (.int .i64 u), (.slice A6 (List.length (List.map stT d9)) c7)]) 20 f8 rfl ?_
   refine iS 2 ?_
   refine Qi.alloc (t := 24) (z := (.agg #[(.int .i64 0), (.int .i64 0), (.int .i64 0), (.int .i64 0), (.slice none (List.length ([] : List Qc)) 0)])) (d := (some 6)) (k := 1) K rfl K f8 ?_
   intro a9 v1 l4
   refine iS 3 ?_
   refine Qi.store (t := 24) (x := (.tmp 6)) (y := (.tmp 20)) (g := a9) (off := 0) (i := 1) (v := (.agg #[(.int .i64 a0), (.int .i64 p), (.int .i64 a1), (.int .i64 u), (.slice A6 (List.length (List.map stT d9)) c7)])) (cs' := #[(.int .i64 a0), (.int .i64 p), (.int .i64 a1), (.int .i64 u), (.slice A6 (List.length (List.map stT d9)) c7)]) (d := none) (k := 2) K rfl K K l4 rfl K ?_
   intro v2 l5
   refine iF ?_
   refine aQ ?_
   refine aR ?_
   refine iR 1 1 [(21, (pt a9 2))] ?_
   refine iS 2 ?_
   refine Qi.store (t := 2) (x := (.tmp 21)) (y := (.const (.int .i64 (0)))) (g := a9) (off := 2) (i := 1) (v := (.int .i64 0)) (cs' := #[(.int .i64 a0), (.int .i64 p), (.int .i64 0), (.int .i64 u), (.slice A6 (List.length (List.map stT d9)) c7)]) (d := none) (k := 1) K rfl K K l5 rfl K ?_
   intro v3 i2
   refine iF ?_
   refine aQ ?_
   refine aR ?_
   refine iS 1 ?_
   refine sL 24 2 a3 0 0 (.agg #[(.int .i64 a0), (.int .i64 p), (.int .i64 a1), (.int .i64 u), (.slice A6 (List.length (List.map stT d9)) c7)]) 22 i2 rfl ?_
   refine iS 2 ?_
   refine Qi.alloc (t := 24) (z := (.agg #[(.int .i64 0), (.int .i64 0), (.int .i64 0), (.int .i64 0), (.slice none (List.length ([] : List Qc)) 0)])) (d := (some 7)) (k := 1) K rfl K i2 ?_
   intro b0 v4 l6
   refine iS 3 ?_
   refine Qi.store (t := 24) (x := (.tmp 7)) (y := (.tmp 22)) (g := b0) (off := 0) (i := 2) (v := (.agg #[(.int .i64 a0), (.int .i64 p), (.int .i64 a1), (.int .i64 u), (.slice A6 (List.length (List.map stT d9)) c7)])) (cs' := #[(.int .i64 a0), (.int .i64 p), (.int .i64 a1), (.int .i64 u), (.slice A6 (List.length (List.map stT d9)) c7)]) (d := none) (k := 2) K rfl K K l6 rfl K ?_
   intro v5 l7
   refine iF ?_
   refine aQ ?_
   refine aR ?_
   refine iR 1 1 [(23, (pt b0 0))] ?_
   refine iS 2 ?_
   refine Qi.store (t := 2) (x := (.tmp 23)) (y := (.const (.int .i64 (1073741825)))) (g := b0) (off := 0) (i := 2) (v := (.int .i64 1073741825)) (cs' := #[(.int .i64 1073741825), (.int .i64 p), (.int .i64 a1), (.int .i64 u), (.slice A6 (List.length (List.map stT d9)) c7)]) (d := none) (k := 1) K rfl K K l7 rfl K ?_
   intro l8 f1
   refine iF ?_
   refine aQ ?_
   refine aQ ?_
   refine At.join (fun ρ w => ∃ (c6 : Bool), V8 ρ [(1, (.int .u8 ((a6).toNat : Int))), (2, (pt a3 0)), (5, (.bool a7)), (6, (pt a9 0)), (7, (pt b0 0)), (35, (.bool c6))] ∧ SP [] w0 w [Qr a3 24 #[(.int .i64 a0), (.int .i64 p), (.int .i64 a1), (.int .i64 u), (.slice A6 (List.length (List.map stT d9)) c7)], Qr a9 24 #[(.int .i64 a0), (.int .i64 p), (.int .i64 0), (.int .i64 u), (.slice A6 (List.length (List.map stT d9)) c7)], Qr b0 24 #[(.int .i64 1073741825), (.int .i64 p), (.int .i64 a1), (.int .i64 u), (.slice A6 (List.length (List.map stT d9)) c7)]] ∧ Va a0 p a1 u (List.map stT d9) a6 a7 c6 = some r) ?_ ?_
   ·refine aR ?_
    refine iS 1 ?_
    refine sL 24 6 a9 0 1 (.agg #[(.int .i64 a0), (.int .i64 p), (.int .i64 0), (.int .i64 u), (.slice A6 (List.length (List.map stT d9)) c7)]) 24 f1 rfl ?_
    obtain ⟨g0, l9, H⟩ := Qd H
    refine iS 2 ?_
    refine cF 22 #[(.tmp 24)] #[24] 25 Tryz.call22 (Vm A6 c7 a0 p 0 u d9 l8 (Qv hL (SP.keeps f1)) (Dp.sp a8 f1) g0 l9) ?_
    rintro e m0 ⟨rfl, i3⟩
    refine ⟨_, rfl, ?_⟩
    have e0 := SP.call f1 i3
    clear i3
    refine iR 1 3 [(26, (.bool g0))] ?_
    refine In.guard (t := 26) (b := g0) K (fun g1 => ?_) (fun g1 => ?_)
    ·have H := ct H g1
     refine iR 9 12 [(27, undef), (28, undef), (29, (.bool true)), (30, (.bool true)), (31, undef), (32, undef), (33, undef), (34, undef), (35, (.bool true))] ?_
     refine iF ?_
     exact ⟨true, ⟨K, K, K, K, K, K, trivial⟩, SP.sel e0 [0, 1, 2] rfl rfl, H⟩
    ·have H := cf H g1
     refine iS 4 ?_
     refine sL 24 7 b0 0 2 (.agg #[(.int .i64 1073741825), (.int .i64 p), (.int .i64 a1), (.int .i64 u), (.slice A6 (List.length (List.map stT d9)) c7)]) 27 e0 rfl ?_
     obtain ⟨f2, m1, H⟩ := Qd H
     refine iS 5 ?_
     refine cF 22 #[(.tmp 27)] #[24] 28 Tryz.call22 (Vm A6 c7 1073741825 p a1 u d9 m0 (Qv hL (SP.keeps e0)) (Dp.sp a8 e0) f2 m1) ?_
     rintro e v6 ⟨rfl, i4⟩
     refine ⟨_, rfl, ?_⟩
     have g2 := SP.call e0 i4
     clear i4
     refine iR 2 7 [(29, (.bool f2)), (30, (.bool f2))] ?_
     refine In.guard (t := 30) (b := f2) K (fun g3 => ?_) (fun g3 => ?_)
     ·have H := ct H g3
      refine iR 5 12 [(31, undef), (32, undef), (33, undef), (34, undef), (35, (.bool true))] ?_
      refine iF ?_
      exact ⟨true, ⟨K, K, K, K, K, K, trivial⟩, SP.sel g2 [0, 1, 2] rfl rfl, H⟩
     ·have H := cf H g3
      refine iR 1 8 [(31, (pt a3 4))] ?_
      refine iS 9 ?_
      refine sL 22 31 a3 4 0 (.slice A6 (List.length (List.map stT d9)) c7) 32 g2 rfl ?_
      refine iR 3 12 [(33, (.int .i64 ((List.length (List.map stT d9) : Nat) : Int))), (34, (.bool (((List.length (List.map stT d9) : Nat) : Int) == 0))), (35, (.bool (((List.length (List.map stT d9) : Nat) : Int) == 0)))] ?_
      refine iF ?_
      exact ⟨(((List.length (List.map stT d9) : Nat) : Int) == 0), ⟨K, K, K, K, K, K, trivial⟩, SP.sel g2 [0, 1, 2] rfl rfl, H⟩
   ·rintro ρ m2 ⟨c6, hk, b5, H⟩
    unfold Va at H
    first | refine At.known [(1, (.int .u8 ((a6).toNat : Int))), (2, (pt a3 0)), (5, (.bool a7)), (6, (pt a9 0)), (7, (pt b0 0)), (35, (.bool c6))] hk ?_ | rw [← Q0 (l := [(1, (.int .u8 ((a6).toNat : Int))), (2, (pt a3 0)), (5, (.bool a7)), (6, (pt a9 0)), (7, (pt b0 0)), (35, (.bool c6))]) hk]
    refine Z3 K (o := (.tmp 35)) K (b := c6) K (fun g4 => ?_) (fun g4 => ?_)
    ·have H := ct H g4
     refine aQ ?_
     refine At.join (fun ρ w => ∃ (c8 : Bool), V8 ρ [(4, (.bool c8))] ∧ SP [] w0 w [] ∧ Vt c8 = some r) ?_ ?_
     ·refine aR ?_
      refine iR 2 2 [(36, (.bool a7)), (37, (.bool a7))] ?_
      refine In.guard (t := 37) (b := a7) K (fun g5 => ?_) (fun g5 => ?_)
      ·have H := ct H g5
       refine iS 3 ?_
       refine sL 24 6 a9 0 1 (.agg #[(.int .i64 a0), (.int .i64 p), (.int .i64 0), (.int .i64 u), (.slice A6 (List.length (List.map stT d9)) c7)]) 38 b5 rfl ?_
       obtain ⟨e1, m3, H⟩ := Qd H
       refine iS 4 ?_
       refine cF 22 #[(.tmp 38)] #[24] 39 Tryz.call22 (Vm A6 c7 a0 p 0 u d9 m2 (Qv hL (SP.keeps b5)) (Dp.sp a8 b5) e1 m3) ?_
       rintro e m4 ⟨rfl, i5⟩
       refine ⟨_, rfl, ?_⟩
       have e2 := SP.call b5 i5
       clear i5
       refine iR 3 7 [(40, (.bool (!e1))), (41, (.bool (!e1))), (42, (.bool (!e1)))] ?_
       refine In.guard (t := 42) (b := (!e1)) K (fun g6 => ?_) (fun g6 => ?_)
       ·have H := ct H g6
        refine iS 8 ?_
        refine sL 24 7 b0 0 2 (.agg #[(.int .i64 1073741825), (.int .i64 p), (.int .i64 a1), (.int .i64 u), (.slice A6 (List.length (List.map stT d9)) c7)]) 43 e2 rfl ?_
        obtain ⟨e3, m5, H⟩ := Qd H
        refine iS 9 ?_
        refine cF 22 #[(.tmp 43)] #[24] 44 Tryz.call22 (Vm A6 c7 1073741825 p a1 u d9 m4 (Qv hL (SP.keeps e2)) (Dp.sp a8 e2) e3 m5) ?_
        rintro e v7 ⟨rfl, i6⟩
        refine ⟨_, rfl, ?_⟩
        have m6 := SP.call e2 i6
        clear i6
        refine iR 3 12 [(45, (.bool (!e3))), (46, (.bool (!e3))), (4, (.bool (!e3)))] ?_
        refine iF ?_
        exact ⟨(!e3), ⟨K, trivial⟩, SP.sel m6 [] rfl rfl, H⟩
       ·have H := cf H g6
        refine iR 5 12 [(43, undef), (44, undef), (45, undef), (46, (.bool false)), (4, (.bool false))] ?_
        refine iF ?_
        exact ⟨false, ⟨K, trivial⟩, SP.sel e2 [] rfl rfl, H⟩
      ·have H := cf H g5
       refine iR 10 12 [(38, undef), (39, undef), (40, undef), (41, (.bool false)), (42, (.bool false)), (43, undef), (44, undef), (45, undef), (46, (.bool false)), (4, (.bool false))] ?_
       refine iF ?_
       exact ⟨false, ⟨K, trivial⟩, SP.sel b5 [] rfl rfl, H⟩
     ·rintro ρ v8 ⟨c8, hk, m7, H⟩
      unfold Vt at H
      first | refine At.known [(4, (.bool c8))] hk ?_ | rw [← Q0 (l := [(4, (.bool c8))]) hk]
      refine At.ret K ?_
      refine ⟨(.bool c8), K, ?_⟩
      obtain rfl := Qg H
      exact ⟨rfl, SP.sel m7 [] rfl rfl⟩
    ·have H := cf H g4
     refine At.skip K ?_
     refine aQ ?_
     refine aR ?_
     refine iR 3 3 [(47, (.int .u8 ((a6).toNat : Int))), (48, (.int .i64 (IntKind.wrap .i64 ((a6).toNat : Int)))), (49, (pt a3 4))] ?_
     refine iS 4 ?_
     refine sL 22 49 a3 4 0 (.slice A6 (List.length (List.map stT d9)) c7) 50 b5 rfl ?_
     refine iR 1 5 [(51, (.int .i64 ((List.length (List.map stT d9) : Nat) : Int)))] ?_
     obtain ⟨hl107, H⟩ := U0 H
     refine iS 6 ?_
     refine Qi.div (op := .rem) (T := 3) (T' := 3) (x := (.tmp 48)) (y := (.tmp 51)) (kx := .i64) (a := (IntKind.wrap .i64 ((a6).toNat : Int))) (b := ((List.length (List.map stT d9) : Nat) : Int)) (v := (.int .i64 (Int.tmod (IntKind.wrap .i64 ((a6).toNat : Int)) ((List.length (List.map stT d9) : Nat) : Int)))) (d := (some 52)) (k := 5) K rfl K K hl107 rfl ?_
     refine iR 1 7 [(8, (.int .i64 (Int.tmod (IntKind.wrap .i64 ((a6).toNat : Int)) ((List.length (List.map stT d9) : Nat) : Int))))] ?_
     refine iF ?_
     refine aQ ?_
     refine aR ?_
     refine iS 1 ?_
     refine sL 24 2 a3 0 0 (.agg #[(.int .i64 a0), (.int .i64 p), (.int .i64 a1), (.int .i64 u), (.slice A6 (List.length (List.map stT d9)) c7)]) 53 b5 rfl ?_
     refine iS 2 ?_
     refine Qi.alloc (t := 24) (z := (.agg #[(.int .i64 0), (.int .i64 0), (.int .i64 0), (.int .i64 0), (.slice none (List.length ([] : List Qc)) 0)])) (d := (some 9)) (k := 1) K rfl K b5 ?_
     intro b1 v9 m8
     refine iS 3 ?_
     refine Qi.store (t := 24) (x := (.tmp 9)) (y := (.tmp 53)) (g := b1) (off := 0) (i := 3) (v := (.agg #[(.int .i64 a0), (.int .i64 p), (.int .i64 a1), (.int .i64 u), (.slice A6 (List.length (List.map stT d9)) c7)])) (cs' := #[(.int .i64 a0), (.int .i64 p), (.int .i64 a1), (.int .i64 u), (.slice A6 (List.length (List.map stT d9)) c7)]) (d := none) (k := 2) K rfl K K m8 rfl K ?_
     intro w1 m9
     refine iF ?_
     refine aQ ?_
     obtain ⟨hl119, H⟩ := Ys H
     rw [show ([] : List Qc) ++ (List.map stT d9) = (List.map stT (([] : List Qe) ++ d9)) from Cr (l := ([] : List Qe)) (m := d9)] at H
     obtain ⟨j, c9, d0, e4, H⟩ := Jm H
     obtain ⟨hl140, H⟩ := Ys H
     rw [show (List.map stT (([] : List Qe) ++ d9)) ++ ([((stT j).1, (stT j).2.1, (stT j).2.2.1, (stT j).2.2.2.1, (stT j).2.2.2.2)] : List Qc) = (List.map stT ((([] : List Qe) ++ d9) ++ ([((stT j).1, (stT j).2.1, (stT j).2.2.1, (j.2.2.2.1.1, j.2.2.2.1.2.1, (stT j).2.2.2.1), (j.2.2.2.2.1, j.2.2.2.2.2.1, (stT j).2.2.2.2))] : List Qe))) from Cr (l := (([] : List Qe) ++ d9)) (m := ([((stT j).1, (stT j).2.1, (stT j).2.2.1, (j.2.2.2.1.1, j.2.2.2.1.2.1, (stT j).2.2.2.1), (j.2.2.2.2.1, j.2.2.2.2.2.1, (stT j).2.2.2.2))] : List Qe))] at H
     refine aG [N5, GEq (pt a3 4), GEq (.slice A6 (List.length (List.map stT d9)) c7), N5, GEq (pt a3 4), GEq (.slice A6 (List.length (List.map stT d9)) c7), GEq (.int .i64 (Int.tmod (IntKind.wrap .i64 ((a6).toNat : Int)) ((List.length (List.map stT d9) : Nat) : Int))), X5 A6 Vr.sz (Int.tmod (IntKind.wrap .i64 ((a6).toNat : Int)) ((List.length (List.map stT d9) : Nat) : Int)), GEq (.agg #[(.string ⟨List.toArray (stT j).1⟩), (.int .i64 (stT j).2.1), (.int .i64 (stT j).2.2.1), (.slice j.2.2.2.1.1 (List.length (stT j).2.2.2.1) j.2.2.2.1.2.1), (.slice j.2.2.2.2.1 (List.length (stT j).2.2.2.2) j.2.2.2.2.2.1)]), N5, N5, GEq (pt b1 4), N5] [0, 3, 9, 10, 12] [([], fun vs w => VL vs [] ∧ SP [] w0 w [Qr a3 24 #[(.int .i64 a0), (.int .i64 p), (.int .i64 a1), (.int .i64 u), (.slice A6 (List.length (List.map stT d9)) c7)], Qr a9 24 #[(.int .i64 a0), (.int .i64 p), (.int .i64 0), (.int .i64 u), (.slice A6 (List.length (List.map stT d9)) c7)], Qr b0 24 #[(.int .i64 1073741825), (.int .i64 p), (.int .i64 a1), (.int .i64 u), (.slice A6 (List.length (List.map stT d9)) c7)], Qr b1 24 #[(.int .i64 a0), (.int .i64 p), (.int .i64 a1), (.int .i64 u), (.slice A6 (List.length (List.map stT d9)) c7)]]), ([0], fun vs w => ∃ (b2 : Nat), VL vs [(.slice (some ⟨b2, 0, none⟩) (List.length ([] : List Qc)) (List.length ([] : List Qc)))] ∧ SP [] w0 w [Qr a3 24 #[(.int .i64 a0), (.int .i64 p), (.int .i64 a1), (.int .i64 u), (.slice A6 (List.length (List.map stT d9)) c7)], Qr a9 24 #[(.int .i64 a0), (.int .i64 p), (.int .i64 0), (.int .i64 u), (.slice A6 (List.length (List.map stT d9)) c7)], Qr b0 24 #[(.int .i64 1073741825), (.int .i64 p), (.int .i64 a1), (.int .i64 u), (.slice A6 (List.length (List.map stT d9)) c7)], Qr b1 24 #[(.int .i64 a0), (.int .i64 p), (.int .i64 a1), (.int .i64 u), (.slice A6 (List.length (List.map stT d9)) c7)], Q3 33 Vr (some ⟨b2, 0, none⟩) (List.length ([] : List Qc)) ([] : List Qe)]), ([9], fun vs w => ∃ (e5 : Nat), VL vs [(.slice (some ⟨e5, 0, none⟩) (List.length ([((stT j).1, (stT j).2.1, (stT j).2.2.1, (stT j).2.2.2.1, (stT j).2.2.2.2)] : List Qc)) (List.length ([((stT j).1, (stT j).2.1, (stT j).2.2.1, (stT j).2.2.2.1, (stT j).2.2.2.2)] : List Qc)))] ∧ SP [] w0 w [Qr a3 24 #[(.int .i64 a0), (.int .i64 p), (.int .i64 a1), (.int .i64 u), (.slice A6 (List.length (List.map stT d9)) c7)], Qr a9 24 #[(.int .i64 a0), (.int .i64 p), (.int .i64 0), (.int .i64 u), (.slice A6 (List.length (List.map stT d9)) c7)], Qr b0 24 #[(.int .i64 1073741825), (.int .i64 p), (.int .i64 a1), (.int .i64 u), (.slice A6 (List.length (List.map stT d9)) c7)], Qr b1 24 #[(.int .i64 a0), (.int .i64 p), (.int .i64 a1), (.int .i64 u), (.slice A6 (List.length (List.map stT d9)) c7)], Q3 33 Vr (some ⟨e5, 0, none⟩) (List.length ([((stT j).1, (stT j).2.1, (stT j).2.2.1, (stT j).2.2.2.1, (stT j).2.2.2.2)] : List Qc)) ([((stT j).1, (stT j).2.1, (stT j).2.2.1, (j.2.2.2.1.1, j.2.2.2.1.2.1, (stT j).2.2.2.1), (j.2.2.2.2.1, j.2.2.2.2.2.1, (stT j).2.2.2.2))] : List Qe)]), ([0, 3], fun vs w => ∃ (d1 : Nat), ∃ (b8 : Option Addr), ∃ (b9 : Nat), VL vs [(.slice (some ⟨d1, 0, none⟩) (List.length ([] : List Qc)) (List.length ([] : List Qc))), (.slice b8 (List.length (List.map stT (([] : List Qe) ++ d9))) b9)] ∧ SP [] w0 w [Qr a3 24 #[(.int .i64 a0), (.int .i64 p), (.int .i64 a1), (.int .i64 u), (.slice A6 (List.length (List.map stT d9)) c7)], Qr a9 24 #[(.int .i64 a0), (.int .i64 p), (.int .i64 0), (.int .i64 u), (.slice A6 (List.length (List.map stT d9)) c7)], Qr b0 24 #[(.int .i64 1073741825), (.int .i64 p), (.int .i64 a1), (.int .i64 u), (.slice A6 (List.length (List.map stT d9)) c7)], Qr b1 24 #[(.int .i64 a0), (.int .i64 p), (.int .i64 a1), (.int .i64 u), (.slice A6 (List.length (List.map stT d9)) c7)], Q3 33 Vr b8 b9 (([] : List Qe) ++ d9)]), ([0, 9], fun vs w => ∃ (c0 : Nat), ∃ (e6 : Nat), VL vs [(.slice (some ⟨c0, 0, none⟩) (List.length ([] : List Qc)) (List.length ([] : List Qc))), (.slice (some ⟨e6, 0, none⟩) (List.length ([((stT j).1, (stT j).2.1, (stT j).2.2.1, (stT j).2.2.2.1, (stT j).2.2.2.2)] : List Qc)) (List.length ([((stT j).1, (stT j).2.1, (stT j).2.2.1, (stT j).2.2.2.1, (stT j).2.2.2.2)] : List Qc)))] ∧ SP [] w0 w [Qr a3 24 #[(.int .i64 a0), (.int .i64 p), (.int .i64 a1), (.int .i64 u), (.slice A6 (List.length (List.map stT d9)) c7)], Qr a9 24 #[(.int .i64 a0), (.int .i64 p), (.int .i64 0), (.int .i64 u), (.slice A6 (List.length (List.map stT d9)) c7)], Qr b0 24 #[(.int .i64 1073741825), (.int .i64 p), (.int .i64 a1), (.int .i64 u), (.slice A6 (List.length (List.map stT d9)) c7)], Qr b1 24 #[(.int .i64 a0), (.int .i64 p), (.int .i64 a1), (.int .i64 u), (.slice A6 (List.length (List.map stT d9)) c7)], Q3 33 Vr (some ⟨c0, 0, none⟩) (List.length ([] : List Qc)) ([] : List Qe), Q3 33 Vr (some ⟨e6, 0, none⟩) (List.length ([((stT j).1, (stT j).2.1, (stT j).2.2.1, (stT j).2.2.2.1, (stT j).2.2.2.2)] : List Qc)) ([((stT j).1, (stT j).2.1, (stT j).2.2.1, (j.2.2.2.1.1, j.2.2.2.1.2.1, (stT j).2.2.2.1), (j.2.2.2.2.1, j.2.2.2.2.2.1, (stT j).2.2.2.2))] : List Qe)]), ([0, 3, 9], fun vs w => ∃ (g7 : Nat), ∃ (d2 : Option Addr), ∃ (d3 : Nat), ∃ (d4 : Nat), VL vs [(.slice (some ⟨g7, 0, none⟩) (List.length ([] : List Qc)) (List.length ([] : List Qc))), (.slice d2 (List.length (List.map stT (([] : List Qe) ++ d9))) d3), (.slice (some ⟨d4, 0, none⟩) (List.length ([((stT j).1, (stT j).2.1, (stT j).2.2.1, (stT j).2.2.2.1, (stT j).2.2.2.2)] : List Qc)) (List.length ([((stT j).1, (stT j).2.1, (stT j).2.2.1, (stT j).2.2.2.1, (stT j).2.2.2.2)] : List Qc)))] ∧ SP [] w0 w [Qr a3 24 #[(.int .i64 a0), (.int .i64 p), (.int .i64 a1), (.int .i64 u), (.slice A6 (List.length (List.map stT d9)) c7)], Qr a9 24 #[(.int .i64 a0), (.int .i64 p), (.int .i64 0), (.int .i64 u), (.slice A6 (List.length (List.map stT d9)) c7)], Qr b0 24 #[(.int .i64 1073741825), (.int .i64 p), (.int .i64 a1), (.int .i64 u), (.slice A6 (List.length (List.map stT d9)) c7)], Qr b1 24 #[(.int .i64 a0), (.int .i64 p), (.int .i64 a1), (.int .i64 u), (.slice A6 (List.length (List.map stT d9)) c7)], Q3 33 Vr d2 d3 (([] : List Qe) ++ d9), Q3 33 Vr (some ⟨d4, 0, none⟩) (List.length ([((stT j).1, (stT j).2.1, (stT j).2.2.1, (stT j).2.2.2.1, (stT j).2.2.2.2)] : List Qc)) ([((stT j).1, (stT j).2.1, (stT j).2.2.1, (j.2.2.2.1.1, j.2.2.2.1.2.1, (stT j).2.2.2.1), (j.2.2.2.2.1, j.2.2.2.2.2.1, (stT j).2.2.2.2))] : List Qe)]), ([0, 3, 9, 10], fun vs w => ∃ (g8 : Nat), ∃ (g9 : Option Addr), ∃ (h1 : Nat), ∃ (f3 : Nat), ∃ (c1 : Option Addr), ∃ (c3 : Nat), VL vs [(.slice (some ⟨g8, 0, none⟩) (List.length ([] : List Qc)) (List.length ([] : List Qc))), (.slice g9 (List.length (List.map stT (([] : List Qe) ++ d9))) h1), (.slice (some ⟨f3, 0, none⟩) (List.length ([((stT j).1, (stT j).2.1, (stT j).2.2.1, (stT j).2.2.2.1, (stT j).2.2.2.2)] : List Qc)) (List.length ([((stT j).1, (stT j).2.1, (stT j).2.2.1, (stT j).2.2.2.1, (stT j).2.2.2.2)] : List Qc))), (.slice c1 (List.length (List.map stT ((([] : List Qe) ++ d9) ++ ([((stT j).1, (stT j).2.1, (stT j).2.2.1, (j.2.2.2.1.1, j.2.2.2.1.2.1, (stT j).2.2.2.1), (j.2.2.2.2.1, j.2.2.2.2.2.1, (stT j).2.2.2.2))] : List Qe)))) c3)] ∧ SP [] w0 w [Qr a3 24 #[(.int .i64 a0), (.int .i64 p), (.int .i64 a1), (.int .i64 u), (.slice A6 (List.length (List.map stT d9)) c7)], Qr a9 24 #[(.int .i64 a0), (.int .i64 p), (.int .i64 0), (.int .i64 u), (.slice A6 (List.length (List.map stT d9)) c7)], Qr b0 24 #[(.int .i64 1073741825), (.int .i64 p), (.int .i64 a1), (.int .i64 u), (.slice A6 (List.length (List.map stT d9)) c7)], Qr b1 24 #[(.int .i64 a0), (.int .i64 p), (.int .i64 a1), (.int .i64 u), (.slice A6 (List.length (List.map stT d9)) c7)], Q3 33 Vr c1 c3 ((([] : List Qe) ++ d9) ++ ([((stT j).1, (stT j).2.1, (stT j).2.2.1, (j.2.2.2.1.1, j.2.2.2.1.2.1, (stT j).2.2.2.1), (j.2.2.2.2.1, j.2.2.2.2.2.1, (stT j).2.2.2.2))] : List Qe)), Q3 33 Vr (some ⟨f3, 0, none⟩) (List.length ([((stT j).1, (stT j).2.1, (stT j).2.2.1, (stT j).2.2.2.1, (stT j).2.2.2.2)] : List Qc)) ([((stT j).1, (stT j).2.1, (stT j).2.2.1, (j.2.2.2.1.1, j.2.2.2.1.2.1, (stT j).2.2.2.1), (j.2.2.2.2.1, j.2.2.2.2.2.1, (stT j).2.2.2.2))] : List Qe)]), ([0, 3, 9, 10, 12], fun vs w => ∃ (i7 : Nat), ∃ (i8 : Option Addr), ∃ (i9 : Nat), ∃ (f4 : Nat), ∃ (b6 : Option Addr), ∃ (b7 : Nat), VL vs [(.slice (some ⟨i7, 0, none⟩) (List.length ([] : List Qc)) (List.length ([] : List Qc))), (.slice i8 (List.length (List.map stT (([] : List Qe) ++ d9))) i9), (.slice (some ⟨f4, 0, none⟩) (List.length ([((stT j).1, (stT j).2.1, (stT j).2.2.1, (stT j).2.2.2.1, (stT j).2.2.2.2)] : List Qc)) (List.length ([((stT j).1, (stT j).2.1, (stT j).2.2.1, (stT j).2.2.2.1, (stT j).2.2.2.2)] : List Qc))), (.slice b6 (List.length (List.map stT ((([] : List Qe) ++ d9) ++ ([((stT j).1, (stT j).2.1, (stT j).2.2.1, (j.2.2.2.1.1, j.2.2.2.1.2.1, (stT j).2.2.2.1), (j.2.2.2.2.1, j.2.2.2.2.2.1, (stT j).2.2.2.2))] : List Qe)))) b7), undef] ∧ SP [] w0 w [Qr a3 24 #[(.int .i64 a0), (.int .i64 p), (.int .i64 a1), (.int .i64 u), (.slice A6 (List.length (List.map stT d9)) c7)], Qr a9 24 #[(.int .i64 a0), (.int .i64 p), (.int .i64 0), (.int .i64 u), (.slice A6 (List.length (List.map stT d9)) c7)], Qr b0 24 #[(.int .i64 1073741825), (.int .i64 p), (.int .i64 a1), (.int .i64 u), (.slice A6 (List.length (List.map stT d9)) c7)], Qr b1 24 #[(.int .i64 a0), (.int .i64 p), (.int .i64 a1), (.int .i64 u), (.slice b6 (List.length (List.map stT ((([] : List Qe) ++ d9) ++ ([((stT j).1, (stT j).2.1, (stT j).2.2.1, (j.2.2.2.1.1, j.2.2.2.1.2.1, (stT j).2.2.2.1), (j.2.2.2.2.1, j.2.2.2.2.2.1, (stT j).2.2.2.2))] : List Qe)))) b7)], Q3 33 Vr b6 b7 ((([] : List Qe) ++ d9) ++ ([((stT j).1, (stT j).2.1, (stT j).2.2.1, (j.2.2.2.1.1, j.2.2.2.1.2.1, (stT j).2.2.2.1), (j.2.2.2.2.1, j.2.2.2.2.2.1, (stT j).2.2.2.2))] : List Qe)), Q3 33 Vr (some ⟨f4, 0, none⟩) (List.length ([((stT j).1, (stT j).2.1, (stT j).2.2.1, (stT j).2.2.2.1, (stT j).2.2.2.2)] : List Qc)) ([((stT j).1, (stT j).2.1, (stT j).2.2.1, (j.2.2.2.1.1, j.2.2.2.1.2.1, (stT j).2.2.2.1), (j.2.2.2.2.1, j.2.2.2.2.2.1, (stT j).2.2.2.2))] : List Qe)])] 13 7 ⟨trivial, SP.drew m9⟩ ?_ ?_
     iterate 13 refine And.intro ?_ ?_
     exact trivial
     ·refine Owe.heavy K [(0, 1), (2, 4)] K (Qb ⟨K, K, ?_⟩ (Qb ⟨K, K, ?_⟩ Q1))
      ·rintro ρ' w' hs a4 ⟨w2, n0⟩
       refine kN [] trivial fun a5 => ?_
       refine Vp (e := Vr) (T := 22) (E := 33) (len := 0) (parts := #[]) (cs := #[]) ([] : List Qe) (d := (some 54)) (k := 0) K rfl (fun _ => K) n0 rfl rfl rfl rfl ?_
       intro n1 w3 n2
       refine ⟨_, Qa a5, trivial, ?_⟩
       exact (Exists.intro n1 (And.intro (And.intro rfl (trivial)) n2))
      ·rintro ρ' w' hs a4 ⟨e5, ⟨n3, -⟩, n4⟩
       refine kN [] trivial fun a5 => ?_
       refine Vp (e := Vr) (T := 22) (E := 33) (len := 0) (parts := #[]) (cs := #[]) ([] : List Qe) (d := (some 54)) (k := 0) K rfl (fun _ => K) n4 rfl rfl rfl rfl ?_
       intro n5 w4 n6
       refine ⟨_, Qa a5, trivial, ?_⟩
       exact (Exists.intro n5 (Exists.intro e5 (And.intro (And.intro rfl (And.intro n3 (trivial))) (SP.sel n6 [0, 1, 2, 3, 5, 4] rfl rfl))))
     ·exact oV (hC (hS 2 (pt a3 0)) (h0)) (pt a3 4)
     ·refine Owe.light K [0, 1, 2, 4] K (Qb ?_ (Qb ?_ (Qb ?_ (Qb ?_ Q1))))
      ·rintro ρ' w' hs a4 ⟨w5, n7⟩
       refine kM (kc (kA a4 1 55) k0) fun a5 => ?_
       refine sL 22 55 a3 4 0 (.slice A6 (List.length (List.map stT d9)) c7) 56 n7 rfl ?_
       exact eK a5
      ·rintro ρ' w' hs a4 ⟨b2, ⟨w6, -⟩, n8⟩
       refine kM (kc (kA a4 1 55) k0) fun a5 => ?_
       refine sL 22 55 a3 4 0 (.slice A6 (List.length (List.map stT d9)) c7) 56 n8 rfl ?_
       exact eK a5
      ·rintro ρ' w' hs a4 ⟨e5, ⟨w7, -⟩, n9⟩
       refine kM (kc (kA a4 1 55) k0) fun a5 => ?_
       refine sL 22 55 a3 4 0 (.slice A6 (List.length (List.map stT d9)) c7) 56 n9 rfl ?_
       exact eK a5
      ·rintro ρ' w' hs a4 ⟨c0, e6, ⟨w8, w9, -⟩, o0⟩
       refine kM (kc (kA a4 1 55) k0) fun a5 => ?_
       refine sL 22 55 a3 4 0 (.slice A6 (List.length (List.map stT d9)) c7) 56 o0 rfl ?_
       exact eK a5
     ·refine Owe.heavy K [(1, 3), (4, 5)] K (Qb ⟨K, K, ?_⟩ (Qb ⟨K, K, ?_⟩ Q1))
      ·rintro ρ' w' hs a4 ⟨b2, ⟨j0, -⟩, j1⟩
       refine kN [(54, (.slice (some ⟨b2, 0, none⟩) (List.length ([] : List Qc)) (List.length ([] : List Qc)))), (56, (.slice A6 (List.length (List.map stT d9)) c7))] ⟨(Vk (h := 0) K).symm.trans j0, a4 2 56 K, trivial⟩ fun a5 => ?_
       refine U4 stT (e := Vr) (l := ([] : List Qe)) (m := d9) (A := (some ⟨b2, 0, none⟩)) (c := (List.length ([] : List Qc))) (A2 := A6) (c2 := c7) (T := 22) (TX := 22) (E := 33) (E2 := 33) (b := 80) (s := (.tmp 54)) (x := (.tmp 56)) (i := 4) (d := (some 57)) (k := 3) K rfl K K K K rfl j1 rfl K (RdT.sp (Xu a8) j1) hl119 ?_
       intro o1 o2 x1 o3
       refine ⟨_, Qa a5, trivial, ?_⟩
       exact (Exists.intro b2 (Exists.intro o1 (Exists.intro o2 (And.intro (And.intro j0 (And.intro rfl (trivial))) o3))))
      ·rintro ρ' w' hs a4 ⟨c0, e6, ⟨j2, o4, -⟩, j3⟩
       refine kN [(54, (.slice (some ⟨c0, 0, none⟩) (List.length ([] : List Qc)) (List.length ([] : List Qc)))), (56, (.slice A6 (List.length (List.map stT d9)) c7))] ⟨(Vk (h := 0) K).symm.trans j2, a4 2 56 K, trivial⟩ fun a5 => ?_
       refine U4 stT (e := Vr) (l := ([] : List Qe)) (m := d9) (A := (some ⟨c0, 0, none⟩)) (c := (List.length ([] : List Qc))) (A2 := A6) (c2 := c7) (T := 22) (TX := 22) (E := 33) (E2 := 33) (b := 80) (s := (.tmp 54)) (x := (.tmp 56)) (i := 4) (d := (some 57)) (k := 3) K rfl K K K K rfl j3 rfl K (RdT.sp (Xu a8) j3) hl119 ?_
       intro o5 o6 x2 o7
       refine ⟨_, Qa a5, trivial, ?_⟩
       exact (Exists.intro c0 (Exists.intro o5 (Exists.intro o6 (Exists.intro e6 (And.intro (And.intro j2 (And.intro rfl (And.intro o4 (trivial)))) o7)))))
     ·exact oV (hC (hS 2 (pt a3 0)) (h0)) (pt a3 4)
     ·refine Owe.light K [0, 1, 3] K (Qb ?_ (Qb ?_ (Qb ?_ Q1)))
      ·rintro ρ' w' hs a4 ⟨x3, o8⟩
       refine kM (kc (kA a4 4 58) k0) fun a5 => ?_
       refine sL 22 58 a3 4 0 (.slice A6 (List.length (List.map stT d9)) c7) 59 o8 rfl ?_
       exact eK a5
      ·rintro ρ' w' hs a4 ⟨b2, ⟨x4, -⟩, o9⟩
       refine kM (kc (kA a4 4 58) k0) fun a5 => ?_
       refine sL 22 58 a3 4 0 (.slice A6 (List.length (List.map stT d9)) c7) 59 o9 rfl ?_
       exact eK a5
      ·rintro ρ' w' hs a4 ⟨d1, b8, b9, ⟨x5, x6, -⟩, p0⟩
       refine kM (kc (kA a4 4 58) k0) fun a5 => ?_
       refine sL 22 58 a3 4 0 (.slice A6 (List.length (List.map stT d9)) c7) 59 p0 rfl ?_
       exact eK a5
     ·exact oV (hC (hS 8 (.int .i64 (Int.tmod (IntKind.wrap .i64 ((a6).toNat : Int)) ((List.length (List.map stT d9) : Nat) : Int)))) (h0)) (.int .i64 (Int.tmod (IntKind.wrap .i64 ((a6).toNat : Int)) ((List.length (List.map stT d9) : Nat) : Int)))
     ·refine Owe.light K [0, 1, 3] K (Qb ?_ (Qb ?_ (Qb ?_ Q1)))
      ·rintro ρ' w' hs a4 ⟨x7, p1⟩
       refine kM (kc (kA a4 5 59) (kc (kA a4 6 60) k0)) fun a5 => ?_
       refine Xf stT (e := Vr) (l := d9) (A := A6) (c := c7) (T := 22) (E := 33) (x := (.tmp 59)) (ix := (.tmp 60)) (ki := .i64) (iz := (Int.tmod (IntKind.wrap .i64 ((a6).toNat : Int)) ((List.length (List.map stT d9) : Nat) : Int))) (d := (some 61)) (k := 7) K rfl K K K K (RdT.sp (Xu a8) p1) c9 d0 ?_
       intro p2 p3 p4 x8 hc282
       exact ⟨rfl, _, Qa a5, ⟨p2, p3, p4, rfl⟩⟩
      ·rintro ρ' w' hs a4 ⟨b2, ⟨x9, -⟩, p5⟩
       refine kM (kc (kA a4 5 59) (kc (kA a4 6 60) k0)) fun a5 => ?_
       refine Xf stT (e := Vr) (l := d9) (A := A6) (c := c7) (T := 22) (E := 33) (x := (.tmp 59)) (ix := (.tmp 60)) (ki := .i64) (iz := (Int.tmod (IntKind.wrap .i64 ((a6).toNat : Int)) ((List.length (List.map stT d9) : Nat) : Int))) (d := (some 61)) (k := 7) K rfl K K K K (RdT.sp (Xu a8) p5) c9 d0 ?_
       intro p6 p7 p8 y0 hc290
       exact ⟨rfl, _, Qa a5, ⟨p6, p7, p8, rfl⟩⟩
      ·rintro ρ' w' hs a4 ⟨d1, b8, b9, ⟨y1, y2, -⟩, p9⟩
       refine kM (kc (kA a4 5 59) (kc (kA a4 6 60) k0)) fun a5 => ?_
       refine Xf stT (e := Vr) (l := d9) (A := A6) (c := c7) (T := 22) (E := 33) (x := (.tmp 59)) (ix := (.tmp 60)) (ki := .i64) (iz := (Int.tmod (IntKind.wrap .i64 ((a6).toNat : Int)) ((List.length (List.map stT d9) : Nat) : Int))) (d := (some 61)) (k := 7) K rfl K K K K (RdT.sp (Xu a8) p9) c9 d0 ?_
       intro q0 q1 q2 y3 hc299
       exact ⟨rfl, _, Qa a5, ⟨q0, q1, q2, rfl⟩⟩
     ·refine Owe.light K [0, 1, 3] K (Qb ?_ (Qb ?_ (Qb ?_ Q1)))
      ·rintro ρ' w' hs a4 ⟨y4, q3⟩
       obtain ⟨q4, q5, q6, e7⟩ := a4 7 61 K
       refine kM (kc e7 k0) fun a5 => ?_
       refine Qi.cells (t := 33) (x := (.tmp 61)) (b := q4) (off := (q5 + Int.toNat (Int.tmod (IntKind.wrap .i64 ((a6).toNat : Int)) ((List.length (List.map stT d9) : Nat) : Int)) * Vr.sz)) (xs := [(.string ⟨List.toArray (stT j).1⟩), (.int .i64 (stT j).2.1), (.int .i64 (stT j).2.2.1), (.slice j.2.2.2.1.1 (List.length (stT j).2.2.2.1) j.2.2.2.1.2.1), (.slice j.2.2.2.2.1 (List.length (stT j).2.2.2.2) j.2.2.2.2.2.1)]) (d := (some 62)) (k := 8) K rfl K K K (Vy (e := Vr) (Ql (RdT.sp (Xu a8) q3) q6 c9 d0) e4 rfl) ?_
       exact eK a5
      ·rintro ρ' w' hs a4 ⟨b2, ⟨y5, -⟩, q7⟩
       obtain ⟨q8, q9, r0, e7⟩ := a4 7 61 K
       refine kM (kc e7 k0) fun a5 => ?_
       refine Qi.cells (t := 33) (x := (.tmp 61)) (b := q8) (off := (q9 + Int.toNat (Int.tmod (IntKind.wrap .i64 ((a6).toNat : Int)) ((List.length (List.map stT d9) : Nat) : Int)) * Vr.sz)) (xs := [(.string ⟨List.toArray (stT j).1⟩), (.int .i64 (stT j).2.1), (.int .i64 (stT j).2.2.1), (.slice j.2.2.2.1.1 (List.length (stT j).2.2.2.1) j.2.2.2.1.2.1), (.slice j.2.2.2.2.1 (List.length (stT j).2.2.2.2) j.2.2.2.2.2.1)]) (d := (some 62)) (k := 8) K rfl K K K (Vy (e := Vr) (Ql (RdT.sp (Xu a8) q7) r0 c9 d0) e4 rfl) ?_
       exact eK a5
      ·rintro ρ' w' hs a4 ⟨d1, b8, b9, ⟨y6, y7, -⟩, r1⟩
       obtain ⟨r2, r3, r4, e7⟩ := a4 7 61 K
       refine kM (kc e7 k0) fun a5 => ?_
       refine Qi.cells (t := 33) (x := (.tmp 61)) (b := r2) (off := (r3 + Int.toNat (Int.tmod (IntKind.wrap .i64 ((a6).toNat : Int)) ((List.length (List.map stT d9) : Nat) : Int)) * Vr.sz)) (xs := [(.string ⟨List.toArray (stT j).1⟩), (.int .i64 (stT j).2.1), (.int .i64 (stT j).2.2.1), (.slice j.2.2.2.1.1 (List.length (stT j).2.2.2.1) j.2.2.2.1.2.1), (.slice j.2.2.2.2.1 (List.length (stT j).2.2.2.2) j.2.2.2.2.2.1)]) (d := (some 62)) (k := 8) K rfl K K K (Vy (e := Vr) (Ql (RdT.sp (Xu a8) r1) r4 c9 d0) e4 rfl) ?_
       exact eK a5
     ·refine Owe.heavy K [(0, 2), (1, 4), (3, 5)] K (Qb ⟨K, K, ?_⟩ (Qb ⟨K, K, ?_⟩ (Qb ⟨K, K, ?_⟩ Q1)))
      ·rintro ρ' w' hs a4 ⟨y8, r5⟩
       refine kM (kc (kA a4 8 62) k0) fun a5 => ?_
       refine Vp (e := Vr) (T := 22) (E := 33) (len := 1) (parts := #[(0, (.tmp 62))]) (cs := #[(.string ⟨List.toArray (stT j).1⟩), (.int .i64 (stT j).2.1), (.int .i64 (stT j).2.2.1), (.slice j.2.2.2.1.1 (List.length (stT j).2.2.2.1) j.2.2.2.1.2.1), (.slice j.2.2.2.2.1 (List.length (stT j).2.2.2.2) j.2.2.2.2.2.1)]) ([((stT j).1, (stT j).2.1, (stT j).2.2.1, (j.2.2.2.1.1, j.2.2.2.1.2.1, (stT j).2.2.2.1), (j.2.2.2.2.1, j.2.2.2.2.2.1, (stT j).2.2.2.2))] : List Qe) (d := (some 63)) (k := 9) K rfl (fun _ => K) r5 rfl rfl rfl rfl ?_
       intro r6 y9 r7
       refine ⟨_, Qa a5, trivial, ?_⟩
       exact (Exists.intro r6 (And.intro (And.intro rfl (trivial)) r7))
      ·rintro ρ' w' hs a4 ⟨b2, ⟨r8, -⟩, r9⟩
       refine kM (kc (kA a4 8 62) k0) fun a5 => ?_
       refine Vp (e := Vr) (T := 22) (E := 33) (len := 1) (parts := #[(0, (.tmp 62))]) (cs := #[(.string ⟨List.toArray (stT j).1⟩), (.int .i64 (stT j).2.1), (.int .i64 (stT j).2.2.1), (.slice j.2.2.2.1.1 (List.length (stT j).2.2.2.1) j.2.2.2.1.2.1), (.slice j.2.2.2.2.1 (List.length (stT j).2.2.2.2) j.2.2.2.2.2.1)]) ([((stT j).1, (stT j).2.1, (stT j).2.2.1, (j.2.2.2.1.1, j.2.2.2.1.2.1, (stT j).2.2.2.1), (j.2.2.2.2.1, j.2.2.2.2.2.1, (stT j).2.2.2.2))] : List Qe) (d := (some 63)) (k := 9) K rfl (fun _ => K) r9 rfl rfl rfl rfl ?_
       intro s0 z0 s1
       refine ⟨_, Qa a5, trivial, ?_⟩
       exact (Exists.intro b2 (Exists.intro s0 (And.intro (And.intro r8 (And.intro rfl (trivial))) s1)))
      ·rintro ρ' w' hs a4 ⟨d1, b8, b9, ⟨s2, s3, -⟩, s4⟩
       refine kM (kc (kA a4 8 62) k0) fun a5 => ?_
       refine Vp (e := Vr) (T := 22) (E := 33) (len := 1) (parts := #[(0, (.tmp 62))]) (cs := #[(.string ⟨List.toArray (stT j).1⟩), (.int .i64 (stT j).2.1), (.int .i64 (stT j).2.2.1), (.slice j.2.2.2.1.1 (List.length (stT j).2.2.2.1) j.2.2.2.1.2.1), (.slice j.2.2.2.2.1 (List.length (stT j).2.2.2.2) j.2.2.2.2.2.1)]) ([((stT j).1, (stT j).2.1, (stT j).2.2.1, (j.2.2.2.1.1, j.2.2.2.1.2.1, (stT j).2.2.2.1), (j.2.2.2.2.1, j.2.2.2.2.2.1, (stT j).2.2.2.2))] : List Qe) (d := (some 63)) (k := 9) K rfl (fun _ => K) s4 rfl rfl rfl rfl ?_
       intro s5 z1 s6
       refine ⟨_, Qa a5, trivial, ?_⟩
       exact (Exists.intro d1 (Exists.intro b8 (Exists.intro b9 (Exists.intro s5 (And.intro (And.intro s2 (And.intro s3 (And.intro rfl (trivial)))) s6)))))
     ·refine oH 5 6 ?_
      ·rintro ρ' w' hs a4 ⟨g7, d2, d3, d4, ⟨s7, j4, j5, -⟩, j6⟩
       refine kN [(57, (.slice d2 (List.length (List.map stT (([] : List Qe) ++ d9))) d3)), (63, (.slice (some ⟨d4, 0, none⟩) (List.length ([((stT j).1, (stT j).2.1, (stT j).2.2.1, (stT j).2.2.2.1, (stT j).2.2.2.2)] : List Qc)) (List.length ([((stT j).1, (stT j).2.1, (stT j).2.2.1, (stT j).2.2.2.1, (stT j).2.2.2.2)] : List Qc))))] ⟨(Vk (h := 3) K).symm.trans j4, (Vk (h := 9) K).symm.trans j5, trivial⟩ fun a5 => ?_
       refine U4 stT (e := Vr) (l := (([] : List Qe) ++ d9)) (m := ([((stT j).1, (stT j).2.1, (stT j).2.2.1, (j.2.2.2.1.1, j.2.2.2.1.2.1, (stT j).2.2.2.1), (j.2.2.2.2.1, j.2.2.2.2.2.1, (stT j).2.2.2.2))] : List Qe)) (A := d2) (c := d3) (A2 := (some ⟨d4, 0, none⟩)) (c2 := (List.length ([((stT j).1, (stT j).2.1, (stT j).2.2.1, (stT j).2.2.2.1, (stT j).2.2.2.2)] : List Qc))) (T := 22) (TX := 22) (E := 33) (E2 := 33) (b := 80) (s := (.tmp 57)) (x := (.tmp 63)) (i := 4) (d := (some 64)) (k := 10) K rfl K K K K rfl j6 rfl K (Vd (SP.get j6 (i := 5) rfl)) hl140 ?_
       intro s8 s9 z2 t0
       refine ⟨_, Qa a5, trivial, ?_⟩
       exact (Exists.intro g7 (Exists.intro d2 (Exists.intro d3 (Exists.intro d4 (Exists.intro s8 (Exists.intro s9 (And.intro (And.intro s7 (And.intro j4 (And.intro j5 (And.intro rfl (trivial))))) t0)))))))
     ·exact oV (hC (hS 9 (pt b1 0)) (h0)) (pt b1 4)
     ·refine oH 6 7 ?_
      ·rintro ρ' w' hs a4 ⟨g8, g9, h1, f3, c1, c3, ⟨t1, t2, t3, j7, -⟩, t4⟩
       refine kN [(65, (pt b1 4)), (64, (.slice c1 (List.length (List.map stT ((([] : List Qe) ++ d9) ++ ([((stT j).1, (stT j).2.1, (stT j).2.2.1, (j.2.2.2.1.1, j.2.2.2.1.2.1, (stT j).2.2.2.1), (j.2.2.2.2.1, j.2.2.2.2.2.1, (stT j).2.2.2.2))] : List Qe)))) c3))] ⟨a4 11 65 K, (Vk (h := 10) K).symm.trans j7, trivial⟩ fun a5 => ?_
       refine Qi.store (t := 22) (x := (.tmp 65)) (y := (.tmp 64)) (g := b1) (off := 4) (i := 3) (v := (.slice c1 (List.length (List.map stT ((([] : List Qe) ++ d9) ++ ([((stT j).1, (stT j).2.1, (stT j).2.2.1, (j.2.2.2.1.1, j.2.2.2.1.2.1, (stT j).2.2.2.1), (j.2.2.2.2.1, j.2.2.2.2.2.1, (stT j).2.2.2.2))] : List Qe)))) c3)) (cs' := #[(.int .i64 a0), (.int .i64 p), (.int .i64 a1), (.int .i64 u), (.slice c1 (List.length (List.map stT ((([] : List Qe) ++ d9) ++ ([((stT j).1, (stT j).2.1, (stT j).2.2.1, (j.2.2.2.1.1, j.2.2.2.1.2.1, (stT j).2.2.2.1), (j.2.2.2.2.1, j.2.2.2.2.2.1, (stT j).2.2.2.2))] : List Qe)))) c3)]) (d := none) (k := 12) K rfl K K t4 rfl K ?_
       intro z3 t5
       refine ⟨_, Qa a5, trivial, ?_⟩
       exact (Exists.intro g8 (Exists.intro g9 (Exists.intro h1 (Exists.intro f3 (Exists.intro c1 (Exists.intro c3 (And.intro (And.intro t1 (And.intro t2 (And.intro t3 (And.intro j7 (And.intro rfl (trivial)))))) t5)))))))
     ·rintro ρ' w' hs hf ⟨i7, i8, i9, f4, b6, b7, ⟨z4, z5, z6, z7, z8, -⟩, h2⟩
      refine V1 [(2, (pt a3 0)), (5, (.bool a7)), (8, (.int .i64 (Int.tmod (IntKind.wrap .i64 ((a6).toNat : Int)) ((List.length (List.map stT d9) : Nat) : Int)))), (9, (pt b1 0))] ⟨(hs 2 K).trans K, (hs 5 K).trans K, (hs 8 K).trans K, (hs 9 K).trans K, trivial⟩ ?_
      obtain ⟨z9, t6⟩ : ∃ x, w' = x := ⟨_, rfl⟩
      rw [t6] at h2 ⊢
      refine aQ ?_
      refine aR ?_
      refine iS 1 ?_
      refine sL 24 2 a3 0 0 (.agg #[(.int .i64 a0), (.int .i64 p), (.int .i64 a1), (.int .i64 u), (.slice A6 (List.length (List.map stT d9)) c7)]) 66 h2 rfl ?_
      refine iS 2 ?_
      refine Qi.alloc (t := 24) (z := (.agg #[(.int .i64 0), (.int .i64 0), (.int .i64 0), (.int .i64 0), (.slice none (List.length ([] : List Qc)) 0)])) (d := (some 10)) (k := 1) K rfl K h2 ?_
      intro c4 aa0 t7
      refine iS 3 ?_
      refine Qi.store (t := 24) (x := (.tmp 10)) (y := (.tmp 66)) (g := c4) (off := 0) (i := 6) (v := (.agg #[(.int .i64 a0), (.int .i64 p), (.int .i64 a1), (.int .i64 u), (.slice A6 (List.length (List.map stT d9)) c7)])) (cs' := #[(.int .i64 a0), (.int .i64 p), (.int .i64 a1), (.int .i64 u), (.slice A6 (List.length (List.map stT d9)) c7)]) (d := none) (k := 2) K rfl K K t7 rfl K ?_
      intro aa1 t8
      refine iF ?_
      refine aQ ?_
      refine aR ?_
      refine iS 1 ?_
      refine Vp (e := Vr) (T := 22) (E := 33) (len := 0) (parts := #[]) (cs := #[]) ([] : List Qe) (d := (some 67)) (k := 0) K rfl (fun _ => K) t8 rfl rfl rfl rfl ?_
      intro t9 aa2 h3
      refine iR 1 2 [(68, (pt a3 4))] ?_
      refine iS 3 ?_
      refine sL 22 68 a3 4 0 (.slice A6 (List.length (List.map stT d9)) c7) 69 h3 rfl ?_
      obtain ⟨hl379, H⟩ := Ys H
      rw [show ([] : List Qc) ++ (List.map stT d9) = (List.map stT (([] : List Qe) ++ d9)) from Cr (l := ([] : List Qe)) (m := d9)] at H
      refine iS 4 ?_
      refine U4 stT (e := Vr) (l := ([] : List Qe)) (m := d9) (A := (some ⟨t9, 0, none⟩)) (c := (List.length ([] : List Qc))) (A2 := A6) (c2 := c7) (T := 22) (TX := 22) (E := 33) (E2 := 33) (b := 80) (s := (.tmp 67)) (x := (.tmp 69)) (i := 7) (d := (some 70)) (k := 3) K rfl K K K K rfl h3 rfl K (RdT.sp (Xu a8) h3) hl379 ?_
      intro b3 b4 aa3 u0
      refine iR 1 5 [(71, (pt c4 4))] ?_
      refine iS 6 ?_
      refine Qi.store (t := 22) (x := (.tmp 71)) (y := (.tmp 70)) (g := c4) (off := 4) (i := 6) (v := (.slice b3 (List.length (List.map stT (([] : List Qe) ++ d9))) b4)) (cs' := #[(.int .i64 a0), (.int .i64 p), (.int .i64 a1), (.int .i64 u), (.slice b3 (List.length (List.map stT (([] : List Qe) ++ d9))) b4)]) (d := none) (k := 5) K rfl K K u0 rfl K ?_
      intro aa4 h4
      refine iF ?_
      refine aQ ?_
      refine aR ?_
      refine iR 1 1 [(72, (pt c4 4))] ?_
      refine iS 2 ?_
      refine sL 22 72 c4 4 6 (.slice b3 (List.length (List.map stT (([] : List Qe) ++ d9))) b4) 73 h4 rfl ?_
      refine iR 1 3 [(74, (.int .i64 (Int.tmod (IntKind.wrap .i64 ((a6).toNat : Int)) ((List.length (List.map stT d9) : Nat) : Int))))] ?_
      obtain ⟨a2, u1, u2, j8, H⟩ := Jm H
      refine iS 4 ?_
      refine Xf stT (e := Vr) (l := (([] : List Qe) ++ d9)) (A := b3) (c := b4) (T := 22) (E := 33) (x := (.tmp 73)) (ix := (.tmp 74)) (ki := .i64) (iz := (Int.tmod (IntKind.wrap .i64 ((a6).toNat : Int)) ((List.length (List.map stT d9) : Nat) : Int))) (d := (some 75)) (k := 3) K rfl K K K K (Vd (SP.get h4 (i := 7) rfl)) u1 u2 ?_
      intro j9 k1 u3 aa5 hc396
      refine iR 1 5 [(76, (.pointer (some ⟨j9, (k1 + Int.toNat (Int.tmod (IntKind.wrap .i64 ((a6).toNat : Int)) ((List.length (List.map stT d9) : Nat) : Int)) * Vr.sz + 2), none⟩)))] ?_
      obtain ⟨aa6, hyl399, H⟩ := V9 H
      rw [show (List.set (List.map stT (([] : List Qe) ++ d9)) (Int.toNat (Int.tmod (IntKind.wrap .i64 ((a6).toNat : Int)) ((List.length (List.map stT d9) : Nat) : Int))) ((stT a2).1, (stT a2).2.1, 9, (stT a2).2.2.2.1, (stT a2).2.2.2.2)) = (List.map stT (List.set (([] : List Qe) ++ d9) (Int.toNat (Int.tmod (IntKind.wrap .i64 ((a6).toNat : Int)) ((List.length (List.map stT d9) : Nat) : Int))) (a2.1, a2.2.1, 9, a2.2.2.2.1, a2.2.2.2.2))) from map_setV (y := (a2.1, a2.2.1, 9, a2.2.2.2.1, a2.2.2.2.2))] at hyl399
      subst hyl399
      have hnl399 : List.length (List.map stT (List.set (([] : List Qe) ++ d9) (Int.toNat (Int.tmod (IntKind.wrap .i64 ((a6).toNat : Int)) ((List.length (List.map stT d9) : Nat) : Int))) (a2.1, a2.2.1, 9, a2.2.2.2.1, a2.2.2.2.2))) = List.length (List.map stT (([] : List Qe) ++ d9)) := len_setm
      refine iS 6 ?_
      refine Rb (e := Vr) (t := 3) (E := 33) (x := (.tmp 76)) (y := (.const (.int .i64 (9)))) (A := b3) (c := b4) (l := (([] : List Qe) ++ d9)) (q := Int.toNat (Int.tmod (IntKind.wrap .i64 ((a6).toNat : Int)) ((List.length (List.map stT d9) : Nat) : Int))) (b := j9) (off := k1) (f := 2) (i := 7) (v := (.int .i64 9)) (x0 := a2) (x' := (a2.1, a2.2.1, 9, a2.2.2.2.1, a2.2.2.2.2)) (d := none) (k := 5) K rfl u3 K K h4 rfl j8 (Nat.le_of_ble_eq_true K) rfl K ?_
      intro h5 k2
      have d5 : SP [] w0 h5 [Qr a3 24 #[(.int .i64 a0), (.int .i64 p), (.int .i64 a1), (.int .i64 u), (.slice A6 (List.length (List.map stT d9)) c7)], Qr a9 24 #[(.int .i64 a0), (.int .i64 p), (.int .i64 0), (.int .i64 u), (.slice A6 (List.length (List.map stT d9)) c7)], Qr b0 24 #[(.int .i64 1073741825), (.int .i64 p), (.int .i64 a1), (.int .i64 u), (.slice A6 (List.length (List.map stT d9)) c7)], Qr b1 24 #[(.int .i64 a0), (.int .i64 p), (.int .i64 a1), (.int .i64 u), (.slice b6 (List.length (List.map stT ((([] : List Qe) ++ d9) ++ ([((stT j).1, (stT j).2.1, (stT j).2.2.1, (j.2.2.2.1.1, j.2.2.2.1.2.1, (stT j).2.2.2.1), (j.2.2.2.2.1, j.2.2.2.2.2.1, (stT j).2.2.2.2))] : List Qe)))) b7)], Q3 33 Vr b6 b7 ((([] : List Qe) ++ d9) ++ ([((stT j).1, (stT j).2.1, (stT j).2.2.1, (j.2.2.2.1.1, j.2.2.2.1.2.1, (stT j).2.2.2.1), (j.2.2.2.2.1, j.2.2.2.2.2.1, (stT j).2.2.2.2))] : List Qe)), Q3 33 Vr (some ⟨f4, 0, none⟩) (List.length ([((stT j).1, (stT j).2.1, (stT j).2.2.1, (stT j).2.2.2.1, (stT j).2.2.2.2)] : List Qc)) ([((stT j).1, (stT j).2.1, (stT j).2.2.1, (j.2.2.2.1.1, j.2.2.2.1.2.1, (stT j).2.2.2.1), (j.2.2.2.2.1, j.2.2.2.2.2.1, (stT j).2.2.2.2))] : List Qe), Qr c4 24 #[(.int .i64 a0), (.int .i64 p), (.int .i64 a1), (.int .i64 u), (.slice b3 (List.length (List.map stT (List.set (([] : List Qe) ++ d9) (Int.toNat (Int.tmod (IntKind.wrap .i64 ((a6).toNat : Int)) ((List.length (List.map stT d9) : Nat) : Int))) (a2.1, a2.2.1, 9, a2.2.2.2.1, a2.2.2.2.2)))) b4)], Q3 33 Vr b3 b4 (List.set (([] : List Qe) ++ d9) (Int.toNat (Int.tmod (IntKind.wrap .i64 ((a6).toNat : Int)) ((List.length (List.map stT d9) : Nat) : Int))) (a2.1, a2.2.1, 9, a2.2.2.2.1, a2.2.2.2.2))] := by rw [hnl399]; exact k2
      clear k2
      refine In.known [(70, (.slice b3 (List.length (List.map stT (List.set (([] : List Qe) ++ d9) (Int.toNat (Int.tmod (IntKind.wrap .i64 ((a6).toNat : Int)) ((List.length (List.map stT d9) : Nat) : Int))) (a2.1, a2.2.1, 9, a2.2.2.2.1, a2.2.2.2.2)))) b4)), (73, (.slice b3 (List.length (List.map stT (List.set (([] : List Qe) ++ d9) (Int.toNat (Int.tmod (IntKind.wrap .i64 ((a6).toNat : Int)) ((List.length (List.map stT d9) : Nat) : Int))) (a2.1, a2.2.1, 9, a2.2.2.2.1, a2.2.2.2.2)))) b4))] ⟨(by rw [hnl399]; kernel_rfl), (by rw [hnl399]; kernel_rfl), trivial⟩ ?_
      refine iF ?_
      refine aQ ?_
      refine At.join (fun ρ w => ∃ (d6 : Bool), V8 ρ [(4, (.bool d6))] ∧ SP [] w0 w [] ∧ Vn d6 = some r) ?_ ?_
      ·refine aR ?_
       refine iR 2 2 [(77, (.bool a7)), (78, (.bool a7))] ?_
       refine In.guard (t := 78) (b := a7) K (fun h6 => ?_) (fun h6 => ?_)
       ·have H := ct H h6
        refine iS 3 ?_
        refine sL 24 9 b1 0 3 (.agg #[(.int .i64 a0), (.int .i64 p), (.int .i64 a1), (.int .i64 u), (.slice b6 (List.length (List.map stT ((([] : List Qe) ++ d9) ++ ([((stT j).1, (stT j).2.1, (stT j).2.2.1, (j.2.2.2.1.1, j.2.2.2.1.2.1, (stT j).2.2.2.1), (j.2.2.2.2.1, j.2.2.2.2.2.1, (stT j).2.2.2.2))] : List Qe)))) b7)]) 79 d5 rfl ?_
        obtain ⟨e8, u4, H⟩ := Qd H
        refine iS 4 ?_
        refine cF 22 #[(.tmp 79)] #[24] 80 Tryz.call22 (Vm b6 b7 a0 p a1 u ((([] : List Qe) ++ d9) ++ ([((stT j).1, (stT j).2.1, (stT j).2.2.1, (j.2.2.2.1.1, j.2.2.2.1.2.1, (stT j).2.2.2.1), (j.2.2.2.2.1, j.2.2.2.2.2.1, (stT j).2.2.2.2))] : List Qe)) h5 (Qv hL (SP.keeps d5)) (ds_mk (Vd (SP.get d5 (i := 4) rfl)) ((E8 (E8 elq_nil (Fk a8)) (elq_ten (fun w hb => RdT.below (Xu (dp1 (dp2 (dp2 (dp2 (Gb a8 e4)))))) hb) (fun w hb => RdT.below (Xu (dp2 (dp2 (dp2 (dp2 (Gb a8 e4)))))) hb))) h5 (SP.keeps d5))) e8 u4) ?_
        rintro e k3 ⟨rfl, k4⟩
        refine ⟨_, rfl, ?_⟩
        have d7 := SP.call d5 k4
        clear k4
        refine iR 3 7 [(81, (.bool (!e8))), (82, (.bool (!e8))), (83, (.bool (!e8)))] ?_
        refine In.guard (t := 83) (b := (!e8)) K (fun h7 => ?_) (fun h7 => ?_)
        ·have H := ct H h7
         refine iS 8 ?_
         refine sL 24 10 c4 0 6 (.agg #[(.int .i64 a0), (.int .i64 p), (.int .i64 a1), (.int .i64 u), (.slice b3 (List.length (List.map stT (List.set (([] : List Qe) ++ d9) (Int.toNat (Int.tmod (IntKind.wrap .i64 ((a6).toNat : Int)) ((List.length (List.map stT d9) : Nat) : Int))) (a2.1, a2.2.1, 9, a2.2.2.2.1, a2.2.2.2.2)))) b4)]) 84 d7 rfl ?_
         obtain ⟨e9, u5, H⟩ := Qd H
         refine iS 9 ?_
         refine cF 22 #[(.tmp 84)] #[24] 85 Tryz.call22 (Vm b3 b4 a0 p a1 u (List.set (([] : List Qe) ++ d9) (Int.toNat (Int.tmod (IntKind.wrap .i64 ((a6).toNat : Int)) ((List.length (List.map stT d9) : Nat) : Int))) (a2.1, a2.2.1, 9, a2.2.2.2.1, a2.2.2.2.2)) k3 (Qv hL (SP.keeps d7)) (ds_mk (Vd (SP.get d7 (i := 7) rfl)) ((elq_set (E8 elq_nil (Fk a8)) j8) k3 (SP.keeps d7))) e9 u5) ?_
         rintro e aa7 ⟨rfl, k5⟩
         refine ⟨_, rfl, ?_⟩
         have u6 := SP.call d7 k5
         clear k5
         refine iR 3 12 [(86, (.bool (!e9))), (87, (.bool (!e9))), (4, (.bool (!e9)))] ?_
         refine iF ?_
         exact ⟨(!e9), ⟨K, trivial⟩, SP.sel u6 [] rfl rfl, H⟩
        ·have H := cf H h7
         refine iR 5 12 [(84, undef), (85, undef), (86, undef), (87, (.bool false)), (4, (.bool false))] ?_
         refine iF ?_
         exact ⟨false, ⟨K, trivial⟩, SP.sel d7 [] rfl rfl, H⟩
       ·have H := cf H h6
        refine iR 10 12 [(79, undef), (80, undef), (81, undef), (82, (.bool false)), (83, (.bool false)), (84, undef), (85, undef), (86, undef), (87, (.bool false)), (4, (.bool false))] ?_
        refine iF ?_
        exact ⟨false, ⟨K, trivial⟩, SP.sel d5 [] rfl rfl, H⟩
      ·rintro ρ aa8 ⟨d6, hk, u7, H⟩
       unfold Vn at H
       first | refine At.known [(4, (.bool d6))] hk ?_ | rw [← Q0 (l := [(4, (.bool d6))]) hk]
       refine At.ret K ?_
       refine ⟨(.bool d6), K, ?_⟩
       obtain rfl := Qg H
       exact ⟨rfl, SP.sel u7 [] rfl rfl⟩
end Go.Proofs.YtoflbpmbkmephaaGreatDoor
namespace Go.Proofs.YtoflbpmbkmephaaGreatDoor
open Go.RowKit
theorem Rp (w g i e : Int) (l : List Qc) (c : UInt8) (hl : l.length ≤ 140737488355328) (hq : ∀ t ∈ l, TenQ t) : Zh w g i e l c = some true := by
  obtain ⟨b, hb, hb2⟩ := cfg_great w g i e l hl hq
  have k1 : Vo w g i e l c true true = some true := rfl
  unfold Zh
  rw [cfgHead, Option.bind_some, hb, Option.bind_some]
  cases b with
  | true => rw [cond_true, k1]
  | false =>
    obtain ⟨h3, _⟩ := hb2 rfl
    rw [cond_false, lCfg w g i e l hl hq, Option.bind_some]
    cases ho : Ck w g i e l with
    | false => rw [Bool.not_false, k1]
    | true =>
      have hok := (okC_iff (w, g, i, e, l)).1 ho
      obtain ⟨_, h8, hts, hris⟩ := hok
      have h8 : l.length ≤ 8 := h8
      have hris : Dm (l.map (·.1)) = true := hris
      have hts : ∀ t ∈ l, Ba t = true := hts
      have r0 : Q4 w g 0 e l = some false := by
        rw [lCfg w g 0 e l hl hq]
        unfold Ck
        rw [show Jy 0 = false from rfl]
        cases Jy w <;> cases Jy g <;> rfl
      have r1 : Q4 1073741825 g i e l = some false := by
        rw [lCfg 1073741825 g i e l hl hq]
        unfold Ck
        rw [show Jy 1073741825 = false by decide]
        rfl
      rw [Bool.not_true]
      unfold Vo
      rw [cond_false, r0, Option.bind_some, cond_false, r1, Option.bind_some, cond_false]
      by_cases hz : l = []
      · subst hz
        unfold Va
        rw [show (((List.length ([] : List Qc) : Nat) : Int) == 0) = true from rfl, cond_true, cond_true, r0, Option.bind_some, Bool.not_false, cond_true, r1, Option.bind_some]
        rfl
      · have hp := List.length_pos_iff.2 hz
        have hne : (((List.length l : Nat) : Int) == 0) = false := by rw [beq_eq_false_iff_ne]; omega
        have hc := c.toNat_lt
        have hat : Int.tmod (IntKind.wrap .i64 ((c.toNat : Nat) : Int)) ((List.length l : Nat) : Int) = ((c.toNat % l.length : Nat) : Int) := by
          rw [N8 (by omega)]
          exact tmod_nat _ _
        have hlt := Nat.mod_lt c.toNat hp
        generalize c.toNat % l.length = k at hat hlt
        have hm := List.getElem_mem hlt
        have d1 : Q4 w g i e (l ++ [l[k]]) = some false := by
          rw [lCfg w g i e (l ++ [l[k]]) (by simp; omega) (fun t ht => by
            rcases List.mem_append.1 ht with ht | ht
            · exact hq t ht
            · rw [List.mem_singleton] at ht; rw [ht]; exact hq _ hm)]
          have : Dm ((l ++ [l[k]]).map (·.1)) = false := by
            cases hr : Dm ((l ++ [l[k]]).map (·.1)) with
            | false => rfl
            | true =>
              rw [List.map_append, List.map_cons, List.map_nil] at hr
              have := Dq _ _ hr l[k].1 (List.mem_map.2 ⟨_, hm, rfl⟩)
              rw [Fl] at this
              cases this
          unfold Ck
          rw [this, Bool.and_false, Bool.and_false, Bool.and_false]
        have hset : ∀ t ∈ l.set k (l[k].1, l[k].2.1, 9, l[k].2.2.2.1, l[k].2.2.2.2), TenQ t := by
          intro t ht
          rcases List.mem_or_eq_of_mem_set ht with ht | rfl
          · exact hq t ht
          · have h := hq _ hm
            exact h
        have d2 : Q4 w g i e (l.set k (l[k].1, l[k].2.1, 9, l[k].2.2.2.1, l[k].2.2.2.2)) = some false := by
          rw [lCfg w g i e _ (by rw [List.length_set]; exact hl) hset]
          have : (l.set k (l[k].1, l[k].2.1, 9, l[k].2.2.2.1, l[k].2.2.2.2)).all Ba = false := by
            rw [List.all_eq_false]
            refine ⟨_, List.mem_iff_getElem.2 ⟨k, by rw [List.length_set]; exact hlt, List.getElem_set_self _⟩, ?_⟩
            rw [tenOk_iff]
            rintro ⟨_, _, _, _, _, _, h, _⟩
            exact absurd (show qOk 9 = true from h) (by decide)
          unfold Ck
          rw [this, Bool.false_and, Bool.and_false, Bool.and_false]
        unfold Va Vn
        rw [hne, cond_false, Bool.not_false, show chk true = some () from rfl, Option.bind_some, Ec (by simp; omega), Option.bind_some, List.nil_append, hat, Ud hlt, Option.bind_some, Ec (by simp; omega), Option.bind_some, Option.bind_some, Ud hlt, Option.bind_some, Option.bind_some, Int.toNat_natCast, cond_true]
        show (Q4 w g i e (l ++ [l[k]])).bind _ = _
        rw [d1, Option.bind_some, Bool.not_false, cond_true, d2, Option.bind_some]
        rfl
end Go.Proofs.YtoflbpmbkmephaaGreatDoor
namespace Go.Proofs.YtoflbpmbkmephaaGreatDoor
open Go.RowKit Go.ChangeShapes Go.WideShapes Go.Deep
theorem own : ownKnob Tryz.prog.godebug = none := by kernel_rfl
theorem laidOut : laidOutB Tryz.prog = true := by kernel_rfl
section
variable {H : Type} {enc : TypeId × Value → H} {W : World} {spare : Nat → Bool} {held : Bool} {base b0 : Nat} {r : Reach}
end
end Go.Proofs.YtoflbpmbkmephaaGreatDoor
namespace Go.Proofs.YtoflbpmbkmephaaGreatDoor
open Go.RowKit Go.ChangeShapes Go.WideShapes Go.Deep
section
variable {H : Type} {enc : TypeId × Value → H} {P : Program} {W : World}
def Rds (enc : TypeId × Value → H) (P : Program) (W : World) (t : TypeId) {α : Type} (e : Enc α) (Q : Nat → α → Prop) : Prop :=
  ∀ (Yg : Nat) (cs : List Value) (x : DataW H × List MemPlace), DataW.trod enc P W 0 (fun _ => true) true Yg t cs = some x → ∃ a, cs = e.enc a ∧ ∀ r, (x.1.weights P t).all (· ≤ r) = true → Q r a
def RdsFs (enc : TypeId × Value → H) (P : Program) (W : World) (o : Nat) (fs : List (TypeId × Nat)) {α : Type} (e : Enc α) (Q : Nat → α → Prop) : Prop :=
  ∀ (Yg : Nat) (cs : List Value) (xs : List (DataW H × List MemPlace)), xs.length = fs.length → (∀ (i : Nat) f, fs[i]? = some f → DataW.trod enc P W 0 (fun _ => true) true Yg f.1 ((cs.drop f.2).take (P.cellsOf f.1)) = xs[i]?) →
    ∃ a, (cs.drop o).take e.sz = e.enc a ∧ ∀ r, (DataW.weightsEach P (fs.map (·.1)) (xs.map (·.1))).all (· ≤ r) = true → Q r a
theorem N3 {t : TypeId} {k : IntKind} (ht : P.underlying t = some (.int k)) : Rds enc P W t (Q8 k) (fun _ n => (Lit.int k n).wf = true) := by
  intro Yg cs x h
  obtain ⟨n, rfl, rfl, hw⟩ := DataW.trod_int ht h
  exact ⟨n, rfl, fun _ _ => hw⟩
theorem Fa {t : TypeId} (ht : P.underlying t = some .string) : Rds enc P W t Qm (fun r s => s.length ≤ r) := by
  intro Yg cs x h
  obtain ⟨s, rfl, rfl, hs⟩ := DataW.trod_string ht h
  refine ⟨s.data.toList, rfl, fun r hr => ?_⟩
  simpa [DataW.weights] using hr
theorem Fn {t : TypeId} {o : Nat} {α : Type} {e : Enc α} {Q : Nat → α → Prop} (h : Rds enc P W t e Q) (hc : P.cellsOf t = e.sz) : RdsFs enc P W o [(t, o)] e Q := by
  intro Yg cs xs hl hf
  match xs, hl with
  | [x], _ =>
    have := hf 0 (t, o) rfl
    obtain ⟨a, ha, hq⟩ := h Yg _ _ this
    rw [hc] at ha
    refine ⟨a, ha, fun r hr => hq r ?_⟩
    simpa [DataW.weightsEach] using hr
theorem Uv {t : TypeId} {o : Nat} {fs : List (TypeId × Nat)} {α β : Type} {e : Enc α} {e' : Enc β} {Q : Nat → α → Prop} {Q' : Nat → β → Prop} (h : Rds enc P W t e Q) (hc : P.cellsOf t = e.sz) (hr : RdsFs enc P W (o + e.sz) fs e' Q') :
    RdsFs enc P W o ((t, o) :: fs) (Qh e e') (fun r a => Q r a.1 ∧ Q' r a.2) := by
  intro Yg cs xs hl hf
  match xs, hl with
  | x :: xs, hl =>
    have := hf 0 (t, o) rfl
    obtain ⟨a, ha, hq⟩ := h Yg _ _ this
    obtain ⟨b, hb, hq'⟩ := hr Yg cs xs (by simpa using hl) (fun i f hi => by have := hf (i + 1) f (by simpa using hi); simpa using this)
    refine ⟨(a, b), ?_, fun r hw => ?_⟩
    · show (cs.drop o).take (e.sz + e'.sz) = e.enc a ++ e'.enc b
      rw [hc] at ha
      rw [← ha, ← hb, List.take_add, List.drop_drop]
    · simp only [List.map_cons, DataW.weightsEach, List.all_append, Bool.and_eq_true] at hw
      exact ⟨hq r hw.1, hq' r hw.2⟩
theorem G0 {t : TypeId} {l : List (TypeId × Nat)} {α : Type} {e : Enc α} {Q : Nat → α → Prop} (hl : (match P.underlying t with | some (.struct fs) => some (fs.toList.map (fun f => (f.type, f.offset))) | _ => none) = some l) (hc : P.cellsOf t = e.sz)
    (hr : RdsFs enc P W 0 l e Q) : Rds enc P W t e Q := by
  intro Yg cs x hx
  split at hl
  · rename_i fs hs
    simp only [Option.some.injEq] at hl
    subst hl
    obtain ⟨xs, n, _, rfl, hlen, hxs, hg⟩ := DataW.trod_struct hs hx
    obtain ⟨a, ha, hq⟩ := hr n cs xs (by simpa using hxs) (fun i f hi => by
      rw [List.getElem?_map, Option.map_eq_some_iff] at hi
      obtain ⟨f', hf', rfl⟩ := hi
      exact hg i f' (by simpa using hf'))
    rw [List.drop_zero, List.take_of_length_le (by omega)] at ha
    refine ⟨a, ha, fun r hw => hq r ?_⟩
    simp only [DataW.weights, hs] at hw
    simpa [List.map_map, Function.comp_def] using hw
  · cases hl
theorem Re {t : TypeId} {n : Nat} : ∀ {ds : List (DataW H)} {d : DataW H}, d ∈ ds → n ∈ d.weights P t → n ∈ DataW.weightsAll P t ds
  | d0 :: ds, d, hd, hn => by
    simp only [DataW.weightsAll, List.mem_append]
    rcases List.mem_cons.1 hd with rfl | h
    · exact .inl hn
    · exact .inr (Re h hn)
theorem rds_row {t te : TypeId} {α : Type} {e : Enc α} {Q : Nat → α → Prop} (ht : P.underlying t = some (.slice te)) (h : Rds enc P W te e Q) (hc : P.cellsOf te = e.sz) (h0 : 0 < e.sz) {Yg : Nat} {cs : List Value} {x : DataW H × List MemPlace}
    (hx : DataW.trod enc P W 0 (fun _ => true) true Yg t cs = some x) :
    ∃ (A : Option Addr) (c : Nat) (l : List α), cs = [.slice A l.length c] ∧ RdT e W A c l ∧ ∀ r, (x.1.weights P t).all (· ≤ r) = true → l.length * P.bytesOf te ≤ r ∧ ∀ a ∈ l, Q r a := by
  rcases DataW.trod_slice ht hx with ⟨rfl, rfl⟩ | ⟨a, len, cap, elems, rest, n, _, rfl, rfl, _, hl, hm, hlen, hel, _, _⟩
  · exact ⟨none, 0, [], rfl, RdT.nil _ W, fun r _ => ⟨by simp, fun a ha => by cases ha⟩⟩
  · have each : ∀ i, i ≤ len → ∃ l : List α, l.length = i ∧ ∀ j (hj : j < l.length), W.cells? 0 (a.add (j * P.cellsOf te)) (P.cellsOf te) = some (e.enc l[j]) ∧ ∀ y, elems[j]? = some y → ∀ r, (y.1.weights P te).all (· ≤ r) = true → Q r l[j] := by
      intro i
      induction i with
      | zero => exact fun _ => ⟨[], rfl, fun j hj => by simp at hj⟩
      | succ i ih =>
        intro hi
        obtain ⟨l, hll, hlg⟩ := ih (by omega)
        have := hel i (by omega)
        rw [List.getElem?_eq_getElem (by omega), Option.bind_eq_some_iff] at this
        obtain ⟨cs', h1, h2⟩ := this
        obtain ⟨b, rfl, hb⟩ := h n cs' _ h2
        refine ⟨l ++ [b], by simp [hll], fun j hj => ?_⟩
        by_cases hji : j < l.length
        · rw [List.getElem_append_left hji]
          exact hlg j hji
        · obtain rfl : j = i := by simp at hj; omega
          subst hll
          rw [List.getElem_concat_length rfl]
          refine ⟨h1, fun y hy => ?_⟩
          rw [List.getElem?_eq_getElem (by omega), Option.some.injEq] at hy
          subst hy
          exact hb
    obtain ⟨l, hll, hlg⟩ := each len (Nat.le_refl _)
    subst hll
    refine ⟨some a, cap, l, rfl, ⟨by rw [V2], hl, hm, fun hn => ?_⟩, fun r hw => ?_⟩
    · have cell : ∀ j (hj : j < l.length) k, k < e.sz → W.cell? ((a.add (j * e.sz)).add k) = (e.enc l[j])[k]? := by
        intro j hj k hk
        have := (hlg j hj).1
        rw [hc] at this
        exact (World.cells?_some this).2.2 k hk
      have c0 := cell 0 hn 0 h0
      rw [Nat.zero_mul, List.getElem?_eq_getElem (by rw [e.len]; exact h0)] at c0
      obtain ⟨b, off, spot⟩ := a
      obtain rfl : spot = none := by simpa [Addr.add] using World.cell?_spot c0
      have hadd : ∀ i j : Nat, ((⟨b, off, none⟩ : Addr).add i).add j = ⟨b, off + (i + j), none⟩ := by
        intro i j
        unfold Addr.add
        by_cases hi : i = 0 <;> by_cases hj : j = 0 <;> simp [hi, hj, Nat.add_assoc]
      rw [hadd] at c0
      refine ⟨b, off, rfl, block_lt_of_cell c0, fun j u hu => ?_⟩
      have hlen2 := (List.getElem?_eq_some_iff.1 hu).1
      rw [V2] at hlen2
      have hq : j / e.sz < l.length := Nat.div_lt_of_lt_mul (by rw [Nat.mul_comm]; exact hlen2)
      have hk : j % e.sz < e.sz := Nat.mod_lt _ h0
      have hj : j = j / e.sz * e.sz + j % e.sz := by rw [Nat.mul_comm]; exact (Nat.div_add_mod j e.sz).symm
      have hce := cell (j / e.sz) hq (j % e.sz) hk
      rw [hadd, ← hj] at hce
      rw [hce]
      have hgt := Ui e (l := l) (i := j / e.sz) (x := l[j / e.sz]) (List.getElem?_eq_getElem hq) (j := j % e.sz) (u := (e.enc l[j / e.sz])[j % e.sz]'(by rw [e.len]; exact hk)) (List.getElem?_eq_getElem _)
      rw [← hj, hu] at hgt
      rw [List.getElem?_eq_getElem (by rw [e.len]; exact hk), ← hgt]
    · simp only [DataW.weights, ht, List.all_cons, Bool.and_eq_true, decide_eq_true_eq, List.all_append] at hw
      refine ⟨Nat.le_trans (Nat.mul_le_mul_right _ (by simp; omega)) hw.1, fun b hb => ?_⟩
      obtain ⟨j, hj, rfl⟩ := List.mem_iff_getElem.1 hb
      refine (hlg j hj).2 _ (List.getElem?_eq_getElem (by omega)) r ?_
      rw [List.all_eq_true] at hw ⊢
      intro m hm'
      exact hw.2.1 m (Re (List.mem_map.2 ⟨_, List.getElem_mem (by omega), rfl⟩) hm')
variable {r0 : Reach} {b0 : Nat}
theorem open_agg {t : TypeId} {fs : Array Field} {α : Type} {e : Enc α} {Q : Nat → α → Prop} (hs : P.underlying t = some (.struct fs)) (h : Rds enc P W t e Q) {v : Value} {d : DataW H} {p : List MemPlace} (hv : Value.okWide P W r0 b0 t v)
    (hd : DataW.Trod enc P W 0 (fun _ => true) true t v d p) (hr : ∀ n ∈ d.weights P t, n ≤ reachBytes) : ∃ a, v = .agg ⟨e.enc a⟩ ∧ Q reachBytes a := by
  obtain ⟨cs, rfl, hsz⟩ := okWide_struct hs hv
  obtain ⟨Yg, hf⟩ := hd
  obtain ⟨a, ha, hq⟩ := h Yg _ _ hf
  refine ⟨a, ?_, hq _ (by rw [List.all_eq_true]; intro n hn; exact decide_eq_true (hr n hn))⟩
  simp only [Value.cells] at ha
  rw [← ha]
end
end Go.Proofs.YtoflbpmbkmephaaGreatDoor
namespace Go.Proofs.YtoflbpmbkmephaaGreatDoor
theorem reachM : reachBytes ≤ 140737488355328 := by decide
section
variable {H : Type} {enc : TypeId × Value → H} {P : Program} {W : World}
theorem rds_ds {t te : TypeId} {α : Type} {e : Enc α} {Q : Nat → α → Prop} (p : Dp α) (ht : P.underlying t = some (.slice te)) (h : Rds enc P W te e Q) (hc : P.cellsOf te = e.sz) (h0 : 0 < e.sz) (hb : Nat.ble 1 (P.bytesOf te) = true) (hp : ∀ r a, Q r a → p.ok W a) :
    Rds enc P W t (eDS e) (fun r x => (dDS e p).ok W x ∧ x.2.2.length ≤ r ∧ ∀ a ∈ x.2.2, Q r a) := by
  intro Yg cs x hx
  obtain ⟨A, c, l, rfl, hr, hq⟩ := rds_row ht h hc h0 hx
  refine ⟨(A, c, l), rfl, fun r hw => ?_⟩
  obtain ⟨h1, h2⟩ := hq r hw
  exact ⟨⟨hr, fun y hy => hp r y (h2 y hy)⟩, Nat.le_trans (Nat.le_mul_of_pos_right _ (Nat.le_of_ble_eq_true hb)) h1, h2⟩
def NetQ (r : Nat) (n : Int × Int) : Prop := (Lit.int .u32 n.1).wf = true ∧ (Lit.int .i64 n.2).wf = true
def TokQ (r : Nat) (x : List UInt8 × List UInt8 × Int) : Prop := x.1.length ≤ r ∧ x.2.1.length ≤ r ∧ (Lit.int .i64 x.2.2).wf = true
def TenDQ (W : World) (r : Nat) (y : Qe) : Prop := y.1.length ≤ r ∧ (Lit.int .i64 y.2.1).wf = true ∧ (Lit.int .i64 y.2.2.1).wf = true ∧
  ((dDS eNet dT).ok W y.2.2.2.1 ∧ y.2.2.2.1.2.2.length ≤ r ∧ ∀ n ∈ y.2.2.2.1.2.2, NetQ r n) ∧ ((dDS eTok dT).ok W y.2.2.2.2 ∧ y.2.2.2.2.2.2.length ≤ r ∧ ∀ x ∈ y.2.2.2.2.2.2, TokQ r x)
def CfgQ (W : World) (r : Nat) (c : Int × Int × Int × Int × DS Qe) : Prop := (Lit.int .i64 c.1).wf = true ∧ (Lit.int .i64 c.2.1).wf = true ∧ (Lit.int .i64 c.2.2.1).wf = true ∧ (Lit.int .i64 c.2.2.2.1).wf = true ∧
  ((dDS Vr B3).ok W c.2.2.2.2 ∧ c.2.2.2.2.2.2.length ≤ r ∧ ∀ y ∈ c.2.2.2.2.2.2, TenDQ W r y)
theorem net_rds : Rds enc Tryz.prog W 102 eNet NetQ :=
  G0 (l := [(50, 0), (3, 1)]) (by kernel_rfl) (by kernel_rfl) (Uv (N3 Tryz.underlying50) (by kernel_rfl) (Fn (N3 Tryz.underlying3) (by kernel_rfl)))
theorem tok_rds : Rds enc Tryz.prog W 37 eTok TokQ :=
  G0 (l := [(9, 0), (9, 1), (2, 2)]) (by kernel_rfl) (by kernel_rfl) (Uv (Fa Tryz.underlying9) (by kernel_rfl) (Uv (Fa Tryz.underlying9) (by kernel_rfl) (Fn (N3 Tryz.underlying2) (by kernel_rfl))))
theorem ten_rds : Rds enc Tryz.prog W 33 Vr (TenDQ W) :=
  G0 (l := [(9, 0), (3, 1), (3, 2), (30, 3), (31, 4)]) (by kernel_rfl) (by kernel_rfl)
    (Uv (Fa Tryz.underlying9) (by kernel_rfl) (Uv (N3 Tryz.underlying3) (by kernel_rfl) (Uv (N3 Tryz.underlying3) (by kernel_rfl)
      (Uv (rds_ds dT Tryz.underlying30 net_rds (by kernel_rfl) (by decide) (by kernel_rfl) (fun _ _ _ => trivial)) (by kernel_rfl) (Fn (rds_ds dT Tryz.underlying31 tok_rds (by kernel_rfl) (by decide) (by kernel_rfl) (fun _ _ _ => trivial)) (by kernel_rfl))))))
theorem cfg_rds : Rds enc Tryz.prog W 24 (Qh (Q8 .i64) (Qh (Q8 .i64) (Qh (Q8 .i64) (Qh (Q8 .i64) (eDS Vr))))) (CfgQ W) :=
  G0 (l := [(2, 0), (2, 1), (2, 2), (2, 3), (22, 4)]) (by kernel_rfl) (by kernel_rfl)
    (Uv (N3 Tryz.underlying2) (by kernel_rfl) (Uv (N3 Tryz.underlying2) (by kernel_rfl) (Uv (N3 Tryz.underlying2) (by kernel_rfl) (Uv (N3 Tryz.underlying2) (by kernel_rfl)
      (Fn (rds_ds B3 Tryz.underlying22 ten_rds (by kernel_rfl) (by decide) (by kernel_rfl) (fun _ _ h => ⟨trivial, trivial, trivial, h.2.2.2.1.1, h.2.2.2.2.1⟩)) (by kernel_rfl))))))
theorem open_cfg {r0 : Reach} {b0 : Nat} {v : Value} {d : DataW H} {p : List MemPlace} (hv : Value.okWide Tryz.prog W r0 b0 24 v) (hd : DataW.Trod enc Tryz.prog W 0 (fun _ => true) true 24 v d p) (hr : ∀ n ∈ d.weights Tryz.prog 24, n ≤ reachBytes) :
    ∃ (a b c e : Int) (A : Option Addr) (k : Nat) (l : List Qe), v = .agg #[.int .i64 a, .int .i64 b, .int .i64 c, .int .i64 e, .slice A (List.length (List.map stT l)) k] ∧ CfgQ W reachBytes (a, b, c, e, A, k, l) := by
  obtain ⟨⟨a, b, c, e, A, k, l⟩, rfl, q⟩ := open_agg Tryz.underlying24 cfg_rds hv hd hr
  refine ⟨a, b, c, e, A, k, l, ?_, q⟩
  rw [List.length_map]
  rfl
theorem cfg_q {W : World} {a b c d : Int} {A : Option Addr} {k : Nat} {x : List Qe} (h : CfgQ W reachBytes (a, b, c, d, A, k, x)) : (List.map stT x).length ≤ 140737488355328 ∧ ∀ t ∈ List.map stT x, TenQ t := by
  have hM := reachM
  obtain ⟨_, _, _, _, _, h1, h2⟩ := h
  refine ⟨by rw [List.length_map]; exact Nat.le_trans h1 hM, fun t ht => ?_⟩
  obtain ⟨y, hy, rfl⟩ := List.mem_map.1 ht
  obtain ⟨q1, q2, q3, ⟨_, q4, q5⟩, _, q6, q7⟩ := h2 y hy
  refine ⟨Nat.le_trans q1 hM, Nat.le_trans q4 hM, Nat.le_trans q6 hM, fun n hn => ?_, fun z hz => ⟨Nat.le_trans (q7 z hz).1 hM, Nat.le_trans (q7 z hz).2.1 hM⟩⟩
  have := (q5 n hn).1
  simp [Lit.wf, IntKind.min, IntKind.max, IntKind.signed, IntKind.bits] at this
  omega
end
end Go.Proofs.YtoflbpmbkmephaaGreatDoor
namespace Go.Proofs.YtoflbpmbkmephaaGreatDoor
open Go.RowKit
abbrev Fo : List (String × DataW Unit) := [("math/bits.deBruijn32tab", Rows.laid_math_bits_deBruijn32tab), ("math/bits.deBruijn64tab", Rows.laid_math_bits_deBruijn64tab), ("internal/strconv.uint64pow10", Rows.laid_internal_strconv_uint64pow10)
  , ("unicode/utf8.acceptRanges", Rows.laid_unicode_utf8_acceptRanges), ("unicode/utf8.first", Rows.laid_unicode_utf8_first)
  ]
theorem gTab : Tryz.prog.globalNamed Gk = some 1 := by kernel_rfl
theorem gTabType : (Tryz.prog.globals[1]?).map (·.type) = some 209 := by kernel_rfl
theorem cellsTab : Tryz.prog.cellsOf 209 = 20 := by kernel_rfl
theorem cellsU64 : Tryz.prog.cellsOf 196 = 1 := by kernel_rfl
theorem laid_of {W : World} (h : laidMetH Tryz.prog Fo W) : Ub W := by
  have h1 := h.filter (fun x => x.1 == Gk)
  have e : Fo.filter (fun x => x.1 == Gk) = [(Gk, Lib.tabData .u64 Lib.pow10Tab)] := by kernel_rfl
  rw [e] at h1
  have ht : Lib.TabIs Tryz.prog W Gk .u64 Lib.pow10Tab := Lib.tabIs_of_head (rest := []) gTab gTabType Tryz.underlying209 Tryz.underlying196 cellsU64 cellsTab h1
  refine ⟨ht, fun g hg => ?_⟩
  obtain rfl := Option.some.inj (gTab.symm.trans hg)
  have := ht.cell gTab 0 (by decide)
  exact block_lt_of_cell this
def cells1 : DataW Unit → List Value
  | .lit (.int k z) => [.int k z]
  | .lit (.bool b) => [.bool b]
  | _ => []
def cells2 : DataW Unit → List Value
  | .agg l => l.flatMap cells1
  | d => cells1 d
def cells3 : DataW Unit → List Value
  | .agg l => l.flatMap cells2
  | d => cells2 d
def R8 (d : DataW Unit) : Obj → Obj
  | .cells _ t frozen => .cells (cells3 d).toArray t frozen
  | o => o
noncomputable def Bk (os : Os) : World :=
  { World.holding Tryz.prog os ⟨#[], #[], []⟩ with heap := ((((World.holding Tryz.prog os ⟨#[], #[], []⟩).heap.modify 4 (R8 Rows.laid_math_bits_deBruijn32tab)).modify 5 (R8 Rows.laid_math_bits_deBruijn64tab)).modify 1 (R8 Rows.laid_internal_strconv_uint64pow10)
    |>.modify 3 (R8 Rows.laid_unicode_utf8_acceptRanges) |>.modify 2 (R8 Rows.laid_unicode_utf8_first)
    ) }
end Go.Proofs.YtoflbpmbkmephaaGreatDoor
namespace Go.Proofs.YtoflbpmbkmephaaGreatDoor
open Go.ChangeShapes Go.WideShapes Go.ChangeAt Go.RowKit
open Go.ChangeMaps (open_string shut_string)
theorem Gg (H : Type) (enc : TypeId × Value → H) (W : World) (base : Nat) (args : Array Value) (ds gs : List (DataW H)) (before : List MemPlace) (vt : List TypeId)
    (hval : ∀ (j : Nat) t v, Tryz.f6.params[j]? = some t → args[j]? = some v → Value.okWide Tryz.prog W .any base t v)
    (hW : DataW.Whole enc Tryz.prog Tryz.f6.params.toList Rows.configChangedSpec.vars false W args.toList ds gs before) (hL : laidMetH Tryz.prog Rows.configChangedRow.laid W)
    (hZ : (DataW.weightsEach Tryz.prog (Tryz.f6.params.toList ++ vt) (ds ++ gs)).all (· ≤ reachBytes) = true) :
    Calls Tryz.prog 6 args W fun e W' => ∃ v, e = .returned v ∧ Rows.configChangedSpec.post enc Tryz.prog Tryz.f6 false true false false W args v W' := by
  have hW' := hW
  obtain ⟨p, q, hA0, hV, rfl, hfz, hnd⟩ := hW
  have hA : DataW.TrodAll enc Tryz.prog W 0 (fun _ => true) true Tryz.f6.params.toList args.toList ds p := hA0
  rw [Tryz.params6] at hA hval hZ
  obtain ⟨v0, vs0, d0, ds0, p0, q0, hargs, rfl, rfl, h0, r0⟩ := trodAll_cons hA
  obtain ⟨v1, vs1, d1, ds1, p1, q1, rfl, rfl, rfl, h1, r1⟩ := trodAll_cons r0
  obtain ⟨rfl, rfl, rfl⟩ := trodAll_nil r1
  obtain rfl : args = #[v0, v1] := by cases args; simp_all
  obtain ⟨rfl, rfl⟩ := trodVars_none hV
  have wz : ∀ (j : Nat) t d, _ → _ → ∀ n ∈ DataW.weights Tryz.prog t d, n ≤ reachBytes := fun j t d ht hd n hn => of_decide_eq_true (List.all_eq_true.1 hZ n (DataW.weights_mem_each (j := j) ht hd n hn))
  have k0 := h0
  have lt0 : ∀ x ∈ p0, x.block < W.heap.size := by obtain ⟨m, hm⟩ := k0; exact DataW.trod_lt m _ _ _ hm
  have k1 := h1
  have lt1 : ∀ x ∈ p1, x.block < W.heap.size := by obtain ⟨m, hm⟩ := k1; exact DataW.trod_lt m _ _ _ hm
  obtain ⟨a0_0, a0_1, a0_2, a0_3, A0_, c0_, l0_, rfl, q0_⟩ := open_cfg (hval 0 24 v0 rfl rfl) h0 (wz 0 24 d0 rfl rfl)
  obtain ⟨i1_, rfl, _, _, w1_⟩ := open_int Tryz.underlying5 (hval 1 5 v1 rfl rfl) h1
  have x1_ := w1_
  simp [Lit.wf, IntKind.min, IntKind.max, IntKind.signed, IntKind.bits] at x1_
  obtain ⟨c1_, rfl⟩ : ∃ c : UInt8, i1_ = (c.toNat : Int) := ⟨toU8 i1_, (u8_back (by omega)).symm⟩
  clear hA0
  refine (Jv A0_ c0_ a0_0 a0_1 a0_2 a0_3 l0_ c1_ W (laid_of hL) q0_.2.2.2.2.1 true (Rp _ _ _ _ _ _ (cfg_q q0_).1 (cfg_q q0_).2)).mono fun e W' ⟨he, bel0⟩ => ?_
  have bel := SP.keeps bel0
  subst he
  exact ⟨_, rfl, _, _, _, [], _, [], hW', trodAll_mk1 (shut_bool Tryz.underlying4 _), (trodAll_cons_mk (Below.trod laidOut (by kernel_rfl) (of_decide_eq_true (by kernel_rfl)) k0 bel lt0) (trodAll_cons_mk (Below.trod laidOut (by kernel_rfl) (of_decide_eq_true (by kernel_rfl)) k1 bel lt1) trodAll_mk0)), rfl, bel.frame _, fun h => by cases h⟩
theorem Gh (os : Os) : laidMet Tryz.prog Rows.configChangedRow.laid ((Bk os).forCall (fun _ _ => 0) ⟨#[], #[.agg #[.int .i64 0, .int .i64 0, .int .i64 0, .int .i64 0, .slice none 0 0], .int .u8 0], []⟩).memory :=
  laidMet_of_run' 8 (by kernel_rfl) (by kernel_rfl)
theorem Rq (os : Os) {H : Type} (enc : TypeId × Value → H) : ∃ places, DataW.whole enc Tryz.prog ((Bk os).forCall (fun _ _ => 0) ⟨#[], #[.agg #[.int .i64 0, .int .i64 0, .int .i64 0, .int .i64 0, .slice none 0 0], .int .u8 0], []⟩).memory Tryz.f6.params.toList Rows.configChangedSpec.vars false [.agg #[.int .i64 0, .int .i64 0, .int .i64 0, .int .i64 0, .slice none 0 0], .int .u8 0] 8 = some ([.agg [.lit (.int .i64 0), .lit (.int .i64 0), .lit (.int .i64 0), .lit (.int .i64 0), .nil], .lit (.int .u8 0)], [], places) :=
  ⟨[], by kernel_rfl⟩
theorem G8 (os : Os) (started : os.Started) (H : Type) (enc : TypeId × Value → H) (F : Stop.Interp) :
    ReturnsInHanded {} Tryz.checked os 6 .any ((OpenSpec.ofChange Rows.configChangedSpec).preRow enc Tryz.prog Tryz.f6 Rows.configChangedRow.domain false Rows.configChangedRow.laid) (((OpenSpec.ofChange Rows.configChangedSpec).at F).post enc Tryz.prog Tryz.f6 false true false false) := by
  obtain ⟨places, hx⟩ := Rq os enc
  refine returnsInHanded_of_row (C := Tryz.checked) (s := OpenSpec.ofChange Rows.configChangedSpec) own started (by kernel_rfl) Tryz.func6
    (witness_row_at (enc := enc) (C := Tryz.checked) false (Bk os) #[.agg #[.int .i64 0, .int .i64 0, .int .i64 0, .int .i64 0, .slice none 0 0], .int .u8 0] rfl (by kernel_rfl) (by kernel_rfl) (by kernel_rfl)
      (OpenSpec.preRow_of_cond 8 hx (by kernel_rfl) (fun k hk => by cases hk) (by kernel_rfl) (Gh os))) ?_
  intro W base args ds gs before hval hW _ _ hZ hL _ _
  exact Gg H enc W base args ds gs before _ hval hW hL hZ
theorem R9 : Rows.ConfigChangedSaid :=
  OpenClaim.holds_of_cond 6 Tryz.f6 rfl rfl rfl rfl rfl rfl rfl ⟨rfl, rfl, rfl, rfl, rfl⟩ rfl rfl rfl rfl rfl (by kernel_rfl) Tryz.func6 (by kernel_rfl)
    (of_decide_eq_true (by kernel_rfl)) (by unfold Func.isWrapper; first | (rw [if_pos (by decide +kernel)]; kernel_rfl) | (rw [if_neg (by decide +kernel)]; exact ⟨rfl, rfl⟩))
    (fun os started H enc _ F => by rw [OpenClaim.pre_eq_preRow]; exact G8 os started H enc F)
theorem N4 (f : FuncId) (fn : Func) (hf : Tryz.pinned.checked.prog.funcNamed Rows.configChangedRow.func = some f) (hfn : Tryz.pinned.checked.prog.funcs[f]? = some fn) :
    false = Tryz.pinned.checked.prog.looks [] ∧ ∀ (j : Nat) t, fn.params[j]? = some t → Tryz.pinned.checked.prog.wantsStandIn t = false := by
  obtain rfl : f = 6 := Option.some.inj ((show Tryz.prog.funcNamed Rows.configChangedRow.func = some 6 by kernel_rfl).symm.trans hf) |>.symm
  obtain rfl : fn = Tryz.f6 := (Option.some.inj (Tryz.func6.symm.trans hfn)).symm
  refine ⟨by kernel_rfl, fun j t ht => ?_⟩
  have ha : (Tryz.f6.params.toList.all fun t => !Tryz.prog.wantsStandIn t) = true := by kernel_rfl
  rw [List.all_eq_true] at ha
  have := ha t (by rw [← Array.getElem?_toList] at ht; exact List.mem_of_getElem? ht)
  have h2 : Tryz.prog.wantsStandIn t = false := by simpa using this
  exact h2
theorem configChanged_card : Rows.ConfigChangedCardSaid :=
  Claim7.holds_tied_plain_at .later [] _ _ _ _ R9 (fun _ h => by cases h) (by kernel_rfl) (fun _ h => by cases h) configChanged_row_tie rfl ⟨rfl, rfl⟩ (by kernel_rfl) rfl N4 (by kernel_rfl)
#print axioms configChanged_card
end Go.Proofs.YtoflbpmbkmephaaGreatDoor
