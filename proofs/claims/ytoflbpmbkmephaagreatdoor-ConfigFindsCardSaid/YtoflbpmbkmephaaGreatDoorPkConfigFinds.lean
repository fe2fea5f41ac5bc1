import Derived.Test.YtoflbpmbkmephaaGreatDoorPkConfigFinds3
set_option linter.unusedSimpArgs false
set_option linter.unusedVariables false
set_option linter.unusedSectionVars false
set_option maxRecDepth 100000
set_option maxHeartbeats 40000000
namespace Go.Proofs.YtoflbpmbkmephaaGreatDoor
open Go.RowKit
def Z8 (q4 : (List UInt8)) (p7 : (List UInt8)) : Option (Int × (List UInt8)) :=
  ((app q4 p7).bind fun a => (some (((List.length p7 : Nat) : Int), a)))
set_option maxHeartbeats 40000000 in
theorem J0 {S : List Nat} (g1 : Nat) (v2 : Value) (A5 : Option Addr) (c6 : Nat) (q4 : (List UInt8)) (p7 : (List UInt8)) (w0 : World) (hO : SP S w0 w0 [Qr g1 93 #[v2, (.slice A5 (List.length q4) c6)], Ve 5 eU8 A5 c6 q4]) (u : BP g1 v2) (r : (Int × (List UInt8))) (H : Z8 q4 p7 = some r) :
  Calls Tryz.prog 57 #[(pt g1 0), (.string ⟨List.toArray p7⟩)] w0 (fun e w' => ∃ (h : Option Addr) (j : Nat), e = .returned (.tuple #[(.int .i64 r.1), .nilIface]) ∧ SP S w0 w' [Qr g1 93 #[(pt g1 0), (.slice h (List.length r.2) j)], Ve 5 eU8 h j r.2]) := by
 unfold Z8 at H
 refine Qz (n := 19) Tryz.func57 K K K ?_
 have w := hO
 refine aQ ?_
 refine aR ?_
 refine iR 2 2 [(4, (.int .i64 0)), (5, .nilIface)] ?_
 refine iF ?_
 refine aQ ?_
 refine aR ?_
 refine iR 1 1 [(6, (pt g1 0))] ?_
 refine iS 2 ?_
 refine cF 105 #[(.tmp 6)] #[91] 7 Tryz.call105 (B8 (g := g1) (v := v2) (x := (.slice A5 (List.length q4) c6)) u w (i := 0) rfl) ?_
 rintro e z ⟨rfl, o⟩
 refine ⟨_, rfl, ?_⟩
 have p : SP S w0 z [Qr g1 93 #[(pt g1 0), (.slice A5 (List.length q4) c6)], Ve 5 eU8 A5 c6 q4] := o
 clear o
 refine iF ?_
 refine aQ ?_
 refine aR ?_
 refine iR 4 4 [(8, (pt g1 0)), (9, (pt g1 0)), (10, (pt g1 0)), (11, (pt g1 1))] ?_
 refine iS 5 ?_
 refine sL 48 11 g1 1 0 (.slice A5 (List.length q4) c6) 12 p rfl ?_
 refine iR 1 6 [(13, (.string ⟨List.toArray p7⟩))] ?_
 obtain ⟨hl26, H⟩ := Un H
 obtain ⟨q, hyl27⟩ : ∃ y, q4 ++ p7 = y := ⟨_, rfl⟩
 try rw [hyl27] at H
 refine iS 7 ?_
 refine Qm.append (e := eU8) (l := q4) (m := p7) (A := A5) (c := c6) (T := 48) (TX := 9) (E := 5) (b := 1) (s := (.tmp 12)) (x := (.tmp 13)) (i := 1) (vx := (.string ⟨List.toArray p7⟩)) (d := (some 14)) (k := 6) K rfl K K K K rfl p rfl (src_str K p7) hl26 ?_
 rw [hyl27]
 intro a f a2 a0
 refine iR 2 9 [(15, (pt g1 0)), (16, (pt g1 1))] ?_
 refine iS 10 ?_
 refine Qm.store (t := 48) (x := (.tmp 16)) (y := (.tmp 14)) (g := g1) (off := 1) (i := 0) (v := (.slice a (List.length q) f)) (cs' := #[(pt g1 0), (.slice a (List.length q) f)]) (d := none) (k := 9) K rfl K K a0 rfl K ?_
 intro a3 a1
 refine iF ?_
 refine aQ ?_
 refine aR ?_
 refine iR 4 4 [(17, (.string ⟨List.toArray p7⟩)), (18, (.int .i64 ((List.length p7 : Nat) : Int))), (4, (.int .i64 ((List.length p7 : Nat) : Int))), (5, .nilIface)] ?_
 refine iF ?_
 refine At.ret K ?_
 refine ⟨(.tuple #[(.int .i64 ((List.length p7 : Nat) : Int)), .nilIface]), K, ?_⟩
 obtain rfl := Qg H
 exact ⟨a, f, rfl, SP.sel a1 [0,1] rfl rfl⟩
def Xt (p1 : (List (List UInt8))) (q8 : (List UInt8)) : Option ((List UInt8)) :=
  ((Jm p1 ([32] : List UInt8)).bind fun a => ((app a ([10] : List UInt8)).bind fun b => ((Z8 q8 b).bind fun c => (some (c.2)))))
set_option maxHeartbeats 40000000 in
theorem X5 {S : List Nat} (A2 : Option Addr) (c3 : Nat) (g5 : Nat) (v6 : Value) (A9 : Option Addr) (c : Nat) (p1 : (List (List UInt8))) (q8 : (List UInt8)) (w0 : World) (hO : SP S w0 w0 [Qr g5 93 #[v6, (.slice A9 (List.length q8) c)], Ve 5 eU8 A9 c q8]) (s : ∀ w, Mod S w0 w → RdT Qn w A2 c3 p1) (t : BP g5 v6) (r : ((List UInt8))) (H : Xt p1 q8 = some r) :
  Calls Tryz.prog 56 #[(.slice A2 (List.length p1) c3), (pt g5 0)] w0 (fun e w' => ∃ (j : Option Addr) (l : Nat), e = .returned (.tuple #[]) ∧ SP S w0 w' [Qr g5 93 #[(pt g5 0), (.slice j (List.length r) l)], Ve 5 eU8 j l r]) := by
 unfold Xt at H
 refine Qz (n := 7) Tryz.func56 K K K ?_
 have m := hO
 refine aR ?_
 refine iR 1 1 [(3, (.slice A2 (List.length p1) c3))] ?_
 obtain ⟨f, u, H⟩ := Qc H
 refine iS 2 ?_
 refine cF 58 #[(.tmp 3), (.const (.string ⟨List.toArray ([32] : List UInt8)⟩))] #[79, 9] 4 Tryz.call58 (U1 A2 c3 p1 ([32] : List UInt8) w0 (s w0 (SP.mod m)) f u) ?_
 rintro e v ⟨rfl, o⟩
 refine ⟨_, rfl, ?_⟩
 have p := SP.call m o
 clear o
 obtain ⟨hl36, H⟩ := Un H
 obtain ⟨z, hyl35⟩ : ∃ y, f ++ ([10] : List UInt8) = y := ⟨_, rfl⟩
 rw [hyl35] at H
 refine iS 3 ?_
 refine N6 (T := 9) (T' := 9) (x := (.tmp 4)) (y := (.const (.string ⟨List.toArray ([10] : List UInt8)⟩))) (a := f) (b := ([10] : List UInt8)) (d := (some 5)) (k := 2) K rfl K K hl36 ?_
 rw [hyl35]
 obtain ⟨g, a0, H⟩ := Qc H
 refine iS 4 ?_
 refine cF 57 #[(.tmp 1), (.tmp 5)] #[93, 9] 6 Tryz.call57 (J0 g5 v6 A9 c q8 z v (Je p [0, 1] rfl rfl) t g a0) ?_
 rintro e a1 ⟨h, i, rfl, q⟩
 refine ⟨_, rfl, ?_⟩
 have a2 : SP S w0 a1 [Qr g5 93 #[(pt g5 0), (.slice h (List.length g.2) i)], Ve 5 eU8 h i g.2] := Zl p [0, 1] [] rfl rfl q rfl
 clear q
 refine iF ?_
 refine ⟨(.tuple #[]), K, ?_⟩
 obtain rfl := Qg H
 exact ⟨h, i, rfl, SP.sel a2 [0,1] rfl rfl⟩
def J9 (e : (List UInt8) → Int → Option ((List UInt8))) (k : (List UInt8) → Int → Option ((List UInt8))) (f : (List UInt8) → Int → Option ((List UInt8))) (g : Int) (c : Qf) (d : (List UInt8)) (b : Int) : Option ((List UInt8)) :=
  (cond (decide (b < ((List.length c.2.2.2.2 : Nat) : Int))) ((idx c.2.2.2.2 b).bind fun a => ((chk (Nat.ble (List.length a.2.1) 281474976710656)).bind fun _ => ((G3 a.2.1).bind fun h => ((V8 a.2.2).bind fun i => ((Xt ([([116, 111, 107, 101, 110] : List UInt8), a.1, h, i] : List (List UInt8)) d).bind fun j => (f j (IntKind.wrap .i64 (b + 1)))))))) (e d (IntKind.wrap .i64 (g + 1))))
def Y2 (a : (List UInt8) → Int → Option ((List UInt8))) (b : (List UInt8) → Int → Option ((List UInt8))) (c : Int) (d : Qf) : Nat → (List UInt8) → Int → Option ((List UInt8))
  | 0, _, _ => none
  | f + 1, e, g => J9 a b (Y2 a b c d f) c d e g
def Ua (f : (List UInt8) → Int → Option ((List UInt8))) (c : (List UInt8) → Int → Option ((List UInt8))) (g : Int) (a : Qf) (d : (List UInt8)) (b : Int) : Option ((List UInt8)) :=
  (cond (decide (b < ((List.length a.2.2.2.1 : Nat) : Int))) ((idx a.2.2.2.1 b).bind fun e => ((Ys e.1 e.2).bind fun h => ((Xt ([([110, 101, 116] : List UInt8), h] : List (List UInt8)) d).bind fun i => (c i (IntKind.wrap .i64 (b + 1)))))) (Y2 f c g a Xn d 0))
def Zo (a : (List UInt8) → Int → Option ((List UInt8))) (b : Int) (c : Qf) : Nat → (List UInt8) → Int → Option ((List UInt8))
  | 0, _, _ => none
  | f + 1, d, e => Ua a (Zo a b c f) b c d e
def Ub (e : (List UInt8) → Int → Option ((List UInt8))) (c : (List Qf)) (d : (List UInt8)) (b : Int) : Option ((List UInt8)) :=
  (cond (decide (b < ((List.length c : Nat) : Int))) ((idx c b).bind fun a => ((V8 a.2.1).bind fun f => ((V8 a.2.2.1).bind fun g => ((Xt ([([116, 101, 110, 97, 110, 116] : List UInt8), a.1, f, g] : List (List UInt8)) d).bind fun h => (Zo e b a Xn h 0))))) (some (d)))
def Vg (a : (List Qf)) : Nat → (List UInt8) → Int → Option ((List UInt8))
  | 0, _, _ => none
  | f + 1, b, c => Ub  (Vg a f) a b c
def Nq (a : Int) (b : Int) (c : Int) (d : Int) (e : (List Qf)) : Option ((List UInt8)) :=
  ((Zz a b c d e).bind fun f => (cond (!f) (some (([] : List UInt8))) ((V8 a).bind fun g => ((V8 b).bind fun h => ((V8 c).bind fun i => ((V8 d).bind fun j => ((Xt ([([116, 105, 109, 101, 115] : List UInt8), g, h, i, j] : List (List UInt8)) ([] : List UInt8)).bind fun k => (Vg e Xn k 0))))))))
set_option maxHeartbeats 40000000 in
theorem R0 (A6 : Option Addr) (c7 : Nat) (b8 : Int) (b4 : Int) (b3 : Int) (b1 : Int) (d9 : (List Qw)) (w0 : World) (hL : Ur w0) (d0 : (dDS V9 Eu).ok w0 (A6, c7, d9)) (r : ((List UInt8))) (H : Nq b8 b4 b3 b1 (List.map stT d9) = some r) :
  Calls Tryz.prog 24 #[(.agg #[(.int .i64 b8), (.int .i64 b4), (.int .i64 b3), (.int .i64 b1), (.slice A6 (List.length (List.map stT d9)) c7)])] w0 (fun e w' => e = .returned (.string ⟨List.toArray r⟩) ∧ SP [] w0 w' []) := by
 unfold Nq at H
 refine Qz (n := 83) Tryz.func24 K K K ?_
 have n5 := Q3 [] w0
 refine aQ ?_
 refine aR ?_
 refine iS 1 ?_
 refine Zu (t := 24) (x := (.tmp 0)) (v := (.agg #[(.int .i64 b8), (.int .i64 b4), (.int .i64 b3), (.int .i64 b1), (.slice A6 (List.length (List.map stT d9)) c7)])) (d := (some 1)) (k := 0) K rfl K n5 ?_
 intro u n6 e9
 refine iR 1 2 [(2, (.string ⟨List.toArray ([] : List UInt8)⟩))] ?_
 refine iF ?_
 refine aQ ?_
 refine aQ ?_
 refine aR ?_
 refine iS 1 ?_
 refine sL 24 1 u 0 0 (.agg #[(.int .i64 b8), (.int .i64 b4), (.int .i64 b3), (.int .i64 b1), (.slice A6 (List.length (List.map stT d9)) c7)]) 11 e9 rfl ?_
 obtain ⟨f9, n7, H⟩ := Qc H
 refine iS 2 ?_
 refine cF 22 #[(.tmp 11)] #[24] 12 Tryz.call22 (Xl A6 c7 b8 b4 b3 b1 d9 n6 (Q5 hL (SP.keeps e9)) (Dp.sp d0 e9) f9 n7) ?_
 rintro e z0 ⟨rfl, i7⟩
 refine ⟨_, rfl, ?_⟩
 have i8 := SP.call e9 i7
 clear i7
 refine iR 1 3 [(13, (.bool (!f9)))] ?_
 refine iF ?_
 refine Zv K (o := (.tmp 13)) K (b := (!f9)) K (fun g0 => ?_) (fun g0 => ?_)
 ·have H := ct H g0
  refine aQ ?_
  refine aR ?_
  refine iR 1 1 [(2, (.string ⟨List.toArray ([] : List UInt8)⟩))] ?_
  refine iF ?_
  refine At.ret K ?_
  refine ⟨(.string ⟨List.toArray ([] : List UInt8)⟩), K, ?_⟩
  obtain rfl := Qg H
  exact ⟨rfl, SP.sel i8 [] rfl rfl⟩
 ·have H := cf H g0
  refine At.skip K ?_
  refine aQ ?_
  refine aR ?_
  refine iS 1 ?_
  refine Qm.alloc (t := 93) (z := (.agg #[(.pointer none), (.slice none (List.length ([] : List UInt8)) 0)])) (d := (some 3)) (k := 0) K rfl K i8 ?_
  intro m z1 n8
  refine iF ?_
  refine aQ ?_
  refine aR ?_
  refine iR 2 2 [(14, (.func (.func 56) #[] #[(pt m 0)])), (4, (.func (.func 56) #[] #[(pt m 0)]))] ?_
  refine iF ?_
  refine aQ ?_
  obtain ⟨a2, n9, H⟩ := Qc H
  obtain ⟨a3, o0, H⟩ := Qc H
  obtain ⟨a5, o1, H⟩ := Qc H
  obtain ⟨a6, o2, H⟩ := Qc H
  obtain ⟨d4, o3, H⟩ := Qc H
  refine aG [GEq (.func (.func 56) #[] #[(pt m 0)]), GEq (pt u 0), GEq (.int .i64 b8), GEq (.string ⟨List.toArray a2⟩), GEq (pt u 1), GEq (.int .i64 b4), GEq (.string ⟨List.toArray a3⟩), GEq (pt u 2), GEq (.int .i64 b3), GEq (.string ⟨List.toArray a5⟩), GEq (pt u 3), GEq (.int .i64 b1), GEq (.string ⟨List.toArray a6⟩), N2, GEq (.tuple #[])] [3, 6, 9, 12, 13, 14] [([], fun vs w => VL vs [] ∧ SP [] w0 w [Qr u 24 #[(.int .i64 b8), (.int .i64 b4), (.int .i64 b3), (.int .i64 b1), (.slice A6 (List.length (List.map stT d9)) c7)], Qr m 93 #[(.pointer none), (.slice none (List.length ([] : List UInt8)) 0)]]), ([3], fun vs w => VL vs [(.string ⟨List.toArray a2⟩)] ∧ SP [] w0 w [Qr u 24 #[(.int .i64 b8), (.int .i64 b4), (.int .i64 b3), (.int .i64 b1), (.slice A6 (List.length (List.map stT d9)) c7)], Qr m 93 #[(.pointer none), (.slice none (List.length ([] : List UInt8)) 0)]]), ([3, 6], fun vs w => VL vs [(.string ⟨List.toArray a2⟩), (.string ⟨List.toArray a3⟩)] ∧ SP [] w0 w [Qr u 24 #[(.int .i64 b8), (.int .i64 b4), (.int .i64 b3), (.int .i64 b1), (.slice A6 (List.length (List.map stT d9)) c7)], Qr m 93 #[(.pointer none), (.slice none (List.length ([] : List UInt8)) 0)]]), ([3, 6, 9], fun vs w => VL vs [(.string ⟨List.toArray a2⟩), (.string ⟨List.toArray a3⟩), (.string ⟨List.toArray a5⟩)] ∧ SP [] w0 w [Qr u 24 #[(.int .i64 b8), (.int .i64 b4), (.int .i64 b3), (.int .i64 b1), (.slice A6 (List.length (List.map stT d9)) c7)], Qr m 93 #[(.pointer none), (.slice none (List.length ([] : List UInt8)) 0)]]), ([3, 6, 9, 12], fun vs w => VL vs [(.string ⟨List.toArray a2⟩), (.string ⟨List.toArray a3⟩), (.string ⟨List.toArray a5⟩), (.string ⟨List.toArray a6⟩)] ∧ SP [] w0 w [Qr u 24 #[(.int .i64 b8), (.int .i64 b4), (.int .i64 b3), (.int .i64 b1), (.slice A6 (List.length (List.map stT d9)) c7)], Qr m 93 #[(.pointer none), (.slice none (List.length ([] : List UInt8)) 0)]]), ([3, 6, 9, 12, 13], fun vs w => ∃ (c5 : Nat), VL vs [(.string ⟨List.toArray a2⟩), (.string ⟨List.toArray a3⟩), (.string ⟨List.toArray a5⟩), (.string ⟨List.toArray a6⟩), (.slice (some ⟨c5, 0, none⟩) (List.length ([([116, 105, 109, 101, 115] : List UInt8), a2, a3, a5, a6] : List (List UInt8))) (List.length ([([116, 105, 109, 101, 115] : List UInt8), a2, a3, a5, a6] : List (List UInt8))))] ∧ SP [] w0 w [Qr u 24 #[(.int .i64 b8), (.int .i64 b4), (.int .i64 b3), (.int .i64 b1), (.slice A6 (List.length (List.map stT d9)) c7)], Qr m 93 #[(.pointer none), (.slice none (List.length ([] : List UInt8)) 0)], Ve 9 Qn (some ⟨c5, 0, none⟩) (List.length ([([116, 105, 109, 101, 115] : List UInt8), a2, a3, a5, a6] : List (List UInt8))) ([([116, 105, 109, 101, 115] : List UInt8), a2, a3, a5, a6] : List (List UInt8))]), ([3, 6, 9, 12, 13, 14], fun vs w => ∃ (g1 : Nat), ∃ (f0 : Option Addr), ∃ (f1 : Nat), VL vs [(.string ⟨List.toArray a2⟩), (.string ⟨List.toArray a3⟩), (.string ⟨List.toArray a5⟩), (.string ⟨List.toArray a6⟩), (.slice (some ⟨g1, 0, none⟩) (List.length ([([116, 105, 109, 101, 115] : List UInt8), a2, a3, a5, a6] : List (List UInt8))) (List.length ([([116, 105, 109, 101, 115] : List UInt8), a2, a3, a5, a6] : List (List UInt8)))), (.tuple #[])] ∧ SP [] w0 w [Qr u 24 #[(.int .i64 b8), (.int .i64 b4), (.int .i64 b3), (.int .i64 b1), (.slice A6 (List.length (List.map stT d9)) c7)], Ve 9 Qn (some ⟨g1, 0, none⟩) (List.length ([([116, 105, 109, 101, 115] : List UInt8), a2, a3, a5, a6] : List (List UInt8))) ([([116, 105, 109, 101, 115] : List UInt8), a2, a3, a5, a6] : List (List UInt8)), Qr m 93 #[(pt m 0), (.slice f0 (List.length d4) f1)], Ve 5 eU8 f0 f1 d4])] 15 6 ⟨trivial, SP.drew n8⟩ ?_ ?_
  iterate 15 refine And.intro ?_ ?_
  exact trivial
  ·exact oV (hC (hS 4 (.func (.func 56) #[] #[(pt m 0)])) (h0)) (.func (.func 56) #[] #[(pt m 0)])
  ·exact oV (hC (hS 1 (pt u 0)) (h0)) (pt u 0)
  ·refine oL 0 ?_
   ·rintro ρ' w' hs s ⟨z2, o4⟩
    refine kM (kc (kA s 1 16) k0) fun p => ?_
    refine sL 2 16 u 0 0 (.int .i64 b8) 17 o4 rfl ?_
    exact eK p
  ·refine oH 0 1 ?_
   ·rintro ρ' w' hs s ⟨z3, i9⟩
    refine kM (kc (kA s 2 17) k0) fun p => ?_
    refine cF 59 #[(.tmp 17)] #[2] 18 Tryz.call59 (V1  b8 w' (Q5 hL (SP.keeps i9)) a2 n9) ?_
    rintro e z4 ⟨rfl, j0⟩
    refine ⟨_, rfl, ?_⟩
    have o5 := SP.call i9 j0
    clear j0
    refine ⟨_, Qa p, rfl, ?_⟩
    exact (And.intro (And.intro rfl (trivial)) o5)
  ·exact oV (hC (hS 1 (pt u 0)) (h0)) (pt u 1)
  ·refine Owe.light K [0, 1] K (Qb ?_ (Qb ?_ Qy))
   ·rintro ρ' w' hs s ⟨z5, o6⟩
    refine kM (kc (kA s 4 19) k0) fun p => ?_
    refine sL 2 19 u 1 0 (.int .i64 b4) 20 o6 rfl ?_
    exact eK p
   ·rintro ρ' w' hs s ⟨⟨z6, -⟩, o7⟩
    refine kM (kc (kA s 4 19) k0) fun p => ?_
    refine sL 2 19 u 1 0 (.int .i64 b4) 20 o7 rfl ?_
    exact eK p
  ·refine oH 1 2 ?_
   ·rintro ρ' w' hs s ⟨⟨o8, -⟩, j1⟩
    refine kM (kc (kA s 5 20) k0) fun p => ?_
    refine cF 59 #[(.tmp 20)] #[2] 21 Tryz.call59 (V1  b4 w' (Q5 hL (SP.keeps j1)) a3 o0) ?_
    rintro e z7 ⟨rfl, j2⟩
    refine ⟨_, rfl, ?_⟩
    have o9 := SP.call j1 j2
    clear j2
    refine ⟨_, Qa p, rfl, ?_⟩
    exact (And.intro (And.intro o8 (And.intro rfl (trivial))) o9)
  ·exact oV (hC (hS 1 (pt u 0)) (h0)) (pt u 2)
  ·refine Owe.light K [0, 1, 2] K (Qb ?_ (Qb ?_ (Qb ?_ Qy)))
   ·rintro ρ' w' hs s ⟨z8, p0⟩
    refine kM (kc (kA s 7 22) k0) fun p => ?_
    refine sL 2 22 u 2 0 (.int .i64 b3) 23 p0 rfl ?_
    exact eK p
   ·rintro ρ' w' hs s ⟨⟨z9, -⟩, p1⟩
    refine kM (kc (kA s 7 22) k0) fun p => ?_
    refine sL 2 22 u 2 0 (.int .i64 b3) 23 p1 rfl ?_
    exact eK p
   ·rintro ρ' w' hs s ⟨⟨aa0, aa1, -⟩, p2⟩
    refine kM (kc (kA s 7 22) k0) fun p => ?_
    refine sL 2 22 u 2 0 (.int .i64 b3) 23 p2 rfl ?_
    exact eK p
  ·refine oH 2 3 ?_
   ·rintro ρ' w' hs s ⟨⟨p3, p4, -⟩, j3⟩
    refine kM (kc (kA s 8 23) k0) fun p => ?_
    refine cF 59 #[(.tmp 23)] #[2] 24 Tryz.call59 (V1  b3 w' (Q5 hL (SP.keeps j3)) a5 o1) ?_
    rintro e aa2 ⟨rfl, j4⟩
    refine ⟨_, rfl, ?_⟩
    have p5 := SP.call j3 j4
    clear j4
    refine ⟨_, Qa p, rfl, ?_⟩
    exact (And.intro (And.intro p3 (And.intro p4 (And.intro rfl (trivial)))) p5)
  ·exact oV (hC (hS 1 (pt u 0)) (h0)) (pt u 3)
  ·refine Owe.light K [0, 1, 2, 3] K (Qb ?_ (Qb ?_ (Qb ?_ (Qb ?_ Qy))))
   ·rintro ρ' w' hs s ⟨aa3, p6⟩
    refine kM (kc (kA s 10 25) k0) fun p => ?_
    refine sL 2 25 u 3 0 (.int .i64 b1) 26 p6 rfl ?_
    exact eK p
   ·rintro ρ' w' hs s ⟨⟨aa4, -⟩, p7⟩
    refine kM (kc (kA s 10 25) k0) fun p => ?_
    refine sL 2 25 u 3 0 (.int .i64 b1) 26 p7 rfl ?_
    exact eK p
   ·rintro ρ' w' hs s ⟨⟨aa5, aa6, -⟩, p8⟩
    refine kM (kc (kA s 10 25) k0) fun p => ?_
    refine sL 2 25 u 3 0 (.int .i64 b1) 26 p8 rfl ?_
    exact eK p
   ·rintro ρ' w' hs s ⟨⟨aa7, aa8, aa9, -⟩, p9⟩
    refine kM (kc (kA s 10 25) k0) fun p => ?_
    refine sL 2 25 u 3 0 (.int .i64 b1) 26 p9 rfl ?_
    exact eK p
  ·refine oH 3 4 ?_
   ·rintro ρ' w' hs s ⟨⟨q0, q1, q2, -⟩, j5⟩
    refine kM (kc (kA s 11 26) k0) fun p => ?_
    refine cF 59 #[(.tmp 26)] #[2] 27 Tryz.call59 (V1  b1 w' (Q5 hL (SP.keeps j5)) a6 o2) ?_
    rintro e ab0 ⟨rfl, j6⟩
    refine ⟨_, rfl, ?_⟩
    have q3 := SP.call j5 j6
    clear j6
    refine ⟨_, Qa p, rfl, ?_⟩
    exact (And.intro (And.intro q0 (And.intro q1 (And.intro q2 (And.intro rfl (trivial))))) q3)
  ·refine oH 4 5 ?_
   ·rintro ρ' w' hs s ⟨⟨j7, j8, j9, k1, -⟩, q4⟩
    refine kN [(18, (.string ⟨List.toArray a2⟩)), (21, (.string ⟨List.toArray a3⟩)), (24, (.string ⟨List.toArray a5⟩)), (27, (.string ⟨List.toArray a6⟩))] ⟨(Q9 (h := 3) K).symm.trans j7, (Q9 (h := 6) K).symm.trans j8, (Q9 (h := 9) K).symm.trans j9, (Q9 (h := 12) K).symm.trans k1, trivial⟩ fun p => ?_
    refine Zk (e := Qn) (T := 79) (E := 9) (len := 5) (parts := #[(0, (.const (.string ⟨List.toArray ([116, 105, 109, 101, 115] : List UInt8)⟩))), (1, (.tmp 18)), (2, (.tmp 21)), (3, (.tmp 24)), (4, (.tmp 27))]) (cs := #[(.string ⟨List.toArray ([116, 105, 109, 101, 115] : List UInt8)⟩), (.string ⟨List.toArray a2⟩), (.string ⟨List.toArray a3⟩), (.string ⟨List.toArray a5⟩), (.string ⟨List.toArray a6⟩)]) ([([116, 105, 109, 101, 115] : List UInt8), a2, a3, a5, a6] : List (List UInt8)) (d := (some 28)) (k := 13) K rfl (fun _ => K) q4 rfl rfl rfl rfl ?_
    intro q5 ab1 q6
    refine ⟨_, Qa p, trivial, ?_⟩
    exact (Exists.intro q5 (And.intro (And.intro j7 (And.intro j8 (And.intro j9 (And.intro k1 (And.intro rfl (trivial)))))) q6))
  ·refine oH 5 6 ?_
   ·rintro ρ' w' hs s ⟨c5, ⟨q7, q8, q9, r0, k2, -⟩, r1⟩
    refine kN [(15, (.func (.func 56) #[] #[(pt m 0)])), (28, (.slice (some ⟨c5, 0, none⟩) (List.length ([([116, 105, 109, 101, 115] : List UInt8), a2, a3, a5, a6] : List (List UInt8))) (List.length ([([116, 105, 109, 101, 115] : List UInt8), a2, a3, a5, a6] : List (List UInt8)))))] ⟨s 0 15 K, (Q9 (h := 13) K).symm.trans k2, trivial⟩ fun p => ?_
    have g2 : SP [] w0 w' [Qr u 24 #[(.int .i64 b8), (.int .i64 b4), (.int .i64 b3), (.int .i64 b1), (.slice A6 (List.length (List.map stT d9)) c7)], Qr m 93 #[(.pointer none), (.slice none (List.length ([] : List UInt8)) 0)], Ve 9 Qn (some ⟨c5, 0, none⟩) (List.length ([([116, 105, 109, 101, 115] : List UInt8), a2, a3, a5, a6] : List (List UInt8))) ([([116, 105, 109, 101, 115] : List UInt8), a2, a3, a5, a6] : List (List UInt8)), Ve 5 eU8 none 0 ([] : List UInt8)] := Uz r1 5 eU8
    refine Xf (f := 56) (fo := (.tmp 15)) (xs := #[(.tmp 28)]) (tys := #[79]) (first := #[]) (captured := #[(pt m 0)]) (d := (some 29)) (k := 14) K rfl K K Tryz.call56 (X5 (some ⟨c5, 0, none⟩) (List.length ([([116, 105, 109, 101, 115] : List UInt8), a2, a3, a5, a6] : List (List UInt8))) m (.pointer none) none 0 ([([116, 105, 109, 101, 115] : List UInt8), a2, a3, a5, a6] : List (List UInt8)) ([] : List UInt8) w' (Je g2 [1, 3] rfl rfl) (fun w hm => (Vr (SP.still g2 (l := [1, 3]) (i := 2) rfl rfl rfl hm))) (.inl rfl) d4 o3) ?_
    rintro e r2 ⟨g3, g4, rfl, k3⟩
    refine ⟨_, rfl, ?_⟩
    have r3 : SP [] w0 r2 [Qr u 24 #[(.int .i64 b8), (.int .i64 b4), (.int .i64 b3), (.int .i64 b1), (.slice A6 (List.length (List.map stT d9)) c7)], Ve 9 Qn (some ⟨c5, 0, none⟩) (List.length ([([116, 105, 109, 101, 115] : List UInt8), a2, a3, a5, a6] : List (List UInt8))) ([([116, 105, 109, 101, 115] : List UInt8), a2, a3, a5, a6] : List (List UInt8)), Qr m 93 #[(pt m 0), (.slice g3 (List.length d4) g4)], Ve 5 eU8 g3 g4 d4] := Zl g2 [1, 3] [0, 2] rfl rfl k3 rfl
    clear k3
    refine ⟨_, Qa p, rfl, ?_⟩
    exact (Exists.intro c5 (Exists.intro g3 (Exists.intro g4 (And.intro (And.intro q7 (And.intro q8 (And.intro q9 (And.intro r0 (And.intro k2 (And.intro rfl (trivial))))))) r3))))
  ·rintro ρ' w' hs hf ⟨g1, f0, f1, ⟨ab2, ab3, ab4, ab5, ab6, ab7, -⟩, g5⟩
   refine Vv [(1, (pt u 0)), (3, (pt m 0)), (4, (.func (.func 56) #[] #[(pt m 0)]))] ⟨(hs 1 K).trans K, (hs 3 K).trans K, (hs 4 K).trans K, trivial⟩ ?_
   obtain ⟨ab8, r4⟩ : ∃ x, w' = x := ⟨_, rfl⟩
   rw [r4] at g5 ⊢
   refine aQ ?_
   refine aQ ?_
   refine aR ?_
   refine iR 1 1 [(30, (pt u 4))] ?_
   refine iS 2 ?_
   refine sL 22 30 u 4 0 (.slice A6 (List.length (List.map stT d9)) c7) 31 g5 rfl ?_
   refine iR 2 4 [(32, (.int .i64 ((List.length (List.map stT d9) : Nat) : Int))), (33, (.int .i64 0))] ?_
   refine iF ?_
   refine Ya K (id := 0) K ?_
   refine Ns K (fun c3 ρ w => ∃ (b5 : (List UInt8)) (a1 : Int) (b9 : Option Addr) (c0 : Nat), Zd ρ [(3, (pt m 0)), (4, (.func (.func 56) #[] #[(pt m 0)])), (31, (.slice A6 (List.length (List.map stT d9)) c7)), (32, (.int .i64 ((List.length (List.map stT d9) : Nat) : Int))), (33, (.int .i64 a1))] ∧ SP [] w0 w [Ve 5 eU8 b9 c0 b5, Qr m 93 #[(pt m 0), (.slice b9 (List.length b5) c0)]] ∧ Vg (List.map stT d9) c3 b5 a1 = some r) (by rintro ρ w ⟨b5, a1, b9, c0, hk, hs, H⟩; cases H) ?_ Xn ?_
   ·rintro c3 ρ ab9 ⟨b5, a1, b9, c0, hk, f2, H⟩
    refine At.known [(3, (pt m 0)), (4, (.func (.func 56) #[] #[(pt m 0)])), (31, (.slice A6 (List.length (List.map stT d9)) c7)), (32, (.int .i64 ((List.length (List.map stT d9) : Nat) : Int))), (33, (.int .i64 a1))] hk ?_
    replace H := (show Ub (Vg (List.map stT d9) c3) (List.map stT d9) b5 a1 = some r from H)
    unfold Ub at H
    refine aQ ?_
    refine aR ?_
    refine iR 1 1 [(34, (.bool (decide (a1 < ((List.length (List.map stT d9) : Nat) : Int)))))] ?_
    refine iF ?_
    refine aQ ?_
    refine Zv K (o := (.tmp 34)) K (b := (decide (a1 < ((List.length (List.map stT d9) : Nat) : Int)))) K (fun g6 => ?_) (fun g6 => ?_)
    ·have H := ct H g6
     refine At.skip K ?_
     refine aQ ?_
     refine Ya K (id := 1) K ?_
     refine aQ ?_
     refine aR ?_
     obtain ⟨a, k4, k5, e3, H⟩ := Jo H
     refine iS 1 ?_
     refine Xs stT (e := V9) (l := d9) (A := A6) (c := c7) (T := 22) (E := 33) (x := (.tmp 31)) (ix := (.tmp 33)) (ki := .i64) (iz := a1) (d := (some 35)) (k := 0) K rfl K K K K (RdT.sp (X8 d0) f2) k4 k5 ?_
     intro r5 r6 r7 ac0 hc10395
     refine iS 2 ?_
     refine Qm.cells (t := 33) (x := (.tmp 35)) (b := r5) (off := (r6 + Int.toNat a1 * V9.sz)) (xs := [(.string ⟨List.toArray (stT a).1⟩), (.int .i64 (stT a).2.1), (.int .i64 (stT a).2.2.1), (.slice a.2.2.2.1.1 (List.length (stT a).2.2.2.1) a.2.2.2.1.2.1), (.slice a.2.2.2.2.1 (List.length (stT a).2.2.2.2) a.2.2.2.2.2.1)]) (d := (some 36)) (k := 1) K rfl K K K (Vy (e := V9) (Qo (RdT.sp (X8 d0) f2) r7 k4 k5) e3 rfl) ?_
     refine iS 3 ?_
     refine Qm.alloc (t := 33) (z := (.agg #[(.string ⟨List.toArray ([] : List UInt8)⟩), (.int .i64 0), (.int .i64 0), (.slice none (List.length ([] : List (Int × Int))) 0), (.slice none (List.length ([] : List ((List UInt8) × (List UInt8) × Int))) 0)])) (d := (some 6)) (k := 2) K rfl K f2 ?_
     intro a0 ac1 r8
     refine iS 4 ?_
     refine Qm.store (t := 33) (x := (.tmp 6)) (y := (.tmp 36)) (g := a0) (off := 0) (i := 2) (v := (.agg #[(.string ⟨List.toArray (stT a).1⟩), (.int .i64 (stT a).2.1), (.int .i64 (stT a).2.2.1), (.slice a.2.2.2.1.1 (List.length (stT a).2.2.2.1) a.2.2.2.1.2.1), (.slice a.2.2.2.2.1 (List.length (stT a).2.2.2.2) a.2.2.2.2.2.1)])) (cs' := #[(.string ⟨List.toArray (stT a).1⟩), (.int .i64 (stT a).2.1), (.int .i64 (stT a).2.2.1), (.slice a.2.2.2.1.1 (List.length (stT a).2.2.2.1) a.2.2.2.1.2.1), (.slice a.2.2.2.2.1 (List.length (stT a).2.2.2.2) a.2.2.2.2.2.1)]) (d := none) (k := 3) K rfl K K r8 rfl K ?_
     intro ac2 r9
     refine iF ?_
     refine aQ ?_
     obtain ⟨a7, s0, H⟩ := Qc H
     obtain ⟨a9, s1, H⟩ := Qc H
     obtain ⟨d5, s2, H⟩ := Qc H
     refine aG [GEq (.func (.func 56) #[] #[(pt m 0)]), GEq (pt a0 0), GEq (.string ⟨List.toArray (stT a).1⟩), GEq (pt a0 1), GEq (.int .i64 (stT a).2.1), GEq (.string ⟨List.toArray a7⟩), GEq (pt a0 2), GEq (.int .i64 (stT a).2.2.1), GEq (.string ⟨List.toArray a9⟩), N2, GEq (.tuple #[])] [5, 8, 9, 10] [([], fun vs w => VL vs [] ∧ SP [] w0 w [Ve 5 eU8 b9 c0 b5, Qr m 93 #[(pt m 0), (.slice b9 (List.length b5) c0)], Qr a0 33 #[(.string ⟨List.toArray (stT a).1⟩), (.int .i64 (stT a).2.1), (.int .i64 (stT a).2.2.1), (.slice a.2.2.2.1.1 (List.length (stT a).2.2.2.1) a.2.2.2.1.2.1), (.slice a.2.2.2.2.1 (List.length (stT a).2.2.2.2) a.2.2.2.2.2.1)]]), ([5], fun vs w => VL vs [(.string ⟨List.toArray a7⟩)] ∧ SP [] w0 w [Ve 5 eU8 b9 c0 b5, Qr m 93 #[(pt m 0), (.slice b9 (List.length b5) c0)], Qr a0 33 #[(.string ⟨List.toArray (stT a).1⟩), (.int .i64 (stT a).2.1), (.int .i64 (stT a).2.2.1), (.slice a.2.2.2.1.1 (List.length (stT a).2.2.2.1) a.2.2.2.1.2.1), (.slice a.2.2.2.2.1 (List.length (stT a).2.2.2.2) a.2.2.2.2.2.1)]]), ([5, 8], fun vs w => VL vs [(.string ⟨List.toArray a7⟩), (.string ⟨List.toArray a9⟩)] ∧ SP [] w0 w [Ve 5 eU8 b9 c0 b5, Qr m 93 #[(pt m 0), (.slice b9 (List.length b5) c0)], Qr a0 33 #[(.string ⟨List.toArray (stT a).1⟩), (.int .i64 (stT a).2.1), (.int .i64 (stT a).2.2.1), (.slice a.2.2.2.1.1 (List.length (stT a).2.2.2.1) a.2.2.2.1.2.1), (.slice a.2.2.2.2.1 (List.length (stT a).2.2.2.2) a.2.2.2.2.2.1)]]), ([5, 8, 9], fun vs w => ∃ (d1 : Nat), VL vs [(.string ⟨List.toArray a7⟩), (.string ⟨List.toArray a9⟩), (.slice (some ⟨d1, 0, none⟩) (List.length ([([116, 101, 110, 97, 110, 116] : List UInt8), (stT a).1, a7, a9] : List (List UInt8))) (List.length ([([116, 101, 110, 97, 110, 116] : List UInt8), (stT a).1, a7, a9] : List (List UInt8))))] ∧ SP [] w0 w [Ve 5 eU8 b9 c0 b5, Qr m 93 #[(pt m 0), (.slice b9 (List.length b5) c0)], Qr a0 33 #[(.string ⟨List.toArray (stT a).1⟩), (.int .i64 (stT a).2.1), (.int .i64 (stT a).2.2.1), (.slice a.2.2.2.1.1 (List.length (stT a).2.2.2.1) a.2.2.2.1.2.1), (.slice a.2.2.2.2.1 (List.length (stT a).2.2.2.2) a.2.2.2.2.2.1)], Ve 9 Qn (some ⟨d1, 0, none⟩) (List.length ([([116, 101, 110, 97, 110, 116] : List UInt8), (stT a).1, a7, a9] : List (List UInt8))) ([([116, 101, 110, 97, 110, 116] : List UInt8), (stT a).1, a7, a9] : List (List UInt8))]), ([5, 8, 9, 10], fun vs w => ∃ (g7 : Nat), ∃ (f3 : Option Addr), ∃ (f4 : Nat), VL vs [(.string ⟨List.toArray a7⟩), (.string ⟨List.toArray a9⟩), (.slice (some ⟨g7, 0, none⟩) (List.length ([([116, 101, 110, 97, 110, 116] : List UInt8), (stT a).1, a7, a9] : List (List UInt8))) (List.length ([([116, 101, 110, 97, 110, 116] : List UInt8), (stT a).1, a7, a9] : List (List UInt8)))), (.tuple #[])] ∧ SP [] w0 w [Qr a0 33 #[(.string ⟨List.toArray (stT a).1⟩), (.int .i64 (stT a).2.1), (.int .i64 (stT a).2.2.1), (.slice a.2.2.2.1.1 (List.length (stT a).2.2.2.1) a.2.2.2.1.2.1), (.slice a.2.2.2.2.1 (List.length (stT a).2.2.2.2) a.2.2.2.2.2.1)], Ve 9 Qn (some ⟨g7, 0, none⟩) (List.length ([([116, 101, 110, 97, 110, 116] : List UInt8), (stT a).1, a7, a9] : List (List UInt8))) ([([116, 101, 110, 97, 110, 116] : List UInt8), (stT a).1, a7, a9] : List (List UInt8)), Qr m 93 #[(pt m 0), (.slice f3 (List.length d5) f4)], Ve 5 eU8 f3 f4 d5])] 11 4 ⟨trivial, SP.drew r9⟩ ?_ ?_
     iterate 11 refine And.intro ?_ ?_
     exact trivial
     ·exact oV (hC (hS 4 (.func (.func 56) #[] #[(pt m 0)])) (h0)) (.func (.func 56) #[] #[(pt m 0)])
     ·exact oV (hC (hS 6 (pt a0 0)) (h0)) (pt a0 0)
     ·refine Owe.light K [0, 1, 2] K (Qb ?_ (Qb ?_ (Qb ?_ Qy)))
      ·rintro ρ' w' hs s ⟨ac3, s3⟩
       refine kM (kc (kA s 1 38) k0) fun p => ?_
       refine sL 9 38 a0 0 2 (.string ⟨List.toArray (stT a).1⟩) 39 s3 rfl ?_
       exact eK p
      ·rintro ρ' w' hs s ⟨⟨ac4, -⟩, s4⟩
       refine kM (kc (kA s 1 38) k0) fun p => ?_
       refine sL 9 38 a0 0 2 (.string ⟨List.toArray (stT a).1⟩) 39 s4 rfl ?_
       exact eK p
      ·rintro ρ' w' hs s ⟨⟨ac5, ac6, -⟩, s5⟩
       refine kM (kc (kA s 1 38) k0) fun p => ?_
       refine sL 9 38 a0 0 2 (.string ⟨List.toArray (stT a).1⟩) 39 s5 rfl ?_
       exact eK p
     ·exact oV (hC (hS 6 (pt a0 0)) (h0)) (pt a0 1)
     ·refine oL 0 ?_
      ·rintro ρ' w' hs s ⟨ac7, s6⟩
       refine kM (kc (kA s 3 40) k0) fun p => ?_
       refine sL 3 40 a0 1 2 (.int .i64 (stT a).2.1) 41 s6 rfl ?_
       exact eK p
     ·refine oH 0 1 ?_
      ·rintro ρ' w' hs s ⟨ac8, k6⟩
       refine kM (kc (kA s 4 41) k0) fun p => ?_
       refine cF 59 #[(.tmp 41)] #[2] 42 Tryz.call59 (V1  (stT a).2.1 w' (Q5 hL (SP.keeps k6)) a7 s0) ?_
       rintro e ac9 ⟨rfl, k7⟩
       refine ⟨_, rfl, ?_⟩
       have s7 := SP.call k6 k7
       clear k7
       refine ⟨_, Qa p, rfl, ?_⟩
       exact (And.intro (And.intro rfl (trivial)) s7)
     ·exact oV (hC (hS 6 (pt a0 0)) (h0)) (pt a0 2)
     ·refine Owe.light K [0, 1] K (Qb ?_ (Qb ?_ Qy))
      ·rintro ρ' w' hs s ⟨ad0, s8⟩
       refine kM (kc (kA s 6 43) k0) fun p => ?_
       refine sL 3 43 a0 2 2 (.int .i64 (stT a).2.2.1) 44 s8 rfl ?_
       exact eK p
      ·rintro ρ' w' hs s ⟨⟨ad1, -⟩, s9⟩
       refine kM (kc (kA s 6 43) k0) fun p => ?_
       refine sL 3 43 a0 2 2 (.int .i64 (stT a).2.2.1) 44 s9 rfl ?_
       exact eK p
     ·refine oH 1 2 ?_
      ·rintro ρ' w' hs s ⟨⟨t0, -⟩, k8⟩
       refine kM (kc (kA s 7 44) k0) fun p => ?_
       refine cF 59 #[(.tmp 44)] #[2] 45 Tryz.call59 (V1  (stT a).2.2.1 w' (Q5 hL (SP.keeps k8)) a9 s1) ?_
       rintro e ad2 ⟨rfl, k9⟩
       refine ⟨_, rfl, ?_⟩
       have t1 := SP.call k8 k9
       clear k9
       refine ⟨_, Qa p, rfl, ?_⟩
       exact (And.intro (And.intro t0 (And.intro rfl (trivial))) t1)
     ·refine oH 2 3 ?_
      ·rintro ρ' w' hs s ⟨⟨l0, l1, -⟩, t2⟩
       refine kN [(39, (.string ⟨List.toArray (stT a).1⟩)), (42, (.string ⟨List.toArray a7⟩)), (45, (.string ⟨List.toArray a9⟩))] ⟨s 2 39 K, (Q9 (h := 5) K).symm.trans l0, (Q9 (h := 8) K).symm.trans l1, trivial⟩ fun p => ?_
       refine Zk (e := Qn) (T := 79) (E := 9) (len := 4) (parts := #[(0, (.const (.string ⟨List.toArray ([116, 101, 110, 97, 110, 116] : List UInt8)⟩))), (1, (.tmp 39)), (2, (.tmp 42)), (3, (.tmp 45))]) (cs := #[(.string ⟨List.toArray ([116, 101, 110, 97, 110, 116] : List UInt8)⟩), (.string ⟨List.toArray (stT a).1⟩), (.string ⟨List.toArray a7⟩), (.string ⟨List.toArray a9⟩)]) ([([116, 101, 110, 97, 110, 116] : List UInt8), (stT a).1, a7, a9] : List (List UInt8)) (d := (some 46)) (k := 9) K rfl (fun _ => K) t2 rfl rfl rfl rfl ?_
       intro t3 ad3 t4
       refine ⟨_, Qa p, trivial, ?_⟩
       exact (Exists.intro t3 (And.intro (And.intro l0 (And.intro l1 (And.intro rfl (trivial)))) t4))
     ·refine oH 3 4 ?_
      ·rintro ρ' w' hs s ⟨d1, ⟨t5, t6, l2, -⟩, g8⟩
       refine kN [(37, (.func (.func 56) #[] #[(pt m 0)])), (46, (.slice (some ⟨d1, 0, none⟩) (List.length ([([116, 101, 110, 97, 110, 116] : List UInt8), (stT a).1, a7, a9] : List (List UInt8))) (List.length ([([116, 101, 110, 97, 110, 116] : List UInt8), (stT a).1, a7, a9] : List (List UInt8)))))] ⟨s 0 37 K, (Q9 (h := 9) K).symm.trans l2, trivial⟩ fun p => ?_
       refine Xf (f := 56) (fo := (.tmp 37)) (xs := #[(.tmp 46)]) (tys := #[79]) (first := #[]) (captured := #[(pt m 0)]) (d := (some 47)) (k := 10) K rfl K K Tryz.call56 (X5 (some ⟨d1, 0, none⟩) (List.length ([([116, 101, 110, 97, 110, 116] : List UInt8), (stT a).1, a7, a9] : List (List UInt8))) m (pt m 0) b9 c0 ([([116, 101, 110, 97, 110, 116] : List UInt8), (stT a).1, a7, a9] : List (List UInt8)) b5 w' (Je g8 [1, 0] rfl rfl) (fun w hm => (Vr (SP.still g8 (l := [1, 0]) (i := 3) rfl rfl rfl hm))) (.inr rfl) d5 s2) ?_
       rintro e t7 ⟨g9, h1, rfl, l3⟩
       refine ⟨_, rfl, ?_⟩
       have t8 : SP [] w0 t7 [Qr a0 33 #[(.string ⟨List.toArray (stT a).1⟩), (.int .i64 (stT a).2.1), (.int .i64 (stT a).2.2.1), (.slice a.2.2.2.1.1 (List.length (stT a).2.2.2.1) a.2.2.2.1.2.1), (.slice a.2.2.2.2.1 (List.length (stT a).2.2.2.2) a.2.2.2.2.2.1)], Ve 9 Qn (some ⟨d1, 0, none⟩) (List.length ([([116, 101, 110, 97, 110, 116] : List UInt8), (stT a).1, a7, a9] : List (List UInt8))) ([([116, 101, 110, 97, 110, 116] : List UInt8), (stT a).1, a7, a9] : List (List UInt8)), Qr m 93 #[(pt m 0), (.slice g9 (List.length d5) h1)], Ve 5 eU8 g9 h1 d5] := Zl g8 [1, 0] [2, 3] rfl rfl l3 rfl
       clear l3
       refine ⟨_, Qa p, rfl, ?_⟩
       exact (Exists.intro d1 (Exists.intro g9 (Exists.intro h1 (And.intro (And.intro t5 (And.intro t6 (And.intro l2 (And.intro rfl (trivial))))) t8))))
     ·rintro ρ' w' hs hf ⟨g7, f3, f4, ⟨ad4, ad5, ad6, ad7, -⟩, h2⟩
      refine Vv [(3, (pt m 0)), (4, (.func (.func 56) #[] #[(pt m 0)])), (6, (pt a0 0)), (31, (.slice A6 (List.length (List.map stT d9)) c7)), (32, (.int .i64 ((List.length (List.map stT d9) : Nat) : Int))), (33, (.int .i64 a1))] ⟨(hs 3 K).trans K, (hs 4 K).trans K, (hs 6 K).trans K, (hs 31 K).trans K, (hs 32 K).trans K, (hs 33 K).trans K, trivial⟩ ?_
      obtain ⟨ad8, t9⟩ : ∃ x, w' = x := ⟨_, rfl⟩
      rw [t9] at h2 ⊢
      refine aQ ?_
      refine aQ ?_
      refine aR ?_
      refine iR 1 1 [(48, (pt a0 3))] ?_
      refine iS 2 ?_
      refine sL 30 48 a0 3 0 (.slice a.2.2.2.1.1 (List.length (stT a).2.2.2.1) a.2.2.2.1.2.1) 49 h2 rfl ?_
      refine iR 2 4 [(50, (.int .i64 ((List.length (stT a).2.2.2.1 : Nat) : Int))), (51, (.int .i64 0))] ?_
      refine iF ?_
      refine Ya K (id := 2) K ?_
      refine Ns K (fun d6 ρ w => ∃ (c6 : (List UInt8)) (c2 : Int) (d7 : Option Addr) (d8 : Nat), Zd ρ [(3, (pt m 0)), (4, (.func (.func 56) #[] #[(pt m 0)])), (6, (pt a0 0)), (31, (.slice A6 (List.length (List.map stT d9)) c7)), (32, (.int .i64 ((List.length (List.map stT d9) : Nat) : Int))), (33, (.int .i64 a1)), (49, (.slice a.2.2.2.1.1 (List.length (stT a).2.2.2.1) a.2.2.2.1.2.1)), (50, (.int .i64 ((List.length (stT a).2.2.2.1 : Nat) : Int))), (51, (.int .i64 c2))] ∧ SP [] w0 w [Ve 5 eU8 d7 d8 c6, Qr m 93 #[(pt m 0), (.slice d7 (List.length c6) d8)], Qr a0 33 #[(.string ⟨List.toArray (stT a).1⟩), (.int .i64 (stT a).2.1), (.int .i64 (stT a).2.2.1), (.slice a.2.2.2.1.1 (List.length (stT a).2.2.2.1) a.2.2.2.1.2.1), (.slice a.2.2.2.2.1 (List.length (stT a).2.2.2.2) a.2.2.2.2.2.1)]] ∧ Zo (Vg (List.map stT d9) c3) a1 (stT a) d6 c6 c2 = some r) (by rintro ρ w ⟨c6, c2, d7, d8, hk, hs, H⟩; cases H) ?_ Xn ?_
      ·rintro d6 ρ ad9 ⟨c6, c2, d7, d8, hk, e4, H⟩
       refine At.known [(3, (pt m 0)), (4, (.func (.func 56) #[] #[(pt m 0)])), (6, (pt a0 0)), (31, (.slice A6 (List.length (List.map stT d9)) c7)), (32, (.int .i64 ((List.length (List.map stT d9) : Nat) : Int))), (33, (.int .i64 a1)), (49, (.slice a.2.2.2.1.1 (List.length (stT a).2.2.2.1) a.2.2.2.1.2.1)), (50, (.int .i64 ((List.length (stT a).2.2.2.1 : Nat) : Int))), (51, (.int .i64 c2))] hk ?_
       replace H := (show Ua (Vg (List.map stT d9) c3) (Zo (Vg (List.map stT d9) c3) a1 (stT a) d6) a1 (stT a) c6 c2 = some r from H)
       unfold Ua at H
       refine aQ ?_
       refine aR ?_
       refine iR 1 1 [(52, (.bool (decide (c2 < ((List.length (stT a).2.2.2.1 : Nat) : Int)))))] ?_
       refine iF ?_
       refine aQ ?_
       refine Zv K (o := (.tmp 52)) K (b := (decide (c2 < ((List.length (stT a).2.2.2.1 : Nat) : Int)))) K (fun h3 => ?_) (fun h3 => ?_)
       ·have H := ct H h3
        refine At.skip K ?_
        refine aQ ?_
        refine Ya K (id := 3) K ?_
        refine aQ ?_
        refine aR ?_
        obtain ⟨c4, l4, l5, u0, H⟩ := Vc H
        refine iS 1 ?_
        refine Qp (e := (Qd (Qx .u32) (Qx .i64))) (l := (stT a).2.2.2.1) (A := a.2.2.2.1.1) (c := a.2.2.2.1.2.1) (T := 30) (E := 102) (x := (.tmp 49)) (ix := (.tmp 51)) (ki := .i64) (iz := c2) (d := (some 53)) (k := 0) K rfl K K K K (RdT.sp (X8 (dp1 (dp2 (dp2 (dp2 (Gr d0 e3)))))) e4) l4 l5 ?_
        intro u1 u2 u3 ae0 hc12962
        refine iS 2 ?_
        refine Qm.cells (t := 102) (x := (.tmp 53)) (b := u1) (off := (u2 + Int.toNat c2 * (Qd (Qx .u32) (Qx .i64)).sz)) (xs := [(.int .u32 c4.1), (.int .i64 c4.2)]) (d := (some 54)) (k := 1) K rfl K K K (Vy (e := (Qd (Qx .u32) (Qx .i64))) (Qo (RdT.sp (X8 (dp1 (dp2 (dp2 (dp2 (Gr d0 e3)))))) e4) u3 l4 l5) u0 rfl) ?_
        refine iS 3 ?_
        refine Qm.alloc (t := 102) (z := (.agg #[(.int .u32 0), (.int .i64 0)])) (d := (some 8)) (k := 2) K rfl K e4 ?_
        intro h4 ae1 u4
        refine iS 4 ?_
        refine Qm.store (t := 102) (x := (.tmp 8)) (y := (.tmp 54)) (g := h4) (off := 0) (i := 3) (v := (.agg #[(.int .u32 c4.1), (.int .i64 c4.2)])) (cs' := #[(.int .u32 c4.1), (.int .i64 c4.2)]) (d := none) (k := 3) K rfl K K u4 rfl K ?_
        intro u5 h5
        refine iF ?_
        refine aR ?_
        refine iR 1 1 [(55, (.func (.func 56) #[] #[(pt m 0)]))] ?_
        refine iS 2 ?_
        refine sL 102 8 h4 0 3 (.agg #[(.int .u32 c4.1), (.int .i64 c4.2)]) 56 h5 rfl ?_
        obtain ⟨d2, u6, H⟩ := Qc H
        refine iS 3 ?_
        refine cF 60 #[(.tmp 56)] #[102] 57 Tryz.call60 (U3  c4.1 c4.2 u5 (Q5 hL (SP.keeps h5)) d2 u6) ?_
        rintro e ae2 ⟨rfl, l6⟩
        refine ⟨_, rfl, ?_⟩
        have u7 := SP.call h5 l6
        clear l6
        refine iS 4 ?_
        refine Zk (e := Qn) (T := 79) (E := 9) (len := 2) (parts := #[(0, (.const (.string ⟨List.toArray ([110, 101, 116] : List UInt8)⟩))), (1, (.tmp 57))]) (cs := #[(.string ⟨List.toArray ([110, 101, 116] : List UInt8)⟩), (.string ⟨List.toArray d2⟩)]) ([([110, 101, 116] : List UInt8), d2] : List (List UInt8)) (d := (some 58)) (k := 3) K rfl (fun _ => K) u7 rfl rfl rfl rfl ?_
        intro l7 u8 h6
        obtain ⟨f5, u9, H⟩ := Qc H
        refine iS 5 ?_
        refine Xf (f := 56) (fo := (.tmp 55)) (xs := #[(.tmp 58)]) (tys := #[79]) (first := #[]) (captured := #[(pt m 0)]) (d := (some 59)) (k := 4) K rfl K K Tryz.call56 (X5 (some ⟨l7, 0, none⟩) (List.length ([([110, 101, 116] : List UInt8), d2] : List (List UInt8))) m (pt m 0) d7 d8 ([([110, 101, 116] : List UInt8), d2] : List (List UInt8)) c6 u8 (Je h6 [1, 0] rfl rfl) (fun w hm => (Vr (SP.still h6 (l := [1, 0]) (i := 4) rfl rfl rfl hm))) (.inr rfl) f5 u9) ?_
        rintro e v0 ⟨h7, h8, rfl, l8⟩
        refine ⟨_, rfl, ?_⟩
        have v1 : SP [] w0 v0 [Qr a0 33 #[(.string ⟨List.toArray (stT a).1⟩), (.int .i64 (stT a).2.1), (.int .i64 (stT a).2.2.1), (.slice a.2.2.2.1.1 (List.length (stT a).2.2.2.1) a.2.2.2.1.2.1), (.slice a.2.2.2.2.1 (List.length (stT a).2.2.2.2) a.2.2.2.2.2.1)], Qr h4 102 #[(.int .u32 c4.1), (.int .i64 c4.2)], Ve 9 Qn (some ⟨l7, 0, none⟩) (List.length ([([110, 101, 116] : List UInt8), d2] : List (List UInt8))) ([([110, 101, 116] : List UInt8), d2] : List (List UInt8)), Qr m 93 #[(pt m 0), (.slice h7 (List.length f5) h8)], Ve 5 eU8 h7 h8 f5] := Zl h6 [1, 0] [2, 3, 4] rfl rfl l8 rfl
        clear l8
        refine iF ?_
        refine aR ?_
        refine iR 2 2 [(60, (.int .i64 (IntKind.wrap .i64 (c2 + 1)))), (51, (.int .i64 (IntKind.wrap .i64 (c2 + 1))))] ?_
        refine iF ?_
        exact ⟨f5, (IntKind.wrap .i64 (c2 + 1)), h7, h8, ⟨K, K, K, K, K, K, K, K, K, trivial⟩, SP.sel v1 [4, 3, 0] rfl rfl, H⟩
       ·have H := cf H h3
        refine At.exit K (id := 2) K ?_
        refine aQ ?_
        refine aR ?_
        refine iR 1 1 [(61, (pt a0 4))] ?_
        refine iS 2 ?_
        refine sL 31 61 a0 4 2 (.slice a.2.2.2.2.1 (List.length (stT a).2.2.2.2) a.2.2.2.2.2.1) 62 e4 rfl ?_
        refine iR 2 4 [(63, (.int .i64 ((List.length (stT a).2.2.2.2 : Nat) : Int))), (64, (.int .i64 0))] ?_
        refine iF ?_
        refine Ya K (id := 4) K ?_
        refine Ns K (fun h9 ρ w => ∃ (b2 : (List UInt8)) (c1 : Int) (b6 : Option Addr) (b7 : Nat), Zd ρ [(3, (pt m 0)), (4, (.func (.func 56) #[] #[(pt m 0)])), (31, (.slice A6 (List.length (List.map stT d9)) c7)), (32, (.int .i64 ((List.length (List.map stT d9) : Nat) : Int))), (33, (.int .i64 a1)), (62, (.slice a.2.2.2.2.1 (List.length (stT a).2.2.2.2) a.2.2.2.2.2.1)), (63, (.int .i64 ((List.length (stT a).2.2.2.2 : Nat) : Int))), (64, (.int .i64 c1))] ∧ SP [] w0 w [Ve 5 eU8 b6 b7 b2, Qr m 93 #[(pt m 0), (.slice b6 (List.length b2) b7)]] ∧ Y2 (Vg (List.map stT d9) c3) (Zo (Vg (List.map stT d9) c3) a1 (stT a) d6) a1 (stT a) h9 b2 c1 = some r) (by rintro ρ w ⟨b2, c1, b6, b7, hk, hs, H⟩; cases H) ?_ Xn ?_
        ·rintro h9 ρ ae3 ⟨b2, c1, b6, b7, hk, f6, H⟩
         refine At.known [(3, (pt m 0)), (4, (.func (.func 56) #[] #[(pt m 0)])), (31, (.slice A6 (List.length (List.map stT d9)) c7)), (32, (.int .i64 ((List.length (List.map stT d9) : Nat) : Int))), (33, (.int .i64 a1)), (62, (.slice a.2.2.2.2.1 (List.length (stT a).2.2.2.2) a.2.2.2.2.2.1)), (63, (.int .i64 ((List.length (stT a).2.2.2.2 : Nat) : Int))), (64, (.int .i64 c1))] hk ?_
         replace H := (show J9 (Vg (List.map stT d9) c3) (Zo (Vg (List.map stT d9) c3) a1 (stT a) d6) (Y2 (Vg (List.map stT d9) c3) (Zo (Vg (List.map stT d9) c3) a1 (stT a) d6) a1 (stT a) h9) a1 (stT a) b2 c1 = some r from H)
         unfold J9 at H
         refine aQ ?_
         refine aR ?_
         refine iR 1 1 [(65, (.bool (decide (c1 < ((List.length (stT a).2.2.2.2 : Nat) : Int)))))] ?_
         refine iF ?_
         refine aQ ?_
         refine Zv K (o := (.tmp 65)) K (b := (decide (c1 < ((List.length (stT a).2.2.2.2 : Nat) : Int)))) K (fun i0 => ?_) (fun i0 => ?_)
         ·have H := ct H i0
          refine At.skip K ?_
          refine aQ ?_
          refine Ya K (id := 5) K ?_
          refine aQ ?_
          refine aR ?_
          obtain ⟨q, l9, m0, v2, H⟩ := Vc H
          refine iS 1 ?_
          refine Qp (e := (Qd Qn (Qd Qn (Qx .i64)))) (l := (stT a).2.2.2.2) (A := a.2.2.2.2.1) (c := a.2.2.2.2.2.1) (T := 31) (E := 37) (x := (.tmp 62)) (ix := (.tmp 64)) (ki := .i64) (iz := c1) (d := (some 66)) (k := 0) K rfl K K K K (RdT.sp (X8 (dp2 (dp2 (dp2 (dp2 (Gr d0 e3)))))) f6) l9 m0 ?_
          intro v3 v4 v5 ae4 hc13578
          refine iS 2 ?_
          refine Qm.cells (t := 37) (x := (.tmp 66)) (b := v3) (off := (v4 + Int.toNat c1 * (Qd Qn (Qd Qn (Qx .i64))).sz)) (xs := [(.string ⟨List.toArray q.1⟩), (.string ⟨List.toArray q.2.1⟩), (.int .i64 q.2.2)]) (d := (some 67)) (k := 1) K rfl K K K (Vy (e := (Qd Qn (Qd Qn (Qx .i64)))) (Qo (RdT.sp (X8 (dp2 (dp2 (dp2 (dp2 (Gr d0 e3)))))) f6) v5 l9 m0) v2 rfl) ?_
          refine iS 3 ?_
          refine Qm.alloc (t := 37) (z := (.agg #[(.string ⟨List.toArray ([] : List UInt8)⟩), (.string ⟨List.toArray ([] : List UInt8)⟩), (.int .i64 0)])) (d := (some 10)) (k := 2) K rfl K f6 ?_
          intro a4 ae5 v6
          refine iS 4 ?_
          refine Qm.store (t := 37) (x := (.tmp 10)) (y := (.tmp 67)) (g := a4) (off := 0) (i := 2) (v := (.agg #[(.string ⟨List.toArray q.1⟩), (.string ⟨List.toArray q.2.1⟩), (.int .i64 q.2.2)])) (cs' := #[(.string ⟨List.toArray q.1⟩), (.string ⟨List.toArray q.2.1⟩), (.int .i64 q.2.2)]) (d := none) (k := 3) K rfl K K v6 rfl K ?_
          intro ae6 v7
          refine iF ?_
          obtain ⟨v8, H⟩ := N5 H
          obtain ⟨a8, v9, H⟩ := Qc H
          obtain ⟨b0, w1, H⟩ := Qc H
          obtain ⟨e0, w2, H⟩ := Qc H
          refine aG [GEq (.func (.func 56) #[] #[(pt m 0)]), GEq (pt a4 0), GEq (.string ⟨List.toArray q.1⟩), GEq (pt a4 1), GEq (.string ⟨List.toArray q.2.1⟩), N2, GEq (.string ⟨List.toArray a8⟩), GEq (pt a4 2), GEq (.int .i64 q.2.2), GEq (.string ⟨List.toArray b0⟩), N2, GEq (.tuple #[])] [5, 6, 9, 10, 11] [([], fun vs w => VL vs [] ∧ SP [] w0 w [Ve 5 eU8 b6 b7 b2, Qr m 93 #[(pt m 0), (.slice b6 (List.length b2) b7)], Qr a4 37 #[(.string ⟨List.toArray q.1⟩), (.string ⟨List.toArray q.2.1⟩), (.int .i64 q.2.2)]]), ([5], fun vs w => ∃ (c8 : Nat), ∃ (c9 : Nat), VL vs [(.slice (some ⟨c8, 0, none⟩) (List.length q.2.1) c9)] ∧ SP [] w0 w [Ve 5 eU8 b6 b7 b2, Qr m 93 #[(pt m 0), (.slice b6 (List.length b2) b7)], Qr a4 37 #[(.string ⟨List.toArray q.1⟩), (.string ⟨List.toArray q.2.1⟩), (.int .i64 q.2.2)], rdE eU8 (some ⟨c8, 0, none⟩) c9 q.2.1]), ([5, 6], fun vs w => ∃ (e1 : Nat), ∃ (e2 : Nat), VL vs [(.slice (some ⟨e1, 0, none⟩) (List.length q.2.1) e2), (.string ⟨List.toArray a8⟩)] ∧ SP [] w0 w [Ve 5 eU8 b6 b7 b2, Qr m 93 #[(pt m 0), (.slice b6 (List.length b2) b7)], Qr a4 37 #[(.string ⟨List.toArray q.1⟩), (.string ⟨List.toArray q.2.1⟩), (.int .i64 q.2.2)], rdE eU8 (some ⟨e1, 0, none⟩) e2 q.2.1]), ([5, 6, 9], fun vs w => ∃ (e5 : Nat), ∃ (e6 : Nat), VL vs [(.slice (some ⟨e5, 0, none⟩) (List.length q.2.1) e6), (.string ⟨List.toArray a8⟩), (.string ⟨List.toArray b0⟩)] ∧ SP [] w0 w [Ve 5 eU8 b6 b7 b2, Qr m 93 #[(pt m 0), (.slice b6 (List.length b2) b7)], Qr a4 37 #[(.string ⟨List.toArray q.1⟩), (.string ⟨List.toArray q.2.1⟩), (.int .i64 q.2.2)], rdE eU8 (some ⟨e5, 0, none⟩) e6 q.2.1]), ([5, 6, 9, 10], fun vs w => ∃ (e7 : Nat), ∃ (e8 : Nat), ∃ (d3 : Nat), VL vs [(.slice (some ⟨e7, 0, none⟩) (List.length q.2.1) e8), (.string ⟨List.toArray a8⟩), (.string ⟨List.toArray b0⟩), (.slice (some ⟨d3, 0, none⟩) (List.length ([([116, 111, 107, 101, 110] : List UInt8), q.1, a8, b0] : List (List UInt8))) (List.length ([([116, 111, 107, 101, 110] : List UInt8), q.1, a8, b0] : List (List UInt8))))] ∧ SP [] w0 w [Ve 5 eU8 b6 b7 b2, Qr m 93 #[(pt m 0), (.slice b6 (List.length b2) b7)], Qr a4 37 #[(.string ⟨List.toArray q.1⟩), (.string ⟨List.toArray q.2.1⟩), (.int .i64 q.2.2)], rdE eU8 (some ⟨e7, 0, none⟩) e8 q.2.1, Ve 9 Qn (some ⟨d3, 0, none⟩) (List.length ([([116, 111, 107, 101, 110] : List UInt8), q.1, a8, b0] : List (List UInt8))) ([([116, 111, 107, 101, 110] : List UInt8), q.1, a8, b0] : List (List UInt8))]), ([5, 6, 9, 10, 11], fun vs w => ∃ (i1 : Nat), ∃ (i2 : Nat), ∃ (i3 : Nat), ∃ (f7 : Option Addr), ∃ (f8 : Nat), VL vs [(.slice (some ⟨i1, 0, none⟩) (List.length q.2.1) i2), (.string ⟨List.toArray a8⟩), (.string ⟨List.toArray b0⟩), (.slice (some ⟨i3, 0, none⟩) (List.length ([([116, 111, 107, 101, 110] : List UInt8), q.1, a8, b0] : List (List UInt8))) (List.length ([([116, 111, 107, 101, 110] : List UInt8), q.1, a8, b0] : List (List UInt8)))), (.tuple #[])] ∧ SP [] w0 w [Qr a4 37 #[(.string ⟨List.toArray q.1⟩), (.string ⟨List.toArray q.2.1⟩), (.int .i64 q.2.2)], rdE eU8 (some ⟨i1, 0, none⟩) i2 q.2.1, Ve 9 Qn (some ⟨i3, 0, none⟩) (List.length ([([116, 111, 107, 101, 110] : List UInt8), q.1, a8, b0] : List (List UInt8))) ([([116, 111, 107, 101, 110] : List UInt8), q.1, a8, b0] : List (List UInt8)), Qr m 93 #[(pt m 0), (.slice f7 (List.length e0) f8)], Ve 5 eU8 f7 f8 e0])] 12 5 ⟨trivial, SP.drew v7⟩ ?_ ?_
          iterate 12 refine And.intro ?_ ?_
          exact trivial
          ·exact oV (hC (hS 4 (.func (.func 56) #[] #[(pt m 0)])) (h0)) (.func (.func 56) #[] #[(pt m 0)])
          ·exact oV (hC (hS 10 (pt a4 0)) (h0)) (pt a4 0)
          ·refine Owe.light K [0, 1, 2, 3] K (Qb ?_ (Qb ?_ (Qb ?_ (Qb ?_ Qy))))
           ·rintro ρ' w' hs s ⟨ae7, w3⟩
            refine kM (kc (kA s 1 69) k0) fun p => ?_
            refine sL 9 69 a4 0 2 (.string ⟨List.toArray q.1⟩) 70 w3 rfl ?_
            exact eK p
           ·rintro ρ' w' hs s ⟨c8, c9, ⟨ae8, -⟩, w4⟩
            refine kM (kc (kA s 1 69) k0) fun p => ?_
            refine sL 9 69 a4 0 2 (.string ⟨List.toArray q.1⟩) 70 w4 rfl ?_
            exact eK p
           ·rintro ρ' w' hs s ⟨e1, e2, ⟨ae9, af0, -⟩, w5⟩
            refine kM (kc (kA s 1 69) k0) fun p => ?_
            refine sL 9 69 a4 0 2 (.string ⟨List.toArray q.1⟩) 70 w5 rfl ?_
            exact eK p
           ·rintro ρ' w' hs s ⟨e5, e6, ⟨af1, af2, af3, -⟩, w6⟩
            refine kM (kc (kA s 1 69) k0) fun p => ?_
            refine sL 9 69 a4 0 2 (.string ⟨List.toArray q.1⟩) 70 w6 rfl ?_
            exact eK p
          ·exact oV (hC (hS 10 (pt a4 0)) (h0)) (pt a4 1)
          ·refine oL 0 ?_
           ·rintro ρ' w' hs s ⟨af4, w7⟩
            refine kM (kc (kA s 3 71) k0) fun p => ?_
            refine sL 9 71 a4 1 2 (.string ⟨List.toArray q.2.1⟩) 72 w7 rfl ?_
            exact eK p
          ·refine oH 0 1 ?_
           ·rintro ρ' w' hs s ⟨af5, w8⟩
            refine kM (kc (kA s 4 72) k0) fun p => ?_
            refine Dw (S' := 9) (T := 48) (E := 5) (x := (.tmp 72)) (l := q.2.1) (d := (some 73)) (k := 5) K rfl K K K K (Dx v8) w8 ?_
            intro m1 m2 w9 m3 _
            have x0 : SP [] w0 w9 [Ve 5 eU8 b6 b7 b2, Qr m 93 #[(pt m 0), (.slice b6 (List.length b2) b7)], Qr a4 37 #[(.string ⟨List.toArray q.1⟩), (.string ⟨List.toArray q.2.1⟩), (.int .i64 q.2.2)], rdE eU8 (some ⟨m1, 0, none⟩) m2 q.2.1] := m3
            clear m3
            refine ⟨_, Qa p, trivial, ?_⟩
            exact (Exists.intro m1 (Exists.intro m2 (And.intro (And.intro rfl (trivial)) x0)))
          ·refine oH 1 2 ?_
           ·rintro ρ' w' hs s ⟨c8, c9, ⟨m4, -⟩, m5⟩
            refine kN [(73, (.slice (some ⟨c8, 0, none⟩) (List.length q.2.1) c9))] ⟨(Q9 (h := 5) K).symm.trans m4, trivial⟩ fun p => ?_
            refine cF 61 #[(.tmp 73)] #[48] 74 Tryz.call61 (Dt (some ⟨c8, 0, none⟩) c9 q.2.1 w' (rdE_rd (SP.get m5 (i := 3) rfl)) a8 v9) ?_
            rintro e af6 ⟨rfl, m6⟩
            refine ⟨_, rfl, ?_⟩
            have x1 := SP.call m5 m6
            clear m6
            refine ⟨_, Qa p, rfl, ?_⟩
            exact (Exists.intro c8 (Exists.intro c9 (And.intro (And.intro m4 (And.intro rfl (trivial))) x1)))
          ·exact oV (hC (hS 10 (pt a4 0)) (h0)) (pt a4 2)
          ·refine Owe.light K [0, 1, 2] K (Qb ?_ (Qb ?_ (Qb ?_ Qy)))
           ·rintro ρ' w' hs s ⟨af7, x2⟩
            refine kM (kc (kA s 7 75) k0) fun p => ?_
            refine sL 2 75 a4 2 2 (.int .i64 q.2.2) 76 x2 rfl ?_
            exact eK p
           ·rintro ρ' w' hs s ⟨c8, c9, ⟨af8, -⟩, x3⟩
            refine kM (kc (kA s 7 75) k0) fun p => ?_
            refine sL 2 75 a4 2 2 (.int .i64 q.2.2) 76 x3 rfl ?_
            exact eK p
           ·rintro ρ' w' hs s ⟨e1, e2, ⟨af9, ag0, -⟩, x4⟩
            refine kM (kc (kA s 7 75) k0) fun p => ?_
            refine sL 2 75 a4 2 2 (.int .i64 q.2.2) 76 x4 rfl ?_
            exact eK p
          ·refine oH 2 3 ?_
           ·rintro ρ' w' hs s ⟨e1, e2, ⟨x5, x6, -⟩, m7⟩
            refine kM (kc (kA s 8 76) k0) fun p => ?_
            refine cF 59 #[(.tmp 76)] #[2] 77 Tryz.call59 (V1  q.2.2 w' (Q5 hL (SP.keeps m7)) b0 w1) ?_
            rintro e ag1 ⟨rfl, m8⟩
            refine ⟨_, rfl, ?_⟩
            have x7 := SP.call m7 m8
            clear m8
            refine ⟨_, Qa p, rfl, ?_⟩
            exact (Exists.intro e1 (Exists.intro e2 (And.intro (And.intro x5 (And.intro x6 (And.intro rfl (trivial)))) x7)))
          ·refine oH 3 4 ?_
           ·rintro ρ' w' hs s ⟨e5, e6, ⟨x8, m9, n0, -⟩, x9⟩
            refine kN [(70, (.string ⟨List.toArray q.1⟩)), (74, (.string ⟨List.toArray a8⟩)), (77, (.string ⟨List.toArray b0⟩))] ⟨s 2 70 K, (Q9 (h := 6) K).symm.trans m9, (Q9 (h := 9) K).symm.trans n0, trivial⟩ fun p => ?_
            refine Zk (e := Qn) (T := 79) (E := 9) (len := 4) (parts := #[(0, (.const (.string ⟨List.toArray ([116, 111, 107, 101, 110] : List UInt8)⟩))), (1, (.tmp 70)), (2, (.tmp 74)), (3, (.tmp 77))]) (cs := #[(.string ⟨List.toArray ([116, 111, 107, 101, 110] : List UInt8)⟩), (.string ⟨List.toArray q.1⟩), (.string ⟨List.toArray a8⟩), (.string ⟨List.toArray b0⟩)]) ([([116, 111, 107, 101, 110] : List UInt8), q.1, a8, b0] : List (List UInt8)) (d := (some 78)) (k := 10) K rfl (fun _ => K) x9 rfl rfl rfl rfl ?_
            intro y0 ag2 y1
            refine ⟨_, Qa p, trivial, ?_⟩
            exact (Exists.intro e5 (Exists.intro e6 (Exists.intro y0 (And.intro (And.intro x8 (And.intro m9 (And.intro n0 (And.intro rfl (trivial))))) y1))))
          ·refine oH 4 5 ?_
           ·rintro ρ' w' hs s ⟨e7, e8, d3, ⟨y2, y3, y4, n1, -⟩, i4⟩
            refine kN [(68, (.func (.func 56) #[] #[(pt m 0)])), (78, (.slice (some ⟨d3, 0, none⟩) (List.length ([([116, 111, 107, 101, 110] : List UInt8), q.1, a8, b0] : List (List UInt8))) (List.length ([([116, 111, 107, 101, 110] : List UInt8), q.1, a8, b0] : List (List UInt8)))))] ⟨s 0 68 K, (Q9 (h := 10) K).symm.trans n1, trivial⟩ fun p => ?_
            refine Xf (f := 56) (fo := (.tmp 68)) (xs := #[(.tmp 78)]) (tys := #[79]) (first := #[]) (captured := #[(pt m 0)]) (d := (some 79)) (k := 11) K rfl K K Tryz.call56 (X5 (some ⟨d3, 0, none⟩) (List.length ([([116, 111, 107, 101, 110] : List UInt8), q.1, a8, b0] : List (List UInt8))) m (pt m 0) b6 b7 ([([116, 111, 107, 101, 110] : List UInt8), q.1, a8, b0] : List (List UInt8)) b2 w' (Je i4 [1, 0] rfl rfl) (fun w hm => (Vr (SP.still i4 (l := [1, 0]) (i := 4) rfl rfl rfl hm))) (.inr rfl) e0 w2) ?_
            rintro e y5 ⟨i5, i6, rfl, n2⟩
            refine ⟨_, rfl, ?_⟩
            have y6 : SP [] w0 y5 [Qr a4 37 #[(.string ⟨List.toArray q.1⟩), (.string ⟨List.toArray q.2.1⟩), (.int .i64 q.2.2)], rdE eU8 (some ⟨e7, 0, none⟩) e8 q.2.1, Ve 9 Qn (some ⟨d3, 0, none⟩) (List.length ([([116, 111, 107, 101, 110] : List UInt8), q.1, a8, b0] : List (List UInt8))) ([([116, 111, 107, 101, 110] : List UInt8), q.1, a8, b0] : List (List UInt8)), Qr m 93 #[(pt m 0), (.slice i5 (List.length e0) i6)], Ve 5 eU8 i5 i6 e0] := Zl i4 [1, 0] [2, 3, 4] rfl rfl n2 rfl
            clear n2
            refine ⟨_, Qa p, rfl, ?_⟩
            exact (Exists.intro e7 (Exists.intro e8 (Exists.intro d3 (Exists.intro i5 (Exists.intro i6 (And.intro (And.intro y2 (And.intro y3 (And.intro y4 (And.intro n1 (And.intro rfl (trivial)))))) y6))))))
          ·rintro ρ' w' hs hf ⟨i1, i2, i3, f7, f8, ⟨ag3, ag4, ag5, ag6, ag7, -⟩, n3⟩
           refine Vv [(3, (pt m 0)), (4, (.func (.func 56) #[] #[(pt m 0)])), (31, (.slice A6 (List.length (List.map stT d9)) c7)), (32, (.int .i64 ((List.length (List.map stT d9) : Nat) : Int))), (33, (.int .i64 a1)), (62, (.slice a.2.2.2.2.1 (List.length (stT a).2.2.2.2) a.2.2.2.2.2.1)), (63, (.int .i64 ((List.length (stT a).2.2.2.2 : Nat) : Int))), (64, (.int .i64 c1))] ⟨(hs 3 K).trans K, (hs 4 K).trans K, (hs 31 K).trans K, (hs 32 K).trans K, (hs 33 K).trans K, (hs 62 K).trans K, (hs 63 K).trans K, (hs 64 K).trans K, trivial⟩ ?_
           obtain ⟨ag8, y7⟩ : ∃ x, w' = x := ⟨_, rfl⟩
           rw [y7] at n3 ⊢
           refine aR ?_
           refine iR 2 2 [(80, (.int .i64 (IntKind.wrap .i64 (c1 + 1)))), (64, (.int .i64 (IntKind.wrap .i64 (c1 + 1))))] ?_
           refine iF ?_
           exact ⟨e0, (IntKind.wrap .i64 (c1 + 1)), f7, f8, ⟨K, K, K, K, K, K, K, K, trivial⟩, SP.sel n3 [4, 3] rfl rfl, H⟩
         ·have H := cf H i0
          refine At.exit K (id := 4) K ?_
          refine aR ?_
          refine iR 2 2 [(81, (.int .i64 (IntKind.wrap .i64 (a1 + 1)))), (33, (.int .i64 (IntKind.wrap .i64 (a1 + 1))))] ?_
          refine iF ?_
          exact ⟨b2, (IntKind.wrap .i64 (a1 + 1)), b6, b7, ⟨K, K, K, K, K, trivial⟩, SP.sel f6 [0, 1] rfl rfl, H⟩
        ·exact ⟨c6, 0, d7, d8, ⟨K, K, K, K, K, K, K, K, trivial⟩, SP.sel e4 [0, 1] rfl rfl, H⟩
      ·exact ⟨d5, 0, f3, f4, ⟨K, K, K, K, K, K, K, K, K, trivial⟩, SP.sel h2 [3, 2, 0] rfl rfl, H⟩
    ·have H := cf H g6
     refine At.exit K (id := 0) K ?_
     refine aQ ?_
     refine aR ?_
     refine iS 1 ?_
     refine cF 62 #[(.tmp 3)] #[93] 82 Tryz.call62 (Hl (g := m) (v := (pt m 0)) (A := b9) (c := c0) (l := b5) f2 (i := 1) (j := 0) rfl rfl (by decide) (.inr rfl)) ?_
     rintro e y8 ⟨rfl, n4⟩
     refine ⟨_, rfl, ?_⟩
     have y9 : SP [] w0 y8 [] := n4
     clear n4
     refine iR 1 2 [(2, (.string ⟨List.toArray b5⟩))] ?_
     refine iF ?_
     refine At.ret K ?_
     refine ⟨(.string ⟨List.toArray b5⟩), K, ?_⟩
     obtain rfl := Qg H
     exact ⟨rfl, SP.sel y9 [] rfl rfl⟩
   ·exact ⟨d4, 0, f0, f1, ⟨K, K, K, K, K, trivial⟩, SP.sel g5 [3, 2] rfl rfl, H⟩
end Go.Proofs.YtoflbpmbkmephaaGreatDoor
namespace Go.Proofs.YtoflbpmbkmephaaGreatDoor
open Go.RowKit
open Go.Lib (decDigits)
theorem okC_iff (c : CfgL) : okC c = true ↔ (Nj c.1 = true ∧ Nj c.2.1 = true ∧ Nj c.2.2.1 = true ∧ Nj c.2.2.2.1 = true) ∧ c.2.2.2.2.length ≤ 8 ∧ (∀ t ∈ c.2.2.2.2, B2 t = true) ∧ Rq (c.2.2.2.2.map (·.1)) = true := by
  unfold okC cfgOk
  simp only [Bool.and_eq_true, decide_eq_true_eq, List.all_eq_true]
theorem tenOk_iff (t : Qf) : B2 t = true ↔ (∀ n ∈ t.2.2.2.1, F9 n = true) ∧ (∀ x ∈ t.2.2.2.2, Ha x = true) ∧ B0 t.1 = true ∧ t.2.2.2.1.length ≤ 4 ∧ t.2.2.2.2.length ≤ 4 ∧ qOk t.2.1 = true ∧ qOk t.2.2.1 = true ∧ Rq (t.2.2.2.2.map (·.1)) = true := by
  unfold B2
  simp only [Bool.and_eq_true, decide_eq_true_eq, List.all_eq_true]
  constructor
  · rintro ⟨⟨a, b⟩, ⟨c, d, e⟩, ⟨f, g⟩, h⟩
    exact ⟨a, b, c, d, e, f, g, h⟩
  · rintro ⟨a, b, c, d, e, f, g, h⟩
    exact ⟨⟨a, b⟩, ⟨c, d, e⟩, ⟨f, g⟩, h⟩
end Go.Proofs.YtoflbpmbkmephaaGreatDoor
namespace Go.Proofs.YtoflbpmbkmephaaGreatDoor
open Go.RowKit
def Ja (a : (List UInt8)) (c : Int) (d : Int) (e : (List (Int × Int))) (f : (List ((List UInt8) × (List UInt8) × Int))) (b : (List UInt8)) : Option (Bool) :=
  (some ((a == b)))
set_option maxHeartbeats 40000000 in
theorem Rk (A5 : Option Addr) (c6 : Nat) (A9 : Option Addr) (j : Nat) (l : Nat) (c : (List UInt8)) (m : Int) (o : Int) (h : (List (Int × Int))) (i : (List ((List UInt8) × (List UInt8) × Int))) (f : (List UInt8)) (w0 : World) (u : RdT (Qd (Qx .u32) (Qx .i64)) w0 A5 c6 h) (w : RdT (Qd Qn (Qd Qn (Qx .i64))) w0 A9 j i) (hg13 : w0.heap[l]? = some (.cells #[(.string ⟨List.toArray f⟩)] 9 (0, 0))) (r : (Bool)) (H : Ja c m o h i f = some r) :
  Calls Tryz.prog 45 #[(.agg #[(.string ⟨List.toArray c⟩), (.int .i64 m), (.int .i64 o), (.slice A5 (List.length h) c6), (.slice A9 (List.length i) j)]), (pt l 0)] w0 (fun e w' => e = .returned (.bool r) ∧ SP [] w0 w' []) := by
 unfold Ja at H
 refine Qz (n := 8) Tryz.func45 K K K ?_
 have s := Q3 [] w0
 refine aQ ?_
 refine aR ?_
 refine iS 1 ?_
 refine Zu (t := 33) (x := (.tmp 0)) (v := (.agg #[(.string ⟨List.toArray c⟩), (.int .i64 m), (.int .i64 o), (.slice A5 (List.length h) c6), (.slice A9 (List.length i) j)])) (d := (some 2)) (k := 0) K rfl K s ?_
 intro q z p
 refine iR 1 2 [(3, (.bool false))] ?_
 refine iF ?_
 refine aQ ?_
 refine aR ?_
 refine iR 1 1 [(4, (pt q 0))] ?_
 refine iS 2 ?_
 refine sL 9 4 q 0 0 (.string ⟨List.toArray c⟩) 5 p rfl ?_
 refine iS 3 ?_
 refine Cc (t := 9) (t' := 9) (x := (.tmp 1)) (g := l) (off := 0) (cs := #[(.string ⟨List.toArray f⟩)]) (v := (.string ⟨List.toArray f⟩)) (d := (some 6)) (k := 2) K rfl K (R3 hg13 (SP.keeps p)) K ?_
 refine iS 4 ?_
 refine Z1 (op := .eql) (T := 9) (T' := 9) (x := (.tmp 5)) (y := (.tmp 6)) (a := c) (b := f) (r := (.bool (c == f))) (d := (some 7)) (k := 3) K rfl K K rfl ?_
 refine iR 1 5 [(3, (.bool (c == f)))] ?_
 refine iF ?_
 refine At.ret K ?_
 refine ⟨(.bool (c == f)), K, ?_⟩
 obtain rfl := Qg H
 exact ⟨rfl, SP.sel p [] rfl rfl⟩
def Yk (e : Int) (f : Int) (g : Int) (h : Int) (b : (List Qf)) (d : (List UInt8)) : Option ((List UInt8) × Int × Int × (List (Int × Int)) × (List ((List UInt8) × (List UInt8) × Int)) × Bool) :=
  ((Q4 b (fun y0 y1 y2 y3 y4 => Ja y0 y1 y2 y3 y4 d)).bind fun c => (cond (decide (c < 0)) (some (([] : List UInt8), 0, 0, ([] : List (Int × Int)), ([] : List ((List UInt8) × (List UInt8) × Int)), false)) ((idx b c).bind fun a => (some (a.1, a.2.1, a.2.2.1, a.2.2.2.1, a.2.2.2.2, true)))))
set_option maxHeartbeats 40000000 in
theorem Y3 {R : World → Prop} (A6 : Option Addr) (c7 : Nat) (a1 : Int) (a2 : Int) (a3 : Int) (a4 : Int) (d9 : (List Qw)) (j : (List UInt8)) (w0 : World) (hR : ∀ w, Below w0.heap.size w0 w → R w) (m : ∀ w, R w → (dDS V9 Eu).ok w (A6, c7, d9)) (r : ((List UInt8) × Int × Int × (List (Int × Int)) × (List ((List UInt8) × (List UInt8) × Int)) × Bool)) (H : Yk a1 a2 a3 a4 (List.map stT d9) j = some r) :
  Calls Tryz.prog 18 #[(.agg #[(.int .i64 a1), (.int .i64 a2), (.int .i64 a3), (.int .i64 a4), (.slice A6 (List.length (List.map stT d9)) c7)]), (.string ⟨List.toArray j⟩)] w0 (fun e w' => ∃ (a8 : Option Addr) (a9 : Nat) (b0 : Option Addr) (b1 : Nat), e = .returned (.tuple #[(.agg #[(.string ⟨List.toArray r.1⟩), (.int .i64 r.2.1), (.int .i64 r.2.2.1), (.slice a8 (List.length r.2.2.2.1) a9), (.slice b0 (List.length r.2.2.2.2.1) b1)]), (.bool r.2.2.2.2.2)]) ∧ (∀ w, R w → RdT (Qd (Qx .u32) (Qx .i64)) w a8 a9 r.2.2.2.1) ∧ (∀ w, R w → RdT (Qd Qn (Qd Qn (Qx .i64))) w b0 b1 r.2.2.2.2.1) ∧ SP [] w0 w' []) := by
 unfold Yk at H
 refine Qz (n := 19) Tryz.func18 K K K ?_
 have b8 := Q3 [] w0
 refine aQ ?_
 refine aR ?_
 refine iS 1 ?_
 refine Zu (t := 24) (x := (.tmp 0)) (v := (.agg #[(.int .i64 a1), (.int .i64 a2), (.int .i64 a3), (.int .i64 a4), (.slice A6 (List.length (List.map stT d9)) c7)])) (d := (some 2)) (k := 0) K rfl K b8 ?_
 intro q c5 b9
 refine iS 2 ?_
 refine Zu (t := 9) (x := (.tmp 1)) (v := (.string ⟨List.toArray j⟩)) (d := (some 3)) (k := 1) K rfl K b9 ?_
 intro s c6 c0
 refine iS 3 ?_
 refine Qm.alloc (t := 33) (z := (.agg #[(.string ⟨List.toArray ([] : List UInt8)⟩), (.int .i64 0), (.int .i64 0), (.slice none (List.length ([] : List (Int × Int))) 0), (.slice none (List.length ([] : List ((List UInt8) × (List UInt8) × Int))) 0)])) (d := (some 4)) (k := 2) K rfl K c0 ?_
 intro u a5 a0
 refine iR 1 4 [(5, (.bool false))] ?_
 refine iF ?_
 refine aQ ?_
 refine aR ?_
 refine iR 1 1 [(7, (pt q 4))] ?_
 refine iS 2 ?_
 refine sL 22 7 q 4 0 (.slice A6 (List.length (List.map stT d9)) c7) 8 a0 rfl ?_
 refine iR 1 3 [(9, (.func (.func 45) #[] #[(pt s 0)]))] ?_
 obtain ⟨h, c1, H⟩ := Qc H
 refine iS 4 ?_
 refine cF 44 #[(.tmp 8), (.tmp 9)] #[22, 82] 10 Tryz.call44 (Zh A6 c7 45 #[(pt s 0)] d9 (fun y0 y1 y2 y3 y4 => Ja y0 y1 y2 y3 y4 j) a5 (m a5 (hR _ (SP.keeps a0))) Tryz.call45 (fun y0 y1 y2 y3 y4 z w Ay3 cy3 Ay4 cy4 hw hy3 hy4 hz => Rk Ay3 cy3 Ay4 cy4 s y0 y1 y2 y3 y4 j w hy3 hy4 (R3 (show a5.heap[s]? = some (.cells #[(.string ⟨List.toArray j⟩)] 9 (0, 0)) from SP.get a0 (i := 1) rfl) hw) z hz) h c1) ?_
 rintro e b2 ⟨rfl, b3⟩
 refine ⟨_, rfl, ?_⟩
 have p := SP.call a0 b3
 clear b3
 refine iR 1 5 [(6, (.int .i64 h))] ?_
 refine iF ?_
 refine aQ ?_
 refine aQ ?_
 refine aR ?_
 refine iR 2 2 [(11, (.int .i64 h)), (12, (.bool (decide (h < 0))))] ?_
 refine iF ?_
 refine Zv K (o := (.tmp 12)) K (b := (decide (h < 0))) K (fun a6 => ?_) (fun a6 => ?_)
 ·have H := ct H a6
  refine aQ ?_
  refine aR ?_
  refine iR 1 1 [(13, (.agg #[(.string ⟨List.toArray ([] : List UInt8)⟩), (.int .i64 0), (.int .i64 0), (.slice none (List.length ([] : List (Int × Int))) 0), (.slice none (List.length ([] : List ((List UInt8) × (List UInt8) × Int))) 0)]))] ?_
  refine iS 2 ?_
  refine Qm.store (t := 33) (x := (.tmp 4)) (y := (.tmp 13)) (g := u) (off := 0) (i := 2) (v := (.agg #[(.string ⟨List.toArray ([] : List UInt8)⟩), (.int .i64 0), (.int .i64 0), (.slice none (List.length ([] : List (Int × Int))) 0), (.slice none (List.length ([] : List ((List UInt8) × (List UInt8) × Int))) 0)])) (cs' := #[(.string ⟨List.toArray ([] : List UInt8)⟩), (.int .i64 0), (.int .i64 0), (.slice none (List.length ([] : List (Int × Int))) 0), (.slice none (List.length ([] : List ((List UInt8) × (List UInt8) × Int))) 0)]) (d := none) (k := 1) K rfl K K p rfl K ?_
  intro c8 b4
  refine iR 1 3 [(5, (.bool false))] ?_
  refine iF ?_
  refine At.ret K ?_
  refine ⟨(.tuple #[(.agg #[(.string ⟨List.toArray ([] : List UInt8)⟩), (.int .i64 0), (.int .i64 0), (.slice none (List.length ([] : List (Int × Int))) 0), (.slice none (List.length ([] : List ((List UInt8) × (List UInt8) × Int))) 0)]), (.bool false)]), F6 K (Dm (a := 4) (t := 33) (g := u) (off := 0) K (SP.get b4 (i := 2) rfl) K) (Ce (t := 5) K), ?_⟩
  obtain rfl := Qg H
  exact ⟨none, 0, none, 0, rfl, (fun w _ => RdT.nil (Qd (Qx .u32) (Qx .i64)) w), (fun w _ => RdT.nil (Qd Qn (Qd Qn (Qx .i64))) w), SP.sel b4 [] rfl rfl⟩
 ·have H := cf H a6
  refine At.skip K ?_
  refine aQ ?_
  refine aR ?_
  refine iR 1 1 [(14, (pt q 4))] ?_
  refine iS 2 ?_
  refine sL 22 14 q 4 0 (.slice A6 (List.length (List.map stT d9)) c7) 15 p rfl ?_
  refine iR 1 3 [(16, (.int .i64 h))] ?_
  obtain ⟨f, b5, b6, a7, H⟩ := Jo H
  refine iS 4 ?_
  refine Xs stT (e := V9) (l := d9) (A := A6) (c := c7) (T := 22) (E := 33) (x := (.tmp 15)) (ix := (.tmp 16)) (ki := .i64) (iz := h) (d := (some 17)) (k := 3) K rfl K K K K ((fun w hm => (X8 (m w hm))) b2 (hR _ (SP.keeps p))) b5 b6 ?_
  intro c2 c3 c4 c9 hc46
  refine iS 5 ?_
  refine Qm.cells (t := 33) (x := (.tmp 17)) (b := c2) (off := (c3 + Int.toNat h * V9.sz)) (xs := [(.string ⟨List.toArray (stT f).1⟩), (.int .i64 (stT f).2.1), (.int .i64 (stT f).2.2.1), (.slice f.2.2.2.1.1 (List.length (stT f).2.2.2.1) f.2.2.2.1.2.1), (.slice f.2.2.2.2.1 (List.length (stT f).2.2.2.2) f.2.2.2.2.2.1)]) (d := (some 18)) (k := 4) K rfl K K K (Vy (e := V9) (Qo ((fun w hm => (X8 (m w hm))) b2 (hR _ (SP.keeps p))) c4 b5 b6) a7 rfl) ?_
  refine iS 6 ?_
  refine Qm.store (t := 33) (x := (.tmp 4)) (y := (.tmp 18)) (g := u) (off := 0) (i := 2) (v := (.agg #[(.string ⟨List.toArray (stT f).1⟩), (.int .i64 (stT f).2.1), (.int .i64 (stT f).2.2.1), (.slice f.2.2.2.1.1 (List.length (stT f).2.2.2.1) f.2.2.2.1.2.1), (.slice f.2.2.2.2.1 (List.length (stT f).2.2.2.2) f.2.2.2.2.2.1)])) (cs' := #[(.string ⟨List.toArray (stT f).1⟩), (.int .i64 (stT f).2.1), (.int .i64 (stT f).2.2.1), (.slice f.2.2.2.1.1 (List.length (stT f).2.2.2.1) f.2.2.2.1.2.1), (.slice f.2.2.2.2.1 (List.length (stT f).2.2.2.2) f.2.2.2.2.2.1)]) (d := none) (k := 5) K rfl K K p rfl K ?_
  intro d0 b7
  refine iR 1 7 [(5, (.bool true))] ?_
  refine iF ?_
  refine At.ret K ?_
  refine ⟨(.tuple #[(.agg #[(.string ⟨List.toArray (stT f).1⟩), (.int .i64 (stT f).2.1), (.int .i64 (stT f).2.2.1), (.slice f.2.2.2.1.1 (List.length (stT f).2.2.2.1) f.2.2.2.1.2.1), (.slice f.2.2.2.2.1 (List.length (stT f).2.2.2.2) f.2.2.2.2.2.1)]), (.bool true)]), F6 K (Dm (a := 4) (t := 33) (g := u) (off := 0) K (SP.get b7 (i := 2) rfl) K) (Ce (t := 5) K), ?_⟩
  obtain rfl := Qg H
  exact ⟨f.2.2.2.1.1, f.2.2.2.1.2.1, f.2.2.2.2.1, f.2.2.2.2.2.1, rfl, (fun w hm => (X8 ((fun w hm => (dp1 (dp2 (dp2 (dp2 (Gr (m w hm) a7)))))) w hm))), (fun w hm => (X8 ((fun w hm => (dp2 (dp2 (dp2 (dp2 (Gr (m w hm) a7)))))) w hm))), SP.sel b7 [] rfl rfl⟩
def Yp (a : (List UInt8)) (b : (List UInt8)) (c : Int) (c6 : (List UInt8)) : Option (Bool) :=
  (some ((a == c6)))
set_option maxHeartbeats 40000000 in
theorem G6 (g4 : Nat) (c : (List UInt8)) (f : (List UInt8)) (h : Int) (c6 : (List UInt8)) (w0 : World) (hg5 : w0.heap[g4]? = some (.cells #[(.string ⟨List.toArray c6⟩)] 9 (0, 0))) (r : (Bool)) (H : Yp c f h c6 = some r) :
  Calls Tryz.prog 47 #[(.agg #[(.string ⟨List.toArray c⟩), (.string ⟨List.toArray f⟩), (.int .i64 h)]), (pt g4 0)] w0 (fun e w' => e = .returned (.bool r) ∧ SP [] w0 w' []) := by
 unfold Yp at H
 refine Qz (n := 8) Tryz.func47 K K K ?_
 have j := Q3 [] w0
 refine aQ ?_
 refine aR ?_
 refine iS 1 ?_
 refine Zu (t := 37) (x := (.tmp 0)) (v := (.agg #[(.string ⟨List.toArray c⟩), (.string ⟨List.toArray f⟩), (.int .i64 h)])) (d := (some 2)) (k := 0) K rfl K j ?_
 intro g7 w8 i
 refine iR 1 2 [(3, (.bool false))] ?_
 refine iF ?_
 refine aQ ?_
 refine aR ?_
 refine iR 1 1 [(4, (pt g7 0))] ?_
 refine iS 2 ?_
 refine sL 9 4 g7 0 0 (.string ⟨List.toArray c⟩) 5 i rfl ?_
 refine iS 3 ?_
 refine Cc (t := 9) (t' := 9) (x := (.tmp 1)) (g := g4) (off := 0) (cs := #[(.string ⟨List.toArray c6⟩)]) (v := (.string ⟨List.toArray c6⟩)) (d := (some 6)) (k := 2) K rfl K (R3 hg5 (SP.keeps i)) K ?_
 refine iS 4 ?_
 refine Z1 (op := .eql) (T := 9) (T' := 9) (x := (.tmp 5)) (y := (.tmp 6)) (a := c) (b := c6) (r := (.bool (c == c6))) (d := (some 7)) (k := 3) K rfl K K rfl ?_
 refine iR 1 5 [(3, (.bool (c == c6)))] ?_
 refine iF ?_
 refine At.ret K ?_
 refine ⟨(.bool (c == c6)), K, ?_⟩
 obtain rfl := Qg H
 exact ⟨rfl, SP.sel i [] rfl rfl⟩
def Yt (e : (List UInt8)) (f : Int) (g : Int) (h : (List (Int × Int))) (b : (List ((List UInt8) × (List UInt8) × Int))) (d : (List UInt8)) : Option ((List UInt8) × (List UInt8) × Int × Bool) :=
  ((Q6 b (fun y0 y1 y2 => Yp y0 y1 y2 d)).bind fun c => (cond (decide (c < 0)) (some (([] : List UInt8), ([] : List UInt8), 0, false)) ((idx b c).bind fun a => (some (a.1, a.2.1, a.2.2, true)))))
set_option maxHeartbeats 40000000 in
theorem Jy (A5 : Option Addr) (c6 : Nat) (A9 : Option Addr) (m : Nat) (a3 : (List UInt8)) (a4 : Int) (a5 : Int) (s : (List (Int × Int))) (h : (List ((List UInt8) × (List UInt8) × Int))) (p : (List UInt8)) (w0 : World) (c2 : RdT (Qd (Qx .u32) (Qx .i64)) w0 A5 c6 s) (a6 : RdT (Qd Qn (Qd Qn (Qx .i64))) w0 A9 m h) (r : ((List UInt8) × (List UInt8) × Int × Bool)) (H : Yt a3 a4 a5 s h p = some r) :
  Calls Tryz.prog 20 #[(.agg #[(.string ⟨List.toArray a3⟩), (.int .i64 a4), (.int .i64 a5), (.slice A5 (List.length s) c6), (.slice A9 (List.length h) m)]), (.string ⟨List.toArray p⟩)] w0 (fun e w' => e = .returned (.tuple #[(.agg #[(.string ⟨List.toArray r.1⟩), (.string ⟨List.toArray r.2.1⟩), (.int .i64 r.2.2.1)]), (.bool r.2.2.2)]) ∧ SP [] w0 w' []) := by
 unfold Yt at H
 refine Qz (n := 19) Tryz.func20 K K K ?_
 have b4 := Q3 [] w0
 refine aQ ?_
 refine aR ?_
 refine iS 1 ?_
 refine Zu (t := 33) (x := (.tmp 0)) (v := (.agg #[(.string ⟨List.toArray a3⟩), (.int .i64 a4), (.int .i64 a5), (.slice A5 (List.length s) c6), (.slice A9 (List.length h) m)])) (d := (some 2)) (k := 0) K rfl K b4 ?_
 intro u c3 b5
 refine iS 2 ?_
 refine Zu (t := 9) (x := (.tmp 1)) (v := (.string ⟨List.toArray p⟩)) (d := (some 3)) (k := 1) K rfl K b5 ?_
 intro a0 c4 b6
 refine iS 3 ?_
 refine Qm.alloc (t := 37) (z := (.agg #[(.string ⟨List.toArray ([] : List UInt8)⟩), (.string ⟨List.toArray ([] : List UInt8)⟩), (.int .i64 0)])) (d := (some 4)) (k := 2) K rfl K b6 ?_
 intro a1 a8 a2
 refine iR 1 4 [(5, (.bool false))] ?_
 refine iF ?_
 refine aQ ?_
 refine aR ?_
 refine iR 1 1 [(7, (pt u 4))] ?_
 refine iS 2 ?_
 refine sL 31 7 u 4 0 (.slice A9 (List.length h) m) 8 a2 rfl ?_
 refine iR 1 3 [(9, (.func (.func 47) #[] #[(pt a0 0)]))] ?_
 obtain ⟨j, b7, H⟩ := Qc H
 refine iS 4 ?_
 refine cF 46 #[(.tmp 8), (.tmp 9)] #[31, 84] 10 Tryz.call46 (Zn A9 m 47 #[(pt a0 0)] h (fun y0 y1 y2 => Yp y0 y1 y2 p) a8 (RdT.sp a6 a2) Tryz.call47 (fun y0 y1 y2 z w  hw  hz => G6 a0 y0 y1 y2 p w (R3 (show a8.heap[a0]? = some (.cells #[(.string ⟨List.toArray p⟩)] 9 (0, 0)) from SP.get a2 (i := 1) rfl) hw) z hz) j b7) ?_
 rintro e c5 ⟨rfl, a9⟩
 refine ⟨_, rfl, ?_⟩
 have q := SP.call a2 a9
 clear a9
 refine iR 1 5 [(6, (.int .i64 j))] ?_
 refine iF ?_
 refine aQ ?_
 refine aQ ?_
 refine aR ?_
 refine iR 2 2 [(11, (.int .i64 j)), (12, (.bool (decide (j < 0))))] ?_
 refine iF ?_
 refine Zv K (o := (.tmp 12)) K (b := (decide (j < 0))) K (fun a7 => ?_) (fun a7 => ?_)
 ·have H := ct H a7
  refine aQ ?_
  refine aR ?_
  refine iR 1 1 [(13, (.agg #[(.string ⟨List.toArray ([] : List UInt8)⟩), (.string ⟨List.toArray ([] : List UInt8)⟩), (.int .i64 0)]))] ?_
  refine iS 2 ?_
  refine Qm.store (t := 37) (x := (.tmp 4)) (y := (.tmp 13)) (g := a1) (off := 0) (i := 2) (v := (.agg #[(.string ⟨List.toArray ([] : List UInt8)⟩), (.string ⟨List.toArray ([] : List UInt8)⟩), (.int .i64 0)])) (cs' := #[(.string ⟨List.toArray ([] : List UInt8)⟩), (.string ⟨List.toArray ([] : List UInt8)⟩), (.int .i64 0)]) (d := none) (k := 1) K rfl K K q rfl K ?_
  intro w32 b0
  refine iR 1 3 [(5, (.bool false))] ?_
  refine iF ?_
  refine At.ret K ?_
  refine ⟨(.tuple #[(.agg #[(.string ⟨List.toArray ([] : List UInt8)⟩), (.string ⟨List.toArray ([] : List UInt8)⟩), (.int .i64 0)]), (.bool false)]), F6 K (Dm (a := 4) (t := 37) (g := a1) (off := 0) K (SP.get b0 (i := 2) rfl) K) (Ce (t := 5) K), ?_⟩
  obtain rfl := Qg H
  exact ⟨rfl, SP.sel b0 [] rfl rfl⟩
 ·have H := cf H a7
  refine At.skip K ?_
  refine aQ ?_
  refine aR ?_
  refine iR 1 1 [(14, (pt u 4))] ?_
  refine iS 2 ?_
  refine sL 31 14 u 4 0 (.slice A9 (List.length h) m) 15 q rfl ?_
  refine iR 1 3 [(16, (.int .i64 j))] ?_
  obtain ⟨f, b1, b2, b8, H⟩ := Vc H
  refine iS 4 ?_
  refine Qp (e := (Qd Qn (Qd Qn (Qx .i64)))) (l := h) (A := A9) (c := m) (T := 31) (E := 37) (x := (.tmp 15)) (ix := (.tmp 16)) (ki := .i64) (iz := j) (d := (some 17)) (k := 3) K rfl K K K K (RdT.sp a6 q) b1 b2 ?_
  intro b9 c0 c1 c7 hc41
  refine iS 5 ?_
  refine Qm.cells (t := 37) (x := (.tmp 17)) (b := b9) (off := (c0 + Int.toNat j * (Qd Qn (Qd Qn (Qx .i64))).sz)) (xs := [(.string ⟨List.toArray f.1⟩), (.string ⟨List.toArray f.2.1⟩), (.int .i64 f.2.2)]) (d := (some 18)) (k := 4) K rfl K K K (Vy (e := (Qd Qn (Qd Qn (Qx .i64)))) (Qo (RdT.sp a6 q) c1 b1 b2) b8 rfl) ?_
  refine iS 6 ?_
  refine Qm.store (t := 37) (x := (.tmp 4)) (y := (.tmp 18)) (g := a1) (off := 0) (i := 2) (v := (.agg #[(.string ⟨List.toArray f.1⟩), (.string ⟨List.toArray f.2.1⟩), (.int .i64 f.2.2)])) (cs' := #[(.string ⟨List.toArray f.1⟩), (.string ⟨List.toArray f.2.1⟩), (.int .i64 f.2.2)]) (d := none) (k := 5) K rfl K K q rfl K ?_
  intro c8 b3
  refine iR 1 7 [(5, (.bool true))] ?_
  refine iF ?_
  refine At.ret K ?_
  refine ⟨(.tuple #[(.agg #[(.string ⟨List.toArray f.1⟩), (.string ⟨List.toArray f.2.1⟩), (.int .i64 f.2.2)]), (.bool true)]), F6 K (Dm (a := 4) (t := 37) (g := a1) (off := 0) K (SP.get b3 (i := 2) rfl) K) (Ce (t := 5) K), ?_⟩
  obtain rfl := Qg H
  exact ⟨rfl, SP.sel b3 [] rfl rfl⟩
end Go.Proofs.YtoflbpmbkmephaaGreatDoor
namespace Go.Proofs.YtoflbpmbkmephaaGreatDoor
open Go.RowKit
theorem fx_step {α : Type} {P : α → Bool} {l : List α} {i : Nat} (hi : i < l.length) (hn : (l.take i).any P = false) (hx : P l[i] = true) : l.findIdx? P = some i := by
  rw [List.findIdx?_eq_some_iff_getElem]
  refine ⟨hi, hx, fun j hj => ?_⟩
  rw [List.any_eq_false] at hn
  have := hn l[j] (by rw [List.mem_take_iff_getElem]; exact ⟨j, by omega, rfl⟩)
  simpa using this
theorem fx_none {α : Type} {P : α → Bool} {l : List α} (hn : l.any P = false) : l.findIdx? P = none := by
  rw [List.findIdx?_eq_none_iff]
  intro x hx
  rw [List.any_eq_false] at hn
  simpa using hn x hx
theorem fx_more {α : Type} {P : α → Bool} {l : List α} {i : Nat} (hi : i < l.length) (hn : (l.take i).any P = false) (hx : P l[i] = false) : (l.take (i + 1)).any P = false := by
  rw [List.take_add_one, List.getElem?_eq_getElem hi, List.any_append, hn]
  simp [hx]
def ixI (o : Option Nat) : Int := match o with | some i => (i : Int) | none => -1
theorem Hm (l : List Qf) (P : Qf → Bool) (p : Str → Int → Int → List Ez → List Rx → Option Bool) (hp : ∀ x : Qf, p x.1 x.2.1 x.2.2.1 x.2.2.2.1 x.2.2.2.2 = some (P x)) (hl : l.length ≤ 140737488355328) :
    ∀ (d i f : Nat), d = l.length - i → i ≤ l.length → d < f → (l.take i).any P = false → Qh l p f (i : Int) = some (ixI (l.findIdx? P)) := by
  intro d
  induction d with
  | zero =>
    intro i f hd hi hf hn
    obtain ⟨f, rfl⟩ : ∃ g, f = g + 1 := ⟨f - 1, by omega⟩
    show Qk (Qh l p f) l p (i : Int) = _
    unfold Qk
    rw [List.take_of_length_le (by omega)] at hn
    rw [show decide ((i : Int) < ((l.length : Nat) : Int)) = false from decide_eq_false (by omega), cond_false, fx_none hn]
    rfl
  | succ d ih =>
    intro i f hd hi hf hn
    obtain ⟨f, rfl⟩ : ∃ g, f = g + 1 := ⟨f - 1, by omega⟩
    have hlt : i < l.length := by omega
    show Qk (Qh l p f) l p (i : Int) = _
    unfold Qk
    rw [show decide ((i : Int) < ((l.length : Nat) : Int)) = true from decide_eq_true (by omega), cond_true, Yh hlt, Option.bind_some, hp, Option.bind_some]
    cases hx : P l[i] with
    | true => rw [cond_true, fx_step hlt hn hx]; rfl
    | false =>
      rw [cond_false, show ((i : Int) + 1) = ((i + 1 : Nat) : Int) by omega, Nl (by omega)]
      exact ih (i + 1) f (by omega) (by omega) (by omega) (fx_more hlt hn hx)
theorem Hn (l : List Rx) (P : Rx → Bool) (p : Str → Str → Int → Option Bool) (hp : ∀ x : Rx, p x.1 x.2.1 x.2.2 = some (P x)) (hl : l.length ≤ 140737488355328) :
    ∀ (d i f : Nat), d = l.length - i → i ≤ l.length → d < f → (l.take i).any P = false → Qj l p f (i : Int) = some (ixI (l.findIdx? P)) := by
  intro d
  induction d with
  | zero =>
    intro i f hd hi hf hn
    obtain ⟨f, rfl⟩ : ∃ g, f = g + 1 := ⟨f - 1, by omega⟩
    show Ql (Qj l p f) l p (i : Int) = _
    unfold Ql
    rw [List.take_of_length_le (by omega)] at hn
    rw [show decide ((i : Int) < ((l.length : Nat) : Int)) = false from decide_eq_false (by omega), cond_false, fx_none hn]
    rfl
  | succ d ih =>
    intro i f hd hi hf hn
    obtain ⟨f, rfl⟩ : ∃ g, f = g + 1 := ⟨f - 1, by omega⟩
    have hlt : i < l.length := by omega
    show Ql (Qj l p f) l p (i : Int) = _
    unfold Ql
    rw [show decide ((i : Int) < ((l.length : Nat) : Int)) = true from decide_eq_true (by omega), cond_true, Yh hlt, Option.bind_some, hp, Option.bind_some]
    cases hx : P l[i] with
    | true => rw [cond_true, fx_step hlt hn hx]; rfl
    | false =>
      rw [cond_false, show ((i : Int) + 1) = ((i + 1 : Nat) : Int) by omega, Nl (by omega)]
      exact ih (i + 1) f (by omega) (by omega) (by omega) (fx_more hlt hn hx)
theorem pl_lt' {l : List Qf} {nm : Str} {k : Nat} (h : pl l nm = some k) : k < l.length := (List.findIdx?_eq_some_iff_getElem.1 h).1
theorem lFind (w g i e : Int) (l : List Qf) (nm : Str) (hl : l.length ≤ 140737488355328) : Yk w g i e l nm = some (Hd l nm) := by
  have h := Hm l (fun x => x.1 == nm) (fun y0 y1 y2 y3 y4 => Ja y0 y1 y2 y3 y4 nm) (fun x => rfl) hl l.length 0 Xn (by omega) (by omega) (by unfold Xn; omega) rfl
  unfold Yk Q4
  rw [show ((0 : Nat) : Int) = 0 from rfl] at h
  rw [h, Option.bind_some]
  unfold Hd
  show _ = some (match pl l nm with | some k => _ | none => _)
  rw [show l.findIdx? (fun x => x.1 == nm) = pl l nm from rfl]
  cases hp : pl l nm with
  | none => rfl
  | some k =>
    have hk := pl_lt' hp
    have hg : l.getD k Hc = l[k] := by simp [List.getD, hk]
    rw [show decide (ixI (some k) < 0) = false from decide_eq_false (by show ¬ ((k : Nat) : Int) < 0; omega), cond_false]
    show (idx l ((k : Nat) : Int)).bind _ = _
    rw [Yh hk, Option.bind_some]
    simp only [hg]
def tix (l : List Rx) (nm : Str) : Option Nat := l.findIdx? (fun x => x.1 == nm)
def dTok0 : Rx := ([], [], 0)
def tokL (l : List Rx) (nm : Str) : Str × Str × Int × Bool := match tix l nm with
  | some k => ((l.getD k dTok0).1, (l.getD k dTok0).2.1, (l.getD k dTok0).2.2, true)
  | none => ([], [], 0, false)
theorem tix_lt {l : List Rx} {nm : Str} {k : Nat} (h : tix l nm = some k) : k < l.length := (List.findIdx?_eq_some_iff_getElem.1 h).1
theorem lTok (n : Str) (a b : Int) (ns : List Ez) (l : List Rx) (nm : Str) (hl : l.length ≤ 140737488355328) : Yt n a b ns l nm = some (tokL l nm) := by
  have h := Hn l (fun x => x.1 == nm) (fun y0 y1 y2 => Yp y0 y1 y2 nm) (fun x => rfl) hl l.length 0 Xn (by omega) (by omega) (by unfold Xn; omega) rfl
  unfold Yt Q6
  rw [show ((0 : Nat) : Int) = 0 from rfl] at h
  rw [h, Option.bind_some]
  unfold tokL
  rw [show l.findIdx? (fun x => x.1 == nm) = tix l nm from rfl]
  cases hp : tix l nm with
  | none => rfl
  | some k =>
    have hk := tix_lt hp
    have hg : l.getD k dTok0 = l[k] := by simp [List.getD, hk]
    rw [show decide (ixI (some k) < 0) = false from decide_eq_false (by show ¬ ((k : Nat) : Int) < 0; omega), cond_false]
    show (idx l ((k : Nat) : Int)).bind _ = _
    rw [Yh hk, Option.bind_some]
    simp only [hg]
theorem stok_loop (r4 : Int → Option Bool) (l : List Rx) (hl : l.length ≤ 140737488355328) : ∀ (d i f : Nat), d = l.length - i → i ≤ l.length → d < f → Vt r4 l l f (i : Int) = some true := by
  intro d
  induction d with
  | zero =>
    intro i f hd hi hf
    obtain ⟨f, rfl⟩ : ∃ g, f = g + 1 := ⟨f - 1, by omega⟩
    show Vs r4 (Vt r4 l l f) l l (i : Int) = _
    unfold Vs
    rw [decide_eq_false (show ¬ ((i : Int) < ((l.length : Nat) : Int)) by omega), cond_false]
  | succ d ih =>
    intro i f hd hi hf
    obtain ⟨f, rfl⟩ : ∃ g, f = g + 1 := ⟨f - 1, by omega⟩
    have hlt : i < l.length := by omega
    show Vs r4 (Vt r4 l l f) l l (i : Int) = _
    unfold Vs
    rw [decide_eq_true (show (i : Int) < ((l.length : Nat) : Int) by omega), cond_true, Yh hlt]
    simp only [Option.bind_some, beq_self_eq_true, Bool.and_self, Bool.not_true, cond_false]
    rw [show (i : Int) + 1 = ((i + 1 : Nat) : Int) by omega, Nl (by omega)]
    exact ih (i + 1) f (by omega) (by omega) (by omega)
theorem snet_loop (l : List Ez) (k : List Rx) (hl : l.length ≤ 140737488355328) (hk : k.length ≤ 140737488355328) : ∀ (d i f : Nat), d = l.length - i → i ≤ l.length → d < f → Q2 l k l k f (i : Int) = some true := by
  intro d
  induction d with
  | zero =>
    intro i f hd hi hf
    obtain ⟨f, rfl⟩ : ∃ g, f = g + 1 := ⟨f - 1, by omega⟩
    show Vu (Q2 l k l k f) l k l k (i : Int) = _
    unfold Vu
    rw [decide_eq_false (show ¬ ((i : Int) < ((l.length : Nat) : Int)) by omega), cond_false]
    exact stok_loop _ k hk k.length 0 Xn (by omega) (by omega) (by unfold Xn; omega)
  | succ d ih =>
    intro i f hd hi hf
    obtain ⟨f, rfl⟩ : ∃ g, f = g + 1 := ⟨f - 1, by omega⟩
    have hlt : i < l.length := by omega
    show Vu (Q2 l k l k f) l k l k (i : Int) = _
    unfold Vu
    rw [decide_eq_true (show (i : Int) < ((l.length : Nat) : Int) by omega), cond_true, Yh hlt]
    simp only [Option.bind_some, beq_self_eq_true, Bool.and_self, Bool.not_true, cond_false]
    rw [show (i : Int) + 1 = ((i + 1 : Nat) : Int) by omega, Nl (by omega)]
    exact ih (i + 1) f (by omega) (by omega) (by omega)
theorem rSameT (n : Str) (a b : Int) (l : List Ez) (k : List Rx) (hl : l.length ≤ 140737488355328) (hk : k.length ≤ 140737488355328) : V0 n a b l k n a b l k = some true := by
  unfold V0 Vf
  simp only [beq_self_eq_true, Bool.not_true, bne_self_eq_false, cond_false]
  exact snet_loop l k hl hk l.length 0 Xn (by omega) (by omega) (by unfold Xn; omega)
end Go.Proofs.YtoflbpmbkmephaaGreatDoor
namespace Go.Proofs.YtoflbpmbkmephaaGreatDoor
theorem C5 : ∀ l : Str, Op.bytesLess l l = false
  | [] => rfl
  | a :: l => by
    show ((decide (a < a)) || (a == a && Op.bytesLess l l)) = false
    rw [C5 l, Bool.and_false, Bool.or_false]
    simp
theorem less_tr : ∀ a b c : Str, Op.bytesLess a b = true → Op.bytesLess b c = true → Op.bytesLess a c = true
  | a, [], c, h, _ => by rw [Ft] at h; cases h
  | a, b, [], _, h => by rw [Ft] at h; cases h
  | [], x :: b, y :: c, _, _ => rfl
  | x :: a, y :: b, z :: c, h1, h2 => by
    have e1 : (decide (x < y) || (x == y && Op.bytesLess a b)) = true := h1
    have e2 : (decide (y < z) || (y == z && Op.bytesLess b c)) = true := h2
    show (decide (x < z) || (x == z && Op.bytesLess a c)) = true
    simp only [Bool.or_eq_true, decide_eq_true_eq, Bool.and_eq_true, beq_iff_eq] at e1 e2 ⊢
    rcases e1 with e1 | ⟨rfl, e1⟩
    · rcases e2 with e2 | ⟨rfl, e2⟩
      · exact .inl (UInt8.lt_trans e1 e2)
      · exact .inl e1
    · rcases e2 with e2 | ⟨rfl, e2⟩
      · exact .inl e2
      · exact .inr ⟨rfl, less_tr a b c e1 e2⟩
theorem C6 : ∀ (l : List Str) (x : Str), Rq (x :: l) = true → ∀ y ∈ l, Op.bytesLess x y = true
  | [], x, _, y, hy => by cases hy
  | b :: r, x, h, y, hy => by
    have h' : (Op.bytesLess x b && Rq (b :: r)) = true := h
    rw [Bool.and_eq_true] at h'
    rcases List.mem_cons.1 hy with rfl | hy
    · exact h'.1
    · exact less_tr _ _ _ h'.1 (C6 r b h'.2 y hy)
theorem ris_tail {x : Str} {l : List Str} (h : Rq (x :: l) = true) : Rq l = true := by
  cases l with
  | nil => rfl
  | cons b r =>
    have h' : (Op.bytesLess x b && Rq (b :: r)) = true := h
    rw [Bool.and_eq_true] at h'
    exact h'.2
theorem Fy {l : List Str} (h : Rq l = true) : ∀ j, Rq (l.drop j) = true := by
  intro j
  induction j generalizing l with
  | zero => exact h
  | succ j ih =>
    cases l with
    | nil => rfl
    | cons x l => exact ih (ris_tail h)
theorem ris_ne {l : List Qf} (h : Rq (l.map (·.1)) = true) {j i : Nat} (hji : j < i) (hi : i < l.length) : (l[j]'(by omega)).1 ≠ l[i].1 := by
  have h1 := Fy h j
  rw [List.drop_eq_getElem_cons (by simp; omega : j < (l.map (·.1)).length)] at h1
  have h2 := C6 _ _ h1 l[i].1 (by
    rw [← List.map_drop]
    refine List.mem_map.2 ⟨l[i], ?_, rfl⟩
    rw [List.mem_drop_iff_getElem]
    exact ⟨i - (j + 1), by omega, by congr 1; omega⟩)
  simp only [List.getElem_map] at h2
  intro e
  rw [e, C5] at h2
  cases h2
theorem pl_at {l : List Qf} (h : Rq (l.map (·.1)) = true) {i : Nat} (hi : i < l.length) : pl l l[i].1 = some i := by
  unfold pl
  rw [List.findIdx?_eq_some_iff_getElem]
  exact ⟨hi, by simp, fun j hj => by simpa using ris_ne h hj hi⟩
theorem ris_neT {l : List Rx} (h : Rq (l.map (·.1)) = true) {j i : Nat} (hji : j < i) (hi : i < l.length) : (l[j]'(by omega)).1 ≠ l[i].1 := by
  have h1 := Fy h j
  rw [List.drop_eq_getElem_cons (by simp; omega : j < (l.map (·.1)).length)] at h1
  have h2 := C6 _ _ h1 l[i].1 (by
    rw [← List.map_drop]
    refine List.mem_map.2 ⟨l[i], ?_, rfl⟩
    rw [List.mem_drop_iff_getElem]
    exact ⟨i - (j + 1), by omega, by congr 1; omega⟩)
  simp only [List.getElem_map] at h2
  intro e
  rw [e, C5] at h2
  cases h2
theorem tix_at {l : List Rx} (h : Rq (l.map (·.1)) = true) {i : Nat} (hi : i < l.length) : tix l l[i].1 = some i := by
  unfold tix
  rw [List.findIdx?_eq_some_iff_getElem]
  exact ⟨hi, by simp, fun j hj => by simpa using ris_neT h hj hi⟩
end Go.Proofs.YtoflbpmbkmephaaGreatDoor
namespace Go.Proofs.YtoflbpmbkmephaaGreatDoor
open Go.RowKit
def Qu (a : Bool) : Option (Bool) :=
  (some (a))
def Y4  : Option (Bool) :=
  ((Xe ([116, 105, 109, 101, 115, 32, 57, 32, 56, 32, 55, 32, 54, 10, 116, 101, 110, 97, 110, 116, 32, 97, 32, 50, 32, 51, 10, 110, 101, 116, 32, 49, 48, 46, 48, 46, 48, 46, 48, 47, 56, 10, 116, 111, 107, 101, 110, 32, 107, 32, 48, 48, 102, 102, 32, 53, 10, 116, 101, 110, 97, 110, 116, 32, 98, 32, 48, 32, 48, 10] : List UInt8)).bind fun z1 => ((some z1.2.2.2.2.1).bind fun l9 => ((Xe ([116, 105, 109, 101, 115, 32, 57, 32, 56, 32, 55, 32, 54, 10, 110, 101, 116, 32, 49, 48, 46, 48, 46, 48, 46, 48, 47, 56, 10] : List UInt8)).bind fun b => ((some b.2.2.2.2.1).bind fun h => ((Xe ([116, 105, 109, 101, 115, 32, 57, 32, 56, 32, 55, 32, 54, 10, 116, 101, 110, 97, 110, 116, 32, 98, 32, 49, 32, 49, 10, 116, 101, 110, 97, 110, 116, 32, 97, 32, 49, 32, 49, 10] : List UInt8)).bind fun c => ((some c.2.2.2.2.1).bind fun i => ((Yk z1.1 z1.2.1 z1.2.2.1 z1.2.2.2.1 l9 ([97] : List UInt8)).bind fun a => ((Yt a.1 a.2.1 a.2.2.1 a.2.2.2.1 a.2.2.2.2.1 ([107] : List UInt8)).bind fun d => (cond (z1.2.2.2.2.2.1 == 0) ((Nq z1.1 z1.2.1 z1.2.2.1 z1.2.2.2.1 l9).bind fun e => (cond (e == ([116, 105, 109, 101, 115, 32, 57, 32, 56, 32, 55, 32, 54, 10, 116, 101, 110, 97, 110, 116, 32, 97, 32, 50, 32, 51, 10, 110, 101, 116, 32, 49, 48, 46, 48, 46, 48, 46, 48, 47, 56, 10, 116, 111, 107, 101, 110, 32, 107, 32, 48, 48, 102, 102, 32, 53, 10, 116, 101, 110, 97, 110, 116, 32, 98, 32, 48, 32, 48, 10] : List UInt8)) (cond (((List.length l9 : Nat) : Int) == 2) (cond (z1.2.2.2.1 == 6) (cond (b.2.2.2.2.2.1 == 91) (cond (b.2.2.2.2.2.2 == 1) (cond (c.2.2.2.2.2.1 == 91) (cond (c.2.2.2.2.2.2 == 2) (cond a.2.2.2.2.2 (cond d.2.2.2 (cond (d.2.1 == ([0, 255] : List UInt8)) (cond (d.2.2.1 == 5) ((Zz z1.1 z1.2.1 z1.2.2.1 z1.2.2.2.1 l9).bind fun f => (cond f ((Zz 0 0 0 0 ([] : List Qf)).bind fun g => (Qu (!g))) (Qu false))) (Qu false)) (Qu false)) (Qu false)) (Qu false)) (Qu false)) (Qu false)) (Qu false)) (Qu false)) (Qu false)) (Qu false)) (Qu false))) (Qu false))))))))))
set_option maxHeartbeats 40000000 in
theorem Gj   (w0 : World) (hL : Ur w0)  (r : (Bool)) (H : Y4  = some r) :
  Calls Tryz.prog 14 #[] w0 (fun e w' => e = .returned (.bool r) ∧ SP [] w0 w' []) := by
 unfold Y4 at H
 refine Qz (n := 101) Tryz.func14 K K K ?_
 have d0 := Q3 [] w0
 refine aQ ?_
 refine aR ?_
 refine iR 1 1 [(0, (.bool false))] ?_
 refine iF ?_
 refine aQ ?_
 refine aR ?_
 refine iR 1 1 [(1, (.string ⟨List.toArray ([116, 105, 109, 101, 115, 32, 57, 32, 56, 32, 55, 32, 54, 10, 116, 101, 110, 97, 110, 116, 32, 97, 32, 50, 32, 51, 10, 110, 101, 116, 32, 49, 48, 46, 48, 46, 48, 46, 48, 47, 56, 10, 116, 111, 107, 101, 110, 32, 107, 32, 48, 48, 102, 102, 32, 53, 10, 116, 101, 110, 97, 110, 116, 32, 98, 32, 48, 32, 48, 10] : List UInt8)⟩))] ?_
 refine iF ?_
 refine aQ ?_
 refine aR ?_
 refine iR 1 1 [(16, (.string ⟨List.toArray ([116, 105, 109, 101, 115, 32, 57, 32, 56, 32, 55, 32, 54, 10, 116, 101, 110, 97, 110, 116, 32, 97, 32, 50, 32, 51, 10, 110, 101, 116, 32, 49, 48, 46, 48, 46, 48, 46, 48, 47, 56, 10, 116, 111, 107, 101, 110, 32, 107, 32, 48, 48, 102, 102, 32, 53, 10, 116, 101, 110, 97, 110, 116, 32, 98, 32, 48, 32, 48, 10] : List UInt8)⟩))] ?_
 obtain ⟨z1, e4, H⟩ := Qc H
 refine iS 2 ?_
 refine cF 16 #[(.tmp 16)] #[9] 17 Tryz.call16 (Jw  ([116, 105, 109, 101, 115, 32, 57, 32, 56, 32, 55, 32, 54, 10, 116, 101, 110, 97, 110, 116, 32, 97, 32, 50, 32, 51, 10, 110, 101, 116, 32, 49, 48, 46, 48, 46, 48, 46, 48, 47, 56, 10, 116, 111, 107, 101, 110, 32, 107, 32, 48, 48, 102, 102, 32, 53, 10, 116, 101, 110, 97, 110, 116, 32, 98, 32, 48, 32, 48, 10] : List UInt8) w0 (Q5 hL (SP.keeps d0)) z1 e4) ?_
 rintro e w3 ⟨A5, c6, d7, rfl, e5, d1⟩
 obtain ⟨h7, hll9, H⟩ := Zq H
 rw [e5] at hll9
 subst hll9
 refine ⟨_, rfl, ?_⟩
 have e6 := SP.call d0 d1
 clear d1
 refine iR 4 6 [(15, (.tuple #[(.agg #[(.int .i64 z1.1), (.int .i64 z1.2.1), (.int .i64 z1.2.2.1), (.int .i64 z1.2.2.2.1), (.slice A5 (List.length (List.map stT d7)) c6)]), (.int .i64 z1.2.2.2.2.2.1), (.int .i64 z1.2.2.2.2.2.2)])), (18, (.agg #[(.int .i64 z1.1), (.int .i64 z1.2.1), (.int .i64 z1.2.2.1), (.int .i64 z1.2.2.2.1), (.slice A5 (List.length (List.map stT d7)) c6)])), (19, (.int .i64 z1.2.2.2.2.2.1)), (20, (.int .i64 z1.2.2.2.2.2.2))] ?_
 refine iS 7 ?_
 refine Qm.alloc (t := 24) (z := (.agg #[(.int .i64 0), (.int .i64 0), (.int .i64 0), (.int .i64 0), (.slice none (List.length ([] : List Qf)) 0)])) (d := (some 2)) (k := 6) K rfl K e6 ?_
 intro o h8 e7
 refine iS 8 ?_
 refine Qm.store (t := 24) (x := (.tmp 2)) (y := (.tmp 18)) (g := o) (off := 0) (i := 1) (v := (.agg #[(.int .i64 z1.1), (.int .i64 z1.2.1), (.int .i64 z1.2.2.1), (.int .i64 z1.2.2.2.1), (.slice A5 (List.length (List.map stT d7)) c6)])) (cs' := #[(.int .i64 z1.1), (.int .i64 z1.2.1), (.int .i64 z1.2.2.1), (.int .i64 z1.2.2.2.1), (.slice A5 (List.length (List.map stT d7)) c6)]) (d := none) (k := 7) K rfl K K e7 rfl K ?_
 intro e8 d2
 refine iR 2 10 [(3, (.int .i64 z1.2.2.2.2.2.1)), (4, (.int .i64 z1.2.2.2.2.2.2))] ?_
 refine iF ?_
 refine aQ ?_
 refine aR ?_
 obtain ⟨f, e9, H⟩ := Qc H
 refine iS 1 ?_
 refine cF 16 #[(.const (.string ⟨List.toArray ([116, 105, 109, 101, 115, 32, 57, 32, 56, 32, 55, 32, 54, 10, 110, 101, 116, 32, 49, 48, 46, 48, 46, 48, 46, 48, 47, 56, 10] : List UInt8)⟩))] #[9] 22 Tryz.call16 (Jw  ([116, 105, 109, 101, 115, 32, 57, 32, 56, 32, 55, 32, 54, 10, 110, 101, 116, 32, 49, 48, 46, 48, 46, 48, 46, 48, 47, 56, 10] : List UInt8) e8 (Q5 hL (SP.keeps d2)) f e9) ?_
 rintro e h9 ⟨a6, a7, a8, rfl, f0, d3⟩
 obtain ⟨i0, hll27, H⟩ := Zq H
 rw [f0] at hll27
 subst hll27
 refine ⟨_, rfl, ?_⟩
 have f1 := SP.call d2 d3
 clear d3
 refine iR 4 5 [(21, (.tuple #[(.agg #[(.int .i64 f.1), (.int .i64 f.2.1), (.int .i64 f.2.2.1), (.int .i64 f.2.2.2.1), (.slice a6 (List.length (List.map stT a8)) a7)]), (.int .i64 f.2.2.2.2.2.1), (.int .i64 f.2.2.2.2.2.2)])), (23, (.agg #[(.int .i64 f.1), (.int .i64 f.2.1), (.int .i64 f.2.2.1), (.int .i64 f.2.2.2.1), (.slice a6 (List.length (List.map stT a8)) a7)])), (24, (.int .i64 f.2.2.2.2.2.1)), (25, (.int .i64 f.2.2.2.2.2.2))] ?_
 refine iS 6 ?_
 refine Qm.alloc (t := 24) (z := (.agg #[(.int .i64 0), (.int .i64 0), (.int .i64 0), (.int .i64 0), (.slice none (List.length ([] : List Qf)) 0)])) (d := (some 5)) (k := 5) K rfl K f1 ?_
 intro f2 i1 f3
 refine iS 7 ?_
 refine Qm.store (t := 24) (x := (.tmp 5)) (y := (.tmp 23)) (g := f2) (off := 0) (i := 3) (v := (.agg #[(.int .i64 f.1), (.int .i64 f.2.1), (.int .i64 f.2.2.1), (.int .i64 f.2.2.2.1), (.slice a6 (List.length (List.map stT a8)) a7)])) (cs' := #[(.int .i64 f.1), (.int .i64 f.2.1), (.int .i64 f.2.2.1), (.int .i64 f.2.2.2.1), (.slice a6 (List.length (List.map stT a8)) a7)]) (d := none) (k := 6) K rfl K K f3 rfl K ?_
 intro f4 d4
 refine iR 2 9 [(6, (.int .i64 f.2.2.2.2.2.1)), (7, (.int .i64 f.2.2.2.2.2.2))] ?_
 refine iF ?_
 refine aQ ?_
 refine aR ?_
 obtain ⟨h, f5, H⟩ := Qc H
 refine iS 1 ?_
 refine cF 16 #[(.const (.string ⟨List.toArray ([116, 105, 109, 101, 115, 32, 57, 32, 56, 32, 55, 32, 54, 10, 116, 101, 110, 97, 110, 116, 32, 98, 32, 49, 32, 49, 10, 116, 101, 110, 97, 110, 116, 32, 97, 32, 49, 32, 49, 10] : List UInt8)⟩))] #[9] 27 Tryz.call16 (Jw  ([116, 105, 109, 101, 115, 32, 57, 32, 56, 32, 55, 32, 54, 10, 116, 101, 110, 97, 110, 116, 32, 98, 32, 49, 32, 49, 10, 116, 101, 110, 97, 110, 116, 32, 97, 32, 49, 32, 49, 10] : List UInt8) f4 (Q5 hL (SP.keeps d4)) h f5) ?_
 rintro e i2 ⟨a9, b0, b1, rfl, f6, d5⟩
 obtain ⟨i3, hll45, H⟩ := Zq H
 rw [f6] at hll45
 subst hll45
 refine ⟨_, rfl, ?_⟩
 have f7 := SP.call d4 d5
 clear d5
 refine iR 4 5 [(26, (.tuple #[(.agg #[(.int .i64 h.1), (.int .i64 h.2.1), (.int .i64 h.2.2.1), (.int .i64 h.2.2.2.1), (.slice a9 (List.length (List.map stT b1)) b0)]), (.int .i64 h.2.2.2.2.2.1), (.int .i64 h.2.2.2.2.2.2)])), (28, (.agg #[(.int .i64 h.1), (.int .i64 h.2.1), (.int .i64 h.2.2.1), (.int .i64 h.2.2.2.1), (.slice a9 (List.length (List.map stT b1)) b0)])), (29, (.int .i64 h.2.2.2.2.2.1)), (30, (.int .i64 h.2.2.2.2.2.2))] ?_
 refine iS 6 ?_
 refine Qm.alloc (t := 24) (z := (.agg #[(.int .i64 0), (.int .i64 0), (.int .i64 0), (.int .i64 0), (.slice none (List.length ([] : List Qf)) 0)])) (d := (some 8)) (k := 5) K rfl K f7 ?_
 intro f8 i4 f9
 refine iS 7 ?_
 refine Qm.store (t := 24) (x := (.tmp 8)) (y := (.tmp 28)) (g := f8) (off := 0) (i := 5) (v := (.agg #[(.int .i64 h.1), (.int .i64 h.2.1), (.int .i64 h.2.2.1), (.int .i64 h.2.2.2.1), (.slice a9 (List.length (List.map stT b1)) b0)])) (cs' := #[(.int .i64 h.1), (.int .i64 h.2.1), (.int .i64 h.2.2.1), (.int .i64 h.2.2.2.1), (.slice a9 (List.length (List.map stT b1)) b0)]) (d := none) (k := 6) K rfl K K f9 rfl K ?_
 intro g0 b2
 refine iR 2 9 [(9, (.int .i64 h.2.2.2.2.2.1)), (10, (.int .i64 h.2.2.2.2.2.2))] ?_
 refine iF ?_
 refine aQ ?_
 refine aR ?_
 refine iS 1 ?_
 refine sL 24 2 o 0 1 (.agg #[(.int .i64 z1.1), (.int .i64 z1.2.1), (.int .i64 z1.2.2.1), (.int .i64 z1.2.2.2.1), (.slice A5 (List.length (List.map stT d7)) c6)]) 32 b2 rfl ?_
 obtain ⟨c, g1, H⟩ := Qc H
 refine iS 2 ?_
 refine cF 18 #[(.tmp 32), (.const (.string ⟨List.toArray ([97] : List UInt8)⟩))] #[24, 9] 33 Tryz.call18 (Y3 (R := fun w => Below w0.heap.size w0 w ∧ (Yv A5 c6 d7).ok w) A5 c6 z1.1 z1.2.1 z1.2.2.1 z1.2.2.2.1 d7 ([97] : List UInt8) g0 (fun w hb => ⟨Ui b2 hb, SP.get (SP.below b2 hb) (i := 0) rfl⟩) (fun w hr => G4 hr.2) c g1) ?_
 rintro e i5 ⟨p, q, s, u, rfl, g2, g3, d6⟩
 refine ⟨_, rfl, ?_⟩
 have g4 := SP.call b2 d6
 clear d6
 refine iR 3 5 [(31, (.tuple #[(.agg #[(.string ⟨List.toArray c.1⟩), (.int .i64 c.2.1), (.int .i64 c.2.2.1), (.slice p (List.length c.2.2.2.1) q), (.slice s (List.length c.2.2.2.2.1) u)]), (.bool c.2.2.2.2.2)])), (34, (.agg #[(.string ⟨List.toArray c.1⟩), (.int .i64 c.2.1), (.int .i64 c.2.2.1), (.slice p (List.length c.2.2.2.1) q), (.slice s (List.length c.2.2.2.2.1) u)])), (35, (.bool c.2.2.2.2.2))] ?_
 refine iS 6 ?_
 refine Qm.alloc (t := 33) (z := (.agg #[(.string ⟨List.toArray ([] : List UInt8)⟩), (.int .i64 0), (.int .i64 0), (.slice none (List.length ([] : List (Int × Int))) 0), (.slice none (List.length ([] : List ((List UInt8) × (List UInt8) × Int))) 0)])) (d := (some 11)) (k := 5) K rfl K g4 ?_
 intro d8 i6 g5
 refine iS 7 ?_
 refine Qm.store (t := 33) (x := (.tmp 11)) (y := (.tmp 34)) (g := d8) (off := 0) (i := 6) (v := (.agg #[(.string ⟨List.toArray c.1⟩), (.int .i64 c.2.1), (.int .i64 c.2.2.1), (.slice p (List.length c.2.2.2.1) q), (.slice s (List.length c.2.2.2.2.1) u)])) (cs' := #[(.string ⟨List.toArray c.1⟩), (.int .i64 c.2.1), (.int .i64 c.2.2.1), (.slice p (List.length c.2.2.2.1) q), (.slice s (List.length c.2.2.2.2.1) u)]) (d := none) (k := 6) K rfl K K g5 rfl K ?_
 intro b4 a0
 refine iR 1 8 [(12, (.bool c.2.2.2.2.2))] ?_
 refine iF ?_
 refine aQ ?_
 refine aR ?_
 refine iS 1 ?_
 refine sL 33 11 d8 0 6 (.agg #[(.string ⟨List.toArray c.1⟩), (.int .i64 c.2.1), (.int .i64 c.2.2.1), (.slice p (List.length c.2.2.2.1) q), (.slice s (List.length c.2.2.2.2.1) u)]) 37 a0 rfl ?_
 obtain ⟨j, g6, H⟩ := Qc H
 refine iS 2 ?_
 refine cF 20 #[(.tmp 37), (.const (.string ⟨List.toArray ([107] : List UInt8)⟩))] #[33, 9] 38 Tryz.call20 (Jy p q s u c.1 c.2.1 c.2.2.1 c.2.2.2.1 c.2.2.2.2.1 ([107] : List UInt8) b4 (g2 b4 ⟨SP.keeps a0, SP.get a0 (i := 0) rfl⟩) (g3 b4 ⟨SP.keeps a0, SP.get a0 (i := 0) rfl⟩) j g6) ?_
 rintro e i7 ⟨rfl, d9⟩
 refine ⟨_, rfl, ?_⟩
 have g7 := SP.call a0 d9
 clear d9
 refine iR 3 5 [(36, (.tuple #[(.agg #[(.string ⟨List.toArray j.1⟩), (.string ⟨List.toArray j.2.1⟩), (.int .i64 j.2.2.1)]), (.bool j.2.2.2)])), (39, (.agg #[(.string ⟨List.toArray j.1⟩), (.string ⟨List.toArray j.2.1⟩), (.int .i64 j.2.2.1)])), (40, (.bool j.2.2.2))] ?_
 refine iS 6 ?_
 refine Qm.alloc (t := 37) (z := (.agg #[(.string ⟨List.toArray ([] : List UInt8)⟩), (.string ⟨List.toArray ([] : List UInt8)⟩), (.int .i64 0)])) (d := (some 13)) (k := 5) K rfl K g7 ?_
 intro a3 i8 g8
 refine iS 7 ?_
 refine Qm.store (t := 37) (x := (.tmp 13)) (y := (.tmp 39)) (g := a3) (off := 0) (i := 7) (v := (.agg #[(.string ⟨List.toArray j.1⟩), (.string ⟨List.toArray j.2.1⟩), (.int .i64 j.2.2.1)])) (cs' := #[(.string ⟨List.toArray j.1⟩), (.string ⟨List.toArray j.2.1⟩), (.int .i64 j.2.2.1)]) (d := none) (k := 6) K rfl K K g8 rfl K ?_
 intro g9 a4
 refine iR 1 8 [(14, (.bool j.2.2.2))] ?_
 refine iF ?_
 refine aQ ?_
 refine At.join (fun ρ w => ∃ (a1 : Bool), Zd ρ [(0, (.bool a1))] ∧ SP [] w0 w [] ∧ Qu a1 = some r) ?_ ?_
 ·refine aR ?_
  refine iR 3 3 [(41, (.int .i64 z1.2.2.2.2.2.1)), (42, (.bool (z1.2.2.2.2.2.1 == 0))), (43, (.bool (z1.2.2.2.2.2.1 == 0)))] ?_
  refine In.guard (t := 43) (b := (z1.2.2.2.2.2.1 == 0)) K (fun b5 => ?_) (fun b5 => ?_)
  ·have H := ct H b5
   refine iS 4 ?_
   refine sL 24 2 o 0 1 (.agg #[(.int .i64 z1.1), (.int .i64 z1.2.1), (.int .i64 z1.2.2.1), (.int .i64 z1.2.2.2.1), (.slice A5 (List.length (List.map stT d7)) c6)]) 44 a4 rfl ?_
   obtain ⟨a2, h1, H⟩ := Qc H
   refine iS 5 ?_
   refine cF 24 #[(.tmp 44)] #[24] 45 Tryz.call24 (R0 A5 c6 z1.1 z1.2.1 z1.2.2.1 z1.2.2.2.1 d7 g9 (Q5 hL (SP.keeps a4)) (G4 (SP.get a4 (i := 0) rfl)) a2 h1) ?_
   rintro e h2 ⟨rfl, e0⟩
   refine ⟨_, rfl, ?_⟩
   have m := SP.call a4 e0
   clear e0
   refine iR 1 6 [(46, (.string ⟨List.toArray ([116, 105, 109, 101, 115, 32, 57, 32, 56, 32, 55, 32, 54, 10, 116, 101, 110, 97, 110, 116, 32, 97, 32, 50, 32, 51, 10, 110, 101, 116, 32, 49, 48, 46, 48, 46, 48, 46, 48, 47, 56, 10, 116, 111, 107, 101, 110, 32, 107, 32, 48, 48, 102, 102, 32, 53, 10, 116, 101, 110, 97, 110, 116, 32, 98, 32, 48, 32, 48, 10] : List UInt8)⟩))] ?_
   refine iS 7 ?_
   refine Z1 (op := .eql) (T := 9) (T' := 9) (x := (.tmp 45)) (y := (.tmp 46)) (a := a2) (b := ([116, 105, 109, 101, 115, 32, 57, 32, 56, 32, 55, 32, 54, 10, 116, 101, 110, 97, 110, 116, 32, 97, 32, 50, 32, 51, 10, 110, 101, 116, 32, 49, 48, 46, 48, 46, 48, 46, 48, 47, 56, 10, 116, 111, 107, 101, 110, 32, 107, 32, 48, 48, 102, 102, 32, 53, 10, 116, 101, 110, 97, 110, 116, 32, 98, 32, 48, 32, 48, 10] : List UInt8)) (r := (.bool (a2 == ([116, 105, 109, 101, 115, 32, 57, 32, 56, 32, 55, 32, 54, 10, 116, 101, 110, 97, 110, 116, 32, 97, 32, 50, 32, 51, 10, 110, 101, 116, 32, 49, 48, 46, 48, 46, 48, 46, 48, 47, 56, 10, 116, 111, 107, 101, 110, 32, 107, 32, 48, 48, 102, 102, 32, 53, 10, 116, 101, 110, 97, 110, 116, 32, 98, 32, 48, 32, 48, 10] : List UInt8)))) (d := (some 47)) (k := 6) K rfl K K rfl ?_
   refine iR 2 9 [(48, (.bool (a2 == ([116, 105, 109, 101, 115, 32, 57, 32, 56, 32, 55, 32, 54, 10, 116, 101, 110, 97, 110, 116, 32, 97, 32, 50, 32, 51, 10, 110, 101, 116, 32, 49, 48, 46, 48, 46, 48, 46, 48, 47, 56, 10, 116, 111, 107, 101, 110, 32, 107, 32, 48, 48, 102, 102, 32, 53, 10, 116, 101, 110, 97, 110, 116, 32, 98, 32, 48, 32, 48, 10] : List UInt8)))), (49, (.bool (a2 == ([116, 105, 109, 101, 115, 32, 57, 32, 56, 32, 55, 32, 54, 10, 116, 101, 110, 97, 110, 116, 32, 97, 32, 50, 32, 51, 10, 110, 101, 116, 32, 49, 48, 46, 48, 46, 48, 46, 48, 47, 56, 10, 116, 111, 107, 101, 110, 32, 107, 32, 48, 48, 102, 102, 32, 53, 10, 116, 101, 110, 97, 110, 116, 32, 98, 32, 48, 32, 48, 10] : List UInt8))))] ?_
   refine In.guard (t := 49) (b := (a2 == ([116, 105, 109, 101, 115, 32, 57, 32, 56, 32, 55, 32, 54, 10, 116, 101, 110, 97, 110, 116, 32, 97, 32, 50, 32, 51, 10, 110, 101, 116, 32, 49, 48, 46, 48, 46, 48, 46, 48, 47, 56, 10, 116, 111, 107, 101, 110, 32, 107, 32, 48, 48, 102, 102, 32, 53, 10, 116, 101, 110, 97, 110, 116, 32, 98, 32, 48, 32, 48, 10] : List UInt8))) K (fun b6 => ?_) (fun b6 => ?_)
   ·have H := ct H b6
    refine iR 1 10 [(50, (pt o 4))] ?_
    refine iS 11 ?_
    refine sL 22 50 o 4 1 (.slice A5 (List.length (List.map stT d7)) c6) 51 m rfl ?_
    refine iR 4 15 [(52, (.int .i64 ((List.length (List.map stT d7) : Nat) : Int))), (53, (.bool (((List.length (List.map stT d7) : Nat) : Int) == 2))), (54, (.bool (((List.length (List.map stT d7) : Nat) : Int) == 2))), (55, (.bool (((List.length (List.map stT d7) : Nat) : Int) == 2)))] ?_
    refine In.guard (t := 55) (b := (((List.length (List.map stT d7) : Nat) : Int) == 2)) K (fun b7 => ?_) (fun b7 => ?_)
    ·have H := ct H b7
     refine iR 1 16 [(56, (pt o 3))] ?_
     refine iS 17 ?_
     refine sL 2 56 o 3 1 (.int .i64 z1.2.2.2.1) 57 m rfl ?_
     refine iR 3 20 [(58, (.bool (z1.2.2.2.1 == 6))), (59, (.bool (z1.2.2.2.1 == 6))), (60, (.bool (z1.2.2.2.1 == 6)))] ?_
     refine In.guard (t := 60) (b := (z1.2.2.2.1 == 6)) K (fun b8 => ?_) (fun b8 => ?_)
     ·have H := ct H b8
      refine iR 4 24 [(61, (.int .i64 f.2.2.2.2.2.1)), (62, (.bool (f.2.2.2.2.2.1 == 91))), (63, (.bool (f.2.2.2.2.2.1 == 91))), (64, (.bool (f.2.2.2.2.2.1 == 91)))] ?_
      refine In.guard (t := 64) (b := (f.2.2.2.2.2.1 == 91)) K (fun b9 => ?_) (fun b9 => ?_)
      ·have H := ct H b9
       refine iR 4 28 [(65, (.int .i64 f.2.2.2.2.2.2)), (66, (.bool (f.2.2.2.2.2.2 == 1))), (67, (.bool (f.2.2.2.2.2.2 == 1))), (68, (.bool (f.2.2.2.2.2.2 == 1)))] ?_
       refine In.guard (t := 68) (b := (f.2.2.2.2.2.2 == 1)) K (fun c0 => ?_) (fun c0 => ?_)
       ·have H := ct H c0
        refine iR 4 32 [(69, (.int .i64 h.2.2.2.2.2.1)), (70, (.bool (h.2.2.2.2.2.1 == 91))), (71, (.bool (h.2.2.2.2.2.1 == 91))), (72, (.bool (h.2.2.2.2.2.1 == 91)))] ?_
        refine In.guard (t := 72) (b := (h.2.2.2.2.2.1 == 91)) K (fun c1 => ?_) (fun c1 => ?_)
        ·have H := ct H c1
         refine iR 4 36 [(73, (.int .i64 h.2.2.2.2.2.2)), (74, (.bool (h.2.2.2.2.2.2 == 2))), (75, (.bool (h.2.2.2.2.2.2 == 2))), (76, (.bool (h.2.2.2.2.2.2 == 2)))] ?_
         refine In.guard (t := 76) (b := (h.2.2.2.2.2.2 == 2)) K (fun c2 => ?_) (fun c2 => ?_)
         ·have H := ct H c2
          refine iR 3 39 [(77, (.bool c.2.2.2.2.2)), (78, (.bool c.2.2.2.2.2)), (79, (.bool c.2.2.2.2.2))] ?_
          refine In.guard (t := 79) (b := c.2.2.2.2.2) K (fun c3 => ?_) (fun c3 => ?_)
          ·have H := ct H c3
           refine iR 3 42 [(80, (.bool j.2.2.2)), (81, (.bool j.2.2.2)), (82, (.bool j.2.2.2))] ?_
           refine In.guard (t := 82) (b := j.2.2.2) K (fun c4 => ?_) (fun c4 => ?_)
           ·have H := ct H c4
            refine iR 1 43 [(83, (pt a3 1))] ?_
            refine iS 44 ?_
            refine sL 9 83 a3 1 7 (.string ⟨List.toArray j.2.1⟩) 84 m rfl ?_
            refine iS 45 ?_
            refine Z1 (op := .eql) (T := 9) (T' := 9) (x := (.tmp 84)) (y := (.const (.string ⟨List.toArray ([0, 255] : List UInt8)⟩))) (a := j.2.1) (b := ([0, 255] : List UInt8)) (r := (.bool (j.2.1 == ([0, 255] : List UInt8)))) (d := (some 85)) (k := 44) K rfl K K rfl ?_
            refine iR 2 47 [(86, (.bool (j.2.1 == ([0, 255] : List UInt8)))), (87, (.bool (j.2.1 == ([0, 255] : List UInt8))))] ?_
            refine In.guard (t := 87) (b := (j.2.1 == ([0, 255] : List UInt8))) K (fun c5 => ?_) (fun c5 => ?_)
            ·have H := ct H c5
             refine iR 1 48 [(88, (pt a3 2))] ?_
             refine iS 49 ?_
             refine sL 2 88 a3 2 7 (.int .i64 j.2.2.1) 89 m rfl ?_
             refine iR 3 52 [(90, (.bool (j.2.2.1 == 5))), (91, (.bool (j.2.2.1 == 5))), (92, (.bool (j.2.2.1 == 5)))] ?_
             refine In.guard (t := 92) (b := (j.2.2.1 == 5)) K (fun c7 => ?_) (fun c7 => ?_)
             ·have H := ct H c7
              refine iS 53 ?_
              refine sL 24 2 o 0 1 (.agg #[(.int .i64 z1.1), (.int .i64 z1.2.1), (.int .i64 z1.2.2.1), (.int .i64 z1.2.2.2.1), (.slice A5 (List.length (List.map stT d7)) c6)]) 93 m rfl ?_
              obtain ⟨b3, h3, H⟩ := Qc H
              refine iS 54 ?_
              refine cF 22 #[(.tmp 93)] #[24] 94 Tryz.call22 (Xl A5 c6 z1.1 z1.2.1 z1.2.2.1 z1.2.2.2.1 d7 h2 (Q5 hL (SP.keeps m)) (G4 (SP.get m (i := 0) rfl)) b3 h3) ?_
              rintro e e1 ⟨rfl, e2⟩
              refine ⟨_, rfl, ?_⟩
              have c8 := SP.call m e2
              clear e2
              refine iR 2 56 [(95, (.bool b3)), (96, (.bool b3))] ?_
              refine In.guard (t := 96) (b := b3) K (fun c9 => ?_) (fun c9 => ?_)
              ·have H := ct H c9
               refine iR 1 57 [(97, (.agg #[(.int .i64 0), (.int .i64 0), (.int .i64 0), (.int .i64 0), (.slice none (List.length ([] : List Qf)) 0)]))] ?_
               obtain ⟨a5, h4, H⟩ := Qc H
               refine iS 58 ?_
               refine cF 22 #[(.tmp 97)] #[24] 98 Tryz.call22 (Xl none 0 0 0 0 0 ([] : List Qw) e1 (Q5 hL (SP.keeps c8)) (ds_nil V9 Eu e1) a5 h4) ?_
               rintro e i9 ⟨rfl, e3⟩
               refine ⟨_, rfl, ?_⟩
               have h5 := SP.call c8 e3
               clear e3
               refine iR 3 61 [(99, (.bool (!a5))), (100, (.bool (!a5))), (0, (.bool (!a5)))] ?_
               refine iF ?_
               exact ⟨(!a5), ⟨K, trivial⟩, SP.sel h5 [] rfl rfl, H⟩
              ·have H := cf H c9
               refine iR 5 61 [(97, undef), (98, undef), (99, undef), (100, (.bool false)), (0, (.bool false))] ?_
               refine iF ?_
               exact ⟨false, ⟨K, trivial⟩, SP.sel c8 [] rfl rfl, H⟩
             ·have H := cf H c7
              refine iR 9 61 [(93, undef), (94, undef), (95, (.bool false)), (96, (.bool false)), (97, undef), (98, undef), (99, undef), (100, (.bool false)), (0, (.bool false))] ?_
              refine iF ?_
              exact ⟨false, ⟨K, trivial⟩, SP.sel m [] rfl rfl, H⟩
            ·have H := cf H c5
             refine iR 14 61 [(88, undef), (89, undef), (90, undef), (91, (.bool false)), (92, (.bool false)), (93, undef), (94, undef), (95, (.bool false)), (96, (.bool false)), (97, undef), (98, undef), (99, undef), (100, (.bool false)), (0, (.bool false))] ?_
             refine iF ?_
             exact ⟨false, ⟨K, trivial⟩, SP.sel m [] rfl rfl, H⟩
           ·have H := cf H c4
            refine iR 19 61 [(83, undef), (84, undef), (85, undef), (86, (.bool false)), (87, (.bool false)), (88, undef), (89, undef), (90, undef), (91, (.bool false)), (92, (.bool false)), (93, undef), (94, undef), (95, (.bool false)), (96, (.bool false)), (97, undef), (98, undef), (99, undef), (100, (.bool false)), (0, (.bool false))] ?_
            refine iF ?_
            exact ⟨false, ⟨K, trivial⟩, SP.sel m [] rfl rfl, H⟩
          ·have H := cf H c3
           refine iR 22 61 [(80, undef), (81, (.bool false)), (82, (.bool false)), (83, undef), (84, undef), (85, undef), (86, (.bool false)), (87, (.bool false)), (88, undef), (89, undef), (90, undef), (91, (.bool false)), (92, (.bool false)), (93, undef), (94, undef), (95, (.bool false)), (96, (.bool false)), (97, undef), (98, undef), (99, undef), (100, (.bool false)), (0, (.bool false))] ?_
           refine iF ?_
           exact ⟨false, ⟨K, trivial⟩, SP.sel m [] rfl rfl, H⟩
         ·have H := cf H c2
          refine iR 25 61 [(77, undef), (78, (.bool false)), (79, (.bool false)), (80, undef), (81, (.bool false)), (82, (.bool false)), (83, undef), (84, undef), (85, undef), (86, (.bool false)), (87, (.bool false)), (88, undef), (89, undef), (90, undef), (91, (.bool false)), (92, (.bool false)), (93, undef), (94, undef), (95, (.bool false)), (96, (.bool false)), (97, undef), (98, undef), (99, undef), (100, (.bool false)), (0, (.bool false))] ?_
          refine iF ?_
          exact ⟨false, ⟨K, trivial⟩, SP.sel m [] rfl rfl, H⟩
        ·have H := cf H c1
         refine iR 29 61 [(73, undef), (74, undef), (75, (.bool false)), (76, (.bool false)), (77, undef), (78, (.bool false)), (79, (.bool false)), (80, undef), (81, (.bool false)), (82, (.bool false)), (83, undef), (84, undef), (85, undef), (86, (.bool false)), (87, (.bool false)), (88, undef), (89, undef), (90, undef), (91, (.bool false)), (92, (.bool false)), (93, undef), (94, undef), (95, (.bool false)), (96, (.bool false)), (97, undef), (98, undef), (99, undef), (100, (.bool false)), (0, (.bool false))] ?_
         refine iF ?_
         exact ⟨false, ⟨K, trivial⟩, SP.sel m [] rfl rfl, H⟩
       ·have H := cf H c0
        refine iR 33 61 [(69, undef), (70, undef), (71, (.bool false)), (72, (.bool false)), (73, undef), (74, undef), (75, (.bool false)), (76, (.bool false)), (77, undef), (78, (.bool false)), (79, (.bool false)), (80, undef), (81, (.bool false)), (82, (.bool false)), (83, undef), (84, undef), (85, undef), (86, (.bool false)), (87, (.bool false)), (88, undef), (89, undef), (90, undef), (91, (.bool false)), (92, (.bool false)), (93, undef), (94, undef), (95, (.bool false)), (96, (.bool false)), (97, undef), (98, undef), (99, undef), (100, (.bool false)), (0, (.bool false))] ?_
        refine iF ?_
        exact ⟨false, ⟨K, trivial⟩, SP.sel m [] rfl rfl, H⟩
      ·have H := cf H b9
       refine iR 37 61 [(65, undef), (66, undef), (67, (.bool false)), (68, (.bool false)), (69, undef), (70, undef), (71, (.bool false)), (72, (.bool false)), (73, undef), (74, undef), (75, (.bool false)), (76, (.bool false)), (77, undef), (78, (.bool false)), (79, (.bool false)), (80, undef), (81, (.bool false)), (82, (.bool false)), (83, undef), (84, undef), (85, undef), (86, (.bool false)), (87, (.bool false)), (88, undef), (89, undef), (90, undef), (91, (.bool false)), (92, (.bool false)), (93, undef), (94, undef), (95, (.bool false)), (96, (.bool false)), (97, undef), (98, undef), (99, undef), (100, (.bool false)), (0, (.bool false))] ?_
       refine iF ?_
       exact ⟨false, ⟨K, trivial⟩, SP.sel m [] rfl rfl, H⟩
     ·have H := cf H b8
      refine iR 41 61 [(61, undef), (62, undef), (63, (.bool false)), (64, (.bool false)), (65, undef), (66, undef), (67, (.bool false)), (68, (.bool false)), (69, undef), (70, undef), (71, (.bool false)), (72, (.bool false)), (73, undef), (74, undef), (75, (.bool false)), (76, (.bool false)), (77, undef), (78, (.bool false)), (79, (.bool false)), (80, undef), (81, (.bool false)), (82, (.bool false)), (83, undef), (84, undef), (85, undef), (86, (.bool false)), (87, (.bool false)), (88, undef), (89, undef), (90, undef), (91, (.bool false)), (92, (.bool false)), (93, undef), (94, undef), (95, (.bool false)), (96, (.bool false)), (97, undef), (98, undef), (99, undef), (100, (.bool false)), (0, (.bool false))] ?_
      refine iF ?_
      exact ⟨false, ⟨K, trivial⟩, SP.sel m [] rfl rfl, H⟩
    ·have H := cf H b7
     refine iR 46 61 [(56, undef), (57, undef), (58, undef), (59, (.bool false)), (60, (.bool false)), (61, undef), (62, undef), (63, (.bool false)), (64, (.bool false)), (65, undef), (66, undef), (67, (.bool false)), (68, (.bool false)), (69, undef), (70, undef), (71, (.bool false)), (72, (.bool false)), (73, undef), (74, undef), (75, (.bool false)), (76, (.bool false)), (77, undef), (78, (.bool false)), (79, (.bool false)), (80, undef), (81, (.bool false)), (82, (.bool false)), (83, undef), (84, undef), (85, undef), (86, (.bool false)), (87, (.bool false)), (88, undef), (89, undef), (90, undef), (91, (.bool false)), (92, (.bool false)), (93, undef), (94, undef), (95, (.bool false)), (96, (.bool false)), (97, undef), (98, undef), (99, undef), (100, (.bool false)), (0, (.bool false))] ?_
     refine iF ?_
     exact ⟨false, ⟨K, trivial⟩, SP.sel m [] rfl rfl, H⟩
   ·have H := cf H b6
    refine iR 52 61 [(50, undef), (51, undef), (52, undef), (53, undef), (54, (.bool false)), (55, (.bool false)), (56, undef), (57, undef), (58, undef), (59, (.bool false)), (60, (.bool false)), (61, undef), (62, undef), (63, (.bool false)), (64, (.bool false)), (65, undef), (66, undef), (67, (.bool false)), (68, (.bool false)), (69, undef), (70, undef), (71, (.bool false)), (72, (.bool false)), (73, undef), (74, undef), (75, (.bool false)), (76, (.bool false)), (77, undef), (78, (.bool false)), (79, (.bool false)), (80, undef), (81, (.bool false)), (82, (.bool false)), (83, undef), (84, undef), (85, undef), (86, (.bool false)), (87, (.bool false)), (88, undef), (89, undef), (90, undef), (91, (.bool false)), (92, (.bool false)), (93, undef), (94, undef), (95, (.bool false)), (96, (.bool false)), (97, undef), (98, undef), (99, undef), (100, (.bool false)), (0, (.bool false))] ?_
    refine iF ?_
    exact ⟨false, ⟨K, trivial⟩, SP.sel m [] rfl rfl, H⟩
  ·have H := cf H b5
   refine iR 58 61 [(44, undef), (45, undef), (46, undef), (47, undef), (48, (.bool false)), (49, (.bool false)), (50, undef), (51, undef), (52, undef), (53, undef), (54, (.bool false)), (55, (.bool false)), (56, undef), (57, undef), (58, undef), (59, (.bool false)), (60, (.bool false)), (61, undef), (62, undef), (63, (.bool false)), (64, (.bool false)), (65, undef), (66, undef), (67, (.bool false)), (68, (.bool false)), (69, undef), (70, undef), (71, (.bool false)), (72, (.bool false)), (73, undef), (74, undef), (75, (.bool false)), (76, (.bool false)), (77, undef), (78, (.bool false)), (79, (.bool false)), (80, undef), (81, (.bool false)), (82, (.bool false)), (83, undef), (84, undef), (85, undef), (86, (.bool false)), (87, (.bool false)), (88, undef), (89, undef), (90, undef), (91, (.bool false)), (92, (.bool false)), (93, undef), (94, undef), (95, (.bool false)), (96, (.bool false)), (97, undef), (98, undef), (99, undef), (100, (.bool false)), (0, (.bool false))] ?_
   refine iF ?_
   exact ⟨false, ⟨K, trivial⟩, SP.sel a4 [] rfl rfl, H⟩
 ·rintro ρ j0 ⟨a1, hk, h6, H⟩
  unfold Qu at H
  first | refine At.known [(0, (.bool a1))] hk ?_ | rw [← Q1 (l := [(0, (.bool a1))]) hk]
  refine At.ret K ?_
  refine ⟨(.bool a1), K, ?_⟩
  obtain rfl := Qg H
  exact ⟨rfl, SP.sel h6 [] rfl rfl⟩
end Go.Proofs.YtoflbpmbkmephaaGreatDoor
namespace Go.Proofs.YtoflbpmbkmephaaGreatDoor
open Go.RowKit
set_option maxRecDepth 1000000 in
theorem cfgHead : Y4 = some true := by decide +kernel
end Go.Proofs.YtoflbpmbkmephaaGreatDoor
namespace Go.Proofs.YtoflbpmbkmephaaGreatDoor
open Go.RowKit
def V4 (d : Bool → Int → Option (Bool)) (a : Int → Option (Bool)) (b : Int) (c : Bool) : Option (Bool) :=
  (cond c (some (false)) (a (IntKind.wrap .i64 (b + 1))))
def Vj (d : Bool → Int → Option (Bool)) (f : Int → Option (Bool)) (g : Int) (a : ((List UInt8) × Int × Int × (List (Int × Int)) × (List ((List UInt8) × (List UInt8) × Int)) × Bool)) (h : Bool) (b : Int) : Option (Bool) :=
  (cond (decide (b < ((List.length a.2.2.2.2.1 : Nat) : Int))) ((idx a.2.2.2.2.1 b).bind fun i => ((Yt a.1 a.2.1 a.2.2.1 a.2.2.2.1 a.2.2.2.2.1 i.1).bind fun c => (cond (!c.2.2.2) (V4 d f b true) ((idx a.2.2.2.2.1 b).bind fun e => (V4 d f b (!((c.1 == e.1) && ((c.2.1 == e.2.1) && (c.2.2.1 == e.2.2))))))))) (d h (IntKind.wrap .i64 (g + 1))))
def Q8 (a : Bool → Int → Option (Bool)) (b : Int) (c : ((List UInt8) × Int × Int × (List (Int × Int)) × (List ((List UInt8) × (List UInt8) × Int)) × Bool)) (d : Bool) : Nat → Int → Option (Bool)
  | 0, _ => none
  | f + 1, e => Vj a (Q8 a b c d f) b c d e
def Vw (a : Bool → Int → Option (Bool)) (b : Int) (c : ((List UInt8) × Int × Int × (List (Int × Int)) × (List ((List UInt8) × (List UInt8) × Int)) × Bool)) (d : Bool) : Option (Bool) :=
  (Q8 a b c d Xn 0)
def Vx (b : Bool → Int → Option (Bool)) (d : (List Qf)) (e : (List UInt8)) (f : Bool) (a : Int) (c : ((List UInt8) × Int × Int × (List (Int × Int)) × (List ((List UInt8) × (List UInt8) × Int)) × Bool)) (g : Bool) : Option (Bool) :=
  (cond g (some (false)) (cond f (Vw b a c true) ((idx d a).bind fun h => (Vw b a c (h.1 == e)))))
def Vk (b : Bool → Int → Option (Bool)) (a : Bool) : Option (Bool) :=
  (some (a))
def Vp (d : Bool → Int → Option (Bool)) (i : Int) (j : Int) (k : Int) (l : Int) (b : (List Qf)) (g : (List UInt8)) (m : (Bool)) (h : Bool) (e : Int) : Option (Bool) :=
  (cond (decide (e < ((List.length b : Nat) : Int))) ((idx b e).bind fun n => ((Yk i j k l b n.1).bind fun a => (cond (!a.2.2.2.2.2) (Vx d b g h e a true) ((idx b e).bind fun f => ((V0 a.1 a.2.1 a.2.2.1 a.2.2.2.1 a.2.2.2.2.1 f.1 f.2.1 f.2.2.1 f.2.2.2.1 f.2.2.2.2).bind fun o => (Vx d b g h e a (!o))))))) ((Yk i j k l b g).bind fun c => (cond m (cond (c.2.2.2.2.2 == h) (cond c.2.2.2.2.2 (Vk d true) ((V0 c.1 c.2.1 c.2.2.1 c.2.2.2.1 c.2.2.2.2.1 ([] : List UInt8) 0 0 ([] : List (Int × Int)) ([] : List ((List UInt8) × (List UInt8) × Int))).bind fun p => (Vk d p))) (Vk d false)) (Vk d false))))
def Qi (a : Int) (b : Int) (c : Int) (d : Int) (e : (List Qf)) (g : (List UInt8)) (h : (Bool)) : Nat → Bool → Int → Option (Bool)
  | 0, _, _ => none
  | f + 1, i, j => Vp  (Qi a b c d e g h f) a b c d e g h i j
def Vq (b : Int) (c : Int) (d : Int) (e : Int) (f : (List Qf)) (g : (List UInt8)) (a : (Bool)) (h : Bool) : Option (Bool) :=
  (cond h (some (a)) (Qi b c d e f g a Xn false 0))
def Z0 (a : Int) (b : Int) (c : Int) (d : Int) (e : (List Qf)) (f : (List UInt8)) : Option (Bool) :=
  ((Y4 ).bind fun g => ((Yi a b c d e).bind fun h => (cond h (Vq a b c d e f g true) ((Zz a b c d e).bind fun i => (cond (!i) (Vq a b c d e f g true) (Vq a b c d e f g (decide (((List.length f : Nat) : Int) > 1000))))))))
set_option maxHeartbeats 40000000 in
theorem Ut (A6 : Option Addr) (c7 : Nat) (a1 : Int) (a2 : Int) (a3 : Int) (a4 : Int) (d9 : (List Qw)) (a5 : (List UInt8)) (w0 : World) (hL : Ur w0) (b9 : (dDS V9 Eu).ok w0 (A6, c7, d9)) (r : (Bool)) (H : Z0 a1 a2 a3 a4 (List.map stT d9) a5 = some r) :
  Calls Tryz.prog 7 #[(.agg #[(.int .i64 a1), (.int .i64 a2), (.int .i64 a3), (.int .i64 a4), (.slice A6 (List.length (List.map stT d9)) c7)]), (.string ⟨List.toArray a5⟩)] w0 (fun e w' => e = .returned (.bool r) ∧ SP [] w0 w' []) := by
 unfold Z0 at H
 refine Qz (n := 119) Tryz.func7 K K K ?_
 have r1 := Q3 [] w0
 refine aQ ?_
 refine aR ?_
 refine iS 1 ?_
 refine Zu (t := 24) (x := (.tmp 0)) (v := (.agg #[(.int .i64 a1), (.int .i64 a2), (.int .i64 a3), (.int .i64 a4), (.slice A6 (List.length (List.map stT d9)) c7)])) (d := (some 2)) (k := 0) K rfl K r1 ?_
 intro s r2 l3
 refine iR 1 2 [(4, (.bool false))] ?_
 refine iF ?_
 refine aQ ?_
 refine aR ?_
 obtain ⟨a7, r3, H⟩ := Qc H
 refine iS 1 ?_
 refine cF 14 #[] #[] 15 Tryz.call14 (Gj   r2 (Q5 hL (SP.keeps l3)) a7 r3) ?_
 rintro e r4 ⟨rfl, l4⟩
 refine ⟨_, rfl, ?_⟩
 have i6 := SP.call l3 l4
 clear l4
 refine iR 1 2 [(5, (.bool a7))] ?_
 refine iF ?_
 refine aQ ?_
 refine aQ ?_
 refine At.join (fun ρ w => ∃ (f3 : Bool), Zd ρ [(1, (.string ⟨List.toArray a5⟩)), (2, (pt s 0)), (5, (.bool a7)), (27, (.bool f3))] ∧ SP [] w0 w [Qr s 24 #[(.int .i64 a1), (.int .i64 a2), (.int .i64 a3), (.int .i64 a4), (.slice A6 (List.length (List.map stT d9)) c7)]] ∧ Vq a1 a2 a3 a4 (List.map stT d9) a5 a7 f3 = some r) ?_ ?_
 ·refine aR ?_
  refine iS 1 ?_
  refine sL 24 2 s 0 0 (.agg #[(.int .i64 a1), (.int .i64 a2), (.int .i64 a3), (.int .i64 a4), (.slice A6 (List.length (List.map stT d9)) c7)]) 16 i6 rfl ?_
  obtain ⟨i7, r5, H⟩ := Qc H
  refine iS 2 ?_
  refine cF 15 #[(.tmp 16)] #[24] 17 Tryz.call15 (Nw A6 c7 a1 a2 a3 a4 d9 r4 (Dp.sp b9 i6) i7 r5) ?_
  rintro e r6 ⟨rfl, l5⟩
  refine ⟨_, rfl, ?_⟩
  have g8 := SP.call i6 l5
  clear l5
  refine iR 1 3 [(18, (.bool i7))] ?_
  refine In.guard (t := 18) (b := i7) K (fun i8 => ?_) (fun i8 => ?_)
  ·have H := ct H i8
   refine iR 9 12 [(19, undef), (20, undef), (21, undef), (22, (.bool true)), (23, (.bool true)), (24, undef), (25, undef), (26, undef), (27, (.bool true))] ?_
   refine iF ?_
   exact ⟨true, ⟨K, K, K, K, trivial⟩, SP.sel g8 [0] rfl rfl, H⟩
  ·have H := cf H i8
   refine iS 4 ?_
   refine sL 24 2 s 0 0 (.agg #[(.int .i64 a1), (.int .i64 a2), (.int .i64 a3), (.int .i64 a4), (.slice A6 (List.length (List.map stT d9)) c7)]) 19 g8 rfl ?_
   obtain ⟨g9, r7, H⟩ := Qc H
   refine iS 5 ?_
   refine cF 22 #[(.tmp 19)] #[24] 20 Tryz.call22 (Xl A6 c7 a1 a2 a3 a4 d9 r6 (Q5 hL (SP.keeps g8)) (Dp.sp b9 g8) g9 r7) ?_
   rintro e ai0 ⟨rfl, l6⟩
   refine ⟨_, rfl, ?_⟩
   have l7 := SP.call g8 l6
   clear l6
   refine iR 3 8 [(21, (.bool (!g9))), (22, (.bool (!g9))), (23, (.bool (!g9)))] ?_
   refine In.guard (t := 23) (b := (!g9)) K (fun i9 => ?_) (fun i9 => ?_)
   ·have H := ct H i9
    refine iR 4 12 [(24, undef), (25, undef), (26, undef), (27, (.bool true))] ?_
    refine iF ?_
    exact ⟨true, ⟨K, K, K, K, trivial⟩, SP.sel l7 [0] rfl rfl, H⟩
   ·have H := cf H i9
    refine iR 4 12 [(24, (.string ⟨List.toArray a5⟩)), (25, (.int .i64 ((List.length a5 : Nat) : Int))), (26, (.bool (decide (((List.length a5 : Nat) : Int) > 1000)))), (27, (.bool (decide (((List.length a5 : Nat) : Int) > 1000))))] ?_
    refine iF ?_
    exact ⟨(decide (((List.length a5 : Nat) : Int) > 1000)), ⟨K, K, K, K, trivial⟩, SP.sel l7 [0] rfl rfl, H⟩
 ·rintro ρ w36 ⟨f3, hk, l8, H⟩
  unfold Vq at H
  first | refine At.known [(1, (.string ⟨List.toArray a5⟩)), (2, (pt s 0)), (5, (.bool a7)), (27, (.bool f3))] hk ?_ | rw [← Q1 (l := [(1, (.string ⟨List.toArray a5⟩)), (2, (pt s 0)), (5, (.bool a7)), (27, (.bool f3))]) hk]
  refine Zv K (o := (.tmp 27)) K (b := f3) K (fun j0 => ?_) (fun j0 => ?_)
  ·have H := ct H j0
   refine aQ ?_
   refine aR ?_
   refine iR 2 2 [(28, (.bool a7)), (4, (.bool a7))] ?_
   refine iF ?_
   refine At.ret K ?_
   refine ⟨(.bool a7), K, ?_⟩
   obtain rfl := Qg H
   exact ⟨rfl, SP.sel l8 [] rfl rfl⟩
  ·have H := cf H j0
   refine At.skip K ?_
   refine aQ ?_
   refine aR ?_
   refine iR 1 1 [(6, (.bool false))] ?_
   refine iF ?_
   refine aQ ?_
   refine aQ ?_
   refine aR ?_
   refine iR 1 1 [(7, (.int .i64 0))] ?_
   refine iF ?_
   refine Ya K (id := 0) K ?_
   refine Ns K (fun c0 ρ w => ∃ (b5 : Bool) (u : Int), Zd ρ [(1, (.string ⟨List.toArray a5⟩)), (2, (pt s 0)), (5, (.bool a7)), (6, (.bool b5)), (7, (.int .i64 u))] ∧ SP [] w0 w [Qr s 24 #[(.int .i64 a1), (.int .i64 a2), (.int .i64 a3), (.int .i64 a4), (.slice A6 (List.length (List.map stT d9)) c7)]] ∧ Qi a1 a2 a3 a4 (List.map stT d9) a5 a7 c0 b5 u = some r) (by rintro ρ w ⟨b5, u, hk, hs, H⟩; cases H) ?_ Xn ?_
   ·rintro c0 ρ r8 ⟨b5, u, hk, h1, H⟩
    refine At.known [(1, (.string ⟨List.toArray a5⟩)), (2, (pt s 0)), (5, (.bool a7)), (6, (.bool b5)), (7, (.int .i64 u))] hk ?_
    replace H := (show Vp (Qi a1 a2 a3 a4 (List.map stT d9) a5 a7 c0) a1 a2 a3 a4 (List.map stT d9) a5 a7 b5 u = some r from H)
    unfold Vp at H
    refine aQ ?_
    refine aQ ?_
    refine aR ?_
    refine iR 2 2 [(29, (.int .i64 u)), (30, (pt s 4))] ?_
    refine iS 3 ?_
    refine sL 22 30 s 4 0 (.slice A6 (List.length (List.map stT d9)) c7) 31 h1 rfl ?_
    refine iR 2 5 [(32, (.int .i64 ((List.length (List.map stT d9) : Nat) : Int))), (33, (.bool (decide (u < ((List.length (List.map stT d9) : Nat) : Int)))))] ?_
    refine iF ?_
    refine Zv K (o := (.tmp 33)) K (b := (decide (u < ((List.length (List.map stT d9) : Nat) : Int)))) K (fun j1 => ?_) (fun j1 => ?_)
    ·have H := ct H j1
     refine At.skip K ?_
     refine aQ ?_
     refine Ya K (id := 1) K ?_
     refine aQ ?_
     obtain ⟨h2, h7, h8, l9, H⟩ := Jo H
     obtain ⟨f, m0, H⟩ := Qc H
     refine aG [GEq (.agg #[(.int .i64 a1), (.int .i64 a2), (.int .i64 a3), (.int .i64 a4), (.slice A6 (List.length (List.map stT d9)) c7)]), GEq (pt s 4), GEq (.slice A6 (List.length (List.map stT d9)) c7), GEq (.int .i64 u), Z2 A6 V9.sz u, Z2 A6 V9.sz u, GEq (.string ⟨List.toArray (stT h2).1⟩), N2, N2, N2, GEq (.bool f.2.2.2.2.2), N2, N2, GEq (.bool f.2.2.2.2.2)] [7, 8, 9, 11, 12] [([], fun vs w => VL vs [] ∧ SP [] w0 w [Qr s 24 #[(.int .i64 a1), (.int .i64 a2), (.int .i64 a3), (.int .i64 a4), (.slice A6 (List.length (List.map stT d9)) c7)]]), ([7], fun vs w => ∃ (e2 : Option Addr), ∃ (e3 : Nat), ∃ (e4 : Option Addr), ∃ (e5 : Nat), VL vs [(.tuple #[(.agg #[(.string ⟨List.toArray f.1⟩), (.int .i64 f.2.1), (.int .i64 f.2.2.1), (.slice e2 (List.length f.2.2.2.1) e3), (.slice e4 (List.length f.2.2.2.2.1) e5)]), (.bool f.2.2.2.2.2)])] ∧ (∀ w : World, Below w0.heap.size w0 w → RdT (Qd (Qx .u32) (Qx .i64)) w e2 e3 f.2.2.2.1) ∧ (∀ w : World, Below w0.heap.size w0 w → RdT (Qd Qn (Qd Qn (Qx .i64))) w e4 e5 f.2.2.2.2.1) ∧ SP [] w0 w [Qr s 24 #[(.int .i64 a1), (.int .i64 a2), (.int .i64 a3), (.int .i64 a4), (.slice A6 (List.length (List.map stT d9)) c7)]]), ([11], fun vs w => ∃ (d1 : Nat), VL vs [(pt d1 0)] ∧ SP [] w0 w [Qr s 24 #[(.int .i64 a1), (.int .i64 a2), (.int .i64 a3), (.int .i64 a4), (.slice A6 (List.length (List.map stT d9)) c7)], Qr d1 33 #[(.string ⟨List.toArray ([] : List UInt8)⟩), (.int .i64 0), (.int .i64 0), (.slice none (List.length ([] : List (Int × Int))) 0), (.slice none (List.length ([] : List ((List UInt8) × (List UInt8) × Int))) 0)]]), ([7, 8], fun vs w => ∃ (c1 : Option Addr), ∃ (c2 : Nat), ∃ (c3 : Option Addr), ∃ (c4 : Nat), VL vs [(.tuple #[(.agg #[(.string ⟨List.toArray f.1⟩), (.int .i64 f.2.1), (.int .i64 f.2.2.1), (.slice c1 (List.length f.2.2.2.1) c2), (.slice c3 (List.length f.2.2.2.2.1) c4)]), (.bool f.2.2.2.2.2)]), (.tuple #[(.agg #[(.string ⟨List.toArray f.1⟩), (.int .i64 f.2.1), (.int .i64 f.2.2.1), (.slice c1 (List.length f.2.2.2.1) c2), (.slice c3 (List.length f.2.2.2.2.1) c4)]), (.bool f.2.2.2.2.2)])] ∧ (∀ w : World, Below w0.heap.size w0 w → RdT (Qd (Qx .u32) (Qx .i64)) w c1 c2 f.2.2.2.1) ∧ (∀ w : World, Below w0.heap.size w0 w → RdT (Qd Qn (Qd Qn (Qx .i64))) w c3 c4 f.2.2.2.2.1) ∧ SP [] w0 w [Qr s 24 #[(.int .i64 a1), (.int .i64 a2), (.int .i64 a3), (.int .i64 a4), (.slice A6 (List.length (List.map stT d9)) c7)]]), ([7, 11], fun vs w => ∃ (f4 : Option Addr), ∃ (f5 : Nat), ∃ (f6 : Option Addr), ∃ (f7 : Nat), ∃ (h9 : Nat), VL vs [(.tuple #[(.agg #[(.string ⟨List.toArray f.1⟩), (.int .i64 f.2.1), (.int .i64 f.2.2.1), (.slice f4 (List.length f.2.2.2.1) f5), (.slice f6 (List.length f.2.2.2.2.1) f7)]), (.bool f.2.2.2.2.2)]), (pt h9 0)] ∧ (∀ w : World, Below w0.heap.size w0 w → RdT (Qd (Qx .u32) (Qx .i64)) w f4 f5 f.2.2.2.1) ∧ (∀ w : World, Below w0.heap.size w0 w → RdT (Qd Qn (Qd Qn (Qx .i64))) w f6 f7 f.2.2.2.2.1) ∧ SP [] w0 w [Qr s 24 #[(.int .i64 a1), (.int .i64 a2), (.int .i64 a3), (.int .i64 a4), (.slice A6 (List.length (List.map stT d9)) c7)], Qr h9 33 #[(.string ⟨List.toArray ([] : List UInt8)⟩), (.int .i64 0), (.int .i64 0), (.slice none (List.length ([] : List (Int × Int))) 0), (.slice none (List.length ([] : List ((List UInt8) × (List UInt8) × Int))) 0)]]), ([7, 8, 9], fun vs w => ∃ (e6 : Option Addr), ∃ (e7 : Nat), ∃ (e9 : Option Addr), ∃ (f0 : Nat), VL vs [(.tuple #[(.agg #[(.string ⟨List.toArray f.1⟩), (.int .i64 f.2.1), (.int .i64 f.2.2.1), (.slice e6 (List.length f.2.2.2.1) e7), (.slice e9 (List.length f.2.2.2.2.1) f0)]), (.bool f.2.2.2.2.2)]), (.tuple #[(.agg #[(.string ⟨List.toArray f.1⟩), (.int .i64 f.2.1), (.int .i64 f.2.2.1), (.slice e6 (List.length f.2.2.2.1) e7), (.slice e9 (List.length f.2.2.2.2.1) f0)]), (.bool f.2.2.2.2.2)]), (.agg #[(.string ⟨List.toArray f.1⟩), (.int .i64 f.2.1), (.int .i64 f.2.2.1), (.slice e6 (List.length f.2.2.2.1) e7), (.slice e9 (List.length f.2.2.2.2.1) f0)])] ∧ (∀ w : World, Below w0.heap.size w0 w → RdT (Qd (Qx .u32) (Qx .i64)) w e6 e7 f.2.2.2.1) ∧ (∀ w : World, Below w0.heap.size w0 w → RdT (Qd Qn (Qd Qn (Qx .i64))) w e9 f0 f.2.2.2.2.1) ∧ SP [] w0 w [Qr s 24 #[(.int .i64 a1), (.int .i64 a2), (.int .i64 a3), (.int .i64 a4), (.slice A6 (List.length (List.map stT d9)) c7)]]), ([7, 8, 11], fun vs w => ∃ (d2 : Option Addr), ∃ (d3 : Nat), ∃ (d4 : Option Addr), ∃ (d5 : Nat), ∃ (h3 : Nat), VL vs [(.tuple #[(.agg #[(.string ⟨List.toArray f.1⟩), (.int .i64 f.2.1), (.int .i64 f.2.2.1), (.slice d2 (List.length f.2.2.2.1) d3), (.slice d4 (List.length f.2.2.2.2.1) d5)]), (.bool f.2.2.2.2.2)]), (.tuple #[(.agg #[(.string ⟨List.toArray f.1⟩), (.int .i64 f.2.1), (.int .i64 f.2.2.1), (.slice d2 (List.length f.2.2.2.1) d3), (.slice d4 (List.length f.2.2.2.2.1) d5)]), (.bool f.2.2.2.2.2)]), (pt h3 0)] ∧ (∀ w : World, Below w0.heap.size w0 w → RdT (Qd (Qx .u32) (Qx .i64)) w d2 d3 f.2.2.2.1) ∧ (∀ w : World, Below w0.heap.size w0 w → RdT (Qd Qn (Qd Qn (Qx .i64))) w d4 d5 f.2.2.2.2.1) ∧ SP [] w0 w [Qr s 24 #[(.int .i64 a1), (.int .i64 a2), (.int .i64 a3), (.int .i64 a4), (.slice A6 (List.length (List.map stT d9)) c7)], Qr h3 33 #[(.string ⟨List.toArray ([] : List UInt8)⟩), (.int .i64 0), (.int .i64 0), (.slice none (List.length ([] : List (Int × Int))) 0), (.slice none (List.length ([] : List ((List UInt8) × (List UInt8) × Int))) 0)]]), ([7, 8, 9, 11], fun vs w => ∃ (c5 : Option Addr), ∃ (c6 : Nat), ∃ (c8 : Option Addr), ∃ (c9 : Nat), ∃ (f1 : Nat), VL vs [(.tuple #[(.agg #[(.string ⟨List.toArray f.1⟩), (.int .i64 f.2.1), (.int .i64 f.2.2.1), (.slice c5 (List.length f.2.2.2.1) c6), (.slice c8 (List.length f.2.2.2.2.1) c9)]), (.bool f.2.2.2.2.2)]), (.tuple #[(.agg #[(.string ⟨List.toArray f.1⟩), (.int .i64 f.2.1), (.int .i64 f.2.2.1), (.slice c5 (List.length f.2.2.2.1) c6), (.slice c8 (List.length f.2.2.2.2.1) c9)]), (.bool f.2.2.2.2.2)]), (.agg #[(.string ⟨List.toArray f.1⟩), (.int .i64 f.2.1), (.int .i64 f.2.2.1), (.slice c5 (List.length f.2.2.2.1) c6), (.slice c8 (List.length f.2.2.2.2.1) c9)]), (pt f1 0)] ∧ (∀ w : World, Below w0.heap.size w0 w → RdT (Qd (Qx .u32) (Qx .i64)) w c5 c6 f.2.2.2.1) ∧ (∀ w : World, Below w0.heap.size w0 w → RdT (Qd Qn (Qd Qn (Qx .i64))) w c8 c9 f.2.2.2.2.1) ∧ SP [] w0 w [Qr s 24 #[(.int .i64 a1), (.int .i64 a2), (.int .i64 a3), (.int .i64 a4), (.slice A6 (List.length (List.map stT d9)) c7)], Qr f1 33 #[(.string ⟨List.toArray ([] : List UInt8)⟩), (.int .i64 0), (.int .i64 0), (.slice none (List.length ([] : List (Int × Int))) 0), (.slice none (List.length ([] : List ((List UInt8) × (List UInt8) × Int))) 0)]]), ([7, 8, 9, 11, 12], fun vs w => ∃ (b2 : Option Addr), ∃ (b3 : Nat), ∃ (a6 : Option Addr), ∃ (a9 : Nat), ∃ (a0 : Nat), VL vs [(.tuple #[(.agg #[(.string ⟨List.toArray f.1⟩), (.int .i64 f.2.1), (.int .i64 f.2.2.1), (.slice b2 (List.length f.2.2.2.1) b3), (.slice a6 (List.length f.2.2.2.2.1) a9)]), (.bool f.2.2.2.2.2)]), (.tuple #[(.agg #[(.string ⟨List.toArray f.1⟩), (.int .i64 f.2.1), (.int .i64 f.2.2.1), (.slice b2 (List.length f.2.2.2.1) b3), (.slice a6 (List.length f.2.2.2.2.1) a9)]), (.bool f.2.2.2.2.2)]), (.agg #[(.string ⟨List.toArray f.1⟩), (.int .i64 f.2.1), (.int .i64 f.2.2.1), (.slice b2 (List.length f.2.2.2.1) b3), (.slice a6 (List.length f.2.2.2.2.1) a9)]), (pt a0 0), undef] ∧ (∀ w : World, Below w0.heap.size w0 w → RdT (Qd (Qx .u32) (Qx .i64)) w b2 b3 f.2.2.2.1) ∧ (∀ w : World, Below w0.heap.size w0 w → RdT (Qd Qn (Qd Qn (Qx .i64))) w a6 a9 f.2.2.2.2.1) ∧ SP [] w0 w [Qr s 24 #[(.int .i64 a1), (.int .i64 a2), (.int .i64 a3), (.int .i64 a4), (.slice A6 (List.length (List.map stT d9)) c7)], Qr a0 33 #[(.string ⟨List.toArray f.1⟩), (.int .i64 f.2.1), (.int .i64 f.2.2.1), (.slice b2 (List.length f.2.2.2.1) b3), (.slice a6 (List.length f.2.2.2.2.1) a9)]])] 14 8 ⟨trivial, SP.drew h1⟩ ?_ ?_
     iterate 14 refine And.intro ?_ ?_
     exact trivial
     ·refine Owe.light K [0, 2] K (Qb ?_ (Qb ?_ Qy))
      ·rintro ρ' w' hs m ⟨ai2, r9⟩
       refine kM (kc (kS hs 2 (pt s 0)) k0) fun p => ?_
       refine sL 24 2 s 0 0 (.agg #[(.int .i64 a1), (.int .i64 a2), (.int .i64 a3), (.int .i64 a4), (.slice A6 (List.length (List.map stT d9)) c7)]) 37 r9 rfl ?_
       exact eK p
      ·rintro ρ' w' hs m ⟨d1, ⟨ai3, -⟩, s0⟩
       refine kM (kc (kS hs 2 (pt s 0)) k0) fun p => ?_
       refine sL 24 2 s 0 0 (.agg #[(.int .i64 a1), (.int .i64 a2), (.int .i64 a3), (.int .i64 a4), (.slice A6 (List.length (List.map stT d9)) c7)]) 37 s0 rfl ?_
       exact eK p
     ·exact oV (hC (hS 2 (pt s 0)) (h0)) (pt s 4)
     ·refine Owe.light K [0, 2] K (Qb ?_ (Qb ?_ Qy))
      ·rintro ρ' w' hs m ⟨ai4, s1⟩
       refine kM (kc (kA m 1 38) k0) fun p => ?_
       refine sL 22 38 s 4 0 (.slice A6 (List.length (List.map stT d9)) c7) 39 s1 rfl ?_
       exact eK p
      ·rintro ρ' w' hs m ⟨d1, ⟨ai5, -⟩, s2⟩
       refine kM (kc (kA m 1 38) k0) fun p => ?_
       refine sL 22 38 s 4 0 (.slice A6 (List.length (List.map stT d9)) c7) 39 s2 rfl ?_
       exact eK p
     ·exact oV (hC (hS 7 (.int .i64 u)) (h0)) (.int .i64 u)
     ·refine Owe.light K [0, 2] K (Qb ?_ (Qb ?_ Qy))
      ·rintro ρ' w' hs m ⟨ai6, s3⟩
       refine kM (kc (kA m 2 39) (kc (kA m 3 40) k0)) fun p => ?_
       refine Xs stT (e := V9) (l := d9) (A := A6) (c := c7) (T := 22) (E := 33) (x := (.tmp 39)) (ix := (.tmp 40)) (ki := .i64) (iz := u) (d := (some 41)) (k := 4) K rfl K K K K (RdT.sp (X8 b9) s3) h7 h8 ?_
       intro s4 s5 s6 ai7 hc2346
       exact ⟨rfl, _, Qa p, ⟨s4, s5, s6, rfl⟩⟩
      ·rintro ρ' w' hs m ⟨d1, ⟨ai8, -⟩, s7⟩
       refine kM (kc (kA m 2 39) (kc (kA m 3 40) k0)) fun p => ?_
       refine Xs stT (e := V9) (l := d9) (A := A6) (c := c7) (T := 22) (E := 33) (x := (.tmp 39)) (ix := (.tmp 40)) (ki := .i64) (iz := u) (d := (some 41)) (k := 4) K rfl K K K K (RdT.sp (X8 b9) s7) h7 h8 ?_
       intro s8 s9 t0 ai9 hc2354
       exact ⟨rfl, _, Qa p, ⟨s8, s9, t0, rfl⟩⟩
     ·refine Owe.light K [0, 2] K (Qb ?_ (Qb ?_ Qy))
      ·rintro ρ' w' hs m ⟨aj0, aj1⟩
       obtain ⟨m1, m2, t1, j2⟩ := m 4 41 K
       refine kM (kc j2 k0) fun p => ?_
       refine Qm.run (k := 5) (v := (.pointer (some ⟨m1, (m2 + Int.toNat u * V9.sz), none⟩))) K ?_
       exact ⟨rfl, _, Qa p, ⟨m1, m2, t1, rfl⟩⟩
      ·rintro ρ' w' hs m ⟨d1, ⟨aj2, -⟩, aj3⟩
       obtain ⟨m3, m4, t2, j2⟩ := m 4 41 K
       refine kM (kc j2 k0) fun p => ?_
       refine Qm.run (k := 5) (v := (.pointer (some ⟨m3, (m4 + Int.toNat u * V9.sz), none⟩))) K ?_
       exact ⟨rfl, _, Qa p, ⟨m3, m4, t2, rfl⟩⟩
     ·refine Owe.light K [0, 2] K (Qb ?_ (Qb ?_ Qy))
      ·rintro ρ' w' hs m ⟨aj4, t3⟩
       obtain ⟨t4, t5, t6, j3⟩ := m 5 42 K
       refine kM (kc j3 k0) fun p => ?_
       refine sC 9 42 t4 (t5 + Int.toNat u * V9.sz) (.string ⟨List.toArray (stT h2).1⟩) 43 (Qt (e := V9) (Qo (RdT.sp (X8 b9) t3) t6 h7 h8) l9 (j := 0) rfl) ?_
       exact eK p
      ·rintro ρ' w' hs m ⟨d1, ⟨aj5, -⟩, t7⟩
       obtain ⟨t8, t9, u0, j3⟩ := m 5 42 K
       refine kM (kc j3 k0) fun p => ?_
       refine sC 9 42 t8 (t9 + Int.toNat u * V9.sz) (.string ⟨List.toArray (stT h2).1⟩) 43 (Qt (e := V9) (Qo (RdT.sp (X8 b9) t7) u0 h7 h8) l9 (j := 0) rfl) ?_
       exact eK p
     ·refine Owe.heavy K [(0, 1), (2, 4)] K (Qb ⟨K, K, ?_⟩ (Qb ⟨K, K, ?_⟩ Qy))
      ·rintro ρ' w' hs m ⟨aj6, m5⟩
       refine kM (kc (kA m 0 37) (kc (kA m 6 43) k0)) fun p => ?_
       refine cF 18 #[(.tmp 37), (.tmp 43)] #[24, 9] 44 Tryz.call18 (Y3 (R := fun w => Below w0.heap.size w0 w) A6 c7 a1 a2 a3 a4 d9 (stT h2).1 w' (fun w hb => Ui m5 hb) (fun w hb => Dp.mono _ hb b9) f m0) ?_
       rintro e aj7 ⟨u1, u2, u3, u4, rfl, u5, u6, m6⟩
       refine ⟨_, rfl, ?_⟩
       have u7 := SP.call m5 m6
       clear m6
       refine ⟨_, Qa p, trivial, ?_⟩
       exact (Exists.intro u1 (Exists.intro u2 (Exists.intro u3 (Exists.intro u4 (And.intro (And.intro rfl (trivial)) (And.intro u5 (And.intro u6 u7)))))))
      ·rintro ρ' w' hs m ⟨d1, ⟨u8, -⟩, m7⟩
       refine kM (kc (kA m 0 37) (kc (kA m 6 43) k0)) fun p => ?_
       refine cF 18 #[(.tmp 37), (.tmp 43)] #[24, 9] 44 Tryz.call18 (Y3 (R := fun w => Below w0.heap.size w0 w) A6 c7 a1 a2 a3 a4 d9 (stT h2).1 w' (fun w hb => Ui m7 hb) (fun w hb => Dp.mono _ hb b9) f m0) ?_
       rintro e aj8 ⟨u9, v0, v1, v2, rfl, v3, v4, m8⟩
       refine ⟨_, rfl, ?_⟩
       have v5 := SP.call m7 m8
       clear m8
       refine ⟨_, Qa p, trivial, ?_⟩
       exact (Exists.intro u9 (Exists.intro v0 (Exists.intro v1 (Exists.intro v2 (Exists.intro d1 (And.intro (And.intro rfl (And.intro u8 (trivial))) (And.intro v3 (And.intro v4 v5))))))))
     ·refine Owe.heavy K [(1, 3), (4, 6)] K (Qb ⟨K, K, ?_⟩ (Qb ⟨K, K, ?_⟩ Qy))
      ·rintro ρ' w' hs m ⟨e2, e3, e4, e5, ⟨m9, -⟩, j4, j5, v6⟩
       refine kN [(44, (.tuple #[(.agg #[(.string ⟨List.toArray f.1⟩), (.int .i64 f.2.1), (.int .i64 f.2.2.1), (.slice e2 (List.length f.2.2.2.1) e3), (.slice e4 (List.length f.2.2.2.2.1) e5)]), (.bool f.2.2.2.2.2)]))] ⟨(Q9 (h := 7) K).symm.trans m9, trivial⟩ fun p => ?_
       refine Qm.run (k := 8) (v := (.tuple #[(.agg #[(.string ⟨List.toArray f.1⟩), (.int .i64 f.2.1), (.int .i64 f.2.2.1), (.slice e2 (List.length f.2.2.2.1) e3), (.slice e4 (List.length f.2.2.2.2.1) e5)]), (.bool f.2.2.2.2.2)])) K ?_
       refine ⟨_, Qa p, trivial, ?_⟩
       exact (Exists.intro e2 (Exists.intro e3 (Exists.intro e4 (Exists.intro e5 (And.intro (And.intro m9 (And.intro rfl (trivial))) (And.intro j4 (And.intro j5 v6)))))))
      ·rintro ρ' w' hs m ⟨f4, f5, f6, f7, h9, ⟨n0, v7, -⟩, v8, v9, w1⟩
       refine kN [(44, (.tuple #[(.agg #[(.string ⟨List.toArray f.1⟩), (.int .i64 f.2.1), (.int .i64 f.2.2.1), (.slice f4 (List.length f.2.2.2.1) f5), (.slice f6 (List.length f.2.2.2.2.1) f7)]), (.bool f.2.2.2.2.2)]))] ⟨(Q9 (h := 7) K).symm.trans n0, trivial⟩ fun p => ?_
       refine Qm.run (k := 8) (v := (.tuple #[(.agg #[(.string ⟨List.toArray f.1⟩), (.int .i64 f.2.1), (.int .i64 f.2.2.1), (.slice f4 (List.length f.2.2.2.1) f5), (.slice f6 (List.length f.2.2.2.2.1) f7)]), (.bool f.2.2.2.2.2)])) K ?_
       refine ⟨_, Qa p, trivial, ?_⟩
       exact (Exists.intro f4 (Exists.intro f5 (Exists.intro f6 (Exists.intro f7 (Exists.intro h9 (And.intro (And.intro n0 (And.intro rfl (And.intro v7 (trivial)))) (And.intro v8 (And.intro v9 w1))))))))
     ·refine Owe.heavy K [(3, 5), (6, 7)] K (Qb ⟨K, K, ?_⟩ (Qb ⟨K, K, ?_⟩ Qy))
      ·rintro ρ' w' hs m ⟨c1, c2, c3, c4, ⟨w2, n1, -⟩, i0, i1, w3⟩
       refine kN [(36, (.tuple #[(.agg #[(.string ⟨List.toArray f.1⟩), (.int .i64 f.2.1), (.int .i64 f.2.2.1), (.slice c1 (List.length f.2.2.2.1) c2), (.slice c3 (List.length f.2.2.2.2.1) c4)]), (.bool f.2.2.2.2.2)]))] ⟨(Q9 (h := 8) K).symm.trans n1, trivial⟩ fun p => ?_
       refine Qm.run (k := 9) (v := (.agg #[(.string ⟨List.toArray f.1⟩), (.int .i64 f.2.1), (.int .i64 f.2.2.1), (.slice c1 (List.length f.2.2.2.1) c2), (.slice c3 (List.length f.2.2.2.2.1) c4)])) K ?_
       refine ⟨_, Qa p, trivial, ?_⟩
       exact (Exists.intro c1 (Exists.intro c2 (Exists.intro c3 (Exists.intro c4 (And.intro (And.intro w2 (And.intro n1 (And.intro rfl (trivial)))) (And.intro i0 (And.intro i1 w3)))))))
      ·rintro ρ' w' hs m ⟨d2, d3, d4, d5, h3, ⟨w4, n2, w5, -⟩, n3, n4, w6⟩
       refine kN [(36, (.tuple #[(.agg #[(.string ⟨List.toArray f.1⟩), (.int .i64 f.2.1), (.int .i64 f.2.2.1), (.slice d2 (List.length f.2.2.2.1) d3), (.slice d4 (List.length f.2.2.2.2.1) d5)]), (.bool f.2.2.2.2.2)]))] ⟨(Q9 (h := 8) K).symm.trans n2, trivial⟩ fun p => ?_
       refine Qm.run (k := 9) (v := (.agg #[(.string ⟨List.toArray f.1⟩), (.int .i64 f.2.1), (.int .i64 f.2.2.1), (.slice d2 (List.length f.2.2.2.1) d3), (.slice d4 (List.length f.2.2.2.2.1) d5)])) K ?_
       refine ⟨_, Qa p, trivial, ?_⟩
       exact (Exists.intro d2 (Exists.intro d3 (Exists.intro d4 (Exists.intro d5 (Exists.intro h3 (And.intro (And.intro w4 (And.intro n2 (And.intro rfl (And.intro w5 (trivial))))) (And.intro n3 (And.intro n4 w6))))))))
     ·refine Owe.light K [3, 5, 6, 7, 8] K (Qb ?_ (Qb ?_ (Qb ?_ (Qb ?_ (Qb ?_ Qy)))))
      ·rintro ρ' w' hs m ⟨c1, c2, c3, c4, ⟨aj9, w7, -⟩, i0, i1, ak0⟩
       refine kN [(36, (.tuple #[(.agg #[(.string ⟨List.toArray f.1⟩), (.int .i64 f.2.1), (.int .i64 f.2.2.1), (.slice c1 (List.length f.2.2.2.1) c2), (.slice c3 (List.length f.2.2.2.2.1) c4)]), (.bool f.2.2.2.2.2)]))] ⟨(Q9 (h := 8) K).symm.trans w7, trivial⟩ fun p => ?_
       refine Qm.run (k := 10) (v := (.bool f.2.2.2.2.2)) K ?_
       exact eK p
      ·rintro ρ' w' hs m ⟨e6, e7, e9, f0, ⟨ak1, w8, ak2, -⟩, n5, n6, ak3⟩
       refine kN [(36, (.tuple #[(.agg #[(.string ⟨List.toArray f.1⟩), (.int .i64 f.2.1), (.int .i64 f.2.2.1), (.slice e6 (List.length f.2.2.2.1) e7), (.slice e9 (List.length f.2.2.2.2.1) f0)]), (.bool f.2.2.2.2.2)]))] ⟨(Q9 (h := 8) K).symm.trans w8, trivial⟩ fun p => ?_
       refine Qm.run (k := 10) (v := (.bool f.2.2.2.2.2)) K ?_
       exact eK p
      ·rintro ρ' w' hs m ⟨d2, d3, d4, d5, h3, ⟨ak4, w9, ak5, -⟩, n3, n4, ak6⟩
       refine kN [(36, (.tuple #[(.agg #[(.string ⟨List.toArray f.1⟩), (.int .i64 f.2.1), (.int .i64 f.2.2.1), (.slice d2 (List.length f.2.2.2.1) d3), (.slice d4 (List.length f.2.2.2.2.1) d5)]), (.bool f.2.2.2.2.2)]))] ⟨(Q9 (h := 8) K).symm.trans w9, trivial⟩ fun p => ?_
       refine Qm.run (k := 10) (v := (.bool f.2.2.2.2.2)) K ?_
       exact eK p
      ·rintro ρ' w' hs m ⟨c5, c6, c8, c9, f1, ⟨ak7, x0, ak8, ak9, -⟩, n7, n8, al0⟩
       refine kN [(36, (.tuple #[(.agg #[(.string ⟨List.toArray f.1⟩), (.int .i64 f.2.1), (.int .i64 f.2.2.1), (.slice c5 (List.length f.2.2.2.1) c6), (.slice c8 (List.length f.2.2.2.2.1) c9)]), (.bool f.2.2.2.2.2)]))] ⟨(Q9 (h := 8) K).symm.trans x0, trivial⟩ fun p => ?_
       refine Qm.run (k := 10) (v := (.bool f.2.2.2.2.2)) K ?_
       exact eK p
      ·rintro ρ' w' hs m ⟨b2, b3, a6, a9, a0, ⟨al1, x1, al2, al3, al4, -⟩, i2, d0, al5⟩
       refine kN [(36, (.tuple #[(.agg #[(.string ⟨List.toArray f.1⟩), (.int .i64 f.2.1), (.int .i64 f.2.2.1), (.slice b2 (List.length f.2.2.2.1) b3), (.slice a6 (List.length f.2.2.2.2.1) a9)]), (.bool f.2.2.2.2.2)]))] ⟨(Q9 (h := 8) K).symm.trans x1, trivial⟩ fun p => ?_
       refine Qm.run (k := 10) (v := (.bool f.2.2.2.2.2)) K ?_
       exact eK p
     ·refine Owe.heavy K [(0, 2), (1, 4), (3, 6), (5, 7)] K (Qb ⟨K, K, ?_⟩ (Qb ⟨K, K, ?_⟩ (Qb ⟨K, K, ?_⟩ (Qb ⟨K, K, ?_⟩ Qy))))
      ·rintro ρ' w' hs m ⟨al6, x2⟩
       refine kN [] trivial fun p => ?_
       refine Qm.alloc (t := 33) (z := (.agg #[(.string ⟨List.toArray ([] : List UInt8)⟩), (.int .i64 0), (.int .i64 0), (.slice none (List.length ([] : List (Int × Int))) 0), (.slice none (List.length ([] : List ((List UInt8) × (List UInt8) × Int))) 0)])) (d := (some 8)) (k := 11) K rfl K x2 ?_
       intro x3 al7 x4
       refine ⟨_, Qa p, trivial, ?_⟩
       exact (Exists.intro x3 (And.intro (And.intro rfl (trivial)) x4))
      ·rintro ρ' w' hs m ⟨e2, e3, e4, e5, ⟨x5, -⟩, j4, j5, x6⟩
       refine kN [] trivial fun p => ?_
       refine Qm.alloc (t := 33) (z := (.agg #[(.string ⟨List.toArray ([] : List UInt8)⟩), (.int .i64 0), (.int .i64 0), (.slice none (List.length ([] : List (Int × Int))) 0), (.slice none (List.length ([] : List ((List UInt8) × (List UInt8) × Int))) 0)])) (d := (some 8)) (k := 11) K rfl K x6 ?_
       intro x7 al8 x8
       refine ⟨_, Qa p, trivial, ?_⟩
       exact (Exists.intro e2 (Exists.intro e3 (Exists.intro e4 (Exists.intro e5 (Exists.intro x7 (And.intro (And.intro x5 (And.intro rfl (trivial))) (And.intro j4 (And.intro j5 x8))))))))
      ·rintro ρ' w' hs m ⟨c1, c2, c3, c4, ⟨x9, y0, -⟩, i0, i1, y1⟩
       refine kN [] trivial fun p => ?_
       refine Qm.alloc (t := 33) (z := (.agg #[(.string ⟨List.toArray ([] : List UInt8)⟩), (.int .i64 0), (.int .i64 0), (.slice none (List.length ([] : List (Int × Int))) 0), (.slice none (List.length ([] : List ((List UInt8) × (List UInt8) × Int))) 0)])) (d := (some 8)) (k := 11) K rfl K y1 ?_
       intro y2 al9 y3
       refine ⟨_, Qa p, trivial, ?_⟩
       exact (Exists.intro c1 (Exists.intro c2 (Exists.intro c3 (Exists.intro c4 (Exists.intro y2 (And.intro (And.intro x9 (And.intro y0 (And.intro rfl (trivial)))) (And.intro i0 (And.intro i1 y3))))))))
      ·rintro ρ' w' hs m ⟨e6, e7, e9, f0, ⟨y4, y5, y6, -⟩, n5, n6, y7⟩
       refine kN [] trivial fun p => ?_
       refine Qm.alloc (t := 33) (z := (.agg #[(.string ⟨List.toArray ([] : List UInt8)⟩), (.int .i64 0), (.int .i64 0), (.slice none (List.length ([] : List (Int × Int))) 0), (.slice none (List.length ([] : List ((List UInt8) × (List UInt8) × Int))) 0)])) (d := (some 8)) (k := 11) K rfl K y7 ?_
       intro y8 am0 y9
       refine ⟨_, Qa p, trivial, ?_⟩
       exact (Exists.intro e6 (Exists.intro e7 (Exists.intro e9 (Exists.intro f0 (Exists.intro y8 (And.intro (And.intro y4 (And.intro y5 (And.intro y6 (And.intro rfl (trivial))))) (And.intro n5 (And.intro n6 y9))))))))
     ·refine oH 7 8 ?_
      ·rintro ρ' w' hs m ⟨c5, c6, c8, c9, f1, ⟨z0, z1, n9, o0, -⟩, n7, n8, z2⟩
       refine kN [(8, (pt f1 0)), (45, (.agg #[(.string ⟨List.toArray f.1⟩), (.int .i64 f.2.1), (.int .i64 f.2.2.1), (.slice c5 (List.length f.2.2.2.1) c6), (.slice c8 (List.length f.2.2.2.2.1) c9)]))] ⟨(Q9 (h := 11) K).symm.trans o0, (Q9 (h := 9) K).symm.trans n9, trivial⟩ fun p => ?_
       refine Qm.store (t := 33) (x := (.tmp 8)) (y := (.tmp 45)) (g := f1) (off := 0) (i := 1) (v := (.agg #[(.string ⟨List.toArray f.1⟩), (.int .i64 f.2.1), (.int .i64 f.2.2.1), (.slice c5 (List.length f.2.2.2.1) c6), (.slice c8 (List.length f.2.2.2.2.1) c9)])) (cs' := #[(.string ⟨List.toArray f.1⟩), (.int .i64 f.2.1), (.int .i64 f.2.2.1), (.slice c5 (List.length f.2.2.2.1) c6), (.slice c8 (List.length f.2.2.2.2.1) c9)]) (d := none) (k := 12) K rfl K K z2 rfl K ?_
       intro am1 z3
       refine ⟨_, Qa p, trivial, ?_⟩
       exact (Exists.intro c5 (Exists.intro c6 (Exists.intro c8 (Exists.intro c9 (Exists.intro f1 (And.intro (And.intro z0 (And.intro z1 (And.intro n9 (And.intro o0 (And.intro rfl (trivial)))))) (And.intro n7 (And.intro n8 z3))))))))
     ·exact oV (hC (hA 10 46) (h0)) (.bool f.2.2.2.2.2)
     ·rintro ρ' w' hs hf ⟨b2, b3, a6, a9, a0, ⟨am2, am3, am4, z4, am5, -⟩, i2, d0, j6⟩
      refine Vv [(1, (.string ⟨List.toArray a5⟩)), (2, (pt s 0)), (5, (.bool a7)), (6, (.bool b5)), (7, (.int .i64 u)), (8, (pt a0 0)), (9, (.bool f.2.2.2.2.2))] ⟨(hs 1 K).trans K, (hs 2 K).trans K, (hs 5 K).trans K, (hs 6 K).trans K, (hs 7 K).trans K, (Q9 (h := 11) K).symm.trans z4, hf 13 9 K, trivial⟩ ?_
      obtain ⟨am6, z5⟩ : ∃ x, w' = x := ⟨_, rfl⟩
      rw [z5] at j6 ⊢
      refine aQ ?_
      refine aQ ?_
      refine At.join (fun ρ w => ∃ (f8 : Bool), Zd ρ [(1, (.string ⟨List.toArray a5⟩)), (2, (pt s 0)), (5, (.bool a7)), (6, (.bool b5)), (7, (.int .i64 u)), (8, (pt a0 0)), (58, (.bool f8))] ∧ SP [] w0 w [Qr s 24 #[(.int .i64 a1), (.int .i64 a2), (.int .i64 a3), (.int .i64 a4), (.slice A6 (List.length (List.map stT d9)) c7)], Qr a0 33 #[(.string ⟨List.toArray f.1⟩), (.int .i64 f.2.1), (.int .i64 f.2.2.1), (.slice b2 (List.length f.2.2.2.1) b3), (.slice a6 (List.length f.2.2.2.2.1) a9)]] ∧ Vx (Qi a1 a2 a3 a4 (List.map stT d9) a5 a7 c0) (List.map stT d9) a5 b5 u f f8 = some r) ?_ ?_
      ·rcases Bool.eq_false_or_eq_true (!f.2.2.2.2.2) with b6 | b6
       ·have H := ct H b6
        refine aG [GEq (.bool f.2.2.2.2.2), GEq (.bool (!f.2.2.2.2.2)), GEq (.bool (!f.2.2.2.2.2)), GEq undef, GEq undef, GEq undef, GEq undef, GEq undef, GEq undef, GEq undef, GEq undef, GEq (.bool true)] [] (tG [] w0 [Qr s 24 #[(.int .i64 a1), (.int .i64 a2), (.int .i64 a3), (.int .i64 a4), (.slice A6 (List.length (List.map stT d9)) c7)], Qr a0 33 #[(.string ⟨List.toArray f.1⟩), (.int .i64 f.2.1), (.int .i64 f.2.2.1), (.slice b2 (List.length f.2.2.2.1) b3), (.slice a6 (List.length f.2.2.2.2.1) a9)]] [([], [])]) 12 0 ⟨trivial, SP.drew j6⟩ ?_ ?_
        iterate 12 refine And.intro ?_ ?_
        exact trivial
        ·exact oV (hC (hS 9 (.bool f.2.2.2.2.2)) (h0)) (.bool f.2.2.2.2.2)
        ·exact oV (hC (hA 0 47) (h0)) (.bool (!f.2.2.2.2.2))
        ·exact oV (hC (hA 1 48) (h0)) (.bool (!f.2.2.2.2.2))
        ·exact oW (hC (hB 2 49 b6) (h0)) 50
        ·exact oW (hC (hB 2 49 b6) (h0)) 51
        ·exact oW (hC (hB 2 49 b6) (h0)) 52
        ·exact oW (hC (hB 2 49 b6) (h0)) 53
        ·exact oW (hC (hB 2 49 b6) (h0)) 54
        ·exact oW (hC (hB 2 49 b6) (h0)) 55
        ·exact oW (hC (hB 2 49 b6) (h0)) 56
        ·exact oW (hC (hB 2 49 b6) (h0)) 57
        ·exact oV (hC (hB 2 49 b6) (hC (hA 10 57) (h0))) (.bool true)
        ·rintro ρ' w' hs hf ⟨am7, o1⟩
         refine Vv [(1, (.string ⟨List.toArray a5⟩)), (2, (pt s 0)), (5, (.bool a7)), (6, (.bool b5)), (7, (.int .i64 u)), (8, (pt a0 0)), (58, (.bool true))] ⟨(hs 1 K).trans K, (hs 2 K).trans K, (hs 5 K).trans K, (hs 6 K).trans K, (hs 7 K).trans K, (hs 8 K).trans K, hf 11 58 K, trivial⟩ ?_
         obtain ⟨am8, z6⟩ : ∃ x, w' = x := ⟨_, rfl⟩
         rw [z6] at o1 ⊢
         exact ⟨true, ⟨K, K, K, K, K, K, K, trivial⟩, SP.sel o1 [0, 1] rfl rfl, H⟩
       ·have H := cf H b6
        obtain ⟨b1, o2, o3, j7, H⟩ := Jo H
        obtain ⟨d6, z7, H⟩ := Qc H
        refine aG [GEq (.bool f.2.2.2.2.2), GEq (.bool (!f.2.2.2.2.2)), GEq (.bool (!f.2.2.2.2.2)), GEq (.agg #[(.string ⟨List.toArray f.1⟩), (.int .i64 f.2.1), (.int .i64 f.2.2.1), (.slice b2 (List.length f.2.2.2.1) b3), (.slice a6 (List.length f.2.2.2.2.1) a9)]), GEq (pt s 4), GEq (.slice A6 (List.length (List.map stT d9)) c7), GEq (.int .i64 u), Z2 A6 V9.sz u, GEq (.agg #[(.string ⟨List.toArray (stT b1).1⟩), (.int .i64 (stT b1).2.1), (.int .i64 (stT b1).2.2.1), (.slice b1.2.2.2.1.1 (List.length (stT b1).2.2.2.1) b1.2.2.2.1.2.1), (.slice b1.2.2.2.2.1 (List.length (stT b1).2.2.2.2) b1.2.2.2.2.2.1)]), GEq (.bool d6), GEq (.bool (!d6)), GEq (.bool (!d6))] [9] (tG [] w0 [Qr s 24 #[(.int .i64 a1), (.int .i64 a2), (.int .i64 a3), (.int .i64 a4), (.slice A6 (List.length (List.map stT d9)) c7)], Qr a0 33 #[(.string ⟨List.toArray f.1⟩), (.int .i64 f.2.1), (.int .i64 f.2.2.1), (.slice b2 (List.length f.2.2.2.1) b3), (.slice a6 (List.length f.2.2.2.2.1) a9)]] [([], []), ([9], [(.bool d6)])]) 12 1 ⟨trivial, SP.drew j6⟩ ?_ ?_
        iterate 12 refine And.intro ?_ ?_
        exact trivial
        ·exact oV (hC (hS 9 (.bool f.2.2.2.2.2)) (h0)) (.bool f.2.2.2.2.2)
        ·exact oV (hC (hA 0 47) (h0)) (.bool (!f.2.2.2.2.2))
        ·exact oV (hC (hA 1 48) (h0)) (.bool (!f.2.2.2.2.2))
        ·refine oL 0 ?_
         ·rintro ρ' w' hs m ⟨am9, z8⟩
          have e8 : ρ' 8 = (pt a0 0) := (hs 8 K).trans K
          have d7 := m 2 49 K
          refine kN [(8, (pt a0 0)), (49, (.bool false))] ⟨e8, (Eq.trans d7 (congrArg Value.bool b6)), trivial⟩ fun p => ?_
          refine sL 33 8 a0 0 1 (.agg #[(.string ⟨List.toArray f.1⟩), (.int .i64 f.2.1), (.int .i64 f.2.2.1), (.slice b2 (List.length f.2.2.2.1) b3), (.slice a6 (List.length f.2.2.2.2.1) a9)]) 50 z8 rfl ?_
          exact eK p
        ·exact oV (hC (hS 2 (pt s 0)) (hC (hB 2 49 b6) (h0))) (pt s 4)
        ·refine oL 0 ?_
         ·rintro ρ' w' hs m ⟨an0, z9⟩
          have e51 := m 4 51 K
          have d7 := m 2 49 K
          refine kN [(51, (pt s 4)), (49, (.bool false))] ⟨e51, (Eq.trans d7 (congrArg Value.bool b6)), trivial⟩ fun p => ?_
          refine sL 22 51 s 4 0 (.slice A6 (List.length (List.map stT d9)) c7) 52 z9 rfl ?_
          exact eK p
        ·exact oV (hC (hS 7 (.int .i64 u)) (hC (hB 2 49 b6) (h0))) (.int .i64 u)
        ·refine oL 0 ?_
         ·rintro ρ' w' hs m ⟨an1, aa1⟩
          have e52 := m 5 52 K
          have e53 := m 6 53 K
          have d7 := m 2 49 K
          refine kN [(52, (.slice A6 (List.length (List.map stT d9)) c7)), (53, (.int .i64 u)), (49, (.bool false))] ⟨e52, e53, (Eq.trans d7 (congrArg Value.bool b6)), trivial⟩ fun p => ?_
          refine Xs stT (e := V9) (l := d9) (A := A6) (c := c7) (T := 22) (E := 33) (x := (.tmp 52)) (ix := (.tmp 53)) (ki := .i64) (iz := u) (d := (some 54)) (k := 7) K rfl K K K K (RdT.sp (X8 b9) aa1) o2 o3 ?_
          intro aa4 aa5 aa6 an2 hc3233
          exact ⟨rfl, _, Qa p, ⟨aa4, aa5, aa6, rfl⟩⟩
        ·refine oL 0 ?_
         ·rintro ρ' w' hs m ⟨an3, aa7⟩
          obtain ⟨o4, o5, aa8, e54⟩ := m 7 54 K
          have d7 := m 2 49 K
          refine kN [(54, (.pointer (some ⟨o4, (o5 + Int.toNat u * V9.sz), none⟩))), (49, (.bool false))] ⟨e54, (Eq.trans d7 (congrArg Value.bool b6)), trivial⟩ fun p => ?_
          refine Qm.cells (t := 33) (x := (.tmp 54)) (b := o4) (off := (o5 + Int.toNat u * V9.sz)) (xs := [(.string ⟨List.toArray (stT b1).1⟩), (.int .i64 (stT b1).2.1), (.int .i64 (stT b1).2.2.1), (.slice b1.2.2.2.1.1 (List.length (stT b1).2.2.2.1) b1.2.2.2.1.2.1), (.slice b1.2.2.2.2.1 (List.length (stT b1).2.2.2.2) b1.2.2.2.2.2.1)]) (d := (some 55)) (k := 8) K rfl K K K (Vy (e := V9) (Qo (RdT.sp (X8 b9) aa7) aa8 o2 o3) j7 rfl) ?_
          exact eK p
        ·refine oH 0 1 ?_
         ·rintro ρ' w' hs m ⟨an4, h4⟩
          have e50 := m 3 50 K
          have e55 := m 8 55 K
          have d7 := m 2 49 K
          refine kN [(50, (.agg #[(.string ⟨List.toArray f.1⟩), (.int .i64 f.2.1), (.int .i64 f.2.2.1), (.slice b2 (List.length f.2.2.2.1) b3), (.slice a6 (List.length f.2.2.2.2.1) a9)])), (55, (.agg #[(.string ⟨List.toArray (stT b1).1⟩), (.int .i64 (stT b1).2.1), (.int .i64 (stT b1).2.2.1), (.slice b1.2.2.2.1.1 (List.length (stT b1).2.2.2.1) b1.2.2.2.1.2.1), (.slice b1.2.2.2.2.1 (List.length (stT b1).2.2.2.2) b1.2.2.2.2.2.1)])), (49, (.bool false))] ⟨e50, e55, (Eq.trans d7 (congrArg Value.bool b6)), trivial⟩ fun p => ?_
          refine cF 27 #[(.tmp 50), (.tmp 55)] #[33, 33] 56 Tryz.call27 (Yo b2 b3 a6 a9 b1.2.2.2.1.1 b1.2.2.2.1.2.1 b1.2.2.2.2.1 b1.2.2.2.2.2.1 f.1 f.2.1 f.2.2.1 f.2.2.2.1 f.2.2.2.2.1 (stT b1).1 (stT b1).2.1 (stT b1).2.2.1 (stT b1).2.2.2.1 (stT b1).2.2.2.2 w' (RdT.sp (i2 w0 (Below.refl _ _)) h4) (RdT.sp (d0 w0 (Below.refl _ _)) h4) (RdT.sp (X8 (dp1 (dp2 (dp2 (dp2 (Gr b9 j7)))))) h4) (RdT.sp (X8 (dp2 (dp2 (dp2 (dp2 (Gr b9 j7)))))) h4) d6 z7) ?_
          rintro e an5 ⟨rfl, o6⟩
          refine ⟨_, rfl, ?_⟩
          have ab2 := SP.call h4 o6
          clear o6
          refine ⟨_, Qa p, rfl, ?_⟩
          exact (And.intro (And.intro rfl (trivial)) ab2)
        ·exact oV (hC (hA 9 56) (hC (hB 2 49 b6) (h0))) (.bool (!d6))
        ·exact oV (hC (hB 2 49 b6) (hC (hA 10 57) (h0))) (.bool (!d6))
        ·rintro ρ' w' hs hf ⟨⟨an6, -⟩, o7⟩
         refine Vv [(1, (.string ⟨List.toArray a5⟩)), (2, (pt s 0)), (5, (.bool a7)), (6, (.bool b5)), (7, (.int .i64 u)), (8, (pt a0 0)), (58, (.bool (!d6)))] ⟨(hs 1 K).trans K, (hs 2 K).trans K, (hs 5 K).trans K, (hs 6 K).trans K, (hs 7 K).trans K, (hs 8 K).trans K, hf 11 58 K, trivial⟩ ?_
         obtain ⟨an7, ab3⟩ : ∃ x, w' = x := ⟨_, rfl⟩
         rw [ab3] at o7 ⊢
         exact ⟨(!d6), ⟨K, K, K, K, K, K, K, trivial⟩, SP.sel o7 [0, 1] rfl rfl, H⟩
      ·rintro ρ an8 ⟨f8, hk, f9, H⟩
       unfold Vx at H
       first | refine At.known [(1, (.string ⟨List.toArray a5⟩)), (2, (pt s 0)), (5, (.bool a7)), (6, (.bool b5)), (7, (.int .i64 u)), (8, (pt a0 0)), (58, (.bool f8))] hk ?_ | rw [← Q1 (l := [(1, (.string ⟨List.toArray a5⟩)), (2, (pt s 0)), (5, (.bool a7)), (6, (.bool b5)), (7, (.int .i64 u)), (8, (pt a0 0)), (58, (.bool f8))]) hk]
       refine Zv K (o := (.tmp 58)) K (b := f8) K (fun j8 => ?_) (fun j8 => ?_)
       ·have H := ct H j8
        refine aQ ?_
        refine aR ?_
        refine iR 1 1 [(4, (.bool false))] ?_
        refine iF ?_
        refine At.ret K ?_
        refine ⟨(.bool false), K, ?_⟩
        obtain rfl := Qg H
        exact ⟨rfl, SP.sel f9 [] rfl rfl⟩
       ·have H := cf H j8
        refine At.skip K ?_
        refine aQ ?_
        refine At.join (fun ρ w => ∃ (b8 : Bool), Zd ρ [(1, (.string ⟨List.toArray a5⟩)), (2, (pt s 0)), (5, (.bool a7)), (6, (.bool b8)), (7, (.int .i64 u)), (8, (pt a0 0))] ∧ SP [] w0 w [Qr s 24 #[(.int .i64 a1), (.int .i64 a2), (.int .i64 a3), (.int .i64 a4), (.slice A6 (List.length (List.map stT d9)) c7)], Qr a0 33 #[(.string ⟨List.toArray f.1⟩), (.int .i64 f.2.1), (.int .i64 f.2.2.1), (.slice b2 (List.length f.2.2.2.1) b3), (.slice a6 (List.length f.2.2.2.2.1) a9)]] ∧ Vw (Qi a1 a2 a3 a4 (List.map stT d9) a5 a7 c0) u f b8 = some r) ?_ ?_
        ·refine aR ?_
         refine iR 2 2 [(59, (.bool b5)), (60, (.bool b5))] ?_
         refine In.guard (t := 60) (b := b5) K (fun j9 => ?_) (fun j9 => ?_)
         ·have H := ct H j9
          refine iR 10 12 [(61, undef), (62, undef), (63, undef), (64, undef), (65, undef), (66, undef), (67, undef), (68, undef), (69, (.bool true)), (6, (.bool true))] ?_
          refine iF ?_
          exact ⟨true, ⟨K, K, K, K, K, K, trivial⟩, SP.sel f9 [0, 1] rfl rfl, H⟩
         ·have H := cf H j9
          refine iR 1 3 [(61, (pt s 4))] ?_
          refine iS 4 ?_
          refine sL 22 61 s 4 0 (.slice A6 (List.length (List.map stT d9)) c7) 62 f9 rfl ?_
          refine iR 1 5 [(63, (.int .i64 u))] ?_
          obtain ⟨g0, o8, o9, ab4, H⟩ := Jo H
          refine iS 6 ?_
          refine Xs stT (e := V9) (l := d9) (A := A6) (c := c7) (T := 22) (E := 33) (x := (.tmp 62)) (ix := (.tmp 63)) (ki := .i64) (iz := u) (d := (some 64)) (k := 5) K rfl K K K K (RdT.sp (X8 b9) f9) o8 o9 ?_
          intro p0 p1 ab5 an9 hc3198
          refine iR 1 7 [(65, (.pointer (some ⟨p0, (p1 + Int.toNat u * V9.sz), none⟩)))] ?_
          refine iS 8 ?_
          refine sC 9 65 p0 (p1 + Int.toNat u * V9.sz) (.string ⟨List.toArray (stT g0).1⟩) 66 (Qt (e := V9) (Qo (RdT.sp (X8 b9) f9) ab5 o8 o9) ab4 (j := 0) rfl) ?_
          refine iR 1 9 [(67, (.string ⟨List.toArray a5⟩))] ?_
          refine iS 10 ?_
          refine Z1 (op := .eql) (T := 9) (T' := 9) (x := (.tmp 66)) (y := (.tmp 67)) (a := (stT g0).1) (b := a5) (r := (.bool ((stT g0).1 == a5))) (d := (some 68)) (k := 9) K rfl K K rfl ?_
          refine iR 2 12 [(69, (.bool ((stT g0).1 == a5))), (6, (.bool ((stT g0).1 == a5)))] ?_
          refine iF ?_
          exact ⟨((stT g0).1 == a5), ⟨K, K, K, K, K, K, trivial⟩, SP.sel f9 [0, 1] rfl rfl, H⟩
        ·rintro ρ ao0 ⟨b8, hk, ab6, H⟩
         unfold Vw at H
         first | refine At.known [(1, (.string ⟨List.toArray a5⟩)), (2, (pt s 0)), (5, (.bool a7)), (6, (.bool b8)), (7, (.int .i64 u)), (8, (pt a0 0))] hk ?_ | rw [← Q1 (l := [(1, (.string ⟨List.toArray a5⟩)), (2, (pt s 0)), (5, (.bool a7)), (6, (.bool b8)), (7, (.int .i64 u)), (8, (pt a0 0))]) hk]
         refine aQ ?_
         refine aR ?_
         refine iR 1 1 [(10, (.int .i64 0))] ?_
         refine iF ?_
         refine Ya K (id := 2) K ?_
         refine Ns K (fun i3 ρ w => ∃ (b0 : Int), Zd ρ [(1, (.string ⟨List.toArray a5⟩)), (2, (pt s 0)), (5, (.bool a7)), (6, (.bool b8)), (7, (.int .i64 u)), (8, (pt a0 0)), (10, (.int .i64 b0))] ∧ SP [] w0 w [Qr s 24 #[(.int .i64 a1), (.int .i64 a2), (.int .i64 a3), (.int .i64 a4), (.slice A6 (List.length (List.map stT d9)) c7)], Qr a0 33 #[(.string ⟨List.toArray f.1⟩), (.int .i64 f.2.1), (.int .i64 f.2.2.1), (.slice b2 (List.length f.2.2.2.1) b3), (.slice a6 (List.length f.2.2.2.2.1) a9)]] ∧ Q8 (Qi a1 a2 a3 a4 (List.map stT d9) a5 a7 c0) u f b8 i3 b0 = some r) (by rintro ρ w ⟨b0, hk, hs, H⟩; cases H) ?_ Xn ?_
         ·rintro i3 ρ ao1 ⟨b0, hk, k1, H⟩
          refine At.known [(1, (.string ⟨List.toArray a5⟩)), (2, (pt s 0)), (5, (.bool a7)), (6, (.bool b8)), (7, (.int .i64 u)), (8, (pt a0 0)), (10, (.int .i64 b0))] hk ?_
          replace H := (show Vj (Qi a1 a2 a3 a4 (List.map stT d9) a5 a7 c0) (Q8 (Qi a1 a2 a3 a4 (List.map stT d9) a5 a7 c0) u f b8 i3) u f b8 b0 = some r from H)
          unfold Vj at H
          refine aQ ?_
          refine aQ ?_
          refine aR ?_
          refine iR 2 2 [(70, (.int .i64 b0)), (71, (pt a0 4))] ?_
          refine iS 3 ?_
          refine sL 31 71 a0 4 1 (.slice a6 (List.length f.2.2.2.2.1) a9) 72 k1 rfl ?_
          refine iR 2 5 [(73, (.int .i64 ((List.length f.2.2.2.2.1 : Nat) : Int))), (74, (.bool (decide (b0 < ((List.length f.2.2.2.2.1 : Nat) : Int)))))] ?_
          refine iF ?_
          refine Zv K (o := (.tmp 74)) K (b := (decide (b0 < ((List.length f.2.2.2.2.1 : Nat) : Int)))) K (fun k2 => ?_) (fun k2 => ?_)
          ·have H := ct H k2
           refine At.skip K ?_
           refine aQ ?_
           refine Ya K (id := 3) K ?_
           refine aQ ?_
           obtain ⟨h5, i4, i5, p2, H⟩ := Vc H
           obtain ⟨q, p3, H⟩ := Qc H
           refine aG [GEq (.agg #[(.string ⟨List.toArray f.1⟩), (.int .i64 f.2.1), (.int .i64 f.2.2.1), (.slice b2 (List.length f.2.2.2.1) b3), (.slice a6 (List.length f.2.2.2.2.1) a9)]), GEq (pt a0 4), GEq (.slice a6 (List.length f.2.2.2.2.1) a9), GEq (.int .i64 b0), Z2 a6 (Qd Qn (Qd Qn (Qx .i64))).sz b0, Z2 a6 (Qd Qn (Qd Qn (Qx .i64))).sz b0, GEq (.string ⟨List.toArray h5.1⟩), GEq (.tuple #[(.agg #[(.string ⟨List.toArray q.1⟩), (.string ⟨List.toArray q.2.1⟩), (.int .i64 q.2.2.1)]), (.bool q.2.2.2)]), GEq (.tuple #[(.agg #[(.string ⟨List.toArray q.1⟩), (.string ⟨List.toArray q.2.1⟩), (.int .i64 q.2.2.1)]), (.bool q.2.2.2)]), GEq (.agg #[(.string ⟨List.toArray q.1⟩), (.string ⟨List.toArray q.2.1⟩), (.int .i64 q.2.2.1)]), GEq (.bool q.2.2.2), N2, N2, GEq (.bool q.2.2.2)] [7, 11, 12] [([], fun vs w => VL vs [] ∧ SP [] w0 w [Qr s 24 #[(.int .i64 a1), (.int .i64 a2), (.int .i64 a3), (.int .i64 a4), (.slice A6 (List.length (List.map stT d9)) c7)], Qr a0 33 #[(.string ⟨List.toArray f.1⟩), (.int .i64 f.2.1), (.int .i64 f.2.2.1), (.slice b2 (List.length f.2.2.2.1) b3), (.slice a6 (List.length f.2.2.2.2.1) a9)]]), ([7], fun vs w => VL vs [(.tuple #[(.agg #[(.string ⟨List.toArray q.1⟩), (.string ⟨List.toArray q.2.1⟩), (.int .i64 q.2.2.1)]), (.bool q.2.2.2)])] ∧ SP [] w0 w [Qr s 24 #[(.int .i64 a1), (.int .i64 a2), (.int .i64 a3), (.int .i64 a4), (.slice A6 (List.length (List.map stT d9)) c7)], Qr a0 33 #[(.string ⟨List.toArray f.1⟩), (.int .i64 f.2.1), (.int .i64 f.2.2.1), (.slice b2 (List.length f.2.2.2.1) b3), (.slice a6 (List.length f.2.2.2.2.1) a9)]]), ([11], fun vs w => ∃ (d8 : Nat), VL vs [(pt d8 0)] ∧ SP [] w0 w [Qr s 24 #[(.int .i64 a1), (.int .i64 a2), (.int .i64 a3), (.int .i64 a4), (.slice A6 (List.length (List.map stT d9)) c7)], Qr a0 33 #[(.string ⟨List.toArray f.1⟩), (.int .i64 f.2.1), (.int .i64 f.2.2.1), (.slice b2 (List.length f.2.2.2.1) b3), (.slice a6 (List.length f.2.2.2.2.1) a9)], Qr d8 37 #[(.string ⟨List.toArray ([] : List UInt8)⟩), (.string ⟨List.toArray ([] : List UInt8)⟩), (.int .i64 0)]]), ([7, 11], fun vs w => ∃ (g1 : Nat), VL vs [(.tuple #[(.agg #[(.string ⟨List.toArray q.1⟩), (.string ⟨List.toArray q.2.1⟩), (.int .i64 q.2.2.1)]), (.bool q.2.2.2)]), (pt g1 0)] ∧ SP [] w0 w [Qr s 24 #[(.int .i64 a1), (.int .i64 a2), (.int .i64 a3), (.int .i64 a4), (.slice A6 (List.length (List.map stT d9)) c7)], Qr a0 33 #[(.string ⟨List.toArray f.1⟩), (.int .i64 f.2.1), (.int .i64 f.2.2.1), (.slice b2 (List.length f.2.2.2.1) b3), (.slice a6 (List.length f.2.2.2.2.1) a9)], Qr g1 37 #[(.string ⟨List.toArray ([] : List UInt8)⟩), (.string ⟨List.toArray ([] : List UInt8)⟩), (.int .i64 0)]]), ([7, 11, 12], fun vs w => ∃ (e0 : Nat), VL vs [(.tuple #[(.agg #[(.string ⟨List.toArray q.1⟩), (.string ⟨List.toArray q.2.1⟩), (.int .i64 q.2.2.1)]), (.bool q.2.2.2)]), (pt e0 0), undef] ∧ SP [] w0 w [Qr s 24 #[(.int .i64 a1), (.int .i64 a2), (.int .i64 a3), (.int .i64 a4), (.slice A6 (List.length (List.map stT d9)) c7)], Qr a0 33 #[(.string ⟨List.toArray f.1⟩), (.int .i64 f.2.1), (.int .i64 f.2.2.1), (.slice b2 (List.length f.2.2.2.1) b3), (.slice a6 (List.length f.2.2.2.2.1) a9)], Qr e0 37 #[(.string ⟨List.toArray q.1⟩), (.string ⟨List.toArray q.2.1⟩), (.int .i64 q.2.2.1)]])] 14 4 ⟨trivial, SP.drew k1⟩ ?_ ?_
           iterate 14 refine And.intro ?_ ?_
           exact trivial
           ·refine Owe.light K [0, 2] K (Qb ?_ (Qb ?_ Qy))
            ·rintro ρ' w' hs m ⟨ao2, ab7⟩
             refine kM (kc (kS hs 8 (pt a0 0)) k0) fun p => ?_
             refine sL 33 8 a0 0 1 (.agg #[(.string ⟨List.toArray f.1⟩), (.int .i64 f.2.1), (.int .i64 f.2.2.1), (.slice b2 (List.length f.2.2.2.1) b3), (.slice a6 (List.length f.2.2.2.2.1) a9)]) 78 ab7 rfl ?_
             exact eK p
            ·rintro ρ' w' hs m ⟨d8, ⟨ao3, -⟩, ab8⟩
             refine kM (kc (kS hs 8 (pt a0 0)) k0) fun p => ?_
             refine sL 33 8 a0 0 1 (.agg #[(.string ⟨List.toArray f.1⟩), (.int .i64 f.2.1), (.int .i64 f.2.2.1), (.slice b2 (List.length f.2.2.2.1) b3), (.slice a6 (List.length f.2.2.2.2.1) a9)]) 78 ab8 rfl ?_
             exact eK p
           ·exact oV (hC (hS 8 (pt a0 0)) (h0)) (pt a0 4)
           ·refine Owe.light K [0, 2] K (Qb ?_ (Qb ?_ Qy))
            ·rintro ρ' w' hs m ⟨ao4, ab9⟩
             refine kM (kc (kA m 1 79) k0) fun p => ?_
             refine sL 31 79 a0 4 1 (.slice a6 (List.length f.2.2.2.2.1) a9) 80 ab9 rfl ?_
             exact eK p
            ·rintro ρ' w' hs m ⟨d8, ⟨ao5, -⟩, ac0⟩
             refine kM (kc (kA m 1 79) k0) fun p => ?_
             refine sL 31 79 a0 4 1 (.slice a6 (List.length f.2.2.2.2.1) a9) 80 ac0 rfl ?_
             exact eK p
           ·exact oV (hC (hS 10 (.int .i64 b0)) (h0)) (.int .i64 b0)
           ·refine Owe.light K [0, 2] K (Qb ?_ (Qb ?_ Qy))
            ·rintro ρ' w' hs m ⟨ao6, ac1⟩
             refine kM (kc (kA m 2 80) (kc (kA m 3 81) k0)) fun p => ?_
             refine Qp (e := (Qd Qn (Qd Qn (Qx .i64)))) (l := f.2.2.2.2.1) (A := a6) (c := a9) (T := 31) (E := 37) (x := (.tmp 80)) (ix := (.tmp 81)) (ki := .i64) (iz := b0) (d := (some 82)) (k := 4) K rfl K K K K (RdT.sp (d0 w0 (Below.refl _ _)) ac1) i4 i5 ?_
             intro ac2 ac3 ac4 ao7 hc3046
             exact ⟨rfl, _, Qa p, ⟨ac2, ac3, ac4, rfl⟩⟩
            ·rintro ρ' w' hs m ⟨d8, ⟨ao8, -⟩, ac5⟩
             refine kM (kc (kA m 2 80) (kc (kA m 3 81) k0)) fun p => ?_
             refine Qp (e := (Qd Qn (Qd Qn (Qx .i64)))) (l := f.2.2.2.2.1) (A := a6) (c := a9) (T := 31) (E := 37) (x := (.tmp 80)) (ix := (.tmp 81)) (ki := .i64) (iz := b0) (d := (some 82)) (k := 4) K rfl K K K K (RdT.sp (d0 w0 (Below.refl _ _)) ac5) i4 i5 ?_
             intro ac6 ac7 ac8 ao9 hc3054
             exact ⟨rfl, _, Qa p, ⟨ac6, ac7, ac8, rfl⟩⟩
           ·refine Owe.light K [0, 2] K (Qb ?_ (Qb ?_ Qy))
            ·rintro ρ' w' hs m ⟨ap0, ap1⟩
             obtain ⟨p4, p5, ac9, k3⟩ := m 4 82 K
             refine kM (kc k3 k0) fun p => ?_
             refine Qm.run (k := 5) (v := (.pointer (some ⟨p4, (p5 + Int.toNat b0 * (Qd Qn (Qd Qn (Qx .i64))).sz), none⟩))) K ?_
             exact ⟨rfl, _, Qa p, ⟨p4, p5, ac9, rfl⟩⟩
            ·rintro ρ' w' hs m ⟨d8, ⟨ap2, -⟩, ap3⟩
             obtain ⟨p6, p7, ad0, k3⟩ := m 4 82 K
             refine kM (kc k3 k0) fun p => ?_
             refine Qm.run (k := 5) (v := (.pointer (some ⟨p6, (p7 + Int.toNat b0 * (Qd Qn (Qd Qn (Qx .i64))).sz), none⟩))) K ?_
             exact ⟨rfl, _, Qa p, ⟨p6, p7, ad0, rfl⟩⟩
           ·refine Owe.light K [0, 2] K (Qb ?_ (Qb ?_ Qy))
            ·rintro ρ' w' hs m ⟨ap4, ad1⟩
             obtain ⟨ad2, ad3, ad4, k4⟩ := m 5 83 K
             refine kM (kc k4 k0) fun p => ?_
             refine sC 9 83 ad2 (ad3 + Int.toNat b0 * (Qd Qn (Qd Qn (Qx .i64))).sz) (.string ⟨List.toArray h5.1⟩) 84 (Qt (e := (Qd Qn (Qd Qn (Qx .i64)))) (Qo (RdT.sp (d0 w0 (Below.refl _ _)) ad1) ad4 i4 i5) p2 (j := 0) rfl) ?_
             exact eK p
            ·rintro ρ' w' hs m ⟨d8, ⟨ap5, -⟩, ad5⟩
             obtain ⟨ad6, ad7, ad8, k4⟩ := m 5 83 K
             refine kM (kc k4 k0) fun p => ?_
             refine sC 9 83 ad6 (ad7 + Int.toNat b0 * (Qd Qn (Qd Qn (Qx .i64))).sz) (.string ⟨List.toArray h5.1⟩) 84 (Qt (e := (Qd Qn (Qd Qn (Qx .i64)))) (Qo (RdT.sp (d0 w0 (Below.refl _ _)) ad5) ad8 i4 i5) p2 (j := 0) rfl) ?_
             exact eK p
           ·refine Owe.heavy K [(0, 1), (2, 3)] K (Qb ⟨K, K, ?_⟩ (Qb ⟨K, K, ?_⟩ Qy))
            ·rintro ρ' w' hs m ⟨ap6, k5⟩
             refine kM (kc (kA m 0 78) (kc (kA m 6 84) k0)) fun p => ?_
             refine cF 20 #[(.tmp 78), (.tmp 84)] #[33, 9] 85 Tryz.call20 (Jy b2 b3 a6 a9 f.1 f.2.1 f.2.2.1 f.2.2.2.1 f.2.2.2.2.1 h5.1 w' (RdT.sp (i2 w0 (Below.refl _ _)) k5) (RdT.sp (d0 w0 (Below.refl _ _)) k5) q p3) ?_
             rintro e ap7 ⟨rfl, p8⟩
             refine ⟨_, rfl, ?_⟩
             have ad9 := SP.call k5 p8
             clear p8
             refine ⟨_, Qa p, rfl, ?_⟩
             exact (And.intro (And.intro rfl (trivial)) ad9)
            ·rintro ρ' w' hs m ⟨d8, ⟨ae0, -⟩, k6⟩
             refine kM (kc (kA m 0 78) (kc (kA m 6 84) k0)) fun p => ?_
             refine cF 20 #[(.tmp 78), (.tmp 84)] #[33, 9] 85 Tryz.call20 (Jy b2 b3 a6 a9 f.1 f.2.1 f.2.2.1 f.2.2.2.1 f.2.2.2.2.1 h5.1 w' (RdT.sp (i2 w0 (Below.refl _ _)) k6) (RdT.sp (d0 w0 (Below.refl _ _)) k6) q p3) ?_
             rintro e ap8 ⟨rfl, p9⟩
             refine ⟨_, rfl, ?_⟩
             have ae1 := SP.call k6 p9
             clear p9
             refine ⟨_, Qa p, rfl, ?_⟩
             exact (Exists.intro d8 (And.intro (And.intro rfl (And.intro ae0 (trivial))) ae1))
           ·exact oV (hC (hA 7 85) (h0)) (.tuple #[(.agg #[(.string ⟨List.toArray q.1⟩), (.string ⟨List.toArray q.2.1⟩), (.int .i64 q.2.2.1)]), (.bool q.2.2.2)])
           ·exact oV (hC (hA 8 77) (h0)) (.agg #[(.string ⟨List.toArray q.1⟩), (.string ⟨List.toArray q.2.1⟩), (.int .i64 q.2.2.1)])
           ·exact oV (hC (hA 8 77) (h0)) (.bool q.2.2.2)
           ·refine Owe.heavy K [(0, 2), (1, 3)] K (Qb ⟨K, K, ?_⟩ (Qb ⟨K, K, ?_⟩ Qy))
            ·rintro ρ' w' hs m ⟨ap9, ae2⟩
             refine kN [] trivial fun p => ?_
             refine Qm.alloc (t := 37) (z := (.agg #[(.string ⟨List.toArray ([] : List UInt8)⟩), (.string ⟨List.toArray ([] : List UInt8)⟩), (.int .i64 0)])) (d := (some 11)) (k := 11) K rfl K ae2 ?_
             intro ae3 aq0 ae4
             refine ⟨_, Qa p, trivial, ?_⟩
             exact (Exists.intro ae3 (And.intro (And.intro rfl (trivial)) ae4))
            ·rintro ρ' w' hs m ⟨⟨ae5, -⟩, ae6⟩
             refine kN [] trivial fun p => ?_
             refine Qm.alloc (t := 37) (z := (.agg #[(.string ⟨List.toArray ([] : List UInt8)⟩), (.string ⟨List.toArray ([] : List UInt8)⟩), (.int .i64 0)])) (d := (some 11)) (k := 11) K rfl K ae6 ?_
             intro ae7 aq1 ae8
             refine ⟨_, Qa p, trivial, ?_⟩
             exact (Exists.intro ae7 (And.intro (And.intro ae5 (And.intro rfl (trivial))) ae8))
           ·refine oH 3 4 ?_
            ·rintro ρ' w' hs m ⟨g1, ⟨ae9, q0, -⟩, af0⟩
             refine kN [(11, (pt g1 0)), (86, (.agg #[(.string ⟨List.toArray q.1⟩), (.string ⟨List.toArray q.2.1⟩), (.int .i64 q.2.2.1)]))] ⟨(Q9 (h := 11) K).symm.trans q0, m 9 86 K, trivial⟩ fun p => ?_
             refine Qm.store (t := 37) (x := (.tmp 11)) (y := (.tmp 86)) (g := g1) (off := 0) (i := 2) (v := (.agg #[(.string ⟨List.toArray q.1⟩), (.string ⟨List.toArray q.2.1⟩), (.int .i64 q.2.2.1)])) (cs' := #[(.string ⟨List.toArray q.1⟩), (.string ⟨List.toArray q.2.1⟩), (.int .i64 q.2.2.1)]) (d := none) (k := 12) K rfl K K af0 rfl K ?_
             intro aq2 af1
             refine ⟨_, Qa p, trivial, ?_⟩
             exact (Exists.intro g1 (And.intro (And.intro ae9 (And.intro q0 (And.intro rfl (trivial)))) af1))
           ·exact oV (hC (hA 10 87) (h0)) (.bool q.2.2.2)
           ·rintro ρ' w' hs hf ⟨e0, ⟨aq3, af2, aq4, -⟩, k7⟩
            refine Vv [(1, (.string ⟨List.toArray a5⟩)), (2, (pt s 0)), (5, (.bool a7)), (6, (.bool b8)), (7, (.int .i64 u)), (8, (pt a0 0)), (10, (.int .i64 b0)), (11, (pt e0 0)), (12, (.bool q.2.2.2))] ⟨(hs 1 K).trans K, (hs 2 K).trans K, (hs 5 K).trans K, (hs 6 K).trans K, (hs 7 K).trans K, (hs 8 K).trans K, (hs 10 K).trans K, (Q9 (h := 11) K).symm.trans af2, hf 13 12 K, trivial⟩ ?_
            obtain ⟨aq5, af3⟩ : ∃ x, w' = x := ⟨_, rfl⟩
            rw [af3] at k7 ⊢
            refine aQ ?_
            refine At.join (fun ρ w => ∃ (g2 : Bool), Zd ρ [(1, (.string ⟨List.toArray a5⟩)), (2, (pt s 0)), (5, (.bool a7)), (6, (.bool b8)), (7, (.int .i64 u)), (8, (pt a0 0)), (10, (.int .i64 b0)), (98, (.bool g2))] ∧ SP [] w0 w [Qr s 24 #[(.int .i64 a1), (.int .i64 a2), (.int .i64 a3), (.int .i64 a4), (.slice A6 (List.length (List.map stT d9)) c7)], Qr a0 33 #[(.string ⟨List.toArray f.1⟩), (.int .i64 f.2.1), (.int .i64 f.2.2.1), (.slice b2 (List.length f.2.2.2.1) b3), (.slice a6 (List.length f.2.2.2.2.1) a9)]] ∧ V4 (Qi a1 a2 a3 a4 (List.map stT d9) a5 a7 c0) (Q8 (Qi a1 a2 a3 a4 (List.map stT d9) a5 a7 c0) u f b8 i3) b0 g2 = some r) ?_ ?_
            ·rcases Bool.eq_false_or_eq_true (!q.2.2.2) with b7 | b7
             ·have H := ct H b7
              refine aG [GEq (.bool q.2.2.2), GEq (.bool (!q.2.2.2)), GEq (.bool (!q.2.2.2)), GEq undef, GEq undef, GEq undef, GEq undef, GEq undef, GEq undef, GEq undef, GEq (.bool true)] [] (tG [] w0 [Qr s 24 #[(.int .i64 a1), (.int .i64 a2), (.int .i64 a3), (.int .i64 a4), (.slice A6 (List.length (List.map stT d9)) c7)], Qr a0 33 #[(.string ⟨List.toArray f.1⟩), (.int .i64 f.2.1), (.int .i64 f.2.2.1), (.slice b2 (List.length f.2.2.2.1) b3), (.slice a6 (List.length f.2.2.2.2.1) a9)], Qr e0 37 #[(.string ⟨List.toArray q.1⟩), (.string ⟨List.toArray q.2.1⟩), (.int .i64 q.2.2.1)]] [([], [])]) 11 0 ⟨trivial, SP.drew k7⟩ ?_ ?_
              iterate 11 refine And.intro ?_ ?_
              exact trivial
              ·exact oV (hC (hS 12 (.bool q.2.2.2)) (h0)) (.bool q.2.2.2)
              ·exact oV (hC (hA 0 88) (h0)) (.bool (!q.2.2.2))
              ·exact oV (hC (hA 1 89) (h0)) (.bool (!q.2.2.2))
              ·exact oW (hC (hB 2 90 b7) (h0)) 91
              ·exact oW (hC (hB 2 90 b7) (h0)) 92
              ·exact oW (hC (hB 2 90 b7) (h0)) 93
              ·exact oW (hC (hB 2 90 b7) (h0)) 94
              ·exact oW (hC (hB 2 90 b7) (h0)) 95
              ·exact oW (hC (hB 2 90 b7) (h0)) 96
              ·exact oW (hC (hB 2 90 b7) (h0)) 97
              ·exact oV (hC (hB 2 90 b7) (hC (hA 9 97) (h0))) (.bool true)
              ·rintro ρ' w' hs hf ⟨aq6, q1⟩
               refine Vv [(1, (.string ⟨List.toArray a5⟩)), (2, (pt s 0)), (5, (.bool a7)), (6, (.bool b8)), (7, (.int .i64 u)), (8, (pt a0 0)), (10, (.int .i64 b0)), (98, (.bool true))] ⟨(hs 1 K).trans K, (hs 2 K).trans K, (hs 5 K).trans K, (hs 6 K).trans K, (hs 7 K).trans K, (hs 8 K).trans K, (hs 10 K).trans K, hf 10 98 K, trivial⟩ ?_
               obtain ⟨aq7, af4⟩ : ∃ x, w' = x := ⟨_, rfl⟩
               rw [af4] at q1 ⊢
               exact ⟨true, ⟨K, K, K, K, K, K, K, K, trivial⟩, SP.sel q1 [0, 1] rfl rfl, H⟩
             ·have H := cf H b7
              obtain ⟨b4, q2, q3, af5, H⟩ := Vc H
              refine aG [GEq (.bool q.2.2.2), GEq (.bool (!q.2.2.2)), GEq (.bool (!q.2.2.2)), GEq (.agg #[(.string ⟨List.toArray q.1⟩), (.string ⟨List.toArray q.2.1⟩), (.int .i64 q.2.2.1)]), GEq (pt a0 4), GEq (.slice a6 (List.length f.2.2.2.2.1) a9), GEq (.int .i64 b0), Z2 a6 (Qd Qn (Qd Qn (Qx .i64))).sz b0, GEq (.agg #[(.string ⟨List.toArray b4.1⟩), (.string ⟨List.toArray b4.2.1⟩), (.int .i64 b4.2.2)]), GEq (.bool (!((q.1 == b4.1) && ((q.2.1 == b4.2.1) && (q.2.2.1 == b4.2.2))))), GEq (.bool (!((q.1 == b4.1) && ((q.2.1 == b4.2.1) && (q.2.2.1 == b4.2.2)))))] [] (tG [] w0 [Qr s 24 #[(.int .i64 a1), (.int .i64 a2), (.int .i64 a3), (.int .i64 a4), (.slice A6 (List.length (List.map stT d9)) c7)], Qr a0 33 #[(.string ⟨List.toArray f.1⟩), (.int .i64 f.2.1), (.int .i64 f.2.2.1), (.slice b2 (List.length f.2.2.2.1) b3), (.slice a6 (List.length f.2.2.2.2.1) a9)], Qr e0 37 #[(.string ⟨List.toArray q.1⟩), (.string ⟨List.toArray q.2.1⟩), (.int .i64 q.2.2.1)]] [([], [])]) 11 0 ⟨trivial, SP.drew k7⟩ ?_ ?_
              iterate 11 refine And.intro ?_ ?_
              exact trivial
              ·exact oV (hC (hS 12 (.bool q.2.2.2)) (h0)) (.bool q.2.2.2)
              ·exact oV (hC (hA 0 88) (h0)) (.bool (!q.2.2.2))
              ·exact oV (hC (hA 1 89) (h0)) (.bool (!q.2.2.2))
              ·refine oL 0 ?_
               ·rintro ρ' w' hs m ⟨aq8, af6⟩
                have e11 : ρ' 11 = (pt e0 0) := (hs 11 K).trans K
                have e1 := m 2 90 K
                refine kN [(11, (pt e0 0)), (90, (.bool false))] ⟨e11, (Eq.trans e1 (congrArg Value.bool b7)), trivial⟩ fun p => ?_
                refine sL 37 11 e0 0 2 (.agg #[(.string ⟨List.toArray q.1⟩), (.string ⟨List.toArray q.2.1⟩), (.int .i64 q.2.2.1)]) 91 af6 rfl ?_
                exact eK p
              ·exact oV (hC (hS 8 (pt a0 0)) (hC (hB 2 90 b7) (h0))) (pt a0 4)
              ·refine oL 0 ?_
               ·rintro ρ' w' hs m ⟨aq9, af8⟩
                have e92 := m 4 92 K
                have e1 := m 2 90 K
                refine kN [(92, (pt a0 4)), (90, (.bool false))] ⟨e92, (Eq.trans e1 (congrArg Value.bool b7)), trivial⟩ fun p => ?_
                refine sL 31 92 a0 4 1 (.slice a6 (List.length f.2.2.2.2.1) a9) 93 af8 rfl ?_
                exact eK p
              ·exact oV (hC (hS 10 (.int .i64 b0)) (hC (hB 2 90 b7) (h0))) (.int .i64 b0)
              ·refine oL 0 ?_
               ·rintro ρ' w' hs m ⟨ar0, ag0⟩
                have e93 := m 5 93 K
                have e94 := m 6 94 K
                have e1 := m 2 90 K
                refine kN [(93, (.slice a6 (List.length f.2.2.2.2.1) a9)), (94, (.int .i64 b0)), (90, (.bool false))] ⟨e93, e94, (Eq.trans e1 (congrArg Value.bool b7)), trivial⟩ fun p => ?_
                refine Qp (e := (Qd Qn (Qd Qn (Qx .i64)))) (l := f.2.2.2.2.1) (A := a6) (c := a9) (T := 31) (E := 37) (x := (.tmp 93)) (ix := (.tmp 94)) (ki := .i64) (iz := b0) (d := (some 95)) (k := 7) K rfl K K K K (RdT.sp (d0 w0 (Below.refl _ _)) ag0) q2 q3 ?_
                intro ag3 ag4 ag5 ar1 hc3177
                exact ⟨rfl, _, Qa p, ⟨ag3, ag4, ag5, rfl⟩⟩
              ·refine oL 0 ?_
               ·rintro ρ' w' hs m ⟨ar2, ag6⟩
                obtain ⟨q4, q5, ag7, e95⟩ := m 7 95 K
                have e1 := m 2 90 K
                refine kN [(95, (.pointer (some ⟨q4, (q5 + Int.toNat b0 * (Qd Qn (Qd Qn (Qx .i64))).sz), none⟩))), (90, (.bool false))] ⟨e95, (Eq.trans e1 (congrArg Value.bool b7)), trivial⟩ fun p => ?_
                refine Qm.cells (t := 37) (x := (.tmp 95)) (b := q4) (off := (q5 + Int.toNat b0 * (Qd Qn (Qd Qn (Qx .i64))).sz)) (xs := [(.string ⟨List.toArray b4.1⟩), (.string ⟨List.toArray b4.2.1⟩), (.int .i64 b4.2.2)]) (d := (some 96)) (k := 8) K rfl K K K (Vy (e := (Qd Qn (Qd Qn (Qx .i64)))) (Qo (RdT.sp (d0 w0 (Below.refl _ _)) ag6) ag7 q2 q3) af5 rfl) ?_
                exact eK p
              ·refine oL 0 ?_
               ·rintro ρ' w' hs m ⟨ar3, ar4⟩
                have e91 := m 3 91 K
                have e96 := m 8 96 K
                have e1 := m 2 90 K
                refine kN [(91, (.agg #[(.string ⟨List.toArray q.1⟩), (.string ⟨List.toArray q.2.1⟩), (.int .i64 q.2.2.1)])), (96, (.agg #[(.string ⟨List.toArray b4.1⟩), (.string ⟨List.toArray b4.2.1⟩), (.int .i64 b4.2.2)])), (90, (.bool false))] ⟨e91, e96, (Eq.trans e1 (congrArg Value.bool b7)), trivial⟩ fun p => ?_
                refine Ct (op := .neq) (T := 37) (T' := 37) (x := (.tmp 91)) (y := (.tmp 96)) (vx := (.agg #[(.string ⟨List.toArray q.1⟩), (.string ⟨List.toArray q.2.1⟩), (.int .i64 q.2.2.1)])) (vy := (.agg #[(.string ⟨List.toArray b4.1⟩), (.string ⟨List.toArray b4.2.1⟩), (.int .i64 b4.2.2)])) (v := (.bool (!((q.1 == b4.1) && ((q.2.1 == b4.2.1) && (q.2.2.1 == b4.2.2)))))) (d := (some 97)) (k := 9) K rfl K K (by clear H; intro w; simp only [Dl]; go_simp; simp only [Dk, Ru, Bl, Dl, Bool.and_true] <;> simp only [Bool.not_and]) ?_
                exact eK p
              ·exact oV (hC (hB 2 90 b7) (hC (hA 9 97) (h0))) (.bool (!((q.1 == b4.1) && ((q.2.1 == b4.2.1) && (q.2.2.1 == b4.2.2)))))
              ·rintro ρ' w' hs hf ⟨ar5, q6⟩
               refine Vv [(1, (.string ⟨List.toArray a5⟩)), (2, (pt s 0)), (5, (.bool a7)), (6, (.bool b8)), (7, (.int .i64 u)), (8, (pt a0 0)), (10, (.int .i64 b0)), (98, (.bool (!((q.1 == b4.1) && ((q.2.1 == b4.2.1) && (q.2.2.1 == b4.2.2))))))] ⟨(hs 1 K).trans K, (hs 2 K).trans K, (hs 5 K).trans K, (hs 6 K).trans K, (hs 7 K).trans K, (hs 8 K).trans K, (hs 10 K).trans K, hf 10 98 K, trivial⟩ ?_
               obtain ⟨ar6, ah1⟩ : ∃ x, w' = x := ⟨_, rfl⟩
               rw [ah1] at q6 ⊢
               exact ⟨(!((q.1 == b4.1) && ((q.2.1 == b4.2.1) && (q.2.2.1 == b4.2.2)))), ⟨K, K, K, K, K, K, K, K, trivial⟩, SP.sel q6 [0, 1] rfl rfl, H⟩
            ·rintro ρ ar7 ⟨g2, hk, q7, H⟩
             unfold V4 at H
             first | refine At.known [(1, (.string ⟨List.toArray a5⟩)), (2, (pt s 0)), (5, (.bool a7)), (6, (.bool b8)), (7, (.int .i64 u)), (8, (pt a0 0)), (10, (.int .i64 b0)), (98, (.bool g2))] hk ?_ | rw [← Q1 (l := [(1, (.string ⟨List.toArray a5⟩)), (2, (pt s 0)), (5, (.bool a7)), (6, (.bool b8)), (7, (.int .i64 u)), (8, (pt a0 0)), (10, (.int .i64 b0)), (98, (.bool g2))]) hk]
             refine Zv K (o := (.tmp 98)) K (b := g2) K (fun k8 => ?_) (fun k8 => ?_)
             ·have H := ct H k8
              refine aQ ?_
              refine aR ?_
              refine iR 1 1 [(4, (.bool false))] ?_
              refine iF ?_
              refine At.ret K ?_
              refine ⟨(.bool false), K, ?_⟩
              obtain rfl := Qg H
              exact ⟨rfl, SP.sel q7 [] rfl rfl⟩
             ·have H := cf H k8
              refine At.skip K ?_
              refine aR ?_
              refine iR 3 3 [(75, (.int .i64 b0)), (76, (.int .i64 (IntKind.wrap .i64 (b0 + 1)))), (10, (.int .i64 (IntKind.wrap .i64 (b0 + 1))))] ?_
              refine iF ?_
              exact ⟨(IntKind.wrap .i64 (b0 + 1)), ⟨K, K, K, K, K, K, K, trivial⟩, SP.sel q7 [0, 1] rfl rfl, H⟩
          ·have H := cf H k2
           refine At.exit K (id := 2) K ?_
           refine aR ?_
           refine iR 3 3 [(34, (.int .i64 u)), (35, (.int .i64 (IntKind.wrap .i64 (u + 1)))), (7, (.int .i64 (IntKind.wrap .i64 (u + 1))))] ?_
           refine iF ?_
           exact ⟨b8, (IntKind.wrap .i64 (u + 1)), ⟨K, K, K, K, K, trivial⟩, SP.sel k1 [0] rfl rfl, H⟩
         ·exact ⟨0, ⟨K, K, K, K, K, K, K, trivial⟩, SP.sel ab6 [0, 1] rfl rfl, H⟩
    ·have H := cf H j1
     refine At.exit K (id := 0) K ?_
     refine aQ ?_
     refine aR ?_
     refine iS 1 ?_
     refine sL 24 2 s 0 0 (.agg #[(.int .i64 a1), (.int .i64 a2), (.int .i64 a3), (.int .i64 a4), (.slice A6 (List.length (List.map stT d9)) c7)]) 100 h1 rfl ?_
     refine iR 1 2 [(101, (.string ⟨List.toArray a5⟩))] ?_
     obtain ⟨a8, ah2, H⟩ := Qc H
     refine iS 3 ?_
     refine cF 18 #[(.tmp 100), (.tmp 101)] #[24, 9] 102 Tryz.call18 (Y3 (R := fun w => Below w0.heap.size w0 w) A6 c7 a1 a2 a3 a4 d9 a5 r8 (fun w hb => Ui h1 hb) (fun w hb => Dp.mono _ hb b9) a8 ah2) ?_
     rintro e ar8 ⟨g3, g4, g5, g6, rfl, ah3, ah4, q8⟩
     refine ⟨_, rfl, ?_⟩
     have ah5 := SP.call h1 q8
     clear q8
     refine iR 3 6 [(99, (.tuple #[(.agg #[(.string ⟨List.toArray a8.1⟩), (.int .i64 a8.2.1), (.int .i64 a8.2.2.1), (.slice g3 (List.length a8.2.2.2.1) g4), (.slice g5 (List.length a8.2.2.2.2.1) g6)]), (.bool a8.2.2.2.2.2)])), (103, (.agg #[(.string ⟨List.toArray a8.1⟩), (.int .i64 a8.2.1), (.int .i64 a8.2.2.1), (.slice g3 (List.length a8.2.2.2.1) g4), (.slice g5 (List.length a8.2.2.2.2.1) g6)])), (104, (.bool a8.2.2.2.2.2))] ?_
     refine iS 7 ?_
     refine Qm.alloc (t := 33) (z := (.agg #[(.string ⟨List.toArray ([] : List UInt8)⟩), (.int .i64 0), (.int .i64 0), (.slice none (List.length ([] : List (Int × Int))) 0), (.slice none (List.length ([] : List ((List UInt8) × (List UInt8) × Int))) 0)])) (d := (some 13)) (k := 6) K rfl K ah5 ?_
     intro q9 ar9 ah6
     refine iS 8 ?_
     refine Qm.store (t := 33) (x := (.tmp 13)) (y := (.tmp 103)) (g := q9) (off := 0) (i := 1) (v := (.agg #[(.string ⟨List.toArray a8.1⟩), (.int .i64 a8.2.1), (.int .i64 a8.2.2.1), (.slice g3 (List.length a8.2.2.2.1) g4), (.slice g5 (List.length a8.2.2.2.2.1) g6)])) (cs' := #[(.string ⟨List.toArray a8.1⟩), (.int .i64 a8.2.1), (.int .i64 a8.2.2.1), (.slice g3 (List.length a8.2.2.2.1) g4), (.slice g5 (List.length a8.2.2.2.2.1) g6)]) (d := none) (k := 7) K rfl K K ah6 rfl K ?_
     intro k9 f2
     refine iR 1 9 [(14, (.bool a8.2.2.2.2.2))] ?_
     refine iF ?_
     refine aQ ?_
     refine At.join (fun ρ w => ∃ (g7 : Bool), Zd ρ [(4, (.bool g7))] ∧ SP [] w0 w [] ∧ Vk (Qi a1 a2 a3 a4 (List.map stT d9) a5 a7 c0) g7 = some r) ?_ ?_
     ·refine aR ?_
      refine iR 2 2 [(105, (.bool a7)), (106, (.bool a7))] ?_
      refine In.guard (t := 106) (b := a7) K (fun l0 => ?_) (fun l0 => ?_)
      ·have H := ct H l0
       refine iR 5 7 [(107, (.bool a8.2.2.2.2.2)), (108, (.bool b5)), (109, (.bool (a8.2.2.2.2.2 == b5))), (110, (.bool (a8.2.2.2.2.2 == b5))), (111, (.bool (a8.2.2.2.2.2 == b5)))] ?_
       refine In.guard (t := 111) (b := (a8.2.2.2.2.2 == b5)) K (fun l1 => ?_) (fun l1 => ?_)
       ·have H := ct H l1
        refine iR 2 9 [(112, (.bool a8.2.2.2.2.2)), (113, (.bool a8.2.2.2.2.2))] ?_
        refine In.guard (t := 113) (b := a8.2.2.2.2.2) K (fun l2 => ?_) (fun l2 => ?_)
        ·have H := ct H l2
         refine iR 6 15 [(114, undef), (115, undef), (116, undef), (117, (.bool true)), (118, (.bool true)), (4, (.bool true))] ?_
         refine iF ?_
         exact ⟨true, ⟨K, trivial⟩, SP.sel f2 [] rfl rfl, H⟩
        ·have H := cf H l2
         refine iS 10 ?_
         refine sL 33 13 q9 0 1 (.agg #[(.string ⟨List.toArray a8.1⟩), (.int .i64 a8.2.1), (.int .i64 a8.2.2.1), (.slice g3 (List.length a8.2.2.2.1) g4), (.slice g5 (List.length a8.2.2.2.2.1) g6)]) 114 f2 rfl ?_
         refine iR 1 11 [(115, (.agg #[(.string ⟨List.toArray ([] : List UInt8)⟩), (.int .i64 0), (.int .i64 0), (.slice none (List.length ([] : List (Int × Int))) 0), (.slice none (List.length ([] : List ((List UInt8) × (List UInt8) × Int))) 0)]))] ?_
         obtain ⟨h6, ah7, H⟩ := Qc H
         refine iS 12 ?_
         refine cF 27 #[(.tmp 114), (.tmp 115)] #[33, 33] 116 Tryz.call27 (Yo g3 g4 g5 g6 none 0 none 0 a8.1 a8.2.1 a8.2.2.1 a8.2.2.2.1 a8.2.2.2.2.1 ([] : List UInt8) 0 0 ([] : List (Int × Int)) ([] : List ((List UInt8) × (List UInt8) × Int)) k9 (RdT.sp (ah3 w0 (Below.refl _ _)) f2) (RdT.sp (ah4 w0 (Below.refl _ _)) f2) (RdT.nil (Qd (Qx .u32) (Qx .i64)) k9) (RdT.nil (Qd Qn (Qd Qn (Qx .i64))) k9) h6 ah7) ?_
         rintro e as0 ⟨rfl, r0⟩
         refine ⟨_, rfl, ?_⟩
         have ah8 := SP.call f2 r0
         clear r0
         refine iR 3 15 [(117, (.bool h6)), (118, (.bool h6)), (4, (.bool h6))] ?_
         refine iF ?_
         exact ⟨h6, ⟨K, trivial⟩, SP.sel ah8 [] rfl rfl, H⟩
       ·have H := cf H l1
        refine iR 8 15 [(112, undef), (113, undef), (114, undef), (115, undef), (116, undef), (117, undef), (118, (.bool false)), (4, (.bool false))] ?_
        refine iF ?_
        exact ⟨false, ⟨K, trivial⟩, SP.sel f2 [] rfl rfl, H⟩
      ·have H := cf H l0
       refine iR 13 15 [(107, undef), (108, undef), (109, undef), (110, (.bool false)), (111, (.bool false)), (112, undef), (113, undef), (114, undef), (115, undef), (116, undef), (117, undef), (118, (.bool false)), (4, (.bool false))] ?_
       refine iF ?_
       exact ⟨false, ⟨K, trivial⟩, SP.sel f2 [] rfl rfl, H⟩
     ·rintro ρ as1 ⟨g7, hk, ah9, H⟩
      unfold Vk at H
      first | refine At.known [(4, (.bool g7))] hk ?_ | rw [← Q1 (l := [(4, (.bool g7))]) hk]
      refine At.ret K ?_
      refine ⟨(.bool g7), K, ?_⟩
      obtain rfl := Qg H
      exact ⟨rfl, SP.sel ah9 [] rfl rfl⟩
   ·exact ⟨false, 0, ⟨K, K, K, K, K, trivial⟩, SP.sel l8 [0] rfl rfl, H⟩
end Go.Proofs.YtoflbpmbkmephaaGreatDoor
namespace Go.Proofs.YtoflbpmbkmephaaGreatDoor
open Go.RowKit
abbrev FindZ := Str × Int × Int × List Ez × List Rx × Bool
def Ho (t : Qf) : FindZ := (t.1, t.2.1, t.2.2.1, t.2.2.2.1, t.2.2.2.2, true)
theorem find_at {l : List Qf} (h : Rq (l.map (·.1)) = true) {i : Nat} (hi : i < l.length) : Hd l l[i].1 = Ho l[i] := by
  unfold Hd
  rw [pl_at h hi]
  simp [List.getD, hi, Ho]
theorem tok_at {l : List Rx} (h : Rq (l.map (·.1)) = true) {i : Nat} (hi : i < l.length) : tokL l l[i].1 = (l[i].1, l[i].2.1, l[i].2.2, true) := by
  unfold tokL
  rw [tix_at h hi]
  simp [List.getD, hi]
theorem ftok_loop (r16 : Bool → Int → Option Bool) (v : Int) (t : Qf) (th : Bool) (h : Rq (t.2.2.2.2.map (·.1)) = true) (hl : t.2.2.2.2.length ≤ 100000) : ∀ (d k f : Nat), d = t.2.2.2.2.length - k → k ≤ t.2.2.2.2.length → d < f →
    Q8 r16 v (Ho t) th f (k : Int) = r16 th (IntKind.wrap .i64 (v + 1)) := by
  intro d
  induction d with
  | zero =>
    intro k f hd hk hf
    obtain ⟨f, rfl⟩ : ∃ g, f = g + 1 := ⟨f - 1, by omega⟩
    show Vj r16 (Q8 r16 v (Ho t) th f) v (Ho t) th (k : Int) = _
    unfold Vj
    rw [decide_eq_false (show ¬ ((k : Int) < ((List.length (Ho t).2.2.2.2.1 : Nat) : Int)) by show ¬ ((k : Int) < ((t.2.2.2.2.length : Nat) : Int)); omega), cond_false]
  | succ d ih =>
    intro k f hd hk hf
    obtain ⟨f, rfl⟩ : ∃ g, f = g + 1 := ⟨f - 1, by omega⟩
    have hlt : k < t.2.2.2.2.length := by omega
    show Vj r16 (Q8 r16 v (Ho t) th f) v (Ho t) th (k : Int) = _
    unfold Vj V4
    rw [decide_eq_true (show (k : Int) < ((List.length (Ho t).2.2.2.2.1 : Nat) : Int) by show (k : Int) < ((t.2.2.2.2.length : Nat) : Int); omega), cond_true, show idx (Ho t).2.2.2.2.1 (k : Int) = some (t.2.2.2.2[k]) from Yh hlt, Option.bind_some, lTok _ _ _ _ _ _ (by show t.2.2.2.2.length ≤ _; omega), Option.bind_some, show tokL (Ho t).2.2.2.2.1 (t.2.2.2.2[k]).1 = _ from tok_at h hlt]
    simp only [Bool.not_true, cond_false, Option.bind_some, beq_self_eq_true, Bool.and_self]
    rw [show (k : Int) + 1 = ((k + 1 : Nat) : Int) by omega, Nl (by omega)]
    exact ih (k + 1) f (by omega) (by omega) (by omega)
theorem Hp (w g i e : Int) (l : List Qf) (nm : Str) (hl : l.length ≤ 3000) (hq : ∀ t ∈ l, TenQ t) (hts : ∀ t ∈ l, B2 t = true) (hris : Rq (l.map (·.1)) = true) : ∀ (d k f : Nat), d = l.length - k → k ≤ l.length → d < f →
    Qi w g i e l nm true f ((l.take k).any fun x => x.1 == nm) (k : Int) = some true := by
  intro d
  induction d with
  | zero =>
    intro k f hd hk hf
    obtain ⟨f, rfl⟩ : ∃ g, f = g + 1 := ⟨f - 1, by omega⟩
    show Vp (Qi w g i e l nm true f) w g i e l nm true ((l.take k).any fun x => x.1 == nm) (k : Int) = _
    unfold Vp Vk
    rw [decide_eq_false (show ¬ ((k : Int) < ((l.length : Nat) : Int)) by omega), cond_false, lFind _ _ _ _ _ _ (by omega), Option.bind_some, cond_true, List.take_of_length_le (by omega)]
    cases ha : l.any fun x => x.1 == nm with
    | false =>
      unfold Hd
      rw [pl_none ha]
      show cond true (cond false _ _) _ = _
      rw [cond_true, cond_false, rSameT _ _ _ _ _ (by simp) (by simp)]
      rfl
    | true =>
      unfold Hd
      cases hp : pl l nm with
      | none =>
        unfold pl at hp
        rw [List.findIdx?_eq_none_iff] at hp
        rw [List.any_eq_true] at ha
        obtain ⟨x, hx, hx2⟩ := ha
        rw [hp x hx] at hx2
        cases hx2
      | some k => rfl
  | succ d ih =>
    intro k f hd hk hf
    obtain ⟨f, rfl⟩ : ∃ g, f = g + 1 := ⟨f - 1, by omega⟩
    have hlt : k < l.length := by omega
    have hm := List.getElem_mem hlt
    obtain ⟨q1, q2, q3, _⟩ := hq _ hm
    have hto := (tenOk_iff _).1 (hts _ hm)
    show Vp (Qi w g i e l nm true f) w g i e l nm true ((l.take k).any fun x => x.1 == nm) (k : Int) = _
    unfold Vp
    have hnext : ∀ th : Bool, Vw (Qi w g i e l nm true f) (k : Int) (Ho l[k]) th = Qi w g i e l nm true f th ((k + 1 : Nat) : Int) := by
      intro th
      unfold Vw
      have := ftok_loop (Qi w g i e l nm true f) (k : Int) l[k] th hto.2.2.2.2.2.2.2 (by have := hto.2.2.2.2.1; omega) l[k].2.2.2.2.length 0 Xn (by omega) (by omega) (by have := hto.2.2.2.2.1; unfold Xn; omega)
      rw [show ((0 : Nat) : Int) = 0 from rfl] at this
      rw [this, show (k : Int) + 1 = ((k + 1 : Nat) : Int) by omega, Nl (by omega)]
    have hk17 : Vx (Qi w g i e l nm true f) l nm ((l.take k).any fun x => x.1 == nm) (k : Int) (Ho l[k]) false = some true := by
      unfold Vx
      have hih := ih (k + 1) f (by omega) (by omega) (by omega)
      rw [List.take_succ_eq_append_getElem hlt, List.any_append] at hih
      rw [cond_false, hnext, Yh hlt, Option.bind_some, hnext]
      cases ha : (l.take k).any fun x => x.1 == nm with
      | true =>
        rw [ha, Bool.true_or] at hih
        exact hih
      | false =>
        rw [ha, Bool.false_or] at hih
        rw [cond_false]
        simpa using hih
    rw [decide_eq_true (show (k : Int) < ((l.length : Nat) : Int) by omega), cond_true, Yh hlt, Option.bind_some, lFind _ _ _ _ _ _ (by omega), Option.bind_some, find_at hris hlt, Option.bind_some]
    show cond (!true) _ ((V0 l[k].1 l[k].2.1 l[k].2.2.1 l[k].2.2.2.1 l[k].2.2.2.2 l[k].1 l[k].2.1 l[k].2.2.1 l[k].2.2.2.1 l[k].2.2.2.2).bind _) = _
    rw [Bool.not_true, cond_false, rSameT _ _ _ _ _ q2 q3, Option.bind_some, Bool.not_true, hk17]
theorem Du (w g i e : Int) (l : List Qf) (nm : Str) (hl : l.length ≤ 140737488355328) (hq : ∀ t ∈ l, TenQ t) : Z0 w g i e l nm = some true := by
  obtain ⟨b, hb, hb2⟩ := cfg_great w g i e l hl hq
  have k1 : Vq w g i e l nm true true = some true := rfl
  unfold Z0
  rw [cfgHead, Option.bind_some, hb, Option.bind_some]
  cases b with
  | true => rw [cond_true, k1]
  | false =>
    obtain ⟨h3, _⟩ := hb2 rfl
    rw [cond_false, lCfg w g i e l hl hq, Option.bind_some]
    cases ho : cfgOk w g i e l with
    | false => rw [Bool.not_false, cond_true, k1]
    | true =>
      obtain ⟨_, h8, hts, hris⟩ := (okC_iff (w, g, i, e, l)).1 ho
      rw [Bool.not_true, cond_false]
      cases decide (((List.length nm : Nat) : Int) > 1000) with
      | true => rw [k1]
      | false =>
        unfold Vq
        rw [cond_false]
        exact Hp w g i e l nm h3 hq hts hris l.length 0 Xn (by omega) (by omega) (by unfold Xn; omega)
end Go.Proofs.YtoflbpmbkmephaaGreatDoor
namespace Go.Proofs.YtoflbpmbkmephaaGreatDoor
open Go.RowKit Go.ChangeShapes Go.WideShapes Go.Deep
theorem own : ownKnob Tryz.prog.godebug = none := by kernel_rfl
theorem laidOut : laidOutB Tryz.prog = true := by kernel_rfl
section
variable {H : Type} {enc : TypeId × Value → H} {W : World} {spare : Nat → Bool} {held : Bool} {base b0 : Nat} {r : Reach}
end
end Go.Proofs.YtoflbpmbkmephaaGreatDoor
namespace Go.Proofs.YtoflbpmbkmephaaGreatDoor
open Go.RowKit Go.ChangeShapes Go.WideShapes Go.Deep
section
variable {H : Type} {enc : TypeId × Value → H} {P : Program} {W : World}
def Rds (enc : TypeId × Value → H) (P : Program) (W : World) (t : TypeId) {α : Type} (e : Enc α) (Q : Nat → α → Prop) : Prop :=
  ∀ (Xn : Nat) (cs : List Value) (x : DataW H × List MemPlace), DataW.trod enc P W 0 (fun _ => true) true Xn t cs = some x → ∃ a, cs = e.enc a ∧ ∀ r, (x.1.weights P t).all (· ≤ r) = true → Q r a
def RdsFs (enc : TypeId × Value → H) (P : Program) (W : World) (o : Nat) (fs : List (TypeId × Nat)) {α : Type} (e : Enc α) (Q : Nat → α → Prop) : Prop :=
  ∀ (Xn : Nat) (cs : List Value) (xs : List (DataW H × List MemPlace)), xs.length = fs.length → (∀ (i : Nat) f, fs[i]? = some f → DataW.trod enc P W 0 (fun _ => true) true Xn f.1 ((cs.drop f.2).take (P.cellsOf f.1)) = xs[i]?) →
    ∃ a, (cs.drop o).take e.sz = e.enc a ∧ ∀ r, (DataW.weightsEach P (fs.map (·.1)) (xs.map (·.1))).all (· ≤ r) = true → Q r a
theorem Gk {t : TypeId} {k : IntKind} (ht : P.underlying t = some (.int k)) : Rds enc P W t (Qx k) (fun _ n => (Lit.int k n).wf = true) := by
  intro Xn cs x h
  obtain ⟨n, rfl, rfl, hw⟩ := DataW.trod_int ht h
  exact ⟨n, rfl, fun _ _ => hw⟩
theorem Fo {t : TypeId} (ht : P.underlying t = some .string) : Rds enc P W t Qn (fun r s => s.length ≤ r) := by
  intro Xn cs x h
  obtain ⟨s, rfl, rfl, hs⟩ := DataW.trod_string ht h
  refine ⟨s.data.toList, rfl, fun r hr => ?_⟩
  simpa [DataW.weights] using hr
theorem Fz {t : TypeId} {o : Nat} {α : Type} {e : Enc α} {Q : Nat → α → Prop} (h : Rds enc P W t e Q) (hc : P.cellsOf t = e.sz) : RdsFs enc P W o [(t, o)] e Q := by
  intro Xn cs xs hl hf
  match xs, hl with
  | [x], _ =>
    have := hf 0 (t, o) rfl
    obtain ⟨a, ha, hq⟩ := h Xn _ _ this
    rw [hc] at ha
    refine ⟨a, ha, fun r hr => hq r ?_⟩
    simpa [DataW.weightsEach] using hr
theorem Nb {t : TypeId} {o : Nat} {fs : List (TypeId × Nat)} {α β : Type} {e : Enc α} {e' : Enc β} {Q : Nat → α → Prop} {Q' : Nat → β → Prop} (h : Rds enc P W t e Q) (hc : P.cellsOf t = e.sz) (hr : RdsFs enc P W (o + e.sz) fs e' Q') :
    RdsFs enc P W o ((t, o) :: fs) (Qd e e') (fun r a => Q r a.1 ∧ Q' r a.2) := by
  intro Xn cs xs hl hf
  match xs, hl with
  | x :: xs, hl =>
    have := hf 0 (t, o) rfl
    obtain ⟨a, ha, hq⟩ := h Xn _ _ this
    obtain ⟨b, hb, hq'⟩ := hr Xn cs xs (by simpa using hl) (fun i f hi => by have := hf (i + 1) f (by simpa using hi); simpa using this)
    refine ⟨(a, b), ?_, fun r hw => ?_⟩
    · show (cs.drop o).take (e.sz + e'.sz) = e.enc a ++ e'.enc b
      rw [hc] at ha
      rw [← ha, ← hb, List.take_add, List.drop_drop]
    · simp only [List.map_cons, DataW.weightsEach, List.all_append, Bool.and_eq_true] at hw
      exact ⟨hq r hw.1, hq' r hw.2⟩
theorem Re {t : TypeId} {l : List (TypeId × Nat)} {α : Type} {e : Enc α} {Q : Nat → α → Prop} (hl : (match P.underlying t with | some (.struct fs) => some (fs.toList.map (fun f => (f.type, f.offset))) | _ => none) = some l) (hc : P.cellsOf t = e.sz)
    (hr : RdsFs enc P W 0 l e Q) : Rds enc P W t e Q := by
  intro Xn cs x hx
  split at hl
  · rename_i fs hs
    simp only [Option.some.injEq] at hl
    subst hl
    obtain ⟨xs, n, _, rfl, hlen, hxs, hg⟩ := DataW.trod_struct hs hx
    obtain ⟨a, ha, hq⟩ := hr n cs xs (by simpa using hxs) (fun i f hi => by
      rw [List.getElem?_map, Option.map_eq_some_iff] at hi
      obtain ⟨f', hf', rfl⟩ := hi
      exact hg i f' (by simpa using hf'))
    rw [List.drop_zero, List.take_of_length_le (by omega)] at ha
    refine ⟨a, ha, fun r hw => hq r ?_⟩
    simp only [DataW.weights, hs] at hw
    simpa [List.map_map, Function.comp_def] using hw
  · cases hl
theorem Rs {t : TypeId} {n : Nat} : ∀ {ds : List (DataW H)} {d : DataW H}, d ∈ ds → n ∈ d.weights P t → n ∈ DataW.weightsAll P t ds
  | d0 :: ds, d, hd, hn => by
    simp only [DataW.weightsAll, List.mem_append]
    rcases List.mem_cons.1 hd with rfl | h
    · exact .inl hn
    · exact .inr (Rs h hn)
theorem rds_row {t te : TypeId} {α : Type} {e : Enc α} {Q : Nat → α → Prop} (ht : P.underlying t = some (.slice te)) (h : Rds enc P W te e Q) (hc : P.cellsOf te = e.sz) (h0 : 0 < e.sz) {Xn : Nat} {cs : List Value} {x : DataW H × List MemPlace}
    (hx : DataW.trod enc P W 0 (fun _ => true) true Xn t cs = some x) :
    ∃ (A : Option Addr) (c : Nat) (l : List α), cs = [.slice A l.length c] ∧ RdT e W A c l ∧ ∀ r, (x.1.weights P t).all (· ≤ r) = true → l.length * P.bytesOf te ≤ r ∧ ∀ a ∈ l, Q r a := by
  rcases DataW.trod_slice ht hx with ⟨rfl, rfl⟩ | ⟨a, len, cap, elems, rest, n, _, rfl, rfl, _, hl, hm, hlen, hel, _, _⟩
  · exact ⟨none, 0, [], rfl, RdT.nil _ W, fun r _ => ⟨by simp, fun a ha => by cases ha⟩⟩
  · have each : ∀ i, i ≤ len → ∃ l : List α, l.length = i ∧ ∀ j (hj : j < l.length), W.cells? 0 (a.add (j * P.cellsOf te)) (P.cellsOf te) = some (e.enc l[j]) ∧ ∀ y, elems[j]? = some y → ∀ r, (y.1.weights P te).all (· ≤ r) = true → Q r l[j] := by
      intro i
      induction i with
      | zero => exact fun _ => ⟨[], rfl, fun j hj => by simp at hj⟩
      | succ i ih =>
        intro hi
        obtain ⟨l, hll, hlg⟩ := ih (by omega)
        have := hel i (by omega)
        rw [List.getElem?_eq_getElem (by omega), Option.bind_eq_some_iff] at this
        obtain ⟨cs', h1, h2⟩ := this
        obtain ⟨b, rfl, hb⟩ := h n cs' _ h2
        refine ⟨l ++ [b], by simp [hll], fun j hj => ?_⟩
        by_cases hji : j < l.length
        · rw [List.getElem_append_left hji]
          exact hlg j hji
        · obtain rfl : j = i := by simp at hj; omega
          subst hll
          rw [List.getElem_concat_length rfl]
          refine ⟨h1, fun y hy => ?_⟩
          rw [List.getElem?_eq_getElem (by omega), Option.some.injEq] at hy
          subst hy
          exact hb
    obtain ⟨l, hll, hlg⟩ := each len (Nat.le_refl _)
    subst hll
    refine ⟨some a, cap, l, rfl, ⟨by rw [Za], hl, hm, fun hn => ?_⟩, fun r hw => ?_⟩
    · have cell : ∀ j (hj : j < l.length) k, k < e.sz → W.cell? ((a.add (j * e.sz)).add k) = (e.enc l[j])[k]? := by
        intro j hj k hk
        have := (hlg j hj).1
        rw [hc] at this
        exact (World.cells?_some this).2.2 k hk
      have c0 := cell 0 hn 0 h0
      rw [Nat.zero_mul, List.getElem?_eq_getElem (by rw [e.len]; exact h0)] at c0
      obtain ⟨b, off, spot⟩ := a
      obtain rfl : spot = none := by simpa [Addr.add] using World.cell?_spot c0
      have hadd : ∀ i j : Nat, ((⟨b, off, none⟩ : Addr).add i).add j = ⟨b, off + (i + j), none⟩ := by
        intro i j
        unfold Addr.add
        by_cases hi : i = 0 <;> by_cases hj : j = 0 <;> simp [hi, hj, Nat.add_assoc]
      rw [hadd] at c0
      refine ⟨b, off, rfl, block_lt_of_cell c0, fun j u hu => ?_⟩
      have hlen2 := (List.getElem?_eq_some_iff.1 hu).1
      rw [Za] at hlen2
      have hq : j / e.sz < l.length := Nat.div_lt_of_lt_mul (by rw [Nat.mul_comm]; exact hlen2)
      have hk : j % e.sz < e.sz := Nat.mod_lt _ h0
      have hj : j = j / e.sz * e.sz + j % e.sz := by rw [Nat.mul_comm]; exact (Nat.div_add_mod j e.sz).symm
      have hce := cell (j / e.sz) hq (j % e.sz) hk
      rw [hadd, ← hj] at hce
      rw [hce]
      have hgt := Uy e (l := l) (i := j / e.sz) (x := l[j / e.sz]) (List.getElem?_eq_getElem hq) (j := j % e.sz) (u := (e.enc l[j / e.sz])[j % e.sz]'(by rw [e.len]; exact hk)) (List.getElem?_eq_getElem _)
      rw [← hj, hu] at hgt
      rw [List.getElem?_eq_getElem (by rw [e.len]; exact hk), ← hgt]
    · simp only [DataW.weights, ht, List.all_cons, Bool.and_eq_true, decide_eq_true_eq, List.all_append] at hw
      refine ⟨Nat.le_trans (Nat.mul_le_mul_right _ (by simp; omega)) hw.1, fun b hb => ?_⟩
      obtain ⟨j, hj, rfl⟩ := List.mem_iff_getElem.1 hb
      refine (hlg j hj).2 _ (List.getElem?_eq_getElem (by omega)) r ?_
      rw [List.all_eq_true] at hw ⊢
      intro m hm'
      exact hw.2.1 m (Rs (List.mem_map.2 ⟨_, List.getElem_mem (by omega), rfl⟩) hm')
variable {r0 : Reach} {b0 : Nat}
theorem open_agg {t : TypeId} {fs : Array Field} {α : Type} {e : Enc α} {Q : Nat → α → Prop} (hs : P.underlying t = some (.struct fs)) (h : Rds enc P W t e Q) {v : Value} {d : DataW H} {p : List MemPlace} (hv : Value.okWide P W r0 b0 t v)
    (hd : DataW.Trod enc P W 0 (fun _ => true) true t v d p) (hr : ∀ n ∈ d.weights P t, n ≤ reachBytes) : ∃ a, v = .agg ⟨e.enc a⟩ ∧ Q reachBytes a := by
  obtain ⟨cs, rfl, hsz⟩ := okWide_struct hs hv
  obtain ⟨Xn, hf⟩ := hd
  obtain ⟨a, ha, hq⟩ := h Xn _ _ hf
  refine ⟨a, ?_, hq _ (by rw [List.all_eq_true]; intro n hn; exact decide_eq_true (hr n hn))⟩
  simp only [Value.cells] at ha
  rw [← ha]
end
end Go.Proofs.YtoflbpmbkmephaaGreatDoor
namespace Go.Proofs.YtoflbpmbkmephaaGreatDoor
theorem reachM : reachBytes ≤ 140737488355328 := by decide
section
variable {H : Type} {enc : TypeId × Value → H} {P : Program} {W : World}
theorem rds_ds {t te : TypeId} {α : Type} {e : Enc α} {Q : Nat → α → Prop} (p : Dp α) (ht : P.underlying t = some (.slice te)) (h : Rds enc P W te e Q) (hc : P.cellsOf te = e.sz) (h0 : 0 < e.sz) (hb : Nat.ble 1 (P.bytesOf te) = true) (hp : ∀ r a, Q r a → p.ok W a) :
    Rds enc P W t (eDS e) (fun r x => (dDS e p).ok W x ∧ x.2.2.length ≤ r ∧ ∀ a ∈ x.2.2, Q r a) := by
  intro Xn cs x hx
  obtain ⟨A, c, l, rfl, hr, hq⟩ := rds_row ht h hc h0 hx
  refine ⟨(A, c, l), rfl, fun r hw => ?_⟩
  obtain ⟨h1, h2⟩ := hq r hw
  exact ⟨⟨hr, fun y hy => hp r y (h2 y hy)⟩, Nat.le_trans (Nat.le_mul_of_pos_right _ (Nat.le_of_ble_eq_true hb)) h1, h2⟩
def NetQ (r : Nat) (n : Int × Int) : Prop := (Lit.int .u32 n.1).wf = true ∧ (Lit.int .i64 n.2).wf = true
def TokQ (r : Nat) (x : List UInt8 × List UInt8 × Int) : Prop := x.1.length ≤ r ∧ x.2.1.length ≤ r ∧ (Lit.int .i64 x.2.2).wf = true
def TenDQ (W : World) (r : Nat) (y : Qw) : Prop := y.1.length ≤ r ∧ (Lit.int .i64 y.2.1).wf = true ∧ (Lit.int .i64 y.2.2.1).wf = true ∧
  ((dDS eNet dT).ok W y.2.2.2.1 ∧ y.2.2.2.1.2.2.length ≤ r ∧ ∀ n ∈ y.2.2.2.1.2.2, NetQ r n) ∧ ((dDS eTok dT).ok W y.2.2.2.2 ∧ y.2.2.2.2.2.2.length ≤ r ∧ ∀ x ∈ y.2.2.2.2.2.2, TokQ r x)
def CfgQ (W : World) (r : Nat) (c : Int × Int × Int × Int × DS Qw) : Prop := (Lit.int .i64 c.1).wf = true ∧ (Lit.int .i64 c.2.1).wf = true ∧ (Lit.int .i64 c.2.2.1).wf = true ∧ (Lit.int .i64 c.2.2.2.1).wf = true ∧
  ((dDS V9 Eu).ok W c.2.2.2.2 ∧ c.2.2.2.2.2.2.length ≤ r ∧ ∀ y ∈ c.2.2.2.2.2.2, TenDQ W r y)
theorem net_rds : Rds enc Tryz.prog W 102 eNet NetQ :=
  Re (l := [(50, 0), (3, 1)]) (by kernel_rfl) (by kernel_rfl) (Nb (Gk Tryz.underlying50) (by kernel_rfl) (Fz (Gk Tryz.underlying3) (by kernel_rfl)))
theorem tok_rds : Rds enc Tryz.prog W 37 eTok TokQ :=
  Re (l := [(9, 0), (9, 1), (2, 2)]) (by kernel_rfl) (by kernel_rfl) (Nb (Fo Tryz.underlying9) (by kernel_rfl) (Nb (Fo Tryz.underlying9) (by kernel_rfl) (Fz (Gk Tryz.underlying2) (by kernel_rfl))))
theorem ten_rds : Rds enc Tryz.prog W 33 V9 (TenDQ W) :=
  Re (l := [(9, 0), (3, 1), (3, 2), (30, 3), (31, 4)]) (by kernel_rfl) (by kernel_rfl)
    (Nb (Fo Tryz.underlying9) (by kernel_rfl) (Nb (Gk Tryz.underlying3) (by kernel_rfl) (Nb (Gk Tryz.underlying3) (by kernel_rfl)
      (Nb (rds_ds dT Tryz.underlying30 net_rds (by kernel_rfl) (by decide) (by kernel_rfl) (fun _ _ _ => trivial)) (by kernel_rfl) (Fz (rds_ds dT Tryz.underlying31 tok_rds (by kernel_rfl) (by decide) (by kernel_rfl) (fun _ _ _ => trivial)) (by kernel_rfl))))))
theorem cfg_rds : Rds enc Tryz.prog W 24 (Qd (Qx .i64) (Qd (Qx .i64) (Qd (Qx .i64) (Qd (Qx .i64) (eDS V9))))) (CfgQ W) :=
  Re (l := [(2, 0), (2, 1), (2, 2), (2, 3), (22, 4)]) (by kernel_rfl) (by kernel_rfl)
    (Nb (Gk Tryz.underlying2) (by kernel_rfl) (Nb (Gk Tryz.underlying2) (by kernel_rfl) (Nb (Gk Tryz.underlying2) (by kernel_rfl) (Nb (Gk Tryz.underlying2) (by kernel_rfl)
      (Fz (rds_ds Eu Tryz.underlying22 ten_rds (by kernel_rfl) (by decide) (by kernel_rfl) (fun _ _ h => ⟨trivial, trivial, trivial, h.2.2.2.1.1, h.2.2.2.2.1⟩)) (by kernel_rfl))))))
theorem open_cfg {r0 : Reach} {b0 : Nat} {v : Value} {d : DataW H} {p : List MemPlace} (hv : Value.okWide Tryz.prog W r0 b0 24 v) (hd : DataW.Trod enc Tryz.prog W 0 (fun _ => true) true 24 v d p) (hr : ∀ n ∈ d.weights Tryz.prog 24, n ≤ reachBytes) :
    ∃ (a b c e : Int) (A : Option Addr) (k : Nat) (l : List Qw), v = .agg #[.int .i64 a, .int .i64 b, .int .i64 c, .int .i64 e, .slice A (List.length (List.map stT l)) k] ∧ CfgQ W reachBytes (a, b, c, e, A, k, l) := by
  obtain ⟨⟨a, b, c, e, A, k, l⟩, rfl, q⟩ := open_agg Tryz.underlying24 cfg_rds hv hd hr
  refine ⟨a, b, c, e, A, k, l, ?_, q⟩
  rw [List.length_map]
  rfl
theorem cfg_q {W : World} {a b c d : Int} {A : Option Addr} {k : Nat} {x : List Qw} (h : CfgQ W reachBytes (a, b, c, d, A, k, x)) : (List.map stT x).length ≤ 140737488355328 ∧ ∀ t ∈ List.map stT x, TenQ t := by
  have hM := reachM
  obtain ⟨_, _, _, _, _, h1, h2⟩ := h
  refine ⟨by rw [List.length_map]; exact Nat.le_trans h1 hM, fun t ht => ?_⟩
  obtain ⟨y, hy, rfl⟩ := List.mem_map.1 ht
  obtain ⟨q1, q2, q3, ⟨_, q4, q5⟩, _, q6, q7⟩ := h2 y hy
  refine ⟨Nat.le_trans q1 hM, Nat.le_trans q4 hM, Nat.le_trans q6 hM, fun n hn => ?_, fun z hz => ⟨Nat.le_trans (q7 z hz).1 hM, Nat.le_trans (q7 z hz).2.1 hM⟩⟩
  have := (q5 n hn).1
  simp [Lit.wf, IntKind.min, IntKind.max, IntKind.signed, IntKind.bits] at this
  omega
end
end Go.Proofs.YtoflbpmbkmephaaGreatDoor
namespace Go.Proofs.YtoflbpmbkmephaaGreatDoor
open Go.RowKit
abbrev F0 : List (String × DataW Unit) := [("math/bits.deBruijn32tab", Rows.laid_math_bits_deBruijn32tab), ("math/bits.deBruijn64tab", Rows.laid_math_bits_deBruijn64tab), ("internal/strconv.uint64pow10", Rows.laid_internal_strconv_uint64pow10)
  , ("unicode/utf8.acceptRanges", Rows.laid_unicode_utf8_acceptRanges), ("unicode/utf8.first", Rows.laid_unicode_utf8_first)
  ]
theorem gTab : Tryz.prog.globalNamed Gy = some 1 := by kernel_rfl
theorem gTabType : (Tryz.prog.globals[1]?).map (·.type) = some 209 := by kernel_rfl
theorem cellsTab : Tryz.prog.cellsOf 209 = 20 := by kernel_rfl
theorem cellsU64 : Tryz.prog.cellsOf 196 = 1 := by kernel_rfl
theorem laid_of {W : World} (h : laidMetH Tryz.prog F0 W) : Ur W := by
  have h1 := h.filter (fun x => x.1 == Gy)
  have e : F0.filter (fun x => x.1 == Gy) = [(Gy, Lib.tabData .u64 Lib.pow10Tab)] := by kernel_rfl
  rw [e] at h1
  have ht : Lib.TabIs Tryz.prog W Gy .u64 Lib.pow10Tab := Lib.tabIs_of_head (rest := []) gTab gTabType Tryz.underlying209 Tryz.underlying196 cellsU64 cellsTab h1
  refine ⟨ht, fun g hg => ?_⟩
  obtain rfl := Option.some.inj (gTab.symm.trans hg)
  have := ht.cell gTab 0 (by decide)
  exact block_lt_of_cell this
def cells1 : DataW Unit → List Value
  | .lit (.int k z) => [.int k z]
  | .lit (.bool b) => [.bool b]
  | _ => []
def cells2 : DataW Unit → List Value
  | .agg l => l.flatMap cells1
  | d => cells1 d
def cells3 : DataW Unit → List Value
  | .agg l => l.flatMap cells2
  | d => cells2 d
def Dh (d : DataW Unit) : Obj → Obj
  | .cells _ t frozen => .cells (cells3 d).toArray t frozen
  | o => o
noncomputable def Bx (os : Os) : World :=
  { World.holding Tryz.prog os ⟨#[], #[], []⟩ with heap := ((((World.holding Tryz.prog os ⟨#[], #[], []⟩).heap.modify 4 (Dh Rows.laid_math_bits_deBruijn32tab)).modify 5 (Dh Rows.laid_math_bits_deBruijn64tab)).modify 1 (Dh Rows.laid_internal_strconv_uint64pow10)
    |>.modify 3 (Dh Rows.laid_unicode_utf8_acceptRanges) |>.modify 2 (Dh Rows.laid_unicode_utf8_first)
    ) }
end Go.Proofs.YtoflbpmbkmephaaGreatDoor
namespace Go.Proofs.YtoflbpmbkmephaaGreatDoor
open Go.ChangeShapes Go.WideShapes Go.ChangeAt Go.RowKit
open Go.ChangeMaps (open_string shut_string)
theorem Rm (H : Type) (enc : TypeId × Value → H) (W : World) (base : Nat) (args : Array Value) (ds gs : List (DataW H)) (before : List MemPlace) (vt : List TypeId)
    (hval : ∀ (j : Nat) t v, Tryz.f7.params[j]? = some t → args[j]? = some v → Value.okWide Tryz.prog W .any base t v)
    (hW : DataW.Whole enc Tryz.prog Tryz.f7.params.toList Rows.configFindsSpec.vars false W args.toList ds gs before) (hL : laidMetH Tryz.prog Rows.configFindsRow.laid W)
    (hZ : (DataW.weightsEach Tryz.prog (Tryz.f7.params.toList ++ vt) (ds ++ gs)).all (· ≤ reachBytes) = true) :
    Calls Tryz.prog 7 args W fun e W' => ∃ v, e = .returned v ∧ Rows.configFindsSpec.post enc Tryz.prog Tryz.f7 false true false false W args v W' := by
  have hW' := hW
  obtain ⟨p, q, hA0, hV, rfl, hfz, hnd⟩ := hW
  have hA : DataW.TrodAll enc Tryz.prog W 0 (fun _ => true) true Tryz.f7.params.toList args.toList ds p := hA0
  rw [Tryz.params7] at hA hval hZ
  obtain ⟨v0, vs0, d0, ds0, p0, q0, hargs, rfl, rfl, h0, r0⟩ := trodAll_cons hA
  obtain ⟨v1, vs1, d1, ds1, p1, q1, rfl, rfl, rfl, h1, r1⟩ := trodAll_cons r0
  obtain ⟨rfl, rfl, rfl⟩ := trodAll_nil r1
  obtain rfl : args = #[v0, v1] := by cases args; simp_all
  obtain ⟨rfl, rfl⟩ := trodVars_none hV
  have wz : ∀ (j : Nat) t d, _ → _ → ∀ n ∈ DataW.weights Tryz.prog t d, n ≤ reachBytes := fun j t d ht hd n hn => of_decide_eq_true (List.all_eq_true.1 hZ n (DataW.weights_mem_each (j := j) ht hd n hn))
  have k0 := h0
  have lt0 : ∀ x ∈ p0, x.block < W.heap.size := by obtain ⟨m, hm⟩ := k0; exact DataW.trod_lt m _ _ _ hm
  have k1 := h1
  have lt1 : ∀ x ∈ p1, x.block < W.heap.size := by obtain ⟨m, hm⟩ := k1; exact DataW.trod_lt m _ _ _ hm
  obtain ⟨a0_0, a0_1, a0_2, a0_3, A0_, c0_, l0_, rfl, q0_⟩ := open_cfg (hval 0 24 v0 rfl rfl) h0 (wz 0 24 d0 rfl rfl)
  obtain ⟨s1_, rfl, ed1_, _, hs1_⟩ := open_string Tryz.underlying9 (hval 1 9 v1 rfl rfl) h1
  have hn1_ : s1_.data.toList.length ≤ reachBytes := (wz 1 9 d1 rfl rfl) _ (by rw [ed1_]; simp [DataW.weights])
  clear hA0
  refine (Ut A0_ c0_ a0_0 a0_1 a0_2 a0_3 l0_ s1_.data.toList W (laid_of hL) q0_.2.2.2.2.1 true (Du _ _ _ _ _ _ (cfg_q q0_).1 (cfg_q q0_).2)).mono fun e W' ⟨he, bel0⟩ => ?_
  have bel := SP.keeps bel0
  subst he
  exact ⟨_, rfl, _, _, _, [], _, [], hW', trodAll_mk1 (shut_bool Tryz.underlying4 _), (trodAll_cons_mk (Below.trod laidOut (by kernel_rfl) (of_decide_eq_true (by kernel_rfl)) k0 bel lt0) (trodAll_cons_mk (Below.trod laidOut (by kernel_rfl) (of_decide_eq_true (by kernel_rfl)) k1 bel lt1) trodAll_mk0)), rfl, bel.frame _, fun h => by cases h⟩
theorem Rn (os : Os) : laidMet Tryz.prog Rows.configFindsRow.laid ((Bx os).forCall (fun _ _ => 0) ⟨#[], #[.agg #[.int .i64 0, .int .i64 0, .int .i64 0, .int .i64 0, .slice none 0 0], .string ⟨#[]⟩], []⟩).memory :=
  laidMet_of_run' 8 (by kernel_rfl) (by kernel_rfl)
theorem Dv (os : Os) {H : Type} (enc : TypeId × Value → H) : ∃ places, DataW.whole enc Tryz.prog ((Bx os).forCall (fun _ _ => 0) ⟨#[], #[.agg #[.int .i64 0, .int .i64 0, .int .i64 0, .int .i64 0, .slice none 0 0], .string ⟨#[]⟩], []⟩).memory Tryz.f7.params.toList Rows.configFindsSpec.vars false [.agg #[.int .i64 0, .int .i64 0, .int .i64 0, .int .i64 0, .slice none 0 0], .string ⟨#[]⟩] 8 = some ([.agg [.lit (.int .i64 0), .lit (.int .i64 0), .lit (.int .i64 0), .lit (.int .i64 0), .nil], .lit (.string [])], [], places) :=
  ⟨[], by kernel_rfl⟩
theorem Di (os : Os) (started : os.Started) (H : Type) (enc : TypeId × Value → H) (F : Stop.Interp) :
    ReturnsInHanded {} Tryz.checked os 7 .any ((OpenSpec.ofChange Rows.configFindsSpec).preRow enc Tryz.prog Tryz.f7 Rows.configFindsRow.domain false Rows.configFindsRow.laid) (((OpenSpec.ofChange Rows.configFindsSpec).at F).post enc Tryz.prog Tryz.f7 false true false false) := by
  obtain ⟨places, hx⟩ := Dv os enc
  refine returnsInHanded_of_row (C := Tryz.checked) (s := OpenSpec.ofChange Rows.configFindsSpec) own started (by kernel_rfl) Tryz.func7
    (witness_row_at (enc := enc) (C := Tryz.checked) false (Bx os) #[.agg #[.int .i64 0, .int .i64 0, .int .i64 0, .int .i64 0, .slice none 0 0], .string ⟨#[]⟩] rfl (by kernel_rfl) (by kernel_rfl) (by kernel_rfl)
      (OpenSpec.preRow_of_cond 8 hx (by kernel_rfl) (fun k hk => by cases hk) (by kernel_rfl) (Rn os))) ?_
  intro W base args ds gs before hval hW _ _ hZ hL _ _
  exact Rm H enc W base args ds gs before _ hval hW hL hZ
theorem Ba : Rows.ConfigFindsSaid :=
  OpenClaim.holds_of_cond 7 Tryz.f7 rfl rfl rfl rfl rfl rfl rfl ⟨rfl, rfl, rfl, rfl, rfl⟩ rfl rfl rfl rfl rfl (by kernel_rfl) Tryz.func7 (by kernel_rfl)
    (of_decide_eq_true (by kernel_rfl)) (by unfold Func.isWrapper; first | (rw [if_pos (by decide +kernel)]; kernel_rfl) | (rw [if_neg (by decide +kernel)]; exact ⟨rfl, rfl⟩))
    (fun os started H enc _ F => by rw [OpenClaim.pre_eq_preRow]; exact Di os started H enc F)
theorem G7 (f : FuncId) (fn : Func) (hf : Tryz.pinned.checked.prog.funcNamed Rows.configFindsRow.func = some f) (hfn : Tryz.pinned.checked.prog.funcs[f]? = some fn) :
    false = Tryz.pinned.checked.prog.looks [] ∧ ∀ (j : Nat) t, fn.params[j]? = some t → Tryz.pinned.checked.prog.wantsStandIn t = false := by
  obtain rfl : f = 7 := Option.some.inj ((show Tryz.prog.funcNamed Rows.configFindsRow.func = some 7 by kernel_rfl).symm.trans hf) |>.symm
  obtain rfl : fn = Tryz.f7 := (Option.some.inj (Tryz.func7.symm.trans hfn)).symm
  refine ⟨by kernel_rfl, fun j t ht => ?_⟩
  have ha : (Tryz.f7.params.toList.all fun t => !Tryz.prog.wantsStandIn t) = true := by kernel_rfl
  rw [List.all_eq_true] at ha
  have := ha t (by rw [← Array.getElem?_toList] at ht; exact List.mem_of_getElem? ht)
  have h2 : Tryz.prog.wantsStandIn t = false := by simpa using this
  exact h2
theorem configFinds_card : Rows.ConfigFindsCardSaid :=
  Claim7.holds_tied_plain_at .later [] _ _ _ _ Ba (fun _ h => by cases h) (by kernel_rfl) (fun _ h => by cases h) configFinds_row_tie rfl ⟨rfl, rfl⟩ (by kernel_rfl) rfl G7 (by kernel_rfl)
#print axioms configFinds_card
end Go.Proofs.YtoflbpmbkmephaaGreatDoor
