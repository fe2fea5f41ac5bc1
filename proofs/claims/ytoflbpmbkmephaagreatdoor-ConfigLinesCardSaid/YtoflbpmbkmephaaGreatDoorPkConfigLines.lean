import Derived.Test.YtoflbpmbkmephaaGreatDoorPkConfigLines3
set_option linter.unusedSimpArgs false
set_option linter.unusedVariables false
set_option linter.unusedSectionVars false
set_option maxRecDepth 100000
set_option maxHeartbeats 40000000
namespace Go.Proofs.YtoflbpmbkmephaaGreatDoor
open Go.RowKit
def Xa (q4 : (List UInt8)) (p7 : (List UInt8)) : Option (Int × (List UInt8)) :=
  ((app q4 p7).bind fun a => (some (((List.length p7 : Nat) : Int), a)))
set_option maxHeartbeats 40000000 in
theorem Jn {S : List Nat} (g1 : Nat) (v2 : Value) (A5 : Option Addr) (c6 : Nat) (q4 : (List UInt8)) (p7 : (List UInt8)) (w0 : World) (hO : SP S w0 w0 [Qw g1 93 #[v2, (.slice A5 (List.length q4) c6)], Q7 5 eU8 A5 c6 q4]) (u : BP g1 v2) (r : (Int × (List UInt8))) (H : Xa q4 p7 = some r) :
  Calls Tryz.prog 57 #[(pt g1 0), (.string ⟨List.toArray p7⟩)] w0 (fun e w' => ∃ (h : Option Addr) (j : Nat), e = .returned (.tuple #[(.int .i64 r.1), .nilIface]) ∧ SP S w0 w' [Qw g1 93 #[(pt g1 0), (.slice h (List.length r.2) j)], Q7 5 eU8 h j r.2]) := by
 unfold Xa at H
 refine Qv (n := 19) Tryz.func57 K K K ?_
 have w := hO
 refine aQ ?_
 refine aR ?_
 refine iR 2 2 [(4, (.int .i64 0)), (5, .nilIface)] ?_
 refine iF ?_
 refine aQ ?_
 refine aR ?_
 refine iR 1 1 [(6, (pt g1 0))] ?_
 refine iS 2 ?_
 refine cF 105 #[(.tmp 6)] #[91] 7 Tryz.call105 (Cg (g := g1) (v := v2) (x := (.slice A5 (List.length q4) c6)) u w (i := 0) rfl) ?_
 rintro e z ⟨rfl, o⟩
 refine ⟨_, rfl, ?_⟩
 have p : SP S w0 z [Qw g1 93 #[(pt g1 0), (.slice A5 (List.length q4) c6)], Q7 5 eU8 A5 c6 q4] := o
 clear o
 refine iF ?_
 refine aQ ?_
 refine aR ?_
 refine iR 4 4 [(8, (pt g1 0)), (9, (pt g1 0)), (10, (pt g1 0)), (11, (pt g1 1))] ?_
 refine iS 5 ?_
 refine sL 48 11 g1 1 0 (.slice A5 (List.length q4) c6) 12 p rfl ?_
 refine iR 1 6 [(13, (.string ⟨List.toArray p7⟩))] ?_
 obtain ⟨hl26, H⟩ := Uf H
 obtain ⟨q, hyl27⟩ : ∃ y, q4 ++ p7 = y := ⟨_, rfl⟩
 try rw [hyl27] at H
 refine iS 7 ?_
 refine Qi.append (e := eU8) (l := q4) (m := p7) (A := A5) (c := c6) (T := 48) (TX := 9) (E := 5) (b := 1) (s := (.tmp 12)) (x := (.tmp 13)) (i := 1) (vx := (.string ⟨List.toArray p7⟩)) (d := (some 14)) (k := 6) K rfl K K K K rfl p rfl (src_str K p7) hl26 ?_
 rw [hyl27]
 intro a f a2 a0
 refine iR 2 9 [(15, (pt g1 0)), (16, (pt g1 1))] ?_
 refine iS 10 ?_
 refine Qi.store (t := 48) (x := (.tmp 16)) (y := (.tmp 14)) (g := g1) (off := 1) (i := 0) (v := (.slice a (List.length q) f)) (cs' := #[(pt g1 0), (.slice a (List.length q) f)]) (d := none) (k := 9) K rfl K K a0 rfl K ?_
 intro a3 a1
 refine iF ?_
 refine aQ ?_
 refine aR ?_
 refine iR 4 4 [(17, (.string ⟨List.toArray p7⟩)), (18, (.int .i64 ((List.length p7 : Nat) : Int))), (4, (.int .i64 ((List.length p7 : Nat) : Int))), (5, .nilIface)] ?_
 refine iF ?_
 refine At.ret K ?_
 refine ⟨(.tuple #[(.int .i64 ((List.length p7 : Nat) : Int)), .nilIface]), K, ?_⟩
 obtain rfl := Qf H
 exact ⟨a, f, rfl, SP.sel a1 [0,1] rfl rfl⟩
def Xu (p1 : (List (List UInt8))) (q8 : (List UInt8)) : Option ((List UInt8)) :=
  ((Jb p1 ([32] : List UInt8)).bind fun a => ((app a ([10] : List UInt8)).bind fun b => ((Xa q8 b).bind fun c => (some (c.2)))))
set_option maxHeartbeats 40000000 in
theorem X3 {S : List Nat} (A2 : Option Addr) (c3 : Nat) (g5 : Nat) (v6 : Value) (A9 : Option Addr) (c : Nat) (p1 : (List (List UInt8))) (q8 : (List UInt8)) (w0 : World) (hO : SP S w0 w0 [Qw g5 93 #[v6, (.slice A9 (List.length q8) c)], Q7 5 eU8 A9 c q8]) (s : ∀ w, Mod S w0 w → RdT Qo w A2 c3 p1) (t : BP g5 v6) (r : ((List UInt8))) (H : Xu p1 q8 = some r) :
  Calls Tryz.prog 56 #[(.slice A2 (List.length p1) c3), (pt g5 0)] w0 (fun e w' => ∃ (j : Option Addr) (l : Nat), e = .returned (.tuple #[]) ∧ SP S w0 w' [Qw g5 93 #[(pt g5 0), (.slice j (List.length r) l)], Q7 5 eU8 j l r]) := by
 unfold Xu at H
 refine Qv (n := 7) Tryz.func56 K K K ?_
 have m := hO
 refine aR ?_
 refine iR 1 1 [(3, (.slice A2 (List.length p1) c3))] ?_
 obtain ⟨f, u, H⟩ := Qc H
 refine iS 2 ?_
 refine cF 58 #[(.tmp 3), (.const (.string ⟨List.toArray ([32] : List UInt8)⟩))] #[79, 9] 4 Tryz.call58 (Uw A2 c3 p1 ([32] : List UInt8) w0 (s w0 (SP.mod m)) f u) ?_
 rintro e v ⟨rfl, o⟩
 refine ⟨_, rfl, ?_⟩
 have p := SP.call m o
 clear o
 obtain ⟨hl36, H⟩ := Uf H
 obtain ⟨z, hyl35⟩ : ∃ y, f ++ ([10] : List UInt8) = y := ⟨_, rfl⟩
 rw [hyl35] at H
 refine iS 3 ?_
 refine N1 (T := 9) (T' := 9) (x := (.tmp 4)) (y := (.const (.string ⟨List.toArray ([10] : List UInt8)⟩))) (a := f) (b := ([10] : List UInt8)) (d := (some 5)) (k := 2) K rfl K K hl36 ?_
 rw [hyl35]
 obtain ⟨g, a0, H⟩ := Qc H
 refine iS 4 ?_
 refine cF 57 #[(.tmp 1), (.tmp 5)] #[93, 9] 6 Tryz.call57 (Jn g5 v6 A9 c q8 z v (Y2 p [0, 1] rfl rfl) t g a0) ?_
 rintro e a1 ⟨h, i, rfl, q⟩
 refine ⟨_, rfl, ?_⟩
 have a2 : SP S w0 a1 [Qw g5 93 #[(pt g5 0), (.slice h (List.length g.2) i)], Q7 5 eU8 h i g.2] := Zm p [0, 1] [] rfl rfl q rfl
 clear q
 refine iF ?_
 refine ⟨(.tuple #[]), K, ?_⟩
 obtain rfl := Qf H
 exact ⟨h, i, rfl, SP.sel a2 [0,1] rfl rfl⟩
def J1 (e : (List UInt8) → Int → Option ((List UInt8))) (k : (List UInt8) → Int → Option ((List UInt8))) (f : (List UInt8) → Int → Option ((List UInt8))) (g : Int) (c : Qe) (d : (List UInt8)) (b : Int) : Option ((List UInt8)) :=
  (cond (decide (b < ((List.length c.2.2.2.2 : Nat) : Int))) ((idx c.2.2.2.2 b).bind fun a => ((chk (Nat.ble (List.length a.2.1) 281474976710656)).bind fun _ => ((Gw a.2.1).bind fun h => ((Vx a.2.2).bind fun i => ((Xu ([([116, 111, 107, 101, 110] : List UInt8), a.1, h, i] : List (List UInt8)) d).bind fun j => (f j (IntKind.wrap .i64 (b + 1)))))))) (e d (IntKind.wrap .i64 (g + 1))))
def Yu (a : (List UInt8) → Int → Option ((List UInt8))) (b : (List UInt8) → Int → Option ((List UInt8))) (c : Int) (d : Qe) : Nat → (List UInt8) → Int → Option ((List UInt8))
  | 0, _, _ => none
  | f + 1, e, g => J1 a b (Yu a b c d f) c d e g
def J2 (f : (List UInt8) → Int → Option ((List UInt8))) (c : (List UInt8) → Int → Option ((List UInt8))) (g : Int) (a : Qe) (d : (List UInt8)) (b : Int) : Option ((List UInt8)) :=
  (cond (decide (b < ((List.length a.2.2.2.1 : Nat) : Int))) ((idx a.2.2.2.1 b).bind fun e => ((Ym e.1 e.2).bind fun h => ((Xu ([([110, 101, 116] : List UInt8), h] : List (List UInt8)) d).bind fun i => (c i (IntKind.wrap .i64 (b + 1)))))) (Yu f c g a J5 d 0))
def Zr (a : (List UInt8) → Int → Option ((List UInt8))) (b : Int) (c : Qe) : Nat → (List UInt8) → Int → Option ((List UInt8))
  | 0, _, _ => none
  | f + 1, d, e => J2 a (Zr a b c f) b c d e
def J3 (e : (List UInt8) → Int → Option ((List UInt8))) (c : (List Qe)) (d : (List UInt8)) (b : Int) : Option ((List UInt8)) :=
  (cond (decide (b < ((List.length c : Nat) : Int))) ((idx c b).bind fun a => ((Vx a.2.1).bind fun f => ((Vx a.2.2.1).bind fun g => ((Xu ([([116, 101, 110, 97, 110, 116] : List UInt8), a.1, f, g] : List (List UInt8)) d).bind fun h => (Zr e b a J5 h 0))))) (some (d)))
def Va (a : (List Qe)) : Nat → (List UInt8) → Int → Option ((List UInt8))
  | 0, _, _ => none
  | f + 1, b, c => J3  (Va a f) a b c
def Nk (a : Int) (b : Int) (c : Int) (d : Int) (e : (List Qe)) : Option ((List UInt8)) :=
  ((Zy a b c d e).bind fun f => (cond (!f) (some (([] : List UInt8))) ((Vx a).bind fun g => ((Vx b).bind fun h => ((Vx c).bind fun i => ((Vx d).bind fun j => ((Xu ([([116, 105, 109, 101, 115] : List UInt8), g, h, i, j] : List (List UInt8)) ([] : List UInt8)).bind fun k => (Va e J5 k 0))))))))
set_option maxHeartbeats 40000000 in
theorem Rr (A6 : Option Addr) (c7 : Nat) (b8 : Int) (b4 : Int) (b3 : Int) (b1 : Int) (d9 : (List Qx)) (w0 : World) (hL : Uj w0) (d0 : (dDS Zh H0).ok w0 (A6, c7, d9)) (r : ((List UInt8))) (H : Nk b8 b4 b3 b1 (List.map stT d9) = some r) :
  Calls Tryz.prog 24 #[(.agg #[(.int .i64 b8), (.int .i64 b4), (.int .i64 b3), (.int .i64 b1), (.slice A6 (List.length (List.map stT d9)) c7)])] w0 (fun e w' => e = .returned (.string ⟨List.toArray r⟩) ∧ SP [] w0 w' []) := by
 unfold Nk at H
 refine Qv (n := 83) Tryz.func24 K K K ?_
 have n5 := Q0 [] w0
 refine aQ ?_
 refine aR ?_
 refine iS 1 ?_
 refine Xp (t := 24) (x := (.tmp 0)) (v := (.agg #[(.int .i64 b8), (.int .i64 b4), (.int .i64 b3), (.int .i64 b1), (.slice A6 (List.length (List.map stT d9)) c7)])) (d := (some 1)) (k := 0) K rfl K n5 ?_
 intro u n6 e9
 refine iR 1 2 [(2, (.string ⟨List.toArray ([] : List UInt8)⟩))] ?_
 refine iF ?_
 refine aQ ?_
 refine aQ ?_
 refine aR ?_
 refine iS 1 ?_
 refine sL 24 1 u 0 0 (.agg #[(.int .i64 b8), (.int .i64 b4), (.int .i64 b3), (.int .i64 b1), (.slice A6 (List.length (List.map stT d9)) c7)]) 11 e9 rfl ?_
 obtain ⟨f9, n7, H⟩ := Qc H
 refine iS 2 ?_
 refine cF 22 #[(.tmp 11)] #[24] 12 Tryz.call22 (Ye A6 c7 b8 b4 b3 b1 d9 n6 (Qz hL (SP.keeps e9)) (Dp.sp d0 e9) f9 n7) ?_
 rintro e z0 ⟨rfl, i7⟩
 refine ⟨_, rfl, ?_⟩
 have i8 := SP.call e9 i7
 clear i7
 refine iR 1 3 [(13, (.bool (!f9)))] ?_
 refine iF ?_
 refine Xe K (o := (.tmp 13)) K (b := (!f9)) K (fun g0 => ?_) (fun g0 => ?_)
 ·have H := ct H g0
  refine aQ ?_
  refine aR ?_
  refine iR 1 1 [(2, (.string ⟨List.toArray ([] : List UInt8)⟩))] ?_
  refine iF ?_
  refine At.ret K ?_
  refine ⟨(.string ⟨List.toArray ([] : List UInt8)⟩), K, ?_⟩
  obtain rfl := Qf H
  exact ⟨rfl, SP.sel i8 [] rfl rfl⟩
 ·have H := cf H g0
  refine At.skip K ?_
  refine aQ ?_
  refine aR ?_
  refine iS 1 ?_
  refine Qi.alloc (t := 93) (z := (.agg #[(.pointer none), (.slice none (List.length ([] : List UInt8)) 0)])) (d := (some 3)) (k := 0) K rfl K i8 ?_
  intro m z1 n8
  refine iF ?_
  refine aQ ?_
  refine aR ?_
  refine iR 2 2 [(14, (.func (.func 56) #[] #[(pt m 0)])), (4, (.func (.func 56) #[] #[(pt m 0)]))] ?_
  refine iF ?_
  refine aQ ?_
  obtain ⟨a2, n9, H⟩ := Qc H
  obtain ⟨a3, o0, H⟩ := Qc H
  obtain ⟨a5, o1, H⟩ := Qc H
  obtain ⟨a6, o2, H⟩ := Qc H
  obtain ⟨d4, o3, H⟩ := Qc H
  refine aG [GEq (.func (.func 56) #[] #[(pt m 0)]), GEq (pt u 0), GEq (.int .i64 b8), GEq (.string ⟨List.toArray a2⟩), GEq (pt u 1), GEq (.int .i64 b4), GEq (.string ⟨List.toArray a3⟩), GEq (pt u 2), GEq (.int .i64 b3), GEq (.string ⟨List.toArray a5⟩), GEq (pt u 3), GEq (.int .i64 b1), GEq (.string ⟨List.toArray a6⟩), G5, GEq (.tuple #[])] [3, 6, 9, 12, 13, 14] [([], fun vs w => VL vs [] ∧ SP [] w0 w [Qw u 24 #[(.int .i64 b8), (.int .i64 b4), (.int .i64 b3), (.int .i64 b1), (.slice A6 (List.length (List.map stT d9)) c7)], Qw m 93 #[(.pointer none), (.slice none (List.length ([] : List UInt8)) 0)]]), ([3], fun vs w => VL vs [(.string ⟨List.toArray a2⟩)] ∧ SP [] w0 w [Qw u 24 #[(.int .i64 b8), (.int .i64 b4), (.int .i64 b3), (.int .i64 b1), (.slice A6 (List.length (List.map stT d9)) c7)], Qw m 93 #[(.pointer none), (.slice none (List.length ([] : List UInt8)) 0)]]), ([3, 6], fun vs w => VL vs [(.string ⟨List.toArray a2⟩), (.string ⟨List.toArray a3⟩)] ∧ SP [] w0 w [Qw u 24 #[(.int .i64 b8), (.int .i64 b4), (.int .i64 b3), (.int .i64 b1), (.slice A6 (List.length (List.map stT d9)) c7)], Qw m 93 #[(.pointer none), (.slice none (List.length ([] : List UInt8)) 0)]]), ([3, 6, 9], fun vs w => VL vs [(.string ⟨List.toArray a2⟩), (.string ⟨List.toArray a3⟩), (.string ⟨List.toArray a5⟩)] ∧ SP [] w0 w [Qw u 24 #[(.int .i64 b8), (.int .i64 b4), (.int .i64 b3), (.int .i64 b1), (.slice A6 (List.length (List.map stT d9)) c7)], Qw m 93 #[(.pointer none), (.slice none (List.length ([] : List UInt8)) 0)]]), ([3, 6, 9, 12], fun vs w => VL vs [(.string ⟨List.toArray a2⟩), (.string ⟨List.toArray a3⟩), (.string ⟨List.toArray a5⟩), (.string ⟨List.toArray a6⟩)] ∧ SP [] w0 w [Qw u 24 #[(.int .i64 b8), (.int .i64 b4), (.int .i64 b3), (.int .i64 b1), (.slice A6 (List.length (List.map stT d9)) c7)], Qw m 93 #[(.pointer none), (.slice none (List.length ([] : List UInt8)) 0)]]), ([3, 6, 9, 12, 13], fun vs w => ∃ (c5 : Nat), VL vs [(.string ⟨List.toArray a2⟩), (.string ⟨List.toArray a3⟩), (.string ⟨List.toArray a5⟩), (.string ⟨List.toArray a6⟩), (.slice (some ⟨c5, 0, none⟩) (List.length ([([116, 105, 109, 101, 115] : List UInt8), a2, a3, a5, a6] : List (List UInt8))) (List.length ([([116, 105, 109, 101, 115] : List UInt8), a2, a3, a5, a6] : List (List UInt8))))] ∧ SP [] w0 w [Qw u 24 #[(.int .i64 b8), (.int .i64 b4), (.int .i64 b3), (.int .i64 b1), (.slice A6 (List.length (List.map stT d9)) c7)], Qw m 93 #[(.pointer none), (.slice none (List.length ([] : List UInt8)) 0)], Q7 9 Qo (some ⟨c5, 0, none⟩) (List.length ([([116, 105, 109, 101, 115] : List UInt8), a2, a3, a5, a6] : List (List UInt8))) ([([116, 105, 109, 101, 115] : List UInt8), a2, a3, a5, a6] : List (List UInt8))]), ([3, 6, 9, 12, 13, 14], fun vs w => ∃ (g1 : Nat), ∃ (f0 : Option Addr), ∃ (f1 : Nat), VL vs [(.string ⟨List.toArray a2⟩), (.string ⟨List.toArray a3⟩), (.string ⟨List.toArray a5⟩), (.string ⟨List.toArray a6⟩), (.slice (some ⟨g1, 0, none⟩) (List.length ([([116, 105, 109, 101, 115] : List UInt8), a2, a3, a5, a6] : List (List UInt8))) (List.length ([([116, 105, 109, 101, 115] : List UInt8), a2, a3, a5, a6] : List (List UInt8)))), (.tuple #[])] ∧ SP [] w0 w [Qw u 24 #[(.int .i64 b8), (.int .i64 b4), (.int .i64 b3), (.int .i64 b1), (.slice A6 (List.length (List.map stT d9)) c7)], Q7 9 Qo (some ⟨g1, 0, none⟩) (List.length ([([116, 105, 109, 101, 115] : List UInt8), a2, a3, a5, a6] : List (List UInt8))) ([([116, 105, 109, 101, 115] : List UInt8), a2, a3, a5, a6] : List (List UInt8)), Qw m 93 #[(pt m 0), (.slice f0 (List.length d4) f1)], Q7 5 eU8 f0 f1 d4])] 15 6 ⟨trivial, SP.drew n8⟩ ?_ ?_
  iterate 15 refine And.intro ?_ ?_
  exact trivial
  ·exact oV (hC (hS 4 (.func (.func 56) #[] #[(pt m 0)])) (h0)) (.func (.func 56) #[] #[(pt m 0)])
  ·exact oV (hC (hS 1 (pt u 0)) (h0)) (pt u 0)
  ·refine oL 0 ?_
   ·rintro ρ' w' hs s ⟨z2, o4⟩
    refine kM (kc (kA s 1 16) k0) fun p => ?_
    refine sL 2 16 u 0 0 (.int .i64 b8) 17 o4 rfl ?_
    exact eK p
  ·refine oH 0 1 ?_
   ·rintro ρ' w' hs s ⟨z3, i9⟩
    refine kM (kc (kA s 2 17) k0) fun p => ?_
    refine cF 59 #[(.tmp 17)] #[2] 18 Tryz.call59 (Vr  b8 w' (Qz hL (SP.keeps i9)) a2 n9) ?_
    rintro e z4 ⟨rfl, j0⟩
    refine ⟨_, rfl, ?_⟩
    have o5 := SP.call i9 j0
    clear j0
    refine ⟨_, Qa p, rfl, ?_⟩
    exact (And.intro (And.intro rfl (trivial)) o5)
  ·exact oV (hC (hS 1 (pt u 0)) (h0)) (pt u 1)
  ·refine Owe.light K [0, 1] K (Qb ?_ (Qb ?_ Q8))
   ·rintro ρ' w' hs s ⟨z5, o6⟩
    refine kM (kc (kA s 4 19) k0) fun p => ?_
    refine sL 2 19 u 1 0 (.int .i64 b4) 20 o6 rfl ?_
    exact eK p
   ·rintro ρ' w' hs s ⟨⟨z6, -⟩, o7⟩
    refine kM (kc (kA s 4 19) k0) fun p => ?_
    refine sL 2 19 u 1 0 (.int .i64 b4) 20 o7 rfl ?_
    exact eK p
  ·refine oH 1 2 ?_
   ·rintro ρ' w' hs s ⟨⟨o8, -⟩, j1⟩
    refine kM (kc (kA s 5 20) k0) fun p => ?_
    refine cF 59 #[(.tmp 20)] #[2] 21 Tryz.call59 (Vr  b4 w' (Qz hL (SP.keeps j1)) a3 o0) ?_
    rintro e z7 ⟨rfl, j2⟩
    refine ⟨_, rfl, ?_⟩
    have o9 := SP.call j1 j2
    clear j2
    refine ⟨_, Qa p, rfl, ?_⟩
    exact (And.intro (And.intro o8 (And.intro rfl (trivial))) o9)
  ·exact oV (hC (hS 1 (pt u 0)) (h0)) (pt u 2)
  ·refine Owe.light K [0, 1, 2] K (Qb ?_ (Qb ?_ (Qb ?_ Q8)))
   ·rintro ρ' w' hs s ⟨z8, p0⟩
    refine kM (kc (kA s 7 22) k0) fun p => ?_
    refine sL 2 22 u 2 0 (.int .i64 b3) 23 p0 rfl ?_
    exact eK p
   ·rintro ρ' w' hs s ⟨⟨z9, -⟩, p1⟩
    refine kM (kc (kA s 7 22) k0) fun p => ?_
    refine sL 2 22 u 2 0 (.int .i64 b3) 23 p1 rfl ?_
    exact eK p
   ·rintro ρ' w' hs s ⟨⟨aa0, aa1, -⟩, p2⟩
    refine kM (kc (kA s 7 22) k0) fun p => ?_
    refine sL 2 22 u 2 0 (.int .i64 b3) 23 p2 rfl ?_
    exact eK p
  ·refine oH 2 3 ?_
   ·rintro ρ' w' hs s ⟨⟨p3, p4, -⟩, j3⟩
    refine kM (kc (kA s 8 23) k0) fun p => ?_
    refine cF 59 #[(.tmp 23)] #[2] 24 Tryz.call59 (Vr  b3 w' (Qz hL (SP.keeps j3)) a5 o1) ?_
    rintro e aa2 ⟨rfl, j4⟩
    refine ⟨_, rfl, ?_⟩
    have p5 := SP.call j3 j4
    clear j4
    refine ⟨_, Qa p, rfl, ?_⟩
    exact (And.intro (And.intro p3 (And.intro p4 (And.intro rfl (trivial)))) p5)
  ·exact oV (hC (hS 1 (pt u 0)) (h0)) (pt u 3)
  ·refine Owe.light K [0, 1, 2, 3] K (Qb ?_ (Qb ?_ (Qb ?_ (Qb ?_ Q8))))
   ·rintro ρ' w' hs s ⟨aa3, p6⟩
    refine kM (kc (kA s 10 25) k0) fun p => ?_
    refine sL 2 25 u 3 0 (.int .i64 b1) 26 p6 rfl ?_
    exact eK p
   ·rintro ρ' w' hs s ⟨⟨aa4, -⟩, p7⟩
    refine kM (kc (kA s 10 25) k0) fun p => ?_
    refine sL 2 25 u 3 0 (.int .i64 b1) 26 p7 rfl ?_
    exact eK p
   ·rintro ρ' w' hs s ⟨⟨aa5, aa6, -⟩, p8⟩
    refine kM (kc (kA s 10 25) k0) fun p => ?_
    refine sL 2 25 u 3 0 (.int .i64 b1) 26 p8 rfl ?_
    exact eK p
   ·rintro ρ' w' hs s ⟨⟨aa7, aa8, aa9, -⟩, p9⟩
    refine kM (kc (kA s 10 25) k0) fun p => ?_
    refine sL 2 25 u 3 0 (.int .i64 b1) 26 p9 rfl ?_
    exact eK p
  ·refine oH 3 4 ?_
   ·rintro ρ' w' hs s ⟨⟨q0, q1, q2, -⟩, j5⟩
    refine kM (kc (kA s 11 26) k0) fun p => ?_
    refine cF 59 #[(.tmp 26)] #[2] 27 Tryz.call59 (Vr  b1 w' (Qz hL (SP.keeps j5)) a6 o2) ?_
    rintro e ab0 ⟨rfl, j6⟩
    refine ⟨_, rfl, ?_⟩
    have q3 := SP.call j5 j6
    clear j6
    refine ⟨_, Qa p, rfl, ?_⟩
    exact (And.intro (And.intro q0 (And.intro q1 (And.intro q2 (And.intro rfl (trivial))))) q3)
  ·refine oH 4 5 ?_
   ·rintro ρ' w' hs s ⟨⟨j7, j8, j9, k1, -⟩, q4⟩
    refine kN [(18, (.string ⟨List.toArray a2⟩)), (21, (.string ⟨List.toArray a3⟩)), (24, (.string ⟨List.toArray a5⟩)), (27, (.string ⟨List.toArray a6⟩))] ⟨(Vp (h := 3) K).symm.trans j7, (Vp (h := 6) K).symm.trans j8, (Vp (h := 9) K).symm.trans j9, (Vp (h := 12) K).symm.trans k1, trivial⟩ fun p => ?_
    refine Zk (e := Qo) (T := 79) (E := 9) (len := 5) (parts := #[(0, (.const (.string ⟨List.toArray ([116, 105, 109, 101, 115] : List UInt8)⟩))), (1, (.tmp 18)), (2, (.tmp 21)), (3, (.tmp 24)), (4, (.tmp 27))]) (cs := #[(.string ⟨List.toArray ([116, 105, 109, 101, 115] : List UInt8)⟩), (.string ⟨List.toArray a2⟩), (.string ⟨List.toArray a3⟩), (.string ⟨List.toArray a5⟩), (.string ⟨List.toArray a6⟩)]) ([([116, 105, 109, 101, 115] : List UInt8), a2, a3, a5, a6] : List (List UInt8)) (d := (some 28)) (k := 13) K rfl (fun _ => K) q4 rfl rfl rfl rfl ?_
    intro q5 ab1 q6
    refine ⟨_, Qa p, trivial, ?_⟩
    exact (Exists.intro q5 (And.intro (And.intro j7 (And.intro j8 (And.intro j9 (And.intro k1 (And.intro rfl (trivial)))))) q6))
  ·refine oH 5 6 ?_
   ·rintro ρ' w' hs s ⟨c5, ⟨q7, q8, q9, r0, k2, -⟩, r1⟩
    refine kN [(15, (.func (.func 56) #[] #[(pt m 0)])), (28, (.slice (some ⟨c5, 0, none⟩) (List.length ([([116, 105, 109, 101, 115] : List UInt8), a2, a3, a5, a6] : List (List UInt8))) (List.length ([([116, 105, 109, 101, 115] : List UInt8), a2, a3, a5, a6] : List (List UInt8)))))] ⟨s 0 15 K, (Vp (h := 13) K).symm.trans k2, trivial⟩ fun p => ?_
    have g2 : SP [] w0 w' [Qw u 24 #[(.int .i64 b8), (.int .i64 b4), (.int .i64 b3), (.int .i64 b1), (.slice A6 (List.length (List.map stT d9)) c7)], Qw m 93 #[(.pointer none), (.slice none (List.length ([] : List UInt8)) 0)], Q7 9 Qo (some ⟨c5, 0, none⟩) (List.length ([([116, 105, 109, 101, 115] : List UInt8), a2, a3, a5, a6] : List (List UInt8))) ([([116, 105, 109, 101, 115] : List UInt8), a2, a3, a5, a6] : List (List UInt8)), Q7 5 eU8 none 0 ([] : List UInt8)] := Uu r1 5 eU8
    refine Xf (f := 56) (fo := (.tmp 15)) (xs := #[(.tmp 28)]) (tys := #[79]) (first := #[]) (captured := #[(pt m 0)]) (d := (some 29)) (k := 14) K rfl K K Tryz.call56 (X3 (some ⟨c5, 0, none⟩) (List.length ([([116, 105, 109, 101, 115] : List UInt8), a2, a3, a5, a6] : List (List UInt8))) m (.pointer none) none 0 ([([116, 105, 109, 101, 115] : List UInt8), a2, a3, a5, a6] : List (List UInt8)) ([] : List UInt8) w' (Y2 g2 [1, 3] rfl rfl) (fun w hm => (Vl (SP.still g2 (l := [1, 3]) (i := 2) rfl rfl rfl hm))) (.inl rfl) d4 o3) ?_
    rintro e r2 ⟨g3, g4, rfl, k3⟩
    refine ⟨_, rfl, ?_⟩
    have r3 : SP [] w0 r2 [Qw u 24 #[(.int .i64 b8), (.int .i64 b4), (.int .i64 b3), (.int .i64 b1), (.slice A6 (List.length (List.map stT d9)) c7)], Q7 9 Qo (some ⟨c5, 0, none⟩) (List.length ([([116, 105, 109, 101, 115] : List UInt8), a2, a3, a5, a6] : List (List UInt8))) ([([116, 105, 109, 101, 115] : List UInt8), a2, a3, a5, a6] : List (List UInt8)), Qw m 93 #[(pt m 0), (.slice g3 (List.length d4) g4)], Q7 5 eU8 g3 g4 d4] := Zm g2 [1, 3] [0, 2] rfl rfl k3 rfl
    clear k3
    refine ⟨_, Qa p, rfl, ?_⟩
    exact (Exists.intro c5 (Exists.intro g3 (Exists.intro g4 (And.intro (And.intro q7 (And.intro q8 (And.intro q9 (And.intro r0 (And.intro k2 (And.intro rfl (trivial))))))) r3))))
  ·rintro ρ' w' hs hf ⟨g1, f0, f1, ⟨ab2, ab3, ab4, ab5, ab6, ab7, -⟩, g5⟩
   refine V7 [(1, (pt u 0)), (3, (pt m 0)), (4, (.func (.func 56) #[] #[(pt m 0)]))] ⟨(hs 1 K).trans K, (hs 3 K).trans K, (hs 4 K).trans K, trivial⟩ ?_
   obtain ⟨ab8, r4⟩ : ∃ x, w' = x := ⟨_, rfl⟩
   rw [r4] at g5 ⊢
   refine aQ ?_
   refine aQ ?_
   refine aR ?_
   refine iR 1 1 [(30, (pt u 4))] ?_
   refine iS 2 ?_
   refine sL 22 30 u 4 0 (.slice A6 (List.length (List.map stT d9)) c7) 31 g5 rfl ?_
   refine iR 2 4 [(32, (.int .i64 ((List.length (List.map stT d9) : Nat) : Int))), (33, (.int .i64 0))] ?_
   refine iF ?_
   refine Jk K (id := 0) K ?_
   refine Rj K (fun c3 ρ w => ∃ (b5 : (List UInt8)) (a1 : Int) (b9 : Option Addr) (c0 : Nat), Zi ρ [(3, (pt m 0)), (4, (.func (.func 56) #[] #[(pt m 0)])), (31, (.slice A6 (List.length (List.map stT d9)) c7)), (32, (.int .i64 ((List.length (List.map stT d9) : Nat) : Int))), (33, (.int .i64 a1))] ∧ SP [] w0 w [Q7 5 eU8 b9 c0 b5, Qw m 93 #[(pt m 0), (.slice b9 (List.length b5) c0)]] ∧ Va (List.map stT d9) c3 b5 a1 = some r) (by rintro ρ w ⟨b5, a1, b9, c0, hk, hs, H⟩; cases H) ?_ J5 ?_
   ·rintro c3 ρ ab9 ⟨b5, a1, b9, c0, hk, f2, H⟩
    refine At.known [(3, (pt m 0)), (4, (.func (.func 56) #[] #[(pt m 0)])), (31, (.slice A6 (List.length (List.map stT d9)) c7)), (32, (.int .i64 ((List.length (List.map stT d9) : Nat) : Int))), (33, (.int .i64 a1))] hk ?_
    replace H := (show J3 (Va (List.map stT d9) c3) (List.map stT d9) b5 a1 = some r from H)
    unfold J3 at H
    refine aQ ?_
    refine aR ?_
    refine iR 1 1 [(34, (.bool (decide (a1 < ((List.length (List.map stT d9) : Nat) : Int)))))] ?_
    refine iF ?_
    refine aQ ?_
    refine Xe K (o := (.tmp 34)) K (b := (decide (a1 < ((List.length (List.map stT d9) : Nat) : Int)))) K (fun g6 => ?_) (fun g6 => ?_)
    ·have H := ct H g6
     refine At.skip K ?_
     refine aQ ?_
     refine Jk K (id := 1) K ?_
     refine aQ ?_
     refine aR ?_
     obtain ⟨a, k4, k5, e3, H⟩ := Nr H
     refine iS 1 ?_
     refine Ub stT (e := Zh) (l := d9) (A := A6) (c := c7) (T := 22) (E := 33) (x := (.tmp 31)) (ix := (.tmp 33)) (ki := .i64) (iz := a1) (d := (some 35)) (k := 0) K rfl K K K K (RdT.sp (Uk d0) f2) k4 k5 ?_
     intro r5 r6 r7 ac0 hc10395
     refine iS 2 ?_
     refine Qi.cells (t := 33) (x := (.tmp 35)) (b := r5) (off := (r6 + Int.toNat a1 * Zh.sz)) (xs := [(.string ⟨List.toArray (stT a).1⟩), (.int .i64 (stT a).2.1), (.int .i64 (stT a).2.2.1), (.slice a.2.2.2.1.1 (List.length (stT a).2.2.2.1) a.2.2.2.1.2.1), (.slice a.2.2.2.2.1 (List.length (stT a).2.2.2.2) a.2.2.2.2.2.1)]) (d := (some 36)) (k := 1) K rfl K K K (Zl (e := Zh) (Qm (RdT.sp (Uk d0) f2) r7 k4 k5) e3 rfl) ?_
     refine iS 3 ?_
     refine Qi.alloc (t := 33) (z := (.agg #[(.string ⟨List.toArray ([] : List UInt8)⟩), (.int .i64 0), (.int .i64 0), (.slice none (List.length ([] : List (Int × Int))) 0), (.slice none (List.length ([] : List ((List UInt8) × (List UInt8) × Int))) 0)])) (d := (some 6)) (k := 2) K rfl K f2 ?_
     intro a0 ac1 r8
     refine iS 4 ?_
     refine Qi.store (t := 33) (x := (.tmp 6)) (y := (.tmp 36)) (g := a0) (off := 0) (i := 2) (v := (.agg #[(.string ⟨List.toArray (stT a).1⟩), (.int .i64 (stT a).2.1), (.int .i64 (stT a).2.2.1), (.slice a.2.2.2.1.1 (List.length (stT a).2.2.2.1) a.2.2.2.1.2.1), (.slice a.2.2.2.2.1 (List.length (stT a).2.2.2.2) a.2.2.2.2.2.1)])) (cs' := #[(.string ⟨List.toArray (stT a).1⟩), (.int .i64 (stT a).2.1), (.int .i64 (stT a).2.2.1), (.slice a.2.2.2.1.1 (List.length (stT a).2.2.2.1) a.2.2.2.1.2.1), (.slice a.2.2.2.2.1 (List.length (stT a).2.2.2.2) a.2.2.2.2.2.1)]) (d := none) (k := 3) K rfl K K r8 rfl K ?_
     intro ac2 r9
     refine iF ?_
     refine aQ ?_
     obtain ⟨a7, s0, H⟩ := Qc H
     obtain ⟨a9, s1, H⟩ := Qc H
     obtain ⟨d5, s2, H⟩ := Qc H
     refine aG [GEq (.func (.func 56) #[] #[(pt m 0)]), GEq (pt a0 0), GEq (.string ⟨List.toArray (stT a).1⟩), GEq (pt a0 1), GEq (.int .i64 (stT a).2.1), GEq (.string ⟨List.toArray a7⟩), GEq (pt a0 2), GEq (.int .i64 (stT a).2.2.1), GEq (.string ⟨List.toArray a9⟩), G5, GEq (.tuple #[])] [5, 8, 9, 10] [([], fun vs w => VL vs [] ∧ SP [] w0 w [Q7 5 eU8 b9 c0 b5, Qw m 93 #[(pt m 0), (.slice b9 (List.length b5) c0)], Qw a0 33 #[(.string ⟨List.toArray (stT a).1⟩), (.int .i64 (stT a).2.1), (.int .i64 (stT a).2.2.1), (.slice a.2.2.2.1.1 (List.length (stT a).2.2.2.1) a.2.2.2.1.2.1), (.slice a.2.2.2.2.1 (List.length (stT a).2.2.2.2) a.2.2.2.2.2.1)]]), ([5], fun vs w => VL vs [(.string ⟨List.toArray a7⟩)] ∧ SP [] w0 w [Q7 5 eU8 b9 c0 b5, Qw m 93 #[(pt m 0), (.slice b9 (List.length b5) c0)], Qw a0 33 #[(.string ⟨List.toArray (stT a).1⟩), (.int .i64 (stT a).2.1), (.int .i64 (stT a).2.2.1), (.slice a.2.2.2.1.1 (List.length (stT a).2.2.2.1) a.2.2.2.1.2.1), (.slice a.2.2.2.2.1 (List.length (stT a).2.2.2.2) a.2.2.2.2.2.1)]]), ([5, 8], fun vs w => VL vs [(.string ⟨List.toArray a7⟩), (.string ⟨List.toArray a9⟩)] ∧ SP [] w0 w [Q7 5 eU8 b9 c0 b5, Qw m 93 #[(pt m 0), (.slice b9 (List.length b5) c0)], Qw a0 33 #[(.string ⟨List.toArray (stT a).1⟩), (.int .i64 (stT a).2.1), (.int .i64 (stT a).2.2.1), (.slice a.2.2.2.1.1 (List.length (stT a).2.2.2.1) a.2.2.2.1.2.1), (.slice a.2.2.2.2.1 (List.length (stT a).2.2.2.2) a.2.2.2.2.2.1)]]), ([5, 8, 9], fun vs w => ∃ (d1 : Nat), VL vs [(.string ⟨List.toArray a7⟩), (.string ⟨List.toArray a9⟩), (.slice (some ⟨d1, 0, none⟩) (List.length ([([116, 101, 110, 97, 110, 116] : List UInt8), (stT a).1, a7, a9] : List (List UInt8))) (List.length ([([116, 101, 110, 97, 110, 116] : List UInt8), (stT a).1, a7, a9] : List (List UInt8))))] ∧ SP [] w0 w [Q7 5 eU8 b9 c0 b5, Qw m 93 #[(pt m 0), (.slice b9 (List.length b5) c0)], Qw a0 33 #[(.string ⟨List.toArray (stT a).1⟩), (.int .i64 (stT a).2.1), (.int .i64 (stT a).2.2.1), (.slice a.2.2.2.1.1 (List.length (stT a).2.2.2.1) a.2.2.2.1.2.1), (.slice a.2.2.2.2.1 (List.length (stT a).2.2.2.2) a.2.2.2.2.2.1)], Q7 9 Qo (some ⟨d1, 0, none⟩) (List.length ([([116, 101, 110, 97, 110, 116] : List UInt8), (stT a).1, a7, a9] : List (List UInt8))) ([([116, 101, 110, 97, 110, 116] : List UInt8), (stT a).1, a7, a9] : List (List UInt8))]), ([5, 8, 9, 10], fun vs w => ∃ (g7 : Nat), ∃ (f3 : Option Addr), ∃ (f4 : Nat), VL vs [(.string ⟨List.toArray a7⟩), (.string ⟨List.toArray a9⟩), (.slice (some ⟨g7, 0, none⟩) (List.length ([([116, 101, 110, 97, 110, 116] : List UInt8), (stT a).1, a7, a9] : List (List UInt8))) (List.length ([([116, 101, 110, 97, 110, 116] : List UInt8), (stT a).1, a7, a9] : List (List UInt8)))), (.tuple #[])] ∧ SP [] w0 w [Qw a0 33 #[(.string ⟨List.toArray (stT a).1⟩), (.int .i64 (stT a).2.1), (.int .i64 (stT a).2.2.1), (.slice a.2.2.2.1.1 (List.length (stT a).2.2.2.1) a.2.2.2.1.2.1), (.slice a.2.2.2.2.1 (List.length (stT a).2.2.2.2) a.2.2.2.2.2.1)], Q7 9 Qo (some ⟨g7, 0, none⟩) (List.length ([([116, 101, 110, 97, 110, 116] : List UInt8), (stT a).1, a7, a9] : List (List UInt8))) ([([116, 101, 110, 97, 110, 116] : List UInt8), (stT a).1, a7, a9] : List (List UInt8)), Qw m 93 #[(pt m 0), (.slice f3 (List.length d5) f4)], Q7 5 eU8 f3 f4 d5])] 11 4 ⟨trivial, SP.drew r9⟩ ?_ ?_
     iterate 11 refine And.intro ?_ ?_
     exact trivial
     ·exact oV (hC (hS 4 (.func (.func 56) #[] #[(pt m 0)])) (h0)) (.func (.func 56) #[] #[(pt m 0)])
     ·exact oV (hC (hS 6 (pt a0 0)) (h0)) (pt a0 0)
     ·refine Owe.light K [0, 1, 2] K (Qb ?_ (Qb ?_ (Qb ?_ Q8)))
      ·rintro ρ' w' hs s ⟨ac3, s3⟩
       refine kM (kc (kA s 1 38) k0) fun p => ?_
       refine sL 9 38 a0 0 2 (.string ⟨List.toArray (stT a).1⟩) 39 s3 rfl ?_
       exact eK p
      ·rintro ρ' w' hs s ⟨⟨ac4, -⟩, s4⟩
       refine kM (kc (kA s 1 38) k0) fun p => ?_
       refine sL 9 38 a0 0 2 (.string ⟨List.toArray (stT a).1⟩) 39 s4 rfl ?_
       exact eK p
      ·rintro ρ' w' hs s ⟨⟨ac5, ac6, -⟩, s5⟩
       refine kM (kc (kA s 1 38) k0) fun p => ?_
       refine sL 9 38 a0 0 2 (.string ⟨List.toArray (stT a).1⟩) 39 s5 rfl ?_
       exact eK p
     ·exact oV (hC (hS 6 (pt a0 0)) (h0)) (pt a0 1)
     ·refine oL 0 ?_
      ·rintro ρ' w' hs s ⟨ac7, s6⟩
       refine kM (kc (kA s 3 40) k0) fun p => ?_
       refine sL 3 40 a0 1 2 (.int .i64 (stT a).2.1) 41 s6 rfl ?_
       exact eK p
     ·refine oH 0 1 ?_
      ·rintro ρ' w' hs s ⟨ac8, k6⟩
       refine kM (kc (kA s 4 41) k0) fun p => ?_
       refine cF 59 #[(.tmp 41)] #[2] 42 Tryz.call59 (Vr  (stT a).2.1 w' (Qz hL (SP.keeps k6)) a7 s0) ?_
       rintro e ac9 ⟨rfl, k7⟩
       refine ⟨_, rfl, ?_⟩
       have s7 := SP.call k6 k7
       clear k7
       refine ⟨_, Qa p, rfl, ?_⟩
       exact (And.intro (And.intro rfl (trivial)) s7)
     ·exact oV (hC (hS 6 (pt a0 0)) (h0)) (pt a0 2)
     ·refine Owe.light K [0, 1] K (Qb ?_ (Qb ?_ Q8))
      ·rintro ρ' w' hs s ⟨ad0, s8⟩
       refine kM (kc (kA s 6 43) k0) fun p => ?_
       refine sL 3 43 a0 2 2 (.int .i64 (stT a).2.2.1) 44 s8 rfl ?_
       exact eK p
      ·rintro ρ' w' hs s ⟨⟨ad1, -⟩, s9⟩
       refine kM (kc (kA s 6 43) k0) fun p => ?_
       refine sL 3 43 a0 2 2 (.int .i64 (stT a).2.2.1) 44 s9 rfl ?_
       exact eK p
     ·refine oH 1 2 ?_
      ·rintro ρ' w' hs s ⟨⟨t0, -⟩, k8⟩
       refine kM (kc (kA s 7 44) k0) fun p => ?_
       refine cF 59 #[(.tmp 44)] #[2] 45 Tryz.call59 (Vr  (stT a).2.2.1 w' (Qz hL (SP.keeps k8)) a9 s1) ?_
       rintro e ad2 ⟨rfl, k9⟩
       refine ⟨_, rfl, ?_⟩
       have t1 := SP.call k8 k9
       clear k9
       refine ⟨_, Qa p, rfl, ?_⟩
       exact (And.intro (And.intro t0 (And.intro rfl (trivial))) t1)
     ·refine oH 2 3 ?_
      ·rintro ρ' w' hs s ⟨⟨l0, l1, -⟩, t2⟩
       refine kN [(39, (.string ⟨List.toArray (stT a).1⟩)), (42, (.string ⟨List.toArray a7⟩)), (45, (.string ⟨List.toArray a9⟩))] ⟨s 2 39 K, (Vp (h := 5) K).symm.trans l0, (Vp (h := 8) K).symm.trans l1, trivial⟩ fun p => ?_
       refine Zk (e := Qo) (T := 79) (E := 9) (len := 4) (parts := #[(0, (.const (.string ⟨List.toArray ([116, 101, 110, 97, 110, 116] : List UInt8)⟩))), (1, (.tmp 39)), (2, (.tmp 42)), (3, (.tmp 45))]) (cs := #[(.string ⟨List.toArray ([116, 101, 110, 97, 110, 116] : List UInt8)⟩), (.string ⟨List.toArray (stT a).1⟩), (.string ⟨List.toArray a7⟩), (.string ⟨List.toArray a9⟩)]) ([([116, 101, 110, 97, 110, 116] : List UInt8), (stT a).1, a7, a9] : List (List UInt8)) (d := (some 46)) (k := 9) K rfl (fun _ => K) t2 rfl rfl rfl rfl ?_
       intro t3 ad3 t4
       refine ⟨_, Qa p, trivial, ?_⟩
       exact (Exists.intro t3 (And.intro (And.intro l0 (And.intro l1 (And.intro rfl (trivial)))) t4))
     ·refine oH 3 4 ?_
      ·rintro ρ' w' hs s ⟨d1, ⟨t5, t6, l2, -⟩, g8⟩
       refine kN [(37, (.func (.func 56) #[] #[(pt m 0)])), (46, (.slice (some ⟨d1, 0, none⟩) (List.length ([([116, 101, 110, 97, 110, 116] : List UInt8), (stT a).1, a7, a9] : List (List UInt8))) (List.length ([([116, 101, 110, 97, 110, 116] : List UInt8), (stT a).1, a7, a9] : List (List UInt8)))))] ⟨s 0 37 K, (Vp (h := 9) K).symm.trans l2, trivial⟩ fun p => ?_
       refine Xf (f := 56) (fo := (.tmp 37)) (xs := #[(.tmp 46)]) (tys := #[79]) (first := #[]) (captured := #[(pt m 0)]) (d := (some 47)) (k := 10) K rfl K K Tryz.call56 (X3 (some ⟨d1, 0, none⟩) (List.length ([([116, 101, 110, 97, 110, 116] : List UInt8), (stT a).1, a7, a9] : List (List UInt8))) m (pt m 0) b9 c0 ([([116, 101, 110, 97, 110, 116] : List UInt8), (stT a).1, a7, a9] : List (List UInt8)) b5 w' (Y2 g8 [1, 0] rfl rfl) (fun w hm => (Vl (SP.still g8 (l := [1, 0]) (i := 3) rfl rfl rfl hm))) (.inr rfl) d5 s2) ?_
       rintro e t7 ⟨g9, h1, rfl, l3⟩
       refine ⟨_, rfl, ?_⟩
       have t8 : SP [] w0 t7 [Qw a0 33 #[(.string ⟨List.toArray (stT a).1⟩), (.int .i64 (stT a).2.1), (.int .i64 (stT a).2.2.1), (.slice a.2.2.2.1.1 (List.length (stT a).2.2.2.1) a.2.2.2.1.2.1), (.slice a.2.2.2.2.1 (List.length (stT a).2.2.2.2) a.2.2.2.2.2.1)], Q7 9 Qo (some ⟨d1, 0, none⟩) (List.length ([([116, 101, 110, 97, 110, 116] : List UInt8), (stT a).1, a7, a9] : List (List UInt8))) ([([116, 101, 110, 97, 110, 116] : List UInt8), (stT a).1, a7, a9] : List (List UInt8)), Qw m 93 #[(pt m 0), (.slice g9 (List.length d5) h1)], Q7 5 eU8 g9 h1 d5] := Zm g8 [1, 0] [2, 3] rfl rfl l3 rfl
       clear l3
       refine ⟨_, Qa p, rfl, ?_⟩
       exact (Exists.intro d1 (Exists.intro g9 (Exists.intro h1 (And.intro (And.intro t5 (And.intro t6 (And.intro l2 (And.intro rfl (trivial))))) t8))))
     ·rintro ρ' w' hs hf ⟨g7, f3, f4, ⟨ad4, ad5, ad6, ad7, -⟩, h2⟩
      refine V7 [(3, (pt m 0)), (4, (.func (.func 56) #[] #[(pt m 0)])), (6, (pt a0 0)), (31, (.slice A6 (List.length (List.map stT d9)) c7)), (32, (.int .i64 ((List.length (List.map stT d9) : Nat) : Int))), (33, (.int .i64 a1))] ⟨(hs 3 K).trans K, (hs 4 K).trans K, (hs 6 K).trans K, (hs 31 K).trans K, (hs 32 K).trans K, (hs 33 K).trans K, trivial⟩ ?_
      obtain ⟨ad8, t9⟩ : ∃ x, w' = x := ⟨_, rfl⟩
      rw [t9] at h2 ⊢
      refine aQ ?_
      refine aQ ?_
      refine aR ?_
      refine iR 1 1 [(48, (pt a0 3))] ?_
      refine iS 2 ?_
      refine sL 30 48 a0 3 0 (.slice a.2.2.2.1.1 (List.length (stT a).2.2.2.1) a.2.2.2.1.2.1) 49 h2 rfl ?_
      refine iR 2 4 [(50, (.int .i64 ((List.length (stT a).2.2.2.1 : Nat) : Int))), (51, (.int .i64 0))] ?_
      refine iF ?_
      refine Jk K (id := 2) K ?_
      refine Rj K (fun d6 ρ w => ∃ (c6 : (List UInt8)) (c2 : Int) (d7 : Option Addr) (d8 : Nat), Zi ρ [(3, (pt m 0)), (4, (.func (.func 56) #[] #[(pt m 0)])), (6, (pt a0 0)), (31, (.slice A6 (List.length (List.map stT d9)) c7)), (32, (.int .i64 ((List.length (List.map stT d9) : Nat) : Int))), (33, (.int .i64 a1)), (49, (.slice a.2.2.2.1.1 (List.length (stT a).2.2.2.1) a.2.2.2.1.2.1)), (50, (.int .i64 ((List.length (stT a).2.2.2.1 : Nat) : Int))), (51, (.int .i64 c2))] ∧ SP [] w0 w [Q7 5 eU8 d7 d8 c6, Qw m 93 #[(pt m 0), (.slice d7 (List.length c6) d8)], Qw a0 33 #[(.string ⟨List.toArray (stT a).1⟩), (.int .i64 (stT a).2.1), (.int .i64 (stT a).2.2.1), (.slice a.2.2.2.1.1 (List.length (stT a).2.2.2.1) a.2.2.2.1.2.1), (.slice a.2.2.2.2.1 (List.length (stT a).2.2.2.2) a.2.2.2.2.2.1)]] ∧ Zr (Va (List.map stT d9) c3) a1 (stT a) d6 c6 c2 = some r) (by rintro ρ w ⟨c6, c2, d7, d8, hk, hs, H⟩; cases H) ?_ J5 ?_
      ·rintro d6 ρ ad9 ⟨c6, c2, d7, d8, hk, e4, H⟩
       refine At.known [(3, (pt m 0)), (4, (.func (.func 56) #[] #[(pt m 0)])), (6, (pt a0 0)), (31, (.slice A6 (List.length (List.map stT d9)) c7)), (32, (.int .i64 ((List.length (List.map stT d9) : Nat) : Int))), (33, (.int .i64 a1)), (49, (.slice a.2.2.2.1.1 (List.length (stT a).2.2.2.1) a.2.2.2.1.2.1)), (50, (.int .i64 ((List.length (stT a).2.2.2.1 : Nat) : Int))), (51, (.int .i64 c2))] hk ?_
       replace H := (show J2 (Va (List.map stT d9) c3) (Zr (Va (List.map stT d9) c3) a1 (stT a) d6) a1 (stT a) c6 c2 = some r from H)
       unfold J2 at H
       refine aQ ?_
       refine aR ?_
       refine iR 1 1 [(52, (.bool (decide (c2 < ((List.length (stT a).2.2.2.1 : Nat) : Int)))))] ?_
       refine iF ?_
       refine aQ ?_
       refine Xe K (o := (.tmp 52)) K (b := (decide (c2 < ((List.length (stT a).2.2.2.1 : Nat) : Int)))) K (fun h3 => ?_) (fun h3 => ?_)
       ·have H := ct H h3
        refine At.skip K ?_
        refine aQ ?_
        refine Jk K (id := 3) K ?_
        refine aQ ?_
        refine aR ?_
        obtain ⟨c4, l4, l5, u0, H⟩ := Vk H
        refine iS 1 ?_
        refine Ql (e := (Qg (Ve .u32) (Ve .i64))) (l := (stT a).2.2.2.1) (A := a.2.2.2.1.1) (c := a.2.2.2.1.2.1) (T := 30) (E := 102) (x := (.tmp 49)) (ix := (.tmp 51)) (ki := .i64) (iz := c2) (d := (some 53)) (k := 0) K rfl K K K K (RdT.sp (Uk (dp1 (dp2 (dp2 (dp2 (D3 d0 e3)))))) e4) l4 l5 ?_
        intro u1 u2 u3 ae0 hc12962
        refine iS 2 ?_
        refine Qi.cells (t := 102) (x := (.tmp 53)) (b := u1) (off := (u2 + Int.toNat c2 * (Qg (Ve .u32) (Ve .i64)).sz)) (xs := [(.int .u32 c4.1), (.int .i64 c4.2)]) (d := (some 54)) (k := 1) K rfl K K K (Zl (e := (Qg (Ve .u32) (Ve .i64))) (Qm (RdT.sp (Uk (dp1 (dp2 (dp2 (dp2 (D3 d0 e3)))))) e4) u3 l4 l5) u0 rfl) ?_
        refine iS 3 ?_
        refine Qi.alloc (t := 102) (z := (.agg #[(.int .u32 0), (.int .i64 0)])) (d := (some 8)) (k := 2) K rfl K e4 ?_
        intro h4 ae1 u4
        refine iS 4 ?_
        refine Qi.store (t := 102) (x := (.tmp 8)) (y := (.tmp 54)) (g := h4) (off := 0) (i := 3) (v := (.agg #[(.int .u32 c4.1), (.int .i64 c4.2)])) (cs' := #[(.int .u32 c4.1), (.int .i64 c4.2)]) (d := none) (k := 3) K rfl K K u4 rfl K ?_
        intro u5 h5
        refine iF ?_
        refine aR ?_
        refine iR 1 1 [(55, (.func (.func 56) #[] #[(pt m 0)]))] ?_
        refine iS 2 ?_
        refine sL 102 8 h4 0 3 (.agg #[(.int .u32 c4.1), (.int .i64 c4.2)]) 56 h5 rfl ?_
        obtain ⟨d2, u6, H⟩ := Qc H
        refine iS 3 ?_
        refine cF 60 #[(.tmp 56)] #[102] 57 Tryz.call60 (Uy  c4.1 c4.2 u5 (Qz hL (SP.keeps h5)) d2 u6) ?_
        rintro e ae2 ⟨rfl, l6⟩
        refine ⟨_, rfl, ?_⟩
        have u7 := SP.call h5 l6
        clear l6
        refine iS 4 ?_
        refine Zk (e := Qo) (T := 79) (E := 9) (len := 2) (parts := #[(0, (.const (.string ⟨List.toArray ([110, 101, 116] : List UInt8)⟩))), (1, (.tmp 57))]) (cs := #[(.string ⟨List.toArray ([110, 101, 116] : List UInt8)⟩), (.string ⟨List.toArray d2⟩)]) ([([110, 101, 116] : List UInt8), d2] : List (List UInt8)) (d := (some 58)) (k := 3) K rfl (fun _ => K) u7 rfl rfl rfl rfl ?_
        intro l7 u8 h6
        obtain ⟨f5, u9, H⟩ := Qc H
        refine iS 5 ?_
        refine Xf (f := 56) (fo := (.tmp 55)) (xs := #[(.tmp 58)]) (tys := #[79]) (first := #[]) (captured := #[(pt m 0)]) (d := (some 59)) (k := 4) K rfl K K Tryz.call56 (X3 (some ⟨l7, 0, none⟩) (List.length ([([110, 101, 116] : List UInt8), d2] : List (List UInt8))) m (pt m 0) d7 d8 ([([110, 101, 116] : List UInt8), d2] : List (List UInt8)) c6 u8 (Y2 h6 [1, 0] rfl rfl) (fun w hm => (Vl (SP.still h6 (l := [1, 0]) (i := 4) rfl rfl rfl hm))) (.inr rfl) f5 u9) ?_
        rintro e v0 ⟨h7, h8, rfl, l8⟩
        refine ⟨_, rfl, ?_⟩
        have v1 : SP [] w0 v0 [Qw a0 33 #[(.string ⟨List.toArray (stT a).1⟩), (.int .i64 (stT a).2.1), (.int .i64 (stT a).2.2.1), (.slice a.2.2.2.1.1 (List.length (stT a).2.2.2.1) a.2.2.2.1.2.1), (.slice a.2.2.2.2.1 (List.length (stT a).2.2.2.2) a.2.2.2.2.2.1)], Qw h4 102 #[(.int .u32 c4.1), (.int .i64 c4.2)], Q7 9 Qo (some ⟨l7, 0, none⟩) (List.length ([([110, 101, 116] : List UInt8), d2] : List (List UInt8))) ([([110, 101, 116] : List UInt8), d2] : List (List UInt8)), Qw m 93 #[(pt m 0), (.slice h7 (List.length f5) h8)], Q7 5 eU8 h7 h8 f5] := Zm h6 [1, 0] [2, 3, 4] rfl rfl l8 rfl
        clear l8
        refine iF ?_
        refine aR ?_
        refine iR 2 2 [(60, (.int .i64 (IntKind.wrap .i64 (c2 + 1)))), (51, (.int .i64 (IntKind.wrap .i64 (c2 + 1))))] ?_
        refine iF ?_
        exact ⟨f5, (IntKind.wrap .i64 (c2 + 1)), h7, h8, ⟨K, K, K, K, K, K, K, K, K, trivial⟩, SP.sel v1 [4, 3, 0] rfl rfl, H⟩
       ·have H := cf H h3
        refine At.exit K (id := 2) K ?_
        refine aQ ?_
        refine aR ?_
        refine iR 1 1 [(61, (pt a0 4))] ?_
        refine iS 2 ?_
        refine sL 31 61 a0 4 2 (.slice a.2.2.2.2.1 (List.length (stT a).2.2.2.2) a.2.2.2.2.2.1) 62 e4 rfl ?_
        refine iR 2 4 [(63, (.int .i64 ((List.length (stT a).2.2.2.2 : Nat) : Int))), (64, (.int .i64 0))] ?_
        refine iF ?_
        refine Jk K (id := 4) K ?_
        refine Rj K (fun h9 ρ w => ∃ (b2 : (List UInt8)) (c1 : Int) (b6 : Option Addr) (b7 : Nat), Zi ρ [(3, (pt m 0)), (4, (.func (.func 56) #[] #[(pt m 0)])), (31, (.slice A6 (List.length (List.map stT d9)) c7)), (32, (.int .i64 ((List.length (List.map stT d9) : Nat) : Int))), (33, (.int .i64 a1)), (62, (.slice a.2.2.2.2.1 (List.length (stT a).2.2.2.2) a.2.2.2.2.2.1)), (63, (.int .i64 ((List.length (stT a).2.2.2.2 : Nat) : Int))), (64, (.int .i64 c1))] ∧ SP [] w0 w [Q7 5 eU8 b6 b7 b2, Qw m 93 #[(pt m 0), (.slice b6 (List.length b2) b7)]] ∧ Yu (Va (List.map stT d9) c3) (Zr (Va (List.map stT d9) c3) a1 (stT a) d6) a1 (stT a) h9 b2 c1 = some r) (by rintro ρ w ⟨b2, c1, b6, b7, hk, hs, H⟩; cases H) ?_ J5 ?_
        ·rintro h9 ρ ae3 ⟨b2, c1, b6, b7, hk, f6, H⟩
         refine At.known [(3, (pt m 0)), (4, (.func (.func 56) #[] #[(pt m 0)])), (31, (.slice A6 (List.length (List.map stT d9)) c7)), (32, (.int .i64 ((List.length (List.map stT d9) : Nat) : Int))), (33, (.int .i64 a1)), (62, (.slice a.2.2.2.2.1 (List.length (stT a).2.2.2.2) a.2.2.2.2.2.1)), (63, (.int .i64 ((List.length (stT a).2.2.2.2 : Nat) : Int))), (64, (.int .i64 c1))] hk ?_
         replace H := (show J1 (Va (List.map stT d9) c3) (Zr (Va (List.map stT d9) c3) a1 (stT a) d6) (Yu (Va (List.map stT d9) c3) (Zr (Va (List.map stT d9) c3) a1 (stT a) d6) a1 (stT a) h9) a1 (stT a) b2 c1 = some r from H)
         unfold J1 at H
         refine aQ ?_
         refine aR ?_
         refine iR 1 1 [(65, (.bool (decide (c1 < ((List.length (stT a).2.2.2.2 : Nat) : Int)))))] ?_
         refine iF ?_
         refine aQ ?_
         refine Xe K (o := (.tmp 65)) K (b := (decide (c1 < ((List.length (stT a).2.2.2.2 : Nat) : Int)))) K (fun i0 => ?_) (fun i0 => ?_)
         ·have H := ct H i0
          refine At.skip K ?_
          refine aQ ?_
          refine Jk K (id := 5) K ?_
          refine aQ ?_
          refine aR ?_
          obtain ⟨q, l9, m0, v2, H⟩ := Vk H
          refine iS 1 ?_
          refine Ql (e := (Qg Qo (Qg Qo (Ve .i64)))) (l := (stT a).2.2.2.2) (A := a.2.2.2.2.1) (c := a.2.2.2.2.2.1) (T := 31) (E := 37) (x := (.tmp 62)) (ix := (.tmp 64)) (ki := .i64) (iz := c1) (d := (some 66)) (k := 0) K rfl K K K K (RdT.sp (Uk (dp2 (dp2 (dp2 (dp2 (D3 d0 e3)))))) f6) l9 m0 ?_
          intro v3 v4 v5 ae4 hc13578
          refine iS 2 ?_
          refine Qi.cells (t := 37) (x := (.tmp 66)) (b := v3) (off := (v4 + Int.toNat c1 * (Qg Qo (Qg Qo (Ve .i64))).sz)) (xs := [(.string ⟨List.toArray q.1⟩), (.string ⟨List.toArray q.2.1⟩), (.int .i64 q.2.2)]) (d := (some 67)) (k := 1) K rfl K K K (Zl (e := (Qg Qo (Qg Qo (Ve .i64)))) (Qm (RdT.sp (Uk (dp2 (dp2 (dp2 (dp2 (D3 d0 e3)))))) f6) v5 l9 m0) v2 rfl) ?_
          refine iS 3 ?_
          refine Qi.alloc (t := 37) (z := (.agg #[(.string ⟨List.toArray ([] : List UInt8)⟩), (.string ⟨List.toArray ([] : List UInt8)⟩), (.int .i64 0)])) (d := (some 10)) (k := 2) K rfl K f6 ?_
          intro a4 ae5 v6
          refine iS 4 ?_
          refine Qi.store (t := 37) (x := (.tmp 10)) (y := (.tmp 67)) (g := a4) (off := 0) (i := 2) (v := (.agg #[(.string ⟨List.toArray q.1⟩), (.string ⟨List.toArray q.2.1⟩), (.int .i64 q.2.2)])) (cs' := #[(.string ⟨List.toArray q.1⟩), (.string ⟨List.toArray q.2.1⟩), (.int .i64 q.2.2)]) (d := none) (k := 3) K rfl K K v6 rfl K ?_
          intro ae6 v7
          refine iF ?_
          obtain ⟨v8, H⟩ := Nd H
          obtain ⟨a8, v9, H⟩ := Qc H
          obtain ⟨b0, w1, H⟩ := Qc H
          obtain ⟨e0, w2, H⟩ := Qc H
          refine aG [GEq (.func (.func 56) #[] #[(pt m 0)]), GEq (pt a4 0), GEq (.string ⟨List.toArray q.1⟩), GEq (pt a4 1), GEq (.string ⟨List.toArray q.2.1⟩), G5, GEq (.string ⟨List.toArray a8⟩), GEq (pt a4 2), GEq (.int .i64 q.2.2), GEq (.string ⟨List.toArray b0⟩), G5, GEq (.tuple #[])] [5, 6, 9, 10, 11] [([], fun vs w => VL vs [] ∧ SP [] w0 w [Q7 5 eU8 b6 b7 b2, Qw m 93 #[(pt m 0), (.slice b6 (List.length b2) b7)], Qw a4 37 #[(.string ⟨List.toArray q.1⟩), (.string ⟨List.toArray q.2.1⟩), (.int .i64 q.2.2)]]), ([5], fun vs w => ∃ (c8 : Nat), ∃ (c9 : Nat), VL vs [(.slice (some ⟨c8, 0, none⟩) (List.length q.2.1) c9)] ∧ SP [] w0 w [Q7 5 eU8 b6 b7 b2, Qw m 93 #[(pt m 0), (.slice b6 (List.length b2) b7)], Qw a4 37 #[(.string ⟨List.toArray q.1⟩), (.string ⟨List.toArray q.2.1⟩), (.int .i64 q.2.2)], rdE eU8 (some ⟨c8, 0, none⟩) c9 q.2.1]), ([5, 6], fun vs w => ∃ (e1 : Nat), ∃ (e2 : Nat), VL vs [(.slice (some ⟨e1, 0, none⟩) (List.length q.2.1) e2), (.string ⟨List.toArray a8⟩)] ∧ SP [] w0 w [Q7 5 eU8 b6 b7 b2, Qw m 93 #[(pt m 0), (.slice b6 (List.length b2) b7)], Qw a4 37 #[(.string ⟨List.toArray q.1⟩), (.string ⟨List.toArray q.2.1⟩), (.int .i64 q.2.2)], rdE eU8 (some ⟨e1, 0, none⟩) e2 q.2.1]), ([5, 6, 9], fun vs w => ∃ (e5 : Nat), ∃ (e6 : Nat), VL vs [(.slice (some ⟨e5, 0, none⟩) (List.length q.2.1) e6), (.string ⟨List.toArray a8⟩), (.string ⟨List.toArray b0⟩)] ∧ SP [] w0 w [Q7 5 eU8 b6 b7 b2, Qw m 93 #[(pt m 0), (.slice b6 (List.length b2) b7)], Qw a4 37 #[(.string ⟨List.toArray q.1⟩), (.string ⟨List.toArray q.2.1⟩), (.int .i64 q.2.2)], rdE eU8 (some ⟨e5, 0, none⟩) e6 q.2.1]), ([5, 6, 9, 10], fun vs w => ∃ (e7 : Nat), ∃ (e8 : Nat), ∃ (d3 : Nat), VL vs [(.slice (some ⟨e7, 0, none⟩) (List.length q.2.1) e8), (.string ⟨List.toArray a8⟩), (.string ⟨List.toArray b0⟩), (.slice (some ⟨d3, 0, none⟩) (List.length ([([116, 111, 107, 101, 110] : List UInt8), q.1, a8, b0] : List (List UInt8))) (List.length ([([116, 111, 107, 101, 110] : List UInt8), q.1, a8, b0] : List (List UInt8))))] ∧ SP [] w0 w [Q7 5 eU8 b6 b7 b2, Qw m 93 #[(pt m 0), (.slice b6 (List.length b2) b7)], Qw a4 37 #[(.string ⟨List.toArray q.1⟩), (.string ⟨List.toArray q.2.1⟩), (.int .i64 q.2.2)], rdE eU8 (some ⟨e7, 0, none⟩) e8 q.2.1, Q7 9 Qo (some ⟨d3, 0, none⟩) (List.length ([([116, 111, 107, 101, 110] : List UInt8), q.1, a8, b0] : List (List UInt8))) ([([116, 111, 107, 101, 110] : List UInt8), q.1, a8, b0] : List (List UInt8))]), ([5, 6, 9, 10, 11], fun vs w => ∃ (i1 : Nat), ∃ (i2 : Nat), ∃ (i3 : Nat), ∃ (f7 : Option Addr), ∃ (f8 : Nat), VL vs [(.slice (some ⟨i1, 0, none⟩) (List.length q.2.1) i2), (.string ⟨List.toArray a8⟩), (.string ⟨List.toArray b0⟩), (.slice (some ⟨i3, 0, none⟩) (List.length ([([116, 111, 107, 101, 110] : List UInt8), q.1, a8, b0] : List (List UInt8))) (List.length ([([116, 111, 107, 101, 110] : List UInt8), q.1, a8, b0] : List (List UInt8)))), (.tuple #[])] ∧ SP [] w0 w [Qw a4 37 #[(.string ⟨List.toArray q.1⟩), (.string ⟨List.toArray q.2.1⟩), (.int .i64 q.2.2)], rdE eU8 (some ⟨i1, 0, none⟩) i2 q.2.1, Q7 9 Qo (some ⟨i3, 0, none⟩) (List.length ([([116, 111, 107, 101, 110] : List UInt8), q.1, a8, b0] : List (List UInt8))) ([([116, 111, 107, 101, 110] : List UInt8), q.1, a8, b0] : List (List UInt8)), Qw m 93 #[(pt m 0), (.slice f7 (List.length e0) f8)], Q7 5 eU8 f7 f8 e0])] 12 5 ⟨trivial, SP.drew v7⟩ ?_ ?_
          iterate 12 refine And.intro ?_ ?_
          exact trivial
          ·exact oV (hC (hS 4 (.func (.func 56) #[] #[(pt m 0)])) (h0)) (.func (.func 56) #[] #[(pt m 0)])
          ·exact oV (hC (hS 10 (pt a4 0)) (h0)) (pt a4 0)
          ·refine Owe.light K [0, 1, 2, 3] K (Qb ?_ (Qb ?_ (Qb ?_ (Qb ?_ Q8))))
           ·rintro ρ' w' hs s ⟨ae7, w3⟩
            refine kM (kc (kA s 1 69) k0) fun p => ?_
            refine sL 9 69 a4 0 2 (.string ⟨List.toArray q.1⟩) 70 w3 rfl ?_
            exact eK p
           ·rintro ρ' w' hs s ⟨c8, c9, ⟨ae8, -⟩, w4⟩
            refine kM (kc (kA s 1 69) k0) fun p => ?_
            refine sL 9 69 a4 0 2 (.string ⟨List.toArray q.1⟩) 70 w4 rfl ?_
            exact eK p
           ·rintro ρ' w' hs s ⟨e1, e2, ⟨ae9, af0, -⟩, w5⟩
            refine kM (kc (kA s 1 69) k0) fun p => ?_
            refine sL 9 69 a4 0 2 (.string ⟨List.toArray q.1⟩) 70 w5 rfl ?_
            exact eK p
           ·rintro ρ' w' hs s ⟨e5, e6, ⟨af1, af2, af3, -⟩, w6⟩
            refine kM (kc (kA s 1 69) k0) fun p => ?_
            refine sL 9 69 a4 0 2 (.string ⟨List.toArray q.1⟩) 70 w6 rfl ?_
            exact eK p
          ·exact oV (hC (hS 10 (pt a4 0)) (h0)) (pt a4 1)
          ·refine oL 0 ?_
           ·rintro ρ' w' hs s ⟨af4, w7⟩
            refine kM (kc (kA s 3 71) k0) fun p => ?_
            refine sL 9 71 a4 1 2 (.string ⟨List.toArray q.2.1⟩) 72 w7 rfl ?_
            exact eK p
          ·refine oH 0 1 ?_
           ·rintro ρ' w' hs s ⟨af5, w8⟩
            refine kM (kc (kA s 4 72) k0) fun p => ?_
            refine Dr (S' := 9) (T := 48) (E := 5) (x := (.tmp 72)) (l := q.2.1) (d := (some 73)) (k := 5) K rfl K K K K (Ds v8) w8 ?_
            intro m1 m2 w9 m3 _
            have x0 : SP [] w0 w9 [Q7 5 eU8 b6 b7 b2, Qw m 93 #[(pt m 0), (.slice b6 (List.length b2) b7)], Qw a4 37 #[(.string ⟨List.toArray q.1⟩), (.string ⟨List.toArray q.2.1⟩), (.int .i64 q.2.2)], rdE eU8 (some ⟨m1, 0, none⟩) m2 q.2.1] := m3
            clear m3
            refine ⟨_, Qa p, trivial, ?_⟩
            exact (Exists.intro m1 (Exists.intro m2 (And.intro (And.intro rfl (trivial)) x0)))
          ·refine oH 1 2 ?_
           ·rintro ρ' w' hs s ⟨c8, c9, ⟨m4, -⟩, m5⟩
            refine kN [(73, (.slice (some ⟨c8, 0, none⟩) (List.length q.2.1) c9))] ⟨(Vp (h := 5) K).symm.trans m4, trivial⟩ fun p => ?_
            refine cF 61 #[(.tmp 73)] #[48] 74 Tryz.call61 (Dk (some ⟨c8, 0, none⟩) c9 q.2.1 w' (rdE_rd (SP.get m5 (i := 3) rfl)) a8 v9) ?_
            rintro e af6 ⟨rfl, m6⟩
            refine ⟨_, rfl, ?_⟩
            have x1 := SP.call m5 m6
            clear m6
            refine ⟨_, Qa p, rfl, ?_⟩
            exact (Exists.intro c8 (Exists.intro c9 (And.intro (And.intro m4 (And.intro rfl (trivial))) x1)))
          ·exact oV (hC (hS 10 (pt a4 0)) (h0)) (pt a4 2)
          ·refine Owe.light K [0, 1, 2] K (Qb ?_ (Qb ?_ (Qb ?_ Q8)))
           ·rintro ρ' w' hs s ⟨af7, x2⟩
            refine kM (kc (kA s 7 75) k0) fun p => ?_
            refine sL 2 75 a4 2 2 (.int .i64 q.2.2) 76 x2 rfl ?_
            exact eK p
           ·rintro ρ' w' hs s ⟨c8, c9, ⟨af8, -⟩, x3⟩
            refine kM (kc (kA s 7 75) k0) fun p => ?_
            refine sL 2 75 a4 2 2 (.int .i64 q.2.2) 76 x3 rfl ?_
            exact eK p
           ·rintro ρ' w' hs s ⟨e1, e2, ⟨af9, ag0, -⟩, x4⟩
            refine kM (kc (kA s 7 75) k0) fun p => ?_
            refine sL 2 75 a4 2 2 (.int .i64 q.2.2) 76 x4 rfl ?_
            exact eK p
          ·refine oH 2 3 ?_
           ·rintro ρ' w' hs s ⟨e1, e2, ⟨x5, x6, -⟩, m7⟩
            refine kM (kc (kA s 8 76) k0) fun p => ?_
            refine cF 59 #[(.tmp 76)] #[2] 77 Tryz.call59 (Vr  q.2.2 w' (Qz hL (SP.keeps m7)) b0 w1) ?_
            rintro e ag1 ⟨rfl, m8⟩
            refine ⟨_, rfl, ?_⟩
            have x7 := SP.call m7 m8
            clear m8
            refine ⟨_, Qa p, rfl, ?_⟩
            exact (Exists.intro e1 (Exists.intro e2 (And.intro (And.intro x5 (And.intro x6 (And.intro rfl (trivial)))) x7)))
          ·refine oH 3 4 ?_
           ·rintro ρ' w' hs s ⟨e5, e6, ⟨x8, m9, n0, -⟩, x9⟩
            refine kN [(70, (.string ⟨List.toArray q.1⟩)), (74, (.string ⟨List.toArray a8⟩)), (77, (.string ⟨List.toArray b0⟩))] ⟨s 2 70 K, (Vp (h := 6) K).symm.trans m9, (Vp (h := 9) K).symm.trans n0, trivial⟩ fun p => ?_
            refine Zk (e := Qo) (T := 79) (E := 9) (len := 4) (parts := #[(0, (.const (.string ⟨List.toArray ([116, 111, 107, 101, 110] : List UInt8)⟩))), (1, (.tmp 70)), (2, (.tmp 74)), (3, (.tmp 77))]) (cs := #[(.string ⟨List.toArray ([116, 111, 107, 101, 110] : List UInt8)⟩), (.string ⟨List.toArray q.1⟩), (.string ⟨List.toArray a8⟩), (.string ⟨List.toArray b0⟩)]) ([([116, 111, 107, 101, 110] : List UInt8), q.1, a8, b0] : List (List UInt8)) (d := (some 78)) (k := 10) K rfl (fun _ => K) x9 rfl rfl rfl rfl ?_
            intro y0 ag2 y1
            refine ⟨_, Qa p, trivial, ?_⟩
            exact (Exists.intro e5 (Exists.intro e6 (Exists.intro y0 (And.intro (And.intro x8 (And.intro m9 (And.intro n0 (And.intro rfl (trivial))))) y1))))
          ·refine oH 4 5 ?_
           ·rintro ρ' w' hs s ⟨e7, e8, d3, ⟨y2, y3, y4, n1, -⟩, i4⟩
            refine kN [(68, (.func (.func 56) #[] #[(pt m 0)])), (78, (.slice (some ⟨d3, 0, none⟩) (List.length ([([116, 111, 107, 101, 110] : List UInt8), q.1, a8, b0] : List (List UInt8))) (List.length ([([116, 111, 107, 101, 110] : List UInt8), q.1, a8, b0] : List (List UInt8)))))] ⟨s 0 68 K, (Vp (h := 10) K).symm.trans n1, trivial⟩ fun p => ?_
            refine Xf (f := 56) (fo := (.tmp 68)) (xs := #[(.tmp 78)]) (tys := #[79]) (first := #[]) (captured := #[(pt m 0)]) (d := (some 79)) (k := 11) K rfl K K Tryz.call56 (X3 (some ⟨d3, 0, none⟩) (List.length ([([116, 111, 107, 101, 110] : List UInt8), q.1, a8, b0] : List (List UInt8))) m (pt m 0) b6 b7 ([([116, 111, 107, 101, 110] : List UInt8), q.1, a8, b0] : List (List UInt8)) b2 w' (Y2 i4 [1, 0] rfl rfl) (fun w hm => (Vl (SP.still i4 (l := [1, 0]) (i := 4) rfl rfl rfl hm))) (.inr rfl) e0 w2) ?_
            rintro e y5 ⟨i5, i6, rfl, n2⟩
            refine ⟨_, rfl, ?_⟩
            have y6 : SP [] w0 y5 [Qw a4 37 #[(.string ⟨List.toArray q.1⟩), (.string ⟨List.toArray q.2.1⟩), (.int .i64 q.2.2)], rdE eU8 (some ⟨e7, 0, none⟩) e8 q.2.1, Q7 9 Qo (some ⟨d3, 0, none⟩) (List.length ([([116, 111, 107, 101, 110] : List UInt8), q.1, a8, b0] : List (List UInt8))) ([([116, 111, 107, 101, 110] : List UInt8), q.1, a8, b0] : List (List UInt8)), Qw m 93 #[(pt m 0), (.slice i5 (List.length e0) i6)], Q7 5 eU8 i5 i6 e0] := Zm i4 [1, 0] [2, 3, 4] rfl rfl n2 rfl
            clear n2
            refine ⟨_, Qa p, rfl, ?_⟩
            exact (Exists.intro e7 (Exists.intro e8 (Exists.intro d3 (Exists.intro i5 (Exists.intro i6 (And.intro (And.intro y2 (And.intro y3 (And.intro y4 (And.intro n1 (And.intro rfl (trivial)))))) y6))))))
          ·rintro ρ' w' hs hf ⟨i1, i2, i3, f7, f8, ⟨ag3, ag4, ag5, ag6, ag7, -⟩, n3⟩
           refine V7 [(3, (pt m 0)), (4, (.func (.func 56) #[] #[(pt m 0)])), (31, (.slice A6 (List.length (List.map stT d9)) c7)), (32, (.int .i64 ((List.length (List.map stT d9) : Nat) : Int))), (33, (.int .i64 a1)), (62, (.slice a.2.2.2.2.1 (List.length (stT a).2.2.2.2) a.2.2.2.2.2.1)), (63, (.int .i64 ((List.length (stT a).2.2.2.2 : Nat) : Int))), (64, (.int .i64 c1))] ⟨(hs 3 K).trans K, (hs 4 K).trans K, (hs 31 K).trans K, (hs 32 K).trans K, (hs 33 K).trans K, (hs 62 K).trans K, (hs 63 K).trans K, (hs 64 K).trans K, trivial⟩ ?_
           obtain ⟨ag8, y7⟩ : ∃ x, w' = x := ⟨_, rfl⟩
           rw [y7] at n3 ⊢
           refine aR ?_
           refine iR 2 2 [(80, (.int .i64 (IntKind.wrap .i64 (c1 + 1)))), (64, (.int .i64 (IntKind.wrap .i64 (c1 + 1))))] ?_
           refine iF ?_
           exact ⟨e0, (IntKind.wrap .i64 (c1 + 1)), f7, f8, ⟨K, K, K, K, K, K, K, K, trivial⟩, SP.sel n3 [4, 3] rfl rfl, H⟩
         ·have H := cf H i0
          refine At.exit K (id := 4) K ?_
          refine aR ?_
          refine iR 2 2 [(81, (.int .i64 (IntKind.wrap .i64 (a1 + 1)))), (33, (.int .i64 (IntKind.wrap .i64 (a1 + 1))))] ?_
          refine iF ?_
          exact ⟨b2, (IntKind.wrap .i64 (a1 + 1)), b6, b7, ⟨K, K, K, K, K, trivial⟩, SP.sel f6 [0, 1] rfl rfl, H⟩
        ·exact ⟨c6, 0, d7, d8, ⟨K, K, K, K, K, K, K, K, trivial⟩, SP.sel e4 [0, 1] rfl rfl, H⟩
      ·exact ⟨d5, 0, f3, f4, ⟨K, K, K, K, K, K, K, K, K, trivial⟩, SP.sel h2 [3, 2, 0] rfl rfl, H⟩
    ·have H := cf H g6
     refine At.exit K (id := 0) K ?_
     refine aQ ?_
     refine aR ?_
     refine iS 1 ?_
     refine cF 62 #[(.tmp 3)] #[93] 82 Tryz.call62 (Ig (g := m) (v := (pt m 0)) (A := b9) (c := c0) (l := b5) f2 (i := 1) (j := 0) rfl rfl (by decide) (.inr rfl)) ?_
     rintro e y8 ⟨rfl, n4⟩
     refine ⟨_, rfl, ?_⟩
     have y9 : SP [] w0 y8 [] := n4
     clear n4
     refine iR 1 2 [(2, (.string ⟨List.toArray b5⟩))] ?_
     refine iF ?_
     refine At.ret K ?_
     refine ⟨(.string ⟨List.toArray b5⟩), K, ?_⟩
     obtain rfl := Qf H
     exact ⟨rfl, SP.sel y9 [] rfl rfl⟩
   ·exact ⟨d4, 0, f0, f1, ⟨K, K, K, K, K, trivial⟩, SP.sel g5 [3, 2] rfl rfl, H⟩
end Go.Proofs.YtoflbpmbkmephaaGreatDoor
namespace Go.Proofs.YtoflbpmbkmephaaGreatDoor
open Go.RowKit
def lineT (ws : List Str) : Str := B9 32 ws ++ [10]
def netW (n : H1) : List Str := [N9, Bm n.1.toNat n.2]
def tokW (x : Fa) : List Str := [Y7, x.1, hexL x.2.1, Fn x.2.2]
def tenW (t : Qe) : List Str := [Zz, t.1, Fn t.2.1, Fn t.2.2.1]
def Fj (c : Nj) : List Str := [Za, Fn c.1, Fn c.2.1, Fn c.2.2.1, Fn c.2.2.2.1]
def D6 (t : Qe) : List (List Str) := tenW t :: (t.2.2.2.1.map netW ++ t.2.2.2.2.map tokW)
def B1 (c : Nj) : List (List Str) := Fj c :: c.2.2.2.2.flatMap D6
def printC (c : Nj) : Str := if okC c = true then (B1 c).flatMap lineT else []
end Go.Proofs.YtoflbpmbkmephaaGreatDoor
namespace Go.Proofs.YtoflbpmbkmephaaGreatDoor
open Go.RowKit
open Go.Lib (decDigits)
theorem R8 (c : Nj) (l : List Qe) (t : Qe) : B1 (putT c (l ++ [t])) = (Fj c :: l.flatMap D6) ++ D6 t := by
  unfold B1 putT
  simp [Fj]
theorem tenLs_net {t : Qe} (n : H1) (h : t.2.2.2.2 = []) : D6 (Cw t n) = D6 t ++ [netW n] := by
  unfold D6 Cw
  simp [h, tenW]
theorem tenLs_tok (t : Qe) (x : Fa) : D6 (Cx t x) = D6 t ++ [tokW x] := by
  unfold D6 Cx
  simp [tenW]
theorem Ih {c c' : Nj} {f : Bool} {ws : List Str} (h : Ek c f ws = some c') : B1 c' = (if f = true then [] else B1 c) ++ [ws] := by
  obtain ⟨k, q, rfl, hf, hw, ho⟩ := Cz h
  unfold U7 at hw
  have lastE : ∀ t : Qe, c.2.2.2.2.getLast? = some t → B1 c = (Fj c :: c.2.2.2.2.dropLast.flatMap D6) ++ D6 t := by
    intro t ht
    have := R8 c c.2.2.2.2.dropLast t
    rw [← Ha ht] at this
    exact this
  split at hw
  · rename_i hk
    subst hk
    have hf : f = true := by simpa using hf
    rw [if_pos hf]
    split at hw
    · simp only [Option.bind_eq_some_iff, Option.map_eq_some_iff] at hw
      obtain ⟨n1, h1, n2, h2, n3, h3, n4, h4, rfl⟩ := hw
      unfold B1 Fj
      simp [(U5 h1).1, (U5 h2).1, (U5 h3).1, (U5 h4).1]
    · cases hw
  · rename_i hk
    have hf : f = false := by
      rw [beq_eq_false_iff_ne.2 hk] at hf
      cases f
      · rfl
      · cases hf
    rw [if_neg (by rw [hf]; decide)]
    split at hw
    · split at hw
      · simp only [Option.bind_eq_some_iff, Option.map_eq_some_iff] at hw
        obtain ⟨n, h1, m, h2, rfl⟩ := hw
        rename_i hkt _ _ _ _
        rw [R8, hkt]
        unfold B1 D6 tenW
        simp [(U5 h1).1, (U5 h2).1]
      · cases hw
    · split at hw
      · split at hw
        · simp only [Option.bind_eq_some_iff] at hw
          obtain ⟨t, ht, hw⟩ := hw
          split at hw
          · rename_i hkt _ _ h0
            simp only [Option.map_eq_some_iff] at hw
            obtain ⟨⟨x, y⟩, hn, rfl⟩ := hw
            have hs := (Fe hn).1
            rw [R8, tenLs_net _ h0, lastE t ht, hkt]
            unfold netW
            simp [hs]
          · cases hw
        · cases hw
      · split at hw
        · split at hw
          · simp only [Option.bind_eq_some_iff, Option.map_eq_some_iff] at hw
            obtain ⟨t, ht, x, hx, n, hn, rfl⟩ := hw
            rename_i hkt _ _ _ _
            rw [R8, tenLs_tok, lastE t ht, hkt]
            unfold tokW
            simp [Dl hx, (U5 hn).1]
          · cases hw
        · cases hw
theorem B2 : ∀ (ps : List Str) (c c' : Nj) (n n' : Nat), En ps c n = .inr (c', n') → B1 c' = (if n = 0 ∧ ps ≠ [] then [] else B1 c) ++ ps.map (Qk 32) ∧ n' = n + ps.length
  | [], c, c', n, n', h => by
    injection h with h
    injection h with h1 h2
    subst h1 h2
    simp
  | p :: ps, c, c', n, n', h => by
    unfold En at h
    cases hw : Ek c (decide (n = 0)) (Qk 32 p) with
    | none => rw [hw] at h; cases h
    | some c1 =>
      rw [hw] at h
      obtain ⟨h1, h2⟩ := B2 ps c1 c' (n + 1) n' h
      have h3 := Ih hw
      rw [h1, if_neg (by simp), h3]
      refine ⟨?_, by simp; omega⟩
      by_cases h0 : n = 0
      · rw [if_pos (decide_eq_true h0), if_pos ⟨h0, by simp⟩]
        simp
      · rw [if_neg (by simpa using h0), if_neg (fun h => h0 h.1)]
        simp
theorem Fk (p : Str) (ps : List Str) (c : Nj) (n : Nat) : En (p :: ps) c n = match Ek c (decide (n = 0)) (Qk 32 p) with
    | none => .inl n
    | some c' => En ps c' (n + 1) := rfl
theorem Hq : ∀ (ps qs : List Str) (c : Nj) (n : Nat), En (ps ++ qs) c n = match En ps c n with | .inl a => .inl a | .inr (c', n') => En qs c' n'
  | [], qs, c, n => rfl
  | p :: ps, qs, c, n => by
    rw [List.cons_append, Fk, Fk]
    cases Ek c (decide (n = 0)) (Qk 32 p) with
    | none => rfl
    | some c1 => exact Hq ps qs c1 (n + 1)
theorem C0 : ∀ ps : List Str, (∀ p ∈ ps, (10 : UInt8) ∉ p) → ∀ r : Str, Qk 10 (ps.flatMap (fun p => p ++ [10]) ++ r) = ps ++ Qk 10 r
  | [], _, r => rfl
  | p :: ps, h, r => by
    rw [List.flatMap_cons, List.append_assoc, List.append_assoc, List.cons_append, List.nil_append, Dj 10 p _ (h p (by simp)), C0 ps (fun q hq => h q (by simp [hq])) r]
    rfl
theorem C1 (c : UInt8) : ∀ (ps : List Str) (q : Str), B9 c (ps ++ [q]) = ps.flatMap (fun p => p ++ [c]) ++ q
  | [], q => rfl
  | [p], q => by simp [B9]
  | p :: p2 :: ps, q => by
    have := C1 c (p2 :: ps) q
    rw [List.cons_append] at this
    show B9 c (p :: p2 :: (ps ++ [q])) = _
    rw [B9, this]
    simp
theorem Dn (s : Str) : s = (Qk 10 s).dropLast.flatMap (fun p => p ++ [10]) ++ (Qk 10 s).getLastD [] := by
  have h := G4 10 s
  rw [Dm 10 s, C1] at h
  rw [Dm 10 s, List.dropLast_concat] at *
  simpa using h.symm
theorem Fl {c : Nj} (ho : okC c = true) : printC c = ((B1 c).map (B9 32)).flatMap (fun p => p ++ [10]) := by
  unfold printC
  rw [if_pos ho, List.flatMap_map]
  rfl
theorem B3 {s : Str} (h : (J0 s).2.2.2.2.2.1 = 0) : ∃ c : Nj, J0 s = (c.1, c.2.1, c.2.2.1, c.2.2.2.1, c.2.2.2.2, 0, 0) ∧ okC c = true ∧ Hn 0 c ∧ printC c = s ∧ s.length ≤ 4096 ∧ ∃ n, En (Qk 10 s).dropLast c0C 0 = .inr (c, n) ∧ 0 < n ∧ n = (Qk 10 s).dropLast.length ∧ (Qk 10 s).getLastD [] = [] := by
  unfold J0 at h ⊢
  by_cases hl : 4096 < s.length
  · rw [if_pos hl] at h
    cases h
  · rw [if_neg hl] at h ⊢
    cases hr : En (Qk 10 s).dropLast c0C 0 with
    | inl n =>
      rw [hr] at h
      cases h
    | inr cn =>
      obtain ⟨c, n⟩ := cn
      rw [hr] at h
      unfold finC at h ⊢
      simp only at h ⊢
      by_cases hn : (Qk 10 s).getLastD [] ≠ [] ∨ n = 0
      · rw [if_pos hn] at h
        cases h
      · rw [if_neg hn]
        have hlen := Jl 10 s
        have hcnt := U3 10 s
        have hc2 : s.count 10 ≤ s.length := List.count_le_length
        obtain ⟨_, h2⟩ := B0 (Qk 10 s).dropLast c0C 0 bnd_c0 (fun _ => rfl) (by rw [List.length_dropLast]; omega) fun p hp => by have := hlen p (List.dropLast_subset _ hp); omega
        obtain ⟨e1, e2, e3, e4⟩ := h2 c n hr
        have hn0 : n ≠ 0 := fun e => hn (.inr e)
        have hlast : (Qk 10 s).getLastD [] = [] := Decidable.byContradiction fun e => hn (.inl e)
        have ho := e4 (by omega)
        obtain ⟨p1, p2⟩ := B2 _ _ _ _ _ hr
        have hne : (Qk 10 s).dropLast ≠ [] := fun e => by rw [e] at p2; simp at p2; exact hn0 p2
        rw [if_pos ⟨rfl, hne⟩, List.nil_append] at p1
        refine ⟨c, rfl, ho, e2, ?_, by omega, n, rfl, by omega, by omega, hlast⟩
        rw [Fl ho, p1, List.map_map, show (B9 32 ∘ Qk 32) = id from funext fun p => G4 32 p, List.map_id]
        have := Dn s
        rw [hlast, List.append_nil] at this
        exact this.symm
end Go.Proofs.YtoflbpmbkmephaaGreatDoor
namespace Go.Proofs.YtoflbpmbkmephaaGreatDoor
open Go.RowKit
def J4 (a : (List UInt8)) (c : Int) (d : Int) (e : (List (Int × Int))) (f : (List ((List UInt8) × (List UInt8) × Int))) (b : (List UInt8)) : Option (Bool) :=
  (some ((a == b)))
set_option maxHeartbeats 40000000 in
theorem Rc (A5 : Option Addr) (c6 : Nat) (A9 : Option Addr) (j : Nat) (l : Nat) (c : (List UInt8)) (m : Int) (o : Int) (h : (List (Int × Int))) (i : (List ((List UInt8) × (List UInt8) × Int))) (f : (List UInt8)) (w0 : World) (u : RdT (Qg (Ve .u32) (Ve .i64)) w0 A5 c6 h) (w : RdT (Qg Qo (Qg Qo (Ve .i64))) w0 A9 j i) (hg13 : w0.heap[l]? = some (.cells #[(.string ⟨List.toArray f⟩)] 9 (0, 0))) (r : (Bool)) (H : J4 c m o h i f = some r) :
  Calls Tryz.prog 45 #[(.agg #[(.string ⟨List.toArray c⟩), (.int .i64 m), (.int .i64 o), (.slice A5 (List.length h) c6), (.slice A9 (List.length i) j)]), (pt l 0)] w0 (fun e w' => e = .returned (.bool r) ∧ SP [] w0 w' []) := by
 unfold J4 at H
 refine Qv (n := 8) Tryz.func45 K K K ?_
 have s := Q0 [] w0
 refine aQ ?_
 refine aR ?_
 refine iS 1 ?_
 refine Xp (t := 33) (x := (.tmp 0)) (v := (.agg #[(.string ⟨List.toArray c⟩), (.int .i64 m), (.int .i64 o), (.slice A5 (List.length h) c6), (.slice A9 (List.length i) j)])) (d := (some 2)) (k := 0) K rfl K s ?_
 intro q z p
 refine iR 1 2 [(3, (.bool false))] ?_
 refine iF ?_
 refine aQ ?_
 refine aR ?_
 refine iR 1 1 [(4, (pt q 0))] ?_
 refine iS 2 ?_
 refine sL 9 4 q 0 0 (.string ⟨List.toArray c⟩) 5 p rfl ?_
 refine iS 3 ?_
 refine Ck (t := 9) (t' := 9) (x := (.tmp 1)) (g := l) (off := 0) (cs := #[(.string ⟨List.toArray f⟩)]) (v := (.string ⟨List.toArray f⟩)) (d := (some 6)) (k := 2) K rfl K (Rv hg13 (SP.keeps p)) K ?_
 refine iS 4 ?_
 refine Xs (op := .eql) (T := 9) (T' := 9) (x := (.tmp 5)) (y := (.tmp 6)) (a := c) (b := f) (r := (.bool (c == f))) (d := (some 7)) (k := 3) K rfl K K rfl ?_
 refine iR 1 5 [(3, (.bool (c == f)))] ?_
 refine iF ?_
 refine At.ret K ?_
 refine ⟨(.bool (c == f)), K, ?_⟩
 obtain rfl := Qf H
 exact ⟨rfl, SP.sel p [] rfl rfl⟩
def Gb (e : Int) (f : Int) (g : Int) (h : Int) (b : (List Qe)) (d : (List UInt8)) : Option ((List UInt8) × Int × Int × (List (Int × Int)) × (List ((List UInt8) × (List UInt8) × Int)) × Bool) :=
  ((Q6 b (fun y0 y1 y2 y3 y4 => J4 y0 y1 y2 y3 y4 d)).bind fun c => (cond (decide (c < 0)) (some (([] : List UInt8), 0, 0, ([] : List (Int × Int)), ([] : List ((List UInt8) × (List UInt8) × Int)), false)) ((idx b c).bind fun a => (some (a.1, a.2.1, a.2.2.1, a.2.2.2.1, a.2.2.2.2, true)))))
set_option maxHeartbeats 40000000 in
theorem R9 {R : World → Prop} (A6 : Option Addr) (c7 : Nat) (a1 : Int) (a2 : Int) (a3 : Int) (a4 : Int) (d9 : (List Qx)) (j : (List UInt8)) (w0 : World) (hR : ∀ w, Below w0.heap.size w0 w → R w) (m : ∀ w, R w → (dDS Zh H0).ok w (A6, c7, d9)) (r : ((List UInt8) × Int × Int × (List (Int × Int)) × (List ((List UInt8) × (List UInt8) × Int)) × Bool)) (H : Gb a1 a2 a3 a4 (List.map stT d9) j = some r) :
  Calls Tryz.prog 18 #[(.agg #[(.int .i64 a1), (.int .i64 a2), (.int .i64 a3), (.int .i64 a4), (.slice A6 (List.length (List.map stT d9)) c7)]), (.string ⟨List.toArray j⟩)] w0 (fun e w' => ∃ (a8 : Option Addr) (a9 : Nat) (b0 : Option Addr) (b1 : Nat), e = .returned (.tuple #[(.agg #[(.string ⟨List.toArray r.1⟩), (.int .i64 r.2.1), (.int .i64 r.2.2.1), (.slice a8 (List.length r.2.2.2.1) a9), (.slice b0 (List.length r.2.2.2.2.1) b1)]), (.bool r.2.2.2.2.2)]) ∧ (∀ w, R w → RdT (Qg (Ve .u32) (Ve .i64)) w a8 a9 r.2.2.2.1) ∧ (∀ w, R w → RdT (Qg Qo (Qg Qo (Ve .i64))) w b0 b1 r.2.2.2.2.1) ∧ SP [] w0 w' []) := by
 unfold Gb at H
 refine Qv (n := 19) Tryz.func18 K K K ?_
 have b8 := Q0 [] w0
 refine aQ ?_
 refine aR ?_
 refine iS 1 ?_
 refine Xp (t := 24) (x := (.tmp 0)) (v := (.agg #[(.int .i64 a1), (.int .i64 a2), (.int .i64 a3), (.int .i64 a4), (.slice A6 (List.length (List.map stT d9)) c7)])) (d := (some 2)) (k := 0) K rfl K b8 ?_
 intro q c5 b9
 refine iS 2 ?_
 refine Xp (t := 9) (x := (.tmp 1)) (v := (.string ⟨List.toArray j⟩)) (d := (some 3)) (k := 1) K rfl K b9 ?_
 intro s c6 c0
 refine iS 3 ?_
 refine Qi.alloc (t := 33) (z := (.agg #[(.string ⟨List.toArray ([] : List UInt8)⟩), (.int .i64 0), (.int .i64 0), (.slice none (List.length ([] : List (Int × Int))) 0), (.slice none (List.length ([] : List ((List UInt8) × (List UInt8) × Int))) 0)])) (d := (some 4)) (k := 2) K rfl K c0 ?_
 intro u a5 a0
 refine iR 1 4 [(5, (.bool false))] ?_
 refine iF ?_
 refine aQ ?_
 refine aR ?_
 refine iR 1 1 [(7, (pt q 4))] ?_
 refine iS 2 ?_
 refine sL 22 7 q 4 0 (.slice A6 (List.length (List.map stT d9)) c7) 8 a0 rfl ?_
 refine iR 1 3 [(9, (.func (.func 45) #[] #[(pt s 0)]))] ?_
 obtain ⟨h, c1, H⟩ := Qc H
 refine iS 4 ?_
 refine cF 44 #[(.tmp 8), (.tmp 9)] #[22, 82] 10 Tryz.call44 (Zb A6 c7 45 #[(pt s 0)] d9 (fun y0 y1 y2 y3 y4 => J4 y0 y1 y2 y3 y4 j) a5 (m a5 (hR _ (SP.keeps a0))) Tryz.call45 (fun y0 y1 y2 y3 y4 z w Ay3 cy3 Ay4 cy4 hw hy3 hy4 hz => Rc Ay3 cy3 Ay4 cy4 s y0 y1 y2 y3 y4 j w hy3 hy4 (Rv (show a5.heap[s]? = some (.cells #[(.string ⟨List.toArray j⟩)] 9 (0, 0)) from SP.get a0 (i := 1) rfl) hw) z hz) h c1) ?_
 rintro e b2 ⟨rfl, b3⟩
 refine ⟨_, rfl, ?_⟩
 have p := SP.call a0 b3
 clear b3
 refine iR 1 5 [(6, (.int .i64 h))] ?_
 refine iF ?_
 refine aQ ?_
 refine aQ ?_
 refine aR ?_
 refine iR 2 2 [(11, (.int .i64 h)), (12, (.bool (decide (h < 0))))] ?_
 refine iF ?_
 refine Xe K (o := (.tmp 12)) K (b := (decide (h < 0))) K (fun a6 => ?_) (fun a6 => ?_)
 ·have H := ct H a6
  refine aQ ?_
  refine aR ?_
  refine iR 1 1 [(13, (.agg #[(.string ⟨List.toArray ([] : List UInt8)⟩), (.int .i64 0), (.int .i64 0), (.slice none (List.length ([] : List (Int × Int))) 0), (.slice none (List.length ([] : List ((List UInt8) × (List UInt8) × Int))) 0)]))] ?_
  refine iS 2 ?_
  refine Qi.store (t := 33) (x := (.tmp 4)) (y := (.tmp 13)) (g := u) (off := 0) (i := 2) (v := (.agg #[(.string ⟨List.toArray ([] : List UInt8)⟩), (.int .i64 0), (.int .i64 0), (.slice none (List.length ([] : List (Int × Int))) 0), (.slice none (List.length ([] : List ((List UInt8) × (List UInt8) × Int))) 0)])) (cs' := #[(.string ⟨List.toArray ([] : List UInt8)⟩), (.int .i64 0), (.int .i64 0), (.slice none (List.length ([] : List (Int × Int))) 0), (.slice none (List.length ([] : List ((List UInt8) × (List UInt8) × Int))) 0)]) (d := none) (k := 1) K rfl K K p rfl K ?_
  intro c8 b4
  refine iR 1 3 [(5, (.bool false))] ?_
  refine iF ?_
  refine At.ret K ?_
  refine ⟨(.tuple #[(.agg #[(.string ⟨List.toArray ([] : List UInt8)⟩), (.int .i64 0), (.int .i64 0), (.slice none (List.length ([] : List (Int × Int))) 0), (.slice none (List.length ([] : List ((List UInt8) × (List UInt8) × Int))) 0)]), (.bool false)]), Hx K (Dd (a := 4) (t := 33) (g := u) (off := 0) K (SP.get b4 (i := 2) rfl) K) (Cm (t := 5) K), ?_⟩
  obtain rfl := Qf H
  exact ⟨none, 0, none, 0, rfl, (fun w _ => RdT.nil (Qg (Ve .u32) (Ve .i64)) w), (fun w _ => RdT.nil (Qg Qo (Qg Qo (Ve .i64))) w), SP.sel b4 [] rfl rfl⟩
 ·have H := cf H a6
  refine At.skip K ?_
  refine aQ ?_
  refine aR ?_
  refine iR 1 1 [(14, (pt q 4))] ?_
  refine iS 2 ?_
  refine sL 22 14 q 4 0 (.slice A6 (List.length (List.map stT d9)) c7) 15 p rfl ?_
  refine iR 1 3 [(16, (.int .i64 h))] ?_
  obtain ⟨f, b5, b6, a7, H⟩ := Nr H
  refine iS 4 ?_
  refine Ub stT (e := Zh) (l := d9) (A := A6) (c := c7) (T := 22) (E := 33) (x := (.tmp 15)) (ix := (.tmp 16)) (ki := .i64) (iz := h) (d := (some 17)) (k := 3) K rfl K K K K ((fun w hm => (Uk (m w hm))) b2 (hR _ (SP.keeps p))) b5 b6 ?_
  intro c2 c3 c4 c9 hc46
  refine iS 5 ?_
  refine Qi.cells (t := 33) (x := (.tmp 17)) (b := c2) (off := (c3 + Int.toNat h * Zh.sz)) (xs := [(.string ⟨List.toArray (stT f).1⟩), (.int .i64 (stT f).2.1), (.int .i64 (stT f).2.2.1), (.slice f.2.2.2.1.1 (List.length (stT f).2.2.2.1) f.2.2.2.1.2.1), (.slice f.2.2.2.2.1 (List.length (stT f).2.2.2.2) f.2.2.2.2.2.1)]) (d := (some 18)) (k := 4) K rfl K K K (Zl (e := Zh) (Qm ((fun w hm => (Uk (m w hm))) b2 (hR _ (SP.keeps p))) c4 b5 b6) a7 rfl) ?_
  refine iS 6 ?_
  refine Qi.store (t := 33) (x := (.tmp 4)) (y := (.tmp 18)) (g := u) (off := 0) (i := 2) (v := (.agg #[(.string ⟨List.toArray (stT f).1⟩), (.int .i64 (stT f).2.1), (.int .i64 (stT f).2.2.1), (.slice f.2.2.2.1.1 (List.length (stT f).2.2.2.1) f.2.2.2.1.2.1), (.slice f.2.2.2.2.1 (List.length (stT f).2.2.2.2) f.2.2.2.2.2.1)])) (cs' := #[(.string ⟨List.toArray (stT f).1⟩), (.int .i64 (stT f).2.1), (.int .i64 (stT f).2.2.1), (.slice f.2.2.2.1.1 (List.length (stT f).2.2.2.1) f.2.2.2.1.2.1), (.slice f.2.2.2.2.1 (List.length (stT f).2.2.2.2) f.2.2.2.2.2.1)]) (d := none) (k := 5) K rfl K K p rfl K ?_
  intro d0 b7
  refine iR 1 7 [(5, (.bool true))] ?_
  refine iF ?_
  refine At.ret K ?_
  refine ⟨(.tuple #[(.agg #[(.string ⟨List.toArray (stT f).1⟩), (.int .i64 (stT f).2.1), (.int .i64 (stT f).2.2.1), (.slice f.2.2.2.1.1 (List.length (stT f).2.2.2.1) f.2.2.2.1.2.1), (.slice f.2.2.2.2.1 (List.length (stT f).2.2.2.2) f.2.2.2.2.2.1)]), (.bool true)]), Hx K (Dd (a := 4) (t := 33) (g := u) (off := 0) K (SP.get b7 (i := 2) rfl) K) (Cm (t := 5) K), ?_⟩
  obtain rfl := Qf H
  exact ⟨f.2.2.2.1.1, f.2.2.2.1.2.1, f.2.2.2.2.1, f.2.2.2.2.2.1, rfl, (fun w hm => (Uk ((fun w hm => (dp1 (dp2 (dp2 (dp2 (D3 (m w hm) a7)))))) w hm))), (fun w hm => (Uk ((fun w hm => (dp2 (dp2 (dp2 (dp2 (D3 (m w hm) a7)))))) w hm))), SP.sel b7 [] rfl rfl⟩
def Jj (a : (List UInt8)) (b : (List UInt8)) (c : Int) (c6 : (List UInt8)) : Option (Bool) :=
  (some ((a == c6)))
set_option maxHeartbeats 40000000 in
theorem Gy (g4 : Nat) (c : (List UInt8)) (f : (List UInt8)) (h : Int) (c6 : (List UInt8)) (w0 : World) (hg5 : w0.heap[g4]? = some (.cells #[(.string ⟨List.toArray c6⟩)] 9 (0, 0))) (r : (Bool)) (H : Jj c f h c6 = some r) :
  Calls Tryz.prog 47 #[(.agg #[(.string ⟨List.toArray c⟩), (.string ⟨List.toArray f⟩), (.int .i64 h)]), (pt g4 0)] w0 (fun e w' => e = .returned (.bool r) ∧ SP [] w0 w' []) := by
 unfold Jj at H
 refine Qv (n := 8) Tryz.func47 K K K ?_
 have j := Q0 [] w0
 refine aQ ?_
 refine aR ?_
 refine iS 1 ?_
 refine Xp (t := 37) (x := (.tmp 0)) (v := (.agg #[(.string ⟨List.toArray c⟩), (.string ⟨List.toArray f⟩), (.int .i64 h)])) (d := (some 2)) (k := 0) K rfl K j ?_
 intro g7 w8 i
 refine iR 1 2 [(3, (.bool false))] ?_
 refine iF ?_
 refine aQ ?_
 refine aR ?_
 refine iR 1 1 [(4, (pt g7 0))] ?_
 refine iS 2 ?_
 refine sL 9 4 g7 0 0 (.string ⟨List.toArray c⟩) 5 i rfl ?_
 refine iS 3 ?_
 refine Ck (t := 9) (t' := 9) (x := (.tmp 1)) (g := g4) (off := 0) (cs := #[(.string ⟨List.toArray c6⟩)]) (v := (.string ⟨List.toArray c6⟩)) (d := (some 6)) (k := 2) K rfl K (Rv hg5 (SP.keeps i)) K ?_
 refine iS 4 ?_
 refine Xs (op := .eql) (T := 9) (T' := 9) (x := (.tmp 5)) (y := (.tmp 6)) (a := c) (b := c6) (r := (.bool (c == c6))) (d := (some 7)) (k := 3) K rfl K K rfl ?_
 refine iR 1 5 [(3, (.bool (c == c6)))] ?_
 refine iF ?_
 refine At.ret K ?_
 refine ⟨(.bool (c == c6)), K, ?_⟩
 obtain rfl := Qf H
 exact ⟨rfl, SP.sel i [] rfl rfl⟩
def Nl (e : (List UInt8)) (f : Int) (g : Int) (h : (List (Int × Int))) (b : (List ((List UInt8) × (List UInt8) × Int))) (d : (List UInt8)) : Option ((List UInt8) × (List UInt8) × Int × Bool) :=
  ((Q9 b (fun y0 y1 y2 => Jj y0 y1 y2 d)).bind fun c => (cond (decide (c < 0)) (some (([] : List UInt8), ([] : List UInt8), 0, false)) ((idx b c).bind fun a => (some (a.1, a.2.1, a.2.2, true)))))
set_option maxHeartbeats 40000000 in
theorem Rs (A5 : Option Addr) (c6 : Nat) (A9 : Option Addr) (m : Nat) (a3 : (List UInt8)) (a4 : Int) (a5 : Int) (s : (List (Int × Int))) (h : (List ((List UInt8) × (List UInt8) × Int))) (p : (List UInt8)) (w0 : World) (c2 : RdT (Qg (Ve .u32) (Ve .i64)) w0 A5 c6 s) (a6 : RdT (Qg Qo (Qg Qo (Ve .i64))) w0 A9 m h) (r : ((List UInt8) × (List UInt8) × Int × Bool)) (H : Nl a3 a4 a5 s h p = some r) :
  Calls Tryz.prog 20 #[(.agg #[(.string ⟨List.toArray a3⟩), (.int .i64 a4), (.int .i64 a5), (.slice A5 (List.length s) c6), (.slice A9 (List.length h) m)]), (.string ⟨List.toArray p⟩)] w0 (fun e w' => e = .returned (.tuple #[(.agg #[(.string ⟨List.toArray r.1⟩), (.string ⟨List.toArray r.2.1⟩), (.int .i64 r.2.2.1)]), (.bool r.2.2.2)]) ∧ SP [] w0 w' []) := by
 unfold Nl at H
 refine Qv (n := 19) Tryz.func20 K K K ?_
 have b4 := Q0 [] w0
 refine aQ ?_
 refine aR ?_
 refine iS 1 ?_
 refine Xp (t := 33) (x := (.tmp 0)) (v := (.agg #[(.string ⟨List.toArray a3⟩), (.int .i64 a4), (.int .i64 a5), (.slice A5 (List.length s) c6), (.slice A9 (List.length h) m)])) (d := (some 2)) (k := 0) K rfl K b4 ?_
 intro u c3 b5
 refine iS 2 ?_
 refine Xp (t := 9) (x := (.tmp 1)) (v := (.string ⟨List.toArray p⟩)) (d := (some 3)) (k := 1) K rfl K b5 ?_
 intro a0 c4 b6
 refine iS 3 ?_
 refine Qi.alloc (t := 37) (z := (.agg #[(.string ⟨List.toArray ([] : List UInt8)⟩), (.string ⟨List.toArray ([] : List UInt8)⟩), (.int .i64 0)])) (d := (some 4)) (k := 2) K rfl K b6 ?_
 intro a1 a8 a2
 refine iR 1 4 [(5, (.bool false))] ?_
 refine iF ?_
 refine aQ ?_
 refine aR ?_
 refine iR 1 1 [(7, (pt u 4))] ?_
 refine iS 2 ?_
 refine sL 31 7 u 4 0 (.slice A9 (List.length h) m) 8 a2 rfl ?_
 refine iR 1 3 [(9, (.func (.func 47) #[] #[(pt a0 0)]))] ?_
 obtain ⟨j, b7, H⟩ := Qc H
 refine iS 4 ?_
 refine cF 46 #[(.tmp 8), (.tmp 9)] #[31, 84] 10 Tryz.call46 (Zo A9 m 47 #[(pt a0 0)] h (fun y0 y1 y2 => Jj y0 y1 y2 p) a8 (RdT.sp a6 a2) Tryz.call47 (fun y0 y1 y2 z w  hw  hz => Gy a0 y0 y1 y2 p w (Rv (show a8.heap[a0]? = some (.cells #[(.string ⟨List.toArray p⟩)] 9 (0, 0)) from SP.get a2 (i := 1) rfl) hw) z hz) j b7) ?_
 rintro e c5 ⟨rfl, a9⟩
 refine ⟨_, rfl, ?_⟩
 have q := SP.call a2 a9
 clear a9
 refine iR 1 5 [(6, (.int .i64 j))] ?_
 refine iF ?_
 refine aQ ?_
 refine aQ ?_
 refine aR ?_
 refine iR 2 2 [(11, (.int .i64 j)), (12, (.bool (decide (j < 0))))] ?_
 refine iF ?_
 refine Xe K (o := (.tmp 12)) K (b := (decide (j < 0))) K (fun a7 => ?_) (fun a7 => ?_)
 ·have H := ct H a7
  refine aQ ?_
  refine aR ?_
  refine iR 1 1 [(13, (.agg #[(.string ⟨List.toArray ([] : List UInt8)⟩), (.string ⟨List.toArray ([] : List UInt8)⟩), (.int .i64 0)]))] ?_
  refine iS 2 ?_
  refine Qi.store (t := 37) (x := (.tmp 4)) (y := (.tmp 13)) (g := a1) (off := 0) (i := 2) (v := (.agg #[(.string ⟨List.toArray ([] : List UInt8)⟩), (.string ⟨List.toArray ([] : List UInt8)⟩), (.int .i64 0)])) (cs' := #[(.string ⟨List.toArray ([] : List UInt8)⟩), (.string ⟨List.toArray ([] : List UInt8)⟩), (.int .i64 0)]) (d := none) (k := 1) K rfl K K q rfl K ?_
  intro w32 b0
  refine iR 1 3 [(5, (.bool false))] ?_
  refine iF ?_
  refine At.ret K ?_
  refine ⟨(.tuple #[(.agg #[(.string ⟨List.toArray ([] : List UInt8)⟩), (.string ⟨List.toArray ([] : List UInt8)⟩), (.int .i64 0)]), (.bool false)]), Hx K (Dd (a := 4) (t := 37) (g := a1) (off := 0) K (SP.get b0 (i := 2) rfl) K) (Cm (t := 5) K), ?_⟩
  obtain rfl := Qf H
  exact ⟨rfl, SP.sel b0 [] rfl rfl⟩
 ·have H := cf H a7
  refine At.skip K ?_
  refine aQ ?_
  refine aR ?_
  refine iR 1 1 [(14, (pt u 4))] ?_
  refine iS 2 ?_
  refine sL 31 14 u 4 0 (.slice A9 (List.length h) m) 15 q rfl ?_
  refine iR 1 3 [(16, (.int .i64 j))] ?_
  obtain ⟨f, b1, b2, b8, H⟩ := Vk H
  refine iS 4 ?_
  refine Ql (e := (Qg Qo (Qg Qo (Ve .i64)))) (l := h) (A := A9) (c := m) (T := 31) (E := 37) (x := (.tmp 15)) (ix := (.tmp 16)) (ki := .i64) (iz := j) (d := (some 17)) (k := 3) K rfl K K K K (RdT.sp a6 q) b1 b2 ?_
  intro b9 c0 c1 c7 hc41
  refine iS 5 ?_
  refine Qi.cells (t := 37) (x := (.tmp 17)) (b := b9) (off := (c0 + Int.toNat j * (Qg Qo (Qg Qo (Ve .i64))).sz)) (xs := [(.string ⟨List.toArray f.1⟩), (.string ⟨List.toArray f.2.1⟩), (.int .i64 f.2.2)]) (d := (some 18)) (k := 4) K rfl K K K (Zl (e := (Qg Qo (Qg Qo (Ve .i64)))) (Qm (RdT.sp a6 q) c1 b1 b2) b8 rfl) ?_
  refine iS 6 ?_
  refine Qi.store (t := 37) (x := (.tmp 4)) (y := (.tmp 18)) (g := a1) (off := 0) (i := 2) (v := (.agg #[(.string ⟨List.toArray f.1⟩), (.string ⟨List.toArray f.2.1⟩), (.int .i64 f.2.2)])) (cs' := #[(.string ⟨List.toArray f.1⟩), (.string ⟨List.toArray f.2.1⟩), (.int .i64 f.2.2)]) (d := none) (k := 5) K rfl K K q rfl K ?_
  intro c8 b3
  refine iR 1 7 [(5, (.bool true))] ?_
  refine iF ?_
  refine At.ret K ?_
  refine ⟨(.tuple #[(.agg #[(.string ⟨List.toArray f.1⟩), (.string ⟨List.toArray f.2.1⟩), (.int .i64 f.2.2)]), (.bool true)]), Hx K (Dd (a := 4) (t := 37) (g := a1) (off := 0) K (SP.get b3 (i := 2) rfl) K) (Cm (t := 5) K), ?_⟩
  obtain rfl := Qf H
  exact ⟨rfl, SP.sel b3 [] rfl rfl⟩
end Go.Proofs.YtoflbpmbkmephaaGreatDoor
namespace Go.Proofs.YtoflbpmbkmephaaGreatDoor
open Go.RowKit
def Qr (a : Bool) : Option (Bool) :=
  (some (a))
def Yv  : Option (Bool) :=
  ((V1 ([116, 105, 109, 101, 115, 32, 57, 32, 56, 32, 55, 32, 54, 10, 116, 101, 110, 97, 110, 116, 32, 97, 32, 50, 32, 51, 10, 110, 101, 116, 32, 49, 48, 46, 48, 46, 48, 46, 48, 47, 56, 10, 116, 111, 107, 101, 110, 32, 107, 32, 48, 48, 102, 102, 32, 53, 10, 116, 101, 110, 97, 110, 116, 32, 98, 32, 48, 32, 48, 10] : List UInt8)).bind fun z1 => ((some z1.2.2.2.2.1).bind fun l9 => ((V1 ([116, 105, 109, 101, 115, 32, 57, 32, 56, 32, 55, 32, 54, 10, 110, 101, 116, 32, 49, 48, 46, 48, 46, 48, 46, 48, 47, 56, 10] : List UInt8)).bind fun b => ((some b.2.2.2.2.1).bind fun h => ((V1 ([116, 105, 109, 101, 115, 32, 57, 32, 56, 32, 55, 32, 54, 10, 116, 101, 110, 97, 110, 116, 32, 98, 32, 49, 32, 49, 10, 116, 101, 110, 97, 110, 116, 32, 97, 32, 49, 32, 49, 10] : List UInt8)).bind fun c => ((some c.2.2.2.2.1).bind fun i => ((Gb z1.1 z1.2.1 z1.2.2.1 z1.2.2.2.1 l9 ([97] : List UInt8)).bind fun a => ((Nl a.1 a.2.1 a.2.2.1 a.2.2.2.1 a.2.2.2.2.1 ([107] : List UInt8)).bind fun d => (cond (z1.2.2.2.2.2.1 == 0) ((Nk z1.1 z1.2.1 z1.2.2.1 z1.2.2.2.1 l9).bind fun e => (cond (e == ([116, 105, 109, 101, 115, 32, 57, 32, 56, 32, 55, 32, 54, 10, 116, 101, 110, 97, 110, 116, 32, 97, 32, 50, 32, 51, 10, 110, 101, 116, 32, 49, 48, 46, 48, 46, 48, 46, 48, 47, 56, 10, 116, 111, 107, 101, 110, 32, 107, 32, 48, 48, 102, 102, 32, 53, 10, 116, 101, 110, 97, 110, 116, 32, 98, 32, 48, 32, 48, 10] : List UInt8)) (cond (((List.length l9 : Nat) : Int) == 2) (cond (z1.2.2.2.1 == 6) (cond (b.2.2.2.2.2.1 == 91) (cond (b.2.2.2.2.2.2 == 1) (cond (c.2.2.2.2.2.1 == 91) (cond (c.2.2.2.2.2.2 == 2) (cond a.2.2.2.2.2 (cond d.2.2.2 (cond (d.2.1 == ([0, 255] : List UInt8)) (cond (d.2.2.1 == 5) ((Zy z1.1 z1.2.1 z1.2.2.1 z1.2.2.2.1 l9).bind fun f => (cond f ((Zy 0 0 0 0 ([] : List Qe)).bind fun g => (Qr (!g))) (Qr false))) (Qr false)) (Qr false)) (Qr false)) (Qr false)) (Qr false)) (Qr false)) (Qr false)) (Qr false)) (Qr false)) (Qr false)) (Qr false))) (Qr false))))))))))
set_option maxHeartbeats 40000000 in
theorem Gc   (w0 : World) (hL : Uj w0)  (r : (Bool)) (H : Yv  = some r) :
  Calls Tryz.prog 14 #[] w0 (fun e w' => e = .returned (.bool r) ∧ SP [] w0 w' []) := by
 unfold Yv at H
 refine Qv (n := 101) Tryz.func14 K K K ?_
 have d0 := Q0 [] w0
 refine aQ ?_
 refine aR ?_
 refine iR 1 1 [(0, (.bool false))] ?_
 refine iF ?_
 refine aQ ?_
 refine aR ?_
 refine iR 1 1 [(1, (.string ⟨List.toArray ([116, 105, 109, 101, 115, 32, 57, 32, 56, 32, 55, 32, 54, 10, 116, 101, 110, 97, 110, 116, 32, 97, 32, 50, 32, 51, 10, 110, 101, 116, 32, 49, 48, 46, 48, 46, 48, 46, 48, 47, 56, 10, 116, 111, 107, 101, 110, 32, 107, 32, 48, 48, 102, 102, 32, 53, 10, 116, 101, 110, 97, 110, 116, 32, 98, 32, 48, 32, 48, 10] : List UInt8)⟩))] ?_
 refine iF ?_
 refine aQ ?_
 refine aR ?_
 refine iR 1 1 [(16, (.string ⟨List.toArray ([116, 105, 109, 101, 115, 32, 57, 32, 56, 32, 55, 32, 54, 10, 116, 101, 110, 97, 110, 116, 32, 97, 32, 50, 32, 51, 10, 110, 101, 116, 32, 49, 48, 46, 48, 46, 48, 46, 48, 47, 56, 10, 116, 111, 107, 101, 110, 32, 107, 32, 48, 48, 102, 102, 32, 53, 10, 116, 101, 110, 97, 110, 116, 32, 98, 32, 48, 32, 48, 10] : List UInt8)⟩))] ?_
 obtain ⟨z1, e4, H⟩ := Qc H
 refine iS 2 ?_
 refine cF 16 #[(.tmp 16)] #[9] 17 Tryz.call16 (Xo  ([116, 105, 109, 101, 115, 32, 57, 32, 56, 32, 55, 32, 54, 10, 116, 101, 110, 97, 110, 116, 32, 97, 32, 50, 32, 51, 10, 110, 101, 116, 32, 49, 48, 46, 48, 46, 48, 46, 48, 47, 56, 10, 116, 111, 107, 101, 110, 32, 107, 32, 48, 48, 102, 102, 32, 53, 10, 116, 101, 110, 97, 110, 116, 32, 98, 32, 48, 32, 48, 10] : List UInt8) w0 (Qz hL (SP.keeps d0)) z1 e4) ?_
 rintro e w3 ⟨A5, c6, d7, rfl, e5, d1⟩
 obtain ⟨h7, hll9, H⟩ := V5 H
 rw [e5] at hll9
 subst hll9
 refine ⟨_, rfl, ?_⟩
 have e6 := SP.call d0 d1
 clear d1
 refine iR 4 6 [(15, (.tuple #[(.agg #[(.int .i64 z1.1), (.int .i64 z1.2.1), (.int .i64 z1.2.2.1), (.int .i64 z1.2.2.2.1), (.slice A5 (List.length (List.map stT d7)) c6)]), (.int .i64 z1.2.2.2.2.2.1), (.int .i64 z1.2.2.2.2.2.2)])), (18, (.agg #[(.int .i64 z1.1), (.int .i64 z1.2.1), (.int .i64 z1.2.2.1), (.int .i64 z1.2.2.2.1), (.slice A5 (List.length (List.map stT d7)) c6)])), (19, (.int .i64 z1.2.2.2.2.2.1)), (20, (.int .i64 z1.2.2.2.2.2.2))] ?_
 refine iS 7 ?_
 refine Qi.alloc (t := 24) (z := (.agg #[(.int .i64 0), (.int .i64 0), (.int .i64 0), (.int .i64 0), (.slice none (List.length ([] : List Qe)) 0)])) (d := (some 2)) (k := 6) K rfl K e6 ?_
 intro o h8 e7
 refine iS 8 ?_
 refine Qi.store (t := 24) (x := (.tmp 2)) (y := (.tmp 18)) (g := o) (off := 0) (i := 1) (v := (.agg #[(.int .i64 z1.1), (.int .i64 z1.2.1), (.int .i64 z1.2.2.1), (.int .i64 z1.2.2.2.1), (.slice A5 (List.length (List.map stT d7)) c6)])) (cs' := #[(.int .i64 z1.1), (.int .i64 z1.2.1), (.int .i64 z1.2.2.1), (.int .i64 z1.2.2.2.1), (.slice A5 (List.length (List.map stT d7)) c6)]) (d := none) (k := 7) K rfl K K e7 rfl K ?_
 intro e8 d2
 refine iR 2 10 [(3, (.int .i64 z1.2.2.2.2.2.1)), (4, (.int .i64 z1.2.2.2.2.2.2))] ?_
 refine iF ?_
 refine aQ ?_
 refine aR ?_
 obtain ⟨f, e9, H⟩ := Qc H
 refine iS 1 ?_
 refine cF 16 #[(.const (.string ⟨List.toArray ([116, 105, 109, 101, 115, 32, 57, 32, 56, 32, 55, 32, 54, 10, 110, 101, 116, 32, 49, 48, 46, 48, 46, 48, 46, 48, 47, 56, 10] : List UInt8)⟩))] #[9] 22 Tryz.call16 (Xo  ([116, 105, 109, 101, 115, 32, 57, 32, 56, 32, 55, 32, 54, 10, 110, 101, 116, 32, 49, 48, 46, 48, 46, 48, 46, 48, 47, 56, 10] : List UInt8) e8 (Qz hL (SP.keeps d2)) f e9) ?_
 rintro e h9 ⟨a6, a7, a8, rfl, f0, d3⟩
 obtain ⟨i0, hll27, H⟩ := V5 H
 rw [f0] at hll27
 subst hll27
 refine ⟨_, rfl, ?_⟩
 have f1 := SP.call d2 d3
 clear d3
 refine iR 4 5 [(21, (.tuple #[(.agg #[(.int .i64 f.1), (.int .i64 f.2.1), (.int .i64 f.2.2.1), (.int .i64 f.2.2.2.1), (.slice a6 (List.length (List.map stT a8)) a7)]), (.int .i64 f.2.2.2.2.2.1), (.int .i64 f.2.2.2.2.2.2)])), (23, (.agg #[(.int .i64 f.1), (.int .i64 f.2.1), (.int .i64 f.2.2.1), (.int .i64 f.2.2.2.1), (.slice a6 (List.length (List.map stT a8)) a7)])), (24, (.int .i64 f.2.2.2.2.2.1)), (25, (.int .i64 f.2.2.2.2.2.2))] ?_
 refine iS 6 ?_
 refine Qi.alloc (t := 24) (z := (.agg #[(.int .i64 0), (.int .i64 0), (.int .i64 0), (.int .i64 0), (.slice none (List.length ([] : List Qe)) 0)])) (d := (some 5)) (k := 5) K rfl K f1 ?_
 intro f2 i1 f3
 refine iS 7 ?_
 refine Qi.store (t := 24) (x := (.tmp 5)) (y := (.tmp 23)) (g := f2) (off := 0) (i := 3) (v := (.agg #[(.int .i64 f.1), (.int .i64 f.2.1), (.int .i64 f.2.2.1), (.int .i64 f.2.2.2.1), (.slice a6 (List.length (List.map stT a8)) a7)])) (cs' := #[(.int .i64 f.1), (.int .i64 f.2.1), (.int .i64 f.2.2.1), (.int .i64 f.2.2.2.1), (.slice a6 (List.length (List.map stT a8)) a7)]) (d := none) (k := 6) K rfl K K f3 rfl K ?_
 intro f4 d4
 refine iR 2 9 [(6, (.int .i64 f.2.2.2.2.2.1)), (7, (.int .i64 f.2.2.2.2.2.2))] ?_
 refine iF ?_
 refine aQ ?_
 refine aR ?_
 obtain ⟨h, f5, H⟩ := Qc H
 refine iS 1 ?_
 refine cF 16 #[(.const (.string ⟨List.toArray ([116, 105, 109, 101, 115, 32, 57, 32, 56, 32, 55, 32, 54, 10, 116, 101, 110, 97, 110, 116, 32, 98, 32, 49, 32, 49, 10, 116, 101, 110, 97, 110, 116, 32, 97, 32, 49, 32, 49, 10] : List UInt8)⟩))] #[9] 27 Tryz.call16 (Xo  ([116, 105, 109, 101, 115, 32, 57, 32, 56, 32, 55, 32, 54, 10, 116, 101, 110, 97, 110, 116, 32, 98, 32, 49, 32, 49, 10, 116, 101, 110, 97, 110, 116, 32, 97, 32, 49, 32, 49, 10] : List UInt8) f4 (Qz hL (SP.keeps d4)) h f5) ?_
 rintro e i2 ⟨a9, b0, b1, rfl, f6, d5⟩
 obtain ⟨i3, hll45, H⟩ := V5 H
 rw [f6] at hll45
 subst hll45
 refine ⟨_, rfl, ?_⟩
 have f7 := SP.call d4 d5
 clear d5
 refine iR 4 5 [(26, (.tuple #[(.agg #[(.int .i64 h.1), (.int .i64 h.2.1), (.int .i64 h.2.2.1), (.int .i64 h.2.2.2.1), (.slice a9 (List.length (List.map stT b1)) b0)]), (.int .i64 h.2.2.2.2.2.1), (.int .i64 h.2.2.2.2.2.2)])), (28, (.agg #[(.int .i64 h.1), (.int .i64 h.2.1), (.int .i64 h.2.2.1), (.int .i64 h.2.2.2.1), (.slice a9 (List.length (List.map stT b1)) b0)])), (29, (.int .i64 h.2.2.2.2.2.1)), (30, (.int .i64 h.2.2.2.2.2.2))] ?_
 refine iS 6 ?_
 refine Qi.alloc (t := 24) (z := (.agg #[(.int .i64 0), (.int .i64 0), (.int .i64 0), (.int .i64 0), (.slice none (List.length ([] : List Qe)) 0)])) (d := (some 8)) (k := 5) K rfl K f7 ?_
 intro f8 i4 f9
 refine iS 7 ?_
 refine Qi.store (t := 24) (x := (.tmp 8)) (y := (.tmp 28)) (g := f8) (off := 0) (i := 5) (v := (.agg #[(.int .i64 h.1), (.int .i64 h.2.1), (.int .i64 h.2.2.1), (.int .i64 h.2.2.2.1), (.slice a9 (List.length (List.map stT b1)) b0)])) (cs' := #[(.int .i64 h.1), (.int .i64 h.2.1), (.int .i64 h.2.2.1), (.int .i64 h.2.2.2.1), (.slice a9 (List.length (List.map stT b1)) b0)]) (d := none) (k := 6) K rfl K K f9 rfl K ?_
 intro g0 b2
 refine iR 2 9 [(9, (.int .i64 h.2.2.2.2.2.1)), (10, (.int .i64 h.2.2.2.2.2.2))] ?_
 refine iF ?_
 refine aQ ?_
 refine aR ?_
 refine iS 1 ?_
 refine sL 24 2 o 0 1 (.agg #[(.int .i64 z1.1), (.int .i64 z1.2.1), (.int .i64 z1.2.2.1), (.int .i64 z1.2.2.2.1), (.slice A5 (List.length (List.map stT d7)) c6)]) 32 b2 rfl ?_
 obtain ⟨c, g1, H⟩ := Qc H
 refine iS 2 ?_
 refine cF 18 #[(.tmp 32), (.const (.string ⟨List.toArray ([97] : List UInt8)⟩))] #[24, 9] 33 Tryz.call18 (R9 (R := fun w => Below w0.heap.size w0 w ∧ (Yo A5 c6 d7).ok w) A5 c6 z1.1 z1.2.1 z1.2.2.1 z1.2.2.2.1 d7 ([97] : List UInt8) g0 (fun w hb => ⟨G3 b2 hb, SP.get (SP.below b2 hb) (i := 0) rfl⟩) (fun w hr => Gx hr.2) c g1) ?_
 rintro e i5 ⟨p, q, s, u, rfl, g2, g3, d6⟩
 refine ⟨_, rfl, ?_⟩
 have g4 := SP.call b2 d6
 clear d6
 refine iR 3 5 [(31, (.tuple #[(.agg #[(.string ⟨List.toArray c.1⟩), (.int .i64 c.2.1), (.int .i64 c.2.2.1), (.slice p (List.length c.2.2.2.1) q), (.slice s (List.length c.2.2.2.2.1) u)]), (.bool c.2.2.2.2.2)])), (34, (.agg #[(.string ⟨List.toArray c.1⟩), (.int .i64 c.2.1), (.int .i64 c.2.2.1), (.slice p (List.length c.2.2.2.1) q), (.slice s (List.length c.2.2.2.2.1) u)])), (35, (.bool c.2.2.2.2.2))] ?_
 refine iS 6 ?_
 refine Qi.alloc (t := 33) (z := (.agg #[(.string ⟨List.toArray ([] : List UInt8)⟩), (.int .i64 0), (.int .i64 0), (.slice none (List.length ([] : List (Int × Int))) 0), (.slice none (List.length ([] : List ((List UInt8) × (List UInt8) × Int))) 0)])) (d := (some 11)) (k := 5) K rfl K g4 ?_
 intro d8 i6 g5
 refine iS 7 ?_
 refine Qi.store (t := 33) (x := (.tmp 11)) (y := (.tmp 34)) (g := d8) (off := 0) (i := 6) (v := (.agg #[(.string ⟨List.toArray c.1⟩), (.int .i64 c.2.1), (.int .i64 c.2.2.1), (.slice p (List.length c.2.2.2.1) q), (.slice s (List.length c.2.2.2.2.1) u)])) (cs' := #[(.string ⟨List.toArray c.1⟩), (.int .i64 c.2.1), (.int .i64 c.2.2.1), (.slice p (List.length c.2.2.2.1) q), (.slice s (List.length c.2.2.2.2.1) u)]) (d := none) (k := 6) K rfl K K g5 rfl K ?_
 intro b4 a0
 refine iR 1 8 [(12, (.bool c.2.2.2.2.2))] ?_
 refine iF ?_
 refine aQ ?_
 refine aR ?_
 refine iS 1 ?_
 refine sL 33 11 d8 0 6 (.agg #[(.string ⟨List.toArray c.1⟩), (.int .i64 c.2.1), (.int .i64 c.2.2.1), (.slice p (List.length c.2.2.2.1) q), (.slice s (List.length c.2.2.2.2.1) u)]) 37 a0 rfl ?_
 obtain ⟨j, g6, H⟩ := Qc H
 refine iS 2 ?_
 refine cF 20 #[(.tmp 37), (.const (.string ⟨List.toArray ([107] : List UInt8)⟩))] #[33, 9] 38 Tryz.call20 (Rs p q s u c.1 c.2.1 c.2.2.1 c.2.2.2.1 c.2.2.2.2.1 ([107] : List UInt8) b4 (g2 b4 ⟨SP.keeps a0, SP.get a0 (i := 0) rfl⟩) (g3 b4 ⟨SP.keeps a0, SP.get a0 (i := 0) rfl⟩) j g6) ?_
 rintro e i7 ⟨rfl, d9⟩
 refine ⟨_, rfl, ?_⟩
 have g7 := SP.call a0 d9
 clear d9
 refine iR 3 5 [(36, (.tuple #[(.agg #[(.string ⟨List.toArray j.1⟩), (.string ⟨List.toArray j.2.1⟩), (.int .i64 j.2.2.1)]), (.bool j.2.2.2)])), (39, (.agg #[(.string ⟨List.toArray j.1⟩), (.string ⟨List.toArray j.2.1⟩), (.int .i64 j.2.2.1)])), (40, (.bool j.2.2.2))] ?_
 refine iS 6 ?_
 refine Qi.alloc (t := 37) (z := (.agg #[(.string ⟨List.toArray ([] : List UInt8)⟩), (.string ⟨List.toArray ([] : List UInt8)⟩), (.int .i64 0)])) (d := (some 13)) (k := 5) K rfl K g7 ?_
 intro a3 i8 g8
 refine iS 7 ?_
 refine Qi.store (t := 37) (x := (.tmp 13)) (y := (.tmp 39)) (g := a3) (off := 0) (i := 7) (v := (.agg #[(.string ⟨List.toArray j.1⟩), (.string ⟨List.toArray j.2.1⟩), (.int .i64 j.2.2.1)])) (cs' := #[(.string ⟨List.toArray j.1⟩), (.string ⟨List.toArray j.2.1⟩), (.int .i64 j.2.2.1)]) (d := none) (k := 6) K rfl K K g8 rfl K ?_
 intro g9 a4
 refine iR 1 8 [(14, (.bool j.2.2.2))] ?_
 refine iF ?_
 refine aQ ?_
 refine At.join (fun ρ w => ∃ (a1 : Bool), Zi ρ [(0, (.bool a1))] ∧ SP [] w0 w [] ∧ Qr a1 = some r) ?_ ?_
 ·refine aR ?_
  refine iR 3 3 [(41, (.int .i64 z1.2.2.2.2.2.1)), (42, (.bool (z1.2.2.2.2.2.1 == 0))), (43, (.bool (z1.2.2.2.2.2.1 == 0)))] ?_
  refine In.guard (t := 43) (b := (z1.2.2.2.2.2.1 == 0)) K (fun b5 => ?_) (fun b5 => ?_)
  ·have H := ct H b5
   refine iS 4 ?_
   refine sL 24 2 o 0 1 (.agg #[(.int .i64 z1.1), (.int .i64 z1.2.1), (.int .i64 z1.2.2.1), (.int .i64 z1.2.2.2.1), (.slice A5 (List.length (List.map stT d7)) c6)]) 44 a4 rfl ?_
   obtain ⟨a2, h1, H⟩ := Qc H
   refine iS 5 ?_
   refine cF 24 #[(.tmp 44)] #[24] 45 Tryz.call24 (Rr A5 c6 z1.1 z1.2.1 z1.2.2.1 z1.2.2.2.1 d7 g9 (Qz hL (SP.keeps a4)) (Gx (SP.get a4 (i := 0) rfl)) a2 h1) ?_
   rintro e h2 ⟨rfl, e0⟩
   refine ⟨_, rfl, ?_⟩
   have m := SP.call a4 e0
   clear e0
   refine iR 1 6 [(46, (.string ⟨List.toArray ([116, 105, 109, 101, 115, 32, 57, 32, 56, 32, 55, 32, 54, 10, 116, 101, 110, 97, 110, 116, 32, 97, 32, 50, 32, 51, 10, 110, 101, 116, 32, 49, 48, 46, 48, 46, 48, 46, 48, 47, 56, 10, 116, 111, 107, 101, 110, 32, 107, 32, 48, 48, 102, 102, 32, 53, 10, 116, 101, 110, 97, 110, 116, 32, 98, 32, 48, 32, 48, 10] : List UInt8)⟩))] ?_
   refine iS 7 ?_
   refine Xs (op := .eql) (T := 9) (T' := 9) (x := (.tmp 45)) (y := (.tmp 46)) (a := a2) (b := ([116, 105, 109, 101, 115, 32, 57, 32, 56, 32, 55, 32, 54, 10, 116, 101, 110, 97, 110, 116, 32, 97, 32, 50, 32, 51, 10, 110, 101, 116, 32, 49, 48, 46, 48, 46, 48, 46, 48, 47, 56, 10, 116, 111, 107, 101, 110, 32, 107, 32, 48, 48, 102, 102, 32, 53, 10, 116, 101, 110, 97, 110, 116, 32, 98, 32, 48, 32, 48, 10] : List UInt8)) (r := (.bool (a2 == ([116, 105, 109, 101, 115, 32, 57, 32, 56, 32, 55, 32, 54, 10, 116, 101, 110, 97, 110, 116, 32, 97, 32, 50, 32, 51, 10, 110, 101, 116, 32, 49, 48, 46, 48, 46, 48, 46, 48, 47, 56, 10, 116, 111, 107, 101, 110, 32, 107, 32, 48, 48, 102, 102, 32, 53, 10, 116, 101, 110, 97, 110, 116, 32, 98, 32, 48, 32, 48, 10] : List UInt8)))) (d := (some 47)) (k := 6) K rfl K K rfl ?_
   refine iR 2 9 [(48, (.bool (a2 == ([116, 105, 109, 101, 115, 32, 57, 32, 56, 32, 55, 32, 54, 10, 116, 101, 110, 97, 110, 116, 32, 97, 32, 50, 32, 51, 10, 110, 101, 116, 32, 49, 48, 46, 48, 46, 48, 46, 48, 47, 56, 10, 116, 111, 107, 101, 110, 32, 107, 32, 48, 48, 102, 102, 32, 53, 10, 116, 101, 110, 97, 110, 116, 32, 98, 32, 48, 32, 48, 10] : List UInt8)))), (49, (.bool (a2 == ([116, 105, 109, 101, 115, 32, 57, 32, 56, 32, 55, 32, 54, 10, 116, 101, 110, 97, 110, 116, 32, 97, 32, 50, 32, 51, 10, 110, 101, 116, 32, 49, 48, 46, 48, 46, 48, 46, 48, 47, 56, 10, 116, 111, 107, 101, 110, 32, 107, 32, 48, 48, 102, 102, 32, 53, 10, 116, 101, 110, 97, 110, 116, 32, 98, 32, 48, 32, 48, 10] : List UInt8))))] ?_
   refine In.guard (t := 49) (b := (a2 == ([116, 105, 109, 101, 115, 32, 57, 32, 56, 32, 55, 32, 54, 10, 116, 101, 110, 97, 110, 116, 32, 97, 32, 50, 32, 51, 10, 110, 101, 116, 32, 49, 48, 46, 48, 46, 48, 46, 48, 47, 56, 10, 116, 111, 107, 101, 110, 32, 107, 32, 48, 48, 102, 102, 32, 53, 10, 116, 101, 110, 97, 110, 116, 32, 98, 32, 48, 32, 48, 10] : List UInt8))) K (fun b6 => ?_) (fun b6 => ?_)
   ·have H := ct H b6
    refine iR 1 10 [(50, (pt o 4))] ?_
    refine iS 11 ?_
    refine sL 22 50 o 4 1 (.slice A5 (List.length (List.map stT d7)) c6) 51 m rfl ?_
    refine iR 4 15 [(52, (.int .i64 ((List.length (List.map stT d7) : Nat) : Int))), (53, (.bool (((List.length (List.map stT d7) : Nat) : Int) == 2))), (54, (.bool (((List.length (List.map stT d7) : Nat) : Int) == 2))), (55, (.bool (((List.length (List.map stT d7) : Nat) : Int) == 2)))] ?_
    refine In.guard (t := 55) (b := (((List.length (List.map stT d7) : Nat) : Int) == 2)) K (fun b7 => ?_) (fun b7 => ?_)
    ·have H := ct H b7
     refine iR 1 16 [(56, (pt o 3))] ?_
     refine iS 17 ?_
     refine sL 2 56 o 3 1 (.int .i64 z1.2.2.2.1) 57 m rfl ?_
     refine iR 3 20 [(58, (.bool (z1.2.2.2.1 == 6))), (59, (.bool (z1.2.2.2.1 == 6))), (60, (.bool (z1.2.2.2.1 == 6)))] ?_
     refine In.guard (t := 60) (b := (z1.2.2.2.1 == 6)) K (fun b8 => ?_) (fun b8 => ?_)
     ·have H := ct H b8
      refine iR 4 24 [(61, (.int .i64 f.2.2.2.2.2.1)), (62, (.bool (f.2.2.2.2.2.1 == 91))), (63, (.bool (f.2.2.2.2.2.1 == 91))), (64, (.bool (f.2.2.2.2.2.1 == 91)))] ?_
      refine In.guard (t := 64) (b := (f.2.2.2.2.2.1 == 91)) K (fun b9 => ?_) (fun b9 => ?_)
      ·have H := ct H b9
       refine iR 4 28 [(65, (.int .i64 f.2.2.2.2.2.2)), (66, (.bool (f.2.2.2.2.2.2 == 1))), (67, (.bool (f.2.2.2.2.2.2 == 1))), (68, (.bool (f.2.2.2.2.2.2 == 1)))] ?_
       refine In.guard (t := 68) (b := (f.2.2.2.2.2.2 == 1)) K (fun c0 => ?_) (fun c0 => ?_)
       ·have H := ct H c0
        refine iR 4 32 [(69, (.int .i64 h.2.2.2.2.2.1)), (70, (.bool (h.2.2.2.2.2.1 == 91))), (71, (.bool (h.2.2.2.2.2.1 == 91))), (72, (.bool (h.2.2.2.2.2.1 == 91)))] ?_
        refine In.guard (t := 72) (b := (h.2.2.2.2.2.1 == 91)) K (fun c1 => ?_) (fun c1 => ?_)
        ·have H := ct H c1
         refine iR 4 36 [(73, (.int .i64 h.2.2.2.2.2.2)), (74, (.bool (h.2.2.2.2.2.2 == 2))), (75, (.bool (h.2.2.2.2.2.2 == 2))), (76, (.bool (h.2.2.2.2.2.2 == 2)))] ?_
         refine In.guard (t := 76) (b := (h.2.2.2.2.2.2 == 2)) K (fun c2 => ?_) (fun c2 => ?_)
         ·have H := ct H c2
          refine iR 3 39 [(77, (.bool c.2.2.2.2.2)), (78, (.bool c.2.2.2.2.2)), (79, (.bool c.2.2.2.2.2))] ?_
          refine In.guard (t := 79) (b := c.2.2.2.2.2) K (fun c3 => ?_) (fun c3 => ?_)
          ·have H := ct H c3
           refine iR 3 42 [(80, (.bool j.2.2.2)), (81, (.bool j.2.2.2)), (82, (.bool j.2.2.2))] ?_
           refine In.guard (t := 82) (b := j.2.2.2) K (fun c4 => ?_) (fun c4 => ?_)
           ·have H := ct H c4
            refine iR 1 43 [(83, (pt a3 1))] ?_
            refine iS 44 ?_
            refine sL 9 83 a3 1 7 (.string ⟨List.toArray j.2.1⟩) 84 m rfl ?_
            refine iS 45 ?_
            refine Xs (op := .eql) (T := 9) (T' := 9) (x := (.tmp 84)) (y := (.const (.string ⟨List.toArray ([0, 255] : List UInt8)⟩))) (a := j.2.1) (b := ([0, 255] : List UInt8)) (r := (.bool (j.2.1 == ([0, 255] : List UInt8)))) (d := (some 85)) (k := 44) K rfl K K rfl ?_
            refine iR 2 47 [(86, (.bool (j.2.1 == ([0, 255] : List UInt8)))), (87, (.bool (j.2.1 == ([0, 255] : List UInt8))))] ?_
            refine In.guard (t := 87) (b := (j.2.1 == ([0, 255] : List UInt8))) K (fun c5 => ?_) (fun c5 => ?_)
            ·have H := ct H c5
             refine iR 1 48 [(88, (pt a3 2))] ?_
             refine iS 49 ?_
             refine sL 2 88 a3 2 7 (.int .i64 j.2.2.1) 89 m rfl ?_
             refine iR 3 52 [(90, (.bool (j.2.2.1 == 5))), (91, (.bool (j.2.2.1 == 5))), (92, (.bool (j.2.2.1 == 5)))] ?_
             refine In.guard (t := 92) (b := (j.2.2.1 == 5)) K (fun c7 => ?_) (fun c7 => ?_)
             ·have H := ct H c7
              refine iS 53 ?_
              refine sL 24 2 o 0 1 (.agg #[(.int .i64 z1.1), (.int .i64 z1.2.1), (.int .i64 z1.2.2.1), (.int .i64 z1.2.2.2.1), (.slice A5 (List.length (List.map stT d7)) c6)]) 93 m rfl ?_
              obtain ⟨b3, h3, H⟩ := Qc H
              refine iS 54 ?_
              refine cF 22 #[(.tmp 93)] #[24] 94 Tryz.call22 (Ye A5 c6 z1.1 z1.2.1 z1.2.2.1 z1.2.2.2.1 d7 h2 (Qz hL (SP.keeps m)) (Gx (SP.get m (i := 0) rfl)) b3 h3) ?_
              rintro e e1 ⟨rfl, e2⟩
              refine ⟨_, rfl, ?_⟩
              have c8 := SP.call m e2
              clear e2
              refine iR 2 56 [(95, (.bool b3)), (96, (.bool b3))] ?_
              refine In.guard (t := 96) (b := b3) K (fun c9 => ?_) (fun c9 => ?_)
              ·have H := ct H c9
               refine iR 1 57 [(97, (.agg #[(.int .i64 0), (.int .i64 0), (.int .i64 0), (.int .i64 0), (.slice none (List.length ([] : List Qe)) 0)]))] ?_
               obtain ⟨a5, h4, H⟩ := Qc H
               refine iS 58 ?_
               refine cF 22 #[(.tmp 97)] #[24] 98 Tryz.call22 (Ye none 0 0 0 0 0 ([] : List Qx) e1 (Qz hL (SP.keeps c8)) (ds_nil Zh H0 e1) a5 h4) ?_
               rintro e i9 ⟨rfl, e3⟩
               refine ⟨_, rfl, ?_⟩
               have h5 := SP.call c8 e3
               clear e3
               refine iR 3 61 [(99, (.bool (!a5))), (100, (.bool (!a5))), (0, (.bool (!a5)))] ?_
               refine iF ?_
               exact ⟨(!a5), ⟨K, trivial⟩, SP.sel h5 [] rfl rfl, H⟩
              ·have H := cf H c9
               refine iR 5 61 [(97, undef), (98, undef), (99, undef), (100, (.bool false)), (0, (.bool false))] ?_
               refine iF ?_
               exact ⟨false, ⟨K, trivial⟩, SP.sel c8 [] rfl rfl, H⟩
             ·have H := cf H c7
              refine iR 9 61 [(93, undef), (94, undef), (95, (.bool false)), (96, (.bool false)), (97, undef), (98, undef), (99, undef), (100, (.bool false)), (0, (.bool false))] ?_
              refine iF ?_
              exact ⟨false, ⟨K, trivial⟩, SP.sel m [] rfl rfl, H⟩
            ·have H := cf H c5
             refine iR 14 61 [(88, undef), (89, undef), (90, undef), (91, (.bool false)), (92, (.bool false)), (93, undef), (94, undef), (95, (.bool false)), (96, (.bool false)), (97, undef), (98, undef), (99, undef), (100, (.bool false)), (0, (.bool false))] ?_
             refine iF ?_
             exact ⟨false, ⟨K, trivial⟩, SP.sel m [] rfl rfl, H⟩
           ·have H := cf H c4
            refine iR 19 61 [(83, undef), (84, undef), (85, undef), (86, (.bool false)), (87, (.bool false)), (88, undef), (89, undef), (90, undef), (91, (.bool false)), (92, (.bool false)), (93, undef), (94, undef), (95, (.bool false)), (96, (.bool false)), (97, undef), (98, undef), (99, undef), (100, (.bool false)), (0, (.bool false))] ?_
            refine iF ?_
            exact ⟨false, ⟨K, trivial⟩, SP.sel m [] rfl rfl, H⟩
          ·have H := cf H c3
           refine iR 22 61 [(80, undef), (81, (.bool false)), (82, (.bool false)), (83, undef), (84, undef), (85, undef), (86, (.bool false)), (87, (.bool false)), (88, undef), (89, undef), (90, undef), (91, (.bool false)), (92, (.bool false)), (93, undef), (94, undef), (95, (.bool false)), (96, (.bool false)), (97, undef), (98, undef), (99, undef), (100, (.bool false)), (0, (.bool false))] ?_
           refine iF ?_
           exact ⟨false, ⟨K, trivial⟩, SP.sel m [] rfl rfl, H⟩
         ·have H := cf H c2
          refine iR 25 61 [(77, undef), (78, (.bool false)), (79, (.bool false)), (80, undef), (81, (.bool false)), (82, (.bool false)), (83, undef), (84, undef), (85, undef), (86, (.bool false)), (87, (.bool false)), (88, undef), (89, undef), (90, undef), (91, (.bool false)), (92, (.bool false)), (93, undef), (94, undef), (95, (.bool false)), (96, (.bool false)), (97, undef), (98, undef), (99, undef), (100, (.bool false)), (0, (.bool false))] ?_
          refine iF ?_
          exact ⟨false, ⟨K, trivial⟩, SP.sel m [] rfl rfl, H⟩
        ·have H := cf H c1
         refine iR 29 61 [(73, undef), (74, undef), (75, (.bool false)), (76, (.bool false)), (77, undef), (78, (.bool false)), (79, (.bool false)), (80, undef), (81, (.bool false)), (82, (.bool false)), (83, undef), (84, undef), (85, undef), (86, (.bool false)), (87, (.bool false)), (88, undef), (89, undef), (90, undef), (91, (.bool false)), (92, (.bool false)), (93, undef), (94, undef), (95, (.bool false)), (96, (.bool false)), (97, undef), (98, undef), (99, undef), (100, (.bool false)), (0, (.bool false))] ?_
         refine iF ?_
         exact ⟨false, ⟨K, trivial⟩, SP.sel m [] rfl rfl, H⟩
       ·have H := cf H c0
        refine iR 33 61 [(69, undef), (70, undef), (71, (.bool false)), (72, (.bool false)), (73, undef), (74, undef), (75, (.bool false)), (76, (.bool false)), (77, undef), (78, (.bool false)), (79, (.bool false)), (80, undef), (81, (.bool false)), (82, (.bool false)), (83, undef), (84, undef), (85, undef), (86, (.bool false)), (87, (.bool false)), (88, undef), (89, undef), (90, undef), (91, (.bool false)), (92, (.bool false)), (93, undef), (94, undef), (95, (.bool false)), (96, (.bool false)), (97, undef), (98, undef), (99, undef), (100, (.bool false)), (0, (.bool false))] ?_
        refine iF ?_
        exact ⟨false, ⟨K, trivial⟩, SP.sel m [] rfl rfl, H⟩
      ·have H := cf H b9
       refine iR 37 61 [(65, undef), (66, undef), (67, (.bool false)), (68, (.bool false)), (69, undef), (70, undef), (71, (.bool false)), (72, (.bool false)), (73, undef), (74, undef), (75, (.bool false)), (76, (.bool false)), (77, undef), (78, (.bool false)), (79, (.bool false)), (80, undef), (81, (.bool false)), (82, (.bool false)), (83, undef), (84, undef), (85, undef), (86, (.bool false)), (87, (.bool false)), (88, undef), (89, undef), (90, undef), (91, (.bool false)), (92, (.bool false)), (93, undef), (94, undef), (95, (.bool false)), (96, (.bool false)), (97, undef), (98, undef), (99, undef), (100, (.bool false)), (0, (.bool false))] ?_
       refine iF ?_
       exact ⟨false, ⟨K, trivial⟩, SP.sel m [] rfl rfl, H⟩
     ·have H := cf H b8
      refine iR 41 61 [(61, undef), (62, undef), (63, (.bool false)), (64, (.bool false)), (65, undef), (66, undef), (67, (.bool false)), (68, (.bool false)), (69, undef), (70, undef), (71, (.bool false)), (72, (.bool false)), (73, undef), (74, undef), (75, (.bool false)), (76, (.bool false)), (77, undef), (78, (.bool false)), (79, (.bool false)), (80, undef), (81, (.bool false)), (82, (.bool false)), (83, undef), (84, undef), (85, undef), (86, (.bool false)), (87, (.bool false)), (88, undef), (89, undef), (90, undef), (91, (.bool false)), (92, (.bool false)), (93, undef), (94, undef), (95, (.bool false)), (96, (.bool false)), (97, undef), (98, undef), (99, undef), (100, (.bool false)), (0, (.bool false))] ?_
      refine iF ?_
      exact ⟨false, ⟨K, trivial⟩, SP.sel m [] rfl rfl, H⟩
    ·have H := cf H b7
     refine iR 46 61 [(56, undef), (57, undef), (58, undef), (59, (.bool false)), (60, (.bool false)), (61, undef), (62, undef), (63, (.bool false)), (64, (.bool false)), (65, undef), (66, undef), (67, (.bool false)), (68, (.bool false)), (69, undef), (70, undef), (71, (.bool false)), (72, (.bool false)), (73, undef), (74, undef), (75, (.bool false)), (76, (.bool false)), (77, undef), (78, (.bool false)), (79, (.bool false)), (80, undef), (81, (.bool false)), (82, (.bool false)), (83, undef), (84, undef), (85, undef), (86, (.bool false)), (87, (.bool false)), (88, undef), (89, undef), (90, undef), (91, (.bool false)), (92, (.bool false)), (93, undef), (94, undef), (95, (.bool false)), (96, (.bool false)), (97, undef), (98, undef), (99, undef), (100, (.bool false)), (0, (.bool false))] ?_
     refine iF ?_
     exact ⟨false, ⟨K, trivial⟩, SP.sel m [] rfl rfl, H⟩
   ·have H := cf H b6
    refine iR 52 61 [(50, undef), (51, undef), (52, undef), (53, undef), (54, (.bool false)), (55, (.bool false)), (56, undef), (57, undef), (58, undef), (59, (.bool false)), (60, (.bool false)), (61, undef), (62, undef), (63, (.bool false)), (64, (.bool false)), (65, undef), (66, undef), (67, (.bool false)), (68, (.bool false)), (69, undef), (70, undef), (71, (.bool false)), (72, (.bool false)), (73, undef), (74, undef), (75, (.bool false)), (76, (.bool false)), (77, undef), (78, (.bool false)), (79, (.bool false)), (80, undef), (81, (.bool false)), (82, (.bool false)), (83, undef), (84, undef), (85, undef), (86, (.bool false)), (87, (.bool false)), (88, undef), (89, undef), (90, undef), (91, (.bool false)), (92, (.bool false)), (93, undef), (94, undef), (95, (.bool false)), (96, (.bool false)), (97, undef), (98, undef), (99, undef), (100, (.bool false)), (0, (.bool false))] ?_
    refine iF ?_
    exact ⟨false, ⟨K, trivial⟩, SP.sel m [] rfl rfl, H⟩
  ·have H := cf H b5
   refine iR 58 61 [(44, undef), (45, undef), (46, undef), (47, undef), (48, (.bool false)), (49, (.bool false)), (50, undef), (51, undef), (52, undef), (53, undef), (54, (.bool false)), (55, (.bool false)), (56, undef), (57, undef), (58, undef), (59, (.bool false)), (60, (.bool false)), (61, undef), (62, undef), (63, (.bool false)), (64, (.bool false)), (65, undef), (66, undef), (67, (.bool false)), (68, (.bool false)), (69, undef), (70, undef), (71, (.bool false)), (72, (.bool false)), (73, undef), (74, undef), (75, (.bool false)), (76, (.bool false)), (77, undef), (78, (.bool false)), (79, (.bool false)), (80, undef), (81, (.bool false)), (82, (.bool false)), (83, undef), (84, undef), (85, undef), (86, (.bool false)), (87, (.bool false)), (88, undef), (89, undef), (90, undef), (91, (.bool false)), (92, (.bool false)), (93, undef), (94, undef), (95, (.bool false)), (96, (.bool false)), (97, undef), (98, undef), (99, undef), (100, (.bool false)), (0, (.bool false))] ?_
   refine iF ?_
   exact ⟨false, ⟨K, trivial⟩, SP.sel a4 [] rfl rfl, H⟩
 ·rintro ρ j0 ⟨a1, hk, h6, H⟩
  unfold Qr at H
  first | refine At.known [(0, (.bool a1))] hk ?_ | rw [← Q1 (l := [(0, (.bool a1))]) hk]
  refine At.ret K ?_
  refine ⟨(.bool a1), K, ?_⟩
  obtain rfl := Qf H
  exact ⟨rfl, SP.sel h6 [] rfl rfl⟩
end Go.Proofs.YtoflbpmbkmephaaGreatDoor
namespace Go.Proofs.YtoflbpmbkmephaaGreatDoor
open Go.RowKit
set_option maxRecDepth 1000000 in
theorem cfgHead : Yv = some true := by decide +kernel
end Go.Proofs.YtoflbpmbkmephaaGreatDoor
namespace Go.Proofs.YtoflbpmbkmephaaGreatDoor
open Go.RowKit
def Vs (b : Int → Bool → Int → Option (Bool)) (p1 : (List UInt8)) (a : Int) (c : Int) : Option (Bool) :=
  ((idx p1 a).bind fun d => (b c (((d).toNat : Int) == 10) (IntKind.wrap .i64 (a + 1))))
def Vn (b : Int → Bool → Int → Option (Bool)) (a : Bool) : Option (Bool) :=
  (some (a))
def Vo (b : Int → Bool → Int → Option (Bool)) (a : Bool) : Option (Bool) :=
  (some (a))
def Vt (a : Int → Bool → Int → Option (Bool)) (z3 : (Bool)) (c : Int) (b : (Int × Int × Int × Int × (List Qe) × Int × Int)) (d : Bool) : Option (Bool) :=
  (cond d (cond z3 (cond (b.2.2.2.2.2.1 == 91) (Vn a (b.2.2.2.2.2.2 == c)) (Vn a false)) (Vn a false)) (cond z3 (cond (b.2.2.2.2.2.1 == 0) (Vo a (b.2.2.2.2.2.2 == 0)) (Vo a false)) (Vo a false)))
def Vi (a : Int → Bool → Int → Option (Bool)) (p1 : (List UInt8)) (p2 : Int) (z3 : (Bool)) (b : Int) (e : Bool) (c : Int) : Option (Bool) :=
  (cond (decide (c < (Int.tmod (IntKind.wrap .i64 p2) ((List.length p1 : Nat) : Int)))) ((idx p1 c).bind fun f => (cond (((f).toNat : Int) == 10) (Vs a p1 c (IntKind.wrap .i64 (b + 1))) (Vs a p1 c b))) ((sub p1 0 (Int.tmod (IntKind.wrap .i64 p2) ((List.length p1 : Nat) : Int))).bind fun g => ((V1 g).bind fun d => ((some d.2.2.2.2.1).bind fun h => (cond ((Int.tmod (IntKind.wrap .i64 p2) ((List.length p1 : Nat) : Int)) == 0) (Vt a z3 b d true) (Vt a z3 b d (!e)))))))
def Qt (p1 : (List UInt8)) (p2 : Int) (z3 : (Bool)) : Nat → Int → Bool → Int → Option (Bool)
  | 0, _, _, _ => none
  | f + 1, a, b, c => Vi  (Qt p1 p2 z3 f) p1 p2 z3 a b c
def Vj (p1 : (List UInt8)) (p2 : Int) (z3 : (Bool)) (a : Bool) : Option (Bool) :=
  (cond a (some (z3)) ((chk (!(((List.length p1 : Nat) : Int) == 0))).bind fun _ => (Qt p1 p2 z3 J5 0 ((Int.tmod (IntKind.wrap .i64 p2) ((List.length p1 : Nat) : Int)) == 0) 0)))
def Z0 (p1 : (List UInt8)) (p2 : Int) : Option (Bool) :=
  ((Yv ).bind fun z3 => ((V1 p1).bind fun z9 => ((some z9.2.2.2.2.1).bind fun a => (cond (decide (((List.length p1 : Nat) : Int) > 5000)) (Vj p1 p2 z3 true) (cond (z9.2.2.2.2.2.1 != 0) (Vj p1 p2 z3 true) (Vj p1 p2 z3 (((List.length p1 : Nat) : Int) == 0)))))))
set_option maxHeartbeats 40000000 in
theorem Up  (p1 : (List UInt8)) (p2 : Int) (w0 : World) (hL : Uj w0)  (r : (Bool)) (H : Z0 p1 p2 = some r) :
  Calls Tryz.prog 5 #[(.string ⟨List.toArray p1⟩), (.int .u16 p2)] w0 (fun e w' => e = .returned (.bool r) ∧ SP [] w0 w' []) := by
 unfold Z0 at H
 refine Qv (n := 91) Tryz.func5 K K K ?_
 have c5 := Q0 [] w0
 refine aQ ?_
 refine aR ?_
 refine iR 1 1 [(4, (.bool false))] ?_
 refine iF ?_
 refine aQ ?_
 refine aR ?_
 obtain ⟨z3, d2, H⟩ := Qc H
 refine iS 1 ?_
 refine cF 14 #[] #[] 16 Tryz.call14 (Gc   w0 (Qz hL (SP.keeps c5)) z3 d2) ?_
 rintro e w5 ⟨rfl, c6⟩
 refine ⟨_, rfl, ?_⟩
 have c7 := SP.call c5 c6
 clear c6
 refine iR 1 2 [(5, (.bool z3))] ?_
 refine iF ?_
 refine aQ ?_
 refine aR ?_
 refine iR 1 1 [(18, (.string ⟨List.toArray p1⟩))] ?_
 obtain ⟨z9, d3, H⟩ := Qc H
 refine iS 2 ?_
 refine cF 16 #[(.tmp 18)] #[9] 19 Tryz.call16 (Xo  p1 w5 (Qz hL (SP.keeps c7)) z9 d3) ?_
 rintro e f5 ⟨a4, a5, a6, rfl, d4, c8⟩
 obtain ⟨f6, hll17, H⟩ := V5 H
 rw [d4] at hll17
 subst hll17
 refine ⟨_, rfl, ?_⟩
 have d5 := SP.call c7 c8
 clear c8
 refine iR 4 6 [(17, (.tuple #[(.agg #[(.int .i64 z9.1), (.int .i64 z9.2.1), (.int .i64 z9.2.2.1), (.int .i64 z9.2.2.2.1), (.slice a4 (List.length (List.map stT a6)) a5)]), (.int .i64 z9.2.2.2.2.2.1), (.int .i64 z9.2.2.2.2.2.2)])), (20, (.agg #[(.int .i64 z9.1), (.int .i64 z9.2.1), (.int .i64 z9.2.2.1), (.int .i64 z9.2.2.2.1), (.slice a4 (List.length (List.map stT a6)) a5)])), (21, (.int .i64 z9.2.2.2.2.2.1)), (22, (.int .i64 z9.2.2.2.2.2.2))] ?_
 refine iS 7 ?_
 refine Qi.alloc (t := 24) (z := (.agg #[(.int .i64 0), (.int .i64 0), (.int .i64 0), (.int .i64 0), (.slice none (List.length ([] : List Qe)) 0)])) (d := (some 6)) (k := 6) K rfl K d5 ?_
 intro d6 f7 d7
 refine iS 8 ?_
 refine Qi.store (t := 24) (x := (.tmp 6)) (y := (.tmp 20)) (g := d6) (off := 0) (i := 1) (v := (.agg #[(.int .i64 z9.1), (.int .i64 z9.2.1), (.int .i64 z9.2.2.1), (.int .i64 z9.2.2.2.1), (.slice a4 (List.length (List.map stT a6)) a5)])) (cs' := #[(.int .i64 z9.1), (.int .i64 z9.2.1), (.int .i64 z9.2.2.1), (.int .i64 z9.2.2.2.1), (.slice a4 (List.length (List.map stT a6)) a5)]) (d := none) (k := 7) K rfl K K d7 rfl K ?_
 intro f8 b2
 refine iR 2 10 [(7, (.int .i64 z9.2.2.2.2.2.1)), (8, (.int .i64 z9.2.2.2.2.2.2))] ?_
 refine iF ?_
 refine aQ ?_
 refine aQ ?_
 refine At.join (fun ρ w => ∃ (q : Bool), Zi ρ [(0, (.string ⟨List.toArray p1⟩)), (1, (.int .u16 p2)), (5, (.bool z3)), (34, (.bool q))] ∧ SP [] w0 w [] ∧ Vj p1 p2 z3 q = some r) ?_ ?_
 ·refine aR ?_
  refine iR 4 4 [(23, (.string ⟨List.toArray p1⟩)), (24, (.int .i64 ((List.length p1 : Nat) : Int))), (25, (.bool (decide (((List.length p1 : Nat) : Int) > 5000)))), (26, (.bool (decide (((List.length p1 : Nat) : Int) > 5000))))] ?_
  refine In.guard (t := 26) (b := (decide (((List.length p1 : Nat) : Int) > 5000))) K (fun b3 => ?_) (fun b3 => ?_)
  ·have H := ct H b3
   refine iR 8 12 [(27, undef), (28, undef), (29, (.bool true)), (30, (.bool true)), (31, undef), (32, undef), (33, undef), (34, (.bool true))] ?_
   refine iF ?_
   exact ⟨true, ⟨K, K, K, K, trivial⟩, SP.sel b2 [] rfl rfl, H⟩
  ·have H := cf H b3
   refine iR 4 8 [(27, (.int .i64 z9.2.2.2.2.2.1)), (28, (.bool (z9.2.2.2.2.2.1 != 0))), (29, (.bool (z9.2.2.2.2.2.1 != 0))), (30, (.bool (z9.2.2.2.2.2.1 != 0)))] ?_
   refine In.guard (t := 30) (b := (z9.2.2.2.2.2.1 != 0)) K (fun b4 => ?_) (fun b4 => ?_)
   ·have H := ct H b4
    refine iR 4 12 [(31, undef), (32, undef), (33, undef), (34, (.bool true))] ?_
    refine iF ?_
    exact ⟨true, ⟨K, K, K, K, trivial⟩, SP.sel b2 [] rfl rfl, H⟩
   ·have H := cf H b4
    refine iR 4 12 [(31, (.string ⟨List.toArray p1⟩)), (32, (.int .i64 ((List.length p1 : Nat) : Int))), (33, (.bool (((List.length p1 : Nat) : Int) == 0))), (34, (.bool (((List.length p1 : Nat) : Int) == 0)))] ?_
    refine iF ?_
    exact ⟨(((List.length p1 : Nat) : Int) == 0), ⟨K, K, K, K, trivial⟩, SP.sel b2 [] rfl rfl, H⟩
 ·rintro ρ f9 ⟨q, hk, c9, H⟩
  unfold Vj at H
  first | refine At.known [(0, (.string ⟨List.toArray p1⟩)), (1, (.int .u16 p2)), (5, (.bool z3)), (34, (.bool q))] hk ?_ | rw [← Q1 (l := [(0, (.string ⟨List.toArray p1⟩)), (1, (.int .u16 p2)), (5, (.bool z3)), (34, (.bool q))]) hk]
  refine Xe K (o := (.tmp 34)) K (b := q) K (fun b5 => ?_) (fun b5 => ?_)
  ·have H := ct H b5
   refine aQ ?_
   refine aR ?_
   refine iR 2 2 [(35, (.bool z3)), (4, (.bool z3))] ?_
   refine iF ?_
   refine At.ret K ?_
   refine ⟨(.bool z3), K, ?_⟩
   obtain rfl := Qf H
   exact ⟨rfl, SP.sel c9 [] rfl rfl⟩
  ·have H := cf H b5
   refine At.skip K ?_
   refine aQ ?_
   refine aR ?_
   refine iR 4 4 [(36, (.int .u16 p2)), (37, (.int .i64 (IntKind.wrap .i64 p2))), (38, (.string ⟨List.toArray p1⟩)), (39, (.int .i64 ((List.length p1 : Nat) : Int)))] ?_
   obtain ⟨hl33, H⟩ := Nd H
   refine iS 5 ?_
   refine Qi.div (op := .rem) (T := 3) (T' := 3) (x := (.tmp 37)) (y := (.tmp 39)) (kx := .i64) (a := (IntKind.wrap .i64 p2)) (b := ((List.length p1 : Nat) : Int)) (v := (.int .i64 (Int.tmod (IntKind.wrap .i64 p2) ((List.length p1 : Nat) : Int)))) (d := (some 40)) (k := 4) K rfl K K hl33 rfl ?_
   refine iR 1 6 [(9, (.int .i64 (Int.tmod (IntKind.wrap .i64 p2) ((List.length p1 : Nat) : Int))))] ?_
   refine iF ?_
   refine aQ ?_
   refine aR ?_
   refine iR 1 1 [(10, (.int .i64 0))] ?_
   refine iF ?_
   refine aQ ?_
   refine aR ?_
   refine iR 3 3 [(41, (.int .i64 (Int.tmod (IntKind.wrap .i64 p2) ((List.length p1 : Nat) : Int)))), (42, (.bool ((Int.tmod (IntKind.wrap .i64 p2) ((List.length p1 : Nat) : Int)) == 0))), (11, (.bool ((Int.tmod (IntKind.wrap .i64 p2) ((List.length p1 : Nat) : Int)) == 0)))] ?_
   refine iF ?_
   refine aQ ?_
   refine aQ ?_
   refine aR ?_
   refine iR 1 1 [(12, (.int .i64 0))] ?_
   refine iF ?_
   refine Jk K (id := 0) K ?_
   refine Rj K (fun p ρ w => ∃ (h : Int) (m : Bool) (f : Int), Zi ρ [(0, (.string ⟨List.toArray p1⟩)), (5, (.bool z3)), (9, (.int .i64 (Int.tmod (IntKind.wrap .i64 p2) ((List.length p1 : Nat) : Int)))), (10, (.int .i64 h)), (11, (.bool m)), (12, (.int .i64 f))] ∧ SP [] w0 w [] ∧ Qt p1 p2 z3 p h m f = some r) (by rintro ρ w ⟨h, m, f, hk, hs, H⟩; cases H) ?_ J5 ?_
   ·rintro p ρ d8 ⟨h, m, f, hk, a7, H⟩
    refine At.known [(0, (.string ⟨List.toArray p1⟩)), (5, (.bool z3)), (9, (.int .i64 (Int.tmod (IntKind.wrap .i64 p2) ((List.length p1 : Nat) : Int)))), (10, (.int .i64 h)), (11, (.bool m)), (12, (.int .i64 f))] hk ?_
    replace H := (show Vi (Qt p1 p2 z3 p) p1 p2 z3 h m f = some r from H)
    unfold Vi at H
    refine aQ ?_
    refine aQ ?_
    refine aR ?_
    refine iR 3 3 [(43, (.int .i64 f)), (44, (.int .i64 (Int.tmod (IntKind.wrap .i64 p2) ((List.length p1 : Nat) : Int)))), (45, (.bool (decide (f < (Int.tmod (IntKind.wrap .i64 p2) ((List.length p1 : Nat) : Int))))))] ?_
    refine iF ?_
    refine Xe K (o := (.tmp 45)) K (b := (decide (f < (Int.tmod (IntKind.wrap .i64 p2) ((List.length p1 : Nat) : Int))))) K (fun b6 => ?_) (fun b6 => ?_)
    ·have H := ct H b6
     refine At.skip K ?_
     refine aQ ?_
     refine Jk K (id := 1) K ?_
     refine aQ ?_
     refine aQ ?_
     refine aR ?_
     refine iR 2 2 [(48, (.string ⟨List.toArray p1⟩)), (49, (.int .i64 f))] ?_
     obtain ⟨b7, d9, g0, e0, H⟩ := Vk H
     refine iS 3 ?_
     refine Yw (a := p1) (u := b7) (T := 9) (x := (.tmp 48)) (ix := (.tmp 49)) (ki := .i64) (iz := f) (d := (some 50)) (k := 2) K rfl K K K d9 e0 ?_
     refine iR 1 4 [(51, (.bool (((b7).toNat : Int) == 10)))] ?_
     refine iF ?_
     refine At.join (fun ρ w => ∃ (s : Int), Zi ρ [(0, (.string ⟨List.toArray p1⟩)), (5, (.bool z3)), (9, (.int .i64 (Int.tmod (IntKind.wrap .i64 p2) ((List.length p1 : Nat) : Int)))), (10, (.int .i64 s)), (12, (.int .i64 f))] ∧ SP [] w0 w [] ∧ Vs (Qt p1 p2 z3 p) p1 f s = some r) ?_ ?_
     ·refine Xe K (o := (.tmp 51)) K (b := (((b7).toNat : Int) == 10)) K (fun b8 => ?_) (fun b8 => ?_)
      ·have H := ct H b8
       refine aR ?_
       refine iR 3 3 [(52, (.int .i64 h)), (53, (.int .i64 (IntKind.wrap .i64 (h + 1)))), (10, (.int .i64 (IntKind.wrap .i64 (h + 1))))] ?_
       refine iF ?_
       exact ⟨(IntKind.wrap .i64 (h + 1)), ⟨K, K, K, K, K, trivial⟩, SP.sel a7 [] rfl rfl, H⟩
      ·have H := cf H b8
       refine At.skip K ?_
       exact ⟨h, ⟨K, K, K, K, K, trivial⟩, SP.sel a7 [] rfl rfl, H⟩
     ·rintro ρ g1 ⟨s, hk, e1, H⟩
      unfold Vs at H
      first | refine At.known [(0, (.string ⟨List.toArray p1⟩)), (5, (.bool z3)), (9, (.int .i64 (Int.tmod (IntKind.wrap .i64 p2) ((List.length p1 : Nat) : Int)))), (10, (.int .i64 s)), (12, (.int .i64 f))] hk ?_ | rw [← Q1 (l := [(0, (.string ⟨List.toArray p1⟩)), (5, (.bool z3)), (9, (.int .i64 (Int.tmod (IntKind.wrap .i64 p2) ((List.length p1 : Nat) : Int)))), (10, (.int .i64 s)), (12, (.int .i64 f))]) hk]
      refine aR ?_
      refine iR 2 2 [(54, (.string ⟨List.toArray p1⟩)), (55, (.int .i64 f))] ?_
      obtain ⟨a8, e2, g2, e3, H⟩ := Vk H
      refine iS 3 ?_
      refine Yw (a := p1) (u := a8) (T := 9) (x := (.tmp 54)) (ix := (.tmp 55)) (ki := .i64) (iz := f) (d := (some 56)) (k := 2) K rfl K K K e2 e3 ?_
      refine iR 2 5 [(57, (.bool (((a8).toNat : Int) == 10))), (11, (.bool (((a8).toNat : Int) == 10)))] ?_
      refine iF ?_
      refine aR ?_
      refine iR 3 3 [(46, (.int .i64 f)), (47, (.int .i64 (IntKind.wrap .i64 (f + 1)))), (12, (.int .i64 (IntKind.wrap .i64 (f + 1))))] ?_
      refine iF ?_
      exact ⟨s, (((a8).toNat : Int) == 10), (IntKind.wrap .i64 (f + 1)), ⟨K, K, K, K, K, K, trivial⟩, SP.sel e1 [] rfl rfl, H⟩
    ·have H := cf H b6
     refine At.exit K (id := 0) K ?_
     refine aQ ?_
     refine aR ?_
     refine iR 2 2 [(59, (.string ⟨List.toArray p1⟩)), (60, (.int .i64 (Int.tmod (IntKind.wrap .i64 p2) ((List.length p1 : Nat) : Int))))] ?_
     obtain ⟨e4, e5, e6, H⟩ := Nc H
     obtain ⟨e7, hyl171⟩ : ∃ y, (List.drop (Int.toNat 0) (List.take (Int.toNat (Int.tmod (IntKind.wrap .i64 p2) ((List.length p1 : Nat) : Int))) p1)) = y := ⟨_, rfl⟩
     rw [hyl171] at H
     refine iS 3 ?_
     refine Yc (a := p1) (T := 9) (x := (.tmp 59)) (lo := none) (hi := (some (.tmp 60))) (i := 0) (j := (Int.tmod (IntKind.wrap .i64 p2) ((List.length p1 : Nat) : Int))) (d := (some 61)) (k := 2) K rfl K K rfl ⟨.i64, K⟩ e4 e5 e6 ?_
     rw [hyl171]
     obtain ⟨c, e8, H⟩ := Qc H
     refine iS 4 ?_
     refine cF 16 #[(.tmp 61)] #[9] 62 Tryz.call16 (Xo  e7 d8 (Qz hL (SP.keeps a7)) c e8) ?_
     rintro e g3 ⟨a9, b0, b1, rfl, e9, d0⟩
     obtain ⟨g4, hll180, H⟩ := V5 H
     rw [e9] at hll180
     subst hll180
     refine ⟨_, rfl, ?_⟩
     have f0 := SP.call a7 d0
     clear d0
     refine iR 4 8 [(58, (.tuple #[(.agg #[(.int .i64 c.1), (.int .i64 c.2.1), (.int .i64 c.2.2.1), (.int .i64 c.2.2.2.1), (.slice a9 (List.length (List.map stT b1)) b0)]), (.int .i64 c.2.2.2.2.2.1), (.int .i64 c.2.2.2.2.2.2)])), (63, (.agg #[(.int .i64 c.1), (.int .i64 c.2.1), (.int .i64 c.2.2.1), (.int .i64 c.2.2.2.1), (.slice a9 (List.length (List.map stT b1)) b0)])), (64, (.int .i64 c.2.2.2.2.2.1)), (65, (.int .i64 c.2.2.2.2.2.2))] ?_
     refine iS 9 ?_
     refine Qi.alloc (t := 24) (z := (.agg #[(.int .i64 0), (.int .i64 0), (.int .i64 0), (.int .i64 0), (.slice none (List.length ([] : List Qe)) 0)])) (d := (some 13)) (k := 8) K rfl K f0 ?_
     intro f1 g5 f2
     refine iS 10 ?_
     refine Qi.store (t := 24) (x := (.tmp 13)) (y := (.tmp 63)) (g := f1) (off := 0) (i := 1) (v := (.agg #[(.int .i64 c.1), (.int .i64 c.2.1), (.int .i64 c.2.2.1), (.int .i64 c.2.2.2.1), (.slice a9 (List.length (List.map stT b1)) b0)])) (cs' := #[(.int .i64 c.1), (.int .i64 c.2.1), (.int .i64 c.2.2.1), (.int .i64 c.2.2.2.1), (.slice a9 (List.length (List.map stT b1)) b0)]) (d := none) (k := 9) K rfl K K f2 rfl K ?_
     intro g6 d1
     refine iR 2 12 [(14, (.int .i64 c.2.2.2.2.2.1)), (15, (.int .i64 c.2.2.2.2.2.2))] ?_
     refine iF ?_
     refine aQ ?_
     refine aQ ?_
     refine At.join (fun ρ w => ∃ (a0 : Bool), Zi ρ [(5, (.bool z3)), (10, (.int .i64 h)), (14, (.int .i64 c.2.2.2.2.2.1)), (15, (.int .i64 c.2.2.2.2.2.2)), (71, (.bool a0))] ∧ SP [] w0 w [] ∧ Vt (Qt p1 p2 z3 p) z3 h c a0 = some r) ?_ ?_
     ·refine aR ?_
      refine iR 3 3 [(66, (.int .i64 (Int.tmod (IntKind.wrap .i64 p2) ((List.length p1 : Nat) : Int)))), (67, (.bool ((Int.tmod (IntKind.wrap .i64 p2) ((List.length p1 : Nat) : Int)) == 0))), (68, (.bool ((Int.tmod (IntKind.wrap .i64 p2) ((List.length p1 : Nat) : Int)) == 0)))] ?_
      refine In.guard (t := 68) (b := ((Int.tmod (IntKind.wrap .i64 p2) ((List.length p1 : Nat) : Int)) == 0)) K (fun b9 => ?_) (fun b9 => ?_)
      ·have H := ct H b9
       refine iR 3 6 [(69, undef), (70, undef), (71, (.bool true))] ?_
       refine iF ?_
       exact ⟨true, ⟨K, K, K, K, K, trivial⟩, SP.sel d1 [] rfl rfl, H⟩
      ·have H := cf H b9
       refine iR 3 6 [(69, (.bool m)), (70, (.bool (!m))), (71, (.bool (!m)))] ?_
       refine iF ?_
       exact ⟨(!m), ⟨K, K, K, K, K, trivial⟩, SP.sel d1 [] rfl rfl, H⟩
     ·rintro ρ g7 ⟨a0, hk, a1, H⟩
      unfold Vt at H
      first | refine At.known [(5, (.bool z3)), (10, (.int .i64 h)), (14, (.int .i64 c.2.2.2.2.2.1)), (15, (.int .i64 c.2.2.2.2.2.2)), (71, (.bool a0))] hk ?_ | rw [← Q1 (l := [(5, (.bool z3)), (10, (.int .i64 h)), (14, (.int .i64 c.2.2.2.2.2.1)), (15, (.int .i64 c.2.2.2.2.2.2)), (71, (.bool a0))]) hk]
      refine Xe K (o := (.tmp 71)) K (b := a0) K (fun c0 => ?_) (fun c0 => ?_)
      ·have H := ct H c0
       refine aQ ?_
       refine At.join (fun ρ w => ∃ (a2 : Bool), Zi ρ [(4, (.bool a2))] ∧ SP [] w0 w [] ∧ Vn (Qt p1 p2 z3 p) a2 = some r) ?_ ?_
       ·refine aR ?_
        refine iR 2 2 [(72, (.bool z3)), (73, (.bool z3))] ?_
        refine In.guard (t := 73) (b := z3) K (fun c1 => ?_) (fun c1 => ?_)
        ·have H := ct H c1
         refine iR 4 6 [(74, (.int .i64 c.2.2.2.2.2.1)), (75, (.bool (c.2.2.2.2.2.1 == 91))), (76, (.bool (c.2.2.2.2.2.1 == 91))), (77, (.bool (c.2.2.2.2.2.1 == 91)))] ?_
         refine In.guard (t := 77) (b := (c.2.2.2.2.2.1 == 91)) K (fun c2 => ?_) (fun c2 => ?_)
         ·have H := ct H c2
          refine iR 5 11 [(78, (.int .i64 c.2.2.2.2.2.2)), (79, (.int .i64 h)), (80, (.bool (c.2.2.2.2.2.2 == h))), (81, (.bool (c.2.2.2.2.2.2 == h))), (4, (.bool (c.2.2.2.2.2.2 == h)))] ?_
          refine iF ?_
          exact ⟨(c.2.2.2.2.2.2 == h), ⟨K, trivial⟩, SP.sel a1 [] rfl rfl, H⟩
         ·have H := cf H c2
          refine iR 5 11 [(78, undef), (79, undef), (80, undef), (81, (.bool false)), (4, (.bool false))] ?_
          refine iF ?_
          exact ⟨false, ⟨K, trivial⟩, SP.sel a1 [] rfl rfl, H⟩
        ·have H := cf H c1
         refine iR 9 11 [(74, undef), (75, undef), (76, (.bool false)), (77, (.bool false)), (78, undef), (79, undef), (80, undef), (81, (.bool false)), (4, (.bool false))] ?_
         refine iF ?_
         exact ⟨false, ⟨K, trivial⟩, SP.sel a1 [] rfl rfl, H⟩
       ·rintro ρ g8 ⟨a2, hk, f3, H⟩
        unfold Vn at H
        first | refine At.known [(4, (.bool a2))] hk ?_ | rw [← Q1 (l := [(4, (.bool a2))]) hk]
        refine At.ret K ?_
        refine ⟨(.bool a2), K, ?_⟩
        obtain rfl := Qf H
        exact ⟨rfl, SP.sel f3 [] rfl rfl⟩
      ·have H := cf H c0
       refine At.skip K ?_
       refine aQ ?_
       refine At.join (fun ρ w => ∃ (a3 : Bool), Zi ρ [(4, (.bool a3))] ∧ SP [] w0 w [] ∧ Vo (Qt p1 p2 z3 p) a3 = some r) ?_ ?_
       ·refine aR ?_
        refine iR 2 2 [(82, (.bool z3)), (83, (.bool z3))] ?_
        refine In.guard (t := 83) (b := z3) K (fun c3 => ?_) (fun c3 => ?_)
        ·have H := ct H c3
         refine iR 4 6 [(84, (.int .i64 c.2.2.2.2.2.1)), (85, (.bool (c.2.2.2.2.2.1 == 0))), (86, (.bool (c.2.2.2.2.2.1 == 0))), (87, (.bool (c.2.2.2.2.2.1 == 0)))] ?_
         refine In.guard (t := 87) (b := (c.2.2.2.2.2.1 == 0)) K (fun c4 => ?_) (fun c4 => ?_)
         ·have H := ct H c4
          refine iR 4 10 [(88, (.int .i64 c.2.2.2.2.2.2)), (89, (.bool (c.2.2.2.2.2.2 == 0))), (90, (.bool (c.2.2.2.2.2.2 == 0))), (4, (.bool (c.2.2.2.2.2.2 == 0)))] ?_
          refine iF ?_
          exact ⟨(c.2.2.2.2.2.2 == 0), ⟨K, trivial⟩, SP.sel a1 [] rfl rfl, H⟩
         ·have H := cf H c4
          refine iR 4 10 [(88, undef), (89, undef), (90, (.bool false)), (4, (.bool false))] ?_
          refine iF ?_
          exact ⟨false, ⟨K, trivial⟩, SP.sel a1 [] rfl rfl, H⟩
        ·have H := cf H c3
         refine iR 8 10 [(84, undef), (85, undef), (86, (.bool false)), (87, (.bool false)), (88, undef), (89, undef), (90, (.bool false)), (4, (.bool false))] ?_
         refine iF ?_
         exact ⟨false, ⟨K, trivial⟩, SP.sel a1 [] rfl rfl, H⟩
       ·rintro ρ g9 ⟨a3, hk, f4, H⟩
        unfold Vo at H
        first | refine At.known [(4, (.bool a3))] hk ?_ | rw [← Q1 (l := [(4, (.bool a3))]) hk]
        refine At.ret K ?_
        refine ⟨(.bool a3), K, ?_⟩
        obtain rfl := Qf H
        exact ⟨rfl, SP.sel f4 [] rfl rfl⟩
   ·exact ⟨0, ((Int.tmod (IntKind.wrap .i64 p2) ((List.length p1 : Nat) : Int)) == 0), 0, ⟨K, K, K, K, K, K, trivial⟩, SP.sel c9 [] rfl rfl, H⟩
end Go.Proofs.YtoflbpmbkmephaaGreatDoor
namespace Go.Proofs.YtoflbpmbkmephaaGreatDoor
open Go.RowKit
theorem flat_no (c : UInt8) (s : Str) : ∀ p ∈ (Qk c s).dropLast, c ∉ p := fun p hp => D9 c s p (List.dropLast_subset _ hp)
theorem Fm (a b : Str) : Qk 10 (a ++ b) = (Qk 10 a).dropLast ++ Qk 10 ((Qk 10 a).getLastD [] ++ b) := by
  conv => lhs; rw [Dn a, List.append_assoc]
  exact C0 _ (flat_no 10 a) _
theorem drop_pre (a b : Str) : ∃ m, (Qk 10 (a ++ b)).dropLast = (Qk 10 a).dropLast ++ m := by
  rw [Fm]
  exact ⟨(Qk 10 ((Qk 10 a).getLastD [] ++ b)).dropLast, List.dropLast_append_of_ne_nil (Xm 10 _)⟩
theorem run_pre {ps qs : List Str} {c c' : Nj} {n n' : Nat} (h : En (ps ++ qs) c n = .inr (c', n')) : ∃ c1, En ps c n = .inr (c1, n + ps.length) := by
  rw [Hq] at h
  cases hr : En ps c n with
  | inl a => rw [hr] at h; cases h
  | inr cn =>
    obtain ⟨c1, n1⟩ := cn
    have := (B2 ps c c1 n n1 hr).2
    subst this
    exact ⟨c1, rfl⟩
theorem rest_nil {a : Str} (h : (Qk 10 a).getLastD [] = []) : a = [] ∨ a.getLast? = some 10 := by
  have ht := Dn a
  rw [h, List.append_nil] at ht
  rcases List.eq_nil_or_concat (Qk 10 a).dropLast with h0 | ⟨l, x, hl⟩
  · rw [h0] at ht
    exact .inl ht
  · refine .inr ?_
    rw [List.concat_eq_append] at hl
    rw [ht, hl]
    simp
theorem rest_end (x : Str) : (Qk 10 (x ++ [10])).getLastD [] = [] := by
  rw [Fm, Dj 10 _ [] (D9 10 x _ (by
    rw [List.getLastD_eq_getLast?, List.getLast?_eq_some_getLast (Xm 10 x)]
    exact List.getLast_mem _))]
  rw [show Qk 10 ([] : Str) = [[]] from rfl]
  rw [List.getLastD_eq_getLast?, List.getLast?_append]
  rfl
theorem parse_pre {a b : Str} (h : (J0 (a ++ b)).2.2.2.2.2.1 = 0) : (a ≠ [] → a.getLast? = some 10 → (J0 a).2.2.2.2.2 = (0, 0)) ∧ (¬ (a ≠ [] ∧ a.getLast? = some 10) → (J0 a).2.2.2.2.2 = (91, ((a.count 10 : Nat) : Int))) := by
  obtain ⟨c, h1, h2, h3, h4, h5, n, hr, h6, h7, h8⟩ := B3 h
  obtain ⟨m, hm⟩ := drop_pre a b
  rw [hm] at hr
  obtain ⟨c1, hr1⟩ := run_pre hr
  have hl : a.length ≤ 4096 := by simp at h5; omega
  have hcnt := U3 10 a
  have hdl : (Qk 10 a).dropLast.length = a.count 10 := by rw [List.length_dropLast]; omega
  have hp : J0 a = finC (.inr (c1, a.count 10)) ((Qk 10 a).getLastD []) := by
    unfold J0
    rw [if_neg (by omega), hr1, Nat.zero_add, hdl]
  rw [hp]
  unfold finC
  dsimp only
  constructor
  · intro ha hlast
    obtain ⟨x, y, rfl⟩ : ∃ x y, a = x ++ [y] := ⟨a.dropLast, a.getLast ha, (List.dropLast_concat_getLast ha).symm⟩
    have hy : y = 10 := by simpa using hlast
    subst hy
    rw [if_neg (fun e => ?_)]
    rcases e with e | e
    · exact e (rest_end x)
    · simp at e
  · intro hn
    rw [if_pos]
    · rfl
    · by_cases hr0 : (Qk 10 a).getLastD [] = []
      · rcases rest_nil hr0 with rfl | hlast
        · exact .inr rfl
        · refine absurd ⟨fun e => ?_, hlast⟩ hn
          rw [e] at hlast
          cases hlast
      · exact .inl hr0
theorem Ii (s : Str) (i : Nat) (hi : i < s.length) : (s.take (i + 1)).count 10 = (s.take i).count 10 + (if s[i] = 10 then 1 else 0) := by
  rw [List.take_succ_eq_append_getElem hi, List.count_append, List.count_cons, List.count_nil]
  simp
theorem Ij (s : Str) (at_ : Int) (k : Nat) (hk : k < s.length) (hs : s.length ≤ 4096) (hat : Int.tmod (IntKind.wrap .i64 at_) ((List.length s : Nat) : Int) = (k : Int)) (h0 : (J0 s).2.2.2.2.2.1 = 0) : ∀ (d i f : Nat), d = k - i → i ≤ k → d < f →
    Qt s at_ true f (((s.take i).count 10 : Nat) : Int) (if i = 0 then decide (k = 0) else decide ((s.take i).getLast? = some 10)) (i : Int) = some true := by
  intro d
  induction d with
  | zero =>
    intro i f hd hi hf
    obtain ⟨f, rfl⟩ : ∃ g, f = g + 1 := ⟨f - 1, by omega⟩
    have hik : i = k := by omega
    subst hik
    show Vi (Qt s at_ true f) s at_ true _ _ _ = _
    unfold Vi Vt Vn Vo
    have hsub := Gr s (i := 0) (j := i) (by omega) (by omega)
    rw [show ((0 : Nat) : Int) = 0 from rfl, List.drop_zero] at hsub
    rw [hat, decide_eq_false (show ¬ ((i : Int) < (i : Int)) by omega), cond_false, hsub, Option.bind_some, pParse, Option.bind_some, Option.bind_some]
    have hpre := parse_pre (a := s.take i) (b := s.drop i) (by rw [List.take_append_drop]; exact h0)
    by_cases hz : i = 0
    · subst hz
      have h91 := hpre.2 (by simp)
      rw [show ((((0 : Nat) : Int)) == 0) = true from rfl, cond_true, cond_true, cond_true, show (J0 (s.take 0)).2.2.2.2.2.1 = 91 from congrArg (·.1) h91, show (J0 (s.take 0)).2.2.2.2.2.2 = _ from congrArg (·.2) h91]
      simp
    · have hne : s.take i ≠ [] := fun e => by have := congrArg List.length e; rw [List.length_take, List.length_nil] at this; omega
      rw [show ((i : Int) == 0) = false by rw [beq_eq_false_iff_ne]; omega, cond_false, if_neg hz]
      by_cases hl : (s.take i).getLast? = some 10
      · have h00 := hpre.1 hne hl
        rw [decide_eq_true hl, Bool.not_true, cond_false, cond_true, show (J0 (s.take i)).2.2.2.2.2.1 = 0 from congrArg (·.1) h00, show (J0 (s.take i)).2.2.2.2.2.2 = 0 from congrArg (·.2) h00]
        rfl
      · have h91 := hpre.2 (fun h => hl h.2)
        rw [decide_eq_false hl, Bool.not_false, cond_true, cond_true, show (J0 (s.take i)).2.2.2.2.2.1 = 91 from congrArg (·.1) h91, show (J0 (s.take i)).2.2.2.2.2.2 = _ from congrArg (·.2) h91]
        simp
  | succ d ih =>
    intro i f hd hi hf
    obtain ⟨f, rfl⟩ : ∃ g, f = g + 1 := ⟨f - 1, by omega⟩
    have hlt : i < s.length := by omega
    have hc : (s.take i).count 10 ≤ 4096 := Nat.le_trans List.count_le_length (by simp; omega)
    show Vi (Qt s at_ true f) s at_ true _ _ _ = _
    unfold Vi Vs
    rw [hat, decide_eq_true (show (i : Int) < (k : Int) by omega), cond_true, Uz hlt, Option.bind_some, byte10, show (i : Int) + 1 = ((i + 1 : Nat) : Int) by omega, G6 (by omega), show ((((s.take i).count 10 : Nat) : Int) + 1) = (((s.take i).count 10 + 1 : Nat) : Int) by omega, G6 (by omega)]
    have hih := ih (i + 1) f (by omega) (by omega) (by omega)
    rw [if_neg (by omega), List.take_succ_eq_append_getElem hlt] at hih
    have hcn : (s.take i ++ [s[i]]).count 10 = (s.take i).count 10 + (if s[i] = 10 then 1 else 0) := by
      rw [← List.take_succ_eq_append_getElem hlt]
      exact Ii s i hlt
    rw [hcn, show decide ((s.take i ++ [s[i]]).getLast? = some 10) = (s[i] == 10) by rw [List.getLast?_append]; show decide (some s[i] = some 10) = _; rw [Bool.eq_iff_iff]; simp] at hih
    cases hx : (s[i] == 10) with
    | true =>
      rw [hx, if_pos (by simpa using hx)] at hih
      rw [cond_true, Option.bind_some, byte10, hx]
      exact hih
    | false =>
      rw [hx, if_neg (by simpa using hx)] at hih
      rw [cond_false, Option.bind_some, byte10, hx]
      exact hih
theorem Do (s : Str) (at_ : Int) (h0 : 0 ≤ at_) (h1 : at_ ≤ 65535) : Z0 s at_ = some true := by
  have k1 : Vj s at_ true true = some true := rfl
  unfold Z0
  rw [cfgHead, Option.bind_some, pParse, Option.bind_some, Option.bind_some]
  by_cases h5 : ((List.length s : Nat) : Int) > 5000
  · rw [decide_eq_true h5, cond_true, k1]
  · rw [decide_eq_false h5, cond_false]
    by_cases he : (J0 s).2.2.2.2.2.1 = 0
    · rw [he, show ((0 : Int) != 0) = false from rfl, cond_false]
      by_cases hz : s = []
      · subst hz
        rfl
      · have hpos := List.length_pos_iff.2 hz
        obtain ⟨_, _, _, _, _, hl, _⟩ := B3 he
        rw [show (((List.length s : Nat) : Int) == 0) = false by rw [beq_eq_false_iff_ne]; omega]
        unfold Vj
        have hat : Int.tmod (IntKind.wrap .i64 at_) ((List.length s : Nat) : Int) = ((at_.toNat % s.length : Nat) : Int) := by
          rw [Yr (by omega)]
          have := Hg at_.toNat s.length
          rw [show ((at_.toNat : Nat) : Int) = at_ by omega] at this
          exact this
        have hlt := Nat.mod_lt at_.toNat hpos
        have := Ij s at_ (at_.toNat % s.length) hlt hl hat he (at_.toNat % s.length) 0 J5 (by omega) (by omega) (by unfold J5; omega)
        rw [List.take_zero, List.count_nil, if_pos rfl] at this
        rw [cond_false, show (((List.length s : Nat) : Int) == 0) = false by rw [beq_eq_false_iff_ne]; omega, Bool.not_false, show chk true = some () from rfl, Option.bind_some, hat, show ((((at_.toNat % s.length : Nat) : Int)) == 0) = decide (at_.toNat % s.length = 0) by
          by_cases h : at_.toNat % s.length = 0
          · rw [h]; rfl
          · rw [decide_eq_false h, beq_eq_false_iff_ne]; omega]
        exact this
    · rw [show ((J0 s).2.2.2.2.2.1 != 0) = true from bne_iff_ne.2 he, cond_true, k1]
end Go.Proofs.YtoflbpmbkmephaaGreatDoor
namespace Go.Proofs.YtoflbpmbkmephaaGreatDoor
open Go.RowKit Go.ChangeShapes Go.WideShapes Go.Deep
theorem own : ownKnob Tryz.prog.godebug = none := by kernel_rfl
theorem laidOut : laidOutB Tryz.prog = true := by kernel_rfl
section
variable {H : Type} {enc : TypeId × Value → H} {W : World} {spare : Nat → Bool} {held : Bool} {base b0 : Nat} {r : Reach}
end
end Go.Proofs.YtoflbpmbkmephaaGreatDoor
namespace Go.Proofs.YtoflbpmbkmephaaGreatDoor
open Go.RowKit
abbrev Hr : List (String × DataW Unit) := [("math/bits.deBruijn32tab", Rows.laid_math_bits_deBruijn32tab), ("math/bits.deBruijn64tab", Rows.laid_math_bits_deBruijn64tab), ("internal/strconv.uint64pow10", Rows.laid_internal_strconv_uint64pow10)
  , ("unicode/utf8.acceptRanges", Rows.laid_unicode_utf8_acceptRanges), ("unicode/utf8.first", Rows.laid_unicode_utf8_first)
  ]
theorem gTab : Tryz.prog.globalNamed Gq = some 1 := by kernel_rfl
theorem gTabType : (Tryz.prog.globals[1]?).map (·.type) = some 209 := by kernel_rfl
theorem cellsTab : Tryz.prog.cellsOf 209 = 20 := by kernel_rfl
theorem cellsU64 : Tryz.prog.cellsOf 196 = 1 := by kernel_rfl
theorem laid_of {W : World} (h : laidMetH Tryz.prog Hr W) : Uj W := by
  have h1 := h.filter (fun x => x.1 == Gq)
  have e : Hr.filter (fun x => x.1 == Gq) = [(Gq, Lib.tabData .u64 Lib.pow10Tab)] := by kernel_rfl
  rw [e] at h1
  have ht : Lib.TabIs Tryz.prog W Gq .u64 Lib.pow10Tab := Lib.tabIs_of_head (rest := []) gTab gTabType Tryz.underlying209 Tryz.underlying196 cellsU64 cellsTab h1
  refine ⟨ht, fun g hg => ?_⟩
  obtain rfl := Option.some.inj (gTab.symm.trans hg)
  have := ht.cell gTab 0 (by decide)
  exact block_lt_of_cell this
def cells1 : DataW Unit → List Value
  | .lit (.int k z) => [.int k z]
  | .lit (.bool b) => [.bool b]
  | _ => []
def cells2 : DataW Unit → List Value
  | .agg l => l.flatMap cells1
  | d => cells1 d
def cells3 : DataW Unit → List Value
  | .agg l => l.flatMap cells2
  | d => cells2 d
def Da (d : DataW Unit) : Obj → Obj
  | .cells _ t frozen => .cells (cells3 d).toArray t frozen
  | o => o
noncomputable def B4 (os : Os) : World :=
  { World.holding Tryz.prog os ⟨#[], #[], []⟩ with heap := ((((World.holding Tryz.prog os ⟨#[], #[], []⟩).heap.modify 4 (Da Rows.laid_math_bits_deBruijn32tab)).modify 5 (Da Rows.laid_math_bits_deBruijn64tab)).modify 1 (Da Rows.laid_internal_strconv_uint64pow10)
    |>.modify 3 (Da Rows.laid_unicode_utf8_acceptRanges) |>.modify 2 (Da Rows.laid_unicode_utf8_first)
    ) }
end Go.Proofs.YtoflbpmbkmephaaGreatDoor
namespace Go.Proofs.YtoflbpmbkmephaaGreatDoor
open Go.ChangeShapes Go.WideShapes Go.ChangeAt Go.RowKit
open Go.ChangeMaps (open_string shut_string)
theorem Re (H : Type) (enc : TypeId × Value → H) (W : World) (base : Nat) (args : Array Value) (ds gs : List (DataW H)) (before : List MemPlace) (vt : List TypeId)
    (hval : ∀ (j : Nat) t v, Tryz.f5.params[j]? = some t → args[j]? = some v → Value.okWide Tryz.prog W .any base t v)
    (hW : DataW.Whole enc Tryz.prog Tryz.f5.params.toList Rows.configLinesSpec.vars false W args.toList ds gs before) (hL : laidMetH Tryz.prog Rows.configLinesRow.laid W)
    (hZ : (DataW.weightsEach Tryz.prog (Tryz.f5.params.toList ++ vt) (ds ++ gs)).all (· ≤ reachBytes) = true) :
    Calls Tryz.prog 5 args W fun e W' => ∃ v, e = .returned v ∧ Rows.configLinesSpec.post enc Tryz.prog Tryz.f5 false true false false W args v W' := by
  have hW' := hW
  obtain ⟨p, q, hA0, hV, rfl, hfz, hnd⟩ := hW
  have hA : DataW.TrodAll enc Tryz.prog W 0 (fun _ => true) true Tryz.f5.params.toList args.toList ds p := hA0
  rw [Tryz.params5] at hA hval hZ
  obtain ⟨v0, vs0, d0, ds0, p0, q0, hargs, rfl, rfl, h0, r0⟩ := trodAll_cons hA
  obtain ⟨v1, vs1, d1, ds1, p1, q1, rfl, rfl, rfl, h1, r1⟩ := trodAll_cons r0
  obtain ⟨rfl, rfl, rfl⟩ := trodAll_nil r1
  obtain rfl : args = #[v0, v1] := by cases args; simp_all
  obtain ⟨rfl, rfl⟩ := trodVars_none hV
  have wz : ∀ (j : Nat) t d, _ → _ → ∀ n ∈ DataW.weights Tryz.prog t d, n ≤ reachBytes := fun j t d ht hd n hn => of_decide_eq_true (List.all_eq_true.1 hZ n (DataW.weights_mem_each (j := j) ht hd n hn))
  have k0 := h0
  have lt0 : ∀ x ∈ p0, x.block < W.heap.size := by obtain ⟨m, hm⟩ := k0; exact DataW.trod_lt m _ _ _ hm
  have k1 := h1
  have lt1 : ∀ x ∈ p1, x.block < W.heap.size := by obtain ⟨m, hm⟩ := k1; exact DataW.trod_lt m _ _ _ hm
  obtain ⟨s0_, rfl, ed0_, _, hs0_⟩ := open_string Tryz.underlying9 (hval 0 9 v0 rfl rfl) h0
  have hn0_ : s0_.data.toList.length ≤ reachBytes := (wz 0 9 d0 rfl rfl) _ (by rw [ed0_]; simp [DataW.weights])
  obtain ⟨i1_, rfl, _, _, w1_⟩ := open_int Tryz.underlying45 (hval 1 45 v1 rfl rfl) h1
  have x1_ := w1_
  simp [Lit.wf, IntKind.min, IntKind.max, IntKind.signed, IntKind.bits] at x1_
  clear hA0
  refine (Up  s0_.data.toList i1_ W (laid_of hL)  true (Do _ _ (by omega) (by omega))).mono fun e W' ⟨he, bel0⟩ => ?_
  have bel := SP.keeps bel0
  subst he
  exact ⟨_, rfl, _, _, _, [], _, [], hW', trodAll_mk1 (shut_bool Tryz.underlying4 _), (trodAll_cons_mk (Below.trod laidOut (by kernel_rfl) (of_decide_eq_true (by kernel_rfl)) k0 bel lt0) (trodAll_cons_mk (Below.trod laidOut (by kernel_rfl) (of_decide_eq_true (by kernel_rfl)) k1 bel lt1) trodAll_mk0)), rfl, bel.frame _, fun h => by cases h⟩
theorem Rf (os : Os) : laidMet Tryz.prog Rows.configLinesRow.laid ((B4 os).forCall (fun _ _ => 0) ⟨#[], #[.string ⟨#[]⟩, .int .u16 0], []⟩).memory :=
  laidMet_of_run' 8 (by kernel_rfl) (by kernel_rfl)
theorem Dq (os : Os) {H : Type} (enc : TypeId × Value → H) : ∃ places, DataW.whole enc Tryz.prog ((B4 os).forCall (fun _ _ => 0) ⟨#[], #[.string ⟨#[]⟩, .int .u16 0], []⟩).memory Tryz.f5.params.toList Rows.configLinesSpec.vars false [.string ⟨#[]⟩, .int .u16 0] 8 = some ([.lit (.string []), .lit (.int .u16 0)], [], places) :=
  ⟨[], by kernel_rfl⟩
theorem Db (os : Os) (started : os.Started) (H : Type) (enc : TypeId × Value → H) (F : Stop.Interp) :
    ReturnsInHanded {} Tryz.checked os 5 .any ((OpenSpec.ofChange Rows.configLinesSpec).preRow enc Tryz.prog Tryz.f5 Rows.configLinesRow.domain false Rows.configLinesRow.laid) (((OpenSpec.ofChange Rows.configLinesSpec).at F).post enc Tryz.prog Tryz.f5 false true false false) := by
  obtain ⟨places, hx⟩ := Dq os enc
  refine returnsInHanded_of_row (C := Tryz.checked) (s := OpenSpec.ofChange Rows.configLinesSpec) own started (by kernel_rfl) Tryz.func5
    (witness_row_at (enc := enc) (C := Tryz.checked) false (B4 os) #[.string ⟨#[]⟩, .int .u16 0] rfl (by kernel_rfl) (by kernel_rfl) (by kernel_rfl)
      (OpenSpec.preRow_of_cond 8 hx (by kernel_rfl) (fun k hk => by cases hk) (by kernel_rfl) (Rf os))) ?_
  intro W base args ds gs before hval hW _ _ hZ hL _ _
  exact Re H enc W base args ds gs before _ hval hW hL hZ
theorem D7 : Rows.ConfigLinesSaid :=
  OpenClaim.holds_of_cond 5 Tryz.f5 rfl rfl rfl rfl rfl rfl rfl ⟨rfl, rfl, rfl, rfl, rfl⟩ rfl rfl rfl rfl rfl (by kernel_rfl) Tryz.func5 (by kernel_rfl)
    (of_decide_eq_true (by kernel_rfl)) (by unfold Func.isWrapper; first | (rw [if_pos (by decide +kernel)]; kernel_rfl) | (rw [if_neg (by decide +kernel)]; exact ⟨rfl, rfl⟩))
    (fun os started H enc _ F => by rw [OpenClaim.pre_eq_preRow]; exact Db os started H enc F)
theorem Gz (f : FuncId) (fn : Func) (hf : Tryz.pinned.checked.prog.funcNamed Rows.configLinesRow.func = some f) (hfn : Tryz.pinned.checked.prog.funcs[f]? = some fn) :
    false = Tryz.pinned.checked.prog.looks [] ∧ ∀ (j : Nat) t, fn.params[j]? = some t → Tryz.pinned.checked.prog.wantsStandIn t = false := by
  obtain rfl : f = 5 := Option.some.inj ((show Tryz.prog.funcNamed Rows.configLinesRow.func = some 5 by kernel_rfl).symm.trans hf) |>.symm
  obtain rfl : fn = Tryz.f5 := (Option.some.inj (Tryz.func5.symm.trans hfn)).symm
  refine ⟨by kernel_rfl, fun j t ht => ?_⟩
  have ha : (Tryz.f5.params.toList.all fun t => !Tryz.prog.wantsStandIn t) = true := by kernel_rfl
  rw [List.all_eq_true] at ha
  have := ha t (by rw [← Array.getElem?_toList] at ht; exact List.mem_of_getElem? ht)
  have h2 : Tryz.prog.wantsStandIn t = false := by simpa using this
  exact h2
theorem configLines_card : Rows.ConfigLinesCardSaid :=
  Claim7.holds_tied_plain_at .later [] _ _ _ _ D7 (fun _ h => by cases h) (by kernel_rfl) (fun _ h => by cases h) configLines_row_tie rfl ⟨rfl, rfl⟩ (by kernel_rfl) rfl Gz (by kernel_rfl)
#print axioms configLines_card
end Go.Proofs.YtoflbpmbkmephaaGreatDoor
