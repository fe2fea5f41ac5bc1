import Derived.Test.YtmgfanhcdfobhaaGreatDoorPkVaultTime4
set_option linter.unusedSimpArgs false
set_option linter.unusedVariables false
set_option linter.unusedSectionVars false
namespace Go.Proofs.YtmgfanhcdfobhaaGreatDoor
open Go.RowKit
def Yx (a : Int) (b : Int) (c : Int) (d : Int) (e : (List Qk)) : Option (Option (Int × Int × Int × Int × No)) :=
  ((J7 a b c d e).bind fun f => (cond (!f) (some none) (some (some (a, b, c, d, ([] : No))))))
set_option maxRecDepth 100000 in
set_option maxHeartbeats 4000000 in
theorem X0 (A6 : Option Addr) (c7 : Nat) (a : Int) (c : Int) (f : Int) (g : Int) (d9 : (List Vi)) (w0 : World) (hL : Do w0) (y : (dDS U1 B9).ok w0 (A6, c7, d9)) (r : (Option (Int × Int × Int × Int × No))) (H : Yx a c f g (List.map stT d9) = some r) :
  Calls Tryz.prog 18 #[(.agg #[(.int .i64 a), (.int .i64 c), (.int .i64 f), (.int .i64 g), (.slice A6 (List.length (List.map stT d9)) c7)])] w0 (fun e w' => match r with | none => e = .returned (.pointer none) ∧ SP [] w0 w' [] | some o => ∃ (q : Nat) (s : Nat), e = .returned (pt q 0) ∧ SP [] w0 w' [Q7 q 79 #[(.int .i64 o.1), (.int .i64 o.2.1), (.int .i64 o.2.2.1), (.int .i64 o.2.2.2.1), (.slice A6 (List.length (List.map stT d9)) c7), (.map (some s))], Zp s o.2.2.2.2]) := by
 unfold Yx at H
 refine Qu (n := 10) Tryz.func18 K K K ?_
 have z := Qz [] w0
 refine aQ ?_
 refine aR ?_
 refine iS 1 ?_
 refine Vz (t := 24) (x := (.tmp 0)) (v := (.agg #[(.int .i64 a), (.int .i64 c), (.int .i64 f), (.int .i64 g), (.slice A6 (List.length (List.map stT d9)) c7)])) (d := (some 1)) (k := 0) K rfl K z ?_
 intro u w32 h
 refine iR 1 2 [(2, (.pointer none))] ?_
 refine iF ?_
 refine aQ ?_
 refine aQ ?_
 refine aR ?_
 refine iS 1 ?_
 refine sL 24 1 u 0 0 (.agg #[(.int .i64 a), (.int .i64 c), (.int .i64 f), (.int .i64 g), (.slice A6 (List.length (List.map stT d9)) c7)]) 3 h rfl ?_
 obtain ⟨i, a0, H⟩ := Qe H
 refine iS 2 ?_
 refine cF 43 #[(.tmp 3)] #[24] 4 Tryz.call43 (Dd A6 c7 a c f g d9 w32 (Zk hL (SP.keeps h)) (Dp.sp y h) i a0) ?_
 rintro e a3 ⟨rfl, w⟩
 refine ⟨_, rfl, ?_⟩
 have j := SP.call h w
 clear w
 refine iR 1 3 [(5, (.bool (!i)))] ?_
 refine iF ?_
 refine Zj K (o := (.tmp 5)) K (b := (!i)) K (fun l => ?_) (fun l => ?_)
 ·have H := ct H l
  refine aQ ?_
  refine aR ?_
  refine iR 1 1 [(2, (.pointer none))] ?_
  refine iF ?_
  refine At.ret K ?_
  refine ⟨(.pointer none), K, ?_⟩
  obtain rfl := Ql H
  exact ⟨rfl, SP.sel j [] rfl rfl⟩
 ·have H := cf H l
  refine At.skip K ?_
  refine aQ ?_
  refine aR ?_
  refine iS 1 ?_
  refine sL 24 1 u 0 0 (.agg #[(.int .i64 a), (.int .i64 c), (.int .i64 f), (.int .i64 g), (.slice A6 (List.length (List.map stT d9)) c7)]) 6 j rfl ?_
  refine iS 2 ?_
  refine Fj (T := 77) (dst := (some 7)) (o := 1) K rfl j ?_
  intro m a4 a1
  refine iR 1 3 [(8, (.agg #[(.int .i64 a), (.int .i64 c), (.int .i64 f), (.int .i64 g), (.slice A6 (List.length (List.map stT d9)) c7), (.map (some m))]))] ?_
  refine iS 4 ?_
  refine Vz (t := 79) (x := (.tmp 8)) (v := (.agg #[(.int .i64 a), (.int .i64 c), (.int .i64 f), (.int .i64 g), (.slice A6 (List.length (List.map stT d9)) c7), (.map (some m))])) (d := (some 9)) (k := 3) K rfl K a1 ?_
  intro p a5 a2
  refine iR 1 5 [(2, (pt p 0))] ?_
  refine iF ?_
  refine At.ret K ?_
  refine ⟨(pt p 0), K, ?_⟩
  obtain rfl := Ql H
  exact ⟨p, m, rfl, SP.sel a2 [2,1] rfl rfl⟩
def Jb (f : (List UInt8)) (g : (List UInt8)) (h : Int) (q5 : (List UInt8)) (q7 : (List UInt8)) (q9 : Int) (c : Int) (d : Int) (e : Int) (i : (List Qk)) (a : No) (j : Bool) : Option (Int × Int × Int × Int × No × Bool) :=
  ((chk (Nat.ble (List.length q5) 140737488355328 && Nat.ble (List.length q7) 140737488355328)).bind fun _ => ((chk (Nat.ble (List.length q5) 140737488355328 && Nat.ble (List.length q7) 140737488355328)).bind fun _ => ((some (mset a (q5, q7) (IntKind.wrap .i64 ((N4 a (q5, q7)) + 1)))).bind fun b => ((chk (Nat.ble (List.length q5) 140737488355328 && Nat.ble (List.length q7) 140737488355328)).bind fun _ => (some (q9, c, d, e, b, ((N4 b (q5, q7)) == 1)))))))
set_option maxRecDepth 100000 in
set_option maxHeartbeats 4000000 in
theorem N1 {S : List Nat} (g4 : Nat) (g6 : Nat) (g8 : Nat) (u : Option Addr) (a0 : Nat) (a : Nat) (f : Nat) (j : Nat) (a1 : (List UInt8)) (a2 : (List UInt8)) (a3 : Int) (q5 : (List UInt8)) (q7 : (List UInt8)) (q9 : Int) (a4 : Int) (a5 : Int) (a6 : Int) (q : (List Vi)) (c : No) (a8 : Bool) (w0 : World) (hO : SP S w0 w0 [Q7 g4 9 #[(.string ⟨List.toArray q5⟩)], Q7 g6 9 #[(.string ⟨List.toArray q7⟩)], Q7 g8 79 #[(.int .i64 q9), (.int .i64 a4), (.int .i64 a5), (.int .i64 a6), (.slice u (List.length (List.map stT q)) a0), (.map (some a))], Zp a c, Q7 f 29 #[(pt g8 0)], Q7 j 4 #[(.bool a8)]]) (e4 : ∀ w, Mod S w0 w → (dDS U1 B9).ok w (u, a0, q)) (r : (Int × Int × Int × Int × No × Bool)) (H : Jb a1 a2 a3 q5 q7 q9 a4 a5 a6 (List.map stT q) c a8 = some r) :
  Calls Tryz.prog 46 #[(.agg #[(.string ⟨List.toArray a1⟩), (.string ⟨List.toArray a2⟩), (.int .i64 a3)]), (pt g4 0), (pt g6 0), (pt f 0), (pt j 0)] w0 (fun e w' => e = .returned (.tuple #[]) ∧ SP S w0 w' [Q7 g4 9 #[(.string ⟨List.toArray q5⟩)], Q7 g6 9 #[(.string ⟨List.toArray q7⟩)], Q7 g8 79 #[(.int .i64 r.1), (.int .i64 r.2.1), (.int .i64 r.2.2.1), (.int .i64 r.2.2.2.1), (.slice u (List.length (List.map stT q)) a0), (.map (some a))], Zp a r.2.2.2.2.1, Q7 f 29 #[(pt g8 0)], Q7 j 4 #[(.bool r.2.2.2.2.2)]]) := by
 unfold Jb at H
 refine Qu (n := 26) Tryz.func46 K K K ?_
 have c0 := hO
 refine aQ ?_
 refine aR ?_
 refine iS 1 ?_
 refine Vz (t := 48) (x := (.tmp 0)) (v := (.agg #[(.string ⟨List.toArray a1⟩), (.string ⟨List.toArray a2⟩), (.int .i64 a3)])) (d := (some 5)) (k := 0) K rfl K c0 ?_
 intro b0 e5 b3
 refine iF ?_
 refine aQ ?_
 refine aR ?_
 refine iS 1 ?_
 refine sL 9 1 g4 0 0 (.string ⟨List.toArray q5⟩) 7 b3 rfl ?_
 refine iS 2 ?_
 refine sL 9 2 g6 0 1 (.string ⟨List.toArray q7⟩) 8 b3 rfl ?_
 refine iR 1 3 [(9, (.agg (Qb V5 ([q5, q7] : List (List UInt8))).toArray))] ?_
 refine iS 4 ?_
 refine Qw (e := V5) (l := (List.replicate 2 ([] : List UInt8))) (m := 2) (t := 83) (z := .agg (Qb V5 (List.replicate 2 ([] : List UInt8))).toArray) (d := (some 6)) (k := 3) K rfl K rfl rfl K b3 ?_
 intro p e6 c1
 refine iS 5 ?_
 refine Q4 (e := V5) (l := (List.replicate 2 ([] : List UInt8))) (l' := ([q5, q7] : List (List UInt8))) (m := 2) (t := 83) (x := (.tmp 6)) (y := (.tmp 9)) (g := p) (i := 7) (d := none) (k := 4) K rfl K K rfl c1 rfl K ?_
 intro e7 c2
 refine iF ?_
 refine aQ ?_
 obtain ⟨b1, H⟩ := Vm H
 obtain ⟨b2, H⟩ := Vm H
 obtain ⟨s, hyl137, H⟩ := Vq H
 refine aG [GEq (pt g8 0), GEq (pt g8 0), GEq (pt g8 5), GEq (.map (some a)), GEq (.agg (Qb V5 ([q5, q7] : List (List UInt8))).toArray), GEq (.int .i64 (N4 c (q5, q7))), GEq (.int .i64 (IntKind.wrap .i64 ((N4 c (q5, q7)) + 1))), D1, D1, D1] [7, 8, 9] [([], fun vs w => VL vs [] ∧ SP S w0 w [Q7 g4 9 #[(.string ⟨List.toArray q5⟩)], Q7 g6 9 #[(.string ⟨List.toArray q7⟩)], Q7 g8 79 #[(.int .i64 q9), (.int .i64 a4), (.int .i64 a5), (.int .i64 a6), (.slice u (List.length (List.map stT q)) a0), (.map (some a))], Zp a c, Q7 f 29 #[(pt g8 0)], Q7 j 4 #[(.bool a8)], Q7 b0 48 #[(.string ⟨List.toArray a1⟩), (.string ⟨List.toArray a2⟩), (.int .i64 a3)], Q8 83 V5 p 2 ([q5, q7] : List (List UInt8))]), ([7], fun vs w => ∃ (a9 : Nat), VL vs [(.tuple #[(.int .i64 (N4 c (q5, q7))), (.int .i64 ((a9 : Nat) : Int))])] ∧ SP S w0 w [Q7 g4 9 #[(.string ⟨List.toArray q5⟩)], Q7 g6 9 #[(.string ⟨List.toArray q7⟩)], Q7 g8 79 #[(.int .i64 q9), (.int .i64 a4), (.int .i64 a5), (.int .i64 a6), (.slice u (List.length (List.map stT q)) a0), (.map (some a))], Ff a c (q5, q7) a9, Q7 f 29 #[(pt g8 0)], Q7 j 4 #[(.bool a8)], Q7 b0 48 #[(.string ⟨List.toArray a1⟩), (.string ⟨List.toArray a2⟩), (.int .i64 a3)], Q8 83 V5 p 2 ([q5, q7] : List (List UInt8))]), ([7, 8], fun vs w => ∃ (a7 : Nat), VL vs [(.tuple #[(.int .i64 (N4 c (q5, q7))), (.int .i64 ((a7 : Nat) : Int))]), (.int .i64 ((a7 : Nat) : Int))] ∧ SP S w0 w [Q7 g4 9 #[(.string ⟨List.toArray q5⟩)], Q7 g6 9 #[(.string ⟨List.toArray q7⟩)], Q7 g8 79 #[(.int .i64 q9), (.int .i64 a4), (.int .i64 a5), (.int .i64 a6), (.slice u (List.length (List.map stT q)) a0), (.map (some a))], Ff a c (q5, q7) a7, Q7 f 29 #[(pt g8 0)], Q7 j 4 #[(.bool a8)], Q7 b0 48 #[(.string ⟨List.toArray a1⟩), (.string ⟨List.toArray a2⟩), (.int .i64 a3)], Q8 83 V5 p 2 ([q5, q7] : List (List UInt8))]), ([7, 8, 9], fun vs w => ∃ (b4 : Nat), VL vs [(.tuple #[(.int .i64 (N4 c (q5, q7))), (.int .i64 ((b4 : Nat) : Int))]), (.int .i64 ((b4 : Nat) : Int)), undef] ∧ SP S w0 w [Q7 g4 9 #[(.string ⟨List.toArray q5⟩)], Q7 g6 9 #[(.string ⟨List.toArray q7⟩)], Q7 g8 79 #[(.int .i64 q9), (.int .i64 a4), (.int .i64 a5), (.int .i64 a6), (.slice u (List.length (List.map stT q)) a0), (.map (some a))], Zp a s, Q7 f 29 #[(pt g8 0)], Q7 j 4 #[(.bool a8)], Q7 b0 48 #[(.string ⟨List.toArray a1⟩), (.string ⟨List.toArray a2⟩), (.int .i64 a3)], Q8 83 V5 p 2 ([q5, q7] : List (List UInt8))])] 10 3 ⟨trivial, SP.drew c2⟩ ?_ ?_
 iterate 10 refine And.intro ?_ ?_
 exact trivial
 ·refine oL 0 ?_
  ·rintro ρ' w' hs hah ⟨e8, c3⟩
   refine kM (kc (kS hs 3 (pt f 0)) k0) fun hkn => ?_
   refine sL 29 3 f 0 4 (pt g8 0) 10 c3 rfl ?_
   exact eK hkn
 ·exact oV (hC (hA 0 10) (h0)) (pt g8 0)
 ·exact oV (hC (hA 1 11) (h0)) (pt g8 5)
 ·refine oL 0 ?_
  ·rintro ρ' w' hs hah ⟨e9, c4⟩
   refine kM (kc (kA hah 2 12) k0) fun hkn => ?_
   refine sL 77 12 g8 5 2 (.map (some a)) 13 c4 rfl ?_
   exact eK hkn
 ·refine oL 0 ?_
  ·rintro ρ' w' hs hah ⟨f0, c5⟩
   refine kM (kc (kS hs 6 (pt p 0)) k0) fun hkn => ?_
   refine Vv (e := V5) (l := ([q5, q7] : List (List UInt8))) (m := 2) (t := 83) (x := (.tmp 6)) (g := p) (i := 7) (d := (some 14)) (k := 4) K rfl K c5 rfl K K ?_
   exact eK hkn
 ·refine Owe.light K [0, 1, 2] K (Qc ?_ (Qc ?_ (Qc ?_ Q1)))
  ·rintro ρ' w' hs hah ⟨f1, c6⟩
   refine kM (kc (kA hah 3 13) (kc (kA hah 4 14) k0)) fun hkn => ?_
   refine R0 (T := 77) (kt := 83) (et := 3) (m := a) (L := c) (k := (q5, q7)) (x := (.tmp 13)) (ix := (.tmp 14)) (dst := (some 15)) (o := 5) K rfl K K K G3 (fun _ => rfl) (SP.get c6 (i := 3) rfl) (Ev b1).1 (Ev b1).2 ?_
   exact eK hkn
  ·rintro ρ' w' hs hah ⟨a9, ⟨f2, -⟩, c7⟩
   refine kM (kc (kA hah 3 13) (kc (kA hah 4 14) k0)) fun hkn => ?_
   refine B2 (T := 77) (kt := 83) (et := 3) (m := a) (L := c) (k := (q5, q7)) (x := (.tmp 13)) (ix := (.tmp 14)) (dst := (some 15)) (o := 5) K rfl K K K G3 (fun _ => rfl) (SP.get c7 (i := 3) rfl) (Ev b1).1 (Ev b1).2 ?_
   exact eK hkn
  ·rintro ρ' w' hs hah ⟨a7, ⟨f3, f4, -⟩, c8⟩
   refine kM (kc (kA hah 3 13) (kc (kA hah 4 14) k0)) fun hkn => ?_
   refine B2 (T := 77) (kt := 83) (et := 3) (m := a) (L := c) (k := (q5, q7)) (x := (.tmp 13)) (ix := (.tmp 14)) (dst := (some 15)) (o := 5) K rfl K K K G3 (fun _ => rfl) (SP.get c8 (i := 3) rfl) (Ev b1).1 (Ev b1).2 ?_
   exact eK hkn
 ·exact oV (hC (hA 5 15) (h0)) (.int .i64 (IntKind.wrap .i64 ((N4 c (q5, q7)) + 1)))
 ·refine oH 0 1 ?_
  ·rintro ρ' w' hs hah ⟨f5, c9⟩
   refine kM (kc (kA hah 3 13) (kc (kA hah 4 14) k0)) fun hkn => ?_
   refine Es (T := 77) (kt := 83) (et := 3) (m := a) (L := c) (k := (q5, q7)) (x := (.tmp 13)) (ix := (.tmp 14)) (dst := (some 17)) (o := 7) (i := 3) K rfl K K K G3 (fun _ => rfl) c9 rfl (Ev b2).1 (Ev b2).2 ?_
   intro d0 f6 d1
   refine ⟨_, Qa hkn, trivial, ?_⟩
   exact (Exists.intro d0 (And.intro (And.intro rfl (trivial)) (d1)))
 ·refine oH 1 2 ?_
  ·rintro ρ' w' hs hah ⟨a9, ⟨b5, -⟩, d2⟩
   refine kN [(17, (.tuple #[(.int .i64 (N4 c (q5, q7))), (.int .i64 ((a9 : Nat) : Int))]))] ⟨(Z8 (h := 7) K).symm.trans b5, trivial⟩ fun hkn => ?_
   refine Qi.run (k := 8) (v := (.int .i64 ((a9 : Nat) : Int))) K ?_
   refine ⟨_, Qa hkn, trivial, ?_⟩
   exact (Exists.intro a9 (And.intro (And.intro b5 (And.intro rfl (trivial))) (d2)))
 ·refine oH 2 3 ?_
  ·rintro ρ' w' hs hah ⟨a7, ⟨d3, b6, -⟩, d4⟩
   refine kN [(13, (.map (some a))), (18, (.int .i64 ((a7 : Nat) : Int))), (16, (.int .i64 (IntKind.wrap .i64 ((N4 c (q5, q7)) + 1))))] ⟨hah 3 13 K, (Z8 (h := 8) K).symm.trans b6, hah 6 16 K, trivial⟩ fun hkn => ?_
   refine Et (T := 77) (m := a) (L := c) (k := (q5, q7)) (x := (.tmp 13)) (ix := (.tmp 18)) (y := (.tmp 16)) (i := 3) (b := a7) (v := (IntKind.wrap .i64 ((N4 c (q5, q7)) + 1))) (dst := none) (o := 9) K rfl K K K d4 rfl (Ev b2).1 (Ev b2).2 ?_
   rw [hyl137]
   intro f7 d5
   refine ⟨_, Qa hkn, trivial, ?_⟩
   exact (Exists.intro a7 (And.intro (And.intro d3 (And.intro b6 (And.intro rfl (trivial)))) (d5)))
 ·rintro ρ' w' hs hf ⟨b4, ⟨f8, f9, g0, -⟩, b7⟩
  refine Vh [(3, (pt f 0)), (4, (pt j 0)), (6, (pt p 0))] ⟨(hs 3 K).trans K, (hs 4 K).trans K, (hs 6 K).trans K, trivial⟩ ?_
  obtain ⟨g1, d6⟩ : ∃ x, w' = x := ⟨_, rfl⟩
  rw [d6] at b7 ⊢
  obtain ⟨b8, H⟩ := Vm H
  refine aG [GEq (pt g8 0), GEq (pt g8 0), GEq (pt g8 5), GEq (.map (some a)), GEq (.agg (Qb V5 ([q5, q7] : List (List UInt8))).toArray), GEq (.int .i64 (N4 s (q5, q7))), GEq (.bool ((N4 s (q5, q7)) == 1)), D1] [7] [sG [] [] S w0 [Q7 g4 9 #[(.string ⟨List.toArray q5⟩)], Q7 g6 9 #[(.string ⟨List.toArray q7⟩)], Q7 g8 79 #[(.int .i64 q9), (.int .i64 a4), (.int .i64 a5), (.int .i64 a6), (.slice u (List.length (List.map stT q)) a0), (.map (some a))], Zp a s, Q7 f 29 #[(pt g8 0)], Q7 j 4 #[(.bool a8)], Q7 b0 48 #[(.string ⟨List.toArray a1⟩), (.string ⟨List.toArray a2⟩), (.int .i64 a3)], Q8 83 V5 p 2 ([q5, q7] : List (List UInt8))], sG [7] [undef] S w0 [Q7 g4 9 #[(.string ⟨List.toArray q5⟩)], Q7 g6 9 #[(.string ⟨List.toArray q7⟩)], Q7 g8 79 #[(.int .i64 q9), (.int .i64 a4), (.int .i64 a5), (.int .i64 a6), (.slice u (List.length (List.map stT q)) a0), (.map (some a))], Zp a s, Q7 f 29 #[(pt g8 0)], Q7 j 4 #[(.bool ((N4 s (q5, q7)) == 1))], Q7 b0 48 #[(.string ⟨List.toArray a1⟩), (.string ⟨List.toArray a2⟩), (.int .i64 a3)], Q8 83 V5 p 2 ([q5, q7] : List (List UInt8))]] 8 1 ⟨trivial, SP.drew b7⟩ ?_ ?_
  iterate 8 refine And.intro ?_ ?_
  exact trivial
  ·refine oL 0 ?_
   ·rintro ρ' w' hs hah ⟨g2, d7⟩
    refine kM (kc (kS hs 3 (pt f 0)) k0) fun hkn => ?_
    refine sL 29 3 f 0 4 (pt g8 0) 19 d7 rfl ?_
    exact eK hkn
  ·exact oV (hC (hA 0 19) (h0)) (pt g8 0)
  ·exact oV (hC (hA 1 20) (h0)) (pt g8 5)
  ·refine oL 0 ?_
   ·rintro ρ' w' hs hah ⟨g3, d8⟩
    refine kM (kc (kA hah 2 21) k0) fun hkn => ?_
    refine sL 77 21 g8 5 2 (.map (some a)) 22 d8 rfl ?_
    exact eK hkn
  ·refine oL 0 ?_
   ·rintro ρ' w' hs hah ⟨g5, d9⟩
    refine kM (kc (kS hs 6 (pt p 0)) k0) fun hkn => ?_
    refine Vv (e := V5) (l := ([q5, q7] : List (List UInt8))) (m := 2) (t := 83) (x := (.tmp 6)) (g := p) (i := 7) (d := (some 23)) (k := 4) K rfl K d9 rfl K K ?_
    exact eK hkn
  ·refine oL 0 ?_
   ·rintro ρ' w' hs hah ⟨g7, e0⟩
    refine kM (kc (kA hah 3 22) (kc (kA hah 4 23) k0)) fun hkn => ?_
    refine R0 (T := 77) (kt := 83) (et := 3) (m := a) (L := s) (k := (q5, q7)) (x := (.tmp 22)) (ix := (.tmp 23)) (dst := (some 24)) (o := 5) K rfl K K K G3 (fun _ => rfl) (SP.get e0 (i := 3) rfl) (Ev b8).1 (Ev b8).2 ?_
    exact eK hkn
  ·exact oV (hC (hA 5 24) (h0)) (.bool ((N4 s (q5, q7)) == 1))
  ·refine oH 0 1 ?_
   ·rintro ρ' w' hs hah ⟨g9, e1⟩
    refine kM (kc (kS hs 4 (pt j 0)) (kc (kA hah 6 25) k0)) fun hkn => ?_
    refine Qi.store (t := 4) (x := (.tmp 4)) (y := (.tmp 25)) (g := j) (off := 0) (i := 5) (v := (.bool ((N4 s (q5, q7)) == 1))) (cs' := #[(.bool ((N4 s (q5, q7)) == 1))]) (d := none) (k := 7) K rfl K K e1 rfl K ?_
    intro h1 e2
    refine ⟨_, Qa hkn, trivial, ?_⟩
    exact (And.intro (And.intro rfl (trivial)) (e2))
  ·rintro ρ' w' hs hf ⟨⟨h2, -⟩, b9⟩
   refine Vh [] trivial ?_
   obtain ⟨h3, e3⟩ : ∃ x, w' = x := ⟨_, rfl⟩
   rw [e3] at b9 ⊢
   refine ⟨(.tuple #[]), K, ?_⟩
   obtain rfl := Ql H
   exact ⟨rfl, SP.sel b9 [0,1,2,3,4,5] rfl rfl⟩
def Zy (a : Bool) : Option (Bool) :=
  (some (a))
def Yg (f : (List UInt8)) (g : (List UInt8)) (c : Int) (q5 : Int) (q6 : Int) (q7 : Int) (q8 : Int) (q9 : (List Qk)) (d : No) (a : (List UInt8)) (b : (List UInt8)) (e : Int) (h : Bool) : Option (Bool) :=
  ((chk (Nat.ble (List.length a) 140737488355328 && Nat.ble (List.length b) 140737488355328)).bind fun _ => (cond ((N4 d (a, b)) == 0) (Zy (decide (e < c))) (Zy false)))
set_option maxRecDepth 100000 in
set_option maxHeartbeats 4000000 in
theorem Gd {S : List Nat} (g4 : Nat) (a3 : Option Addr) (a4 : Nat) (f : Nat) (q : Nat) (s : Nat) (u : Nat) (a0 : Nat) (z : Nat) (a5 : (List UInt8)) (a6 : (List UInt8)) (j : Int) (q5 : Int) (q6 : Int) (q7 : Int) (q8 : Int) (a1 : (List Vi)) (c : No) (a : (List UInt8)) (b : (List UInt8)) (h : Int) (a7 : Bool) (w0 : World) (hO : SP S w0 w0 [Q7 g4 79 #[(.int .i64 q5), (.int .i64 q6), (.int .i64 q7), (.int .i64 q8), (.slice a3 (List.length (List.map stT a1)) a4), (.map (some f))], Zp f c, Q7 q 29 #[(pt g4 0)], Q7 s 9 #[(.string ⟨List.toArray a⟩)], Q7 u 9 #[(.string ⟨List.toArray b⟩)], Q7 a0 2 #[(.int .i64 h)], Q7 z 4 #[(.bool a7)]]) (d5 : ∀ w, Mod S w0 w → (dDS U1 B9).ok w (a3, a4, a1)) (r : (Bool)) (H : Yg a5 a6 j q5 q6 q7 q8 (List.map stT a1) c a b h a7 = some r) :
  Calls Tryz.prog 49 #[(.agg #[(.string ⟨List.toArray a5⟩), (.string ⟨List.toArray a6⟩), (.int .i64 j)]), (pt q 0), (pt s 0), (pt u 0), (pt a0 0), (pt z 0)] w0 (fun e w' => e = .returned (.tuple #[]) ∧ SP S w0 w' [Q7 g4 79 #[(.int .i64 q5), (.int .i64 q6), (.int .i64 q7), (.int .i64 q8), (.slice a3 (List.length (List.map stT a1)) a4), (.map (some f))], Zp f c, Q7 q 29 #[(pt g4 0)], Q7 s 9 #[(.string ⟨List.toArray a⟩)], Q7 u 9 #[(.string ⟨List.toArray b⟩)], Q7 a0 2 #[(.int .i64 h)], Q7 z 4 #[(.bool r)]]) := by
 unfold Yg at H
 refine Qu (n := 22) Tryz.func49 K K K ?_
 have b4 := hO
 refine aQ ?_
 refine aR ?_
 refine iS 1 ?_
 refine Vz (t := 48) (x := (.tmp 0)) (v := (.agg #[(.string ⟨List.toArray a5⟩), (.string ⟨List.toArray a6⟩), (.int .i64 j)])) (d := (some 6)) (k := 0) K rfl K b4 ?_
 intro a2 d6 b1
 refine iF ?_
 refine At.join (fun ρ w => ∃ (a9 : Bool), Zb ρ [] ∧ SP S w0 w [Q7 g4 79 #[(.int .i64 q5), (.int .i64 q6), (.int .i64 q7), (.int .i64 q8), (.slice a3 (List.length (List.map stT a1)) a4), (.map (some f))], Zp f c, Q7 q 29 #[(pt g4 0)], Q7 s 9 #[(.string ⟨List.toArray a⟩)], Q7 u 9 #[(.string ⟨List.toArray b⟩)], Q7 a0 2 #[(.int .i64 h)], Q7 z 4 #[(.bool a9)]] ∧ Zy a9 = some r) ?_ ?_
 ·obtain ⟨a8, H⟩ := Vm H
  rcases Bool.eq_false_or_eq_true ((N4 c (a, b)) == 0) with p | p
  ·have H := ct H p
   refine aG [GEq (pt g4 0), GEq (pt g4 0), GEq (pt g4 5), GEq (.map (some f)), GEq (.string ⟨List.toArray a⟩), GEq (.string ⟨List.toArray b⟩), GEq (.agg (Qb V5 ([a, b] : List (List UInt8))).toArray), GEq (.int .i64 (N4 c (a, b))), GEq (.bool ((N4 c (a, b)) == 0)), GEq (.bool ((N4 c (a, b)) == 0)), GEq (.int .i64 h), GEq (pt a2 2), GEq (.int .i64 j), GEq (.bool (decide (h < j))), GEq (.bool (decide (h < j))), D1] [15] [sG [] [] S w0 [Q7 g4 79 #[(.int .i64 q5), (.int .i64 q6), (.int .i64 q7), (.int .i64 q8), (.slice a3 (List.length (List.map stT a1)) a4), (.map (some f))], Zp f c, Q7 q 29 #[(pt g4 0)], Q7 s 9 #[(.string ⟨List.toArray a⟩)], Q7 u 9 #[(.string ⟨List.toArray b⟩)], Q7 a0 2 #[(.int .i64 h)], Q7 z 4 #[(.bool a7)], Q7 a2 48 #[(.string ⟨List.toArray a5⟩), (.string ⟨List.toArray a6⟩), (.int .i64 j)]], sG [15] [undef] S w0 [Q7 g4 79 #[(.int .i64 q5), (.int .i64 q6), (.int .i64 q7), (.int .i64 q8), (.slice a3 (List.length (List.map stT a1)) a4), (.map (some f))], Zp f c, Q7 q 29 #[(pt g4 0)], Q7 s 9 #[(.string ⟨List.toArray a⟩)], Q7 u 9 #[(.string ⟨List.toArray b⟩)], Q7 a0 2 #[(.int .i64 h)], Q7 z 4 #[(.bool (decide (h < j)))], Q7 a2 48 #[(.string ⟨List.toArray a5⟩), (.string ⟨List.toArray a6⟩), (.int .i64 j)]]] 16 1 ⟨trivial, SP.drew b1⟩ ?_ ?_
   iterate 16 refine And.intro ?_ ?_
   exact trivial
   ·refine oL 0 ?_
    ·rintro ρ' w' hs hah ⟨d7, b5⟩
     refine kM (kc (kS hs 1 (pt q 0)) k0) fun hkn => ?_
     refine sL 29 1 q 0 2 (pt g4 0) 7 b5 rfl ?_
     exact eK hkn
   ·exact oV (hC (hA 0 7) (h0)) (pt g4 0)
   ·exact oV (hC (hA 1 8) (h0)) (pt g4 5)
   ·refine oL 0 ?_
    ·rintro ρ' w' hs hah ⟨d8, b6⟩
     refine kM (kc (kA hah 2 9) k0) fun hkn => ?_
     refine sL 77 9 g4 5 0 (.map (some f)) 10 b6 rfl ?_
     exact eK hkn
   ·refine oL 0 ?_
    ·rintro ρ' w' hs hah ⟨d9, b7⟩
     refine kM (kc (kS hs 2 (pt s 0)) k0) fun hkn => ?_
     refine sL 9 2 s 0 3 (.string ⟨List.toArray a⟩) 11 b7 rfl ?_
     exact eK hkn
   ·refine oL 0 ?_
    ·rintro ρ' w' hs hah ⟨e0, b8⟩
     refine kM (kc (kS hs 3 (pt u 0)) k0) fun hkn => ?_
     refine sL 9 3 u 0 4 (.string ⟨List.toArray b⟩) 12 b8 rfl ?_
     exact eK hkn
   ·exact oV (hC (hA 4 11) (hC (hA 5 12) (h0))) (.agg (Qb V5 ([a, b] : List (List UInt8))).toArray)
   ·refine oL 0 ?_
    ·rintro ρ' w' hs hah ⟨e1, b9⟩
     refine kM (kc (kA hah 3 10) (kc (kA hah 6 13) k0)) fun hkn => ?_
     refine R0 (T := 77) (kt := 83) (et := 3) (m := f) (L := c) (k := (a, b)) (x := (.tmp 10)) (ix := (.tmp 13)) (dst := (some 14)) (o := 7) K rfl K K K G3 (fun _ => rfl) (SP.get b9 (i := 1) rfl) (Ev a8).1 (Ev a8).2 ?_
     exact eK hkn
   ·exact oV (hC (hA 7 14) (h0)) (.bool ((N4 c (a, b)) == 0))
   ·exact oV (hC (hA 8 15) (h0)) (.bool ((N4 c (a, b)) == 0))
   ·refine oL 0 ?_
    ·rintro ρ' w' hs hah ⟨e2, c0⟩
     have e4 : ρ' 4 = (pt a0 0) := (hs 4 K).trans K
     have b0 := hah 9 16 K
     refine kN [(4, (pt a0 0)), (16, (.bool true))] ⟨e4, (Eq.trans b0 (congrArg Value.bool p)), trivial⟩ fun hkn => ?_
     refine sL 2 4 a0 0 5 (.int .i64 h) 17 c0 rfl ?_
     exact eK hkn
   ·exact oV (hC (hS 6 (pt a2 0)) (hC (hB 9 16 p) (h0))) (pt a2 2)
   ·refine oL 0 ?_
    ·rintro ρ' w' hs hah ⟨e3, c1⟩
     have c2 := hah 11 18 K
     have b0 := hah 9 16 K
     refine kN [(18, (pt a2 2)), (16, (.bool true))] ⟨c2, (Eq.trans b0 (congrArg Value.bool p)), trivial⟩ fun hkn => ?_
     refine sL 2 18 a2 2 7 (.int .i64 j) 19 c1 rfl ?_
     exact eK hkn
   ·exact oV (hC (hA 10 17) (hC (hA 12 19) (hC (hB 9 16 p) (h0)))) (.bool (decide (h < j)))
   ·exact oV (hC (hB 9 16 p) (hC (hA 13 20) (h0))) (.bool (decide (h < j)))
   ·refine oH 0 1 ?_
    ·rintro ρ' w' hs hah ⟨e5, c3⟩
     refine kM (kc (kS hs 5 (pt z 0)) (kc (kA hah 14 21) k0)) fun hkn => ?_
     refine Qi.store (t := 4) (x := (.tmp 5)) (y := (.tmp 21)) (g := z) (off := 0) (i := 6) (v := (.bool (decide (h < j)))) (cs' := #[(.bool (decide (h < j)))]) (d := none) (k := 15) K rfl K K c3 rfl K ?_
     intro e6 c4
     refine ⟨_, Qa hkn, trivial, ?_⟩
     exact (And.intro (And.intro rfl (trivial)) (c4))
   ·rintro ρ' w' hs hf ⟨⟨e7, -⟩, b2⟩
    refine Vh [] trivial ?_
    obtain ⟨e8, c5⟩ : ∃ x, w' = x := ⟨_, rfl⟩
    rw [c5] at b2 ⊢
    exact ⟨(decide (h < j)), trivial, SP.sel b2 [0, 1, 2, 3, 4, 5, 6] rfl rfl, H⟩
  ·have H := cf H p
   refine aG [GEq (pt g4 0), GEq (pt g4 0), GEq (pt g4 5), GEq (.map (some f)), GEq (.string ⟨List.toArray a⟩), GEq (.string ⟨List.toArray b⟩), GEq (.agg (Qb V5 ([a, b] : List (List UInt8))).toArray), GEq (.int .i64 (N4 c (a, b))), GEq (.bool ((N4 c (a, b)) == 0)), GEq (.bool ((N4 c (a, b)) == 0)), GEq undef, GEq undef, GEq undef, GEq undef, GEq (.bool false), D1] [15] [sG [] [] S w0 [Q7 g4 79 #[(.int .i64 q5), (.int .i64 q6), (.int .i64 q7), (.int .i64 q8), (.slice a3 (List.length (List.map stT a1)) a4), (.map (some f))], Zp f c, Q7 q 29 #[(pt g4 0)], Q7 s 9 #[(.string ⟨List.toArray a⟩)], Q7 u 9 #[(.string ⟨List.toArray b⟩)], Q7 a0 2 #[(.int .i64 h)], Q7 z 4 #[(.bool a7)], Q7 a2 48 #[(.string ⟨List.toArray a5⟩), (.string ⟨List.toArray a6⟩), (.int .i64 j)]], sG [15] [undef] S w0 [Q7 g4 79 #[(.int .i64 q5), (.int .i64 q6), (.int .i64 q7), (.int .i64 q8), (.slice a3 (List.length (List.map stT a1)) a4), (.map (some f))], Zp f c, Q7 q 29 #[(pt g4 0)], Q7 s 9 #[(.string ⟨List.toArray a⟩)], Q7 u 9 #[(.string ⟨List.toArray b⟩)], Q7 a0 2 #[(.int .i64 h)], Q7 z 4 #[(.bool false)], Q7 a2 48 #[(.string ⟨List.toArray a5⟩), (.string ⟨List.toArray a6⟩), (.int .i64 j)]]] 16 1 ⟨trivial, SP.drew b1⟩ ?_ ?_
   iterate 16 refine And.intro ?_ ?_
   exact trivial
   ·refine oL 0 ?_
    ·rintro ρ' w' hs hah ⟨e9, c6⟩
     refine kM (kc (kS hs 1 (pt q 0)) k0) fun hkn => ?_
     refine sL 29 1 q 0 2 (pt g4 0) 7 c6 rfl ?_
     exact eK hkn
   ·exact oV (hC (hA 0 7) (h0)) (pt g4 0)
   ·exact oV (hC (hA 1 8) (h0)) (pt g4 5)
   ·refine oL 0 ?_
    ·rintro ρ' w' hs hah ⟨f0, c7⟩
     refine kM (kc (kA hah 2 9) k0) fun hkn => ?_
     refine sL 77 9 g4 5 0 (.map (some f)) 10 c7 rfl ?_
     exact eK hkn
   ·refine oL 0 ?_
    ·rintro ρ' w' hs hah ⟨f1, c8⟩
     refine kM (kc (kS hs 2 (pt s 0)) k0) fun hkn => ?_
     refine sL 9 2 s 0 3 (.string ⟨List.toArray a⟩) 11 c8 rfl ?_
     exact eK hkn
   ·refine oL 0 ?_
    ·rintro ρ' w' hs hah ⟨f2, c9⟩
     refine kM (kc (kS hs 3 (pt u 0)) k0) fun hkn => ?_
     refine sL 9 3 u 0 4 (.string ⟨List.toArray b⟩) 12 c9 rfl ?_
     exact eK hkn
   ·exact oV (hC (hA 4 11) (hC (hA 5 12) (h0))) (.agg (Qb V5 ([a, b] : List (List UInt8))).toArray)
   ·refine oL 0 ?_
    ·rintro ρ' w' hs hah ⟨f3, d0⟩
     refine kM (kc (kA hah 3 10) (kc (kA hah 6 13) k0)) fun hkn => ?_
     refine R0 (T := 77) (kt := 83) (et := 3) (m := f) (L := c) (k := (a, b)) (x := (.tmp 10)) (ix := (.tmp 13)) (dst := (some 14)) (o := 7) K rfl K K K G3 (fun _ => rfl) (SP.get d0 (i := 1) rfl) (Ev a8).1 (Ev a8).2 ?_
     exact eK hkn
   ·exact oV (hC (hA 7 14) (h0)) (.bool ((N4 c (a, b)) == 0))
   ·exact oV (hC (hA 8 15) (h0)) (.bool ((N4 c (a, b)) == 0))
   ·exact oW (hC (hB 9 16 p) (h0)) 17
   ·exact oW (hC (hB 9 16 p) (h0)) 18
   ·exact oW (hC (hB 9 16 p) (h0)) 19
   ·exact oW (hC (hB 9 16 p) (h0)) 20
   ·exact oV (hC (hB 9 16 p) (hC (hA 13 20) (h0))) (.bool false)
   ·refine oH 0 1 ?_
    ·rintro ρ' w' hs hah ⟨f4, d1⟩
     refine kM (kc (kS hs 5 (pt z 0)) (kc (kA hah 14 21) k0)) fun hkn => ?_
     refine Qi.store (t := 4) (x := (.tmp 5)) (y := (.tmp 21)) (g := z) (off := 0) (i := 6) (v := (.bool false)) (cs' := #[(.bool false)]) (d := none) (k := 15) K rfl K K d1 rfl K ?_
     intro f5 d2
     refine ⟨_, Qa hkn, trivial, ?_⟩
     exact (And.intro (And.intro rfl (trivial)) (d2))
   ·rintro ρ' w' hs hf ⟨⟨f6, -⟩, b3⟩
    refine Vh [] trivial ?_
    obtain ⟨f7, d3⟩ : ∃ x, w' = x := ⟨_, rfl⟩
    rw [d3] at b3 ⊢
    exact ⟨false, trivial, SP.sel b3 [0, 1, 2, 3, 4, 5, 6] rfl rfl, H⟩
 ·rintro ρ f8 ⟨a9, hk, d4, H⟩
  unfold Zy at H
  first | refine At.known [] hk ?_ | rw [← Vb (l := []) hk]
  refine ⟨(.tuple #[]), K, ?_⟩
  obtain rfl := Ql H
  exact ⟨rfl, SP.sel d4 [0,1,2,3,4,5,6] rfl rfl⟩
def Jw (c : (List UInt8)) (a : (List UInt8)) (d : Int) (q5 : (List UInt8)) (q7 : (List UInt8)) (q9 : (List UInt8)) (e : (List UInt8)) : Option ((List UInt8)) :=
  ((chk (Nat.ble (List.length a) 281474976710656)).bind fun _ => ((Df a ([q5, q7, q9] : List (List UInt8))).bind fun b => (some (b))))
set_option maxRecDepth 100000 in
set_option maxHeartbeats 4000000 in
theorem Ge {S : List Nat} (g4 : Nat) (g6 : Nat) (g8 : Nat) (b : Nat) (c : (List UInt8)) (a : (List UInt8)) (f : Int) (q5 : (List UInt8)) (q7 : (List UInt8)) (q9 : (List UInt8)) (j : (List UInt8)) (w0 : World) (hO : SP S w0 w0 [Q7 g4 9 #[(.string ⟨List.toArray q5⟩)], Q7 g6 9 #[(.string ⟨List.toArray q7⟩)], Q7 g8 9 #[(.string ⟨List.toArray q9⟩)], Q7 b 9 #[(.string ⟨List.toArray j⟩)]])  (r : ((List UInt8))) (H : Jw c a f q5 q7 q9 j = some r) :
  Calls Tryz.prog 50 #[(.agg #[(.string ⟨List.toArray c⟩), (.string ⟨List.toArray a⟩), (.int .i64 f)]), (pt g4 0), (pt g6 0), (pt g8 0), (pt b 0)] w0 (fun e w' => e = .returned (.tuple #[]) ∧ SP S w0 w' [Q7 g4 9 #[(.string ⟨List.toArray q5⟩)], Q7 g6 9 #[(.string ⟨List.toArray q7⟩)], Q7 g8 9 #[(.string ⟨List.toArray q9⟩)], Q7 b 9 #[(.string ⟨List.toArray r⟩)]]) := by
 unfold Jw at H
 refine Qu (n := 14) Tryz.func50 K K K ?_
 have a0 := hO
 refine aQ ?_
 refine aR ?_
 refine iS 1 ?_
 refine Vz (t := 48) (x := (.tmp 0)) (v := (.agg #[(.string ⟨List.toArray c⟩), (.string ⟨List.toArray a⟩), (.int .i64 f)])) (d := (some 5)) (k := 0) K rfl K a0 ?_
 intro m a8 q
 refine iF ?_
 refine aR ?_
 refine iR 1 1 [(6, (pt m 1))] ?_
 refine iS 2 ?_
 refine sL 9 6 m 1 4 (.string ⟨List.toArray a⟩) 7 q rfl ?_
 obtain ⟨a1, H⟩ := Vm H
 refine iS 3 ?_
 refine Rk (S' := 9) (T := 52) (E := 5) (x := (.tmp 7)) (l := a) (d := (some 8)) (k := 2) K rfl K K K K (Rn a1) q ?_
 intro s u a2 w _
 have h : SP S w0 a2 [Q7 g4 9 #[(.string ⟨List.toArray q5⟩)], Q7 g6 9 #[(.string ⟨List.toArray q7⟩)], Q7 g8 9 #[(.string ⟨List.toArray q9⟩)], Q7 b 9 #[(.string ⟨List.toArray j⟩)], Q7 m 48 #[(.string ⟨List.toArray c⟩), (.string ⟨List.toArray a⟩), (.int .i64 f)], rdE eU8 (some ⟨s, 0, none⟩) u a] := w
 clear w
 refine iS 4 ?_
 refine sL 9 1 g4 0 0 (.string ⟨List.toArray q5⟩) 9 h rfl ?_
 refine iS 5 ?_
 refine sL 9 2 g6 0 1 (.string ⟨List.toArray q7⟩) 10 h rfl ?_
 refine iS 6 ?_
 refine sL 9 3 g8 0 2 (.string ⟨List.toArray q9⟩) 11 h rfl ?_
 refine iS 7 ?_
 refine Vx (e := V5) (T := 53) (E := 9) (len := 3) (parts := #[(0, (.tmp 9)), (1, (.tmp 10)), (2, (.tmp 11))]) (cs := #[(.string ⟨List.toArray q5⟩), (.string ⟨List.toArray q7⟩), (.string ⟨List.toArray q9⟩)]) ([q5, q7, q9] : List (List UInt8)) (d := (some 12)) (k := 6) K rfl (fun _ => K) h rfl rfl rfl rfl ?_
 intro a3 a4 o
 obtain ⟨p, a5, H⟩ := Qe H
 refine iS 8 ?_
 refine cF 51 #[(.tmp 8), (.tmp 12)] #[52, 53] 13 Tryz.call51 (Bi (some ⟨s, 0, none⟩) u (some ⟨a3, 0, none⟩) (List.length ([q5, q7, q9] : List (List UInt8))) a ([q5, q7, q9] : List (List UInt8)) a4 (Fn (SP.get o (i := 5) rfl)) (Vg (SP.get o (i := 6) rfl)) p a5) ?_
 rintro e a9 ⟨rfl, z⟩
 refine ⟨_, rfl, ?_⟩
 have a6 := SP.call o z
 clear z
 refine iS 9 ?_
 refine Qi.store (t := 9) (x := (.tmp 4)) (y := (.tmp 13)) (g := b) (off := 0) (i := 3) (v := (.string ⟨List.toArray p⟩)) (cs' := #[(.string ⟨List.toArray p⟩)]) (d := none) (k := 8) K rfl K K a6 rfl K ?_
 intro b0 a7
 refine iF ?_
 refine ⟨(.tuple #[]), K, ?_⟩
 obtain rfl := Ql H
 exact ⟨rfl, SP.sel a7 [0,1,2,3] rfl rfl⟩
def V1 (a : Int) (b : Int) (c : Int) (d : Int) (e : No) (f : Bool) : Option (Int × Int × Int × Int × No × Bool) :=
  (some (a, b, c, d, e, f))
def Zt (q2 : Int) (q3 : Int) (q4 : Int) (q5 : Int) (q6 : (List Qk)) (d : No) (f : (List UInt8)) (g : (List UInt8)) (h : (List UInt8)) (i : (List UInt8)) (e : Bool) : Option (Int × Int × Int × Int × No × Bool) :=
  ((Yw q2 q3 q4 q5 q6 f).bind fun b => ((Yc b.1 b.2.1 b.2.2.1 b.2.2.2.1 b.2.2.2.2.1 g).bind fun c => (cond c.2.2.2 ((Jb c.1 c.2.1 c.2.2.1 h i q2 q3 q4 q5 q6 d e).bind fun a => (V1 a.1 a.2.1 a.2.2.1 a.2.2.2.1 a.2.2.2.2.1 a.2.2.2.2.2)) (V1 q2 q3 q4 q5 d e))))
set_option maxRecDepth 100000 in
set_option maxHeartbeats 4000000 in
theorem Jl {S : List Nat} (g1 : Nat) (A7 : Option Addr) (c8 : Nat) (j : Nat) (p : Nat) (q : Nat) (s : Nat) (u : Nat) (q2 : Int) (q3 : Int) (q4 : Int) (q5 : Int) (m : (List Vi)) (a7 : No) (a8 : (List UInt8)) (a9 : (List UInt8)) (a4 : (List UInt8)) (a5 : (List UInt8)) (b0 : Bool) (w0 : World) (hO : SP S w0 w0 [Q7 g1 79 #[(.int .i64 q2), (.int .i64 q3), (.int .i64 q4), (.int .i64 q5), (.slice A7 (List.length (List.map stT m)) c8), (.map (some j))], Zp j a7, Q7 p 9 #[(.string ⟨List.toArray a4⟩)], Q7 q 9 #[(.string ⟨List.toArray a5⟩)], Q7 s 29 #[(pt g1 0)], Q7 u 4 #[(.bool b0)]]) (c3 : ∀ w, Mod S w0 w → (dDS U1 B9).ok w (A7, c8, m)) (r : (Int × Int × Int × Int × No × Bool)) (H : Zt q2 q3 q4 q5 (List.map stT m) a7 a8 a9 a4 a5 b0 = some r) :
  Calls Tryz.prog 45 #[(pt g1 0), (.string ⟨List.toArray a8⟩), (.string ⟨List.toArray a9⟩), (.func (.func 46) #[] #[(pt p 0), (pt q 0), (pt s 0), (pt u 0)])] w0 (fun e w' => e = .returned (.tuple #[]) ∧ SP S w0 w' [Q7 g1 79 #[(.int .i64 r.1), (.int .i64 r.2.1), (.int .i64 r.2.2.1), (.int .i64 r.2.2.2.1), (.slice A7 (List.length (List.map stT m)) c8), (.map (some j))], Zp j r.2.2.2.2.1, Q7 p 9 #[(.string ⟨List.toArray a4⟩)], Q7 q 9 #[(.string ⟨List.toArray a5⟩)], Q7 s 29 #[(pt g1 0)], Q7 u 4 #[(.bool r.2.2.2.2.2)]]) := by
 unfold Zt at H
 refine Qu (n := 31) Tryz.func45 K K K ?_
 have b2 := hO
 refine aQ ?_
 refine aR ?_
 refine iR 3 3 [(13, (pt g1 0)), (14, (pt g1 0)), (15, (pt g1 0))] ?_
 refine iS 4 ?_
 refine sL 24 15 g1 0 0 (.agg #[(.int .i64 q2), (.int .i64 q3), (.int .i64 q4), (.int .i64 q5), (.slice A7 (List.length (List.map stT m)) c8)]) 16 b2 rfl ?_
 refine iR 1 5 [(17, (.string ⟨List.toArray a8⟩))] ?_
 obtain ⟨a, c7, H⟩ := Qe H
 refine iS 6 ?_
 refine cF 67 #[(.tmp 16), (.tmp 17)] #[24, 9] 18 Tryz.call67 (Uu (R := fun w => Mod S w0 w) A7 c8 q2 q3 q4 q5 m a8 w0 (fun w hb => Cy b2 hb) c3 a c7) ?_
 rintro e e1 ⟨a0, a1, a2, a3, rfl, c9, d0, c4⟩
 refine ⟨_, rfl, ?_⟩
 have d1 := SP.call b2 c4
 clear c4
 refine iR 3 9 [(12, (.tuple #[(.agg #[(.string ⟨List.toArray a.1⟩), (.int .i64 a.2.1), (.int .i64 a.2.2.1), (.slice a0 (List.length a.2.2.2.1) a1), (.slice a2 (List.length a.2.2.2.2.1) a3)]), (.bool a.2.2.2.2.2)])), (19, (.agg #[(.string ⟨List.toArray a.1⟩), (.int .i64 a.2.1), (.int .i64 a.2.2.1), (.slice a0 (List.length a.2.2.2.1) a1), (.slice a2 (List.length a.2.2.2.2.1) a3)])), (20, (.bool a.2.2.2.2.2))] ?_
 refine iS 10 ?_
 refine Qi.alloc (t := 44) (z := (.agg #[(.string ⟨List.toArray ([] : List UInt8)⟩), (.int .i64 0), (.int .i64 0), (.slice none (List.length ([] : List (Int × Int))) 0), (.slice none (List.length ([] : List ((List UInt8) × (List UInt8) × Int))) 0)])) (d := (some 8)) (k := 9) K rfl K d1 ?_
 intro b3 e2 d2
 refine iS 11 ?_
 refine Qi.store (t := 44) (x := (.tmp 8)) (y := (.tmp 19)) (g := b3) (off := 0) (i := 6) (v := (.agg #[(.string ⟨List.toArray a.1⟩), (.int .i64 a.2.1), (.int .i64 a.2.2.1), (.slice a0 (List.length a.2.2.2.1) a1), (.slice a2 (List.length a.2.2.2.2.1) a3)])) (cs' := #[(.string ⟨List.toArray a.1⟩), (.int .i64 a.2.1), (.int .i64 a.2.2.1), (.slice a0 (List.length a.2.2.2.1) a1), (.slice a2 (List.length a.2.2.2.2.1) a3)]) (d := none) (k := 10) K rfl K K d2 rfl K ?_
 intro b4 b1
 refine iR 1 12 [(9, (.bool a.2.2.2.2.2))] ?_
 refine iF ?_
 refine aQ ?_
 refine aR ?_
 refine iS 1 ?_
 refine sL 44 8 b3 0 6 (.agg #[(.string ⟨List.toArray a.1⟩), (.int .i64 a.2.1), (.int .i64 a.2.2.1), (.slice a0 (List.length a.2.2.2.1) a1), (.slice a2 (List.length a.2.2.2.2.1) a3)]) 22 b1 rfl ?_
 refine iR 1 2 [(23, (.string ⟨List.toArray a9⟩))] ?_
 obtain ⟨c, d3, H⟩ := Qe H
 refine iS 3 ?_
 refine cF 68 #[(.tmp 22), (.tmp 23)] #[44, 9] 24 Tryz.call68 (Ui a0 a1 a2 a3 a.1 a.2.1 a.2.2.1 a.2.2.2.1 a.2.2.2.2.1 a9 b4 (c9 b4 (SP.mod b1)) (d0 b4 (SP.mod b1)) c d3) ?_
 rintro e e3 ⟨rfl, c5⟩
 refine ⟨_, rfl, ?_⟩
 have d4 := SP.call b1 c5
 clear c5
 refine iR 3 6 [(21, (.tuple #[(.agg #[(.string ⟨List.toArray c.1⟩), (.string ⟨List.toArray c.2.1⟩), (.int .i64 c.2.2.1)]), (.bool c.2.2.2)])), (25, (.agg #[(.string ⟨List.toArray c.1⟩), (.string ⟨List.toArray c.2.1⟩), (.int .i64 c.2.2.1)])), (26, (.bool c.2.2.2))] ?_
 refine iS 7 ?_
 refine Qi.alloc (t := 48) (z := (.agg #[(.string ⟨List.toArray ([] : List UInt8)⟩), (.string ⟨List.toArray ([] : List UInt8)⟩), (.int .i64 0)])) (d := (some 10)) (k := 6) K rfl K d4 ?_
 intro b5 e4 d5
 refine iS 8 ?_
 refine Qi.store (t := 48) (x := (.tmp 10)) (y := (.tmp 25)) (g := b5) (off := 0) (i := 7) (v := (.agg #[(.string ⟨List.toArray c.1⟩), (.string ⟨List.toArray c.2.1⟩), (.int .i64 c.2.2.1)])) (cs' := #[(.string ⟨List.toArray c.1⟩), (.string ⟨List.toArray c.2.1⟩), (.int .i64 c.2.2.1)]) (d := none) (k := 7) K rfl K K d5 rfl K ?_
 intro d6 a6
 refine iR 1 9 [(11, (.bool c.2.2.2))] ?_
 refine iF ?_
 refine aQ ?_
 refine aR ?_
 refine iR 1 1 [(27, (.bool c.2.2.2))] ?_
 refine iF ?_
 refine At.join (fun ρ w => ∃ (b6 : Int) (b7 : Int) (b8 : Int) (b9 : Int) (c0 : No) (c1 : Bool), Zb ρ [] ∧ SP S w0 w [Q7 g1 79 #[(.int .i64 b6), (.int .i64 b7), (.int .i64 b8), (.int .i64 b9), (.slice A7 (List.length (List.map stT m)) c8), (.map (some j))], Zp j c0, Q7 p 9 #[(.string ⟨List.toArray a4⟩)], Q7 q 9 #[(.string ⟨List.toArray a5⟩)], Q7 s 29 #[(pt g1 0)], Q7 u 4 #[(.bool c1)]] ∧ V1 b6 b7 b8 b9 c0 c1 = some r) ?_ ?_
 ·refine Zj K (o := (.tmp 27)) K (b := c.2.2.2) K (fun c2 => ?_) (fun c2 => ?_)
  ·have H := ct H c2
   refine aR ?_
   refine iR 1 1 [(28, (.func (.func 46) #[] #[(pt p 0), (pt q 0), (pt s 0), (pt u 0)]))] ?_
   refine iS 2 ?_
   refine sL 48 10 b5 0 7 (.agg #[(.string ⟨List.toArray c.1⟩), (.string ⟨List.toArray c.2.1⟩), (.int .i64 c.2.2.1)]) 29 a6 rfl ?_
   obtain ⟨h, d7, H⟩ := Qe H
   refine iS 3 ?_
   refine Xo (f := 46) (fo := (.tmp 28)) (xs := #[(.tmp 29)]) (tys := #[48]) (first := #[]) (captured := #[(pt p 0), (pt q 0), (pt s 0), (pt u 0)]) (d := (some 30)) (k := 2) K rfl K K Tryz.call46 (N1 p q g1 A7 c8 j s u c.1 c.2.1 c.2.2.1 a4 a5 q2 q3 q4 q5 m a7 b0 d6 (Jt a6 [2, 3, 0, 1, 4, 5] rfl rfl) (fun w hm => c3 w (SP.through a6 (l := [2, 3, 0, 1, 4, 5]) rfl hm)) h d7) ?_
   rintro e d8 ⟨rfl, c6⟩
   refine ⟨_, rfl, ?_⟩
   have d9 : SP S w0 d8 [Q7 b3 44 #[(.string ⟨List.toArray a.1⟩), (.int .i64 a.2.1), (.int .i64 a.2.2.1), (.slice a0 (List.length a.2.2.2.1) a1), (.slice a2 (List.length a.2.2.2.2.1) a3)], Q7 b5 48 #[(.string ⟨List.toArray c.1⟩), (.string ⟨List.toArray c.2.1⟩), (.int .i64 c.2.2.1)], Q7 p 9 #[(.string ⟨List.toArray a4⟩)], Q7 q 9 #[(.string ⟨List.toArray a5⟩)], Q7 g1 79 #[(.int .i64 h.1), (.int .i64 h.2.1), (.int .i64 h.2.2.1), (.int .i64 h.2.2.2.1), (.slice A7 (List.length (List.map stT m)) c8), (.map (some j))], Zp j h.2.2.2.2.1, Q7 s 29 #[(pt g1 0)], Q7 u 4 #[(.bool h.2.2.2.2.2)]] := Z1 a6 [2, 3, 0, 1, 4, 5] [6, 7] rfl rfl c6 rfl
   clear c6
   refine iF ?_
   exact ⟨h.1, h.2.1, h.2.2.1, h.2.2.2.1, h.2.2.2.2.1, h.2.2.2.2.2, trivial, SP.sel d9 [4, 5, 2, 3, 6, 7] rfl rfl, H⟩
  ·have H := cf H c2
   refine At.skip K ?_
   exact ⟨q2, q3, q4, q5, a7, b0, trivial, SP.sel a6 [0, 1, 2, 3, 4, 5] rfl rfl, H⟩
 ·rintro ρ e5 ⟨b6, b7, b8, b9, c0, c1, hk, e0, H⟩
  unfold V1 at H
  first | refine At.known [] hk ?_ | rw [← Vb (l := []) hk]
  refine ⟨(.tuple #[]), K, ?_⟩
  obtain rfl := Ql H
  exact ⟨rfl, SP.sel e0 [0,1,2,3,4,5] rfl rfl⟩
def Vr (a : Bool) : Option (Bool) :=
  (some (a))
def Ze (q2 : Int) (q3 : Int) (q4 : Int) (q5 : Int) (q6 : (List Qk)) (d : No) (e : (List UInt8)) (f : (List UInt8)) (g : (List UInt8)) (h : (List UInt8)) (i : Int) (c : Bool) : Option (Bool) :=
  ((Yw q2 q3 q4 q5 q6 e).bind fun a => ((Yc a.1 a.2.1 a.2.2.1 a.2.2.2.1 a.2.2.2.2.1 f).bind fun b => (cond b.2.2.2 ((Yg b.1 b.2.1 b.2.2.1 q2 q3 q4 q5 q6 d g h i c).bind fun j => (Vr j)) (Vr c))))
set_option maxRecDepth 100000 in
set_option maxHeartbeats 4000000 in
theorem Jx {S : List Nat} (g1 : Nat) (A7 : Option Addr) (c8 : Nat) (h : Nat) (m : Nat) (p : Nat) (q : Nat) (s : Nat) (u : Nat) (q2 : Int) (q3 : Int) (q4 : Int) (q5 : Int) (j : (List Vi)) (a4 : No) (a9 : (List UInt8)) (b0 : (List UInt8)) (a5 : (List UInt8)) (a6 : (List UInt8)) (a7 : Int) (b1 : Bool) (w0 : World) (hO : SP S w0 w0 [Q7 g1 79 #[(.int .i64 q2), (.int .i64 q3), (.int .i64 q4), (.int .i64 q5), (.slice A7 (List.length (List.map stT j)) c8), (.map (some h))], Zp h a4, Q7 m 29 #[(pt g1 0)], Q7 p 9 #[(.string ⟨List.toArray a5⟩)], Q7 q 9 #[(.string ⟨List.toArray a6⟩)], Q7 s 2 #[(.int .i64 a7)], Q7 u 4 #[(.bool b1)]]) (c0 : ∀ w, Mod S w0 w → (dDS U1 B9).ok w (A7, c8, j)) (r : (Bool)) (H : Ze q2 q3 q4 q5 (List.map stT j) a4 a9 b0 a5 a6 a7 b1 = some r) :
  Calls Tryz.prog 45 #[(pt g1 0), (.string ⟨List.toArray a9⟩), (.string ⟨List.toArray b0⟩), (.func (.func 49) #[] #[(pt m 0), (pt p 0), (pt q 0), (pt s 0), (pt u 0)])] w0 (fun e w' => e = .returned (.tuple #[]) ∧ SP S w0 w' [Q7 g1 79 #[(.int .i64 q2), (.int .i64 q3), (.int .i64 q4), (.int .i64 q5), (.slice A7 (List.length (List.map stT j)) c8), (.map (some h))], Zp h a4, Q7 m 29 #[(pt g1 0)], Q7 p 9 #[(.string ⟨List.toArray a5⟩)], Q7 q 9 #[(.string ⟨List.toArray a6⟩)], Q7 s 2 #[(.int .i64 a7)], Q7 u 4 #[(.bool r)]]) := by
 unfold Ze at H
 refine Qu (n := 31) Tryz.func45 K K K ?_
 have b3 := hO
 refine aQ ?_
 refine aR ?_
 refine iR 3 3 [(13, (pt g1 0)), (14, (pt g1 0)), (15, (pt g1 0))] ?_
 refine iS 4 ?_
 refine sL 24 15 g1 0 0 (.agg #[(.int .i64 q2), (.int .i64 q3), (.int .i64 q4), (.int .i64 q5), (.slice A7 (List.length (List.map stT j)) c8)]) 16 b3 rfl ?_
 refine iR 1 5 [(17, (.string ⟨List.toArray a9⟩))] ?_
 obtain ⟨a, c4, H⟩ := Qe H
 refine iS 6 ?_
 refine cF 67 #[(.tmp 16), (.tmp 17)] #[24, 9] 18 Tryz.call67 (Uu (R := fun w => Mod S w0 w) A7 c8 q2 q3 q4 q5 j a9 w0 (fun w hb => Cy b3 hb) c0 a c4) ?_
 rintro e d8 ⟨a0, a1, a2, a3, rfl, c5, c6, c1⟩
 refine ⟨_, rfl, ?_⟩
 have c7 := SP.call b3 c1
 clear c1
 refine iR 3 9 [(12, (.tuple #[(.agg #[(.string ⟨List.toArray a.1⟩), (.int .i64 a.2.1), (.int .i64 a.2.2.1), (.slice a0 (List.length a.2.2.2.1) a1), (.slice a2 (List.length a.2.2.2.2.1) a3)]), (.bool a.2.2.2.2.2)])), (19, (.agg #[(.string ⟨List.toArray a.1⟩), (.int .i64 a.2.1), (.int .i64 a.2.2.1), (.slice a0 (List.length a.2.2.2.1) a1), (.slice a2 (List.length a.2.2.2.2.1) a3)])), (20, (.bool a.2.2.2.2.2))] ?_
 refine iS 10 ?_
 refine Qi.alloc (t := 44) (z := (.agg #[(.string ⟨List.toArray ([] : List UInt8)⟩), (.int .i64 0), (.int .i64 0), (.slice none (List.length ([] : List (Int × Int))) 0), (.slice none (List.length ([] : List ((List UInt8) × (List UInt8) × Int))) 0)])) (d := (some 8)) (k := 9) K rfl K c7 ?_
 intro b4 d9 c9
 refine iS 11 ?_
 refine Qi.store (t := 44) (x := (.tmp 8)) (y := (.tmp 19)) (g := b4) (off := 0) (i := 7) (v := (.agg #[(.string ⟨List.toArray a.1⟩), (.int .i64 a.2.1), (.int .i64 a.2.2.1), (.slice a0 (List.length a.2.2.2.1) a1), (.slice a2 (List.length a.2.2.2.2.1) a3)])) (cs' := #[(.string ⟨List.toArray a.1⟩), (.int .i64 a.2.1), (.int .i64 a.2.2.1), (.slice a0 (List.length a.2.2.2.1) a1), (.slice a2 (List.length a.2.2.2.2.1) a3)]) (d := none) (k := 10) K rfl K K c9 rfl K ?_
 intro b5 b2
 refine iR 1 12 [(9, (.bool a.2.2.2.2.2))] ?_
 refine iF ?_
 refine aQ ?_
 refine aR ?_
 refine iS 1 ?_
 refine sL 44 8 b4 0 7 (.agg #[(.string ⟨List.toArray a.1⟩), (.int .i64 a.2.1), (.int .i64 a.2.2.1), (.slice a0 (List.length a.2.2.2.1) a1), (.slice a2 (List.length a.2.2.2.2.1) a3)]) 22 b2 rfl ?_
 refine iR 1 2 [(23, (.string ⟨List.toArray b0⟩))] ?_
 obtain ⟨c, d0, H⟩ := Qe H
 refine iS 3 ?_
 refine cF 68 #[(.tmp 22), (.tmp 23)] #[44, 9] 24 Tryz.call68 (Ui a0 a1 a2 a3 a.1 a.2.1 a.2.2.1 a.2.2.2.1 a.2.2.2.2.1 b0 b5 (c5 b5 (SP.mod b2)) (c6 b5 (SP.mod b2)) c d0) ?_
 rintro e e0 ⟨rfl, c2⟩
 refine ⟨_, rfl, ?_⟩
 have d1 := SP.call b2 c2
 clear c2
 refine iR 3 6 [(21, (.tuple #[(.agg #[(.string ⟨List.toArray c.1⟩), (.string ⟨List.toArray c.2.1⟩), (.int .i64 c.2.2.1)]), (.bool c.2.2.2)])), (25, (.agg #[(.string ⟨List.toArray c.1⟩), (.string ⟨List.toArray c.2.1⟩), (.int .i64 c.2.2.1)])), (26, (.bool c.2.2.2))] ?_
 refine iS 7 ?_
 refine Qi.alloc (t := 48) (z := (.agg #[(.string ⟨List.toArray ([] : List UInt8)⟩), (.string ⟨List.toArray ([] : List UInt8)⟩), (.int .i64 0)])) (d := (some 10)) (k := 6) K rfl K d1 ?_
 intro b6 e1 d2
 refine iS 8 ?_
 refine Qi.store (t := 48) (x := (.tmp 10)) (y := (.tmp 25)) (g := b6) (off := 0) (i := 8) (v := (.agg #[(.string ⟨List.toArray c.1⟩), (.string ⟨List.toArray c.2.1⟩), (.int .i64 c.2.2.1)])) (cs' := #[(.string ⟨List.toArray c.1⟩), (.string ⟨List.toArray c.2.1⟩), (.int .i64 c.2.2.1)]) (d := none) (k := 7) K rfl K K d2 rfl K ?_
 intro d3 a8
 refine iR 1 9 [(11, (.bool c.2.2.2))] ?_
 refine iF ?_
 refine aQ ?_
 refine aR ?_
 refine iR 1 1 [(27, (.bool c.2.2.2))] ?_
 refine iF ?_
 refine At.join (fun ρ w => ∃ (b7 : Bool), Zb ρ [] ∧ SP S w0 w [Q7 g1 79 #[(.int .i64 q2), (.int .i64 q3), (.int .i64 q4), (.int .i64 q5), (.slice A7 (List.length (List.map stT j)) c8), (.map (some h))], Zp h a4, Q7 m 29 #[(pt g1 0)], Q7 p 9 #[(.string ⟨List.toArray a5⟩)], Q7 q 9 #[(.string ⟨List.toArray a6⟩)], Q7 s 2 #[(.int .i64 a7)], Q7 u 4 #[(.bool b7)]] ∧ Vr b7 = some r) ?_ ?_
 ·refine Zj K (o := (.tmp 27)) K (b := c.2.2.2) K (fun b8 => ?_) (fun b8 => ?_)
  ·have H := ct H b8
   refine aR ?_
   refine iR 1 1 [(28, (.func (.func 49) #[] #[(pt m 0), (pt p 0), (pt q 0), (pt s 0), (pt u 0)]))] ?_
   refine iS 2 ?_
   refine sL 48 10 b6 0 8 (.agg #[(.string ⟨List.toArray c.1⟩), (.string ⟨List.toArray c.2.1⟩), (.int .i64 c.2.2.1)]) 29 a8 rfl ?_
   obtain ⟨b9, d4, H⟩ := Qe H
   refine iS 3 ?_
   refine Xo (f := 49) (fo := (.tmp 28)) (xs := #[(.tmp 29)]) (tys := #[48]) (first := #[]) (captured := #[(pt m 0), (pt p 0), (pt q 0), (pt s 0), (pt u 0)]) (d := (some 30)) (k := 2) K rfl K K Tryz.call49 (Gd g1 A7 c8 h m p q s u c.1 c.2.1 c.2.2.1 q2 q3 q4 q5 j a4 a5 a6 a7 b1 d3 (Jt a8 [0, 1, 2, 3, 4, 5, 6] rfl rfl) (fun w hm => c0 w (SP.through a8 (l := [0, 1, 2, 3, 4, 5, 6]) rfl hm)) b9 d4) ?_
   rintro e d5 ⟨rfl, c3⟩
   refine ⟨_, rfl, ?_⟩
   have d6 : SP S w0 d5 [Q7 b4 44 #[(.string ⟨List.toArray a.1⟩), (.int .i64 a.2.1), (.int .i64 a.2.2.1), (.slice a0 (List.length a.2.2.2.1) a1), (.slice a2 (List.length a.2.2.2.2.1) a3)], Q7 b6 48 #[(.string ⟨List.toArray c.1⟩), (.string ⟨List.toArray c.2.1⟩), (.int .i64 c.2.2.1)], Q7 g1 79 #[(.int .i64 q2), (.int .i64 q3), (.int .i64 q4), (.int .i64 q5), (.slice A7 (List.length (List.map stT j)) c8), (.map (some h))], Zp h a4, Q7 m 29 #[(pt g1 0)], Q7 p 9 #[(.string ⟨List.toArray a5⟩)], Q7 q 9 #[(.string ⟨List.toArray a6⟩)], Q7 s 2 #[(.int .i64 a7)], Q7 u 4 #[(.bool b9)]] := Z1 a8 [0, 1, 2, 3, 4, 5, 6] [7, 8] rfl rfl c3 rfl
   clear c3
   refine iF ?_
   exact ⟨b9, trivial, SP.sel d6 [2, 3, 4, 5, 6, 7, 8] rfl rfl, H⟩
  ·have H := cf H b8
   refine At.skip K ?_
   exact ⟨b1, trivial, SP.sel a8 [0, 1, 2, 3, 4, 5, 6] rfl rfl, H⟩
 ·rintro ρ e2 ⟨b7, hk, d7, H⟩
  unfold Vr at H
  first | refine At.known [] hk ?_ | rw [← Vb (l := []) hk]
  refine ⟨(.tuple #[]), K, ?_⟩
  obtain rfl := Ql H
  exact ⟨rfl, SP.sel d7 [0,1,2,3,4,5,6] rfl rfl⟩
def V8 (a : (List UInt8)) : Option ((List UInt8)) :=
  (some (a))
def Z0 (q2 : Int) (q3 : Int) (q4 : Int) (q5 : Int) (q6 : (List Qk)) (j : No) (d : (List UInt8)) (e : (List UInt8)) (f : (List UInt8)) (g : (List UInt8)) (h : (List UInt8)) (c : (List UInt8)) : Option ((List UInt8)) :=
  ((Yw q2 q3 q4 q5 q6 d).bind fun a => ((Yc a.1 a.2.1 a.2.2.1 a.2.2.2.1 a.2.2.2.2.1 e).bind fun b => (cond b.2.2.2 ((Jw b.1 b.2.1 b.2.2.1 f g h c).bind fun i => (V8 i)) (V8 c))))
set_option maxRecDepth 100000 in
set_option maxHeartbeats 4000000 in
theorem Jy {S : List Nat} (g1 : Nat) (A7 : Option Addr) (c8 : Nat) (h : Nat) (j : Nat) (m : Nat) (p : Nat) (q : Nat) (q2 : Int) (q3 : Int) (q4 : Int) (q5 : Int) (s : (List Vi)) (a6 : No) (a7 : (List UInt8)) (a8 : (List UInt8)) (a3 : (List UInt8)) (a4 : (List UInt8)) (a5 : (List UInt8)) (a9 : (List UInt8)) (w0 : World) (hO : SP S w0 w0 [Q7 g1 79 #[(.int .i64 q2), (.int .i64 q3), (.int .i64 q4), (.int .i64 q5), (.slice A7 (List.length (List.map stT s)) c8), (.map (some h))], Zp h a6, Q7 j 9 #[(.string ⟨List.toArray a3⟩)], Q7 m 9 #[(.string ⟨List.toArray a4⟩)], Q7 p 9 #[(.string ⟨List.toArray a5⟩)], Q7 q 9 #[(.string ⟨List.toArray a9⟩)]]) (c2 : ∀ w, Mod S w0 w → (dDS U1 B9).ok w (A7, c8, s)) (r : ((List UInt8))) (H : Z0 q2 q3 q4 q5 (List.map stT s) a6 a7 a8 a3 a4 a5 a9 = some r) :
  Calls Tryz.prog 45 #[(pt g1 0), (.string ⟨List.toArray a7⟩), (.string ⟨List.toArray a8⟩), (.func (.func 50) #[] #[(pt j 0), (pt m 0), (pt p 0), (pt q 0)])] w0 (fun e w' => e = .returned (.tuple #[]) ∧ SP S w0 w' [Q7 g1 79 #[(.int .i64 q2), (.int .i64 q3), (.int .i64 q4), (.int .i64 q5), (.slice A7 (List.length (List.map stT s)) c8), (.map (some h))], Zp h a6, Q7 j 9 #[(.string ⟨List.toArray a3⟩)], Q7 m 9 #[(.string ⟨List.toArray a4⟩)], Q7 p 9 #[(.string ⟨List.toArray a5⟩)], Q7 q 9 #[(.string ⟨List.toArray r⟩)]]) := by
 unfold Z0 at H
 refine Qu (n := 31) Tryz.func45 K K K ?_
 have b2 := hO
 refine aQ ?_
 refine aR ?_
 refine iR 3 3 [(13, (pt g1 0)), (14, (pt g1 0)), (15, (pt g1 0))] ?_
 refine iS 4 ?_
 refine sL 24 15 g1 0 0 (.agg #[(.int .i64 q2), (.int .i64 q3), (.int .i64 q4), (.int .i64 q5), (.slice A7 (List.length (List.map stT s)) c8)]) 16 b2 rfl ?_
 refine iR 1 5 [(17, (.string ⟨List.toArray a7⟩))] ?_
 obtain ⟨a, c3, H⟩ := Qe H
 refine iS 6 ?_
 refine cF 67 #[(.tmp 16), (.tmp 17)] #[24, 9] 18 Tryz.call67 (Uu (R := fun w => Mod S w0 w) A7 c8 q2 q3 q4 q5 s a7 w0 (fun w hb => Cy b2 hb) c2 a c3) ?_
 rintro e d7 ⟨u, a0, a1, a2, rfl, c4, c5, b9⟩
 refine ⟨_, rfl, ?_⟩
 have c6 := SP.call b2 b9
 clear b9
 refine iR 3 9 [(12, (.tuple #[(.agg #[(.string ⟨List.toArray a.1⟩), (.int .i64 a.2.1), (.int .i64 a.2.2.1), (.slice u (List.length a.2.2.2.1) a0), (.slice a1 (List.length a.2.2.2.2.1) a2)]), (.bool a.2.2.2.2.2)])), (19, (.agg #[(.string ⟨List.toArray a.1⟩), (.int .i64 a.2.1), (.int .i64 a.2.2.1), (.slice u (List.length a.2.2.2.1) a0), (.slice a1 (List.length a.2.2.2.2.1) a2)])), (20, (.bool a.2.2.2.2.2))] ?_
 refine iS 10 ?_
 refine Qi.alloc (t := 44) (z := (.agg #[(.string ⟨List.toArray ([] : List UInt8)⟩), (.int .i64 0), (.int .i64 0), (.slice none (List.length ([] : List (Int × Int))) 0), (.slice none (List.length ([] : List ((List UInt8) × (List UInt8) × Int))) 0)])) (d := (some 8)) (k := 9) K rfl K c6 ?_
 intro b3 d8 c7
 refine iS 11 ?_
 refine Qi.store (t := 44) (x := (.tmp 8)) (y := (.tmp 19)) (g := b3) (off := 0) (i := 6) (v := (.agg #[(.string ⟨List.toArray a.1⟩), (.int .i64 a.2.1), (.int .i64 a.2.2.1), (.slice u (List.length a.2.2.2.1) a0), (.slice a1 (List.length a.2.2.2.2.1) a2)])) (cs' := #[(.string ⟨List.toArray a.1⟩), (.int .i64 a.2.1), (.int .i64 a.2.2.1), (.slice u (List.length a.2.2.2.1) a0), (.slice a1 (List.length a.2.2.2.2.1) a2)]) (d := none) (k := 10) K rfl K K c7 rfl K ?_
 intro b4 b0
 refine iR 1 12 [(9, (.bool a.2.2.2.2.2))] ?_
 refine iF ?_
 refine aQ ?_
 refine aR ?_
 refine iS 1 ?_
 refine sL 44 8 b3 0 6 (.agg #[(.string ⟨List.toArray a.1⟩), (.int .i64 a.2.1), (.int .i64 a.2.2.1), (.slice u (List.length a.2.2.2.1) a0), (.slice a1 (List.length a.2.2.2.2.1) a2)]) 22 b0 rfl ?_
 refine iR 1 2 [(23, (.string ⟨List.toArray a8⟩))] ?_
 obtain ⟨c, c9, H⟩ := Qe H
 refine iS 3 ?_
 refine cF 68 #[(.tmp 22), (.tmp 23)] #[44, 9] 24 Tryz.call68 (Ui u a0 a1 a2 a.1 a.2.1 a.2.2.1 a.2.2.2.1 a.2.2.2.2.1 a8 b4 (c4 b4 (SP.mod b0)) (c5 b4 (SP.mod b0)) c c9) ?_
 rintro e d9 ⟨rfl, c0⟩
 refine ⟨_, rfl, ?_⟩
 have d0 := SP.call b0 c0
 clear c0
 refine iR 3 6 [(21, (.tuple #[(.agg #[(.string ⟨List.toArray c.1⟩), (.string ⟨List.toArray c.2.1⟩), (.int .i64 c.2.2.1)]), (.bool c.2.2.2)])), (25, (.agg #[(.string ⟨List.toArray c.1⟩), (.string ⟨List.toArray c.2.1⟩), (.int .i64 c.2.2.1)])), (26, (.bool c.2.2.2))] ?_
 refine iS 7 ?_
 refine Qi.alloc (t := 48) (z := (.agg #[(.string ⟨List.toArray ([] : List UInt8)⟩), (.string ⟨List.toArray ([] : List UInt8)⟩), (.int .i64 0)])) (d := (some 10)) (k := 6) K rfl K d0 ?_
 intro b5 e0 d1
 refine iS 8 ?_
 refine Qi.store (t := 48) (x := (.tmp 10)) (y := (.tmp 25)) (g := b5) (off := 0) (i := 7) (v := (.agg #[(.string ⟨List.toArray c.1⟩), (.string ⟨List.toArray c.2.1⟩), (.int .i64 c.2.2.1)])) (cs' := #[(.string ⟨List.toArray c.1⟩), (.string ⟨List.toArray c.2.1⟩), (.int .i64 c.2.2.1)]) (d := none) (k := 7) K rfl K K d1 rfl K ?_
 intro d2 b1
 refine iR 1 9 [(11, (.bool c.2.2.2))] ?_
 refine iF ?_
 refine aQ ?_
 refine aR ?_
 refine iR 1 1 [(27, (.bool c.2.2.2))] ?_
 refine iF ?_
 refine At.join (fun ρ w => ∃ (b6 : (List UInt8)), Zb ρ [] ∧ SP S w0 w [Q7 g1 79 #[(.int .i64 q2), (.int .i64 q3), (.int .i64 q4), (.int .i64 q5), (.slice A7 (List.length (List.map stT s)) c8), (.map (some h))], Zp h a6, Q7 j 9 #[(.string ⟨List.toArray a3⟩)], Q7 m 9 #[(.string ⟨List.toArray a4⟩)], Q7 p 9 #[(.string ⟨List.toArray a5⟩)], Q7 q 9 #[(.string ⟨List.toArray b6⟩)]] ∧ V8 b6 = some r) ?_ ?_
 ·refine Zj K (o := (.tmp 27)) K (b := c.2.2.2) K (fun b7 => ?_) (fun b7 => ?_)
  ·have H := ct H b7
   refine aR ?_
   refine iR 1 1 [(28, (.func (.func 50) #[] #[(pt j 0), (pt m 0), (pt p 0), (pt q 0)]))] ?_
   refine iS 2 ?_
   refine sL 48 10 b5 0 7 (.agg #[(.string ⟨List.toArray c.1⟩), (.string ⟨List.toArray c.2.1⟩), (.int .i64 c.2.2.1)]) 29 b1 rfl ?_
   obtain ⟨b8, d3, H⟩ := Qe H
   refine iS 3 ?_
   refine Xo (f := 50) (fo := (.tmp 28)) (xs := #[(.tmp 29)]) (tys := #[48]) (first := #[]) (captured := #[(pt j 0), (pt m 0), (pt p 0), (pt q 0)]) (d := (some 30)) (k := 2) K rfl K K Tryz.call50 (Ge j m p q c.1 c.2.1 c.2.2.1 a3 a4 a5 a9 d2 (Jt b1 [2, 3, 4, 5] rfl rfl) b8 d3) ?_
   rintro e d4 ⟨rfl, c1⟩
   refine ⟨_, rfl, ?_⟩
   have d5 : SP S w0 d4 [Q7 g1 79 #[(.int .i64 q2), (.int .i64 q3), (.int .i64 q4), (.int .i64 q5), (.slice A7 (List.length (List.map stT s)) c8), (.map (some h))], Zp h a6, Q7 b3 44 #[(.string ⟨List.toArray a.1⟩), (.int .i64 a.2.1), (.int .i64 a.2.2.1), (.slice u (List.length a.2.2.2.1) a0), (.slice a1 (List.length a.2.2.2.2.1) a2)], Q7 b5 48 #[(.string ⟨List.toArray c.1⟩), (.string ⟨List.toArray c.2.1⟩), (.int .i64 c.2.2.1)], Q7 j 9 #[(.string ⟨List.toArray a3⟩)], Q7 m 9 #[(.string ⟨List.toArray a4⟩)], Q7 p 9 #[(.string ⟨List.toArray a5⟩)], Q7 q 9 #[(.string ⟨List.toArray b8⟩)]] := Z1 b1 [2, 3, 4, 5] [0, 1, 6, 7] rfl rfl c1 rfl
   clear c1
   refine iF ?_
   exact ⟨b8, trivial, SP.sel d5 [0, 1, 4, 5, 6, 7] rfl rfl, H⟩
  ·have H := cf H b7
   refine At.skip K ?_
   exact ⟨a9, trivial, SP.sel b1 [0, 1, 2, 3, 4, 5] rfl rfl, H⟩
 ·rintro ρ e1 ⟨b6, hk, d6, H⟩
  unfold V8 at H
  first | refine At.known [] hk ?_ | rw [← Vb (l := []) hk]
  refine ⟨(.tuple #[]), K, ?_⟩
  obtain rfl := Ql H
  exact ⟨rfl, SP.sel d6 [0,1,2,3,4,5] rfl rfl⟩
def Yh (q2 : Int) (q3 : Int) (q4 : Int) (q5 : Int) (q6 : (List Qk)) (d : No) (b : (List UInt8)) (c : (List UInt8)) : Option (Bool × Int × Int × Int × Int × No) :=
  ((Zt q2 q3 q4 q5 q6 d b c b c false).bind fun a => (some (a.2.2.2.2.2, a.1, a.2.1, a.2.2.1, a.2.2.2.1, a.2.2.2.2.1)))
set_option maxRecDepth 100000 in
set_option maxHeartbeats 4000000 in
theorem J9 {S : List Nat} (g1 : Nat) (A7 : Option Addr) (c8 : Nat) (b : Nat) (q2 : Int) (q3 : Int) (q4 : Int) (q5 : Int) (h : (List Vi)) (s : No) (c : (List UInt8)) (f : (List UInt8)) (w0 : World) (hO : SP S w0 w0 [Q7 g1 79 #[(.int .i64 q2), (.int .i64 q3), (.int .i64 q4), (.int .i64 q5), (.slice A7 (List.length (List.map stT h)) c8), (.map (some b))], Zp b s]) (a1 : ∀ w, Mod S w0 w → (dDS U1 B9).ok w (A7, c8, h)) (r : (Bool × Int × Int × Int × Int × No)) (H : Yh q2 q3 q4 q5 (List.map stT h) s c f = some r) :
  Calls Tryz.prog 20 #[(pt g1 0), (.string ⟨List.toArray c⟩), (.string ⟨List.toArray f⟩)] w0 (fun e w' => e = .returned (.bool r.1) ∧ SP S w0 w' [Q7 g1 79 #[(.int .i64 r.2.1), (.int .i64 r.2.2.1), (.int .i64 r.2.2.2.1), (.int .i64 r.2.2.2.2.1), (.slice A7 (List.length (List.map stT h)) c8), (.map (some b))], Zp b r.2.2.2.2.2]) := by
 unfold Yh at H
 refine Qu (n := 14) Tryz.func20 K K K ?_
 have a2 := hO
 refine aQ ?_
 refine aR ?_
 refine iS 1 ?_
 refine Vz (t := 29) (x := (.tmp 0)) (v := (pt g1 0)) (d := (some 3)) (k := 0) K rfl K a2 ?_
 intro o b0 a3
 refine iS 2 ?_
 refine Vz (t := 9) (x := (.tmp 1)) (v := (.string ⟨List.toArray c⟩)) (d := (some 4)) (k := 1) K rfl K a3 ?_
 intro p b1 a4
 refine iS 3 ?_
 refine Vz (t := 9) (x := (.tmp 2)) (v := (.string ⟨List.toArray f⟩)) (d := (some 5)) (k := 2) K rfl K a4 ?_
 intro q b2 a5
 refine iR 1 4 [(6, (.bool false))] ?_
 refine iF ?_
 refine aQ ?_
 refine aR ?_
 refine iS 1 ?_
 refine Qi.alloc (t := 4) (z := (.bool false)) (d := (some 7)) (k := 0) K rfl K a5 ?_
 intro m b3 a6
 refine iS 2 ?_
 refine Qi.store (t := 4) (x := (.tmp 7)) (y := (.const (.bool false))) (g := m) (off := 0) (i := 5) (v := (.bool false)) (cs' := #[(.bool false)]) (d := none) (k := 1) K rfl K K a6 rfl K ?_
 intro a7 j
 refine iF ?_
 refine aQ ?_
 refine aR ?_
 refine iS 1 ?_
 refine sL 29 3 o 0 2 (pt g1 0) 8 j rfl ?_
 refine iS 2 ?_
 refine sL 9 4 p 0 3 (.string ⟨List.toArray c⟩) 9 j rfl ?_
 refine iS 3 ?_
 refine sL 9 5 q 0 4 (.string ⟨List.toArray f⟩) 10 j rfl ?_
 refine iR 1 4 [(11, (.func (.func 46) #[] #[(pt p 0), (pt q 0), (pt o 0), (pt m 0)]))] ?_
 obtain ⟨a, a8, H⟩ := Qe H
 refine iS 5 ?_
 refine cF 45 #[(.tmp 8), (.tmp 9), (.tmp 10), (.tmp 11)] #[29, 9, 9, 84] 12 Tryz.call45 (Jl g1 A7 c8 b p q o m q2 q3 q4 q5 h s c f c f false a7 (Jt j [0, 1, 3, 4, 2, 5] rfl rfl) (fun w hm => a1 w (SP.through j (l := [0, 1, 3, 4, 2, 5]) rfl hm)) a a8) ?_
 rintro e a9 ⟨rfl, u⟩
 refine ⟨_, rfl, ?_⟩
 have a0 : SP S w0 a9 [Q7 g1 79 #[(.int .i64 a.1), (.int .i64 a.2.1), (.int .i64 a.2.2.1), (.int .i64 a.2.2.2.1), (.slice A7 (List.length (List.map stT h)) c8), (.map (some b))], Zp b a.2.2.2.2.1, Q7 p 9 #[(.string ⟨List.toArray c⟩)], Q7 q 9 #[(.string ⟨List.toArray f⟩)], Q7 o 29 #[(pt g1 0)], Q7 m 4 #[(.bool a.2.2.2.2.2)]] := Z1 j [0, 1, 3, 4, 2, 5] [] rfl rfl u rfl
 clear u
 refine iF ?_
 refine aQ ?_
 refine aR ?_
 refine iS 1 ?_
 refine sL 4 7 m 0 5 (.bool a.2.2.2.2.2) 13 a0 rfl ?_
 refine iR 1 2 [(6, (.bool a.2.2.2.2.2))] ?_
 refine iF ?_
 refine At.ret K ?_
 refine ⟨(.bool a.2.2.2.2.2), K, ?_⟩
 obtain rfl := Ql H
 exact ⟨rfl, SP.sel a0 [0,1] rfl rfl⟩
def Vy (q2 : Int) (q3 : Int) (q4 : Int) (q5 : Int) (q6 : (List Qk)) (c : No) (a : (List UInt8)) (b : (List UInt8)) (d : Int) : Option (Bool) :=
  ((Ze q2 q3 q4 q5 q6 c a b a b d false).bind fun e => (some (e)))
set_option maxRecDepth 100000 in
set_option maxHeartbeats 4000000 in
theorem V9 {S : List Nat} (g1 : Nat) (A7 : Option Addr) (c8 : Nat) (a : Nat) (q2 : Int) (q3 : Int) (q4 : Int) (q5 : Int) (f : (List Vi)) (j : No) (b : (List UInt8)) (c : (List UInt8)) (m : Int) (w0 : World) (hO : SP S w0 w0 [Q7 g1 79 #[(.int .i64 q2), (.int .i64 q3), (.int .i64 q4), (.int .i64 q5), (.slice A7 (List.length (List.map stT f)) c8), (.map (some a))], Zp a j]) (a3 : ∀ w, Mod S w0 w → (dDS U1 B9).ok w (A7, c8, f)) (r : (Bool)) (H : Vy q2 q3 q4 q5 (List.map stT f) j b c m = some r) :
  Calls Tryz.prog 22 #[(pt g1 0), (.string ⟨List.toArray b⟩), (.string ⟨List.toArray c⟩), (.int .i64 m)] w0 (fun e w' => e = .returned (.bool r) ∧ SP S w0 w' [Q7 g1 79 #[(.int .i64 q2), (.int .i64 q3), (.int .i64 q4), (.int .i64 q5), (.slice A7 (List.length (List.map stT f)) c8), (.map (some a))], Zp a j]) := by
 unfold Vy at H
 refine Qu (n := 16) Tryz.func22 K K K ?_
 have a4 := hO
 refine aQ ?_
 refine aR ?_
 refine iS 1 ?_
 refine Vz (t := 29) (x := (.tmp 0)) (v := (pt g1 0)) (d := (some 4)) (k := 0) K rfl K a4 ?_
 intro q b3 a5
 refine iS 2 ?_
 refine Vz (t := 9) (x := (.tmp 1)) (v := (.string ⟨List.toArray b⟩)) (d := (some 5)) (k := 1) K rfl K a5 ?_
 intro s b4 a6
 refine iS 3 ?_
 refine Vz (t := 9) (x := (.tmp 2)) (v := (.string ⟨List.toArray c⟩)) (d := (some 6)) (k := 2) K rfl K a6 ?_
 intro u b5 a7
 refine iS 4 ?_
 refine Vz (t := 2) (x := (.tmp 3)) (v := (.int .i64 m)) (d := (some 7)) (k := 3) K rfl K a7 ?_
 intro a0 b6 a8
 refine iR 1 5 [(8, (.bool false))] ?_
 refine iF ?_
 refine aQ ?_
 refine aR ?_
 refine iS 1 ?_
 refine Qi.alloc (t := 4) (z := (.bool false)) (d := (some 9)) (k := 0) K rfl K a8 ?_
 intro o b7 a9
 refine iS 2 ?_
 refine Qi.store (t := 4) (x := (.tmp 9)) (y := (.const (.bool false))) (g := o) (off := 0) (i := 6) (v := (.bool false)) (cs' := #[(.bool false)]) (d := none) (k := 1) K rfl K K a9 rfl K ?_
 intro b0 h
 refine iF ?_
 refine aQ ?_
 refine aR ?_
 refine iS 1 ?_
 refine sL 29 4 q 0 2 (pt g1 0) 10 h rfl ?_
 refine iS 2 ?_
 refine sL 9 5 s 0 3 (.string ⟨List.toArray b⟩) 11 h rfl ?_
 refine iS 3 ?_
 refine sL 9 6 u 0 4 (.string ⟨List.toArray c⟩) 12 h rfl ?_
 refine iR 1 4 [(13, (.func (.func 49) #[] #[(pt q 0), (pt s 0), (pt u 0), (pt a0 0), (pt o 0)]))] ?_
 obtain ⟨p, b1, H⟩ := Qe H
 refine iS 5 ?_
 refine cF 45 #[(.tmp 10), (.tmp 11), (.tmp 12), (.tmp 13)] #[29, 9, 9, 84] 14 Tryz.call45 (Jx g1 A7 c8 a q s u a0 o q2 q3 q4 q5 f j b c b c m false b0 (Jt h [0, 1, 2, 3, 4, 5, 6] rfl rfl) (fun w hm => a3 w (SP.through h (l := [0, 1, 2, 3, 4, 5, 6]) rfl hm)) p b1) ?_
 rintro e b2 ⟨rfl, a1⟩
 refine ⟨_, rfl, ?_⟩
 have a2 : SP S w0 b2 [Q7 g1 79 #[(.int .i64 q2), (.int .i64 q3), (.int .i64 q4), (.int .i64 q5), (.slice A7 (List.length (List.map stT f)) c8), (.map (some a))], Zp a j, Q7 q 29 #[(pt g1 0)], Q7 s 9 #[(.string ⟨List.toArray b⟩)], Q7 u 9 #[(.string ⟨List.toArray c⟩)], Q7 a0 2 #[(.int .i64 m)], Q7 o 4 #[(.bool p)]] := Z1 h [0, 1, 2, 3, 4, 5, 6] [] rfl rfl a1 rfl
 clear a1
 refine iF ?_
 refine aQ ?_
 refine aR ?_
 refine iS 1 ?_
 refine sL 4 9 o 0 6 (.bool p) 15 a2 rfl ?_
 refine iR 1 2 [(8, (.bool p))] ?_
 refine iF ?_
 refine At.ret K ?_
 refine ⟨(.bool p), K, ?_⟩
 obtain rfl := Ql H
 exact ⟨rfl, SP.sel a2 [0,1] rfl rfl⟩
def X9 (q2 : Int) (q3 : Int) (q4 : Int) (q5 : Int) (q6 : (List Qk)) (c : No) (a : (List UInt8)) (b : (List UInt8)) (d : (List UInt8)) : Option ((List UInt8)) :=
  ((Z0 q2 q3 q4 q5 q6 c a b a b d ([] : List UInt8)).bind fun e => (some (e)))
set_option maxRecDepth 100000 in
set_option maxHeartbeats 4000000 in
theorem Yy {S : List Nat} (g1 : Nat) (A7 : Option Addr) (c8 : Nat) (a : Nat) (q2 : Int) (q3 : Int) (q4 : Int) (q5 : Int) (f : (List Vi)) (h : No) (b : (List UInt8)) (c : (List UInt8)) (j : (List UInt8)) (w0 : World) (hO : SP S w0 w0 [Q7 g1 79 #[(.int .i64 q2), (.int .i64 q3), (.int .i64 q4), (.int .i64 q5), (.slice A7 (List.length (List.map stT f)) c8), (.map (some a))], Zp a h]) (a2 : ∀ w, Mod S w0 w → (dDS U1 B9).ok w (A7, c8, f)) (r : ((List UInt8))) (H : X9 q2 q3 q4 q5 (List.map stT f) h b c j = some r) :
  Calls Tryz.prog 24 #[(pt g1 0), (.string ⟨List.toArray b⟩), (.string ⟨List.toArray c⟩), (.string ⟨List.toArray j⟩)] w0 (fun e w' => e = .returned (.string ⟨List.toArray r⟩) ∧ SP S w0 w' [Q7 g1 79 #[(.int .i64 q2), (.int .i64 q3), (.int .i64 q4), (.int .i64 q5), (.slice A7 (List.length (List.map stT f)) c8), (.map (some a))], Zp a h]) := by
 unfold X9 at H
 refine Qu (n := 16) Tryz.func24 K K K ?_
 have a3 := hO
 refine aQ ?_
 refine aR ?_
 refine iS 1 ?_
 refine Vz (t := 9) (x := (.tmp 1)) (v := (.string ⟨List.toArray b⟩)) (d := (some 5)) (k := 0) K rfl K a3 ?_
 intro q b1 a4
 refine iS 2 ?_
 refine Vz (t := 9) (x := (.tmp 2)) (v := (.string ⟨List.toArray c⟩)) (d := (some 6)) (k := 1) K rfl K a4 ?_
 intro s b2 a5
 refine iS 3 ?_
 refine Vz (t := 9) (x := (.tmp 3)) (v := (.string ⟨List.toArray j⟩)) (d := (some 7)) (k := 2) K rfl K a5 ?_
 intro u b3 a6
 refine iR 1 4 [(8, (.string ⟨List.toArray ([] : List UInt8)⟩))] ?_
 refine iF ?_
 refine aQ ?_
 refine aR ?_
 refine iS 1 ?_
 refine Qi.alloc (t := 9) (z := (.string ⟨List.toArray ([] : List UInt8)⟩)) (d := (some 9)) (k := 0) K rfl K a6 ?_
 intro m b4 a7
 refine iS 2 ?_
 refine Qi.store (t := 9) (x := (.tmp 9)) (y := (.const (.string ⟨List.toArray ([] : List UInt8)⟩))) (g := m) (off := 0) (i := 5) (v := (.string ⟨List.toArray ([] : List UInt8)⟩)) (cs' := #[(.string ⟨List.toArray ([] : List UInt8)⟩)]) (d := none) (k := 1) K rfl K K a7 rfl K ?_
 intro a8 o
 refine iF ?_
 refine aQ ?_
 refine aR ?_
 refine iR 1 1 [(10, (pt g1 0))] ?_
 refine iS 2 ?_
 refine sL 9 5 q 0 2 (.string ⟨List.toArray b⟩) 11 o rfl ?_
 refine iS 3 ?_
 refine sL 9 6 s 0 3 (.string ⟨List.toArray c⟩) 12 o rfl ?_
 refine iR 1 4 [(13, (.func (.func 50) #[] #[(pt q 0), (pt s 0), (pt u 0), (pt m 0)]))] ?_
 obtain ⟨p, a9, H⟩ := Qe H
 refine iS 5 ?_
 refine cF 45 #[(.tmp 10), (.tmp 11), (.tmp 12), (.tmp 13)] #[29, 9, 9, 84] 14 Tryz.call45 (Jy g1 A7 c8 a q s u m q2 q3 q4 q5 f h b c b c j ([] : List UInt8) a8 (Jt o [0, 1, 2, 3, 4, 5] rfl rfl) (fun w hm => a2 w (SP.through o (l := [0, 1, 2, 3, 4, 5]) rfl hm)) p a9) ?_
 rintro e b0 ⟨rfl, a0⟩
 refine ⟨_, rfl, ?_⟩
 have a1 : SP S w0 b0 [Q7 g1 79 #[(.int .i64 q2), (.int .i64 q3), (.int .i64 q4), (.int .i64 q5), (.slice A7 (List.length (List.map stT f)) c8), (.map (some a))], Zp a h, Q7 q 9 #[(.string ⟨List.toArray b⟩)], Q7 s 9 #[(.string ⟨List.toArray c⟩)], Q7 u 9 #[(.string ⟨List.toArray j⟩)], Q7 m 9 #[(.string ⟨List.toArray p⟩)]] := Z1 o [0, 1, 2, 3, 4, 5] [] rfl rfl a0 rfl
 clear a0
 refine iF ?_
 refine aQ ?_
 refine aR ?_
 refine iS 1 ?_
 refine sL 9 9 m 0 5 (.string ⟨List.toArray p⟩) 15 a1 rfl ?_
 refine iR 1 2 [(8, (.string ⟨List.toArray p⟩))] ?_
 refine iF ?_
 refine At.ret K ?_
 refine ⟨(.string ⟨List.toArray p⟩), K, ?_⟩
 obtain rfl := Ql H
 exact ⟨rfl, SP.sel a1 [0,1] rfl rfl⟩
def Xy (a : Bool) : Option (Int) :=
  (cond a (some (101)) (some (0)))
def Z4 (q2 : Int) (q3 : Int) (q4 : Int) (q5 : Int) (q6 : (List Qk)) (b : No) (c : (List UInt8)) (d : (List UInt8)) (f : (List UInt8)) (e : (List UInt8)) (g : Int) : Option (Int) :=
  ((Vy q2 q3 q4 q5 q6 b c d g).bind fun h => (cond (!h) (some (3)) ((X9 q2 q3 q4 q5 q6 b c d f).bind fun a => (cond (a == ([] : List UInt8)) (Xy true) ((chk (Nat.ble (List.length a) 281474976710656)).bind fun _ => ((chk (Nat.ble (List.length e) 281474976710656)).bind fun _ => ((D9 a e).bind fun i => (Xy (!i)))))))))
set_option maxRecDepth 100000 in
set_option maxHeartbeats 4000000 in
theorem Xe {S : List Nat} (g1 : Nat) (A7 : Option Addr) (c8 : Nat) (c : Nat) (q2 : Int) (q3 : Int) (q4 : Int) (q5 : Int) (g : (List Vi)) (h : No) (j : (List UInt8)) (m : (List UInt8)) (s : (List UInt8)) (p : (List UInt8)) (u : Int) (w0 : World) (hO : SP S w0 w0 [Q7 g1 79 #[(.int .i64 q2), (.int .i64 q3), (.int .i64 q4), (.int .i64 q5), (.slice A7 (List.length (List.map stT g)) c8), (.map (some c))], Zp c h]) (a8 : ∀ w, Mod S w0 w → (dDS U1 B9).ok w (A7, c8, g)) (r : (Int)) (H : Z4 q2 q3 q4 q5 (List.map stT g) h j m s p u = some r) :
  Calls Tryz.prog 26 #[(pt g1 0), (.string ⟨List.toArray j⟩), (.string ⟨List.toArray m⟩), (.string ⟨List.toArray s⟩), (.string ⟨List.toArray p⟩), (.int .i64 u)] w0 (fun e w' => e = .returned (.int .i64 r) ∧ SP S w0 w' [Q7 g1 79 #[(.int .i64 q2), (.int .i64 q3), (.int .i64 q4), (.int .i64 q5), (.slice A7 (List.length (List.map stT g)) c8), (.map (some c))], Zp c h]) := by
 unfold Z4 at H
 refine Qu (n := 35) Tryz.func26 K K K ?_
 have a0 := hO
 refine aQ ?_
 refine aR ?_
 refine iR 1 1 [(12, (.int .i64 0))] ?_
 refine iF ?_
 refine aQ ?_
 refine aQ ?_
 refine aR ?_
 refine iR 4 4 [(14, (pt g1 0)), (15, (.string ⟨List.toArray j⟩)), (16, (.string ⟨List.toArray m⟩)), (17, (.int .i64 u))] ?_
 obtain ⟨a1, c0, H⟩ := Qe H
 refine iS 5 ?_
 refine cF 22 #[(.tmp 14), (.tmp 15), (.tmp 16), (.tmp 17)] #[29, 9, 9, 2] 18 Tryz.call22 (V9 g1 A7 c8 c q2 q3 q4 q5 g h j m u w0 (Jt a0 [0, 1] rfl rfl) (fun w hm => a8 w (SP.through a0 (l := [0, 1]) rfl hm)) a1 c0) ?_
 rintro e a9 ⟨rfl, b0⟩
 refine ⟨_, rfl, ?_⟩
 have v : SP S w0 a9 [Q7 g1 79 #[(.int .i64 q2), (.int .i64 q3), (.int .i64 q4), (.int .i64 q5), (.slice A7 (List.length (List.map stT g)) c8), (.map (some c))], Zp c h] := Z1 a0 [0, 1] [] rfl rfl b0 rfl
 clear b0
 refine iR 1 6 [(19, (.bool (!a1)))] ?_
 refine iF ?_
 refine Zj K (o := (.tmp 19)) K (b := (!a1)) K (fun a2 => ?_) (fun a2 => ?_)
 ·have H := ct H a2
  refine aQ ?_
  refine aR ?_
  refine iR 1 1 [(12, (.int .i64 3))] ?_
  refine iF ?_
  refine At.ret K ?_
  refine ⟨(.int .i64 3), K, ?_⟩
  obtain rfl := Ql H
  exact ⟨rfl, SP.sel v [0,1] rfl rfl⟩
 ·have H := cf H a2
  refine At.skip K ?_
  refine aQ ?_
  refine aQ ?_
  refine aR ?_
  refine iR 4 4 [(20, (pt g1 0)), (21, (.string ⟨List.toArray j⟩)), (22, (.string ⟨List.toArray m⟩)), (23, (.string ⟨List.toArray s⟩))] ?_
  obtain ⟨f, c1, H⟩ := Qe H
  refine iS 5 ?_
  refine cF 24 #[(.tmp 20), (.tmp 21), (.tmp 22), (.tmp 23)] #[29, 9, 9, 9] 24 Tryz.call24 (Yy g1 A7 c8 c q2 q3 q4 q5 g h j m s a9 (Jt v [0, 1] rfl rfl) (fun w hm => a8 w (SP.through v (l := [0, 1]) rfl hm)) f c1) ?_
  rintro e c2 ⟨rfl, b1⟩
  refine ⟨_, rfl, ?_⟩
  have b2 : SP S w0 c2 [Q7 g1 79 #[(.int .i64 q2), (.int .i64 q3), (.int .i64 q4), (.int .i64 q5), (.slice A7 (List.length (List.map stT g)) c8), (.map (some c))], Zp c h] := Z1 v [0, 1] [] rfl rfl b1 rfl
  clear b1
  refine iR 1 6 [(13, (.string ⟨List.toArray f⟩))] ?_
  refine iF ?_
  refine aQ ?_
  refine At.join (fun ρ w => ∃ (q : Bool), Zb ρ [(34, (.bool q))] ∧ SP S w0 w [Q7 g1 79 #[(.int .i64 q2), (.int .i64 q3), (.int .i64 q4), (.int .i64 q5), (.slice A7 (List.length (List.map stT g)) c8), (.map (some c))], Zp c h] ∧ Xy q = some r) ?_ ?_
  ·refine aR ?_
   refine iR 1 1 [(25, (.string ⟨List.toArray f⟩))] ?_
   refine iS 2 ?_
   refine Y3 (op := .eql) (T := 9) (T' := 9) (x := (.tmp 25)) (y := (.const (.string ⟨List.toArray ([] : List UInt8)⟩))) (a := f) (b := ([] : List UInt8)) (r := (.bool (f == ([] : List UInt8)))) (d := (some 26)) (k := 1) K rfl K K rfl ?_
   refine iR 1 3 [(27, (.bool (f == ([] : List UInt8))))] ?_
   refine In.guard (t := 27) (b := (f == ([] : List UInt8))) K (fun a3 => ?_) (fun a3 => ?_)
   ·have H := ct H a3
    refine iR 7 10 [(28, undef), (29, undef), (30, undef), (31, undef), (32, undef), (33, undef), (34, (.bool true))] ?_
    refine iF ?_
    exact ⟨true, ⟨K, trivial⟩, SP.sel b2 [0, 1] rfl rfl, H⟩
   ·have H := cf H a3
    refine iR 1 4 [(28, (.string ⟨List.toArray f⟩))] ?_
    obtain ⟨c3, H⟩ := Vm H
    refine iS 5 ?_
    refine Rk (S' := 9) (T := 52) (E := 5) (x := (.tmp 28)) (l := f) (d := (some 29)) (k := 4) K rfl K K K K (Rn c3) b2 ?_
    intro a4 a5 c4 b3 _
    have c5 : SP S w0 c4 [Q7 g1 79 #[(.int .i64 q2), (.int .i64 q3), (.int .i64 q4), (.int .i64 q5), (.slice A7 (List.length (List.map stT g)) c8), (.map (some c))], Zp c h, rdE eU8 (some ⟨a4, 0, none⟩) a5 f] := b3
    clear b3
    refine iR 1 6 [(30, (.string ⟨List.toArray p⟩))] ?_
    obtain ⟨c6, H⟩ := Vm H
    refine iS 7 ?_
    refine Rk (S' := 9) (T := 52) (E := 5) (x := (.tmp 30)) (l := p) (d := (some 31)) (k := 6) K rfl K K K K (Rn c6) c5 ?_
    intro b4 b5 b6 b7 _
    have a6 : SP S w0 b6 [Q7 g1 79 #[(.int .i64 q2), (.int .i64 q3), (.int .i64 q4), (.int .i64 q5), (.slice A7 (List.length (List.map stT g)) c8), (.map (some c))], Zp c h, rdE eU8 (some ⟨a4, 0, none⟩) a5 f, rdE eU8 (some ⟨b4, 0, none⟩) b5 p] := b7
    clear b7
    obtain ⟨z, c7, H⟩ := Qe H
    refine iS 8 ?_
    refine cF 52 #[(.tmp 29), (.tmp 31)] #[52, 52] 32 Tryz.call52 (B3 (some ⟨a4, 0, none⟩) a5 (some ⟨b4, 0, none⟩) b5 f p b6 (Fn (SP.get a6 (i := 2) rfl)) (Fn (SP.get a6 (i := 3) rfl)) z c7) ?_
    rintro e d0 ⟨rfl, b8⟩
    refine ⟨_, rfl, ?_⟩
    have c9 := SP.call a6 b8
    clear b8
    refine iR 2 10 [(33, (.bool (!z))), (34, (.bool (!z)))] ?_
    refine iF ?_
    exact ⟨(!z), ⟨K, trivial⟩, SP.sel c9 [0, 1] rfl rfl, H⟩
  ·rintro ρ d1 ⟨q, hk, b9, H⟩
   unfold Xy at H
   first | refine At.known [(34, (.bool q))] hk ?_ | rw [← Vb (l := [(34, (.bool q))]) hk]
   refine Zj K (o := (.tmp 34)) K (b := q) K (fun a7 => ?_) (fun a7 => ?_)
   ·have H := ct H a7
    refine aQ ?_
    refine aR ?_
    refine iR 1 1 [(12, (.int .i64 101))] ?_
    refine iF ?_
    refine At.ret K ?_
    refine ⟨(.int .i64 101), K, ?_⟩
    obtain rfl := Ql H
    exact ⟨rfl, SP.sel b9 [0,1] rfl rfl⟩
   ·have H := cf H a7
    refine At.skip K ?_
    refine aQ ?_
    refine aR ?_
    refine iR 1 1 [(12, (.int .i64 0))] ?_
    refine iF ?_
    refine At.ret K ?_
    refine ⟨(.int .i64 0), K, ?_⟩
    obtain rfl := Ql H
    exact ⟨rfl, SP.sel b9 [0,1] rfl rfl⟩
end Go.Proofs.YtmgfanhcdfobhaaGreatDoor
namespace Go.Proofs.YtmgfanhcdfobhaaGreatDoor
theorem fx_step {α : Type} {P : α → Bool} {l : List α} {i : Nat} (hi : i < l.length) (hn : (l.take i).any P = false) (hx : P l[i] = true) : l.findIdx? P = some i := by
  rw [List.findIdx?_eq_some_iff_getElem]
  refine ⟨hi, hx, fun j hj => ?_⟩
  rw [List.any_eq_false] at hn
  have := hn l[j] (by rw [List.mem_take_iff_getElem]; exact ⟨j, by omega, rfl⟩)
  simpa using this
theorem fx_none {α : Type} {P : α → Bool} {l : List α} (hn : l.any P = false) : l.findIdx? P = none := by
  rw [List.findIdx?_eq_none_iff]
  intro x hx
  rw [List.any_eq_false] at hn
  simpa using hn x hx
theorem fx_more {α : Type} {P : α → Bool} {l : List α} {i : Nat} (hi : i < l.length) (hn : (l.take i).any P = false) (hx : P l[i] = false) : (l.take (i + 1)).any P = false := by
  rw [List.take_add_one, List.getElem?_eq_getElem hi, List.any_append, hn]
  simp [hx]
def ixI (o : Option Nat) : Int := match o with | some i => (i : Int) | none => -1
theorem F7 (l : List Qk) (P : Qk → Bool) (p : Str → Int → Int → List F2 → List Bk → Option Bool) (hp : ∀ x : Qk, p x.1 x.2.1 x.2.2.1 x.2.2.2.1 x.2.2.2.2 = some (P x)) (hl : l.length ≤ 140737488355328) :
    ∀ (d i f : Nat), d = l.length - i → i ≤ l.length → d < f → (l.take i).any P = false → Qm l p f (i : Int) = some (ixI (l.findIdx? P)) := by
  intro d
  induction d with
  | zero =>
    intro i f hd hi hf hn
    obtain ⟨f, rfl⟩ : ∃ g, f = g + 1 := ⟨f - 1, by omega⟩
    show Qp (Qm l p f) l p (i : Int) = _
    unfold Qp
    rw [List.take_of_length_le (by omega)] at hn
    rw [show decide ((i : Int) < ((l.length : Nat) : Int)) = false from decide_eq_false (by omega), cond_false, fx_none hn]
    rfl
  | succ d ih =>
    intro i f hd hi hf hn
    obtain ⟨f, rfl⟩ : ∃ g, f = g + 1 := ⟨f - 1, by omega⟩
    have hlt : i < l.length := by omega
    show Qp (Qm l p f) l p (i : Int) = _
    unfold Qp
    rw [show decide ((i : Int) < ((l.length : Nat) : Int)) = true from decide_eq_true (by omega), cond_true, U0 hlt, Option.bind_some, hp, Option.bind_some]
    cases hx : P l[i] with
    | true => rw [cond_true, fx_step hlt hn hx]; rfl
    | false =>
      rw [cond_false, show ((i : Int) + 1) = ((i + 1 : Nat) : Int) by omega, Rq (by omega)]
      exact ih (i + 1) f (by omega) (by omega) (by omega) (fx_more hlt hn hx)
theorem F8 (l : List Bk) (P : Bk → Bool) (p : Str → Str → Int → Option Bool) (hp : ∀ x : Bk, p x.1 x.2.1 x.2.2 = some (P x)) (hl : l.length ≤ 140737488355328) :
    ∀ (d i f : Nat), d = l.length - i → i ≤ l.length → d < f → (l.take i).any P = false → Qo l p f (i : Int) = some (ixI (l.findIdx? P)) := by
  intro d
  induction d with
  | zero =>
    intro i f hd hi hf hn
    obtain ⟨f, rfl⟩ : ∃ g, f = g + 1 := ⟨f - 1, by omega⟩
    show Qr (Qo l p f) l p (i : Int) = _
    unfold Qr
    rw [List.take_of_length_le (by omega)] at hn
    rw [show decide ((i : Int) < ((l.length : Nat) : Int)) = false from decide_eq_false (by omega), cond_false, fx_none hn]
    rfl
  | succ d ih =>
    intro i f hd hi hf hn
    obtain ⟨f, rfl⟩ : ∃ g, f = g + 1 := ⟨f - 1, by omega⟩
    have hlt : i < l.length := by omega
    show Qr (Qo l p f) l p (i : Int) = _
    unfold Qr
    rw [show decide ((i : Int) < ((l.length : Nat) : Int)) = true from decide_eq_true (by omega), cond_true, U0 hlt, Option.bind_some, hp, Option.bind_some]
    cases hx : P l[i] with
    | true => rw [cond_true, fx_step hlt hn hx]; rfl
    | false =>
      rw [cond_false, show ((i : Int) + 1) = ((i + 1 : Nat) : Int) by omega, Rq (by omega)]
      exact ih (i + 1) f (by omega) (by omega) (by omega) (fx_more hlt hn hx)
theorem pl_lt' {l : List Qk} {nm : Str} {k : Nat} (h : pl l nm = some k) : k < l.length := (List.findIdx?_eq_some_iff_getElem.1 h).1
theorem lFind (w g i e : Int) (l : List Qk) (nm : Str) (hl : l.length ≤ 140737488355328) : Yw w g i e l nm = some (Fc l nm) := by
  have h := F7 l (fun x => x.1 == nm) (fun y0 y1 y2 y3 y4 => Jk y0 y1 y2 y3 y4 nm) (fun x => rfl) hl l.length 0 Z6 (by omega) (by omega) (by unfold Z6; omega) rfl
  unfold Yw Q5
  rw [show ((0 : Nat) : Int) = 0 from rfl] at h
  rw [h, Option.bind_some]
  unfold Fc
  show _ = some (match pl l nm with | some k => _ | none => _)
  rw [show l.findIdx? (fun x => x.1 == nm) = pl l nm from rfl]
  cases hp : pl l nm with
  | none => rfl
  | some k =>
    have hk := pl_lt' hp
    have hg : l.getD k Eo = l[k] := by simp [List.getD, hk]
    rw [show decide (ixI (some k) < 0) = false from decide_eq_false (by show ¬ ((k : Nat) : Int) < 0; omega), cond_false]
    show (idx l ((k : Nat) : Int)).bind _ = _
    rw [U0 hk, Option.bind_some]
    simp only [hg]
def tix (l : List Bk) (nm : Str) : Option Nat := l.findIdx? (fun x => x.1 == nm)
def dTok0 : Bk := ([], [], 0)
def tokL (l : List Bk) (nm : Str) : Str × Str × Int × Bool := match tix l nm with
  | some k => ((l.getD k dTok0).1, (l.getD k dTok0).2.1, (l.getD k dTok0).2.2, true)
  | none => ([], [], 0, false)
theorem tix_lt {l : List Bk} {nm : Str} {k : Nat} (h : tix l nm = some k) : k < l.length := (List.findIdx?_eq_some_iff_getElem.1 h).1
theorem lTok (n : Str) (a b : Int) (ns : List F2) (l : List Bk) (nm : Str) (hl : l.length ≤ 140737488355328) : Yc n a b ns l nm = some (tokL l nm) := by
  have h := F8 l (fun x => x.1 == nm) (fun y0 y1 y2 => Y2 y0 y1 y2 nm) (fun x => rfl) hl l.length 0 Z6 (by omega) (by omega) (by unfold Z6; omega) rfl
  unfold Yc Q9
  rw [show ((0 : Nat) : Int) = 0 from rfl] at h
  rw [h, Option.bind_some]
  unfold tokL
  rw [show l.findIdx? (fun x => x.1 == nm) = tix l nm from rfl]
  cases hp : tix l nm with
  | none => rfl
  | some k =>
    have hk := tix_lt hp
    have hg : l.getD k dTok0 = l[k] := by simp [List.getD, hk]
    rw [show decide (ixI (some k) < 0) = false from decide_eq_false (by show ¬ ((k : Nat) : Int) < 0; omega), cond_false]
    show (idx l ((k : Nat) : Int)).bind _ = _
    rw [U0 hk, Option.bind_some]
    simp only [hg]
structure VC (l : List Qk) : Prop where
  len : l.length ≤ 9000
  q : ∀ t ∈ l, TenQ t
  s : ∀ t ∈ l, TenS t
  o : ∀ t ∈ l, En t = true
def vtok (l : List Qk) (t k : Str) : Str × Str × Int × Bool := tokL (Fc l t).2.2.2.2.1 k
def Eu (l : List Qk) (M : No) (t k : Str) (now : Int) : Bool := (vtok l t k).2.2.2 && ((N4 M (t, k) == 0) && decide (now < (vtok l t k).2.2.1))
section
variable {l : List Qk} (hv : VC l)
include hv
theorem F9 (t : Str) : (Fc l t).2.2.2.2.1.length ≤ 9000 := by
  unfold Fc
  cases hp : pl l t with
  | none => simp
  | some k =>
    have hk := pl_lt' hp
    have hg : l.getD k Eo = l[k] := by simp [List.getD, hk]
    simp only [hg]
    exact (hv.s _ (List.getElem_mem hk)).2.2.1
theorem vtok_ok {t k : Str} (h : (vtok l t k).2.2.2 = true) : (vtok l t k).2.1.length ≤ 32 ∧ 0 ≤ (vtok l t k).2.2.1 ∧ (vtok l t k).2.2.1 ≤ 1099511627776 ∧ t.length ≤ 20 ∧ k.length ≤ 20 := by
  unfold vtok at h ⊢
  unfold Fc at h ⊢
  cases hp : pl l t with
  | none =>
    rw [hp] at h
    simp [tokL, tix] at h
  | some i =>
    have hi := pl_lt' hp
    have hg : l.getD i Eo = l[i] := by simp [List.getD, hi]
    rw [hp] at h
    simp only [hg] at h ⊢
    have ho := hv.o _ (List.getElem_mem hi)
    have hname : l[i].1 = t := by
      have := (List.findIdx?_eq_some_iff_getElem.1 hp).2.1
      simpa using this
    unfold En at ho
    simp only [Bool.and_eq_true, List.all_eq_true] at ho
    have hn := ho.2.1.1
    unfold Bx at hn
    simp only [Bool.and_eq_true, decide_eq_true_eq] at hn
    unfold tokL at h ⊢
    cases hp2 : tix l[i].2.2.2.2 k with
    | none => rw [hp2] at h; cases h
    | some j =>
      have hj := tix_lt hp2
      have hg2 : l[i].2.2.2.2.getD j dTok0 = l[i].2.2.2.2[j] := by simp [List.getD, hj]
      simp only [hg2]
      have hk := ho.1.2 _ (List.getElem_mem hj)
      have hname2 : l[i].2.2.2.2[j].1 = k := by
        have := (List.findIdx?_eq_some_iff_getElem.1 hp2).2.1
        simpa using this
      unfold F3 Bx at hk
      simp only [Bool.and_eq_true, decide_eq_true_eq] at hk
      rw [hname2] at hk
      rw [hname] at hn
      exact ⟨hk.2.1.2, hk.2.2.1, hk.2.2.2, hn.1.1.1.2, hk.1.1.1.1.2⟩
variable (w g i e : Int) (M : No) (t k : Str)
theorem pVGood (now : Int) : Vy w g i e l M t k now = some (Eu l M t k now) := by
  unfold Vy Ze Vr
  rw [lFind _ _ _ _ _ _ (by have := hv.len; omega), Option.bind_some, lTok _ _ _ _ _ _ (by have := F9 hv t; omega), Option.bind_some]
  rw [show tokL (Fc l t).2.2.2.2.1 k = vtok l t k from rfl]
  unfold Eu
  cases h : (vtok l t k).2.2.2 with
  | false => rfl
  | true =>
    obtain ⟨_, _, _, h1, h2⟩ := vtok_ok hv h
    rw [cond_true]
    unfold Yg Zy
    rw [show (Nat.ble t.length 140737488355328 && Nat.ble k.length 140737488355328) = true by simp; omega]
    simp only [chk, Option.bind_some]
    cases (N4 M (t, k) == 0) <;> rfl
end
theorem pVNew (w g i e : Int) (l : List Qk) (hl : l.length ≤ 140737488355328) (hq : ∀ t ∈ l, TenQ t) : Yx w g i e l = some (cond (C0 w g i e l) (some (w, g, i, e, [])) none) := by
  unfold Yx
  rw [lCfg w g i e l hl hq, Option.bind_some]
  cases C0 w g i e l <;> rfl
theorem vc_of {w g i e : Int} {l : List Qk} (hk : C0 w g i e l = true) (hl : l.length ≤ 9000) (hq : ∀ t ∈ l, TenQ t) (hs : ∀ t ∈ l, TenS t) : VC l := by
  refine ⟨hl, hq, hs, ?_⟩
  unfold C0 at hk
  simp only [Bool.and_eq_true, List.all_eq_true] at hk
  exact hk.2.2.1
end Go.Proofs.YtmgfanhcdfobhaaGreatDoor
namespace Go.Proofs.YtmgfanhcdfobhaaGreatDoor
open Go.RowKit
def Js  : Option Unit :=
  (some ())
set_option maxRecDepth 100000 in
set_option maxHeartbeats 4000000 in
theorem Ri   (w0 : World)  (r : Unit) (H : Js  = some r) :
  Calls Tryz.prog 42 #[] w0 (fun e w' => ∃ (g7 : Nat) (b : Nat), e = .returned (.agg #[(.int .i64 9), (.int .i64 9), (.int .i64 9), (.int .i64 9), (.slice (some ⟨b, 0, none⟩) (List.length ([(([97, 110, 110] : List UInt8), 0, 0, ([] : List (Int × Int)), ([(([107] : List UInt8), ([115] : List UInt8), 5)] : List ((List UInt8) × (List UInt8) × Int)))] : List Qk)) (List.length ([(([97, 110, 110] : List UInt8), 0, 0, ([] : List (Int × Int)), ([(([107] : List UInt8), ([115] : List UInt8), 5)] : List ((List UInt8) × (List UInt8) × Int)))] : List Qk)))]) ∧ SP [] w0 w' [Xu 48 (Q0 V5 (Q0 V5 (Qd .i64))) (some ⟨g7, 0, none⟩) (List.length ([(([107] : List UInt8), ([115] : List UInt8), 5)] : List ((List UInt8) × (List UInt8) × Int))) ([(([107] : List UInt8), ([115] : List UInt8), 5)] : List ((List UInt8) × (List UInt8) × Int)), Xu 44 U1 (some ⟨b, 0, none⟩) (List.length ([(([97, 110, 110] : List UInt8), 0, 0, ([] : List (Int × Int)), ([(([107] : List UInt8), ([115] : List UInt8), 5)] : List ((List UInt8) × (List UInt8) × Int)))] : List Qk)) ([(([97, 110, 110] : List UInt8), 0, 0, (none, 0, ([] : List (Int × Int))), ((some ⟨g7, 0, none⟩), (List.length ([(([107] : List UInt8), ([115] : List UInt8), 5)] : List ((List UInt8) × (List UInt8) × Int))), ([(([107] : List UInt8), ([115] : List UInt8), 5)] : List ((List UInt8) × (List UInt8) × Int))))] : List Vi)]) := by
 unfold Js at H
 refine Qu (n := 6) Tryz.func42 K K K ?_
 have f := Qz [] w0
 refine aQ ?_
 refine aR ?_
 refine iS 1 ?_
 refine Qi.alloc (t := 24) (z := (.agg #[(.int .i64 0), (.int .i64 0), (.int .i64 0), (.int .i64 0), (.slice none (List.length ([] : List Qk)) 0)])) (d := (some 0)) (k := 0) K rfl K f ?_
 intro g3 w4 h
 refine iF ?_
 refine aQ ?_
 refine aR ?_
 refine iR 1 1 [(1, (.agg #[(.string ⟨List.toArray ([107] : List UInt8)⟩), (.string ⟨List.toArray ([115] : List UInt8)⟩), (.int .i64 5)]))] ?_
 refine iS 2 ?_
 refine Vx (e := (Q0 V5 (Q0 V5 (Qd .i64)))) (T := 42) (E := 48) (len := 1) (parts := #[(0, (.tmp 1))]) (cs := #[(.string ⟨List.toArray ([107] : List UInt8)⟩), (.string ⟨List.toArray ([115] : List UInt8)⟩), (.int .i64 5)]) ([(([107] : List UInt8), ([115] : List UInt8), 5)] : List ((List UInt8) × (List UInt8) × Int)) (d := (some 2)) (k := 1) K rfl (fun _ => K) h rfl rfl rfl rfl ?_
 intro g7 w8 j
 refine iR 1 3 [(3, (.agg #[(.string ⟨List.toArray ([97, 110, 110] : List UInt8)⟩), (.int .i64 0), (.int .i64 0), (.slice none (List.length ([] : List (Int × Int))) 0), (.slice (some ⟨g7, 0, none⟩) (List.length ([(([107] : List UInt8), ([115] : List UInt8), 5)] : List ((List UInt8) × (List UInt8) × Int))) (List.length ([(([107] : List UInt8), ([115] : List UInt8), 5)] : List ((List UInt8) × (List UInt8) × Int))))]))] ?_
 refine iS 4 ?_
 refine Vx (e := U1) (T := 22) (E := 44) (len := 1) (parts := #[(0, (.tmp 3))]) (cs := #[(.string ⟨List.toArray ([97, 110, 110] : List UInt8)⟩), (.int .i64 0), (.int .i64 0), (.slice none (List.length ([] : List (Int × Int))) 0), (.slice (some ⟨g7, 0, none⟩) (List.length ([(([107] : List UInt8), ([115] : List UInt8), 5)] : List ((List UInt8) × (List UInt8) × Int))) (List.length ([(([107] : List UInt8), ([115] : List UInt8), 5)] : List ((List UInt8) × (List UInt8) × Int))))]) ([(([97, 110, 110] : List UInt8), 0, 0, (none, 0, ([] : List (Int × Int))), ((some ⟨g7, 0, none⟩), (List.length ([(([107] : List UInt8), ([115] : List UInt8), 5)] : List ((List UInt8) × (List UInt8) × Int))), ([(([107] : List UInt8), ([115] : List UInt8), 5)] : List ((List UInt8) × (List UInt8) × Int))))] : List Vi) (d := (some 4)) (k := 3) K rfl (fun _ => K) j rfl rfl rfl rfl ?_
 intro b m l
 refine iR 1 5 [(5, (.agg #[(.int .i64 9), (.int .i64 9), (.int .i64 9), (.int .i64 9), (.slice (some ⟨b, 0, none⟩) (List.length ([(([97, 110, 110] : List UInt8), 0, 0, ([] : List (Int × Int)), ([(([107] : List UInt8), ([115] : List UInt8), 5)] : List ((List UInt8) × (List UInt8) × Int)))] : List Qk)) (List.length ([(([97, 110, 110] : List UInt8), 0, 0, ([] : List (Int × Int)), ([(([107] : List UInt8), ([115] : List UInt8), 5)] : List ((List UInt8) × (List UInt8) × Int)))] : List Qk)))]))] ?_
 refine iS 6 ?_
 refine Qi.store (t := 24) (x := (.tmp 0)) (y := (.tmp 5)) (g := g3) (off := 0) (i := 0) (v := (.agg #[(.int .i64 9), (.int .i64 9), (.int .i64 9), (.int .i64 9), (.slice (some ⟨b, 0, none⟩) (List.length ([(([97, 110, 110] : List UInt8), 0, 0, ([] : List (Int × Int)), ([(([107] : List UInt8), ([115] : List UInt8), 5)] : List ((List UInt8) × (List UInt8) × Int)))] : List Qk)) (List.length ([(([97, 110, 110] : List UInt8), 0, 0, ([] : List (Int × Int)), ([(([107] : List UInt8), ([115] : List UInt8), 5)] : List ((List UInt8) × (List UInt8) × Int)))] : List Qk)))])) (cs' := #[(.int .i64 9), (.int .i64 9), (.int .i64 9), (.int .i64 9), (.slice (some ⟨b, 0, none⟩) (List.length ([(([97, 110, 110] : List UInt8), 0, 0, ([] : List (Int × Int)), ([(([107] : List UInt8), ([115] : List UInt8), 5)] : List ((List UInt8) × (List UInt8) × Int)))] : List Qk)) (List.length ([(([97, 110, 110] : List UInt8), 0, 0, ([] : List (Int × Int)), ([(([107] : List UInt8), ([115] : List UInt8), 5)] : List ((List UInt8) × (List UInt8) × Int)))] : List Qk)))]) (d := none) (k := 5) K rfl K K l rfl K ?_
 intro o c
 refine iF ?_
 refine At.ret K ?_
 refine ⟨(.agg #[(.int .i64 9), (.int .i64 9), (.int .i64 9), (.int .i64 9), (.slice (some ⟨b, 0, none⟩) (List.length ([(([97, 110, 110] : List UInt8), 0, 0, ([] : List (Int × Int)), ([(([107] : List UInt8), ([115] : List UInt8), 5)] : List ((List UInt8) × (List UInt8) × Int)))] : List Qk)) (List.length ([(([97, 110, 110] : List UInt8), 0, 0, ([] : List (Int × Int)), ([(([107] : List UInt8), ([115] : List UInt8), 5)] : List ((List UInt8) × (List UInt8) × Int)))] : List Qk)))]), Dn K (Bt (a := 0) (t := 24) (g := g3) (off := 0) K (SP.get c (i := 0) rfl) K), ?_⟩
 exact ⟨g7, b, rfl, SP.sel c [1, 2] rfl rfl⟩
def Vc (a : Bool) : Option (Bool) :=
  (some (a))
def Z9 (a : (Int × Int × Int × Int × No)) (e : Bool) : Option (Bool) :=
  (cond e (some (false)) ((Uh ([(115 : UInt8)] : List UInt8) ([([97, 110, 110] : List UInt8), ([107] : List UInt8), ([110] : List UInt8)] : List (List UInt8))).bind fun d => ((Z4 a.1 a.2.1 a.2.2.1 a.2.2.2.1 ([(([97, 110, 110] : List UInt8), 0, 0, ([] : List (Int × Int)), ([(([107] : List UInt8), ([115] : List UInt8), 5)] : List ((List UInt8) × (List UInt8) × Int)))] : List Qk) a.2.2.2.2 ([97, 110, 110] : List UInt8) ([107] : List UInt8) ([110] : List UInt8) d 4).bind fun f => ((Z4 a.1 a.2.1 a.2.2.1 a.2.2.2.1 ([(([97, 110, 110] : List UInt8), 0, 0, ([] : List (Int × Int)), ([(([107] : List UInt8), ([115] : List UInt8), 5)] : List ((List UInt8) × (List UInt8) × Int)))] : List Qk) a.2.2.2.2 ([97, 110, 110] : List UInt8) ([107] : List UInt8) ([110] : List UInt8) d 5).bind fun g => ((Z4 a.1 a.2.1 a.2.2.1 a.2.2.2.1 ([(([97, 110, 110] : List UInt8), 0, 0, ([] : List (Int × Int)), ([(([107] : List UInt8), ([115] : List UInt8), 5)] : List ((List UInt8) × (List UInt8) × Int)))] : List Qk) a.2.2.2.2 ([97, 110, 110] : List UInt8) ([107] : List UInt8) ([109] : List UInt8) d 4).bind fun h => ((Vy a.1 a.2.1 a.2.2.1 a.2.2.2.1 ([(([97, 110, 110] : List UInt8), 0, 0, ([] : List (Int × Int)), ([(([107] : List UInt8), ([115] : List UInt8), 5)] : List ((List UInt8) × (List UInt8) × Int)))] : List Qk) a.2.2.2.2 ([97, 110, 110] : List UInt8) ([107] : List UInt8) 4).bind fun i => ((Yh a.1 a.2.1 a.2.2.1 a.2.2.2.1 ([(([97, 110, 110] : List UInt8), 0, 0, ([] : List (Int × Int)), ([(([107] : List UInt8), ([115] : List UInt8), 5)] : List ((List UInt8) × (List UInt8) × Int)))] : List Qk) a.2.2.2.2 ([97, 110, 110] : List UInt8) ([107] : List UInt8)).bind fun c => ((Yh c.2.1 c.2.2.1 c.2.2.2.1 c.2.2.2.2.1 ([(([97, 110, 110] : List UInt8), 0, 0, ([] : List (Int × Int)), ([(([107] : List UInt8), ([115] : List UInt8), 5)] : List ((List UInt8) × (List UInt8) × Int)))] : List Qk) c.2.2.2.2.2 ([97, 110, 110] : List UInt8) ([107] : List UInt8)).bind fun b => ((Z4 b.2.1 b.2.2.1 b.2.2.2.1 b.2.2.2.2.1 ([(([97, 110, 110] : List UInt8), 0, 0, ([] : List (Int × Int)), ([(([107] : List UInt8), ([115] : List UInt8), 5)] : List ((List UInt8) × (List UInt8) × Int)))] : List Qk) b.2.2.2.2.2 ([97, 110, 110] : List UInt8) ([107] : List UInt8) ([110] : List UInt8) d 4).bind fun j => (cond (f == 0) (cond (g == 3) (cond (h == 101) (cond i (cond c.1 (cond (!b.1) (cond (j == 3) ((X9 b.2.1 b.2.2.1 b.2.2.2.1 b.2.2.2.2.1 ([(([97, 110, 110] : List UInt8), 0, 0, ([] : List (Int × Int)), ([(([107] : List UInt8), ([115] : List UInt8), 5)] : List ((List UInt8) × (List UInt8) × Int)))] : List Qk) b.2.2.2.2.2 ([97, 110, 110] : List UInt8) ([107] : List UInt8) ([110] : List UInt8)).bind fun k => (cond (k == d) ((X9 b.2.1 b.2.2.1 b.2.2.2.1 b.2.2.2.2.1 ([(([97, 110, 110] : List UInt8), 0, 0, ([] : List (Int × Int)), ([(([107] : List UInt8), ([115] : List UInt8), 5)] : List ((List UInt8) × (List UInt8) × Int)))] : List Qk) b.2.2.2.2.2 ([97, 110, 110] : List UInt8) ([122] : List UInt8) ([110] : List UInt8)).bind fun l => (cond (l == ([] : List UInt8)) ((Vy b.2.1 b.2.2.1 b.2.2.2.1 b.2.2.2.2.1 ([(([97, 110, 110] : List UInt8), 0, 0, ([] : List (Int × Int)), ([(([107] : List UInt8), ([115] : List UInt8), 5)] : List ((List UInt8) × (List UInt8) × Int)))] : List Qk) b.2.2.2.2.2 ([97, 110, 110] : List UInt8) ([107] : List UInt8) 0).bind fun m => (Vc (!m))) (Vc false))) (Vc false))) (Vc false)) (Vc false)) (Vc false)) (Vc false)) (Vc false)) (Vc false)) (Vc false)))))))))))
def Ya  : Option (Bool) :=
  ((Js ).bind fun z1 => ((Yx 9 9 9 9 ([(([97, 110, 110] : List UInt8), 0, 0, ([] : List (Int × Int)), ([(([107] : List UInt8), ([115] : List UInt8), 5)] : List ((List UInt8) × (List UInt8) × Int)))] : List Qk)).bind fun z9 => (optE z9 (some (false)) (fun a => ((Yx 0 0 0 0 ([] : List Qk)).bind fun b => (optE b (Z9 a false) (fun c => (Z9 a true))))))))
set_option maxRecDepth 100000 in
set_option maxHeartbeats 4000000 in
theorem G5   (w0 : World) (hL : Do w0)  (r : (Bool)) (H : Ya  = some r) :
  Calls Tryz.prog 15 #[] w0 (fun e w' => e = .returned (.bool r) ∧ SP [] w0 w' []) := by
 unfold Ya at H
 refine Qu (n := 81) Tryz.func15 K K K ?_
 have g1 := Qz [] w0
 refine aQ ?_
 refine aR ?_
 refine iR 1 1 [(0, (.bool false))] ?_
 refine iF ?_
 refine aQ ?_
 refine aR ?_
 obtain ⟨z1, g2, H⟩ := Qe H
 refine iS 1 ?_
 refine cF 42 #[] #[] 10 Tryz.call42 (Ri   w0  z1 g2) ?_
 rintro e w3 ⟨g5, g6, rfl, d2⟩
 refine ⟨_, rfl, ?_⟩
 have z := SP.call g1 d2
 clear d2
 obtain ⟨z9, d3, H⟩ := Qe H
 rcases z9 with _ | f
 ·have H := optN H
  refine iS 2 ?_
  refine cF 18 #[(.tmp 10)] #[24] 11 Tryz.call18 (X0 (some ⟨g6, 0, none⟩) (List.length ([(([97, 110, 110] : List UInt8), 0, 0, ([] : List (Int × Int)), ([(([107] : List UInt8), ([115] : List UInt8), 5)] : List ((List UInt8) × (List UInt8) × Int)))] : List Qk)) 9 9 9 9 ([(([97, 110, 110] : List UInt8), 0, 0, (none, 0, ([] : List (Int × Int))), ((some ⟨g5, 0, none⟩), (List.length ([(([107] : List UInt8), ([115] : List UInt8), 5)] : List ((List UInt8) × (List UInt8) × Int))), ([(([107] : List UInt8), ([115] : List UInt8), 5)] : List ((List UInt8) × (List UInt8) × Int))))] : List Vi) w3 (Zk hL (SP.keeps z)) (Bf (Vg (SP.get z (i := 1) rfl)) (Ni (Xq Jd (Xq Jd (Xq Jd (Xq (Uq (RdT.nil (Q0 (Qd .u32) (Qd .i64)) w3)) (Uq (Vg (SP.get z (i := 0) rfl))))))) G9)) none d3) ?_
  rintro e i9 ⟨rfl, d4⟩
  refine ⟨_, rfl, ?_⟩
  have g3 := SP.call z d4
  clear d4
  refine iR 1 3 [(1, (.pointer none))] ?_
  refine iF ?_
  refine aQ ?_
  refine aQ ?_
  refine aR ?_
  refine iR 7 7 [(12, (.pointer none)), (13, (.bool true)), (14, (.bool true)), (15, undef), (16, undef), (17, undef), (18, (.bool true))] ?_
  refine iF ?_
  refine Zj K (o := (.tmp 18)) K (b := true) K (fun d5 => ?_) (fun d5 => ?_)
  rotate_left
  ·cases d5
  refine aQ ?_
  refine aR ?_
  refine iR 1 1 [(0, (.bool false))] ?_
  refine iF ?_
  refine At.ret K ?_
  refine ⟨(.bool false), K, ?_⟩
  obtain rfl := Ql H
  exact ⟨rfl, SP.sel g3 [] rfl rfl⟩
 ·have H := optS H
  refine iS 2 ?_
  refine cF 18 #[(.tmp 10)] #[24] 11 Tryz.call18 (X0 (some ⟨g6, 0, none⟩) (List.length ([(([97, 110, 110] : List UInt8), 0, 0, ([] : List (Int × Int)), ([(([107] : List UInt8), ([115] : List UInt8), 5)] : List ((List UInt8) × (List UInt8) × Int)))] : List Qk)) 9 9 9 9 ([(([97, 110, 110] : List UInt8), 0, 0, (none, 0, ([] : List (Int × Int))), ((some ⟨g5, 0, none⟩), (List.length ([(([107] : List UInt8), ([115] : List UInt8), 5)] : List ((List UInt8) × (List UInt8) × Int))), ([(([107] : List UInt8), ([115] : List UInt8), 5)] : List ((List UInt8) × (List UInt8) × Int))))] : List Vi) w3 (Zk hL (SP.keeps z)) (Bf (Vg (SP.get z (i := 1) rfl)) (Ni (Xq Jd (Xq Jd (Xq Jd (Xq (Uq (RdT.nil (Q0 (Qd .u32) (Qd .i64)) w3)) (Uq (Vg (SP.get z (i := 0) rfl))))))) G9)) (some f) d3) ?_
  rintro e b2 ⟨j, m, rfl, d6⟩
  refine ⟨_, rfl, ?_⟩
  have b3 := SP.call z d6
  clear d6
  refine iR 1 3 [(1, (pt j 0))] ?_
  refine iF ?_
  refine aQ ?_
  refine aQ ?_
  refine At.join (fun ρ w => ∃ (a3 : Bool), Zb ρ [(1, (pt j 0)), (18, (.bool a3))] ∧ SP [] w0 w [Xu 44 U1 (some ⟨g6, 0, none⟩) (List.length ([(([97, 110, 110] : List UInt8), 0, 0, ([] : List (Int × Int)), ([(([107] : List UInt8), ([115] : List UInt8), 5)] : List ((List UInt8) × (List UInt8) × Int)))] : List Qk)) ([(([97, 110, 110] : List UInt8), 0, 0, (none, 0, ([] : List (Int × Int))), ((some ⟨g5, 0, none⟩), (List.length ([(([107] : List UInt8), ([115] : List UInt8), 5)] : List ((List UInt8) × (List UInt8) × Int))), ([(([107] : List UInt8), ([115] : List UInt8), 5)] : List ((List UInt8) × (List UInt8) × Int))))] : List Vi), Xu 48 (Q0 V5 (Q0 V5 (Qd .i64))) (some ⟨g5, 0, none⟩) (List.length ([(([107] : List UInt8), ([115] : List UInt8), 5)] : List ((List UInt8) × (List UInt8) × Int))) ([(([107] : List UInt8), ([115] : List UInt8), 5)] : List ((List UInt8) × (List UInt8) × Int)), Q7 j 79 #[(.int .i64 f.1), (.int .i64 f.2.1), (.int .i64 f.2.2.1), (.int .i64 f.2.2.2.1), (.slice (some ⟨g6, 0, none⟩) (List.length ([(([97, 110, 110] : List UInt8), 0, 0, ([] : List (Int × Int)), ([(([107] : List UInt8), ([115] : List UInt8), 5)] : List ((List UInt8) × (List UInt8) × Int)))] : List Qk)) (List.length ([(([97, 110, 110] : List UInt8), 0, 0, ([] : List (Int × Int)), ([(([107] : List UInt8), ([115] : List UInt8), 5)] : List ((List UInt8) × (List UInt8) × Int)))] : List Qk))), (.map (some m))], Zp m f.2.2.2.2] ∧ Z9 f a3 = some r) ?_ ?_
  ·refine aR ?_
   refine iR 4 4 [(12, (pt j 0)), (13, (.bool false)), (14, (.bool false)), (15, (.agg #[(.int .i64 0), (.int .i64 0), (.int .i64 0), (.int .i64 0), (.slice none (List.length ([] : List Qk)) 0)]))] ?_
   obtain ⟨g4, d7, H⟩ := Qe H
   rcases g4 with _ | g7
   ·have H := optN H
    refine iS 5 ?_
    refine cF 18 #[(.tmp 15)] #[24] 16 Tryz.call18 (X0 none 0 0 0 0 0 ([] : List Vi) b2 (Zk hL (SP.keeps b3)) (G8 U1 B9 b2) none d7) ?_
    rintro e j0 ⟨rfl, d8⟩
    refine ⟨_, rfl, ?_⟩
    have g8 := SP.call b3 d8
    clear d8
    refine iR 2 7 [(17, (.bool false)), (18, (.bool false))] ?_
    refine iF ?_
    exact ⟨false, ⟨K, K, trivial⟩, SP.sel g8 [1, 0, 2, 3] rfl rfl, H⟩
   ·have H := optS H
    refine iS 5 ?_
    refine cF 18 #[(.tmp 15)] #[24] 16 Tryz.call18 (X0 none 0 0 0 0 0 ([] : List Vi) b2 (Zk hL (SP.keeps b3)) (G8 U1 B9 b2) (some g7) d7) ?_
    rintro e j1 ⟨j2, j3, rfl, d9⟩
    refine ⟨_, rfl, ?_⟩
    have g9 := SP.call b3 d9
    clear d9
    refine iR 2 7 [(17, (.bool true)), (18, (.bool true))] ?_
    refine iF ?_
    exact ⟨true, ⟨K, K, trivial⟩, SP.sel g9 [1, 0, 2, 3] rfl rfl, H⟩
  ·rintro ρ j4 ⟨a3, hk, e0, H⟩
   unfold Z9 at H
   first | refine At.known [(1, (pt j 0)), (18, (.bool a3))] hk ?_ | rw [← Vb (l := [(1, (pt j 0)), (18, (.bool a3))]) hk]
   refine Zj K (o := (.tmp 18)) K (b := a3) K (fun c1 => ?_) (fun c1 => ?_)
   ·have H := ct H c1
    refine aQ ?_
    refine aR ?_
    refine iR 1 1 [(0, (.bool false))] ?_
    refine iF ?_
    refine At.ret K ?_
    refine ⟨(.bool false), K, ?_⟩
    obtain rfl := Ql H
    exact ⟨rfl, SP.sel e0 [] rfl rfl⟩
   ·have H := cf H c1
    refine At.skip K ?_
    refine aQ ?_
    refine aR ?_
    refine iS 1 ?_
    refine Vx (e := eU8) (T := 52) (E := 5) (len := 1) (parts := #[(0, (.const (.int .u8 (115))))]) (cs := #[(.int .u8 115)]) ([(115 : UInt8)] : List UInt8) (d := (some 19)) (k := 0) K rfl (fun _ => K) e0 (Yn (Or.inl rfl) rfl) rfl rfl rfl ?_
    intro s j5 h1
    refine iS 2 ?_
    refine Qi.mark (T := 52) (E := 5) (x := (.tmp 19)) (g := s) (c := (List.length ([(115 : UInt8)] : List UInt8))) (i := 4) (l := ([(115 : UInt8)] : List UInt8)) (d := (some 20)) (k := 1) K rfl K K K h1 rfl ?_
    intro j6 h2
    refine iS 3 ?_
    refine Vx (e := V5) (T := 53) (E := 9) (len := 3) (parts := #[(0, (.const (.string ⟨List.toArray ([97, 110, 110] : List UInt8)⟩))), (1, (.const (.string ⟨List.toArray ([107] : List UInt8)⟩))), (2, (.const (.string ⟨List.toArray ([110] : List UInt8)⟩)))]) (cs := #[(.string ⟨List.toArray ([97, 110, 110] : List UInt8)⟩), (.string ⟨List.toArray ([107] : List UInt8)⟩), (.string ⟨List.toArray ([110] : List UInt8)⟩)]) ([([97, 110, 110] : List UInt8), ([107] : List UInt8), ([110] : List UInt8)] : List (List UInt8)) (d := (some 21)) (k := 2) K rfl (fun _ => K) h2 rfl rfl rfl rfl ?_
    intro u h3 c2
    obtain ⟨p, h4, H⟩ := Qe H
    refine iS 4 ?_
    refine cF 30 #[(.tmp 20), (.tmp 21)] #[52, 53] 22 Tryz.call30 (Gp (some ⟨s, 0, none⟩) (List.length ([(115 : UInt8)] : List UInt8)) (some ⟨u, 0, none⟩) (List.length ([([97, 110, 110] : List UInt8), ([107] : List UInt8), ([110] : List UInt8)] : List (List UInt8))) ([(115 : UInt8)] : List UInt8) ([([97, 110, 110] : List UInt8), ([107] : List UInt8), ([110] : List UInt8)] : List (List UInt8)) h3 (Fn (SP.get c2 (i := 4) rfl)) (Vg (SP.get c2 (i := 5) rfl)) p h4) ?_
    rintro e h5 ⟨rfl, e1⟩
    refine ⟨_, rfl, ?_⟩
    have b4 := SP.call c2 e1
    clear e1
    refine iR 1 5 [(2, (.string ⟨List.toArray p⟩))] ?_
    refine iF ?_
    refine aQ ?_
    refine aR ?_
    refine iR 2 2 [(23, (pt j 0)), (24, (.string ⟨List.toArray p⟩))] ?_
    obtain ⟨a4, h6, H⟩ := Qe H
    refine iS 3 ?_
    refine cF 26 #[(.tmp 23), (.const (.string ⟨List.toArray ([97, 110, 110] : List UInt8)⟩)), (.const (.string ⟨List.toArray ([107] : List UInt8)⟩)), (.const (.string ⟨List.toArray ([110] : List UInt8)⟩)), (.tmp 24), (.const (.int .i64 (4)))] #[29, 9, 9, 9, 9, 2] 25 Tryz.call26 (Xe j (some ⟨g6, 0, none⟩) (List.length ([(([97, 110, 110] : List UInt8), 0, 0, ([] : List (Int × Int)), ([(([107] : List UInt8), ([115] : List UInt8), 5)] : List ((List UInt8) × (List UInt8) × Int)))] : List Qk)) m f.1 f.2.1 f.2.2.1 f.2.2.2.1 ([(([97, 110, 110] : List UInt8), 0, 0, (none, 0, ([] : List (Int × Int))), ((some ⟨g5, 0, none⟩), (List.length ([(([107] : List UInt8), ([115] : List UInt8), 5)] : List ((List UInt8) × (List UInt8) × Int))), ([(([107] : List UInt8), ([115] : List UInt8), 5)] : List ((List UInt8) × (List UInt8) × Int))))] : List Vi) f.2.2.2.2 ([97, 110, 110] : List UInt8) ([107] : List UInt8) ([110] : List UInt8) p 4 h5 (Jt b4 [2, 3] rfl rfl) (fun w hm => Bf (Vg (SP.still b4 (l := [2, 3]) (i := 0) rfl rfl rfl hm)) (Ni (Xq Jd (Xq Jd (Xq Jd (Xq (G8 (Q0 (Qd .u32) (Qd .i64)) dT w) (Uq (Vg (SP.still b4 (l := [2, 3]) (i := 1) rfl rfl rfl hm))))))) G9)) a4 h6) ?_
    rintro e e2 ⟨rfl, e3⟩
    refine ⟨_, rfl, ?_⟩
    have b5 : SP [] w0 e2 [Xu 44 U1 (some ⟨g6, 0, none⟩) (List.length ([(([97, 110, 110] : List UInt8), 0, 0, ([] : List (Int × Int)), ([(([107] : List UInt8), ([115] : List UInt8), 5)] : List ((List UInt8) × (List UInt8) × Int)))] : List Qk)) ([(([97, 110, 110] : List UInt8), 0, 0, (none, 0, ([] : List (Int × Int))), ((some ⟨g5, 0, none⟩), (List.length ([(([107] : List UInt8), ([115] : List UInt8), 5)] : List ((List UInt8) × (List UInt8) × Int))), ([(([107] : List UInt8), ([115] : List UInt8), 5)] : List ((List UInt8) × (List UInt8) × Int))))] : List Vi), Xu 48 (Q0 V5 (Q0 V5 (Qd .i64))) (some ⟨g5, 0, none⟩) (List.length ([(([107] : List UInt8), ([115] : List UInt8), 5)] : List ((List UInt8) × (List UInt8) × Int))) ([(([107] : List UInt8), ([115] : List UInt8), 5)] : List ((List UInt8) × (List UInt8) × Int)), rdE eU8 (some ⟨s, 0, none⟩) (List.length ([(115 : UInt8)] : List UInt8)) ([(115 : UInt8)] : List UInt8), Xu 9 V5 (some ⟨u, 0, none⟩) (List.length ([([97, 110, 110] : List UInt8), ([107] : List UInt8), ([110] : List UInt8)] : List (List UInt8))) ([([97, 110, 110] : List UInt8), ([107] : List UInt8), ([110] : List UInt8)] : List (List UInt8)), Q7 j 79 #[(.int .i64 f.1), (.int .i64 f.2.1), (.int .i64 f.2.2.1), (.int .i64 f.2.2.2.1), (.slice (some ⟨g6, 0, none⟩) (List.length ([(([97, 110, 110] : List UInt8), 0, 0, ([] : List (Int × Int)), ([(([107] : List UInt8), ([115] : List UInt8), 5)] : List ((List UInt8) × (List UInt8) × Int)))] : List Qk)) (List.length ([(([97, 110, 110] : List UInt8), 0, 0, ([] : List (Int × Int)), ([(([107] : List UInt8), ([115] : List UInt8), 5)] : List ((List UInt8) × (List UInt8) × Int)))] : List Qk))), (.map (some m))], Zp m f.2.2.2.2] := Z1 b4 [2, 3] [0, 1, 4, 5] rfl rfl e3 rfl
    clear e3
    refine iR 1 4 [(3, (.int .i64 a4))] ?_
    refine iF ?_
    refine aQ ?_
    refine aR ?_
    refine iR 2 2 [(26, (pt j 0)), (27, (.string ⟨List.toArray p⟩))] ?_
    obtain ⟨a0, h7, H⟩ := Qe H
    refine iS 3 ?_
    refine cF 26 #[(.tmp 26), (.const (.string ⟨List.toArray ([97, 110, 110] : List UInt8)⟩)), (.const (.string ⟨List.toArray ([107] : List UInt8)⟩)), (.const (.string ⟨List.toArray ([110] : List UInt8)⟩)), (.tmp 27), (.const (.int .i64 (5)))] #[29, 9, 9, 9, 9, 2] 28 Tryz.call26 (Xe j (some ⟨g6, 0, none⟩) (List.length ([(([97, 110, 110] : List UInt8), 0, 0, ([] : List (Int × Int)), ([(([107] : List UInt8), ([115] : List UInt8), 5)] : List ((List UInt8) × (List UInt8) × Int)))] : List Qk)) m f.1 f.2.1 f.2.2.1 f.2.2.2.1 ([(([97, 110, 110] : List UInt8), 0, 0, (none, 0, ([] : List (Int × Int))), ((some ⟨g5, 0, none⟩), (List.length ([(([107] : List UInt8), ([115] : List UInt8), 5)] : List ((List UInt8) × (List UInt8) × Int))), ([(([107] : List UInt8), ([115] : List UInt8), 5)] : List ((List UInt8) × (List UInt8) × Int))))] : List Vi) f.2.2.2.2 ([97, 110, 110] : List UInt8) ([107] : List UInt8) ([110] : List UInt8) p 5 e2 (Jt b5 [4, 5] rfl rfl) (fun w hm => Bf (Vg (SP.still b5 (l := [4, 5]) (i := 0) rfl rfl rfl hm)) (Ni (Xq Jd (Xq Jd (Xq Jd (Xq (G8 (Q0 (Qd .u32) (Qd .i64)) dT w) (Uq (Vg (SP.still b5 (l := [4, 5]) (i := 1) rfl rfl rfl hm))))))) G9)) a0 h7) ?_
    rintro e e4 ⟨rfl, e5⟩
    refine ⟨_, rfl, ?_⟩
    have b6 : SP [] w0 e4 [Xu 44 U1 (some ⟨g6, 0, none⟩) (List.length ([(([97, 110, 110] : List UInt8), 0, 0, ([] : List (Int × Int)), ([(([107] : List UInt8), ([115] : List UInt8), 5)] : List ((List UInt8) × (List UInt8) × Int)))] : List Qk)) ([(([97, 110, 110] : List UInt8), 0, 0, (none, 0, ([] : List (Int × Int))), ((some ⟨g5, 0, none⟩), (List.length ([(([107] : List UInt8), ([115] : List UInt8), 5)] : List ((List UInt8) × (List UInt8) × Int))), ([(([107] : List UInt8), ([115] : List UInt8), 5)] : List ((List UInt8) × (List UInt8) × Int))))] : List Vi), Xu 48 (Q0 V5 (Q0 V5 (Qd .i64))) (some ⟨g5, 0, none⟩) (List.length ([(([107] : List UInt8), ([115] : List UInt8), 5)] : List ((List UInt8) × (List UInt8) × Int))) ([(([107] : List UInt8), ([115] : List UInt8), 5)] : List ((List UInt8) × (List UInt8) × Int)), rdE eU8 (some ⟨s, 0, none⟩) (List.length ([(115 : UInt8)] : List UInt8)) ([(115 : UInt8)] : List UInt8), Xu 9 V5 (some ⟨u, 0, none⟩) (List.length ([([97, 110, 110] : List UInt8), ([107] : List UInt8), ([110] : List UInt8)] : List (List UInt8))) ([([97, 110, 110] : List UInt8), ([107] : List UInt8), ([110] : List UInt8)] : List (List UInt8)), Q7 j 79 #[(.int .i64 f.1), (.int .i64 f.2.1), (.int .i64 f.2.2.1), (.int .i64 f.2.2.2.1), (.slice (some ⟨g6, 0, none⟩) (List.length ([(([97, 110, 110] : List UInt8), 0, 0, ([] : List (Int × Int)), ([(([107] : List UInt8), ([115] : List UInt8), 5)] : List ((List UInt8) × (List UInt8) × Int)))] : List Qk)) (List.length ([(([97, 110, 110] : List UInt8), 0, 0, ([] : List (Int × Int)), ([(([107] : List UInt8), ([115] : List UInt8), 5)] : List ((List UInt8) × (List UInt8) × Int)))] : List Qk))), (.map (some m))], Zp m f.2.2.2.2] := Z1 b5 [4, 5] [0, 1, 2, 3] rfl rfl e5 rfl
    clear e5
    refine iR 1 4 [(4, (.int .i64 a0))] ?_
    refine iF ?_
    refine aQ ?_
    refine aR ?_
    refine iR 2 2 [(29, (pt j 0)), (30, (.string ⟨List.toArray p⟩))] ?_
    obtain ⟨a1, h8, H⟩ := Qe H
    refine iS 3 ?_
    refine cF 26 #[(.tmp 29), (.const (.string ⟨List.toArray ([97, 110, 110] : List UInt8)⟩)), (.const (.string ⟨List.toArray ([107] : List UInt8)⟩)), (.const (.string ⟨List.toArray ([109] : List UInt8)⟩)), (.tmp 30), (.const (.int .i64 (4)))] #[29, 9, 9, 9, 9, 2] 31 Tryz.call26 (Xe j (some ⟨g6, 0, none⟩) (List.length ([(([97, 110, 110] : List UInt8), 0, 0, ([] : List (Int × Int)), ([(([107] : List UInt8), ([115] : List UInt8), 5)] : List ((List UInt8) × (List UInt8) × Int)))] : List Qk)) m f.1 f.2.1 f.2.2.1 f.2.2.2.1 ([(([97, 110, 110] : List UInt8), 0, 0, (none, 0, ([] : List (Int × Int))), ((some ⟨g5, 0, none⟩), (List.length ([(([107] : List UInt8), ([115] : List UInt8), 5)] : List ((List UInt8) × (List UInt8) × Int))), ([(([107] : List UInt8), ([115] : List UInt8), 5)] : List ((List UInt8) × (List UInt8) × Int))))] : List Vi) f.2.2.2.2 ([97, 110, 110] : List UInt8) ([107] : List UInt8) ([109] : List UInt8) p 4 e4 (Jt b6 [4, 5] rfl rfl) (fun w hm => Bf (Vg (SP.still b6 (l := [4, 5]) (i := 0) rfl rfl rfl hm)) (Ni (Xq Jd (Xq Jd (Xq Jd (Xq (G8 (Q0 (Qd .u32) (Qd .i64)) dT w) (Uq (Vg (SP.still b6 (l := [4, 5]) (i := 1) rfl rfl rfl hm))))))) G9)) a1 h8) ?_
    rintro e e6 ⟨rfl, e7⟩
    refine ⟨_, rfl, ?_⟩
    have b7 : SP [] w0 e6 [Xu 44 U1 (some ⟨g6, 0, none⟩) (List.length ([(([97, 110, 110] : List UInt8), 0, 0, ([] : List (Int × Int)), ([(([107] : List UInt8), ([115] : List UInt8), 5)] : List ((List UInt8) × (List UInt8) × Int)))] : List Qk)) ([(([97, 110, 110] : List UInt8), 0, 0, (none, 0, ([] : List (Int × Int))), ((some ⟨g5, 0, none⟩), (List.length ([(([107] : List UInt8), ([115] : List UInt8), 5)] : List ((List UInt8) × (List UInt8) × Int))), ([(([107] : List UInt8), ([115] : List UInt8), 5)] : List ((List UInt8) × (List UInt8) × Int))))] : List Vi), Xu 48 (Q0 V5 (Q0 V5 (Qd .i64))) (some ⟨g5, 0, none⟩) (List.length ([(([107] : List UInt8), ([115] : List UInt8), 5)] : List ((List UInt8) × (List UInt8) × Int))) ([(([107] : List UInt8), ([115] : List UInt8), 5)] : List ((List UInt8) × (List UInt8) × Int)), rdE eU8 (some ⟨s, 0, none⟩) (List.length ([(115 : UInt8)] : List UInt8)) ([(115 : UInt8)] : List UInt8), Xu 9 V5 (some ⟨u, 0, none⟩) (List.length ([([97, 110, 110] : List UInt8), ([107] : List UInt8), ([110] : List UInt8)] : List (List UInt8))) ([([97, 110, 110] : List UInt8), ([107] : List UInt8), ([110] : List UInt8)] : List (List UInt8)), Q7 j 79 #[(.int .i64 f.1), (.int .i64 f.2.1), (.int .i64 f.2.2.1), (.int .i64 f.2.2.2.1), (.slice (some ⟨g6, 0, none⟩) (List.length ([(([97, 110, 110] : List UInt8), 0, 0, ([] : List (Int × Int)), ([(([107] : List UInt8), ([115] : List UInt8), 5)] : List ((List UInt8) × (List UInt8) × Int)))] : List Qk)) (List.length ([(([97, 110, 110] : List UInt8), 0, 0, ([] : List (Int × Int)), ([(([107] : List UInt8), ([115] : List UInt8), 5)] : List ((List UInt8) × (List UInt8) × Int)))] : List Qk))), (.map (some m))], Zp m f.2.2.2.2] := Z1 b6 [4, 5] [0, 1, 2, 3] rfl rfl e7 rfl
    clear e7
    refine iR 1 4 [(5, (.int .i64 a1))] ?_
    refine iF ?_
    refine aQ ?_
    refine aR ?_
    refine iR 1 1 [(32, (pt j 0))] ?_
    obtain ⟨a5, h9, H⟩ := Qe H
    refine iS 2 ?_
    refine cF 22 #[(.tmp 32), (.const (.string ⟨List.toArray ([97, 110, 110] : List UInt8)⟩)), (.const (.string ⟨List.toArray ([107] : List UInt8)⟩)), (.const (.int .i64 (4)))] #[29, 9, 9, 2] 33 Tryz.call22 (V9 j (some ⟨g6, 0, none⟩) (List.length ([(([97, 110, 110] : List UInt8), 0, 0, ([] : List (Int × Int)), ([(([107] : List UInt8), ([115] : List UInt8), 5)] : List ((List UInt8) × (List UInt8) × Int)))] : List Qk)) m f.1 f.2.1 f.2.2.1 f.2.2.2.1 ([(([97, 110, 110] : List UInt8), 0, 0, (none, 0, ([] : List (Int × Int))), ((some ⟨g5, 0, none⟩), (List.length ([(([107] : List UInt8), ([115] : List UInt8), 5)] : List ((List UInt8) × (List UInt8) × Int))), ([(([107] : List UInt8), ([115] : List UInt8), 5)] : List ((List UInt8) × (List UInt8) × Int))))] : List Vi) f.2.2.2.2 ([97, 110, 110] : List UInt8) ([107] : List UInt8) 4 e6 (Jt b7 [4, 5] rfl rfl) (fun w hm => Bf (Vg (SP.still b7 (l := [4, 5]) (i := 0) rfl rfl rfl hm)) (Ni (Xq Jd (Xq Jd (Xq Jd (Xq (G8 (Q0 (Qd .u32) (Qd .i64)) dT w) (Uq (Vg (SP.still b7 (l := [4, 5]) (i := 1) rfl rfl rfl hm))))))) G9)) a5 h9) ?_
    rintro e e8 ⟨rfl, e9⟩
    refine ⟨_, rfl, ?_⟩
    have b8 : SP [] w0 e8 [Xu 44 U1 (some ⟨g6, 0, none⟩) (List.length ([(([97, 110, 110] : List UInt8), 0, 0, ([] : List (Int × Int)), ([(([107] : List UInt8), ([115] : List UInt8), 5)] : List ((List UInt8) × (List UInt8) × Int)))] : List Qk)) ([(([97, 110, 110] : List UInt8), 0, 0, (none, 0, ([] : List (Int × Int))), ((some ⟨g5, 0, none⟩), (List.length ([(([107] : List UInt8), ([115] : List UInt8), 5)] : List ((List UInt8) × (List UInt8) × Int))), ([(([107] : List UInt8), ([115] : List UInt8), 5)] : List ((List UInt8) × (List UInt8) × Int))))] : List Vi), Xu 48 (Q0 V5 (Q0 V5 (Qd .i64))) (some ⟨g5, 0, none⟩) (List.length ([(([107] : List UInt8), ([115] : List UInt8), 5)] : List ((List UInt8) × (List UInt8) × Int))) ([(([107] : List UInt8), ([115] : List UInt8), 5)] : List ((List UInt8) × (List UInt8) × Int)), rdE eU8 (some ⟨s, 0, none⟩) (List.length ([(115 : UInt8)] : List UInt8)) ([(115 : UInt8)] : List UInt8), Xu 9 V5 (some ⟨u, 0, none⟩) (List.length ([([97, 110, 110] : List UInt8), ([107] : List UInt8), ([110] : List UInt8)] : List (List UInt8))) ([([97, 110, 110] : List UInt8), ([107] : List UInt8), ([110] : List UInt8)] : List (List UInt8)), Q7 j 79 #[(.int .i64 f.1), (.int .i64 f.2.1), (.int .i64 f.2.2.1), (.int .i64 f.2.2.2.1), (.slice (some ⟨g6, 0, none⟩) (List.length ([(([97, 110, 110] : List UInt8), 0, 0, ([] : List (Int × Int)), ([(([107] : List UInt8), ([115] : List UInt8), 5)] : List ((List UInt8) × (List UInt8) × Int)))] : List Qk)) (List.length ([(([97, 110, 110] : List UInt8), 0, 0, ([] : List (Int × Int)), ([(([107] : List UInt8), ([115] : List UInt8), 5)] : List ((List UInt8) × (List UInt8) × Int)))] : List Qk))), (.map (some m))], Zp m f.2.2.2.2] := Z1 b7 [4, 5] [0, 1, 2, 3] rfl rfl e9 rfl
    clear e9
    refine iR 1 3 [(6, (.bool a5))] ?_
    refine iF ?_
    refine aQ ?_
    refine aR ?_
    refine iR 1 1 [(34, (pt j 0))] ?_
    obtain ⟨q, i0, H⟩ := Qe H
    refine iS 2 ?_
    refine cF 20 #[(.tmp 34), (.const (.string ⟨List.toArray ([97, 110, 110] : List UInt8)⟩)), (.const (.string ⟨List.toArray ([107] : List UInt8)⟩))] #[29, 9, 9] 35 Tryz.call20 (J9 j (some ⟨g6, 0, none⟩) (List.length ([(([97, 110, 110] : List UInt8), 0, 0, ([] : List (Int × Int)), ([(([107] : List UInt8), ([115] : List UInt8), 5)] : List ((List UInt8) × (List UInt8) × Int)))] : List Qk)) m f.1 f.2.1 f.2.2.1 f.2.2.2.1 ([(([97, 110, 110] : List UInt8), 0, 0, (none, 0, ([] : List (Int × Int))), ((some ⟨g5, 0, none⟩), (List.length ([(([107] : List UInt8), ([115] : List UInt8), 5)] : List ((List UInt8) × (List UInt8) × Int))), ([(([107] : List UInt8), ([115] : List UInt8), 5)] : List ((List UInt8) × (List UInt8) × Int))))] : List Vi) f.2.2.2.2 ([97, 110, 110] : List UInt8) ([107] : List UInt8) e8 (Jt b8 [4, 5] rfl rfl) (fun w hm => Bf (Vg (SP.still b8 (l := [4, 5]) (i := 0) rfl rfl rfl hm)) (Ni (Xq Jd (Xq Jd (Xq Jd (Xq (G8 (Q0 (Qd .u32) (Qd .i64)) dT w) (Uq (Vg (SP.still b8 (l := [4, 5]) (i := 1) rfl rfl rfl hm))))))) G9)) q i0) ?_
    rintro e f0 ⟨rfl, f1⟩
    refine ⟨_, rfl, ?_⟩
    have b9 : SP [] w0 f0 [Xu 44 U1 (some ⟨g6, 0, none⟩) (List.length ([(([97, 110, 110] : List UInt8), 0, 0, ([] : List (Int × Int)), ([(([107] : List UInt8), ([115] : List UInt8), 5)] : List ((List UInt8) × (List UInt8) × Int)))] : List Qk)) ([(([97, 110, 110] : List UInt8), 0, 0, (none, 0, ([] : List (Int × Int))), ((some ⟨g5, 0, none⟩), (List.length ([(([107] : List UInt8), ([115] : List UInt8), 5)] : List ((List UInt8) × (List UInt8) × Int))), ([(([107] : List UInt8), ([115] : List UInt8), 5)] : List ((List UInt8) × (List UInt8) × Int))))] : List Vi), Xu 48 (Q0 V5 (Q0 V5 (Qd .i64))) (some ⟨g5, 0, none⟩) (List.length ([(([107] : List UInt8), ([115] : List UInt8), 5)] : List ((List UInt8) × (List UInt8) × Int))) ([(([107] : List UInt8), ([115] : List UInt8), 5)] : List ((List UInt8) × (List UInt8) × Int)), rdE eU8 (some ⟨s, 0, none⟩) (List.length ([(115 : UInt8)] : List UInt8)) ([(115 : UInt8)] : List UInt8), Xu 9 V5 (some ⟨u, 0, none⟩) (List.length ([([97, 110, 110] : List UInt8), ([107] : List UInt8), ([110] : List UInt8)] : List (List UInt8))) ([([97, 110, 110] : List UInt8), ([107] : List UInt8), ([110] : List UInt8)] : List (List UInt8)), Q7 j 79 #[(.int .i64 q.2.1), (.int .i64 q.2.2.1), (.int .i64 q.2.2.2.1), (.int .i64 q.2.2.2.2.1), (.slice (some ⟨g6, 0, none⟩) (List.length ([(([97, 110, 110] : List UInt8), 0, 0, ([] : List (Int × Int)), ([(([107] : List UInt8), ([115] : List UInt8), 5)] : List ((List UInt8) × (List UInt8) × Int)))] : List Qk)) (List.length ([(([97, 110, 110] : List UInt8), 0, 0, ([] : List (Int × Int)), ([(([107] : List UInt8), ([115] : List UInt8), 5)] : List ((List UInt8) × (List UInt8) × Int)))] : List Qk))), (.map (some m))], Zp m q.2.2.2.2.2] := Z1 b8 [4, 5] [0, 1, 2, 3] rfl rfl f1 rfl
    clear f1
    refine iR 1 3 [(7, (.bool q.1))] ?_
    refine iF ?_
    refine aQ ?_
    refine aR ?_
    refine iR 1 1 [(36, (pt j 0))] ?_
    obtain ⟨h, i1, H⟩ := Qe H
    refine iS 2 ?_
    refine cF 20 #[(.tmp 36), (.const (.string ⟨List.toArray ([97, 110, 110] : List UInt8)⟩)), (.const (.string ⟨List.toArray ([107] : List UInt8)⟩))] #[29, 9, 9] 37 Tryz.call20 (J9 j (some ⟨g6, 0, none⟩) (List.length ([(([97, 110, 110] : List UInt8), 0, 0, ([] : List (Int × Int)), ([(([107] : List UInt8), ([115] : List UInt8), 5)] : List ((List UInt8) × (List UInt8) × Int)))] : List Qk)) m q.2.1 q.2.2.1 q.2.2.2.1 q.2.2.2.2.1 ([(([97, 110, 110] : List UInt8), 0, 0, (none, 0, ([] : List (Int × Int))), ((some ⟨g5, 0, none⟩), (List.length ([(([107] : List UInt8), ([115] : List UInt8), 5)] : List ((List UInt8) × (List UInt8) × Int))), ([(([107] : List UInt8), ([115] : List UInt8), 5)] : List ((List UInt8) × (List UInt8) × Int))))] : List Vi) q.2.2.2.2.2 ([97, 110, 110] : List UInt8) ([107] : List UInt8) f0 (Jt b9 [4, 5] rfl rfl) (fun w hm => Bf (Vg (SP.still b9 (l := [4, 5]) (i := 0) rfl rfl rfl hm)) (Ni (Xq Jd (Xq Jd (Xq Jd (Xq (G8 (Q0 (Qd .u32) (Qd .i64)) dT w) (Uq (Vg (SP.still b9 (l := [4, 5]) (i := 1) rfl rfl rfl hm))))))) G9)) h i1) ?_
    rintro e f2 ⟨rfl, f3⟩
    refine ⟨_, rfl, ?_⟩
    have c0 : SP [] w0 f2 [Xu 44 U1 (some ⟨g6, 0, none⟩) (List.length ([(([97, 110, 110] : List UInt8), 0, 0, ([] : List (Int × Int)), ([(([107] : List UInt8), ([115] : List UInt8), 5)] : List ((List UInt8) × (List UInt8) × Int)))] : List Qk)) ([(([97, 110, 110] : List UInt8), 0, 0, (none, 0, ([] : List (Int × Int))), ((some ⟨g5, 0, none⟩), (List.length ([(([107] : List UInt8), ([115] : List UInt8), 5)] : List ((List UInt8) × (List UInt8) × Int))), ([(([107] : List UInt8), ([115] : List UInt8), 5)] : List ((List UInt8) × (List UInt8) × Int))))] : List Vi), Xu 48 (Q0 V5 (Q0 V5 (Qd .i64))) (some ⟨g5, 0, none⟩) (List.length ([(([107] : List UInt8), ([115] : List UInt8), 5)] : List ((List UInt8) × (List UInt8) × Int))) ([(([107] : List UInt8), ([115] : List UInt8), 5)] : List ((List UInt8) × (List UInt8) × Int)), rdE eU8 (some ⟨s, 0, none⟩) (List.length ([(115 : UInt8)] : List UInt8)) ([(115 : UInt8)] : List UInt8), Xu 9 V5 (some ⟨u, 0, none⟩) (List.length ([([97, 110, 110] : List UInt8), ([107] : List UInt8), ([110] : List UInt8)] : List (List UInt8))) ([([97, 110, 110] : List UInt8), ([107] : List UInt8), ([110] : List UInt8)] : List (List UInt8)), Q7 j 79 #[(.int .i64 h.2.1), (.int .i64 h.2.2.1), (.int .i64 h.2.2.2.1), (.int .i64 h.2.2.2.2.1), (.slice (some ⟨g6, 0, none⟩) (List.length ([(([97, 110, 110] : List UInt8), 0, 0, ([] : List (Int × Int)), ([(([107] : List UInt8), ([115] : List UInt8), 5)] : List ((List UInt8) × (List UInt8) × Int)))] : List Qk)) (List.length ([(([97, 110, 110] : List UInt8), 0, 0, ([] : List (Int × Int)), ([(([107] : List UInt8), ([115] : List UInt8), 5)] : List ((List UInt8) × (List UInt8) × Int)))] : List Qk))), (.map (some m))], Zp m h.2.2.2.2.2] := Z1 b9 [4, 5] [0, 1, 2, 3] rfl rfl f3 rfl
    clear f3
    refine iR 1 3 [(8, (.bool h.1))] ?_
    refine iF ?_
    refine aQ ?_
    refine aR ?_
    refine iR 2 2 [(38, (pt j 0)), (39, (.string ⟨List.toArray p⟩))] ?_
    obtain ⟨a2, i2, H⟩ := Qe H
    refine iS 3 ?_
    refine cF 26 #[(.tmp 38), (.const (.string ⟨List.toArray ([97, 110, 110] : List UInt8)⟩)), (.const (.string ⟨List.toArray ([107] : List UInt8)⟩)), (.const (.string ⟨List.toArray ([110] : List UInt8)⟩)), (.tmp 39), (.const (.int .i64 (4)))] #[29, 9, 9, 9, 9, 2] 40 Tryz.call26 (Xe j (some ⟨g6, 0, none⟩) (List.length ([(([97, 110, 110] : List UInt8), 0, 0, ([] : List (Int × Int)), ([(([107] : List UInt8), ([115] : List UInt8), 5)] : List ((List UInt8) × (List UInt8) × Int)))] : List Qk)) m h.2.1 h.2.2.1 h.2.2.2.1 h.2.2.2.2.1 ([(([97, 110, 110] : List UInt8), 0, 0, (none, 0, ([] : List (Int × Int))), ((some ⟨g5, 0, none⟩), (List.length ([(([107] : List UInt8), ([115] : List UInt8), 5)] : List ((List UInt8) × (List UInt8) × Int))), ([(([107] : List UInt8), ([115] : List UInt8), 5)] : List ((List UInt8) × (List UInt8) × Int))))] : List Vi) h.2.2.2.2.2 ([97, 110, 110] : List UInt8) ([107] : List UInt8) ([110] : List UInt8) p 4 f2 (Jt c0 [4, 5] rfl rfl) (fun w hm => Bf (Vg (SP.still c0 (l := [4, 5]) (i := 0) rfl rfl rfl hm)) (Ni (Xq Jd (Xq Jd (Xq Jd (Xq (G8 (Q0 (Qd .u32) (Qd .i64)) dT w) (Uq (Vg (SP.still c0 (l := [4, 5]) (i := 1) rfl rfl rfl hm))))))) G9)) a2 i2) ?_
    rintro e f4 ⟨rfl, f5⟩
    refine ⟨_, rfl, ?_⟩
    have v : SP [] w0 f4 [Xu 44 U1 (some ⟨g6, 0, none⟩) (List.length ([(([97, 110, 110] : List UInt8), 0, 0, ([] : List (Int × Int)), ([(([107] : List UInt8), ([115] : List UInt8), 5)] : List ((List UInt8) × (List UInt8) × Int)))] : List Qk)) ([(([97, 110, 110] : List UInt8), 0, 0, (none, 0, ([] : List (Int × Int))), ((some ⟨g5, 0, none⟩), (List.length ([(([107] : List UInt8), ([115] : List UInt8), 5)] : List ((List UInt8) × (List UInt8) × Int))), ([(([107] : List UInt8), ([115] : List UInt8), 5)] : List ((List UInt8) × (List UInt8) × Int))))] : List Vi), Xu 48 (Q0 V5 (Q0 V5 (Qd .i64))) (some ⟨g5, 0, none⟩) (List.length ([(([107] : List UInt8), ([115] : List UInt8), 5)] : List ((List UInt8) × (List UInt8) × Int))) ([(([107] : List UInt8), ([115] : List UInt8), 5)] : List ((List UInt8) × (List UInt8) × Int)), rdE eU8 (some ⟨s, 0, none⟩) (List.length ([(115 : UInt8)] : List UInt8)) ([(115 : UInt8)] : List UInt8), Xu 9 V5 (some ⟨u, 0, none⟩) (List.length ([([97, 110, 110] : List UInt8), ([107] : List UInt8), ([110] : List UInt8)] : List (List UInt8))) ([([97, 110, 110] : List UInt8), ([107] : List UInt8), ([110] : List UInt8)] : List (List UInt8)), Q7 j 79 #[(.int .i64 h.2.1), (.int .i64 h.2.2.1), (.int .i64 h.2.2.2.1), (.int .i64 h.2.2.2.2.1), (.slice (some ⟨g6, 0, none⟩) (List.length ([(([97, 110, 110] : List UInt8), 0, 0, ([] : List (Int × Int)), ([(([107] : List UInt8), ([115] : List UInt8), 5)] : List ((List UInt8) × (List UInt8) × Int)))] : List Qk)) (List.length ([(([97, 110, 110] : List UInt8), 0, 0, ([] : List (Int × Int)), ([(([107] : List UInt8), ([115] : List UInt8), 5)] : List ((List UInt8) × (List UInt8) × Int)))] : List Qk))), (.map (some m))], Zp m h.2.2.2.2.2] := Z1 c0 [4, 5] [0, 1, 2, 3] rfl rfl f5 rfl
    clear f5
    refine iR 1 4 [(9, (.int .i64 a2))] ?_
    refine iF ?_
    refine aQ ?_
    refine At.join (fun ρ w => ∃ (a6 : Bool), Zb ρ [(0, (.bool a6))] ∧ SP [] w0 w [] ∧ Vc a6 = some r) ?_ ?_
    ·refine aR ?_
     refine iR 3 3 [(41, (.int .i64 a4)), (42, (.bool (a4 == 0))), (43, (.bool (a4 == 0)))] ?_
     refine In.guard (t := 43) (b := (a4 == 0)) K (fun c3 => ?_) (fun c3 => ?_)
     ·have H := ct H c3
      refine iR 4 7 [(44, (.int .i64 a0)), (45, (.bool (a0 == 3))), (46, (.bool (a0 == 3))), (47, (.bool (a0 == 3)))] ?_
      refine In.guard (t := 47) (b := (a0 == 3)) K (fun c4 => ?_) (fun c4 => ?_)
      ·have H := ct H c4
       refine iR 4 11 [(48, (.int .i64 a1)), (49, (.bool (a1 == 101))), (50, (.bool (a1 == 101))), (51, (.bool (a1 == 101)))] ?_
       refine In.guard (t := 51) (b := (a1 == 101)) K (fun c5 => ?_) (fun c5 => ?_)
       ·have H := ct H c5
        refine iR 3 14 [(52, (.bool a5)), (53, (.bool a5)), (54, (.bool a5))] ?_
        refine In.guard (t := 54) (b := a5) K (fun c6 => ?_) (fun c6 => ?_)
        ·have H := ct H c6
         refine iR 3 17 [(55, (.bool q.1)), (56, (.bool q.1)), (57, (.bool q.1))] ?_
         refine In.guard (t := 57) (b := q.1) K (fun c7 => ?_) (fun c7 => ?_)
         ·have H := ct H c7
          refine iR 4 21 [(58, (.bool h.1)), (59, (.bool (!h.1))), (60, (.bool (!h.1))), (61, (.bool (!h.1)))] ?_
          refine In.guard (t := 61) (b := (!h.1)) K (fun c8 => ?_) (fun c8 => ?_)
          ·have H := ct H c8
           refine iR 4 25 [(62, (.int .i64 a2)), (63, (.bool (a2 == 3))), (64, (.bool (a2 == 3))), (65, (.bool (a2 == 3)))] ?_
           refine In.guard (t := 65) (b := (a2 == 3)) K (fun c9 => ?_) (fun c9 => ?_)
           ·have H := ct H c9
            refine iR 1 26 [(66, (pt j 0))] ?_
            obtain ⟨a7, i3, H⟩ := Qe H
            refine iS 27 ?_
            refine cF 24 #[(.tmp 66), (.const (.string ⟨List.toArray ([97, 110, 110] : List UInt8)⟩)), (.const (.string ⟨List.toArray ([107] : List UInt8)⟩)), (.const (.string ⟨List.toArray ([110] : List UInt8)⟩))] #[29, 9, 9, 9] 67 Tryz.call24 (Yy j (some ⟨g6, 0, none⟩) (List.length ([(([97, 110, 110] : List UInt8), 0, 0, ([] : List (Int × Int)), ([(([107] : List UInt8), ([115] : List UInt8), 5)] : List ((List UInt8) × (List UInt8) × Int)))] : List Qk)) m h.2.1 h.2.2.1 h.2.2.2.1 h.2.2.2.2.1 ([(([97, 110, 110] : List UInt8), 0, 0, (none, 0, ([] : List (Int × Int))), ((some ⟨g5, 0, none⟩), (List.length ([(([107] : List UInt8), ([115] : List UInt8), 5)] : List ((List UInt8) × (List UInt8) × Int))), ([(([107] : List UInt8), ([115] : List UInt8), 5)] : List ((List UInt8) × (List UInt8) × Int))))] : List Vi) h.2.2.2.2.2 ([97, 110, 110] : List UInt8) ([107] : List UInt8) ([110] : List UInt8) f4 (Jt v [4, 5] rfl rfl) (fun w hm => Bf (Vg (SP.still v (l := [4, 5]) (i := 0) rfl rfl rfl hm)) (Ni (Xq Jd (Xq Jd (Xq Jd (Xq (G8 (Q0 (Qd .u32) (Qd .i64)) dT w) (Uq (Vg (SP.still v (l := [4, 5]) (i := 1) rfl rfl rfl hm))))))) G9)) a7 i3) ?_
            rintro e f6 ⟨rfl, f7⟩
            refine ⟨_, rfl, ?_⟩
            have a9 : SP [] w0 f6 [Xu 44 U1 (some ⟨g6, 0, none⟩) (List.length ([(([97, 110, 110] : List UInt8), 0, 0, ([] : List (Int × Int)), ([(([107] : List UInt8), ([115] : List UInt8), 5)] : List ((List UInt8) × (List UInt8) × Int)))] : List Qk)) ([(([97, 110, 110] : List UInt8), 0, 0, (none, 0, ([] : List (Int × Int))), ((some ⟨g5, 0, none⟩), (List.length ([(([107] : List UInt8), ([115] : List UInt8), 5)] : List ((List UInt8) × (List UInt8) × Int))), ([(([107] : List UInt8), ([115] : List UInt8), 5)] : List ((List UInt8) × (List UInt8) × Int))))] : List Vi), Xu 48 (Q0 V5 (Q0 V5 (Qd .i64))) (some ⟨g5, 0, none⟩) (List.length ([(([107] : List UInt8), ([115] : List UInt8), 5)] : List ((List UInt8) × (List UInt8) × Int))) ([(([107] : List UInt8), ([115] : List UInt8), 5)] : List ((List UInt8) × (List UInt8) × Int)), rdE eU8 (some ⟨s, 0, none⟩) (List.length ([(115 : UInt8)] : List UInt8)) ([(115 : UInt8)] : List UInt8), Xu 9 V5 (some ⟨u, 0, none⟩) (List.length ([([97, 110, 110] : List UInt8), ([107] : List UInt8), ([110] : List UInt8)] : List (List UInt8))) ([([97, 110, 110] : List UInt8), ([107] : List UInt8), ([110] : List UInt8)] : List (List UInt8)), Q7 j 79 #[(.int .i64 h.2.1), (.int .i64 h.2.2.1), (.int .i64 h.2.2.2.1), (.int .i64 h.2.2.2.2.1), (.slice (some ⟨g6, 0, none⟩) (List.length ([(([97, 110, 110] : List UInt8), 0, 0, ([] : List (Int × Int)), ([(([107] : List UInt8), ([115] : List UInt8), 5)] : List ((List UInt8) × (List UInt8) × Int)))] : List Qk)) (List.length ([(([97, 110, 110] : List UInt8), 0, 0, ([] : List (Int × Int)), ([(([107] : List UInt8), ([115] : List UInt8), 5)] : List ((List UInt8) × (List UInt8) × Int)))] : List Qk))), (.map (some m))], Zp m h.2.2.2.2.2] := Z1 v [4, 5] [0, 1, 2, 3] rfl rfl f7 rfl
            clear f7
            refine iR 1 28 [(68, (.string ⟨List.toArray p⟩))] ?_
            refine iS 29 ?_
            refine Y3 (op := .eql) (T := 9) (T' := 9) (x := (.tmp 67)) (y := (.tmp 68)) (a := a7) (b := p) (r := (.bool (a7 == p))) (d := (some 69)) (k := 28) K rfl K K rfl ?_
            refine iR 2 31 [(70, (.bool (a7 == p))), (71, (.bool (a7 == p)))] ?_
            refine In.guard (t := 71) (b := (a7 == p)) K (fun d0 => ?_) (fun d0 => ?_)
            ·have H := ct H d0
             refine iR 1 32 [(72, (pt j 0))] ?_
             obtain ⟨a8, i4, H⟩ := Qe H
             refine iS 33 ?_
             refine cF 24 #[(.tmp 72), (.const (.string ⟨List.toArray ([97, 110, 110] : List UInt8)⟩)), (.const (.string ⟨List.toArray ([122] : List UInt8)⟩)), (.const (.string ⟨List.toArray ([110] : List UInt8)⟩))] #[29, 9, 9, 9] 73 Tryz.call24 (Yy j (some ⟨g6, 0, none⟩) (List.length ([(([97, 110, 110] : List UInt8), 0, 0, ([] : List (Int × Int)), ([(([107] : List UInt8), ([115] : List UInt8), 5)] : List ((List UInt8) × (List UInt8) × Int)))] : List Qk)) m h.2.1 h.2.2.1 h.2.2.2.1 h.2.2.2.2.1 ([(([97, 110, 110] : List UInt8), 0, 0, (none, 0, ([] : List (Int × Int))), ((some ⟨g5, 0, none⟩), (List.length ([(([107] : List UInt8), ([115] : List UInt8), 5)] : List ((List UInt8) × (List UInt8) × Int))), ([(([107] : List UInt8), ([115] : List UInt8), 5)] : List ((List UInt8) × (List UInt8) × Int))))] : List Vi) h.2.2.2.2.2 ([97, 110, 110] : List UInt8) ([122] : List UInt8) ([110] : List UInt8) f6 (Jt a9 [4, 5] rfl rfl) (fun w hm => Bf (Vg (SP.still a9 (l := [4, 5]) (i := 0) rfl rfl rfl hm)) (Ni (Xq Jd (Xq Jd (Xq Jd (Xq (G8 (Q0 (Qd .u32) (Qd .i64)) dT w) (Uq (Vg (SP.still a9 (l := [4, 5]) (i := 1) rfl rfl rfl hm))))))) G9)) a8 i4) ?_
             rintro e f8 ⟨rfl, f9⟩
             refine ⟨_, rfl, ?_⟩
             have b0 : SP [] w0 f8 [Xu 44 U1 (some ⟨g6, 0, none⟩) (List.length ([(([97, 110, 110] : List UInt8), 0, 0, ([] : List (Int × Int)), ([(([107] : List UInt8), ([115] : List UInt8), 5)] : List ((List UInt8) × (List UInt8) × Int)))] : List Qk)) ([(([97, 110, 110] : List UInt8), 0, 0, (none, 0, ([] : List (Int × Int))), ((some ⟨g5, 0, none⟩), (List.length ([(([107] : List UInt8), ([115] : List UInt8), 5)] : List ((List UInt8) × (List UInt8) × Int))), ([(([107] : List UInt8), ([115] : List UInt8), 5)] : List ((List UInt8) × (List UInt8) × Int))))] : List Vi), Xu 48 (Q0 V5 (Q0 V5 (Qd .i64))) (some ⟨g5, 0, none⟩) (List.length ([(([107] : List UInt8), ([115] : List UInt8), 5)] : List ((List UInt8) × (List UInt8) × Int))) ([(([107] : List UInt8), ([115] : List UInt8), 5)] : List ((List UInt8) × (List UInt8) × Int)), rdE eU8 (some ⟨s, 0, none⟩) (List.length ([(115 : UInt8)] : List UInt8)) ([(115 : UInt8)] : List UInt8), Xu 9 V5 (some ⟨u, 0, none⟩) (List.length ([([97, 110, 110] : List UInt8), ([107] : List UInt8), ([110] : List UInt8)] : List (List UInt8))) ([([97, 110, 110] : List UInt8), ([107] : List UInt8), ([110] : List UInt8)] : List (List UInt8)), Q7 j 79 #[(.int .i64 h.2.1), (.int .i64 h.2.2.1), (.int .i64 h.2.2.2.1), (.int .i64 h.2.2.2.2.1), (.slice (some ⟨g6, 0, none⟩) (List.length ([(([97, 110, 110] : List UInt8), 0, 0, ([] : List (Int × Int)), ([(([107] : List UInt8), ([115] : List UInt8), 5)] : List ((List UInt8) × (List UInt8) × Int)))] : List Qk)) (List.length ([(([97, 110, 110] : List UInt8), 0, 0, ([] : List (Int × Int)), ([(([107] : List UInt8), ([115] : List UInt8), 5)] : List ((List UInt8) × (List UInt8) × Int)))] : List Qk))), (.map (some m))], Zp m h.2.2.2.2.2] := Z1 a9 [4, 5] [0, 1, 2, 3] rfl rfl f9 rfl
             clear f9
             refine iS 34 ?_
             refine Y3 (op := .eql) (T := 9) (T' := 9) (x := (.tmp 73)) (y := (.const (.string ⟨List.toArray ([] : List UInt8)⟩))) (a := a8) (b := ([] : List UInt8)) (r := (.bool (a8 == ([] : List UInt8)))) (d := (some 74)) (k := 33) K rfl K K rfl ?_
             refine iR 2 36 [(75, (.bool (a8 == ([] : List UInt8)))), (76, (.bool (a8 == ([] : List UInt8))))] ?_
             refine In.guard (t := 76) (b := (a8 == ([] : List UInt8))) K (fun d1 => ?_) (fun d1 => ?_)
             ·have H := ct H d1
              refine iR 1 37 [(77, (pt j 0))] ?_
              obtain ⟨b1, i5, H⟩ := Qe H
              refine iS 38 ?_
              refine cF 22 #[(.tmp 77), (.const (.string ⟨List.toArray ([97, 110, 110] : List UInt8)⟩)), (.const (.string ⟨List.toArray ([107] : List UInt8)⟩)), (.const (.int .i64 (0)))] #[29, 9, 9, 2] 78 Tryz.call22 (V9 j (some ⟨g6, 0, none⟩) (List.length ([(([97, 110, 110] : List UInt8), 0, 0, ([] : List (Int × Int)), ([(([107] : List UInt8), ([115] : List UInt8), 5)] : List ((List UInt8) × (List UInt8) × Int)))] : List Qk)) m h.2.1 h.2.2.1 h.2.2.2.1 h.2.2.2.2.1 ([(([97, 110, 110] : List UInt8), 0, 0, (none, 0, ([] : List (Int × Int))), ((some ⟨g5, 0, none⟩), (List.length ([(([107] : List UInt8), ([115] : List UInt8), 5)] : List ((List UInt8) × (List UInt8) × Int))), ([(([107] : List UInt8), ([115] : List UInt8), 5)] : List ((List UInt8) × (List UInt8) × Int))))] : List Vi) h.2.2.2.2.2 ([97, 110, 110] : List UInt8) ([107] : List UInt8) 0 f8 (Jt b0 [4, 5] rfl rfl) (fun w hm => Bf (Vg (SP.still b0 (l := [4, 5]) (i := 0) rfl rfl rfl hm)) (Ni (Xq Jd (Xq Jd (Xq Jd (Xq (G8 (Q0 (Qd .u32) (Qd .i64)) dT w) (Uq (Vg (SP.still b0 (l := [4, 5]) (i := 1) rfl rfl rfl hm))))))) G9)) b1 i5) ?_
              rintro e i6 ⟨rfl, g0⟩
              refine ⟨_, rfl, ?_⟩
              have i7 : SP [] w0 i6 [Xu 44 U1 (some ⟨g6, 0, none⟩) (List.length ([(([97, 110, 110] : List UInt8), 0, 0, ([] : List (Int × Int)), ([(([107] : List UInt8), ([115] : List UInt8), 5)] : List ((List UInt8) × (List UInt8) × Int)))] : List Qk)) ([(([97, 110, 110] : List UInt8), 0, 0, (none, 0, ([] : List (Int × Int))), ((some ⟨g5, 0, none⟩), (List.length ([(([107] : List UInt8), ([115] : List UInt8), 5)] : List ((List UInt8) × (List UInt8) × Int))), ([(([107] : List UInt8), ([115] : List UInt8), 5)] : List ((List UInt8) × (List UInt8) × Int))))] : List Vi), Xu 48 (Q0 V5 (Q0 V5 (Qd .i64))) (some ⟨g5, 0, none⟩) (List.length ([(([107] : List UInt8), ([115] : List UInt8), 5)] : List ((List UInt8) × (List UInt8) × Int))) ([(([107] : List UInt8), ([115] : List UInt8), 5)] : List ((List UInt8) × (List UInt8) × Int)), rdE eU8 (some ⟨s, 0, none⟩) (List.length ([(115 : UInt8)] : List UInt8)) ([(115 : UInt8)] : List UInt8), Xu 9 V5 (some ⟨u, 0, none⟩) (List.length ([([97, 110, 110] : List UInt8), ([107] : List UInt8), ([110] : List UInt8)] : List (List UInt8))) ([([97, 110, 110] : List UInt8), ([107] : List UInt8), ([110] : List UInt8)] : List (List UInt8)), Q7 j 79 #[(.int .i64 h.2.1), (.int .i64 h.2.2.1), (.int .i64 h.2.2.2.1), (.int .i64 h.2.2.2.2.1), (.slice (some ⟨g6, 0, none⟩) (List.length ([(([97, 110, 110] : List UInt8), 0, 0, ([] : List (Int × Int)), ([(([107] : List UInt8), ([115] : List UInt8), 5)] : List ((List UInt8) × (List UInt8) × Int)))] : List Qk)) (List.length ([(([97, 110, 110] : List UInt8), 0, 0, ([] : List (Int × Int)), ([(([107] : List UInt8), ([115] : List UInt8), 5)] : List ((List UInt8) × (List UInt8) × Int)))] : List Qk))), (.map (some m))], Zp m h.2.2.2.2.2] := Z1 b0 [4, 5] [0, 1, 2, 3] rfl rfl g0 rfl
              clear g0
              refine iR 3 41 [(79, (.bool (!b1))), (80, (.bool (!b1))), (0, (.bool (!b1)))] ?_
              refine iF ?_
              exact ⟨(!b1), ⟨K, trivial⟩, SP.sel i7 [] rfl rfl, H⟩
             ·have H := cf H d1
              refine iR 5 41 [(77, undef), (78, undef), (79, undef), (80, (.bool false)), (0, (.bool false))] ?_
              refine iF ?_
              exact ⟨false, ⟨K, trivial⟩, SP.sel b0 [] rfl rfl, H⟩
            ·have H := cf H d0
             refine iR 10 41 [(72, undef), (73, undef), (74, undef), (75, (.bool false)), (76, (.bool false)), (77, undef), (78, undef), (79, undef), (80, (.bool false)), (0, (.bool false))] ?_
             refine iF ?_
             exact ⟨false, ⟨K, trivial⟩, SP.sel a9 [] rfl rfl, H⟩
           ·have H := cf H c9
            refine iR 16 41 [(66, undef), (67, undef), (68, undef), (69, undef), (70, (.bool false)), (71, (.bool false)), (72, undef), (73, undef), (74, undef), (75, (.bool false)), (76, (.bool false)), (77, undef), (78, undef), (79, undef), (80, (.bool false)), (0, (.bool false))] ?_
            refine iF ?_
            exact ⟨false, ⟨K, trivial⟩, SP.sel v [] rfl rfl, H⟩
          ·have H := cf H c8
           refine iR 20 41 [(62, undef), (63, undef), (64, (.bool false)), (65, (.bool false)), (66, undef), (67, undef), (68, undef), (69, undef), (70, (.bool false)), (71, (.bool false)), (72, undef), (73, undef), (74, undef), (75, (.bool false)), (76, (.bool false)), (77, undef), (78, undef), (79, undef), (80, (.bool false)), (0, (.bool false))] ?_
           refine iF ?_
           exact ⟨false, ⟨K, trivial⟩, SP.sel v [] rfl rfl, H⟩
         ·have H := cf H c7
          refine iR 24 41 [(58, undef), (59, undef), (60, (.bool false)), (61, (.bool false)), (62, undef), (63, undef), (64, (.bool false)), (65, (.bool false)), (66, undef), (67, undef), (68, undef), (69, undef), (70, (.bool false)), (71, (.bool false)), (72, undef), (73, undef), (74, undef), (75, (.bool false)), (76, (.bool false)), (77, undef), (78, undef), (79, undef), (80, (.bool false)), (0, (.bool false))] ?_
          refine iF ?_
          exact ⟨false, ⟨K, trivial⟩, SP.sel v [] rfl rfl, H⟩
        ·have H := cf H c6
         refine iR 27 41 [(55, undef), (56, (.bool false)), (57, (.bool false)), (58, undef), (59, undef), (60, (.bool false)), (61, (.bool false)), (62, undef), (63, undef), (64, (.bool false)), (65, (.bool false)), (66, undef), (67, undef), (68, undef), (69, undef), (70, (.bool false)), (71, (.bool false)), (72, undef), (73, undef), (74, undef), (75, (.bool false)), (76, (.bool false)), (77, undef), (78, undef), (79, undef), (80, (.bool false)), (0, (.bool false))] ?_
         refine iF ?_
         exact ⟨false, ⟨K, trivial⟩, SP.sel v [] rfl rfl, H⟩
       ·have H := cf H c5
        refine iR 30 41 [(52, undef), (53, (.bool false)), (54, (.bool false)), (55, undef), (56, (.bool false)), (57, (.bool false)), (58, undef), (59, undef), (60, (.bool false)), (61, (.bool false)), (62, undef), (63, undef), (64, (.bool false)), (65, (.bool false)), (66, undef), (67, undef), (68, undef), (69, undef), (70, (.bool false)), (71, (.bool false)), (72, undef), (73, undef), (74, undef), (75, (.bool false)), (76, (.bool false)), (77, undef), (78, undef), (79, undef), (80, (.bool false)), (0, (.bool false))] ?_
        refine iF ?_
        exact ⟨false, ⟨K, trivial⟩, SP.sel v [] rfl rfl, H⟩
      ·have H := cf H c4
       refine iR 34 41 [(48, undef), (49, undef), (50, (.bool false)), (51, (.bool false)), (52, undef), (53, (.bool false)), (54, (.bool false)), (55, undef), (56, (.bool false)), (57, (.bool false)), (58, undef), (59, undef), (60, (.bool false)), (61, (.bool false)), (62, undef), (63, undef), (64, (.bool false)), (65, (.bool false)), (66, undef), (67, undef), (68, undef), (69, undef), (70, (.bool false)), (71, (.bool false)), (72, undef), (73, undef), (74, undef), (75, (.bool false)), (76, (.bool false)), (77, undef), (78, undef), (79, undef), (80, (.bool false)), (0, (.bool false))] ?_
       refine iF ?_
       exact ⟨false, ⟨K, trivial⟩, SP.sel v [] rfl rfl, H⟩
     ·have H := cf H c3
      refine iR 38 41 [(44, undef), (45, undef), (46, (.bool false)), (47, (.bool false)), (48, undef), (49, undef), (50, (.bool false)), (51, (.bool false)), (52, undef), (53, (.bool false)), (54, (.bool false)), (55, undef), (56, (.bool false)), (57, (.bool false)), (58, undef), (59, undef), (60, (.bool false)), (61, (.bool false)), (62, undef), (63, undef), (64, (.bool false)), (65, (.bool false)), (66, undef), (67, undef), (68, undef), (69, undef), (70, (.bool false)), (71, (.bool false)), (72, undef), (73, undef), (74, undef), (75, (.bool false)), (76, (.bool false)), (77, undef), (78, undef), (79, undef), (80, (.bool false)), (0, (.bool false))] ?_
      refine iF ?_
      exact ⟨false, ⟨K, trivial⟩, SP.sel v [] rfl rfl, H⟩
    ·rintro ρ j7 ⟨a6, hk, i8, H⟩
     unfold Vc at H
     first | refine At.known [(0, (.bool a6))] hk ?_ | rw [← Vb (l := [(0, (.bool a6))]) hk]
     refine At.ret K ?_
     refine ⟨(.bool a6), K, ?_⟩
     obtain rfl := Ql H
     exact ⟨rfl, SP.sel i8 [] rfl rfl⟩
end Go.Proofs.YtmgfanhcdfobhaaGreatDoor
namespace Go.Proofs.YtmgfanhcdfobhaaGreatDoor
abbrev headV : List Qk := [(([97, 110, 110] : List UInt8), 0, 0, ([] : List (Int × Int)), ([(([107] : List UInt8), ([115] : List UInt8), 5)] : List ((List UInt8) × (List UInt8) × Int)))]
theorem headV_q : ∀ t ∈ headV, TenQ t := by
  intro t ht
  have : t = (([97, 110, 110] : List UInt8), 0, 0, ([] : List (Int × Int)), ([(([107] : List UInt8), ([115] : List UInt8), 5)] : List ((List UInt8) × (List UInt8) × Int))) := by simpa [headV] using ht
  subst this
  refine ⟨by decide, by decide, by decide, (fun n hn => by cases hn), fun x hx => ?_⟩
  have : x = (([107] : List UInt8), ([115] : List UInt8), 5) := by simpa using hx
  subst this
  decide
theorem headVNew : Yx 9 9 9 9 headV = some (some (9, 9, 9, 9, [])) := by
  rw [pVNew 9 9 9 9 headV (by decide) headV_q, show C0 9 9 9 9 headV = true by kernel_rfl]
  rfl
theorem headVNone : Yx 0 0 0 0 [] = some none := by
  rw [pVNew 0 0 0 0 [] (by decide) (fun t ht => by cases ht), show C0 0 0 0 0 [] = false by kernel_rfl]
  rfl
theorem headVRest : Z9 (9, 9, 9, 9, []) false = some true := by kernel_rfl
theorem optE_s {α β : Type} (x : α) (a : Option β) (f : α → Option β) : optE (some x) a f = f x := rfl
theorem optE_n {α β : Type} (a : Option β) (f : α → Option β) : optE none a f = a := rfl
theorem vaultHead : Ya = some true := by
  unfold Ya
  rw [show Js = some () from rfl, Option.bind_some, headVNew, Option.bind_some, optE_s, headVNone, Option.bind_some, optE_n]
  exact headVRest
end Go.Proofs.YtmgfanhcdfobhaaGreatDoor
namespace Go.Proofs.YtmgfanhcdfobhaaGreatDoor
open Go.RowKit
def Vu (a : Bool) : Option (Bool) :=
  (some (a))
def Vd (b : (List Qk)) (c : (List UInt8)) (d : (List UInt8)) (f : Int) (g : Int) (e : (Bool)) (a : (Int × Int × Int × Int × No)) (h : Bool) : Option (Bool) :=
  (cond h (some (e)) ((Vy a.1 a.2.1 a.2.2.1 a.2.2.2.1 b a.2.2.2.2 c d f).bind fun i => ((Vy a.1 a.2.1 a.2.2.1 a.2.2.2.1 b a.2.2.2.2 c d g).bind fun j => (cond e (cond (!j) ((Vy a.1 a.2.1 a.2.2.1 a.2.2.2.1 b a.2.2.2.2 c d 4611686018427387904).bind fun k => (Vu (!k))) (cond i ((Vy a.1 a.2.1 a.2.2.1 a.2.2.2.1 b a.2.2.2.2 c d 4611686018427387904).bind fun l => (Vu (!l))) (Vu false))) (Vu false)))))
def Xm (h : Int) (i : Int) (j : Int) (k : Int) (a : (List Qk)) (b : (List UInt8)) (c : (List UInt8)) (d : Int) (e : Int) : Option (Bool) :=
  ((Ya ).bind fun f => ((Yx h i j k a).bind fun l => (optE l (some (f)) (fun g => ((Yp h i j k a).bind fun m => (cond m (Vd a b c d e f g true) (cond (decide ((IntKind.wrap .i64 (((List.length b : Nat) : Int) + ((List.length c : Nat) : Int))) > 2000)) (Vd a b c d e f g true) (Vd a b c d e f g (decide (d > e))))))))))
set_option maxRecDepth 100000 in
set_option maxHeartbeats 4000000 in
theorem Nu (A6 : Option Addr) (c7 : Nat) (p : Int) (q : Int) (s : Int) (u : Int) (d9 : (List Vi)) (c : (List UInt8)) (f : (List UInt8)) (j : Int) (m : Int) (w0 : World) (hL : Do w0) (z : (dDS U1 B9).ok w0 (A6, c7, d9)) (r : (Bool)) (H : Xm p q s u (List.map stT d9) c f j m = some r) :
  Calls Tryz.prog 6 #[(.agg #[(.int .i64 p), (.int .i64 q), (.int .i64 s), (.int .i64 u), (.slice A6 (List.length (List.map stT d9)) c7)]), (.string ⟨List.toArray c⟩), (.string ⟨List.toArray f⟩), (.int .i64 j), (.int .i64 m)] w0 (fun e w' => e = .returned (.bool r) ∧ SP [] w0 w' []) := by
 unfold Xm at H
 refine Qu (n := 63) Tryz.func6 K K K ?_
 have d4 := Qz [] w0
 refine aQ ?_
 refine aR ?_
 refine iS 1 ?_
 refine Vz (t := 24) (x := (.tmp 0)) (v := (.agg #[(.int .i64 p), (.int .i64 q), (.int .i64 s), (.int .i64 u), (.slice A6 (List.length (List.map stT d9)) c7)])) (d := (some 5)) (k := 0) K rfl K d4 ?_
 intro b9 d5 c0
 refine iR 1 2 [(10, (.bool false))] ?_
 refine iF ?_
 refine aQ ?_
 refine aR ?_
 obtain ⟨h, d6, H⟩ := Qe H
 refine iS 1 ?_
 refine cF 15 #[] #[] 15 Tryz.call15 (G5   d5 (Zk hL (SP.keeps c0)) h d6) ?_
 rintro e c1 ⟨rfl, c2⟩
 refine ⟨_, rfl, ?_⟩
 have a0 := SP.call c0 c2
 clear c2
 refine iR 1 2 [(11, (.bool h))] ?_
 refine iF ?_
 refine aQ ?_
 refine aR ?_
 refine iS 1 ?_
 refine sL 24 5 b9 0 0 (.agg #[(.int .i64 p), (.int .i64 q), (.int .i64 s), (.int .i64 u), (.slice A6 (List.length (List.map stT d9)) c7)]) 16 a0 rfl ?_
 obtain ⟨d7, c3, H⟩ := Qe H
 rcases d7 with _ | a
 ·have H := optN H
  refine iS 2 ?_
  refine cF 18 #[(.tmp 16)] #[24] 17 Tryz.call18 (X0 A6 c7 p q s u d9 c1 (Zk hL (SP.keeps a0)) (Dp.sp z a0) none c3) ?_
  rintro e f1 ⟨rfl, c4⟩
  refine ⟨_, rfl, ?_⟩
  have d8 := SP.call a0 c4
  clear c4
  refine iR 1 3 [(12, (.pointer none))] ?_
  refine iF ?_
  refine aQ ?_
  refine aQ ?_
  refine aR ?_
  refine iR 19 19 [(18, (.pointer none)), (19, (.bool true)), (20, (.bool true)), (21, undef), (22, undef), (23, (.bool true)), (24, (.bool true)), (25, undef), (26, undef), (27, undef), (28, undef), (29, undef), (30, undef), (31, (.bool true)), (32, (.bool true)), (33, undef), (34, undef), (35, undef), (36, (.bool true))] ?_
  refine iF ?_
  refine Zj K (o := (.tmp 36)) K (b := true) K (fun c5 => ?_) (fun c5 => ?_)
  rotate_left
  ·cases c5
  refine aQ ?_
  refine aR ?_
  refine iR 2 2 [(37, (.bool h)), (10, (.bool h))] ?_
  refine iF ?_
  refine At.ret K ?_
  refine ⟨(.bool h), K, ?_⟩
  obtain rfl := Ql H
  exact ⟨rfl, SP.sel d8 [] rfl rfl⟩
 ·have H := optS H
  refine iS 2 ?_
  refine cF 18 #[(.tmp 16)] #[24] 17 Tryz.call18 (X0 A6 c7 p q s u d9 c1 (Zk hL (SP.keeps a0)) (Dp.sp z a0) (some a) c3) ?_
  rintro e w32 ⟨g, i, rfl, c6⟩
  refine ⟨_, rfl, ?_⟩
  have a9 := SP.call a0 c6
  clear c6
  refine iR 1 3 [(12, (pt g 0))] ?_
  refine iF ?_
  refine aQ ?_
  refine aQ ?_
  refine At.join (fun ρ w => ∃ (a2 : Bool), Zb ρ [(1, (.string ⟨List.toArray c⟩)), (2, (.string ⟨List.toArray f⟩)), (3, (.int .i64 j)), (4, (.int .i64 m)), (11, (.bool h)), (12, (pt g 0)), (36, (.bool a2))] ∧ SP [] w0 w [Q7 g 79 #[(.int .i64 a.1), (.int .i64 a.2.1), (.int .i64 a.2.2.1), (.int .i64 a.2.2.2.1), (.slice A6 (List.length (List.map stT d9)) c7), (.map (some i))], Zp i a.2.2.2.2] ∧ Vd (List.map stT d9) c f j m h a a2 = some r) ?_ ?_
  ·refine aR ?_
   refine iR 3 3 [(18, (pt g 0)), (19, (.bool false)), (20, (.bool false))] ?_
   refine iS 4 ?_
   refine sL 24 5 b9 0 0 (.agg #[(.int .i64 p), (.int .i64 q), (.int .i64 s), (.int .i64 u), (.slice A6 (List.length (List.map stT d9)) c7)]) 21 a9 rfl ?_
   obtain ⟨a7, e0, H⟩ := Qe H
   refine iS 5 ?_
   refine cF 16 #[(.tmp 21)] #[24] 22 Tryz.call16 (Gj A6 c7 p q s u d9 w32 (Dp.sp z a9) a7 e0) ?_
   rintro e f2 ⟨rfl, c8⟩
   refine ⟨_, rfl, ?_⟩
   have b0 := SP.call a9 c8
   clear c8
   refine iR 2 7 [(23, (.bool a7)), (24, (.bool a7))] ?_
   refine In.guard (t := 24) (b := a7) K (fun b1 => ?_) (fun b1 => ?_)
   ·have H := ct H b1
    refine iR 12 19 [(25, undef), (26, undef), (27, undef), (28, undef), (29, undef), (30, undef), (31, (.bool true)), (32, (.bool true)), (33, undef), (34, undef), (35, undef), (36, (.bool true))] ?_
    refine iF ?_
    exact ⟨true, ⟨K, K, K, K, K, K, K, trivial⟩, SP.sel b0 [1, 2] rfl rfl, H⟩
   ·have H := cf H b1
    refine iR 8 15 [(25, (.string ⟨List.toArray c⟩)), (26, (.int .i64 ((List.length c : Nat) : Int))), (27, (.string ⟨List.toArray f⟩)), (28, (.int .i64 ((List.length f : Nat) : Int))), (29, (.int .i64 (IntKind.wrap .i64 (((List.length c : Nat) : Int) + ((List.length f : Nat) : Int))))), (30, (.bool (decide ((IntKind.wrap .i64 (((List.length c : Nat) : Int) + ((List.length f : Nat) : Int))) > 2000)))), (31, (.bool (decide ((IntKind.wrap .i64 (((List.length c : Nat) : Int) + ((List.length f : Nat) : Int))) > 2000)))), (32, (.bool (decide ((IntKind.wrap .i64 (((List.length c : Nat) : Int) + ((List.length f : Nat) : Int))) > 2000))))] ?_
    refine In.guard (t := 32) (b := (decide ((IntKind.wrap .i64 (((List.length c : Nat) : Int) + ((List.length f : Nat) : Int))) > 2000))) K (fun b2 => ?_) (fun b2 => ?_)
    ·have H := ct H b2
     refine iR 4 19 [(33, undef), (34, undef), (35, undef), (36, (.bool true))] ?_
     refine iF ?_
     exact ⟨true, ⟨K, K, K, K, K, K, K, trivial⟩, SP.sel b0 [1, 2] rfl rfl, H⟩
    ·have H := cf H b2
     refine iR 4 19 [(33, (.int .i64 j)), (34, (.int .i64 m)), (35, (.bool (decide (j > m)))), (36, (.bool (decide (j > m))))] ?_
     refine iF ?_
     exact ⟨(decide (j > m)), ⟨K, K, K, K, K, K, K, trivial⟩, SP.sel b0 [1, 2] rfl rfl, H⟩
  ·rintro ρ e1 ⟨a2, hk, a8, H⟩
   unfold Vd at H
   first | refine At.known [(1, (.string ⟨List.toArray c⟩)), (2, (.string ⟨List.toArray f⟩)), (3, (.int .i64 j)), (4, (.int .i64 m)), (11, (.bool h)), (12, (pt g 0)), (36, (.bool a2))] hk ?_ | rw [← Vb (l := [(1, (.string ⟨List.toArray c⟩)), (2, (.string ⟨List.toArray f⟩)), (3, (.int .i64 j)), (4, (.int .i64 m)), (11, (.bool h)), (12, (pt g 0)), (36, (.bool a2))]) hk]
   refine Zj K (o := (.tmp 36)) K (b := a2) K (fun b3 => ?_) (fun b3 => ?_)
   ·have H := ct H b3
    refine aQ ?_
    refine aR ?_
    refine iR 2 2 [(37, (.bool h)), (10, (.bool h))] ?_
    refine iF ?_
    refine At.ret K ?_
    refine ⟨(.bool h), K, ?_⟩
    obtain rfl := Ql H
    exact ⟨rfl, SP.sel a8 [] rfl rfl⟩
   ·have H := cf H b3
    refine At.skip K ?_
    refine aQ ?_
    refine aR ?_
    refine iR 4 4 [(38, (pt g 0)), (39, (.string ⟨List.toArray c⟩)), (40, (.string ⟨List.toArray f⟩)), (41, (.int .i64 j))] ?_
    obtain ⟨a1, e2, H⟩ := Qe H
    refine iS 5 ?_
    refine cF 22 #[(.tmp 38), (.tmp 39), (.tmp 40), (.tmp 41)] #[29, 9, 9, 2] 42 Tryz.call22 (V9 g A6 c7 i a.1 a.2.1 a.2.2.1 a.2.2.2.1 d9 a.2.2.2.2 c f j e1 (Jt a8 [0, 1] rfl rfl) (fun w hm => Dp.mono _ (Gw a8 (l := [0, 1]) rfl hm) z) a1 e2) ?_
    rintro e c9 ⟨rfl, d0⟩
    refine ⟨_, rfl, ?_⟩
    have b4 : SP [] w0 c9 [Q7 g 79 #[(.int .i64 a.1), (.int .i64 a.2.1), (.int .i64 a.2.2.1), (.int .i64 a.2.2.2.1), (.slice A6 (List.length (List.map stT d9)) c7), (.map (some i))], Zp i a.2.2.2.2] := Z1 a8 [0, 1] [] rfl rfl d0 rfl
    clear d0
    refine iR 1 6 [(13, (.bool a1))] ?_
    refine iF ?_
    refine aQ ?_
    refine aR ?_
    refine iR 4 4 [(43, (pt g 0)), (44, (.string ⟨List.toArray c⟩)), (45, (.string ⟨List.toArray f⟩)), (46, (.int .i64 m))] ?_
    obtain ⟨a3, e3, H⟩ := Qe H
    refine iS 5 ?_
    refine cF 22 #[(.tmp 43), (.tmp 44), (.tmp 45), (.tmp 46)] #[29, 9, 9, 2] 47 Tryz.call22 (V9 g A6 c7 i a.1 a.2.1 a.2.2.1 a.2.2.2.1 d9 a.2.2.2.2 c f m c9 (Jt b4 [0, 1] rfl rfl) (fun w hm => Dp.mono _ (Gw b4 (l := [0, 1]) rfl hm) z) a3 e3) ?_
    rintro e b5 ⟨rfl, d1⟩
    refine ⟨_, rfl, ?_⟩
    have y : SP [] w0 b5 [Q7 g 79 #[(.int .i64 a.1), (.int .i64 a.2.1), (.int .i64 a.2.2.1), (.int .i64 a.2.2.2.1), (.slice A6 (List.length (List.map stT d9)) c7), (.map (some i))], Zp i a.2.2.2.2] := Z1 b4 [0, 1] [] rfl rfl d1 rfl
    clear d1
    refine iR 1 6 [(14, (.bool a3))] ?_
    refine iF ?_
    refine aQ ?_
    refine At.join (fun ρ w => ∃ (a4 : Bool), Zb ρ [(10, (.bool a4))] ∧ SP [] w0 w [] ∧ Vu a4 = some r) ?_ ?_
    ·refine aR ?_
     refine iR 2 2 [(48, (.bool h)), (49, (.bool h))] ?_
     refine In.guard (t := 49) (b := h) K (fun b6 => ?_) (fun b6 => ?_)
     ·have H := ct H b6
      refine iR 3 5 [(50, (.bool a3)), (51, (.bool (!a3))), (52, (.bool (!a3)))] ?_
      refine In.guard (t := 52) (b := (!a3)) K (fun b7 => ?_) (fun b7 => ?_)
      ·have H := ct H b7
       refine iR 7 12 [(53, undef), (54, (.bool true)), (55, (.bool true)), (56, (.bool true)), (57, (pt g 0)), (58, (.string ⟨List.toArray c⟩)), (59, (.string ⟨List.toArray f⟩))] ?_
       obtain ⟨a5, e4, H⟩ := Qe H
       refine iS 13 ?_
       refine cF 22 #[(.tmp 57), (.tmp 58), (.tmp 59), (.const (.int .i64 (4611686018427387904)))] #[29, 9, 9, 2] 60 Tryz.call22 (V9 g A6 c7 i a.1 a.2.1 a.2.2.1 a.2.2.2.1 d9 a.2.2.2.2 c f 4611686018427387904 b5 (Jt y [0, 1] rfl rfl) (fun w hm => Dp.mono _ (Gw y (l := [0, 1]) rfl hm) z) a5 e4) ?_
       rintro e e5 ⟨rfl, d2⟩
       refine ⟨_, rfl, ?_⟩
       have e6 : SP [] w0 e5 [Q7 g 79 #[(.int .i64 a.1), (.int .i64 a.2.1), (.int .i64 a.2.2.1), (.int .i64 a.2.2.2.1), (.slice A6 (List.length (List.map stT d9)) c7), (.map (some i))], Zp i a.2.2.2.2] := Z1 y [0, 1] [] rfl rfl d2 rfl
       clear d2
       refine iR 3 16 [(61, (.bool (!a5))), (62, (.bool (!a5))), (10, (.bool (!a5)))] ?_
       refine iF ?_
       exact ⟨(!a5), ⟨K, trivial⟩, SP.sel e6 [] rfl rfl, H⟩
      ·have H := cf H b7
       refine iR 4 9 [(53, (.bool a1)), (54, (.bool a1)), (55, (.bool a1)), (56, (.bool a1))] ?_
       refine In.guard (t := 56) (b := a1) K (fun b8 => ?_) (fun b8 => ?_)
       ·have H := ct H b8
        refine iR 3 12 [(57, (pt g 0)), (58, (.string ⟨List.toArray c⟩)), (59, (.string ⟨List.toArray f⟩))] ?_
        obtain ⟨a6, e7, H⟩ := Qe H
        refine iS 13 ?_
        refine cF 22 #[(.tmp 57), (.tmp 58), (.tmp 59), (.const (.int .i64 (4611686018427387904)))] #[29, 9, 9, 2] 60 Tryz.call22 (V9 g A6 c7 i a.1 a.2.1 a.2.2.1 a.2.2.2.1 d9 a.2.2.2.2 c f 4611686018427387904 b5 (Jt y [0, 1] rfl rfl) (fun w hm => Dp.mono _ (Gw y (l := [0, 1]) rfl hm) z) a6 e7) ?_
        rintro e e8 ⟨rfl, d3⟩
        refine ⟨_, rfl, ?_⟩
        have e9 : SP [] w0 e8 [Q7 g 79 #[(.int .i64 a.1), (.int .i64 a.2.1), (.int .i64 a.2.2.1), (.int .i64 a.2.2.2.1), (.slice A6 (List.length (List.map stT d9)) c7), (.map (some i))], Zp i a.2.2.2.2] := Z1 y [0, 1] [] rfl rfl d3 rfl
        clear d3
        refine iR 3 16 [(61, (.bool (!a6))), (62, (.bool (!a6))), (10, (.bool (!a6)))] ?_
        refine iF ?_
        exact ⟨(!a6), ⟨K, trivial⟩, SP.sel e9 [] rfl rfl, H⟩
       ·have H := cf H b8
        refine iR 7 16 [(57, undef), (58, undef), (59, undef), (60, undef), (61, undef), (62, (.bool false)), (10, (.bool false))] ?_
        refine iF ?_
        exact ⟨false, ⟨K, trivial⟩, SP.sel y [] rfl rfl, H⟩
     ·have H := cf H b6
      refine iR 14 16 [(50, undef), (51, undef), (52, undef), (53, undef), (54, undef), (55, (.bool false)), (56, (.bool false)), (57, undef), (58, undef), (59, undef), (60, undef), (61, undef), (62, (.bool false)), (10, (.bool false))] ?_
      refine iF ?_
      exact ⟨false, ⟨K, trivial⟩, SP.sel y [] rfl rfl, H⟩
    ·rintro ρ f3 ⟨a4, hk, f0, H⟩
     unfold Vu at H
     first | refine At.known [(10, (.bool a4))] hk ?_ | rw [← Vb (l := [(10, (.bool a4))]) hk]
     refine At.ret K ?_
     refine ⟨(.bool a4), K, ?_⟩
     obtain rfl := Ql H
     exact ⟨rfl, SP.sel f0 [] rfl rfl⟩
end Go.Proofs.YtmgfanhcdfobhaaGreatDoor
namespace Go.Proofs.YtmgfanhcdfobhaaGreatDoor
theorem Ha {l : List Qk} (hv : VC l) (w g i e : Int) (t k : Str) (a b : Int) (h : a ≤ b) : Vd l t k a b true (w, g, i, e, []) false = some true := by
  unfold Vd Vu
  rw [cond_false, pVGood hv, Option.bind_some, pVGood hv, Option.bind_some, cond_true, pVGood hv, Option.bind_some]
  have hc : Eu l [] t k 4611686018427387904 = false := by
    unfold Eu
    cases hx : (vtok l t k).2.2.2 with
    | false => rfl
    | true =>
      obtain ⟨_, _, h3, _⟩ := vtok_ok hv hx
      rw [decide_eq_false (by omega), Bool.and_false, Bool.and_false]
  rw [hc]
  have hab : Eu l [] t k b = true → Eu l [] t k a = true := by
    unfold Eu
    simp only [Bool.and_eq_true, decide_eq_true_eq]
    rintro ⟨h1, h2, h3⟩
    exact ⟨h1, h2, by omega⟩
  cases hb : Eu l [] t k b with
  | false => rfl
  | true => rw [hab hb]; rfl
theorem B4 (w g i0 e : Int) (l : List Qk) (t k : Str) (a b : Int) (hl : l.length ≤ 140737488355328) (hq : ∀ t ∈ l, TenQ t) : Xm w g i0 e l t k a b = some true := by
  unfold Xm
  obtain ⟨c, hc, hc'⟩ := cfg_great w g i0 e l hl hq
  rw [vaultHead, Option.bind_some, pVNew w g i0 e l hl hq, Option.bind_some]
  cases hk : C0 w g i0 e l with
  | false => rfl
  | true =>
    rw [cond_true]
    unfold optE
    simp only []
    rw [hc, Option.bind_some]
    have hup : Vd l t k a b true (w, g, i0, e, []) true = some true := by unfold Vd; rw [cond_true]
    cases c with
    | true => rw [cond_true]; exact hup
    | false =>
      obtain ⟨s1, s2⟩ := hc' rfl
      have hv := vc_of hk (by omega) hq s2
      rw [cond_false]
      generalize decide (_ > (2000 : Int)) = z
      cases z with
      | true => rw [cond_true]; exact hup
      | false =>
        rw [cond_false]
        by_cases h : a > b
        · rw [decide_eq_true h]; exact hup
        · rw [decide_eq_false h]; exact Ha hv w g i0 e t k a b (by omega)
end Go.Proofs.YtmgfanhcdfobhaaGreatDoor
namespace Go.Proofs.YtmgfanhcdfobhaaGreatDoor
open Go.RowKit Go.ChangeShapes Go.WideShapes Go.Deep
theorem own : ownKnob Tryz.prog.godebug = none := by kernel_rfl
theorem B5 : laidOutB Tryz.prog = true := by kernel_rfl
section
variable {H : Type} {enc : TypeId × Value → H} {W : World} {spare : Nat → Bool} {held : Bool} {base b0 : Nat} {r : Reach}
end
end Go.Proofs.YtmgfanhcdfobhaaGreatDoor
namespace Go.Proofs.YtmgfanhcdfobhaaGreatDoor
open Go.RowKit Go.ChangeShapes Go.WideShapes Go.Deep
section
variable {H : Type} {enc : TypeId × Value → H} {P : Program} {W : World}
def Rds (enc : TypeId × Value → H) (P : Program) (W : World) (t : TypeId) {α : Type} (e : Enc α) (Q : Nat → α → Prop) : Prop :=
  ∀ (Z6 : Nat) (cs : List Value) (x : DataW H × List MemPlace), DataW.trod enc P W 0 (fun _ => true) true Z6 t cs = some x → ∃ a, cs = e.enc a ∧ ∀ r, (x.1.weights P t).all (· ≤ r) = true → Q r a
def RdsFs (enc : TypeId × Value → H) (P : Program) (W : World) (o : Nat) (fs : List (TypeId × Nat)) {α : Type} (e : Enc α) (Q : Nat → α → Prop) : Prop :=
  ∀ (Z6 : Nat) (cs : List Value) (xs : List (DataW H × List MemPlace)), xs.length = fs.length → (∀ (i : Nat) f, fs[i]? = some f → DataW.trod enc P W 0 (fun _ => true) true Z6 f.1 ((cs.drop f.2).take (P.cellsOf f.1)) = xs[i]?) →
    ∃ a, (cs.drop o).take e.sz = e.enc a ∧ ∀ r, (DataW.weightsEach P (fs.map (·.1)) (xs.map (·.1))).all (· ≤ r) = true → Q r a
theorem G6 {t : TypeId} {k : IntKind} (ht : P.underlying t = some (.int k)) : Rds enc P W t (Qd k) (fun _ n => (Lit.int k n).wf = true) := by
  intro Z6 cs x h
  obtain ⟨n, rfl, rfl, hw⟩ := DataW.trod_int ht h
  exact ⟨n, rfl, fun _ _ => hw⟩
theorem Fk {t : TypeId} (ht : P.underlying t = some .string) : Rds enc P W t V5 (fun r s => s.length ≤ r) := by
  intro Z6 cs x h
  obtain ⟨s, rfl, rfl, hs⟩ := DataW.trod_string ht h
  refine ⟨s.data.toList, rfl, fun r hr => ?_⟩
  simpa [DataW.weights] using hr
theorem Fv {t : TypeId} {o : Nat} {α : Type} {e : Enc α} {Q : Nat → α → Prop} (h : Rds enc P W t e Q) (hc : P.cellsOf t = e.sz) : RdsFs enc P W o [(t, o)] e Q := by
  intro Z6 cs xs hl hf
  match xs, hl with
  | [x], _ =>
    have := hf 0 (t, o) rfl
    obtain ⟨a, ha, hq⟩ := h Z6 _ _ this
    rw [hc] at ha
    refine ⟨a, ha, fun r hr => hq r ?_⟩
    simpa [DataW.weightsEach] using hr
theorem N2 {t : TypeId} {o : Nat} {fs : List (TypeId × Nat)} {α β : Type} {e : Enc α} {e' : Enc β} {Q : Nat → α → Prop} {Q' : Nat → β → Prop} (h : Rds enc P W t e Q) (hc : P.cellsOf t = e.sz) (hr : RdsFs enc P W (o + e.sz) fs e' Q') :
    RdsFs enc P W o ((t, o) :: fs) (Q0 e e') (fun r a => Q r a.1 ∧ Q' r a.2) := by
  intro Z6 cs xs hl hf
  match xs, hl with
  | x :: xs, hl =>
    have := hf 0 (t, o) rfl
    obtain ⟨a, ha, hq⟩ := h Z6 _ _ this
    obtain ⟨b, hb, hq'⟩ := hr Z6 cs xs (by simpa using hl) (fun i f hi => by have := hf (i + 1) f (by simpa using hi); simpa using this)
    refine ⟨(a, b), ?_, fun r hw => ?_⟩
    · show (cs.drop o).take (e.sz + e'.sz) = e.enc a ++ e'.enc b
      rw [hc] at ha
      rw [← ha, ← hb, List.take_add, List.drop_drop]
    · simp only [List.map_cons, DataW.weightsEach, List.all_append, Bool.and_eq_true] at hw
      exact ⟨hq r hw.1, hq' r hw.2⟩
theorem R1 {t : TypeId} {l : List (TypeId × Nat)} {α : Type} {e : Enc α} {Q : Nat → α → Prop} (hl : (match P.underlying t with | some (.struct fs) => some (fs.toList.map (fun f => (f.type, f.offset))) | _ => none) = some l) (hc : P.cellsOf t = e.sz)
    (hr : RdsFs enc P W 0 l e Q) : Rds enc P W t e Q := by
  intro Z6 cs x hx
  split at hl
  · rename_i fs hs
    simp only [Option.some.injEq] at hl
    subst hl
    obtain ⟨xs, n, _, rfl, hlen, hxs, hg⟩ := DataW.trod_struct hs hx
    obtain ⟨a, ha, hq⟩ := hr n cs xs (by simpa using hxs) (fun i f hi => by
      rw [List.getElem?_map, Option.map_eq_some_iff] at hi
      obtain ⟨f', hf', rfl⟩ := hi
      exact hg i f' (by simpa using hf'))
    rw [List.drop_zero, List.take_of_length_le (by omega)] at ha
    refine ⟨a, ha, fun r hw => hq r ?_⟩
    simp only [DataW.weights, hs] at hw
    simpa [List.map_map, Function.comp_def] using hw
  · cases hl
theorem R6 {t : TypeId} {n : Nat} : ∀ {ds : List (DataW H)} {d : DataW H}, d ∈ ds → n ∈ d.weights P t → n ∈ DataW.weightsAll P t ds
  | d0 :: ds, d, hd, hn => by
    simp only [DataW.weightsAll, List.mem_append]
    rcases List.mem_cons.1 hd with rfl | h
    · exact .inl hn
    · exact .inr (R6 h hn)
theorem rds_row {t te : TypeId} {α : Type} {e : Enc α} {Q : Nat → α → Prop} (ht : P.underlying t = some (.slice te)) (h : Rds enc P W te e Q) (hc : P.cellsOf te = e.sz) (h0 : 0 < e.sz) {Z6 : Nat} {cs : List Value} {x : DataW H × List MemPlace}
    (hx : DataW.trod enc P W 0 (fun _ => true) true Z6 t cs = some x) :
    ∃ (A : Option Addr) (c : Nat) (l : List α), cs = [.slice A l.length c] ∧ RdT e W A c l ∧ ∀ r, (x.1.weights P t).all (· ≤ r) = true → l.length * P.bytesOf te ≤ r ∧ ∀ a ∈ l, Q r a := by
  rcases DataW.trod_slice ht hx with ⟨rfl, rfl⟩ | ⟨a, len, cap, elems, rest, n, _, rfl, rfl, _, hl, hm, hlen, hel, _, _⟩
  · exact ⟨none, 0, [], rfl, RdT.nil _ W, fun r _ => ⟨by simp, fun a ha => by cases ha⟩⟩
  · have each : ∀ i, i ≤ len → ∃ l : List α, l.length = i ∧ ∀ j (hj : j < l.length), W.cells? 0 (a.add (j * P.cellsOf te)) (P.cellsOf te) = some (e.enc l[j]) ∧ ∀ y, elems[j]? = some y → ∀ r, (y.1.weights P te).all (· ≤ r) = true → Q r l[j] := by
      intro i
      induction i with
      | zero => exact fun _ => ⟨[], rfl, fun j hj => by simp at hj⟩
      | succ i ih =>
        intro hi
        obtain ⟨l, hll, hlg⟩ := ih (by omega)
        have := hel i (by omega)
        rw [List.getElem?_eq_getElem (by omega), Option.bind_eq_some_iff] at this
        obtain ⟨cs', h1, h2⟩ := this
        obtain ⟨b, rfl, hb⟩ := h n cs' _ h2
        refine ⟨l ++ [b], by simp [hll], fun j hj => ?_⟩
        by_cases hji : j < l.length
        · rw [List.getElem_append_left hji]
          exact hlg j hji
        · obtain rfl : j = i := by simp at hj; omega
          subst hll
          rw [List.getElem_concat_length rfl]
          refine ⟨h1, fun y hy => ?_⟩
          rw [List.getElem?_eq_getElem (by omega), Option.some.injEq] at hy
          subst hy
          exact hb
    obtain ⟨l, hll, hlg⟩ := each len (Nat.le_refl _)
    subst hll
    refine ⟨some a, cap, l, rfl, ⟨by rw [Vf], hl, hm, fun hn => ?_⟩, fun r hw => ?_⟩
    · have cell : ∀ j (hj : j < l.length) k, k < e.sz → W.cell? ((a.add (j * e.sz)).add k) = (e.enc l[j])[k]? := by
        intro j hj k hk
        have := (hlg j hj).1
        rw [hc] at this
        exact (World.cells?_some this).2.2 k hk
      have c0 := cell 0 hn 0 h0
      rw [Nat.zero_mul, List.getElem?_eq_getElem (by rw [e.len]; exact h0)] at c0
      obtain ⟨b, off, spot⟩ := a
      obtain rfl : spot = none := by simpa [Addr.add] using World.cell?_spot c0
      have hadd : ∀ i j : Nat, ((⟨b, off, none⟩ : Addr).add i).add j = ⟨b, off + (i + j), none⟩ := by
        intro i j
        unfold Addr.add
        by_cases hi : i = 0 <;> by_cases hj : j = 0 <;> simp [hi, hj, Nat.add_assoc]
      rw [hadd] at c0
      refine ⟨b, off, rfl, block_lt_of_cell c0, fun j u hu => ?_⟩
      have hlen2 := (List.getElem?_eq_some_iff.1 hu).1
      rw [Vf] at hlen2
      have hq : j / e.sz < l.length := Nat.div_lt_of_lt_mul (by rw [Nat.mul_comm]; exact hlen2)
      have hk : j % e.sz < e.sz := Nat.mod_lt _ h0
      have hj : j = j / e.sz * e.sz + j % e.sz := by rw [Nat.mul_comm]; exact (Nat.div_add_mod j e.sz).symm
      have hce := cell (j / e.sz) hq (j % e.sz) hk
      rw [hadd, ← hj] at hce
      rw [hce]
      have hgt := Gr e (l := l) (i := j / e.sz) (x := l[j / e.sz]) (List.getElem?_eq_getElem hq) (j := j % e.sz) (u := (e.enc l[j / e.sz])[j % e.sz]'(by rw [e.len]; exact hk)) (List.getElem?_eq_getElem _)
      rw [← hj, hu] at hgt
      rw [List.getElem?_eq_getElem (by rw [e.len]; exact hk), ← hgt]
    · simp only [DataW.weights, ht, List.all_cons, Bool.and_eq_true, decide_eq_true_eq, List.all_append] at hw
      refine ⟨Nat.le_trans (Nat.mul_le_mul_right _ (by simp; omega)) hw.1, fun b hb => ?_⟩
      obtain ⟨j, hj, rfl⟩ := List.mem_iff_getElem.1 hb
      refine (hlg j hj).2 _ (List.getElem?_eq_getElem (by omega)) r ?_
      rw [List.all_eq_true] at hw ⊢
      intro m hm'
      exact hw.2.1 m (R6 (List.mem_map.2 ⟨_, List.getElem_mem (by omega), rfl⟩) hm')
variable {r0 : Reach} {b0 : Nat}
theorem open_agg {t : TypeId} {fs : Array Field} {α : Type} {e : Enc α} {Q : Nat → α → Prop} (hs : P.underlying t = some (.struct fs)) (h : Rds enc P W t e Q) {v : Value} {d : DataW H} {p : List MemPlace} (hv : Value.okWide P W r0 b0 t v)
    (hd : DataW.Trod enc P W 0 (fun _ => true) true t v d p) (hr : ∀ n ∈ d.weights P t, n ≤ reachBytes) : ∃ a, v = .agg ⟨e.enc a⟩ ∧ Q reachBytes a := by
  obtain ⟨cs, rfl, hsz⟩ := okWide_struct hs hv
  obtain ⟨Z6, hf⟩ := hd
  obtain ⟨a, ha, hq⟩ := h Z6 _ _ hf
  refine ⟨a, ?_, hq _ (by rw [List.all_eq_true]; intro n hn; exact decide_eq_true (hr n hn))⟩
  simp only [Value.cells] at ha
  rw [← ha]
end
end Go.Proofs.YtmgfanhcdfobhaaGreatDoor
namespace Go.Proofs.YtmgfanhcdfobhaaGreatDoor
theorem reachM : reachBytes ≤ 140737488355328 := by decide
section
variable {H : Type} {enc : TypeId × Value → H} {P : Program} {W : World}
theorem rds_ds {t te : TypeId} {α : Type} {e : Enc α} {Q : Nat → α → Prop} (p : Dp α) (ht : P.underlying t = some (.slice te)) (h : Rds enc P W te e Q) (hc : P.cellsOf te = e.sz) (h0 : 0 < e.sz) (hb : Nat.ble 1 (P.bytesOf te) = true) (hp : ∀ r a, Q r a → p.ok W a) :
    Rds enc P W t (eDS e) (fun r x => (dDS e p).ok W x ∧ x.2.2.length ≤ r ∧ ∀ a ∈ x.2.2, Q r a) := by
  intro Z6 cs x hx
  obtain ⟨A, c, l, rfl, hr, hq⟩ := rds_row ht h hc h0 hx
  refine ⟨(A, c, l), rfl, fun r hw => ?_⟩
  obtain ⟨h1, h2⟩ := hq r hw
  exact ⟨⟨hr, fun y hy => hp r y (h2 y hy)⟩, Nat.le_trans (Nat.le_mul_of_pos_right _ (Nat.le_of_ble_eq_true hb)) h1, h2⟩
def NetQ (r : Nat) (n : Int × Int) : Prop := (Lit.int .u32 n.1).wf = true ∧ (Lit.int .i64 n.2).wf = true
def TokQ (r : Nat) (x : List UInt8 × List UInt8 × Int) : Prop := x.1.length ≤ r ∧ x.2.1.length ≤ r ∧ (Lit.int .i64 x.2.2).wf = true
def TenDQ (W : World) (r : Nat) (y : Vi) : Prop := y.1.length ≤ r ∧ (Lit.int .i64 y.2.1).wf = true ∧ (Lit.int .i64 y.2.2.1).wf = true ∧
  ((dDS eNet dT).ok W y.2.2.2.1 ∧ y.2.2.2.1.2.2.length ≤ r ∧ ∀ n ∈ y.2.2.2.1.2.2, NetQ r n) ∧ ((dDS eTok dT).ok W y.2.2.2.2 ∧ y.2.2.2.2.2.2.length ≤ r ∧ ∀ x ∈ y.2.2.2.2.2.2, TokQ r x)
def CfgQ (W : World) (r : Nat) (c : Int × Int × Int × Int × DS Vi) : Prop := (Lit.int .i64 c.1).wf = true ∧ (Lit.int .i64 c.2.1).wf = true ∧ (Lit.int .i64 c.2.2.1).wf = true ∧ (Lit.int .i64 c.2.2.2.1).wf = true ∧
  ((dDS U1 B9).ok W c.2.2.2.2 ∧ c.2.2.2.2.2.2.length ≤ r ∧ ∀ y ∈ c.2.2.2.2.2.2, TenDQ W r y)
set_option maxRecDepth 100000 in
theorem net_rds : Rds enc Tryz.prog W 113 eNet NetQ :=
  R1 (l := [(111, 0), (3, 1)]) (by kernel_rfl) (by kernel_rfl) (N2 (G6 Tryz.underlying111) (by kernel_rfl) (Fv (G6 Tryz.underlying3) (by kernel_rfl)))
set_option maxRecDepth 100000 in
theorem tok_rds : Rds enc Tryz.prog W 48 eTok TokQ :=
  R1 (l := [(9, 0), (9, 1), (2, 2)]) (by kernel_rfl) (by kernel_rfl) (N2 (Fk Tryz.underlying9) (by kernel_rfl) (N2 (Fk Tryz.underlying9) (by kernel_rfl) (Fv (G6 Tryz.underlying2) (by kernel_rfl))))
set_option maxRecDepth 100000 in
theorem ten_rds : Rds enc Tryz.prog W 44 U1 (TenDQ W) :=
  R1 (l := [(9, 0), (3, 1), (3, 2), (41, 3), (42, 4)]) (by kernel_rfl) (by kernel_rfl)
    (N2 (Fk Tryz.underlying9) (by kernel_rfl) (N2 (G6 Tryz.underlying3) (by kernel_rfl) (N2 (G6 Tryz.underlying3) (by kernel_rfl)
      (N2 (rds_ds dT Tryz.underlying41 net_rds (by kernel_rfl) (by decide) (by kernel_rfl) (fun _ _ _ => trivial)) (by kernel_rfl) (Fv (rds_ds dT Tryz.underlying42 tok_rds (by kernel_rfl) (by decide) (by kernel_rfl) (fun _ _ _ => trivial)) (by kernel_rfl))))))
set_option maxRecDepth 100000 in
theorem cfg_rds : Rds enc Tryz.prog W 24 (Q0 (Qd .i64) (Q0 (Qd .i64) (Q0 (Qd .i64) (Q0 (Qd .i64) (eDS U1))))) (CfgQ W) :=
  R1 (l := [(2, 0), (2, 1), (2, 2), (2, 3), (22, 4)]) (by kernel_rfl) (by kernel_rfl)
    (N2 (G6 Tryz.underlying2) (by kernel_rfl) (N2 (G6 Tryz.underlying2) (by kernel_rfl) (N2 (G6 Tryz.underlying2) (by kernel_rfl) (N2 (G6 Tryz.underlying2) (by kernel_rfl)
      (Fv (rds_ds B9 Tryz.underlying22 ten_rds (by kernel_rfl) (by decide) (by kernel_rfl) (fun _ _ h => ⟨trivial, trivial, trivial, h.2.2.2.1.1, h.2.2.2.2.1⟩)) (by kernel_rfl))))))
set_option maxRecDepth 100000 in
theorem open_cfg {r0 : Reach} {b0 : Nat} {v : Value} {d : DataW H} {p : List MemPlace} (hv : Value.okWide Tryz.prog W r0 b0 24 v) (hd : DataW.Trod enc Tryz.prog W 0 (fun _ => true) true 24 v d p) (hr : ∀ n ∈ d.weights Tryz.prog 24, n ≤ reachBytes) :
    ∃ (a b c e : Int) (A : Option Addr) (k : Nat) (l : List Vi), v = .agg #[.int .i64 a, .int .i64 b, .int .i64 c, .int .i64 e, .slice A (List.length (List.map stT l)) k] ∧ CfgQ W reachBytes (a, b, c, e, A, k, l) := by
  obtain ⟨⟨a, b, c, e, A, k, l⟩, rfl, q⟩ := open_agg Tryz.underlying24 cfg_rds hv hd hr
  refine ⟨a, b, c, e, A, k, l, ?_, q⟩
  rw [List.length_map]
  rfl
theorem cfg_q {W : World} {a b c d : Int} {A : Option Addr} {k : Nat} {x : List Vi} (h : CfgQ W reachBytes (a, b, c, d, A, k, x)) : (List.map stT x).length ≤ 140737488355328 ∧ ∀ t ∈ List.map stT x, TenQ t := by
  have hM := reachM
  obtain ⟨_, _, _, _, _, h1, h2⟩ := h
  refine ⟨by rw [List.length_map]; exact Nat.le_trans h1 hM, fun t ht => ?_⟩
  obtain ⟨y, hy, rfl⟩ := List.mem_map.1 ht
  obtain ⟨q1, q2, q3, ⟨_, q4, q5⟩, _, q6, q7⟩ := h2 y hy
  refine ⟨Nat.le_trans q1 hM, Nat.le_trans q4 hM, Nat.le_trans q6 hM, fun n hn => ?_, fun z hz => ⟨Nat.le_trans (q7 z hz).1 hM, Nat.le_trans (q7 z hz).2.1 hM⟩⟩
  have := (q5 n hn).1
  simp [Lit.wf, IntKind.min, IntKind.max, IntKind.signed, IntKind.bits] at this
  omega
end
end Go.Proofs.YtmgfanhcdfobhaaGreatDoor
namespace Go.Proofs.YtmgfanhcdfobhaaGreatDoor
open Go.RowKit
abbrev Fw : List (String × DataW Unit) := [("math/bits.deBruijn32tab", Rows.laid_math_bits_deBruijn32tab), ("math/bits.deBruijn64tab", Rows.laid_math_bits_deBruijn64tab), ("internal/strconv.uint64pow10", Rows.laid_internal_strconv_uint64pow10)
  , ("unicode/utf8.acceptRanges", Rows.laid_unicode_utf8_acceptRanges), ("unicode/utf8.first", Rows.laid_unicode_utf8_first)
  ]
theorem gTab : Tryz.prog.globalNamed Rp = some 0 := by kernel_rfl
theorem gTabType : (Tryz.prog.globals[0]?).map (·.type) = some 183 := by kernel_rfl
theorem cellsTab : Tryz.prog.cellsOf 183 = 20 := by kernel_rfl
theorem cellsU64 : Tryz.prog.cellsOf 153 = 1 := by kernel_rfl
theorem laid_of {W : World} (h : laidMetH Tryz.prog Fw W) : Do W := by
  have h1 := h.filter (fun x => x.1 == Rp)
  have e : Fw.filter (fun x => x.1 == Rp) = [(Rp, Lib.tabData .u64 Lib.pow10Tab)] := by kernel_rfl
  rw [e] at h1
  have ht : Lib.TabIs Tryz.prog W Rp .u64 Lib.pow10Tab := Lib.tabIs_of_head (rest := []) gTab gTabType Tryz.underlying183 Tryz.underlying153 cellsU64 cellsTab h1
  refine ⟨ht, fun g hg => ?_⟩
  obtain rfl := Option.some.inj (gTab.symm.trans hg)
  have := ht.cell gTab 0 (by decide)
  exact block_lt_of_cell this
def cells1 : DataW Unit → List Value
  | .lit (.int k z) => [.int k z]
  | .lit (.bool b) => [.bool b]
  | _ => []
def cells2 : DataW Unit → List Value
  | .agg l => l.flatMap cells1
  | d => cells1 d
def cells3 : DataW Unit → List Value
  | .agg l => l.flatMap cells2
  | d => cells2 d
def Dw (d : DataW Unit) : Obj → Obj
  | .cells _ t frozen => .cells (cells3 d).toArray t frozen
  | o => o
noncomputable def B6 (os : Os) : World :=
  { World.holding Tryz.prog os ⟨#[], #[], []⟩ with heap := ((((World.holding Tryz.prog os ⟨#[], #[], []⟩).heap.modify 4 (Dw Rows.laid_math_bits_deBruijn32tab)).modify 5 (Dw Rows.laid_math_bits_deBruijn64tab)).modify 0 (Dw Rows.laid_internal_strconv_uint64pow10)
    |>.modify 2 (Dw Rows.laid_unicode_utf8_acceptRanges) |>.modify 1 (Dw Rows.laid_unicode_utf8_first)
    ) }
end Go.Proofs.YtmgfanhcdfobhaaGreatDoor
namespace Go.Proofs.YtmgfanhcdfobhaaGreatDoor
open Go.ChangeShapes Go.WideShapes Go.ChangeAt Go.RowKit
open Go.ChangeMaps (open_string shut_string)
set_option maxRecDepth 100000 in
theorem Dx (H : Type) (enc : TypeId × Value → H) (W : World) (base : Nat) (args : Array Value) (ds gs : List (DataW H)) (before : List MemPlace) (vt : List TypeId)
    (hval : ∀ (j : Nat) t v, Tryz.f6.params[j]? = some t → args[j]? = some v → Value.okWide Tryz.prog W .any base t v)
    (hW : DataW.Whole enc Tryz.prog Tryz.f6.params.toList Rows.vaultTimeSpec.vars false W args.toList ds gs before) (hL : laidMetH Tryz.prog Rows.vaultTimeRow.laid W)
    (hZ : (DataW.weightsEach Tryz.prog (Tryz.f6.params.toList ++ vt) (ds ++ gs)).all (· ≤ reachBytes) = true) :
    Calls Tryz.prog 6 args W fun e W' => ∃ v, e = .returned v ∧ Rows.vaultTimeSpec.post enc Tryz.prog Tryz.f6 false true false false W args v W' := by
  have hW' := hW
  obtain ⟨p, q, hA0, hV, rfl, hfz, hnd⟩ := hW
  have hA : DataW.TrodAll enc Tryz.prog W 0 (fun _ => true) true Tryz.f6.params.toList args.toList ds p := hA0
  rw [Tryz.params6] at hA hval hZ
  obtain ⟨v0, vs0, d0, ds0, p0, q0, hargs, rfl, rfl, h0, r0⟩ := trodAll_cons hA
  obtain ⟨v1, vs1, d1, ds1, p1, q1, rfl, rfl, rfl, h1, r1⟩ := trodAll_cons r0
  obtain ⟨v2, vs2, d2, ds2, p2, q2, rfl, rfl, rfl, h2, r2⟩ := trodAll_cons r1
  obtain ⟨v3, vs3, d3, ds3, p3, q3, rfl, rfl, rfl, h3, r3⟩ := trodAll_cons r2
  obtain ⟨v4, vs4, d4, ds4, p4, q4, rfl, rfl, rfl, h4, r4⟩ := trodAll_cons r3
  obtain ⟨rfl, rfl, rfl⟩ := trodAll_nil r4
  obtain rfl : args = #[v0, v1, v2, v3, v4] := by cases args; simp_all
  obtain ⟨rfl, rfl⟩ := trodVars_none hV
  have wz : ∀ (j : Nat) t d, _ → _ → ∀ n ∈ DataW.weights Tryz.prog t d, n ≤ reachBytes := fun j t d ht hd n hn => of_decide_eq_true (List.all_eq_true.1 hZ n (DataW.weights_mem_each (j := j) ht hd n hn))
  have k0 := h0
  have lt0 : ∀ x ∈ p0, x.block < W.heap.size := by obtain ⟨m, hm⟩ := k0; exact DataW.trod_lt m _ _ _ hm
  have k1 := h1
  have lt1 : ∀ x ∈ p1, x.block < W.heap.size := by obtain ⟨m, hm⟩ := k1; exact DataW.trod_lt m _ _ _ hm
  have k2 := h2
  have lt2 : ∀ x ∈ p2, x.block < W.heap.size := by obtain ⟨m, hm⟩ := k2; exact DataW.trod_lt m _ _ _ hm
  have k3 := h3
  have lt3 : ∀ x ∈ p3, x.block < W.heap.size := by obtain ⟨m, hm⟩ := k3; exact DataW.trod_lt m _ _ _ hm
  have k4 := h4
  have lt4 : ∀ x ∈ p4, x.block < W.heap.size := by obtain ⟨m, hm⟩ := k4; exact DataW.trod_lt m _ _ _ hm
  obtain ⟨a0_0, a0_1, a0_2, a0_3, A0_, c0_, l0_, rfl, q0_⟩ := open_cfg (hval 0 24 v0 rfl rfl) h0 (wz 0 24 d0 rfl rfl)
  obtain ⟨s1_, rfl, ed1_, _, hs1_⟩ := open_string Tryz.underlying9 (hval 1 9 v1 rfl rfl) h1
  have hn1_ : s1_.data.toList.length ≤ reachBytes := (wz 1 9 d1 rfl rfl) _ (by rw [ed1_]; simp [DataW.weights])
  obtain ⟨s2_, rfl, ed2_, _, hs2_⟩ := open_string Tryz.underlying9 (hval 2 9 v2 rfl rfl) h2
  have hn2_ : s2_.data.toList.length ≤ reachBytes := (wz 2 9 d2 rfl rfl) _ (by rw [ed2_]; simp [DataW.weights])
  obtain ⟨i3_, rfl, _, _, w3_⟩ := open_int Tryz.underlying2 (hval 3 2 v3 rfl rfl) h3
  have x3_ := w3_
  simp [Lit.wf, IntKind.min, IntKind.max, IntKind.signed, IntKind.bits] at x3_
  obtain ⟨i4_, rfl, _, _, w4_⟩ := open_int Tryz.underlying2 (hval 4 2 v4 rfl rfl) h4
  have x4_ := w4_
  simp [Lit.wf, IntKind.min, IntKind.max, IntKind.signed, IntKind.bits] at x4_
  clear hA0
  refine (Nu A0_ c0_ a0_0 a0_1 a0_2 a0_3 l0_ s1_.data.toList s2_.data.toList i3_ i4_ W (laid_of hL) q0_.2.2.2.2.1 true (B4 _ _ _ _ _ _ _ _ _ (cfg_q q0_).1 (cfg_q q0_).2)).mono fun e W' ⟨he, bel0⟩ => ?_
  have bel := SP.keeps bel0
  subst he
  exact ⟨_, rfl, _, _, _, [], _, [], hW', trodAll_mk1 (shut_bool Tryz.underlying4 _), (trodAll_cons_mk (Below.trod B5 (by kernel_rfl) (of_decide_eq_true (by kernel_rfl)) k0 bel lt0) (trodAll_cons_mk (Below.trod B5 (by kernel_rfl) (of_decide_eq_true (by kernel_rfl)) k1 bel lt1) (trodAll_cons_mk (Below.trod B5 (by kernel_rfl) (of_decide_eq_true (by kernel_rfl)) k2 bel lt2) (trodAll_cons_mk (Below.trod B5 (by kernel_rfl) (of_decide_eq_true (by kernel_rfl)) k3 bel lt3) (trodAll_cons_mk (Below.trod B5 (by kernel_rfl) (of_decide_eq_true (by kernel_rfl)) k4 bel lt4) trodAll_mk0))))), rfl, bel.frame _, fun h => by cases h⟩
theorem Dy (os : Os) : laidMet Tryz.prog Rows.vaultTimeRow.laid ((B6 os).forCall (fun _ _ => 0) ⟨#[], #[.agg #[.int .i64 0, .int .i64 0, .int .i64 0, .int .i64 0, .slice none 0 0], .string ⟨#[]⟩, .string ⟨#[]⟩, .int .i64 0, .int .i64 0], []⟩).memory :=
  laidMet_of_run' 8 (by kernel_rfl) (by kernel_rfl)
theorem B7 (os : Os) {H : Type} (enc : TypeId × Value → H) : ∃ places, DataW.whole enc Tryz.prog ((B6 os).forCall (fun _ _ => 0) ⟨#[], #[.agg #[.int .i64 0, .int .i64 0, .int .i64 0, .int .i64 0, .slice none 0 0], .string ⟨#[]⟩, .string ⟨#[]⟩, .int .i64 0, .int .i64 0], []⟩).memory Tryz.f6.params.toList Rows.vaultTimeSpec.vars false [.agg #[.int .i64 0, .int .i64 0, .int .i64 0, .int .i64 0, .slice none 0 0], .string ⟨#[]⟩, .string ⟨#[]⟩, .int .i64 0, .int .i64 0] 8 = some ([.agg [.lit (.int .i64 0), .lit (.int .i64 0), .lit (.int .i64 0), .lit (.int .i64 0), .nil], .lit (.string []), .lit (.string []), .lit (.int .i64 0), .lit (.int .i64 0)], [], places) :=
  ⟨[], by kernel_rfl⟩
set_option maxRecDepth 100000 in
theorem Bj (os : Os) (started : os.Started) (H : Type) (enc : TypeId × Value → H) (F : Stop.Interp) :
    ReturnsInHanded {} Tryz.checked os 6 .any ((OpenSpec.ofChange Rows.vaultTimeSpec).preRow enc Tryz.prog Tryz.f6 Rows.vaultTimeRow.domain false Rows.vaultTimeRow.laid) (((OpenSpec.ofChange Rows.vaultTimeSpec).at F).post enc Tryz.prog Tryz.f6 false true false false) := by
  obtain ⟨places, hx⟩ := B7 os enc
  refine returnsInHanded_of_row (C := Tryz.checked) (s := OpenSpec.ofChange Rows.vaultTimeSpec) own started (by kernel_rfl) Tryz.func6
    (witness_row_at (enc := enc) (C := Tryz.checked) false (B6 os) #[.agg #[.int .i64 0, .int .i64 0, .int .i64 0, .int .i64 0, .slice none 0 0], .string ⟨#[]⟩, .string ⟨#[]⟩, .int .i64 0, .int .i64 0] rfl (by kernel_rfl) (by kernel_rfl) (by kernel_rfl)
      (OpenSpec.preRow_of_cond 8 hx (by kernel_rfl) (fun k hk => by cases hk) (by kernel_rfl) (Dy os))) ?_
  intro W base args ds gs before hval hW _ _ hZ hL _ _
  exact Dx H enc W base args ds gs before _ hval hW hL hZ
theorem Cc : Rows.VaultTimeSaid :=
  OpenClaim.holds_of_cond 6 Tryz.f6 rfl rfl rfl rfl rfl rfl rfl ⟨rfl, rfl, rfl, rfl, rfl⟩ rfl rfl rfl rfl rfl (by kernel_rfl) Tryz.func6 (by kernel_rfl)
    (of_decide_eq_true (by kernel_rfl)) (by unfold Func.isWrapper; first | (rw [if_pos (by decide +kernel)]; kernel_rfl) | (rw [if_neg (by decide +kernel)]; exact ⟨rfl, rfl⟩))
    (fun os started H enc _ F => by rw [OpenClaim.pre_eq_preRow]; exact Bj os started H enc F)
theorem Dh (f : FuncId) (fn : Func) (hf : Tryz.pinned.checked.prog.funcNamed Rows.vaultTimeRow.func = some f) (hfn : Tryz.pinned.checked.prog.funcs[f]? = some fn) :
    false = Tryz.pinned.checked.prog.looks [] ∧ ∀ (j : Nat) t, fn.params[j]? = some t → Tryz.pinned.checked.prog.wantsStandIn t = false := by
  obtain rfl : f = 6 := Option.some.inj ((show Tryz.prog.funcNamed Rows.vaultTimeRow.func = some 6 by kernel_rfl).symm.trans hf) |>.symm
  obtain rfl : fn = Tryz.f6 := (Option.some.inj (Tryz.func6.symm.trans hfn)).symm
  refine ⟨by kernel_rfl, fun j t ht => ?_⟩
  have ha : (Tryz.f6.params.toList.all fun t => !Tryz.prog.wantsStandIn t) = true := by kernel_rfl
  rw [List.all_eq_true] at ha
  have := ha t (by rw [← Array.getElem?_toList] at ht; exact List.mem_of_getElem? ht)
  have h2 : Tryz.prog.wantsStandIn t = false := by simpa using this
  exact h2
theorem vaultTime_card : Rows.VaultTimeCardSaid :=
  Claim7.holds_tied_plain_at .later [] _ _ _ _ Cc (fun _ h => by cases h) (by kernel_rfl) (fun _ h => by cases h) vaultTime_row_tie rfl ⟨rfl, rfl⟩ (by kernel_rfl) rfl Dh (by kernel_rfl)
#print axioms vaultTime_card
end Go.Proofs.YtmgfanhcdfobhaaGreatDoor
