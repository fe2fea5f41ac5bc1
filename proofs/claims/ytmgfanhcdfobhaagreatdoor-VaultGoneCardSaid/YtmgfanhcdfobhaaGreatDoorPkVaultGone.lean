import Derived.Test.YtmgfanhcdfobhaaGreatDoorPkVaultGone4
set_option linter.unusedSimpArgs false
set_option linter.unusedVariables false
set_option linter.unusedSectionVars false
namespace Go.Proofs.YtmgfanhcdfobhaaGreatDoor
open Go.RowKit
def X5 (a : Int) (b : Int) (c : Int) (d : Int) (e : (List Qk)) : Option (Option (Int × Int × Int × Int × Yp)) :=
  ((Uk a b c d e).bind fun f => (cond (!f) (some none) (some (some (a, b, c, d, ([] : Yp))))))
set_option maxRecDepth 100000 in
set_option maxHeartbeats 4000000 in
theorem Zt (A6 : Option Addr) (c7 : Nat) (a : Int) (c : Int) (f : Int) (g : Int) (d9 : (List Vl)) (w0 : World) (hL : D0 w0) (y : (dDS Nd Cn).ok w0 (A6, c7, d9)) (r : (Option (Int × Int × Int × Int × Yp))) (H : X5 a c f g (List.map stT d9) = some r) :
  Calls Tryz.prog 18 #[(.agg #[(.int .i64 a), (.int .i64 c), (.int .i64 f), (.int .i64 g), (.slice A6 (List.length (List.map stT d9)) c7)])] w0 (fun e w' => match r with | none => e = .returned (.pointer none) ∧ SP [] w0 w' [] | some o => ∃ (q : Nat) (s : Nat), e = .returned (pt q 0) ∧ SP [] w0 w' [Qx q 79 #[(.int .i64 o.1), (.int .i64 o.2.1), (.int .i64 o.2.2.1), (.int .i64 o.2.2.2.1), (.slice A6 (List.length (List.map stT d9)) c7), (.map (some s))], Vf s o.2.2.2.2]) := by
 unfold X5 at H
 refine Qv (n := 10) Tryz.func18 K K K ?_
 have z := Q0 [] w0
 refine aQ ?_
 refine aR ?_
 refine iS 1 ?_
 refine V8 (t := 24) (x := (.tmp 0)) (v := (.agg #[(.int .i64 a), (.int .i64 c), (.int .i64 f), (.int .i64 g), (.slice A6 (List.length (List.map stT d9)) c7)])) (d := (some 1)) (k := 0) K rfl K z ?_
 intro u w32 h
 refine iR 1 2 [(2, (.pointer none))] ?_
 refine iF ?_
 refine aQ ?_
 refine aQ ?_
 refine aR ?_
 refine iS 1 ?_
 refine sL 24 1 u 0 0 (.agg #[(.int .i64 a), (.int .i64 c), (.int .i64 f), (.int .i64 g), (.slice A6 (List.length (List.map stT d9)) c7)]) 3 h rfl ?_
 obtain ⟨i, a0, H⟩ := Qe H
 refine iS 2 ?_
 refine cF 43 #[(.tmp 3)] #[24] 4 Tryz.call43 (Dn A6 c7 a c f g d9 w32 (Zg hL (SP.keeps h)) (Dp.sp y h) i a0) ?_
 rintro e a3 ⟨rfl, w⟩
 refine ⟨_, rfl, ?_⟩
 have j := SP.call h w
 clear w
 refine iR 1 3 [(5, (.bool (!i)))] ?_
 refine iF ?_
 refine Zq K (o := (.tmp 5)) K (b := (!i)) K (fun l => ?_) (fun l => ?_)
 ·have H := ct H l
  refine aQ ?_
  refine aR ?_
  refine iR 1 1 [(2, (.pointer none))] ?_
  refine iF ?_
  refine At.ret K ?_
  refine ⟨(.pointer none), K, ?_⟩
  obtain rfl := Qm H
  exact ⟨rfl, SP.sel j [] rfl rfl⟩
 ·have H := cf H l
  refine At.skip K ?_
  refine aQ ?_
  refine aR ?_
  refine iS 1 ?_
  refine sL 24 1 u 0 0 (.agg #[(.int .i64 a), (.int .i64 c), (.int .i64 f), (.int .i64 g), (.slice A6 (List.length (List.map stT d9)) c7)]) 6 j rfl ?_
  refine iS 2 ?_
  refine F1 (T := 77) (dst := (some 7)) (o := 1) K rfl j ?_
  intro m a4 a1
  refine iR 1 3 [(8, (.agg #[(.int .i64 a), (.int .i64 c), (.int .i64 f), (.int .i64 g), (.slice A6 (List.length (List.map stT d9)) c7), (.map (some m))]))] ?_
  refine iS 4 ?_
  refine V8 (t := 79) (x := (.tmp 8)) (v := (.agg #[(.int .i64 a), (.int .i64 c), (.int .i64 f), (.int .i64 g), (.slice A6 (List.length (List.map stT d9)) c7), (.map (some m))])) (d := (some 9)) (k := 3) K rfl K a1 ?_
  intro p a5 a2
  refine iR 1 5 [(2, (pt p 0))] ?_
  refine iF ?_
  refine At.ret K ?_
  refine ⟨(pt p 0), K, ?_⟩
  obtain rfl := Qm H
  exact ⟨p, m, rfl, SP.sel a2 [2,1] rfl rfl⟩
def Ya (f : (List UInt8)) (g : (List UInt8)) (h : Int) (q5 : (List UInt8)) (q7 : (List UInt8)) (q9 : Int) (c : Int) (d : Int) (e : Int) (i : (List Qk)) (a : Yp) (j : Bool) : Option (Int × Int × Int × Int × Yp × Bool) :=
  ((chk (Nat.ble (List.length q5) 140737488355328 && Nat.ble (List.length q7) 140737488355328)).bind fun _ => ((chk (Nat.ble (List.length q5) 140737488355328 && Nat.ble (List.length q7) 140737488355328)).bind fun _ => ((some (Hb a (q5, q7) (IntKind.wrap .i64 ((J8 a (q5, q7)) + 1)))).bind fun b => ((chk (Nat.ble (List.length q5) 140737488355328 && Nat.ble (List.length q7) 140737488355328)).bind fun _ => (some (q9, c, d, e, b, ((J8 b (q5, q7)) == 1)))))))
set_option maxRecDepth 100000 in
set_option maxHeartbeats 4000000 in
theorem Gc {S : List Nat} (g4 : Nat) (g6 : Nat) (g8 : Nat) (u : Option Addr) (a0 : Nat) (a : Nat) (f : Nat) (j : Nat) (a1 : (List UInt8)) (a2 : (List UInt8)) (a3 : Int) (q5 : (List UInt8)) (q7 : (List UInt8)) (q9 : Int) (a4 : Int) (a5 : Int) (a6 : Int) (q : (List Vl)) (c : Yp) (a8 : Bool) (w0 : World) (hO : SP S w0 w0 [Qx g4 9 #[(.string ⟨List.toArray q5⟩)], Qx g6 9 #[(.string ⟨List.toArray q7⟩)], Qx g8 79 #[(.int .i64 q9), (.int .i64 a4), (.int .i64 a5), (.int .i64 a6), (.slice u (List.length (List.map stT q)) a0), (.map (some a))], Vf a c, Qx f 29 #[(pt g8 0)], Qx j 4 #[(.bool a8)]]) (e4 : ∀ w, Mod S w0 w → (dDS Nd Cn).ok w (u, a0, q)) (r : (Int × Int × Int × Int × Yp × Bool)) (H : Ya a1 a2 a3 q5 q7 q9 a4 a5 a6 (List.map stT q) c a8 = some r) :
  Calls Tryz.prog 46 #[(.agg #[(.string ⟨List.toArray a1⟩), (.string ⟨List.toArray a2⟩), (.int .i64 a3)]), (pt g4 0), (pt g6 0), (pt f 0), (pt j 0)] w0 (fun e w' => e = .returned (.tuple #[]) ∧ SP S w0 w' [Qx g4 9 #[(.string ⟨List.toArray q5⟩)], Qx g6 9 #[(.string ⟨List.toArray q7⟩)], Qx g8 79 #[(.int .i64 r.1), (.int .i64 r.2.1), (.int .i64 r.2.2.1), (.int .i64 r.2.2.2.1), (.slice u (List.length (List.map stT q)) a0), (.map (some a))], Vf a r.2.2.2.2.1, Qx f 29 #[(pt g8 0)], Qx j 4 #[(.bool r.2.2.2.2.2)]]) := by
 unfold Ya at H
 refine Qv (n := 26) Tryz.func46 K K K ?_
 have c0 := hO
 refine aQ ?_
 refine aR ?_
 refine iS 1 ?_
 refine V8 (t := 48) (x := (.tmp 0)) (v := (.agg #[(.string ⟨List.toArray a1⟩), (.string ⟨List.toArray a2⟩), (.int .i64 a3)])) (d := (some 5)) (k := 0) K rfl K c0 ?_
 intro b0 e5 b3
 refine iF ?_
 refine aQ ?_
 refine aR ?_
 refine iS 1 ?_
 refine sL 9 1 g4 0 0 (.string ⟨List.toArray q5⟩) 7 b3 rfl ?_
 refine iS 2 ?_
 refine sL 9 2 g6 0 1 (.string ⟨List.toArray q7⟩) 8 b3 rfl ?_
 refine iR 1 3 [(9, (.agg (Qb Q4 ([q5, q7] : List (List UInt8))).toArray))] ?_
 refine iS 4 ?_
 refine Qy (e := Q4) (l := (List.replicate 2 ([] : List UInt8))) (m := 2) (t := 83) (z := .agg (Qb Q4 (List.replicate 2 ([] : List UInt8))).toArray) (d := (some 6)) (k := 3) K rfl K rfl rfl K b3 ?_
 intro p e6 c1
 refine iS 5 ?_
 refine Q7 (e := Q4) (l := (List.replicate 2 ([] : List UInt8))) (l' := ([q5, q7] : List (List UInt8))) (m := 2) (t := 83) (x := (.tmp 6)) (y := (.tmp 9)) (g := p) (i := 7) (d := none) (k := 4) K rfl K K rfl c1 rfl K ?_
 intro e7 c2
 refine iF ?_
 refine aQ ?_
 obtain ⟨b1, H⟩ := Vr H
 obtain ⟨b2, H⟩ := Vr H
 obtain ⟨s, hyl137, H⟩ := Vx H
 refine aG [GEq (pt g8 0), GEq (pt g8 0), GEq (pt g8 5), GEq (.map (some a)), GEq (.agg (Qb Q4 ([q5, q7] : List (List UInt8))).toArray), GEq (.int .i64 (J8 c (q5, q7))), GEq (.int .i64 (IntKind.wrap .i64 ((J8 c (q5, q7)) + 1))), Bc, Bc, Bc] [7, 8, 9] [([], fun vs w => VL vs [] ∧ SP S w0 w [Qx g4 9 #[(.string ⟨List.toArray q5⟩)], Qx g6 9 #[(.string ⟨List.toArray q7⟩)], Qx g8 79 #[(.int .i64 q9), (.int .i64 a4), (.int .i64 a5), (.int .i64 a6), (.slice u (List.length (List.map stT q)) a0), (.map (some a))], Vf a c, Qx f 29 #[(pt g8 0)], Qx j 4 #[(.bool a8)], Qx b0 48 #[(.string ⟨List.toArray a1⟩), (.string ⟨List.toArray a2⟩), (.int .i64 a3)], Vb 83 Q4 p 2 ([q5, q7] : List (List UInt8))]), ([7], fun vs w => ∃ (a9 : Nat), VL vs [(.tuple #[(.int .i64 (J8 c (q5, q7))), (.int .i64 ((a9 : Nat) : Int))])] ∧ SP S w0 w [Qx g4 9 #[(.string ⟨List.toArray q5⟩)], Qx g6 9 #[(.string ⟨List.toArray q7⟩)], Qx g8 79 #[(.int .i64 q9), (.int .i64 a4), (.int .i64 a5), (.int .i64 a6), (.slice u (List.length (List.map stT q)) a0), (.map (some a))], Fx a c (q5, q7) a9, Qx f 29 #[(pt g8 0)], Qx j 4 #[(.bool a8)], Qx b0 48 #[(.string ⟨List.toArray a1⟩), (.string ⟨List.toArray a2⟩), (.int .i64 a3)], Vb 83 Q4 p 2 ([q5, q7] : List (List UInt8))]), ([7, 8], fun vs w => ∃ (a7 : Nat), VL vs [(.tuple #[(.int .i64 (J8 c (q5, q7))), (.int .i64 ((a7 : Nat) : Int))]), (.int .i64 ((a7 : Nat) : Int))] ∧ SP S w0 w [Qx g4 9 #[(.string ⟨List.toArray q5⟩)], Qx g6 9 #[(.string ⟨List.toArray q7⟩)], Qx g8 79 #[(.int .i64 q9), (.int .i64 a4), (.int .i64 a5), (.int .i64 a6), (.slice u (List.length (List.map stT q)) a0), (.map (some a))], Fx a c (q5, q7) a7, Qx f 29 #[(pt g8 0)], Qx j 4 #[(.bool a8)], Qx b0 48 #[(.string ⟨List.toArray a1⟩), (.string ⟨List.toArray a2⟩), (.int .i64 a3)], Vb 83 Q4 p 2 ([q5, q7] : List (List UInt8))]), ([7, 8, 9], fun vs w => ∃ (b4 : Nat), VL vs [(.tuple #[(.int .i64 (J8 c (q5, q7))), (.int .i64 ((b4 : Nat) : Int))]), (.int .i64 ((b4 : Nat) : Int)), undef] ∧ SP S w0 w [Qx g4 9 #[(.string ⟨List.toArray q5⟩)], Qx g6 9 #[(.string ⟨List.toArray q7⟩)], Qx g8 79 #[(.int .i64 q9), (.int .i64 a4), (.int .i64 a5), (.int .i64 a6), (.slice u (List.length (List.map stT q)) a0), (.map (some a))], Vf a s, Qx f 29 #[(pt g8 0)], Qx j 4 #[(.bool a8)], Qx b0 48 #[(.string ⟨List.toArray a1⟩), (.string ⟨List.toArray a2⟩), (.int .i64 a3)], Vb 83 Q4 p 2 ([q5, q7] : List (List UInt8))])] 10 3 ⟨trivial, SP.drew c2⟩ ?_ ?_
 iterate 10 refine And.intro ?_ ?_
 exact trivial
 ·refine oL 0 ?_
  ·rintro ρ' w' hs hah ⟨e8, c3⟩
   refine kM (kc (kS hs 3 (pt f 0)) k0) fun hkn => ?_
   refine sL 29 3 f 0 4 (pt g8 0) 10 c3 rfl ?_
   exact eK hkn
 ·exact oV (hC (hA 0 10) (h0)) (pt g8 0)
 ·exact oV (hC (hA 1 11) (h0)) (pt g8 5)
 ·refine oL 0 ?_
  ·rintro ρ' w' hs hah ⟨e9, c4⟩
   refine kM (kc (kA hah 2 12) k0) fun hkn => ?_
   refine sL 77 12 g8 5 2 (.map (some a)) 13 c4 rfl ?_
   exact eK hkn
 ·refine oL 0 ?_
  ·rintro ρ' w' hs hah ⟨f0, c5⟩
   refine kM (kc (kS hs 6 (pt p 0)) k0) fun hkn => ?_
   refine V4 (e := Q4) (l := ([q5, q7] : List (List UInt8))) (m := 2) (t := 83) (x := (.tmp 6)) (g := p) (i := 7) (d := (some 14)) (k := 4) K rfl K c5 rfl K K ?_
   exact eK hkn
 ·refine Owe.light K [0, 1, 2] K (Qc ?_ (Qc ?_ (Qc ?_ Q2)))
  ·rintro ρ' w' hs hah ⟨f1, c6⟩
   refine kM (kc (kA hah 3 13) (kc (kA hah 4 14) k0)) fun hkn => ?_
   refine Db (T := 77) (kt := 83) (et := 3) (m := a) (L := c) (k := (q5, q7)) (x := (.tmp 13)) (ix := (.tmp 14)) (dst := (some 15)) (o := 5) K rfl K K K Rg (fun _ => rfl) (SP.get c6 (i := 3) rfl) (Fd b1).1 (Fd b1).2 ?_
   exact eK hkn
  ·rintro ρ' w' hs hah ⟨a9, ⟨f2, -⟩, c7⟩
   refine kM (kc (kA hah 3 13) (kc (kA hah 4 14) k0)) fun hkn => ?_
   refine Cf (T := 77) (kt := 83) (et := 3) (m := a) (L := c) (k := (q5, q7)) (x := (.tmp 13)) (ix := (.tmp 14)) (dst := (some 15)) (o := 5) K rfl K K K Rg (fun _ => rfl) (SP.get c7 (i := 3) rfl) (Fd b1).1 (Fd b1).2 ?_
   exact eK hkn
  ·rintro ρ' w' hs hah ⟨a7, ⟨f3, f4, -⟩, c8⟩
   refine kM (kc (kA hah 3 13) (kc (kA hah 4 14) k0)) fun hkn => ?_
   refine Cf (T := 77) (kt := 83) (et := 3) (m := a) (L := c) (k := (q5, q7)) (x := (.tmp 13)) (ix := (.tmp 14)) (dst := (some 15)) (o := 5) K rfl K K K Rg (fun _ => rfl) (SP.get c8 (i := 3) rfl) (Fd b1).1 (Fd b1).2 ?_
   exact eK hkn
 ·exact oV (hC (hA 5 15) (h0)) (.int .i64 (IntKind.wrap .i64 ((J8 c (q5, q7)) + 1)))
 ·refine oH 0 1 ?_
  ·rintro ρ' w' hs hah ⟨f5, c9⟩
   refine kM (kc (kA hah 3 13) (kc (kA hah 4 14) k0)) fun hkn => ?_
   refine Fa (T := 77) (kt := 83) (et := 3) (m := a) (L := c) (k := (q5, q7)) (x := (.tmp 13)) (ix := (.tmp 14)) (dst := (some 17)) (o := 7) (i := 3) K rfl K K K Rg (fun _ => rfl) c9 rfl (Fd b2).1 (Fd b2).2 ?_
   intro d0 f6 d1
   refine ⟨_, Qa hkn, trivial, ?_⟩
   exact (Exists.intro d0 (And.intro (And.intro rfl (trivial)) (d1)))
 ·refine oH 1 2 ?_
  ·rintro ρ' w' hs hah ⟨a9, ⟨b5, -⟩, d2⟩
   refine kN [(17, (.tuple #[(.int .i64 (J8 c (q5, q7))), (.int .i64 ((a9 : Nat) : Int))]))] ⟨(Xj (h := 7) K).symm.trans b5, trivial⟩ fun hkn => ?_
   refine Qi.run (k := 8) (v := (.int .i64 ((a9 : Nat) : Int))) K ?_
   refine ⟨_, Qa hkn, trivial, ?_⟩
   exact (Exists.intro a9 (And.intro (And.intro b5 (And.intro rfl (trivial))) (d2)))
 ·refine oH 2 3 ?_
  ·rintro ρ' w' hs hah ⟨a7, ⟨d3, b6, -⟩, d4⟩
   refine kN [(13, (.map (some a))), (18, (.int .i64 ((a7 : Nat) : Int))), (16, (.int .i64 (IntKind.wrap .i64 ((J8 c (q5, q7)) + 1))))] ⟨hah 3 13 K, (Xj (h := 8) K).symm.trans b6, hah 6 16 K, trivial⟩ fun hkn => ?_
   refine Fb (T := 77) (m := a) (L := c) (k := (q5, q7)) (x := (.tmp 13)) (ix := (.tmp 18)) (y := (.tmp 16)) (i := 3) (b := a7) (v := (IntKind.wrap .i64 ((J8 c (q5, q7)) + 1))) (dst := none) (o := 9) K rfl K K K d4 rfl (Fd b2).1 (Fd b2).2 ?_
   rw [hyl137]
   intro f7 d5
   refine ⟨_, Qa hkn, trivial, ?_⟩
   exact (Exists.intro a7 (And.intro (And.intro d3 (And.intro b6 (And.intro rfl (trivial)))) (d5)))
 ·rintro ρ' w' hs hf ⟨b4, ⟨f8, f9, g0, -⟩, b7⟩
  refine Vd [(3, (pt f 0)), (4, (pt j 0)), (6, (pt p 0))] ⟨(hs 3 K).trans K, (hs 4 K).trans K, (hs 6 K).trans K, trivial⟩ ?_
  obtain ⟨g1, d6⟩ : ∃ x, w' = x := ⟨_, rfl⟩
  rw [d6] at b7 ⊢
  obtain ⟨b8, H⟩ := Vr H
  refine aG [GEq (pt g8 0), GEq (pt g8 0), GEq (pt g8 5), GEq (.map (some a)), GEq (.agg (Qb Q4 ([q5, q7] : List (List UInt8))).toArray), GEq (.int .i64 (J8 s (q5, q7))), GEq (.bool ((J8 s (q5, q7)) == 1)), Bc] [7] [sG [] [] S w0 [Qx g4 9 #[(.string ⟨List.toArray q5⟩)], Qx g6 9 #[(.string ⟨List.toArray q7⟩)], Qx g8 79 #[(.int .i64 q9), (.int .i64 a4), (.int .i64 a5), (.int .i64 a6), (.slice u (List.length (List.map stT q)) a0), (.map (some a))], Vf a s, Qx f 29 #[(pt g8 0)], Qx j 4 #[(.bool a8)], Qx b0 48 #[(.string ⟨List.toArray a1⟩), (.string ⟨List.toArray a2⟩), (.int .i64 a3)], Vb 83 Q4 p 2 ([q5, q7] : List (List UInt8))], sG [7] [undef] S w0 [Qx g4 9 #[(.string ⟨List.toArray q5⟩)], Qx g6 9 #[(.string ⟨List.toArray q7⟩)], Qx g8 79 #[(.int .i64 q9), (.int .i64 a4), (.int .i64 a5), (.int .i64 a6), (.slice u (List.length (List.map stT q)) a0), (.map (some a))], Vf a s, Qx f 29 #[(pt g8 0)], Qx j 4 #[(.bool ((J8 s (q5, q7)) == 1))], Qx b0 48 #[(.string ⟨List.toArray a1⟩), (.string ⟨List.toArray a2⟩), (.int .i64 a3)], Vb 83 Q4 p 2 ([q5, q7] : List (List UInt8))]] 8 1 ⟨trivial, SP.drew b7⟩ ?_ ?_
  iterate 8 refine And.intro ?_ ?_
  exact trivial
  ·refine oL 0 ?_
   ·rintro ρ' w' hs hah ⟨g2, d7⟩
    refine kM (kc (kS hs 3 (pt f 0)) k0) fun hkn => ?_
    refine sL 29 3 f 0 4 (pt g8 0) 19 d7 rfl ?_
    exact eK hkn
  ·exact oV (hC (hA 0 19) (h0)) (pt g8 0)
  ·exact oV (hC (hA 1 20) (h0)) (pt g8 5)
  ·refine oL 0 ?_
   ·rintro ρ' w' hs hah ⟨g3, d8⟩
    refine kM (kc (kA hah 2 21) k0) fun hkn => ?_
    refine sL 77 21 g8 5 2 (.map (some a)) 22 d8 rfl ?_
    exact eK hkn
  ·refine oL 0 ?_
   ·rintro ρ' w' hs hah ⟨g5, d9⟩
    refine kM (kc (kS hs 6 (pt p 0)) k0) fun hkn => ?_
    refine V4 (e := Q4) (l := ([q5, q7] : List (List UInt8))) (m := 2) (t := 83) (x := (.tmp 6)) (g := p) (i := 7) (d := (some 23)) (k := 4) K rfl K d9 rfl K K ?_
    exact eK hkn
  ·refine oL 0 ?_
   ·rintro ρ' w' hs hah ⟨g7, e0⟩
    refine kM (kc (kA hah 3 22) (kc (kA hah 4 23) k0)) fun hkn => ?_
    refine Db (T := 77) (kt := 83) (et := 3) (m := a) (L := s) (k := (q5, q7)) (x := (.tmp 22)) (ix := (.tmp 23)) (dst := (some 24)) (o := 5) K rfl K K K Rg (fun _ => rfl) (SP.get e0 (i := 3) rfl) (Fd b8).1 (Fd b8).2 ?_
    exact eK hkn
  ·exact oV (hC (hA 5 24) (h0)) (.bool ((J8 s (q5, q7)) == 1))
  ·refine oH 0 1 ?_
   ·rintro ρ' w' hs hah ⟨g9, e1⟩
    refine kM (kc (kS hs 4 (pt j 0)) (kc (kA hah 6 25) k0)) fun hkn => ?_
    refine Qi.store (t := 4) (x := (.tmp 4)) (y := (.tmp 25)) (g := j) (off := 0) (i := 5) (v := (.bool ((J8 s (q5, q7)) == 1))) (cs' := #[(.bool ((J8 s (q5, q7)) == 1))]) (d := none) (k := 7) K rfl K K e1 rfl K ?_
    intro h1 e2
    refine ⟨_, Qa hkn, trivial, ?_⟩
    exact (And.intro (And.intro rfl (trivial)) (e2))
  ·rintro ρ' w' hs hf ⟨⟨h2, -⟩, b9⟩
   refine Vd [] trivial ?_
   obtain ⟨h3, e3⟩ : ∃ x, w' = x := ⟨_, rfl⟩
   rw [e3] at b9 ⊢
   refine ⟨(.tuple #[]), K, ?_⟩
   obtain rfl := Qm H
   exact ⟨rfl, SP.sel b9 [0,1,2,3,4,5] rfl rfl⟩
def Z9 (a : Bool) : Option (Bool) :=
  (some (a))
def Yv (f : (List UInt8)) (g : (List UInt8)) (c : Int) (q5 : Int) (q6 : Int) (q7 : Int) (q8 : Int) (q9 : (List Qk)) (d : Yp) (a : (List UInt8)) (b : (List UInt8)) (e : Int) (h : Bool) : Option (Bool) :=
  ((chk (Nat.ble (List.length a) 140737488355328 && Nat.ble (List.length b) 140737488355328)).bind fun _ => (cond ((J8 d (a, b)) == 0) (Z9 (decide (e < c))) (Z9 false)))
set_option maxRecDepth 100000 in
set_option maxHeartbeats 4000000 in
theorem Gp {S : List Nat} (g4 : Nat) (a3 : Option Addr) (a4 : Nat) (f : Nat) (q : Nat) (s : Nat) (u : Nat) (a0 : Nat) (z : Nat) (a5 : (List UInt8)) (a6 : (List UInt8)) (j : Int) (q5 : Int) (q6 : Int) (q7 : Int) (q8 : Int) (a1 : (List Vl)) (c : Yp) (a : (List UInt8)) (b : (List UInt8)) (h : Int) (a7 : Bool) (w0 : World) (hO : SP S w0 w0 [Qx g4 79 #[(.int .i64 q5), (.int .i64 q6), (.int .i64 q7), (.int .i64 q8), (.slice a3 (List.length (List.map stT a1)) a4), (.map (some f))], Vf f c, Qx q 29 #[(pt g4 0)], Qx s 9 #[(.string ⟨List.toArray a⟩)], Qx u 9 #[(.string ⟨List.toArray b⟩)], Qx a0 2 #[(.int .i64 h)], Qx z 4 #[(.bool a7)]]) (d5 : ∀ w, Mod S w0 w → (dDS Nd Cn).ok w (a3, a4, a1)) (r : (Bool)) (H : Yv a5 a6 j q5 q6 q7 q8 (List.map stT a1) c a b h a7 = some r) :
  Calls Tryz.prog 49 #[(.agg #[(.string ⟨List.toArray a5⟩), (.string ⟨List.toArray a6⟩), (.int .i64 j)]), (pt q 0), (pt s 0), (pt u 0), (pt a0 0), (pt z 0)] w0 (fun e w' => e = .returned (.tuple #[]) ∧ SP S w0 w' [Qx g4 79 #[(.int .i64 q5), (.int .i64 q6), (.int .i64 q7), (.int .i64 q8), (.slice a3 (List.length (List.map stT a1)) a4), (.map (some f))], Vf f c, Qx q 29 #[(pt g4 0)], Qx s 9 #[(.string ⟨List.toArray a⟩)], Qx u 9 #[(.string ⟨List.toArray b⟩)], Qx a0 2 #[(.int .i64 h)], Qx z 4 #[(.bool r)]]) := by
 unfold Yv at H
 refine Qv (n := 22) Tryz.func49 K K K ?_
 have b4 := hO
 refine aQ ?_
 refine aR ?_
 refine iS 1 ?_
 refine V8 (t := 48) (x := (.tmp 0)) (v := (.agg #[(.string ⟨List.toArray a5⟩), (.string ⟨List.toArray a6⟩), (.int .i64 j)])) (d := (some 6)) (k := 0) K rfl K b4 ?_
 intro a2 d6 b1
 refine iF ?_
 refine At.join (fun ρ w => ∃ (a9 : Bool), Zf ρ [] ∧ SP S w0 w [Qx g4 79 #[(.int .i64 q5), (.int .i64 q6), (.int .i64 q7), (.int .i64 q8), (.slice a3 (List.length (List.map stT a1)) a4), (.map (some f))], Vf f c, Qx q 29 #[(pt g4 0)], Qx s 9 #[(.string ⟨List.toArray a⟩)], Qx u 9 #[(.string ⟨List.toArray b⟩)], Qx a0 2 #[(.int .i64 h)], Qx z 4 #[(.bool a9)]] ∧ Z9 a9 = some r) ?_ ?_
 ·obtain ⟨a8, H⟩ := Vr H
  rcases Bool.eq_false_or_eq_true ((J8 c (a, b)) == 0) with p | p
  ·have H := ct H p
   refine aG [GEq (pt g4 0), GEq (pt g4 0), GEq (pt g4 5), GEq (.map (some f)), GEq (.string ⟨List.toArray a⟩), GEq (.string ⟨List.toArray b⟩), GEq (.agg (Qb Q4 ([a, b] : List (List UInt8))).toArray), GEq (.int .i64 (J8 c (a, b))), GEq (.bool ((J8 c (a, b)) == 0)), GEq (.bool ((J8 c (a, b)) == 0)), GEq (.int .i64 h), GEq (pt a2 2), GEq (.int .i64 j), GEq (.bool (decide (h < j))), GEq (.bool (decide (h < j))), Bc] [15] [sG [] [] S w0 [Qx g4 79 #[(.int .i64 q5), (.int .i64 q6), (.int .i64 q7), (.int .i64 q8), (.slice a3 (List.length (List.map stT a1)) a4), (.map (some f))], Vf f c, Qx q 29 #[(pt g4 0)], Qx s 9 #[(.string ⟨List.toArray a⟩)], Qx u 9 #[(.string ⟨List.toArray b⟩)], Qx a0 2 #[(.int .i64 h)], Qx z 4 #[(.bool a7)], Qx a2 48 #[(.string ⟨List.toArray a5⟩), (.string ⟨List.toArray a6⟩), (.int .i64 j)]], sG [15] [undef] S w0 [Qx g4 79 #[(.int .i64 q5), (.int .i64 q6), (.int .i64 q7), (.int .i64 q8), (.slice a3 (List.length (List.map stT a1)) a4), (.map (some f))], Vf f c, Qx q 29 #[(pt g4 0)], Qx s 9 #[(.string ⟨List.toArray a⟩)], Qx u 9 #[(.string ⟨List.toArray b⟩)], Qx a0 2 #[(.int .i64 h)], Qx z 4 #[(.bool (decide (h < j)))], Qx a2 48 #[(.string ⟨List.toArray a5⟩), (.string ⟨List.toArray a6⟩), (.int .i64 j)]]] 16 1 ⟨trivial, SP.drew b1⟩ ?_ ?_
   iterate 16 refine And.intro ?_ ?_
   exact trivial
   ·refine oL 0 ?_
    ·rintro ρ' w' hs hah ⟨d7, b5⟩
     refine kM (kc (kS hs 1 (pt q 0)) k0) fun hkn => ?_
     refine sL 29 1 q 0 2 (pt g4 0) 7 b5 rfl ?_
     exact eK hkn
   ·exact oV (hC (hA 0 7) (h0)) (pt g4 0)
   ·exact oV (hC (hA 1 8) (h0)) (pt g4 5)
   ·refine oL 0 ?_
    ·rintro ρ' w' hs hah ⟨d8, b6⟩
     refine kM (kc (kA hah 2 9) k0) fun hkn => ?_
     refine sL 77 9 g4 5 0 (.map (some f)) 10 b6 rfl ?_
     exact eK hkn
   ·refine oL 0 ?_
    ·rintro ρ' w' hs hah ⟨d9, b7⟩
     refine kM (kc (kS hs 2 (pt s 0)) k0) fun hkn => ?_
     refine sL 9 2 s 0 3 (.string ⟨List.toArray a⟩) 11 b7 rfl ?_
     exact eK hkn
   ·refine oL 0 ?_
    ·rintro ρ' w' hs hah ⟨e0, b8⟩
     refine kM (kc (kS hs 3 (pt u 0)) k0) fun hkn => ?_
     refine sL 9 3 u 0 4 (.string ⟨List.toArray b⟩) 12 b8 rfl ?_
     exact eK hkn
   ·exact oV (hC (hA 4 11) (hC (hA 5 12) (h0))) (.agg (Qb Q4 ([a, b] : List (List UInt8))).toArray)
   ·refine oL 0 ?_
    ·rintro ρ' w' hs hah ⟨e1, b9⟩
     refine kM (kc (kA hah 3 10) (kc (kA hah 6 13) k0)) fun hkn => ?_
     refine Db (T := 77) (kt := 83) (et := 3) (m := f) (L := c) (k := (a, b)) (x := (.tmp 10)) (ix := (.tmp 13)) (dst := (some 14)) (o := 7) K rfl K K K Rg (fun _ => rfl) (SP.get b9 (i := 1) rfl) (Fd a8).1 (Fd a8).2 ?_
     exact eK hkn
   ·exact oV (hC (hA 7 14) (h0)) (.bool ((J8 c (a, b)) == 0))
   ·exact oV (hC (hA 8 15) (h0)) (.bool ((J8 c (a, b)) == 0))
   ·refine oL 0 ?_
    ·rintro ρ' w' hs hah ⟨e2, c0⟩
     have e4 : ρ' 4 = (pt a0 0) := (hs 4 K).trans K
     have b0 := hah 9 16 K
     refine kN [(4, (pt a0 0)), (16, (.bool true))] ⟨e4, (Eq.trans b0 (congrArg Value.bool p)), trivial⟩ fun hkn => ?_
     refine sL 2 4 a0 0 5 (.int .i64 h) 17 c0 rfl ?_
     exact eK hkn
   ·exact oV (hC (hS 6 (pt a2 0)) (hC (hB 9 16 p) (h0))) (pt a2 2)
   ·refine oL 0 ?_
    ·rintro ρ' w' hs hah ⟨e3, c1⟩
     have c2 := hah 11 18 K
     have b0 := hah 9 16 K
     refine kN [(18, (pt a2 2)), (16, (.bool true))] ⟨c2, (Eq.trans b0 (congrArg Value.bool p)), trivial⟩ fun hkn => ?_
     refine sL 2 18 a2 2 7 (.int .i64 j) 19 c1 rfl ?_
     exact eK hkn
   ·exact oV (hC (hA 10 17) (hC (hA 12 19) (hC (hB 9 16 p) (h0)))) (.bool (decide (h < j)))
   ·exact oV (hC (hB 9 16 p) (hC (hA 13 20) (h0))) (.bool (decide (h < j)))
   ·refine oH 0 1 ?_
    ·rintro ρ' w' hs hah ⟨e5, c3⟩
     refine kM (kc (kS hs 5 (pt z 0)) (kc (kA hah 14 21) k0)) fun hkn => ?_
     refine Qi.store (t := 4) (x := (.tmp 5)) (y := (.tmp 21)) (g := z) (off := 0) (i := 6) (v := (.bool (decide (h < j)))) (cs' := #[(.bool (decide (h < j)))]) (d := none) (k := 15) K rfl K K c3 rfl K ?_
     intro e6 c4
     refine ⟨_, Qa hkn, trivial, ?_⟩
     exact (And.intro (And.intro rfl (trivial)) (c4))
   ·rintro ρ' w' hs hf ⟨⟨e7, -⟩, b2⟩
    refine Vd [] trivial ?_
    obtain ⟨e8, c5⟩ : ∃ x, w' = x := ⟨_, rfl⟩
    rw [c5] at b2 ⊢
    exact ⟨(decide (h < j)), trivial, SP.sel b2 [0, 1, 2, 3, 4, 5, 6] rfl rfl, H⟩
  ·have H := cf H p
   refine aG [GEq (pt g4 0), GEq (pt g4 0), GEq (pt g4 5), GEq (.map (some f)), GEq (.string ⟨List.toArray a⟩), GEq (.string ⟨List.toArray b⟩), GEq (.agg (Qb Q4 ([a, b] : List (List UInt8))).toArray), GEq (.int .i64 (J8 c (a, b))), GEq (.bool ((J8 c (a, b)) == 0)), GEq (.bool ((J8 c (a, b)) == 0)), GEq undef, GEq undef, GEq undef, GEq undef, GEq (.bool false), Bc] [15] [sG [] [] S w0 [Qx g4 79 #[(.int .i64 q5), (.int .i64 q6), (.int .i64 q7), (.int .i64 q8), (.slice a3 (List.length (List.map stT a1)) a4), (.map (some f))], Vf f c, Qx q 29 #[(pt g4 0)], Qx s 9 #[(.string ⟨List.toArray a⟩)], Qx u 9 #[(.string ⟨List.toArray b⟩)], Qx a0 2 #[(.int .i64 h)], Qx z 4 #[(.bool a7)], Qx a2 48 #[(.string ⟨List.toArray a5⟩), (.string ⟨List.toArray a6⟩), (.int .i64 j)]], sG [15] [undef] S w0 [Qx g4 79 #[(.int .i64 q5), (.int .i64 q6), (.int .i64 q7), (.int .i64 q8), (.slice a3 (List.length (List.map stT a1)) a4), (.map (some f))], Vf f c, Qx q 29 #[(pt g4 0)], Qx s 9 #[(.string ⟨List.toArray a⟩)], Qx u 9 #[(.string ⟨List.toArray b⟩)], Qx a0 2 #[(.int .i64 h)], Qx z 4 #[(.bool false)], Qx a2 48 #[(.string ⟨List.toArray a5⟩), (.string ⟨List.toArray a6⟩), (.int .i64 j)]]] 16 1 ⟨trivial, SP.drew b1⟩ ?_ ?_
   iterate 16 refine And.intro ?_ ?_
   exact trivial
   ·refine oL 0 ?_
    ·rintro ρ' w' hs hah ⟨e9, c6⟩
     refine kM (kc (kS hs 1 (pt q 0)) k0) fun hkn => ?_
     refine sL 29 1 q 0 2 (pt g4 0) 7 c6 rfl ?_
     exact eK hkn
   ·exact oV (hC (hA 0 7) (h0)) (pt g4 0)
   ·exact oV (hC (hA 1 8) (h0)) (pt g4 5)
   ·refine oL 0 ?_
    ·rintro ρ' w' hs hah ⟨f0, c7⟩
     refine kM (kc (kA hah 2 9) k0) fun hkn => ?_
     refine sL 77 9 g4 5 0 (.map (some f)) 10 c7 rfl ?_
     exact eK hkn
   ·refine oL 0 ?_
    ·rintro ρ' w' hs hah ⟨f1, c8⟩
     refine kM (kc (kS hs 2 (pt s 0)) k0) fun hkn => ?_
     refine sL 9 2 s 0 3 (.string ⟨List.toArray a⟩) 11 c8 rfl ?_
     exact eK hkn
   ·refine oL 0 ?_
    ·rintro ρ' w' hs hah ⟨f2, c9⟩
     refine kM (kc (kS hs 3 (pt u 0)) k0) fun hkn => ?_
     refine sL 9 3 u 0 4 (.string ⟨List.toArray b⟩) 12 c9 rfl ?_
     exact eK hkn
   ·exact oV (hC (hA 4 11) (hC (hA 5 12) (h0))) (.agg (Qb Q4 ([a, b] : List (List UInt8))).toArray)
   ·refine oL 0 ?_
    ·rintro ρ' w' hs hah ⟨f3, d0⟩
     refine kM (kc (kA hah 3 10) (kc (kA hah 6 13) k0)) fun hkn => ?_
     refine Db (T := 77) (kt := 83) (et := 3) (m := f) (L := c) (k := (a, b)) (x := (.tmp 10)) (ix := (.tmp 13)) (dst := (some 14)) (o := 7) K rfl K K K Rg (fun _ => rfl) (SP.get d0 (i := 1) rfl) (Fd a8).1 (Fd a8).2 ?_
     exact eK hkn
   ·exact oV (hC (hA 7 14) (h0)) (.bool ((J8 c (a, b)) == 0))
   ·exact oV (hC (hA 8 15) (h0)) (.bool ((J8 c (a, b)) == 0))
   ·exact oW (hC (hB 9 16 p) (h0)) 17
   ·exact oW (hC (hB 9 16 p) (h0)) 18
   ·exact oW (hC (hB 9 16 p) (h0)) 19
   ·exact oW (hC (hB 9 16 p) (h0)) 20
   ·exact oV (hC (hB 9 16 p) (hC (hA 13 20) (h0))) (.bool false)
   ·refine oH 0 1 ?_
    ·rintro ρ' w' hs hah ⟨f4, d1⟩
     refine kM (kc (kS hs 5 (pt z 0)) (kc (kA hah 14 21) k0)) fun hkn => ?_
     refine Qi.store (t := 4) (x := (.tmp 5)) (y := (.tmp 21)) (g := z) (off := 0) (i := 6) (v := (.bool false)) (cs' := #[(.bool false)]) (d := none) (k := 15) K rfl K K d1 rfl K ?_
     intro f5 d2
     refine ⟨_, Qa hkn, trivial, ?_⟩
     exact (And.intro (And.intro rfl (trivial)) (d2))
   ·rintro ρ' w' hs hf ⟨⟨f6, -⟩, b3⟩
    refine Vd [] trivial ?_
    obtain ⟨f7, d3⟩ : ∃ x, w' = x := ⟨_, rfl⟩
    rw [d3] at b3 ⊢
    exact ⟨false, trivial, SP.sel b3 [0, 1, 2, 3, 4, 5, 6] rfl rfl, H⟩
 ·rintro ρ f8 ⟨a9, hk, d4, H⟩
  unfold Z9 at H
  first | refine At.known [] hk ?_ | rw [← Q8 (l := []) hk]
  refine ⟨(.tuple #[]), K, ?_⟩
  obtain rfl := Qm H
  exact ⟨rfl, SP.sel d4 [0,1,2,3,4,5,6] rfl rfl⟩
def J9 (c : (List UInt8)) (a : (List UInt8)) (d : Int) (q5 : (List UInt8)) (q7 : (List UInt8)) (q9 : (List UInt8)) (e : (List UInt8)) : Option ((List UInt8)) :=
  ((chk (Nat.ble (List.length a) 281474976710656)).bind fun _ => ((Dq a ([q5, q7, q9] : List (List UInt8))).bind fun b => (some (b))))
set_option maxRecDepth 100000 in
set_option maxHeartbeats 4000000 in
theorem Gq {S : List Nat} (g4 : Nat) (g6 : Nat) (g8 : Nat) (b : Nat) (c : (List UInt8)) (a : (List UInt8)) (f : Int) (q5 : (List UInt8)) (q7 : (List UInt8)) (q9 : (List UInt8)) (j : (List UInt8)) (w0 : World) (hO : SP S w0 w0 [Qx g4 9 #[(.string ⟨List.toArray q5⟩)], Qx g6 9 #[(.string ⟨List.toArray q7⟩)], Qx g8 9 #[(.string ⟨List.toArray q9⟩)], Qx b 9 #[(.string ⟨List.toArray j⟩)]])  (r : ((List UInt8))) (H : J9 c a f q5 q7 q9 j = some r) :
  Calls Tryz.prog 50 #[(.agg #[(.string ⟨List.toArray c⟩), (.string ⟨List.toArray a⟩), (.int .i64 f)]), (pt g4 0), (pt g6 0), (pt g8 0), (pt b 0)] w0 (fun e w' => e = .returned (.tuple #[]) ∧ SP S w0 w' [Qx g4 9 #[(.string ⟨List.toArray q5⟩)], Qx g6 9 #[(.string ⟨List.toArray q7⟩)], Qx g8 9 #[(.string ⟨List.toArray q9⟩)], Qx b 9 #[(.string ⟨List.toArray r⟩)]]) := by
 unfold J9 at H
 refine Qv (n := 14) Tryz.func50 K K K ?_
 have a0 := hO
 refine aQ ?_
 refine aR ?_
 refine iS 1 ?_
 refine V8 (t := 48) (x := (.tmp 0)) (v := (.agg #[(.string ⟨List.toArray c⟩), (.string ⟨List.toArray a⟩), (.int .i64 f)])) (d := (some 5)) (k := 0) K rfl K a0 ?_
 intro m a8 q
 refine iF ?_
 refine aR ?_
 refine iR 1 1 [(6, (pt m 1))] ?_
 refine iS 2 ?_
 refine sL 9 6 m 1 4 (.string ⟨List.toArray a⟩) 7 q rfl ?_
 obtain ⟨a1, H⟩ := Vr H
 refine iS 3 ?_
 refine Rw (S' := 9) (T := 52) (E := 5) (x := (.tmp 7)) (l := a) (d := (some 8)) (k := 2) K rfl K K K K (Ry a1) q ?_
 intro s u a2 w _
 have h : SP S w0 a2 [Qx g4 9 #[(.string ⟨List.toArray q5⟩)], Qx g6 9 #[(.string ⟨List.toArray q7⟩)], Qx g8 9 #[(.string ⟨List.toArray q9⟩)], Qx b 9 #[(.string ⟨List.toArray j⟩)], Qx m 48 #[(.string ⟨List.toArray c⟩), (.string ⟨List.toArray a⟩), (.int .i64 f)], rdE eU8 (some ⟨s, 0, none⟩) u a] := w
 clear w
 refine iS 4 ?_
 refine sL 9 1 g4 0 0 (.string ⟨List.toArray q5⟩) 9 h rfl ?_
 refine iS 5 ?_
 refine sL 9 2 g6 0 1 (.string ⟨List.toArray q7⟩) 10 h rfl ?_
 refine iS 6 ?_
 refine sL 9 3 g8 0 2 (.string ⟨List.toArray q9⟩) 11 h rfl ?_
 refine iS 7 ?_
 refine V6 (e := Q4) (T := 53) (E := 9) (len := 3) (parts := #[(0, (.tmp 9)), (1, (.tmp 10)), (2, (.tmp 11))]) (cs := #[(.string ⟨List.toArray q5⟩), (.string ⟨List.toArray q7⟩), (.string ⟨List.toArray q9⟩)]) ([q5, q7, q9] : List (List UInt8)) (d := (some 12)) (k := 6) K rfl (fun _ => K) h rfl rfl rfl rfl ?_
 intro a3 a4 o
 obtain ⟨p, a5, H⟩ := Qe H
 refine iS 8 ?_
 refine cF 51 #[(.tmp 8), (.tmp 12)] #[52, 53] 13 Tryz.call51 (Bv (some ⟨s, 0, none⟩) u (some ⟨a3, 0, none⟩) (List.length ([q5, q7, q9] : List (List UInt8))) a ([q5, q7, q9] : List (List UInt8)) a4 (F5 (SP.get o (i := 5) rfl)) (Vk (SP.get o (i := 6) rfl)) p a5) ?_
 rintro e a9 ⟨rfl, z⟩
 refine ⟨_, rfl, ?_⟩
 have a6 := SP.call o z
 clear z
 refine iS 9 ?_
 refine Qi.store (t := 9) (x := (.tmp 4)) (y := (.tmp 13)) (g := b) (off := 0) (i := 3) (v := (.string ⟨List.toArray p⟩)) (cs' := #[(.string ⟨List.toArray p⟩)]) (d := none) (k := 8) K rfl K K a6 rfl K ?_
 intro b0 a7
 refine iF ?_
 refine ⟨(.tuple #[]), K, ?_⟩
 obtain rfl := Qm H
 exact ⟨rfl, SP.sel a7 [0,1,2,3] rfl rfl⟩
def Vq (a : Int) (b : Int) (c : Int) (d : Int) (e : Yp) (f : Bool) : Option (Int × Int × Int × Int × Yp × Bool) :=
  (some (a, b, c, d, e, f))
def Zm (q2 : Int) (q3 : Int) (q4 : Int) (q5 : Int) (q6 : (List Qk)) (d : Yp) (f : (List UInt8)) (g : (List UInt8)) (h : (List UInt8)) (i : (List UInt8)) (e : Bool) : Option (Int × Int × Int × Int × Yp × Bool) :=
  ((Ja q2 q3 q4 q5 q6 f).bind fun b => ((Yr b.1 b.2.1 b.2.2.1 b.2.2.2.1 b.2.2.2.2.1 g).bind fun c => (cond c.2.2.2 ((Ya c.1 c.2.1 c.2.2.1 h i q2 q3 q4 q5 q6 d e).bind fun a => (Vq a.1 a.2.1 a.2.2.1 a.2.2.2.1 a.2.2.2.2.1 a.2.2.2.2.2)) (Vq q2 q3 q4 q5 d e))))
set_option maxRecDepth 100000 in
set_option maxHeartbeats 4000000 in
theorem Jx {S : List Nat} (g1 : Nat) (A7 : Option Addr) (c8 : Nat) (j : Nat) (p : Nat) (q : Nat) (s : Nat) (u : Nat) (q2 : Int) (q3 : Int) (q4 : Int) (q5 : Int) (m : (List Vl)) (a7 : Yp) (a8 : (List UInt8)) (a9 : (List UInt8)) (a4 : (List UInt8)) (a5 : (List UInt8)) (b0 : Bool) (w0 : World) (hO : SP S w0 w0 [Qx g1 79 #[(.int .i64 q2), (.int .i64 q3), (.int .i64 q4), (.int .i64 q5), (.slice A7 (List.length (List.map stT m)) c8), (.map (some j))], Vf j a7, Qx p 9 #[(.string ⟨List.toArray a4⟩)], Qx q 9 #[(.string ⟨List.toArray a5⟩)], Qx s 29 #[(pt g1 0)], Qx u 4 #[(.bool b0)]]) (c3 : ∀ w, Mod S w0 w → (dDS Nd Cn).ok w (A7, c8, m)) (r : (Int × Int × Int × Int × Yp × Bool)) (H : Zm q2 q3 q4 q5 (List.map stT m) a7 a8 a9 a4 a5 b0 = some r) :
  Calls Tryz.prog 45 #[(pt g1 0), (.string ⟨List.toArray a8⟩), (.string ⟨List.toArray a9⟩), (.func (.func 46) #[] #[(pt p 0), (pt q 0), (pt s 0), (pt u 0)])] w0 (fun e w' => e = .returned (.tuple #[]) ∧ SP S w0 w' [Qx g1 79 #[(.int .i64 r.1), (.int .i64 r.2.1), (.int .i64 r.2.2.1), (.int .i64 r.2.2.2.1), (.slice A7 (List.length (List.map stT m)) c8), (.map (some j))], Vf j r.2.2.2.2.1, Qx p 9 #[(.string ⟨List.toArray a4⟩)], Qx q 9 #[(.string ⟨List.toArray a5⟩)], Qx s 29 #[(pt g1 0)], Qx u 4 #[(.bool r.2.2.2.2.2)]]) := by
 unfold Zm at H
 refine Qv (n := 31) Tryz.func45 K K K ?_
 have b2 := hO
 refine aQ ?_
 refine aR ?_
 refine iR 3 3 [(13, (pt g1 0)), (14, (pt g1 0)), (15, (pt g1 0))] ?_
 refine iS 4 ?_
 refine sL 24 15 g1 0 0 (.agg #[(.int .i64 q2), (.int .i64 q3), (.int .i64 q4), (.int .i64 q5), (.slice A7 (List.length (List.map stT m)) c8)]) 16 b2 rfl ?_
 refine iR 1 5 [(17, (.string ⟨List.toArray a8⟩))] ?_
 obtain ⟨a, c7, H⟩ := Qe H
 refine iS 6 ?_
 refine cF 67 #[(.tmp 16), (.tmp 17)] #[24, 9] 18 Tryz.call67 (U7 (R := fun w => Mod S w0 w) A7 c8 q2 q3 q4 q5 m a8 w0 (fun w hb => Ed b2 hb) c3 a c7) ?_
 rintro e e1 ⟨a0, a1, a2, a3, rfl, c9, d0, c4⟩
 refine ⟨_, rfl, ?_⟩
 have d1 := SP.call b2 c4
 clear c4
 refine iR 3 9 [(12, (.tuple #[(.agg #[(.string ⟨List.toArray a.1⟩), (.int .i64 a.2.1), (.int .i64 a.2.2.1), (.slice a0 (List.length a.2.2.2.1) a1), (.slice a2 (List.length a.2.2.2.2.1) a3)]), (.bool a.2.2.2.2.2)])), (19, (.agg #[(.string ⟨List.toArray a.1⟩), (.int .i64 a.2.1), (.int .i64 a.2.2.1), (.slice a0 (List.length a.2.2.2.1) a1), (.slice a2 (List.length a.2.2.2.2.1) a3)])), (20, (.bool a.2.2.2.2.2))] ?_
 refine iS 10 ?_
 refine Qi.alloc (t := 44) (z := (.agg #[(.string ⟨List.toArray ([] : List UInt8)⟩), (.int .i64 0), (.int .i64 0), (.slice none (List.length ([] : List (Int × Int))) 0), (.slice none (List.length ([] : List ((List UInt8) × (List UInt8) × Int))) 0)])) (d := (some 8)) (k := 9) K rfl K d1 ?_
 intro b3 e2 d2
 refine iS 11 ?_
 refine Qi.store (t := 44) (x := (.tmp 8)) (y := (.tmp 19)) (g := b3) (off := 0) (i := 6) (v := (.agg #[(.string ⟨List.toArray a.1⟩), (.int .i64 a.2.1), (.int .i64 a.2.2.1), (.slice a0 (List.length a.2.2.2.1) a1), (.slice a2 (List.length a.2.2.2.2.1) a3)])) (cs' := #[(.string ⟨List.toArray a.1⟩), (.int .i64 a.2.1), (.int .i64 a.2.2.1), (.slice a0 (List.length a.2.2.2.1) a1), (.slice a2 (List.length a.2.2.2.2.1) a3)]) (d := none) (k := 10) K rfl K K d2 rfl K ?_
 intro b4 b1
 refine iR 1 12 [(9, (.bool a.2.2.2.2.2))] ?_
 refine iF ?_
 refine aQ ?_
 refine aR ?_
 refine iS 1 ?_
 refine sL 44 8 b3 0 6 (.agg #[(.string ⟨List.toArray a.1⟩), (.int .i64 a.2.1), (.int .i64 a.2.2.1), (.slice a0 (List.length a.2.2.2.1) a1), (.slice a2 (List.length a.2.2.2.2.1) a3)]) 22 b1 rfl ?_
 refine iR 1 2 [(23, (.string ⟨List.toArray a9⟩))] ?_
 obtain ⟨c, d3, H⟩ := Qe H
 refine iS 3 ?_
 refine cF 68 #[(.tmp 22), (.tmp 23)] #[44, 9] 24 Tryz.call68 (Uv a0 a1 a2 a3 a.1 a.2.1 a.2.2.1 a.2.2.2.1 a.2.2.2.2.1 a9 b4 (c9 b4 (SP.mod b1)) (d0 b4 (SP.mod b1)) c d3) ?_
 rintro e e3 ⟨rfl, c5⟩
 refine ⟨_, rfl, ?_⟩
 have d4 := SP.call b1 c5
 clear c5
 refine iR 3 6 [(21, (.tuple #[(.agg #[(.string ⟨List.toArray c.1⟩), (.string ⟨List.toArray c.2.1⟩), (.int .i64 c.2.2.1)]), (.bool c.2.2.2)])), (25, (.agg #[(.string ⟨List.toArray c.1⟩), (.string ⟨List.toArray c.2.1⟩), (.int .i64 c.2.2.1)])), (26, (.bool c.2.2.2))] ?_
 refine iS 7 ?_
 refine Qi.alloc (t := 48) (z := (.agg #[(.string ⟨List.toArray ([] : List UInt8)⟩), (.string ⟨List.toArray ([] : List UInt8)⟩), (.int .i64 0)])) (d := (some 10)) (k := 6) K rfl K d4 ?_
 intro b5 e4 d5
 refine iS 8 ?_
 refine Qi.store (t := 48) (x := (.tmp 10)) (y := (.tmp 25)) (g := b5) (off := 0) (i := 7) (v := (.agg #[(.string ⟨List.toArray c.1⟩), (.string ⟨List.toArray c.2.1⟩), (.int .i64 c.2.2.1)])) (cs' := #[(.string ⟨List.toArray c.1⟩), (.string ⟨List.toArray c.2.1⟩), (.int .i64 c.2.2.1)]) (d := none) (k := 7) K rfl K K d5 rfl K ?_
 intro d6 a6
 refine iR 1 9 [(11, (.bool c.2.2.2))] ?_
 refine iF ?_
 refine aQ ?_
 refine aR ?_
 refine iR 1 1 [(27, (.bool c.2.2.2))] ?_
 refine iF ?_
 refine At.join (fun ρ w => ∃ (b6 : Int) (b7 : Int) (b8 : Int) (b9 : Int) (c0 : Yp) (c1 : Bool), Zf ρ [] ∧ SP S w0 w [Qx g1 79 #[(.int .i64 b6), (.int .i64 b7), (.int .i64 b8), (.int .i64 b9), (.slice A7 (List.length (List.map stT m)) c8), (.map (some j))], Vf j c0, Qx p 9 #[(.string ⟨List.toArray a4⟩)], Qx q 9 #[(.string ⟨List.toArray a5⟩)], Qx s 29 #[(pt g1 0)], Qx u 4 #[(.bool c1)]] ∧ Vq b6 b7 b8 b9 c0 c1 = some r) ?_ ?_
 ·refine Zq K (o := (.tmp 27)) K (b := c.2.2.2) K (fun c2 => ?_) (fun c2 => ?_)
  ·have H := ct H c2
   refine aR ?_
   refine iR 1 1 [(28, (.func (.func 46) #[] #[(pt p 0), (pt q 0), (pt s 0), (pt u 0)]))] ?_
   refine iS 2 ?_
   refine sL 48 10 b5 0 7 (.agg #[(.string ⟨List.toArray c.1⟩), (.string ⟨List.toArray c.2.1⟩), (.int .i64 c.2.2.1)]) 29 a6 rfl ?_
   obtain ⟨h, d7, H⟩ := Qe H
   refine iS 3 ?_
   refine Xz (f := 46) (fo := (.tmp 28)) (xs := #[(.tmp 29)]) (tys := #[48]) (first := #[]) (captured := #[(pt p 0), (pt q 0), (pt s 0), (pt u 0)]) (d := (some 30)) (k := 2) K rfl K K Tryz.call46 (Gc p q g1 A7 c8 j s u c.1 c.2.1 c.2.2.1 a4 a5 q2 q3 q4 q5 m a7 b0 d6 (Yc a6 [2, 3, 0, 1, 4, 5] rfl rfl) (fun w hm => c3 w (SP.through a6 (l := [2, 3, 0, 1, 4, 5]) rfl hm)) h d7) ?_
   rintro e d8 ⟨rfl, c6⟩
   refine ⟨_, rfl, ?_⟩
   have d9 : SP S w0 d8 [Qx b3 44 #[(.string ⟨List.toArray a.1⟩), (.int .i64 a.2.1), (.int .i64 a.2.2.1), (.slice a0 (List.length a.2.2.2.1) a1), (.slice a2 (List.length a.2.2.2.2.1) a3)], Qx b5 48 #[(.string ⟨List.toArray c.1⟩), (.string ⟨List.toArray c.2.1⟩), (.int .i64 c.2.2.1)], Qx p 9 #[(.string ⟨List.toArray a4⟩)], Qx q 9 #[(.string ⟨List.toArray a5⟩)], Qx g1 79 #[(.int .i64 h.1), (.int .i64 h.2.1), (.int .i64 h.2.2.1), (.int .i64 h.2.2.2.1), (.slice A7 (List.length (List.map stT m)) c8), (.map (some j))], Vf j h.2.2.2.2.1, Qx s 29 #[(pt g1 0)], Qx u 4 #[(.bool h.2.2.2.2.2)]] := Zk a6 [2, 3, 0, 1, 4, 5] [6, 7] rfl rfl c6 rfl
   clear c6
   refine iF ?_
   exact ⟨h.1, h.2.1, h.2.2.1, h.2.2.2.1, h.2.2.2.2.1, h.2.2.2.2.2, trivial, SP.sel d9 [4, 5, 2, 3, 6, 7] rfl rfl, H⟩
  ·have H := cf H c2
   refine At.skip K ?_
   exact ⟨q2, q3, q4, q5, a7, b0, trivial, SP.sel a6 [0, 1, 2, 3, 4, 5] rfl rfl, H⟩
 ·rintro ρ e5 ⟨b6, b7, b8, b9, c0, c1, hk, e0, H⟩
  unfold Vq at H
  first | refine At.known [] hk ?_ | rw [← Q8 (l := []) hk]
  refine ⟨(.tuple #[]), K, ?_⟩
  obtain rfl := Qm H
  exact ⟨rfl, SP.sel e0 [0,1,2,3,4,5] rfl rfl⟩
def V0 (a : Bool) : Option (Bool) :=
  (some (a))
def Zr (q2 : Int) (q3 : Int) (q4 : Int) (q5 : Int) (q6 : (List Qk)) (d : Yp) (e : (List UInt8)) (f : (List UInt8)) (g : (List UInt8)) (h : (List UInt8)) (i : Int) (c : Bool) : Option (Bool) :=
  ((Ja q2 q3 q4 q5 q6 e).bind fun a => ((Yr a.1 a.2.1 a.2.2.1 a.2.2.2.1 a.2.2.2.2.1 f).bind fun b => (cond b.2.2.2 ((Yv b.1 b.2.1 b.2.2.1 q2 q3 q4 q5 q6 d g h i c).bind fun j => (V0 j)) (V0 c))))
set_option maxRecDepth 100000 in
set_option maxHeartbeats 4000000 in
theorem Ua {S : List Nat} (g1 : Nat) (A7 : Option Addr) (c8 : Nat) (h : Nat) (m : Nat) (p : Nat) (q : Nat) (s : Nat) (u : Nat) (q2 : Int) (q3 : Int) (q4 : Int) (q5 : Int) (j : (List Vl)) (a4 : Yp) (a9 : (List UInt8)) (b0 : (List UInt8)) (a5 : (List UInt8)) (a6 : (List UInt8)) (a7 : Int) (b1 : Bool) (w0 : World) (hO : SP S w0 w0 [Qx g1 79 #[(.int .i64 q2), (.int .i64 q3), (.int .i64 q4), (.int .i64 q5), (.slice A7 (List.length (List.map stT j)) c8), (.map (some h))], Vf h a4, Qx m 29 #[(pt g1 0)], Qx p 9 #[(.string ⟨List.toArray a5⟩)], Qx q 9 #[(.string ⟨List.toArray a6⟩)], Qx s 2 #[(.int .i64 a7)], Qx u 4 #[(.bool b1)]]) (c0 : ∀ w, Mod S w0 w → (dDS Nd Cn).ok w (A7, c8, j)) (r : (Bool)) (H : Zr q2 q3 q4 q5 (List.map stT j) a4 a9 b0 a5 a6 a7 b1 = some r) :
  Calls Tryz.prog 45 #[(pt g1 0), (.string ⟨List.toArray a9⟩), (.string ⟨List.toArray b0⟩), (.func (.func 49) #[] #[(pt m 0), (pt p 0), (pt q 0), (pt s 0), (pt u 0)])] w0 (fun e w' => e = .returned (.tuple #[]) ∧ SP S w0 w' [Qx g1 79 #[(.int .i64 q2), (.int .i64 q3), (.int .i64 q4), (.int .i64 q5), (.slice A7 (List.length (List.map stT j)) c8), (.map (some h))], Vf h a4, Qx m 29 #[(pt g1 0)], Qx p 9 #[(.string ⟨List.toArray a5⟩)], Qx q 9 #[(.string ⟨List.toArray a6⟩)], Qx s 2 #[(.int .i64 a7)], Qx u 4 #[(.bool r)]]) := by
 unfold Zr at H
 refine Qv (n := 31) Tryz.func45 K K K ?_
 have b3 := hO
 refine aQ ?_
 refine aR ?_
 refine iR 3 3 [(13, (pt g1 0)), (14, (pt g1 0)), (15, (pt g1 0))] ?_
 refine iS 4 ?_
 refine sL 24 15 g1 0 0 (.agg #[(.int .i64 q2), (.int .i64 q3), (.int .i64 q4), (.int .i64 q5), (.slice A7 (List.length (List.map stT j)) c8)]) 16 b3 rfl ?_
 refine iR 1 5 [(17, (.string ⟨List.toArray a9⟩))] ?_
 obtain ⟨a, c4, H⟩ := Qe H
 refine iS 6 ?_
 refine cF 67 #[(.tmp 16), (.tmp 17)] #[24, 9] 18 Tryz.call67 (U7 (R := fun w => Mod S w0 w) A7 c8 q2 q3 q4 q5 j a9 w0 (fun w hb => Ed b3 hb) c0 a c4) ?_
 rintro e d8 ⟨a0, a1, a2, a3, rfl, c5, c6, c1⟩
 refine ⟨_, rfl, ?_⟩
 have c7 := SP.call b3 c1
 clear c1
 refine iR 3 9 [(12, (.tuple #[(.agg #[(.string ⟨List.toArray a.1⟩), (.int .i64 a.2.1), (.int .i64 a.2.2.1), (.slice a0 (List.length a.2.2.2.1) a1), (.slice a2 (List.length a.2.2.2.2.1) a3)]), (.bool a.2.2.2.2.2)])), (19, (.agg #[(.string ⟨List.toArray a.1⟩), (.int .i64 a.2.1), (.int .i64 a.2.2.1), (.slice a0 (List.length a.2.2.2.1) a1), (.slice a2 (List.length a.2.2.2.2.1) a3)])), (20, (.bool a.2.2.2.2.2))] ?_
 refine iS 10 ?_
 refine Qi.alloc (t := 44) (z := (.agg #[(.string ⟨List.toArray ([] : List UInt8)⟩), (.int .i64 0), (.int .i64 0), (.slice none (List.length ([] : List (Int × Int))) 0), (.slice none (List.length ([] : List ((List UInt8) × (List UInt8) × Int))) 0)])) (d := (some 8)) (k := 9) K rfl K c7 ?_
 intro b4 d9 c9
 refine iS 11 ?_
 refine Qi.store (t := 44) (x := (.tmp 8)) (y := (.tmp 19)) (g := b4) (off := 0) (i := 7) (v := (.agg #[(.string ⟨List.toArray a.1⟩), (.int .i64 a.2.1), (.int .i64 a.2.2.1), (.slice a0 (List.length a.2.2.2.1) a1), (.slice a2 (List.length a.2.2.2.2.1) a3)])) (cs' := #[(.string ⟨List.toArray a.1⟩), (.int .i64 a.2.1), (.int .i64 a.2.2.1), (.slice a0 (List.length a.2.2.2.1) a1), (.slice a2 (List.length a.2.2.2.2.1) a3)]) (d := none) (k := 10) K rfl K K c9 rfl K ?_
 intro b5 b2
 refine iR 1 12 [(9, (.bool a.2.2.2.2.2))] ?_
 refine iF ?_
 refine aQ ?_
 refine aR ?_
 refine iS 1 ?_
 refine sL 44 8 b4 0 7 (.agg #[(.string ⟨List.toArray a.1⟩), (.int .i64 a.2.1), (.int .i64 a.2.2.1), (.slice a0 (List.length a.2.2.2.1) a1), (.slice a2 (List.length a.2.2.2.2.1) a3)]) 22 b2 rfl ?_
 refine iR 1 2 [(23, (.string ⟨List.toArray b0⟩))] ?_
 obtain ⟨c, d0, H⟩ := Qe H
 refine iS 3 ?_
 refine cF 68 #[(.tmp 22), (.tmp 23)] #[44, 9] 24 Tryz.call68 (Uv a0 a1 a2 a3 a.1 a.2.1 a.2.2.1 a.2.2.2.1 a.2.2.2.2.1 b0 b5 (c5 b5 (SP.mod b2)) (c6 b5 (SP.mod b2)) c d0) ?_
 rintro e e0 ⟨rfl, c2⟩
 refine ⟨_, rfl, ?_⟩
 have d1 := SP.call b2 c2
 clear c2
 refine iR 3 6 [(21, (.tuple #[(.agg #[(.string ⟨List.toArray c.1⟩), (.string ⟨List.toArray c.2.1⟩), (.int .i64 c.2.2.1)]), (.bool c.2.2.2)])), (25, (.agg #[(.string ⟨List.toArray c.1⟩), (.string ⟨List.toArray c.2.1⟩), (.int .i64 c.2.2.1)])), (26, (.bool c.2.2.2))] ?_
 refine iS 7 ?_
 refine Qi.alloc (t := 48) (z := (.agg #[(.string ⟨List.toArray ([] : List UInt8)⟩), (.string ⟨List.toArray ([] : List UInt8)⟩), (.int .i64 0)])) (d := (some 10)) (k := 6) K rfl K d1 ?_
 intro b6 e1 d2
 refine iS 8 ?_
 refine Qi.store (t := 48) (x := (.tmp 10)) (y := (.tmp 25)) (g := b6) (off := 0) (i := 8) (v := (.agg #[(.string ⟨List.toArray c.1⟩), (.string ⟨List.toArray c.2.1⟩), (.int .i64 c.2.2.1)])) (cs' := #[(.string ⟨List.toArray c.1⟩), (.string ⟨List.toArray c.2.1⟩), (.int .i64 c.2.2.1)]) (d := none) (k := 7) K rfl K K d2 rfl K ?_
 intro d3 a8
 refine iR 1 9 [(11, (.bool c.2.2.2))] ?_
 refine iF ?_
 refine aQ ?_
 refine aR ?_
 refine iR 1 1 [(27, (.bool c.2.2.2))] ?_
 refine iF ?_
 refine At.join (fun ρ w => ∃ (b7 : Bool), Zf ρ [] ∧ SP S w0 w [Qx g1 79 #[(.int .i64 q2), (.int .i64 q3), (.int .i64 q4), (.int .i64 q5), (.slice A7 (List.length (List.map stT j)) c8), (.map (some h))], Vf h a4, Qx m 29 #[(pt g1 0)], Qx p 9 #[(.string ⟨List.toArray a5⟩)], Qx q 9 #[(.string ⟨List.toArray a6⟩)], Qx s 2 #[(.int .i64 a7)], Qx u 4 #[(.bool b7)]] ∧ V0 b7 = some r) ?_ ?_
 ·refine Zq K (o := (.tmp 27)) K (b := c.2.2.2) K (fun b8 => ?_) (fun b8 => ?_)
  ·have H := ct H b8
   refine aR ?_
   refine iR 1 1 [(28, (.func (.func 49) #[] #[(pt m 0), (pt p 0), (pt q 0), (pt s 0), (pt u 0)]))] ?_
   refine iS 2 ?_
   refine sL 48 10 b6 0 8 (.agg #[(.string ⟨List.toArray c.1⟩), (.string ⟨List.toArray c.2.1⟩), (.int .i64 c.2.2.1)]) 29 a8 rfl ?_
   obtain ⟨b9, d4, H⟩ := Qe H
   refine iS 3 ?_
   refine Xz (f := 49) (fo := (.tmp 28)) (xs := #[(.tmp 29)]) (tys := #[48]) (first := #[]) (captured := #[(pt m 0), (pt p 0), (pt q 0), (pt s 0), (pt u 0)]) (d := (some 30)) (k := 2) K rfl K K Tryz.call49 (Gp g1 A7 c8 h m p q s u c.1 c.2.1 c.2.2.1 q2 q3 q4 q5 j a4 a5 a6 a7 b1 d3 (Yc a8 [0, 1, 2, 3, 4, 5, 6] rfl rfl) (fun w hm => c0 w (SP.through a8 (l := [0, 1, 2, 3, 4, 5, 6]) rfl hm)) b9 d4) ?_
   rintro e d5 ⟨rfl, c3⟩
   refine ⟨_, rfl, ?_⟩
   have d6 : SP S w0 d5 [Qx b4 44 #[(.string ⟨List.toArray a.1⟩), (.int .i64 a.2.1), (.int .i64 a.2.2.1), (.slice a0 (List.length a.2.2.2.1) a1), (.slice a2 (List.length a.2.2.2.2.1) a3)], Qx b6 48 #[(.string ⟨List.toArray c.1⟩), (.string ⟨List.toArray c.2.1⟩), (.int .i64 c.2.2.1)], Qx g1 79 #[(.int .i64 q2), (.int .i64 q3), (.int .i64 q4), (.int .i64 q5), (.slice A7 (List.length (List.map stT j)) c8), (.map (some h))], Vf h a4, Qx m 29 #[(pt g1 0)], Qx p 9 #[(.string ⟨List.toArray a5⟩)], Qx q 9 #[(.string ⟨List.toArray a6⟩)], Qx s 2 #[(.int .i64 a7)], Qx u 4 #[(.bool b9)]] := Zk a8 [0, 1, 2, 3, 4, 5, 6] [7, 8] rfl rfl c3 rfl
   clear c3
   refine iF ?_
   exact ⟨b9, trivial, SP.sel d6 [2, 3, 4, 5, 6, 7, 8] rfl rfl, H⟩
  ·have H := cf H b8
   refine At.skip K ?_
   exact ⟨b1, trivial, SP.sel a8 [0, 1, 2, 3, 4, 5, 6] rfl rfl, H⟩
 ·rintro ρ e2 ⟨b7, hk, d7, H⟩
  unfold V0 at H
  first | refine At.known [] hk ?_ | rw [← Q8 (l := []) hk]
  refine ⟨(.tuple #[]), K, ?_⟩
  obtain rfl := Qm H
  exact ⟨rfl, SP.sel d7 [0,1,2,3,4,5,6] rfl rfl⟩
def Zj (a : (List UInt8)) : Option ((List UInt8)) :=
  (some (a))
def Xc (q2 : Int) (q3 : Int) (q4 : Int) (q5 : Int) (q6 : (List Qk)) (j : Yp) (d : (List UInt8)) (e : (List UInt8)) (f : (List UInt8)) (g : (List UInt8)) (h : (List UInt8)) (c : (List UInt8)) : Option ((List UInt8)) :=
  ((Ja q2 q3 q4 q5 q6 d).bind fun a => ((Yr a.1 a.2.1 a.2.2.1 a.2.2.2.1 a.2.2.2.2.1 e).bind fun b => (cond b.2.2.2 ((J9 b.1 b.2.1 b.2.2.1 f g h c).bind fun i => (Zj i)) (Zj c))))
set_option maxRecDepth 100000 in
set_option maxHeartbeats 4000000 in
theorem Ub {S : List Nat} (g1 : Nat) (A7 : Option Addr) (c8 : Nat) (h : Nat) (j : Nat) (m : Nat) (p : Nat) (q : Nat) (q2 : Int) (q3 : Int) (q4 : Int) (q5 : Int) (s : (List Vl)) (a6 : Yp) (a7 : (List UInt8)) (a8 : (List UInt8)) (a3 : (List UInt8)) (a4 : (List UInt8)) (a5 : (List UInt8)) (a9 : (List UInt8)) (w0 : World) (hO : SP S w0 w0 [Qx g1 79 #[(.int .i64 q2), (.int .i64 q3), (.int .i64 q4), (.int .i64 q5), (.slice A7 (List.length (List.map stT s)) c8), (.map (some h))], Vf h a6, Qx j 9 #[(.string ⟨List.toArray a3⟩)], Qx m 9 #[(.string ⟨List.toArray a4⟩)], Qx p 9 #[(.string ⟨List.toArray a5⟩)], Qx q 9 #[(.string ⟨List.toArray a9⟩)]]) (c2 : ∀ w, Mod S w0 w → (dDS Nd Cn).ok w (A7, c8, s)) (r : ((List UInt8))) (H : Xc q2 q3 q4 q5 (List.map stT s) a6 a7 a8 a3 a4 a5 a9 = some r) :
  Calls Tryz.prog 45 #[(pt g1 0), (.string ⟨List.toArray a7⟩), (.string ⟨List.toArray a8⟩), (.func (.func 50) #[] #[(pt j 0), (pt m 0), (pt p 0), (pt q 0)])] w0 (fun e w' => e = .returned (.tuple #[]) ∧ SP S w0 w' [Qx g1 79 #[(.int .i64 q2), (.int .i64 q3), (.int .i64 q4), (.int .i64 q5), (.slice A7 (List.length (List.map stT s)) c8), (.map (some h))], Vf h a6, Qx j 9 #[(.string ⟨List.toArray a3⟩)], Qx m 9 #[(.string ⟨List.toArray a4⟩)], Qx p 9 #[(.string ⟨List.toArray a5⟩)], Qx q 9 #[(.string ⟨List.toArray r⟩)]]) := by
 unfold Xc at H
 refine Qv (n := 31) Tryz.func45 K K K ?_
 have b2 := hO
 refine aQ ?_
 refine aR ?_
 refine iR 3 3 [(13, (pt g1 0)), (14, (pt g1 0)), (15, (pt g1 0))] ?_
 refine iS 4 ?_
 refine sL 24 15 g1 0 0 (.agg #[(.int .i64 q2), (.int .i64 q3), (.int .i64 q4), (.int .i64 q5), (.slice A7 (List.length (List.map stT s)) c8)]) 16 b2 rfl ?_
 refine iR 1 5 [(17, (.string ⟨List.toArray a7⟩))] ?_
 obtain ⟨a, c3, H⟩ := Qe H
 refine iS 6 ?_
 refine cF 67 #[(.tmp 16), (.tmp 17)] #[24, 9] 18 Tryz.call67 (U7 (R := fun w => Mod S w0 w) A7 c8 q2 q3 q4 q5 s a7 w0 (fun w hb => Ed b2 hb) c2 a c3) ?_
 rintro e d7 ⟨u, a0, a1, a2, rfl, c4, c5, b9⟩
 refine ⟨_, rfl, ?_⟩
 have c6 := SP.call b2 b9
 clear b9
 refine iR 3 9 [(12, (.tuple #[(.agg #[(.string ⟨List.toArray a.1⟩), (.int .i64 a.2.1), (.int .i64 a.2.2.1), (.slice u (List.length a.2.2.2.1) a0), (.slice a1 (List.length a.2.2.2.2.1) a2)]), (.bool a.2.2.2.2.2)])), (19, (.agg #[(.string ⟨List.toArray a.1⟩), (.int .i64 a.2.1), (.int .i64 a.2.2.1), (.slice u (List.length a.2.2.2.1) a0), (.slice a1 (List.length a.2.2.2.2.1) a2)])), (20, (.bool a.2.2.2.2.2))] ?_
 refine iS 10 ?_
 refine Qi.alloc (t := 44) (z := (.agg #[(.string ⟨List.toArray ([] : List UInt8)⟩), (.int .i64 0), (.int .i64 0), (.slice none (List.length ([] : List (Int × Int))) 0), (.slice none (List.length ([] : List ((List UInt8) × (List UInt8) × Int))) 0)])) (d := (some 8)) (k := 9) K rfl K c6 ?_
 intro b3 d8 c7
 refine iS 11 ?_
 refine Qi.store (t := 44) (x := (.tmp 8)) (y := (.tmp 19)) (g := b3) (off := 0) (i := 6) (v := (.agg #[(.string ⟨List.toArray a.1⟩), (.int .i64 a.2.1), (.int .i64 a.2.2.1), (.slice u (List.length a.2.2.2.1) a0), (.slice a1 (List.length a.2.2.2.2.1) a2)])) (cs' := #[(.string ⟨List.toArray a.1⟩), (.int .i64 a.2.1), (.int .i64 a.2.2.1), (.slice u (List.length a.2.2.2.1) a0), (.slice a1 (List.length a.2.2.2.2.1) a2)]) (d := none) (k := 10) K rfl K K c7 rfl K ?_
 intro b4 b0
 refine iR 1 12 [(9, (.bool a.2.2.2.2.2))] ?_
 refine iF ?_
 refine aQ ?_
 refine aR ?_
 refine iS 1 ?_
 refine sL 44 8 b3 0 6 (.agg #[(.string ⟨List.toArray a.1⟩), (.int .i64 a.2.1), (.int .i64 a.2.2.1), (.slice u (List.length a.2.2.2.1) a0), (.slice a1 (List.length a.2.2.2.2.1) a2)]) 22 b0 rfl ?_
 refine iR 1 2 [(23, (.string ⟨List.toArray a8⟩))] ?_
 obtain ⟨c, c9, H⟩ := Qe H
 refine iS 3 ?_
 refine cF 68 #[(.tmp 22), (.tmp 23)] #[44, 9] 24 Tryz.call68 (Uv u a0 a1 a2 a.1 a.2.1 a.2.2.1 a.2.2.2.1 a.2.2.2.2.1 a8 b4 (c4 b4 (SP.mod b0)) (c5 b4 (SP.mod b0)) c c9) ?_
 rintro e d9 ⟨rfl, c0⟩
 refine ⟨_, rfl, ?_⟩
 have d0 := SP.call b0 c0
 clear c0
 refine iR 3 6 [(21, (.tuple #[(.agg #[(.string ⟨List.toArray c.1⟩), (.string ⟨List.toArray c.2.1⟩), (.int .i64 c.2.2.1)]), (.bool c.2.2.2)])), (25, (.agg #[(.string ⟨List.toArray c.1⟩), (.string ⟨List.toArray c.2.1⟩), (.int .i64 c.2.2.1)])), (26, (.bool c.2.2.2))] ?_
 refine iS 7 ?_
 refine Qi.alloc (t := 48) (z := (.agg #[(.string ⟨List.toArray ([] : List UInt8)⟩), (.string ⟨List.toArray ([] : List UInt8)⟩), (.int .i64 0)])) (d := (some 10)) (k := 6) K rfl K d0 ?_
 intro b5 e0 d1
 refine iS 8 ?_
 refine Qi.store (t := 48) (x := (.tmp 10)) (y := (.tmp 25)) (g := b5) (off := 0) (i := 7) (v := (.agg #[(.string ⟨List.toArray c.1⟩), (.string ⟨List.toArray c.2.1⟩), (.int .i64 c.2.2.1)])) (cs' := #[(.string ⟨List.toArray c.1⟩), (.string ⟨List.toArray c.2.1⟩), (.int .i64 c.2.2.1)]) (d := none) (k := 7) K rfl K K d1 rfl K ?_
 intro d2 b1
 refine iR 1 9 [(11, (.bool c.2.2.2))] ?_
 refine iF ?_
 refine aQ ?_
 refine aR ?_
 refine iR 1 1 [(27, (.bool c.2.2.2))] ?_
 refine iF ?_
 refine At.join (fun ρ w => ∃ (b6 : (List UInt8)), Zf ρ [] ∧ SP S w0 w [Qx g1 79 #[(.int .i64 q2), (.int .i64 q3), (.int .i64 q4), (.int .i64 q5), (.slice A7 (List.length (List.map stT s)) c8), (.map (some h))], Vf h a6, Qx j 9 #[(.string ⟨List.toArray a3⟩)], Qx m 9 #[(.string ⟨List.toArray a4⟩)], Qx p 9 #[(.string ⟨List.toArray a5⟩)], Qx q 9 #[(.string ⟨List.toArray b6⟩)]] ∧ Zj b6 = some r) ?_ ?_
 ·refine Zq K (o := (.tmp 27)) K (b := c.2.2.2) K (fun b7 => ?_) (fun b7 => ?_)
  ·have H := ct H b7
   refine aR ?_
   refine iR 1 1 [(28, (.func (.func 50) #[] #[(pt j 0), (pt m 0), (pt p 0), (pt q 0)]))] ?_
   refine iS 2 ?_
   refine sL 48 10 b5 0 7 (.agg #[(.string ⟨List.toArray c.1⟩), (.string ⟨List.toArray c.2.1⟩), (.int .i64 c.2.2.1)]) 29 b1 rfl ?_
   obtain ⟨b8, d3, H⟩ := Qe H
   refine iS 3 ?_
   refine Xz (f := 50) (fo := (.tmp 28)) (xs := #[(.tmp 29)]) (tys := #[48]) (first := #[]) (captured := #[(pt j 0), (pt m 0), (pt p 0), (pt q 0)]) (d := (some 30)) (k := 2) K rfl K K Tryz.call50 (Gq j m p q c.1 c.2.1 c.2.2.1 a3 a4 a5 a9 d2 (Yc b1 [2, 3, 4, 5] rfl rfl) b8 d3) ?_
   rintro e d4 ⟨rfl, c1⟩
   refine ⟨_, rfl, ?_⟩
   have d5 : SP S w0 d4 [Qx g1 79 #[(.int .i64 q2), (.int .i64 q3), (.int .i64 q4), (.int .i64 q5), (.slice A7 (List.length (List.map stT s)) c8), (.map (some h))], Vf h a6, Qx b3 44 #[(.string ⟨List.toArray a.1⟩), (.int .i64 a.2.1), (.int .i64 a.2.2.1), (.slice u (List.length a.2.2.2.1) a0), (.slice a1 (List.length a.2.2.2.2.1) a2)], Qx b5 48 #[(.string ⟨List.toArray c.1⟩), (.string ⟨List.toArray c.2.1⟩), (.int .i64 c.2.2.1)], Qx j 9 #[(.string ⟨List.toArray a3⟩)], Qx m 9 #[(.string ⟨List.toArray a4⟩)], Qx p 9 #[(.string ⟨List.toArray a5⟩)], Qx q 9 #[(.string ⟨List.toArray b8⟩)]] := Zk b1 [2, 3, 4, 5] [0, 1, 6, 7] rfl rfl c1 rfl
   clear c1
   refine iF ?_
   exact ⟨b8, trivial, SP.sel d5 [0, 1, 4, 5, 6, 7] rfl rfl, H⟩
  ·have H := cf H b7
   refine At.skip K ?_
   exact ⟨a9, trivial, SP.sel b1 [0, 1, 2, 3, 4, 5] rfl rfl, H⟩
 ·rintro ρ e1 ⟨b6, hk, d6, H⟩
  unfold Zj at H
  first | refine At.known [] hk ?_ | rw [← Q8 (l := []) hk]
  refine ⟨(.tuple #[]), K, ?_⟩
  obtain rfl := Qm H
  exact ⟨rfl, SP.sel d6 [0,1,2,3,4,5] rfl rfl⟩
def V2 (q2 : Int) (q3 : Int) (q4 : Int) (q5 : Int) (q6 : (List Qk)) (d : Yp) (b : (List UInt8)) (c : (List UInt8)) : Option (Bool × Int × Int × Int × Int × Yp) :=
  ((Zm q2 q3 q4 q5 q6 d b c b c false).bind fun a => (some (a.2.2.2.2.2, a.1, a.2.1, a.2.2.1, a.2.2.2.1, a.2.2.2.2.1)))
set_option maxRecDepth 100000 in
set_option maxHeartbeats 4000000 in
theorem Vz {S : List Nat} (g1 : Nat) (A7 : Option Addr) (c8 : Nat) (b : Nat) (q2 : Int) (q3 : Int) (q4 : Int) (q5 : Int) (h : (List Vl)) (s : Yp) (c : (List UInt8)) (f : (List UInt8)) (w0 : World) (hO : SP S w0 w0 [Qx g1 79 #[(.int .i64 q2), (.int .i64 q3), (.int .i64 q4), (.int .i64 q5), (.slice A7 (List.length (List.map stT h)) c8), (.map (some b))], Vf b s]) (a1 : ∀ w, Mod S w0 w → (dDS Nd Cn).ok w (A7, c8, h)) (r : (Bool × Int × Int × Int × Int × Yp)) (H : V2 q2 q3 q4 q5 (List.map stT h) s c f = some r) :
  Calls Tryz.prog 20 #[(pt g1 0), (.string ⟨List.toArray c⟩), (.string ⟨List.toArray f⟩)] w0 (fun e w' => e = .returned (.bool r.1) ∧ SP S w0 w' [Qx g1 79 #[(.int .i64 r.2.1), (.int .i64 r.2.2.1), (.int .i64 r.2.2.2.1), (.int .i64 r.2.2.2.2.1), (.slice A7 (List.length (List.map stT h)) c8), (.map (some b))], Vf b r.2.2.2.2.2]) := by
 unfold V2 at H
 refine Qv (n := 14) Tryz.func20 K K K ?_
 have a2 := hO
 refine aQ ?_
 refine aR ?_
 refine iS 1 ?_
 refine V8 (t := 29) (x := (.tmp 0)) (v := (pt g1 0)) (d := (some 3)) (k := 0) K rfl K a2 ?_
 intro o b0 a3
 refine iS 2 ?_
 refine V8 (t := 9) (x := (.tmp 1)) (v := (.string ⟨List.toArray c⟩)) (d := (some 4)) (k := 1) K rfl K a3 ?_
 intro p b1 a4
 refine iS 3 ?_
 refine V8 (t := 9) (x := (.tmp 2)) (v := (.string ⟨List.toArray f⟩)) (d := (some 5)) (k := 2) K rfl K a4 ?_
 intro q b2 a5
 refine iR 1 4 [(6, (.bool false))] ?_
 refine iF ?_
 refine aQ ?_
 refine aR ?_
 refine iS 1 ?_
 refine Qi.alloc (t := 4) (z := (.bool false)) (d := (some 7)) (k := 0) K rfl K a5 ?_
 intro m b3 a6
 refine iS 2 ?_
 refine Qi.store (t := 4) (x := (.tmp 7)) (y := (.const (.bool false))) (g := m) (off := 0) (i := 5) (v := (.bool false)) (cs' := #[(.bool false)]) (d := none) (k := 1) K rfl K K a6 rfl K ?_
 intro a7 j
 refine iF ?_
 refine aQ ?_
 refine aR ?_
 refine iS 1 ?_
 refine sL 29 3 o 0 2 (pt g1 0) 8 j rfl ?_
 refine iS 2 ?_
 refine sL 9 4 p 0 3 (.string ⟨List.toArray c⟩) 9 j rfl ?_
 refine iS 3 ?_
 refine sL 9 5 q 0 4 (.string ⟨List.toArray f⟩) 10 j rfl ?_
 refine iR 1 4 [(11, (.func (.func 46) #[] #[(pt p 0), (pt q 0), (pt o 0), (pt m 0)]))] ?_
 obtain ⟨a, a8, H⟩ := Qe H
 refine iS 5 ?_
 refine cF 45 #[(.tmp 8), (.tmp 9), (.tmp 10), (.tmp 11)] #[29, 9, 9, 84] 12 Tryz.call45 (Jx g1 A7 c8 b p q o m q2 q3 q4 q5 h s c f c f false a7 (Yc j [0, 1, 3, 4, 2, 5] rfl rfl) (fun w hm => a1 w (SP.through j (l := [0, 1, 3, 4, 2, 5]) rfl hm)) a a8) ?_
 rintro e a9 ⟨rfl, u⟩
 refine ⟨_, rfl, ?_⟩
 have a0 : SP S w0 a9 [Qx g1 79 #[(.int .i64 a.1), (.int .i64 a.2.1), (.int .i64 a.2.2.1), (.int .i64 a.2.2.2.1), (.slice A7 (List.length (List.map stT h)) c8), (.map (some b))], Vf b a.2.2.2.2.1, Qx p 9 #[(.string ⟨List.toArray c⟩)], Qx q 9 #[(.string ⟨List.toArray f⟩)], Qx o 29 #[(pt g1 0)], Qx m 4 #[(.bool a.2.2.2.2.2)]] := Zk j [0, 1, 3, 4, 2, 5] [] rfl rfl u rfl
 clear u
 refine iF ?_
 refine aQ ?_
 refine aR ?_
 refine iS 1 ?_
 refine sL 4 7 m 0 5 (.bool a.2.2.2.2.2) 13 a0 rfl ?_
 refine iR 1 2 [(6, (.bool a.2.2.2.2.2))] ?_
 refine iF ?_
 refine At.ret K ?_
 refine ⟨(.bool a.2.2.2.2.2), K, ?_⟩
 obtain rfl := Qm H
 exact ⟨rfl, SP.sel a0 [0,1] rfl rfl⟩
def Ze (q2 : Int) (q3 : Int) (q4 : Int) (q5 : Int) (q6 : (List Qk)) (c : Yp) (a : (List UInt8)) (b : (List UInt8)) (d : Int) : Option (Bool) :=
  ((Zr q2 q3 q4 q5 q6 c a b a b d false).bind fun e => (some (e)))
set_option maxRecDepth 100000 in
set_option maxHeartbeats 4000000 in
theorem Vv {S : List Nat} (g1 : Nat) (A7 : Option Addr) (c8 : Nat) (a : Nat) (q2 : Int) (q3 : Int) (q4 : Int) (q5 : Int) (f : (List Vl)) (j : Yp) (b : (List UInt8)) (c : (List UInt8)) (m : Int) (w0 : World) (hO : SP S w0 w0 [Qx g1 79 #[(.int .i64 q2), (.int .i64 q3), (.int .i64 q4), (.int .i64 q5), (.slice A7 (List.length (List.map stT f)) c8), (.map (some a))], Vf a j]) (a3 : ∀ w, Mod S w0 w → (dDS Nd Cn).ok w (A7, c8, f)) (r : (Bool)) (H : Ze q2 q3 q4 q5 (List.map stT f) j b c m = some r) :
  Calls Tryz.prog 22 #[(pt g1 0), (.string ⟨List.toArray b⟩), (.string ⟨List.toArray c⟩), (.int .i64 m)] w0 (fun e w' => e = .returned (.bool r) ∧ SP S w0 w' [Qx g1 79 #[(.int .i64 q2), (.int .i64 q3), (.int .i64 q4), (.int .i64 q5), (.slice A7 (List.length (List.map stT f)) c8), (.map (some a))], Vf a j]) := by
 unfold Ze at H
 refine Qv (n := 16) Tryz.func22 K K K ?_
 have a4 := hO
 refine aQ ?_
 refine aR ?_
 refine iS 1 ?_
 refine V8 (t := 29) (x := (.tmp 0)) (v := (pt g1 0)) (d := (some 4)) (k := 0) K rfl K a4 ?_
 intro q b3 a5
 refine iS 2 ?_
 refine V8 (t := 9) (x := (.tmp 1)) (v := (.string ⟨List.toArray b⟩)) (d := (some 5)) (k := 1) K rfl K a5 ?_
 intro s b4 a6
 refine iS 3 ?_
 refine V8 (t := 9) (x := (.tmp 2)) (v := (.string ⟨List.toArray c⟩)) (d := (some 6)) (k := 2) K rfl K a6 ?_
 intro u b5 a7
 refine iS 4 ?_
 refine V8 (t := 2) (x := (.tmp 3)) (v := (.int .i64 m)) (d := (some 7)) (k := 3) K rfl K a7 ?_
 intro a0 b6 a8
 refine iR 1 5 [(8, (.bool false))] ?_
 refine iF ?_
 refine aQ ?_
 refine aR ?_
 refine iS 1 ?_
 refine Qi.alloc (t := 4) (z := (.bool false)) (d := (some 9)) (k := 0) K rfl K a8 ?_
 intro o b7 a9
 refine iS 2 ?_
 refine Qi.store (t := 4) (x := (.tmp 9)) (y := (.const (.bool false))) (g := o) (off := 0) (i := 6) (v := (.bool false)) (cs' := #[(.bool false)]) (d := none) (k := 1) K rfl K K a9 rfl K ?_
 intro b0 h
 refine iF ?_
 refine aQ ?_
 refine aR ?_
 refine iS 1 ?_
 refine sL 29 4 q 0 2 (pt g1 0) 10 h rfl ?_
 refine iS 2 ?_
 refine sL 9 5 s 0 3 (.string ⟨List.toArray b⟩) 11 h rfl ?_
 refine iS 3 ?_
 refine sL 9 6 u 0 4 (.string ⟨List.toArray c⟩) 12 h rfl ?_
 refine iR 1 4 [(13, (.func (.func 49) #[] #[(pt q 0), (pt s 0), (pt u 0), (pt a0 0), (pt o 0)]))] ?_
 obtain ⟨p, b1, H⟩ := Qe H
 refine iS 5 ?_
 refine cF 45 #[(.tmp 10), (.tmp 11), (.tmp 12), (.tmp 13)] #[29, 9, 9, 84] 14 Tryz.call45 (Ua g1 A7 c8 a q s u a0 o q2 q3 q4 q5 f j b c b c m false b0 (Yc h [0, 1, 2, 3, 4, 5, 6] rfl rfl) (fun w hm => a3 w (SP.through h (l := [0, 1, 2, 3, 4, 5, 6]) rfl hm)) p b1) ?_
 rintro e b2 ⟨rfl, a1⟩
 refine ⟨_, rfl, ?_⟩
 have a2 : SP S w0 b2 [Qx g1 79 #[(.int .i64 q2), (.int .i64 q3), (.int .i64 q4), (.int .i64 q5), (.slice A7 (List.length (List.map stT f)) c8), (.map (some a))], Vf a j, Qx q 29 #[(pt g1 0)], Qx s 9 #[(.string ⟨List.toArray b⟩)], Qx u 9 #[(.string ⟨List.toArray c⟩)], Qx a0 2 #[(.int .i64 m)], Qx o 4 #[(.bool p)]] := Zk h [0, 1, 2, 3, 4, 5, 6] [] rfl rfl a1 rfl
 clear a1
 refine iF ?_
 refine aQ ?_
 refine aR ?_
 refine iS 1 ?_
 refine sL 4 9 o 0 6 (.bool p) 15 a2 rfl ?_
 refine iR 1 2 [(8, (.bool p))] ?_
 refine iF ?_
 refine At.ret K ?_
 refine ⟨(.bool p), K, ?_⟩
 obtain rfl := Qm H
 exact ⟨rfl, SP.sel a2 [0,1] rfl rfl⟩
def Yn (q2 : Int) (q3 : Int) (q4 : Int) (q5 : Int) (q6 : (List Qk)) (c : Yp) (a : (List UInt8)) (b : (List UInt8)) (d : (List UInt8)) : Option ((List UInt8)) :=
  ((Xc q2 q3 q4 q5 q6 c a b a b d ([] : List UInt8)).bind fun e => (some (e)))
set_option maxRecDepth 100000 in
set_option maxHeartbeats 4000000 in
theorem Jb {S : List Nat} (g1 : Nat) (A7 : Option Addr) (c8 : Nat) (a : Nat) (q2 : Int) (q3 : Int) (q4 : Int) (q5 : Int) (f : (List Vl)) (h : Yp) (b : (List UInt8)) (c : (List UInt8)) (j : (List UInt8)) (w0 : World) (hO : SP S w0 w0 [Qx g1 79 #[(.int .i64 q2), (.int .i64 q3), (.int .i64 q4), (.int .i64 q5), (.slice A7 (List.length (List.map stT f)) c8), (.map (some a))], Vf a h]) (a2 : ∀ w, Mod S w0 w → (dDS Nd Cn).ok w (A7, c8, f)) (r : ((List UInt8))) (H : Yn q2 q3 q4 q5 (List.map stT f) h b c j = some r) :
  Calls Tryz.prog 24 #[(pt g1 0), (.string ⟨List.toArray b⟩), (.string ⟨List.toArray c⟩), (.string ⟨List.toArray j⟩)] w0 (fun e w' => e = .returned (.string ⟨List.toArray r⟩) ∧ SP S w0 w' [Qx g1 79 #[(.int .i64 q2), (.int .i64 q3), (.int .i64 q4), (.int .i64 q5), (.slice A7 (List.length (List.map stT f)) c8), (.map (some a))], Vf a h]) := by
 unfold Yn at H
 refine Qv (n := 16) Tryz.func24 K K K ?_
 have a3 := hO
 refine aQ ?_
 refine aR ?_
 refine iS 1 ?_
 refine V8 (t := 9) (x := (.tmp 1)) (v := (.string ⟨List.toArray b⟩)) (d := (some 5)) (k := 0) K rfl K a3 ?_
 intro q b1 a4
 refine iS 2 ?_
 refine V8 (t := 9) (x := (.tmp 2)) (v := (.string ⟨List.toArray c⟩)) (d := (some 6)) (k := 1) K rfl K a4 ?_
 intro s b2 a5
 refine iS 3 ?_
 refine V8 (t := 9) (x := (.tmp 3)) (v := (.string ⟨List.toArray j⟩)) (d := (some 7)) (k := 2) K rfl K a5 ?_
 intro u b3 a6
 refine iR 1 4 [(8, (.string ⟨List.toArray ([] : List UInt8)⟩))] ?_
 refine iF ?_
 refine aQ ?_
 refine aR ?_
 refine iS 1 ?_
 refine Qi.alloc (t := 9) (z := (.string ⟨List.toArray ([] : List UInt8)⟩)) (d := (some 9)) (k := 0) K rfl K a6 ?_
 intro m b4 a7
 refine iS 2 ?_
 refine Qi.store (t := 9) (x := (.tmp 9)) (y := (.const (.string ⟨List.toArray ([] : List UInt8)⟩))) (g := m) (off := 0) (i := 5) (v := (.string ⟨List.toArray ([] : List UInt8)⟩)) (cs' := #[(.string ⟨List.toArray ([] : List UInt8)⟩)]) (d := none) (k := 1) K rfl K K a7 rfl K ?_
 intro a8 o
 refine iF ?_
 refine aQ ?_
 refine aR ?_
 refine iR 1 1 [(10, (pt g1 0))] ?_
 refine iS 2 ?_
 refine sL 9 5 q 0 2 (.string ⟨List.toArray b⟩) 11 o rfl ?_
 refine iS 3 ?_
 refine sL 9 6 s 0 3 (.string ⟨List.toArray c⟩) 12 o rfl ?_
 refine iR 1 4 [(13, (.func (.func 50) #[] #[(pt q 0), (pt s 0), (pt u 0), (pt m 0)]))] ?_
 obtain ⟨p, a9, H⟩ := Qe H
 refine iS 5 ?_
 refine cF 45 #[(.tmp 10), (.tmp 11), (.tmp 12), (.tmp 13)] #[29, 9, 9, 84] 14 Tryz.call45 (Ub g1 A7 c8 a q s u m q2 q3 q4 q5 f h b c b c j ([] : List UInt8) a8 (Yc o [0, 1, 2, 3, 4, 5] rfl rfl) (fun w hm => a2 w (SP.through o (l := [0, 1, 2, 3, 4, 5]) rfl hm)) p a9) ?_
 rintro e b0 ⟨rfl, a0⟩
 refine ⟨_, rfl, ?_⟩
 have a1 : SP S w0 b0 [Qx g1 79 #[(.int .i64 q2), (.int .i64 q3), (.int .i64 q4), (.int .i64 q5), (.slice A7 (List.length (List.map stT f)) c8), (.map (some a))], Vf a h, Qx q 9 #[(.string ⟨List.toArray b⟩)], Qx s 9 #[(.string ⟨List.toArray c⟩)], Qx u 9 #[(.string ⟨List.toArray j⟩)], Qx m 9 #[(.string ⟨List.toArray p⟩)]] := Zk o [0, 1, 2, 3, 4, 5] [] rfl rfl a0 rfl
 clear a0
 refine iF ?_
 refine aQ ?_
 refine aR ?_
 refine iS 1 ?_
 refine sL 9 9 m 0 5 (.string ⟨List.toArray p⟩) 15 a1 rfl ?_
 refine iR 1 2 [(8, (.string ⟨List.toArray p⟩))] ?_
 refine iF ?_
 refine At.ret K ?_
 refine ⟨(.string ⟨List.toArray p⟩), K, ?_⟩
 obtain rfl := Qm H
 exact ⟨rfl, SP.sel a1 [0,1] rfl rfl⟩
def Yb (a : Bool) : Option (Int) :=
  (cond a (some (101)) (some (0)))
def Xg (q2 : Int) (q3 : Int) (q4 : Int) (q5 : Int) (q6 : (List Qk)) (b : Yp) (c : (List UInt8)) (d : (List UInt8)) (f : (List UInt8)) (e : (List UInt8)) (g : Int) : Option (Int) :=
  ((Ze q2 q3 q4 q5 q6 b c d g).bind fun h => (cond (!h) (some (3)) ((Yn q2 q3 q4 q5 q6 b c d f).bind fun a => (cond (a == ([] : List UInt8)) (Yb true) ((chk (Nat.ble (List.length a) 281474976710656)).bind fun _ => ((chk (Nat.ble (List.length e) 281474976710656)).bind fun _ => ((Bk a e).bind fun i => (Yb (!i)))))))))
set_option maxRecDepth 100000 in
set_option maxHeartbeats 4000000 in
theorem Xp {S : List Nat} (g1 : Nat) (A7 : Option Addr) (c8 : Nat) (c : Nat) (q2 : Int) (q3 : Int) (q4 : Int) (q5 : Int) (g : (List Vl)) (h : Yp) (j : (List UInt8)) (m : (List UInt8)) (s : (List UInt8)) (p : (List UInt8)) (u : Int) (w0 : World) (hO : SP S w0 w0 [Qx g1 79 #[(.int .i64 q2), (.int .i64 q3), (.int .i64 q4), (.int .i64 q5), (.slice A7 (List.length (List.map stT g)) c8), (.map (some c))], Vf c h]) (a8 : ∀ w, Mod S w0 w → (dDS Nd Cn).ok w (A7, c8, g)) (r : (Int)) (H : Xg q2 q3 q4 q5 (List.map stT g) h j m s p u = some r) :
  Calls Tryz.prog 26 #[(pt g1 0), (.string ⟨List.toArray j⟩), (.string ⟨List.toArray m⟩), (.string ⟨List.toArray s⟩), (.string ⟨List.toArray p⟩), (.int .i64 u)] w0 (fun e w' => e = .returned (.int .i64 r) ∧ SP S w0 w' [Qx g1 79 #[(.int .i64 q2), (.int .i64 q3), (.int .i64 q4), (.int .i64 q5), (.slice A7 (List.length (List.map stT g)) c8), (.map (some c))], Vf c h]) := by
 unfold Xg at H
 refine Qv (n := 35) Tryz.func26 K K K ?_
 have a0 := hO
 refine aQ ?_
 refine aR ?_
 refine iR 1 1 [(12, (.int .i64 0))] ?_
 refine iF ?_
 refine aQ ?_
 refine aQ ?_
 refine aR ?_
 refine iR 4 4 [(14, (pt g1 0)), (15, (.string ⟨List.toArray j⟩)), (16, (.string ⟨List.toArray m⟩)), (17, (.int .i64 u))] ?_
 obtain ⟨a1, c0, H⟩ := Qe H
 refine iS 5 ?_
 refine cF 22 #[(.tmp 14), (.tmp 15), (.tmp 16), (.tmp 17)] #[29, 9, 9, 2] 18 Tryz.call22 (Vv g1 A7 c8 c q2 q3 q4 q5 g h j m u w0 (Yc a0 [0, 1] rfl rfl) (fun w hm => a8 w (SP.through a0 (l := [0, 1]) rfl hm)) a1 c0) ?_
 rintro e a9 ⟨rfl, b0⟩
 refine ⟨_, rfl, ?_⟩
 have v : SP S w0 a9 [Qx g1 79 #[(.int .i64 q2), (.int .i64 q3), (.int .i64 q4), (.int .i64 q5), (.slice A7 (List.length (List.map stT g)) c8), (.map (some c))], Vf c h] := Zk a0 [0, 1] [] rfl rfl b0 rfl
 clear b0
 refine iR 1 6 [(19, (.bool (!a1)))] ?_
 refine iF ?_
 refine Zq K (o := (.tmp 19)) K (b := (!a1)) K (fun a2 => ?_) (fun a2 => ?_)
 ·have H := ct H a2
  refine aQ ?_
  refine aR ?_
  refine iR 1 1 [(12, (.int .i64 3))] ?_
  refine iF ?_
  refine At.ret K ?_
  refine ⟨(.int .i64 3), K, ?_⟩
  obtain rfl := Qm H
  exact ⟨rfl, SP.sel v [0,1] rfl rfl⟩
 ·have H := cf H a2
  refine At.skip K ?_
  refine aQ ?_
  refine aQ ?_
  refine aR ?_
  refine iR 4 4 [(20, (pt g1 0)), (21, (.string ⟨List.toArray j⟩)), (22, (.string ⟨List.toArray m⟩)), (23, (.string ⟨List.toArray s⟩))] ?_
  obtain ⟨f, c1, H⟩ := Qe H
  refine iS 5 ?_
  refine cF 24 #[(.tmp 20), (.tmp 21), (.tmp 22), (.tmp 23)] #[29, 9, 9, 9] 24 Tryz.call24 (Jb g1 A7 c8 c q2 q3 q4 q5 g h j m s a9 (Yc v [0, 1] rfl rfl) (fun w hm => a8 w (SP.through v (l := [0, 1]) rfl hm)) f c1) ?_
  rintro e c2 ⟨rfl, b1⟩
  refine ⟨_, rfl, ?_⟩
  have b2 : SP S w0 c2 [Qx g1 79 #[(.int .i64 q2), (.int .i64 q3), (.int .i64 q4), (.int .i64 q5), (.slice A7 (List.length (List.map stT g)) c8), (.map (some c))], Vf c h] := Zk v [0, 1] [] rfl rfl b1 rfl
  clear b1
  refine iR 1 6 [(13, (.string ⟨List.toArray f⟩))] ?_
  refine iF ?_
  refine aQ ?_
  refine At.join (fun ρ w => ∃ (q : Bool), Zf ρ [(34, (.bool q))] ∧ SP S w0 w [Qx g1 79 #[(.int .i64 q2), (.int .i64 q3), (.int .i64 q4), (.int .i64 q5), (.slice A7 (List.length (List.map stT g)) c8), (.map (some c))], Vf c h] ∧ Yb q = some r) ?_ ?_
  ·refine aR ?_
   refine iR 1 1 [(25, (.string ⟨List.toArray f⟩))] ?_
   refine iS 2 ?_
   refine Ye (op := .eql) (T := 9) (T' := 9) (x := (.tmp 25)) (y := (.const (.string ⟨List.toArray ([] : List UInt8)⟩))) (a := f) (b := ([] : List UInt8)) (r := (.bool (f == ([] : List UInt8)))) (d := (some 26)) (k := 1) K rfl K K rfl ?_
   refine iR 1 3 [(27, (.bool (f == ([] : List UInt8))))] ?_
   refine In.guard (t := 27) (b := (f == ([] : List UInt8))) K (fun a3 => ?_) (fun a3 => ?_)
   ·have H := ct H a3
    refine iR 7 10 [(28, undef), (29, undef), (30, undef), (31, undef), (32, undef), (33, undef), (34, (.bool true))] ?_
    refine iF ?_
    exact ⟨true, ⟨K, trivial⟩, SP.sel b2 [0, 1] rfl rfl, H⟩
   ·have H := cf H a3
    refine iR 1 4 [(28, (.string ⟨List.toArray f⟩))] ?_
    obtain ⟨c3, H⟩ := Vr H
    refine iS 5 ?_
    refine Rw (S' := 9) (T := 52) (E := 5) (x := (.tmp 28)) (l := f) (d := (some 29)) (k := 4) K rfl K K K K (Ry c3) b2 ?_
    intro a4 a5 c4 b3 _
    have c5 : SP S w0 c4 [Qx g1 79 #[(.int .i64 q2), (.int .i64 q3), (.int .i64 q4), (.int .i64 q5), (.slice A7 (List.length (List.map stT g)) c8), (.map (some c))], Vf c h, rdE eU8 (some ⟨a4, 0, none⟩) a5 f] := b3
    clear b3
    refine iR 1 6 [(30, (.string ⟨List.toArray p⟩))] ?_
    obtain ⟨c6, H⟩ := Vr H
    refine iS 7 ?_
    refine Rw (S' := 9) (T := 52) (E := 5) (x := (.tmp 30)) (l := p) (d := (some 31)) (k := 6) K rfl K K K K (Ry c6) c5 ?_
    intro b4 b5 b6 b7 _
    have a6 : SP S w0 b6 [Qx g1 79 #[(.int .i64 q2), (.int .i64 q3), (.int .i64 q4), (.int .i64 q5), (.slice A7 (List.length (List.map stT g)) c8), (.map (some c))], Vf c h, rdE eU8 (some ⟨a4, 0, none⟩) a5 f, rdE eU8 (some ⟨b4, 0, none⟩) b5 p] := b7
    clear b7
    obtain ⟨z, c7, H⟩ := Qe H
    refine iS 8 ?_
    refine cF 52 #[(.tmp 29), (.tmp 31)] #[52, 52] 32 Tryz.call52 (Ch (some ⟨a4, 0, none⟩) a5 (some ⟨b4, 0, none⟩) b5 f p b6 (F5 (SP.get a6 (i := 2) rfl)) (F5 (SP.get a6 (i := 3) rfl)) z c7) ?_
    rintro e d0 ⟨rfl, b8⟩
    refine ⟨_, rfl, ?_⟩
    have c9 := SP.call a6 b8
    clear b8
    refine iR 2 10 [(33, (.bool (!z))), (34, (.bool (!z)))] ?_
    refine iF ?_
    exact ⟨(!z), ⟨K, trivial⟩, SP.sel c9 [0, 1] rfl rfl, H⟩
  ·rintro ρ d1 ⟨q, hk, b9, H⟩
   unfold Yb at H
   first | refine At.known [(34, (.bool q))] hk ?_ | rw [← Q8 (l := [(34, (.bool q))]) hk]
   refine Zq K (o := (.tmp 34)) K (b := q) K (fun a7 => ?_) (fun a7 => ?_)
   ·have H := ct H a7
    refine aQ ?_
    refine aR ?_
    refine iR 1 1 [(12, (.int .i64 101))] ?_
    refine iF ?_
    refine At.ret K ?_
    refine ⟨(.int .i64 101), K, ?_⟩
    obtain rfl := Qm H
    exact ⟨rfl, SP.sel b9 [0,1] rfl rfl⟩
   ·have H := cf H a7
    refine At.skip K ?_
    refine aQ ?_
    refine aR ?_
    refine iR 1 1 [(12, (.int .i64 0))] ?_
    refine iF ?_
    refine At.ret K ?_
    refine ⟨(.int .i64 0), K, ?_⟩
    obtain rfl := Qm H
    exact ⟨rfl, SP.sel b9 [0,1] rfl rfl⟩
end Go.Proofs.YtmgfanhcdfobhaaGreatDoor
namespace Go.Proofs.YtmgfanhcdfobhaaGreatDoor
open Go.RowKit
def Zy (b : Int → Option (Bool)) (p1 : (List (Int × (List UInt8) × (List UInt8) × (List UInt8) × (List UInt8) × Int))) (a : Int) (c : Bool) : Option (Bool) :=
  (cond c ((idx p1 a).bind fun d => ((idx p1 a).bind fun e => ((idx p1 a).bind fun f => ((idx p1 a).bind fun g => (cond (decide ((IntKind.wrap .i64 ((IntKind.wrap .i64 ((IntKind.wrap .i64 (((List.length d.2.1 : Nat) : Int) + ((List.length e.2.2.1 : Nat) : Int))) + ((List.length f.2.2.2.1 : Nat) : Int))) + ((List.length g.2.2.2.2.1 : Nat) : Int))) > 2000)) (some (true)) (b (IntKind.wrap .i64 (a + 1)))))))) (some ((decide (((List.length p1 : Nat) : Int) > 100)))))
def Zp (b : Int → Option (Bool)) (p1 : (List (Int × (List UInt8) × (List UInt8) × (List UInt8) × (List UInt8) × Int))) (a : Int) : Option (Bool) :=
  (cond (decide (a < ((List.length p1 : Nat) : Int))) (Zy b p1 a (decide (a < 200))) (Zy b p1 a false))
def V7 (p1 : (List (Int × (List UInt8) × (List UInt8) × (List UInt8) × (List UInt8) × Int))) : Nat → Int → Option (Bool)
  | 0, _ => none
  | f + 1, a => Zp  (V7 p1 f) p1 a
def Jc (p1 : (List (Int × (List UInt8) × (List UInt8) × (List UInt8) × (List UInt8) × Int))) : Option (Bool) :=
  (V7 p1 Xa 0)
set_option maxRecDepth 100000 in
set_option maxHeartbeats 4000000 in
theorem G0 (A2 : Option Addr) (c3 : Nat) (p1 : (List (Int × (List UInt8) × (List UInt8) × (List UInt8) × (List UInt8) × Int))) (w0 : World) (m : RdT (Qj (Qd .i64) (Qj Q4 (Qj Q4 (Qj Q4 (Qj Q4 (Qd .i64)))))) w0 A2 c3 p1) (r : (Bool)) (H : Jc p1 = some r) :
  Calls Tryz.prog 17 #[(.slice A2 (List.length p1) c3)] w0 (fun e w' => e = .returned (.bool r) ∧ SP [] w0 w' []) := by
 unfold Jc at H
 refine Qv (n := 45) Tryz.func17 K K K ?_
 have b7 := Q0 [] w0
 refine aQ ?_
 refine aR ?_
 refine iR 1 1 [(2, (.bool false))] ?_
 refine iF ?_
 refine aQ ?_
 refine aQ ?_
 refine aR ?_
 refine iR 1 1 [(3, (.int .i64 0))] ?_
 refine iF ?_
 refine Zu K (id := 0) K ?_
 refine Jy K (fun f3 ρ w => ∃ (a : Int), Zf ρ [(0, (.slice A2 (List.length p1) c3)), (3, (.int .i64 a))] ∧ SP [] w0 w [] ∧ V7 p1 f3 a = some r) (by rintro ρ w ⟨a, hk, hs, H⟩; cases H) ?_ Xa ?_
 ·rintro f3 ρ g9 ⟨a, hk, z, H⟩
  refine At.known [(0, (.slice A2 (List.length p1) c3)), (3, (.int .i64 a))] hk ?_
  replace H := (show Zp (V7 p1 f3) p1 a = some r from H)
  unfold Zp at H
  refine aQ ?_
  refine aQ ?_
  refine At.join (fun ρ w => ∃ (p : Bool), Zf ρ [(0, (.slice A2 (List.length p1) c3)), (3, (.int .i64 a)), (11, (.bool p))] ∧ SP [] w0 w [] ∧ Zy (V7 p1 f3) p1 a p = some r) ?_ ?_
  ·refine aR ?_
   refine iR 5 5 [(4, (.int .i64 a)), (5, (.slice A2 (List.length p1) c3)), (6, (.int .i64 ((List.length p1 : Nat) : Int))), (7, (.bool (decide (a < ((List.length p1 : Nat) : Int))))), (8, (.bool (decide (a < ((List.length p1 : Nat) : Int)))))] ?_
   refine In.guard (t := 8) (b := (decide (a < ((List.length p1 : Nat) : Int)))) K (fun q => ?_) (fun q => ?_)
   ·have H := ct H q
    refine iR 3 8 [(9, (.int .i64 a)), (10, (.bool (decide (a < 200)))), (11, (.bool (decide (a < 200))))] ?_
    refine iF ?_
    exact ⟨(decide (a < 200)), ⟨K, K, K, trivial⟩, SP.sel z [] rfl rfl, H⟩
   ·have H := cf H q
    refine iR 3 8 [(9, undef), (10, undef), (11, (.bool false))] ?_
    refine iF ?_
    exact ⟨false, ⟨K, K, K, trivial⟩, SP.sel z [] rfl rfl, H⟩
  ·rintro ρ h1 ⟨p, hk, a0, H⟩
   unfold Zy at H
   first | refine At.known [(0, (.slice A2 (List.length p1) c3)), (3, (.int .i64 a)), (11, (.bool p))] hk ?_ | rw [← Q8 (l := [(0, (.slice A2 (List.length p1) c3)), (3, (.int .i64 a)), (11, (.bool p))]) hk]
   refine Zq K (o := (.tmp 11)) K (b := p) K (fun s => ?_) (fun s => ?_)
   ·have H := ct H s
    refine At.skip K ?_
    refine aQ ?_
    refine Zu K (id := 1) K ?_
    refine aQ ?_
    obtain ⟨f, a1, a2, b8, H⟩ := Qn H
    obtain ⟨g, a3, a4, b9, H⟩ := Qn H
    obtain ⟨h, a5, a6, c0, H⟩ := Qn H
    obtain ⟨i, a7, a8, c1, H⟩ := Qn H
    refine aG [GEq (.slice A2 (List.length p1) c3), GEq (.int .i64 a), Vy A2 (Qj (Qd .i64) (Qj Q4 (Qj Q4 (Qj Q4 (Qj Q4 (Qd .i64)))))).sz a, GElem A2 (Qj (Qd .i64) (Qj Q4 (Qj Q4 (Qj Q4 (Qj Q4 (Qd .i64)))))).sz a 1, GEq (.string ⟨List.toArray f.2.1⟩), GEq (.int .i64 ((List.length f.2.1 : Nat) : Int)), GEq (.slice A2 (List.length p1) c3), GEq (.int .i64 a), Vy A2 (Qj (Qd .i64) (Qj Q4 (Qj Q4 (Qj Q4 (Qj Q4 (Qd .i64)))))).sz a, GElem A2 (Qj (Qd .i64) (Qj Q4 (Qj Q4 (Qj Q4 (Qj Q4 (Qd .i64)))))).sz a 2, GEq (.string ⟨List.toArray g.2.2.1⟩), GEq (.int .i64 ((List.length g.2.2.1 : Nat) : Int)), GEq (.int .i64 (IntKind.wrap .i64 (((List.length f.2.1 : Nat) : Int) + ((List.length g.2.2.1 : Nat) : Int)))), GEq (.slice A2 (List.length p1) c3), GEq (.int .i64 a), Vy A2 (Qj (Qd .i64) (Qj Q4 (Qj Q4 (Qj Q4 (Qj Q4 (Qd .i64)))))).sz a, GElem A2 (Qj (Qd .i64) (Qj Q4 (Qj Q4 (Qj Q4 (Qj Q4 (Qd .i64)))))).sz a 3, GEq (.string ⟨List.toArray h.2.2.2.1⟩), GEq (.int .i64 ((List.length h.2.2.2.1 : Nat) : Int)), GEq (.int .i64 (IntKind.wrap .i64 ((IntKind.wrap .i64 (((List.length f.2.1 : Nat) : Int) + ((List.length g.2.2.1 : Nat) : Int))) + ((List.length h.2.2.2.1 : Nat) : Int)))), GEq (.slice A2 (List.length p1) c3), GEq (.int .i64 a), Vy A2 (Qj (Qd .i64) (Qj Q4 (Qj Q4 (Qj Q4 (Qj Q4 (Qd .i64)))))).sz a, GElem A2 (Qj (Qd .i64) (Qj Q4 (Qj Q4 (Qj Q4 (Qj Q4 (Qd .i64)))))).sz a 4, GEq (.string ⟨List.toArray i.2.2.2.2.1⟩), GEq (.int .i64 ((List.length i.2.2.2.2.1 : Nat) : Int)), GEq (.int .i64 (IntKind.wrap .i64 ((IntKind.wrap .i64 ((IntKind.wrap .i64 (((List.length f.2.1 : Nat) : Int) + ((List.length g.2.2.1 : Nat) : Int))) + ((List.length h.2.2.2.1 : Nat) : Int))) + ((List.length i.2.2.2.2.1 : Nat) : Int)))), GEq (.bool (decide ((IntKind.wrap .i64 ((IntKind.wrap .i64 ((IntKind.wrap .i64 (((List.length f.2.1 : Nat) : Int) + ((List.length g.2.2.1 : Nat) : Int))) + ((List.length h.2.2.2.1 : Nat) : Int))) + ((List.length i.2.2.2.2.1 : Nat) : Int))) > 2000)))] [] (tG [] w0 [] [([], [])]) 28 0 ⟨trivial, SP.drew a0⟩ ?_ ?_
    iterate 28 refine And.intro ?_ ?_
    exact trivial
    ·exact oV (hC (hS 0 (.slice A2 (List.length p1) c3)) (h0)) (.slice A2 (List.length p1) c3)
    ·exact oV (hC (hS 3 (.int .i64 a)) (h0)) (.int .i64 a)
    ·refine oL 0 ?_
     ·rintro ρ' w' hs hah ⟨h2, c2⟩
      refine kM (kc (kA hah 0 14) (kc (kA hah 1 15) k0)) fun hkn => ?_
      refine Vw (e := (Qj (Qd .i64) (Qj Q4 (Qj Q4 (Qj Q4 (Qj Q4 (Qd .i64))))))) (l := p1) (A := A2) (c := c3) (T := 25) (E := 34) (x := (.tmp 14)) (ix := (.tmp 15)) (ki := .i64) (iz := a) (d := (some 16)) (k := 2) K rfl K K K K (RdT.sp m c2) a1 a2 ?_
      intro c4 c5 c6 h3 hc282
      exact ⟨rfl, _, Qa hkn, ⟨c4, c5, c6, rfl⟩⟩
    ·refine oL 0 ?_
     ·rintro ρ' w' hs hah ⟨h4, h5⟩
      obtain ⟨a9, b0, c7, c8⟩ := hah 2 16 K
      refine kM (kc c8 k0) fun hkn => ?_
      refine Qi.run (k := 3) (v := (.pointer (some ⟨a9, (b0 + Int.toNat a * (Qj (Qd .i64) (Qj Q4 (Qj Q4 (Qj Q4 (Qj Q4 (Qd .i64)))))).sz + 1), none⟩))) K ?_
      exact ⟨rfl, _, Qa hkn, ⟨a9, b0, c7, rfl⟩⟩
    ·refine oL 0 ?_
     ·rintro ρ' w' hs hah ⟨h6, c9⟩
      obtain ⟨d0, d1, d2, d3⟩ := hah 3 17 K
      refine kM (kc d3 k0) fun hkn => ?_
      refine sC 9 17 d0 (d1 + Int.toNat a * (Qj (Qd .i64) (Qj Q4 (Qj Q4 (Qj Q4 (Qj Q4 (Qd .i64)))))).sz + 1) (.string ⟨List.toArray f.2.1⟩) 18 (Qh (e := (Qj (Qd .i64) (Qj Q4 (Qj Q4 (Qj Q4 (Qj Q4 (Qd .i64))))))) (Qf (RdT.sp m c9) d2 a1 a2) b8 (j := 1) rfl) ?_
      exact eK hkn
    ·exact oV (hC (hA 4 18) (h0)) (.int .i64 ((List.length f.2.1 : Nat) : Int))
    ·exact oV (hC (hS 0 (.slice A2 (List.length p1) c3)) (h0)) (.slice A2 (List.length p1) c3)
    ·exact oV (hC (hS 3 (.int .i64 a)) (h0)) (.int .i64 a)
    ·refine oL 0 ?_
     ·rintro ρ' w' hs hah ⟨h7, d4⟩
      refine kM (kc (kA hah 6 20) (kc (kA hah 7 21) k0)) fun hkn => ?_
      refine Vw (e := (Qj (Qd .i64) (Qj Q4 (Qj Q4 (Qj Q4 (Qj Q4 (Qd .i64))))))) (l := p1) (A := A2) (c := c3) (T := 25) (E := 34) (x := (.tmp 20)) (ix := (.tmp 21)) (ki := .i64) (iz := a) (d := (some 22)) (k := 8) K rfl K K K K (RdT.sp m d4) a3 a4 ?_
      intro d5 d6 d7 h8 hc299
      exact ⟨rfl, _, Qa hkn, ⟨d5, d6, d7, rfl⟩⟩
    ·refine oL 0 ?_
     ·rintro ρ' w' hs hah ⟨h9, i0⟩
      obtain ⟨b1, b2, d8, d9⟩ := hah 8 22 K
      refine kM (kc d9 k0) fun hkn => ?_
      refine Qi.run (k := 9) (v := (.pointer (some ⟨b1, (b2 + Int.toNat a * (Qj (Qd .i64) (Qj Q4 (Qj Q4 (Qj Q4 (Qj Q4 (Qd .i64)))))).sz + 2), none⟩))) K ?_
      exact ⟨rfl, _, Qa hkn, ⟨b1, b2, d8, rfl⟩⟩
    ·refine oL 0 ?_
     ·rintro ρ' w' hs hah ⟨i1, e0⟩
      obtain ⟨e1, e2, e3, e4⟩ := hah 9 23 K
      refine kM (kc e4 k0) fun hkn => ?_
      refine sC 9 23 e1 (e2 + Int.toNat a * (Qj (Qd .i64) (Qj Q4 (Qj Q4 (Qj Q4 (Qj Q4 (Qd .i64)))))).sz + 2) (.string ⟨List.toArray g.2.2.1⟩) 24 (Qh (e := (Qj (Qd .i64) (Qj Q4 (Qj Q4 (Qj Q4 (Qj Q4 (Qd .i64))))))) (Qf (RdT.sp m e0) e3 a3 a4) b9 (j := 2) rfl) ?_
      exact eK hkn
    ·exact oV (hC (hA 10 24) (h0)) (.int .i64 ((List.length g.2.2.1 : Nat) : Int))
    ·exact oV (hC (hA 5 19) (hC (hA 11 25) (h0))) (.int .i64 (IntKind.wrap .i64 (((List.length f.2.1 : Nat) : Int) + ((List.length g.2.2.1 : Nat) : Int))))
    ·exact oV (hC (hS 0 (.slice A2 (List.length p1) c3)) (h0)) (.slice A2 (List.length p1) c3)
    ·exact oV (hC (hS 3 (.int .i64 a)) (h0)) (.int .i64 a)
    ·refine oL 0 ?_
     ·rintro ρ' w' hs hah ⟨i2, e5⟩
      refine kM (kc (kA hah 13 27) (kc (kA hah 14 28) k0)) fun hkn => ?_
      refine Vw (e := (Qj (Qd .i64) (Qj Q4 (Qj Q4 (Qj Q4 (Qj Q4 (Qd .i64))))))) (l := p1) (A := A2) (c := c3) (T := 25) (E := 34) (x := (.tmp 27)) (ix := (.tmp 28)) (ki := .i64) (iz := a) (d := (some 29)) (k := 15) K rfl K K K K (RdT.sp m e5) a5 a6 ?_
      intro e6 e7 e8 i3 hc316
      exact ⟨rfl, _, Qa hkn, ⟨e6, e7, e8, rfl⟩⟩
    ·refine oL 0 ?_
     ·rintro ρ' w' hs hah ⟨i4, i5⟩
      obtain ⟨b3, b4, e9, f0⟩ := hah 15 29 K
      refine kM (kc f0 k0) fun hkn => ?_
      refine Qi.run (k := 16) (v := (.pointer (some ⟨b3, (b4 + Int.toNat a * (Qj (Qd .i64) (Qj Q4 (Qj Q4 (Qj Q4 (Qj Q4 (Qd .i64)))))).sz + 3), none⟩))) K ?_
      exact ⟨rfl, _, Qa hkn, ⟨b3, b4, e9, rfl⟩⟩
    ·refine oL 0 ?_
     ·rintro ρ' w' hs hah ⟨i6, f1⟩
      obtain ⟨f2, f4, f5, f6⟩ := hah 16 30 K
      refine kM (kc f6 k0) fun hkn => ?_
      refine sC 9 30 f2 (f4 + Int.toNat a * (Qj (Qd .i64) (Qj Q4 (Qj Q4 (Qj Q4 (Qj Q4 (Qd .i64)))))).sz + 3) (.string ⟨List.toArray h.2.2.2.1⟩) 31 (Qh (e := (Qj (Qd .i64) (Qj Q4 (Qj Q4 (Qj Q4 (Qj Q4 (Qd .i64))))))) (Qf (RdT.sp m f1) f5 a5 a6) c0 (j := 3) rfl) ?_
      exact eK hkn
    ·exact oV (hC (hA 17 31) (h0)) (.int .i64 ((List.length h.2.2.2.1 : Nat) : Int))
    ·exact oV (hC (hA 12 26) (hC (hA 18 32) (h0))) (.int .i64 (IntKind.wrap .i64 ((IntKind.wrap .i64 (((List.length f.2.1 : Nat) : Int) + ((List.length g.2.2.1 : Nat) : Int))) + ((List.length h.2.2.2.1 : Nat) : Int))))
    ·exact oV (hC (hS 0 (.slice A2 (List.length p1) c3)) (h0)) (.slice A2 (List.length p1) c3)
    ·exact oV (hC (hS 3 (.int .i64 a)) (h0)) (.int .i64 a)
    ·refine oL 0 ?_
     ·rintro ρ' w' hs hah ⟨i7, f7⟩
      refine kM (kc (kA hah 20 34) (kc (kA hah 21 35) k0)) fun hkn => ?_
      refine Vw (e := (Qj (Qd .i64) (Qj Q4 (Qj Q4 (Qj Q4 (Qj Q4 (Qd .i64))))))) (l := p1) (A := A2) (c := c3) (T := 25) (E := 34) (x := (.tmp 34)) (ix := (.tmp 35)) (ki := .i64) (iz := a) (d := (some 36)) (k := 22) K rfl K K K K (RdT.sp m f7) a7 a8 ?_
      intro f8 f9 g0 i8 hc333
      exact ⟨rfl, _, Qa hkn, ⟨f8, f9, g0, rfl⟩⟩
    ·refine oL 0 ?_
     ·rintro ρ' w' hs hah ⟨i9, j0⟩
      obtain ⟨b5, b6, g1, g2⟩ := hah 22 36 K
      refine kM (kc g2 k0) fun hkn => ?_
      refine Qi.run (k := 23) (v := (.pointer (some ⟨b5, (b6 + Int.toNat a * (Qj (Qd .i64) (Qj Q4 (Qj Q4 (Qj Q4 (Qj Q4 (Qd .i64)))))).sz + 4), none⟩))) K ?_
      exact ⟨rfl, _, Qa hkn, ⟨b5, b6, g1, rfl⟩⟩
    ·refine oL 0 ?_
     ·rintro ρ' w' hs hah ⟨j1, g3⟩
      obtain ⟨g4, g5, g6, g7⟩ := hah 23 37 K
      refine kM (kc g7 k0) fun hkn => ?_
      refine sC 9 37 g4 (g5 + Int.toNat a * (Qj (Qd .i64) (Qj Q4 (Qj Q4 (Qj Q4 (Qj Q4 (Qd .i64)))))).sz + 4) (.string ⟨List.toArray i.2.2.2.2.1⟩) 38 (Qh (e := (Qj (Qd .i64) (Qj Q4 (Qj Q4 (Qj Q4 (Qj Q4 (Qd .i64))))))) (Qf (RdT.sp m g3) g6 a7 a8) c1 (j := 4) rfl) ?_
      exact eK hkn
    ·exact oV (hC (hA 24 38) (h0)) (.int .i64 ((List.length i.2.2.2.2.1 : Nat) : Int))
    ·exact oV (hC (hA 19 33) (hC (hA 25 39) (h0))) (.int .i64 (IntKind.wrap .i64 ((IntKind.wrap .i64 ((IntKind.wrap .i64 (((List.length f.2.1 : Nat) : Int) + ((List.length g.2.2.1 : Nat) : Int))) + ((List.length h.2.2.2.1 : Nat) : Int))) + ((List.length i.2.2.2.2.1 : Nat) : Int))))
    ·exact oV (hC (hA 26 40) (h0)) (.bool (decide ((IntKind.wrap .i64 ((IntKind.wrap .i64 ((IntKind.wrap .i64 (((List.length f.2.1 : Nat) : Int) + ((List.length g.2.2.1 : Nat) : Int))) + ((List.length h.2.2.2.1 : Nat) : Int))) + ((List.length i.2.2.2.2.1 : Nat) : Int))) > 2000)))
    ·rintro ρ' w' hs hf ⟨j2, u⟩
     refine Vd [(0, (.slice A2 (List.length p1) c3)), (3, (.int .i64 a)), (41, (.bool (decide ((IntKind.wrap .i64 ((IntKind.wrap .i64 ((IntKind.wrap .i64 (((List.length f.2.1 : Nat) : Int) + ((List.length g.2.2.1 : Nat) : Int))) + ((List.length h.2.2.2.1 : Nat) : Int))) + ((List.length i.2.2.2.2.1 : Nat) : Int))) > 2000))))] ⟨(hs 0 K).trans K, (hs 3 K).trans K, hf 27 41 K, trivial⟩ ?_
     obtain ⟨j3, g8⟩ : ∃ x, w' = x := ⟨_, rfl⟩
     rw [g8] at u ⊢
     refine Zq K (o := (.tmp 41)) K (b := (decide ((IntKind.wrap .i64 ((IntKind.wrap .i64 ((IntKind.wrap .i64 (((List.length f.2.1 : Nat) : Int) + ((List.length g.2.2.1 : Nat) : Int))) + ((List.length h.2.2.2.1 : Nat) : Int))) + ((List.length i.2.2.2.2.1 : Nat) : Int))) > 2000))) K (fun y => ?_) (fun y => ?_)
     ·have H := ct H y
      refine aQ ?_
      refine aR ?_
      refine iR 1 1 [(2, (.bool true))] ?_
      refine iF ?_
      refine At.ret K ?_
      refine ⟨(.bool true), K, ?_⟩
      obtain rfl := Qm H
      exact ⟨rfl, SP.sel u [] rfl rfl⟩
     ·have H := cf H y
      refine At.skip K ?_
      refine aR ?_
      refine iR 3 3 [(12, (.int .i64 a)), (13, (.int .i64 (IntKind.wrap .i64 (a + 1)))), (3, (.int .i64 (IntKind.wrap .i64 (a + 1))))] ?_
      refine iF ?_
      exact ⟨(IntKind.wrap .i64 (a + 1)), ⟨K, K, trivial⟩, SP.sel u [] rfl rfl, H⟩
   ·have H := cf H s
    refine At.exit K (id := 0) K ?_
    refine aQ ?_
    refine aR ?_
    refine iR 4 4 [(42, (.slice A2 (List.length p1) c3)), (43, (.int .i64 ((List.length p1 : Nat) : Int))), (44, (.bool (decide (((List.length p1 : Nat) : Int) > 100)))), (2, (.bool (decide (((List.length p1 : Nat) : Int) > 100))))] ?_
    refine iF ?_
    refine At.ret K ?_
    refine ⟨(.bool (decide (((List.length p1 : Nat) : Int) > 100))), K, ?_⟩
    obtain rfl := Qm H
    exact ⟨rfl, SP.sel a0 [] rfl rfl⟩
 ·exact ⟨0, ⟨K, K, trivial⟩, SP.sel b7 [] rfl rfl, H⟩
end Go.Proofs.YtmgfanhcdfobhaaGreatDoor
namespace Go.Proofs.YtmgfanhcdfobhaaGreatDoor
theorem fx_step {α : Type} {P : α → Bool} {l : List α} {i : Nat} (hi : i < l.length) (hn : (l.take i).any P = false) (hx : P l[i] = true) : l.findIdx? P = some i := by
  rw [List.findIdx?_eq_some_iff_getElem]
  refine ⟨hi, hx, fun j hj => ?_⟩
  rw [List.any_eq_false] at hn
  have := hn l[j] (by rw [List.mem_take_iff_getElem]; exact ⟨j, by omega, rfl⟩)
  simpa using this
theorem fx_none {α : Type} {P : α → Bool} {l : List α} (hn : l.any P = false) : l.findIdx? P = none := by
  rw [List.findIdx?_eq_none_iff]
  intro x hx
  rw [List.any_eq_false] at hn
  simpa using hn x hx
theorem fx_more {α : Type} {P : α → Bool} {l : List α} {i : Nat} (hi : i < l.length) (hn : (l.take i).any P = false) (hx : P l[i] = false) : (l.take (i + 1)).any P = false := by
  rw [List.take_add_one, List.getElem?_eq_getElem hi, List.any_append, hn]
  simp [hx]
def ixI (o : Option Nat) : Int := match o with | some i => (i : Int) | none => -1
theorem Hr (l : List Qk) (P : Qk → Bool) (p : Str → Int → Int → List Hm → List Bx → Option Bool) (hp : ∀ x : Qk, p x.1 x.2.1 x.2.2.1 x.2.2.2.1 x.2.2.2.2 = some (P x)) (hl : l.length ≤ 140737488355328) :
    ∀ (d i f : Nat), d = l.length - i → i ≤ l.length → d < f → (l.take i).any P = false → Qo l p f (i : Int) = some (ixI (l.findIdx? P)) := by
  intro d
  induction d with
  | zero =>
    intro i f hd hi hf hn
    obtain ⟨f, rfl⟩ : ∃ g, f = g + 1 := ⟨f - 1, by omega⟩
    show Qq (Qo l p f) l p (i : Int) = _
    unfold Qq
    rw [List.take_of_length_le (by omega)] at hn
    rw [show decide ((i : Int) < ((l.length : Nat) : Int)) = false from decide_eq_false (by omega), cond_false, fx_none hn]
    rfl
  | succ d ih =>
    intro i f hd hi hf hn
    obtain ⟨f, rfl⟩ : ∃ g, f = g + 1 := ⟨f - 1, by omega⟩
    have hlt : i < l.length := by omega
    show Qq (Qo l p f) l p (i : Int) = _
    unfold Qq
    rw [show decide ((i : Int) < ((l.length : Nat) : Int)) = true from decide_eq_true (by omega), cond_true, Ur hlt, Option.bind_some, hp, Option.bind_some]
    cases hx : P l[i] with
    | true => rw [cond_true, fx_step hlt hn hx]; rfl
    | false =>
      rw [cond_false, show ((i : Int) + 1) = ((i + 1 : Nat) : Int) by omega, G8 (by omega)]
      exact ih (i + 1) f (by omega) (by omega) (by omega) (fx_more hlt hn hx)
theorem Hs (l : List Bx) (P : Bx → Bool) (p : Str → Str → Int → Option Bool) (hp : ∀ x : Bx, p x.1 x.2.1 x.2.2 = some (P x)) (hl : l.length ≤ 140737488355328) :
    ∀ (d i f : Nat), d = l.length - i → i ≤ l.length → d < f → (l.take i).any P = false → Qp l p f (i : Int) = some (ixI (l.findIdx? P)) := by
  intro d
  induction d with
  | zero =>
    intro i f hd hi hf hn
    obtain ⟨f, rfl⟩ : ∃ g, f = g + 1 := ⟨f - 1, by omega⟩
    show Qs (Qp l p f) l p (i : Int) = _
    unfold Qs
    rw [List.take_of_length_le (by omega)] at hn
    rw [show decide ((i : Int) < ((l.length : Nat) : Int)) = false from decide_eq_false (by omega), cond_false, fx_none hn]
    rfl
  | succ d ih =>
    intro i f hd hi hf hn
    obtain ⟨f, rfl⟩ : ∃ g, f = g + 1 := ⟨f - 1, by omega⟩
    have hlt : i < l.length := by omega
    show Qs (Qp l p f) l p (i : Int) = _
    unfold Qs
    rw [show decide ((i : Int) < ((l.length : Nat) : Int)) = true from decide_eq_true (by omega), cond_true, Ur hlt, Option.bind_some, hp, Option.bind_some]
    cases hx : P l[i] with
    | true => rw [cond_true, fx_step hlt hn hx]; rfl
    | false =>
      rw [cond_false, show ((i : Int) + 1) = ((i + 1 : Nat) : Int) by omega, G8 (by omega)]
      exact ih (i + 1) f (by omega) (by omega) (by omega) (fx_more hlt hn hx)
theorem pl_lt' {l : List Qk} {nm : Str} {k : Nat} (h : pl l nm = some k) : k < l.length := (List.findIdx?_eq_some_iff_getElem.1 h).1
theorem lFind (w g i e : Int) (l : List Qk) (nm : Str) (hl : l.length ≤ 140737488355328) : Ja w g i e l nm = some (E7 l nm) := by
  have h := Hr l (fun x => x.1 == nm) (fun y0 y1 y2 y3 y4 => Jw y0 y1 y2 y3 y4 nm) (fun x => rfl) hl l.length 0 Xa (by omega) (by omega) (by unfold Xa; omega) rfl
  unfold Ja Q9
  rw [show ((0 : Nat) : Int) = 0 from rfl] at h
  rw [h, Option.bind_some]
  unfold E7
  show _ = some (match pl l nm with | some k => _ | none => _)
  rw [show l.findIdx? (fun x => x.1 == nm) = pl l nm from rfl]
  cases hp : pl l nm with
  | none => rfl
  | some k =>
    have hk := pl_lt' hp
    have hg : l.getD k E6 = l[k] := by simp [List.getD, hk]
    rw [show decide (ixI (some k) < 0) = false from decide_eq_false (by show ¬ ((k : Nat) : Int) < 0; omega), cond_false]
    show (idx l ((k : Nat) : Int)).bind _ = _
    rw [Ur hk, Option.bind_some]
    simp only [hg]
def tix (l : List Bx) (nm : Str) : Option Nat := l.findIdx? (fun x => x.1 == nm)
def dTok0 : Bx := ([], [], 0)
def tokL (l : List Bx) (nm : Str) : Str × Str × Int × Bool := match tix l nm with
  | some k => ((l.getD k dTok0).1, (l.getD k dTok0).2.1, (l.getD k dTok0).2.2, true)
  | none => ([], [], 0, false)
theorem tix_lt {l : List Bx} {nm : Str} {k : Nat} (h : tix l nm = some k) : k < l.length := (List.findIdx?_eq_some_iff_getElem.1 h).1
theorem lTok (n : Str) (a b : Int) (ns : List Hm) (l : List Bx) (nm : Str) (hl : l.length ≤ 140737488355328) : Yr n a b ns l nm = some (tokL l nm) := by
  have h := Hs l (fun x => x.1 == nm) (fun y0 y1 y2 => Jg y0 y1 y2 nm) (fun x => rfl) hl l.length 0 Xa (by omega) (by omega) (by unfold Xa; omega) rfl
  unfold Yr Vc
  rw [show ((0 : Nat) : Int) = 0 from rfl] at h
  rw [h, Option.bind_some]
  unfold tokL
  rw [show l.findIdx? (fun x => x.1 == nm) = tix l nm from rfl]
  cases hp : tix l nm with
  | none => rfl
  | some k =>
    have hk := tix_lt hp
    have hg : l.getD k dTok0 = l[k] := by simp [List.getD, hk]
    rw [show decide (ixI (some k) < 0) = false from decide_eq_false (by show ¬ ((k : Nat) : Int) < 0; omega), cond_false]
    show (idx l ((k : Nat) : Int)).bind _ = _
    rw [Ur hk, Option.bind_some]
    simp only [hg]
structure VC (l : List Qk) : Prop where
  len : l.length ≤ 9000
  q : ∀ t ∈ l, TenQ t
  s : ∀ t ∈ l, TenS t
  o : ∀ t ∈ l, E5 t = true
def Ej (l : List Qk) (t k : Str) : Str × Str × Int × Bool := tokL (E7 l t).2.2.2.2.1 k
def F2 (l : List Qk) (M : Yp) (t k : Str) (now : Int) : Bool := (Ej l t k).2.2.2 && ((J8 M (t, k) == 0) && decide (now < (Ej l t k).2.2.1))
def vRevB (l : List Qk) (M : Yp) (t k : Str) : Bool := (Ej l t k).2.2.2 && (J8 M (t, k) == 0)
def Ci (l : List Qk) (M : Yp) (t k : Str) : Yp := cond (Ej l t k).2.2.2 (Hb M (t, k) (J8 M (t, k) + 1)) M
section
variable {l : List Qk} (hv : VC l)
include hv
theorem C4 (t : Str) : (E7 l t).2.2.2.2.1.length ≤ 9000 := by
  unfold E7
  cases hp : pl l t with
  | none => simp
  | some k =>
    have hk := pl_lt' hp
    have hg : l.getD k E6 = l[k] := by simp [List.getD, hk]
    simp only [hg]
    exact (hv.s _ (List.getElem_mem hk)).2.2.1
theorem vtok_ok {t k : Str} (h : (Ej l t k).2.2.2 = true) : (Ej l t k).2.1.length ≤ 32 ∧ 0 ≤ (Ej l t k).2.2.1 ∧ (Ej l t k).2.2.1 ≤ 1099511627776 ∧ t.length ≤ 20 ∧ k.length ≤ 20 := by
  unfold Ej at h ⊢
  unfold E7 at h ⊢
  cases hp : pl l t with
  | none =>
    rw [hp] at h
    simp [tokL, tix] at h
  | some i =>
    have hi := pl_lt' hp
    have hg : l.getD i E6 = l[i] := by simp [List.getD, hi]
    rw [hp] at h
    simp only [hg] at h ⊢
    have ho := hv.o _ (List.getElem_mem hi)
    have hname : l[i].1 = t := by
      have := (List.findIdx?_eq_some_iff_getElem.1 hp).2.1
      simpa using this
    unfold E5 at ho
    simp only [Bool.and_eq_true, List.all_eq_true] at ho
    have hn := ho.2.1.1
    unfold Ca at hn
    simp only [Bool.and_eq_true, decide_eq_true_eq] at hn
    unfold tokL at h ⊢
    cases hp2 : tix l[i].2.2.2.2 k with
    | none => rw [hp2] at h; cases h
    | some j =>
      have hj := tix_lt hp2
      have hg2 : l[i].2.2.2.2.getD j dTok0 = l[i].2.2.2.2[j] := by simp [List.getD, hj]
      simp only [hg2]
      have hk := ho.1.2 _ (List.getElem_mem hj)
      have hname2 : l[i].2.2.2.2[j].1 = k := by
        have := (List.findIdx?_eq_some_iff_getElem.1 hp2).2.1
        simpa using this
      unfold Hn Ca at hk
      simp only [Bool.and_eq_true, decide_eq_true_eq] at hk
      rw [hname2] at hk
      rw [hname] at hn
      exact ⟨hk.2.1.2, hk.2.2.1, hk.2.2.2, hn.1.1.1.2, hk.1.1.1.1.2⟩
variable (w g i e : Int) (M : Yp) (t k : Str)
theorem pVGood (now : Int) : Ze w g i e l M t k now = some (F2 l M t k now) := by
  unfold Ze Zr V0
  rw [lFind _ _ _ _ _ _ (by have := hv.len; omega), Option.bind_some, lTok _ _ _ _ _ _ (by have := C4 hv t; omega), Option.bind_some]
  rw [show tokL (E7 l t).2.2.2.2.1 k = Ej l t k from rfl]
  unfold F2
  cases h : (Ej l t k).2.2.2 with
  | false => rfl
  | true =>
    obtain ⟨_, _, _, h1, h2⟩ := vtok_ok hv h
    rw [cond_true]
    unfold Yv Z9
    rw [show (Nat.ble t.length 140737488355328 && Nat.ble k.length 140737488355328) = true by simp; omega]
    simp only [chk, Option.bind_some]
    cases (J8 M (t, k) == 0) <;> rfl
theorem By (hM : 0 ≤ J8 M (t, k) ∧ J8 M (t, k) ≤ 1000000) : V2 w g i e l M t k = some (vRevB l M t k, w, g, i, e, Ci l M t k) := by
  unfold V2 Zm Vq
  rw [lFind _ _ _ _ _ _ (by have := hv.len; omega), Option.bind_some, lTok _ _ _ _ _ _ (by have := C4 hv t; omega), Option.bind_some]
  rw [show tokL (E7 l t).2.2.2.2.1 k = Ej l t k from rfl]
  unfold vRevB Ci
  cases h : (Ej l t k).2.2.2 with
  | false => rfl
  | true =>
    obtain ⟨_, _, _, h1, h2⟩ := vtok_ok hv h
    rw [cond_true]
    unfold Ya
    rw [show (Nat.ble t.length 140737488355328 && Nat.ble k.length 140737488355328) = true by simp; omega]
    simp only [chk, Option.bind_some, cond_true, Bool.true_and]
    rw [Bp (by omega), Cg, if_pos rfl]
    rw [show (J8 M (t, k) + 1 == 1) = (J8 M (t, k) == 0) by rw [Bool.eq_iff_iff, beq_iff_eq, beq_iff_eq]; omega]
end
theorem pVNew (w g i e : Int) (l : List Qk) (hl : l.length ≤ 140737488355328) (hq : ∀ t ∈ l, TenQ t) : X5 w g i e l = some (cond (Ef w g i e l) (some (w, g, i, e, [])) none) := by
  unfold X5
  rw [lCfg w g i e l hl hq, Option.bind_some]
  cases Ef w g i e l <;> rfl
theorem vc_of {w g i e : Int} {l : List Qk} (hk : Ef w g i e l = true) (hl : l.length ≤ 9000) (hq : ∀ t ∈ l, TenQ t) (hs : ∀ t ∈ l, TenS t) : VC l := by
  refine ⟨hl, hq, hs, ?_⟩
  unfold Ef at hk
  simp only [Bool.and_eq_true, List.all_eq_true] at hk
  exact hk.2.2.1
end Go.Proofs.YtmgfanhcdfobhaaGreatDoor
namespace Go.Proofs.YtmgfanhcdfobhaaGreatDoor
open Go.RowKit
def J5  : Option Unit :=
  (some ())
set_option maxRecDepth 100000 in
set_option maxHeartbeats 4000000 in
theorem Ru   (w0 : World)  (r : Unit) (H : J5  = some r) :
  Calls Tryz.prog 42 #[] w0 (fun e w' => ∃ (g7 : Nat) (b : Nat), e = .returned (.agg #[(.int .i64 9), (.int .i64 9), (.int .i64 9), (.int .i64 9), (.slice (some ⟨b, 0, none⟩) (List.length ([(([97, 110, 110] : List UInt8), 0, 0, ([] : List (Int × Int)), ([(([107] : List UInt8), ([115] : List UInt8), 5)] : List ((List UInt8) × (List UInt8) × Int)))] : List Qk)) (List.length ([(([97, 110, 110] : List UInt8), 0, 0, ([] : List (Int × Int)), ([(([107] : List UInt8), ([115] : List UInt8), 5)] : List ((List UInt8) × (List UInt8) × Int)))] : List Qk)))]) ∧ SP [] w0 w' [X6 48 (Qj Q4 (Qj Q4 (Qd .i64))) (some ⟨g7, 0, none⟩) (List.length ([(([107] : List UInt8), ([115] : List UInt8), 5)] : List ((List UInt8) × (List UInt8) × Int))) ([(([107] : List UInt8), ([115] : List UInt8), 5)] : List ((List UInt8) × (List UInt8) × Int)), X6 44 Nd (some ⟨b, 0, none⟩) (List.length ([(([97, 110, 110] : List UInt8), 0, 0, ([] : List (Int × Int)), ([(([107] : List UInt8), ([115] : List UInt8), 5)] : List ((List UInt8) × (List UInt8) × Int)))] : List Qk)) ([(([97, 110, 110] : List UInt8), 0, 0, (none, 0, ([] : List (Int × Int))), ((some ⟨g7, 0, none⟩), (List.length ([(([107] : List UInt8), ([115] : List UInt8), 5)] : List ((List UInt8) × (List UInt8) × Int))), ([(([107] : List UInt8), ([115] : List UInt8), 5)] : List ((List UInt8) × (List UInt8) × Int))))] : List Vl)]) := by
 unfold J5 at H
 refine Qv (n := 6) Tryz.func42 K K K ?_
 have f := Q0 [] w0
 refine aQ ?_
 refine aR ?_
 refine iS 1 ?_
 refine Qi.alloc (t := 24) (z := (.agg #[(.int .i64 0), (.int .i64 0), (.int .i64 0), (.int .i64 0), (.slice none (List.length ([] : List Qk)) 0)])) (d := (some 0)) (k := 0) K rfl K f ?_
 intro g3 w4 h
 refine iF ?_
 refine aQ ?_
 refine aR ?_
 refine iR 1 1 [(1, (.agg #[(.string ⟨List.toArray ([107] : List UInt8)⟩), (.string ⟨List.toArray ([115] : List UInt8)⟩), (.int .i64 5)]))] ?_
 refine iS 2 ?_
 refine V6 (e := (Qj Q4 (Qj Q4 (Qd .i64)))) (T := 42) (E := 48) (len := 1) (parts := #[(0, (.tmp 1))]) (cs := #[(.string ⟨List.toArray ([107] : List UInt8)⟩), (.string ⟨List.toArray ([115] : List UInt8)⟩), (.int .i64 5)]) ([(([107] : List UInt8), ([115] : List UInt8), 5)] : List ((List UInt8) × (List UInt8) × Int)) (d := (some 2)) (k := 1) K rfl (fun _ => K) h rfl rfl rfl rfl ?_
 intro g7 w8 j
 refine iR 1 3 [(3, (.agg #[(.string ⟨List.toArray ([97, 110, 110] : List UInt8)⟩), (.int .i64 0), (.int .i64 0), (.slice none (List.length ([] : List (Int × Int))) 0), (.slice (some ⟨g7, 0, none⟩) (List.length ([(([107] : List UInt8), ([115] : List UInt8), 5)] : List ((List UInt8) × (List UInt8) × Int))) (List.length ([(([107] : List UInt8), ([115] : List UInt8), 5)] : List ((List UInt8) × (List UInt8) × Int))))]))] ?_
 refine iS 4 ?_
 refine V6 (e := Nd) (T := 22) (E := 44) (len := 1) (parts := #[(0, (.tmp 3))]) (cs := #[(.string ⟨List.toArray ([97, 110, 110] : List UInt8)⟩), (.int .i64 0), (.int .i64 0), (.slice none (List.length ([] : List (Int × Int))) 0), (.slice (some ⟨g7, 0, none⟩) (List.length ([(([107] : List UInt8), ([115] : List UInt8), 5)] : List ((List UInt8) × (List UInt8) × Int))) (List.length ([(([107] : List UInt8), ([115] : List UInt8), 5)] : List ((List UInt8) × (List UInt8) × Int))))]) ([(([97, 110, 110] : List UInt8), 0, 0, (none, 0, ([] : List (Int × Int))), ((some ⟨g7, 0, none⟩), (List.length ([(([107] : List UInt8), ([115] : List UInt8), 5)] : List ((List UInt8) × (List UInt8) × Int))), ([(([107] : List UInt8), ([115] : List UInt8), 5)] : List ((List UInt8) × (List UInt8) × Int))))] : List Vl) (d := (some 4)) (k := 3) K rfl (fun _ => K) j rfl rfl rfl rfl ?_
 intro b m l
 refine iR 1 5 [(5, (.agg #[(.int .i64 9), (.int .i64 9), (.int .i64 9), (.int .i64 9), (.slice (some ⟨b, 0, none⟩) (List.length ([(([97, 110, 110] : List UInt8), 0, 0, ([] : List (Int × Int)), ([(([107] : List UInt8), ([115] : List UInt8), 5)] : List ((List UInt8) × (List UInt8) × Int)))] : List Qk)) (List.length ([(([97, 110, 110] : List UInt8), 0, 0, ([] : List (Int × Int)), ([(([107] : List UInt8), ([115] : List UInt8), 5)] : List ((List UInt8) × (List UInt8) × Int)))] : List Qk)))]))] ?_
 refine iS 6 ?_
 refine Qi.store (t := 24) (x := (.tmp 0)) (y := (.tmp 5)) (g := g3) (off := 0) (i := 0) (v := (.agg #[(.int .i64 9), (.int .i64 9), (.int .i64 9), (.int .i64 9), (.slice (some ⟨b, 0, none⟩) (List.length ([(([97, 110, 110] : List UInt8), 0, 0, ([] : List (Int × Int)), ([(([107] : List UInt8), ([115] : List UInt8), 5)] : List ((List UInt8) × (List UInt8) × Int)))] : List Qk)) (List.length ([(([97, 110, 110] : List UInt8), 0, 0, ([] : List (Int × Int)), ([(([107] : List UInt8), ([115] : List UInt8), 5)] : List ((List UInt8) × (List UInt8) × Int)))] : List Qk)))])) (cs' := #[(.int .i64 9), (.int .i64 9), (.int .i64 9), (.int .i64 9), (.slice (some ⟨b, 0, none⟩) (List.length ([(([97, 110, 110] : List UInt8), 0, 0, ([] : List (Int × Int)), ([(([107] : List UInt8), ([115] : List UInt8), 5)] : List ((List UInt8) × (List UInt8) × Int)))] : List Qk)) (List.length ([(([97, 110, 110] : List UInt8), 0, 0, ([] : List (Int × Int)), ([(([107] : List UInt8), ([115] : List UInt8), 5)] : List ((List UInt8) × (List UInt8) × Int)))] : List Qk)))]) (d := none) (k := 5) K rfl K K l rfl K ?_
 intro o c
 refine iF ?_
 refine At.ret K ?_
 refine ⟨(.agg #[(.int .i64 9), (.int .i64 9), (.int .i64 9), (.int .i64 9), (.slice (some ⟨b, 0, none⟩) (List.length ([(([97, 110, 110] : List UInt8), 0, 0, ([] : List (Int × Int)), ([(([107] : List UInt8), ([115] : List UInt8), 5)] : List ((List UInt8) × (List UInt8) × Int)))] : List Qk)) (List.length ([(([97, 110, 110] : List UInt8), 0, 0, ([] : List (Int × Int)), ([(([107] : List UInt8), ([115] : List UInt8), 5)] : List ((List UInt8) × (List UInt8) × Int)))] : List Qk)))]), Dz K (B7 (a := 0) (t := 24) (g := g3) (off := 0) K (SP.get c (i := 0) rfl) K), ?_⟩
 exact ⟨g7, b, rfl, SP.sel c [1, 2] rfl rfl⟩
def Vg (a : Bool) : Option (Bool) :=
  (some (a))
def Xk (a : (Int × Int × Int × Int × Yp)) (e : Bool) : Option (Bool) :=
  (cond e (some (false)) ((Uu ([(115 : UInt8)] : List UInt8) ([([97, 110, 110] : List UInt8), ([107] : List UInt8), ([110] : List UInt8)] : List (List UInt8))).bind fun d => ((Xg a.1 a.2.1 a.2.2.1 a.2.2.2.1 ([(([97, 110, 110] : List UInt8), 0, 0, ([] : List (Int × Int)), ([(([107] : List UInt8), ([115] : List UInt8), 5)] : List ((List UInt8) × (List UInt8) × Int)))] : List Qk) a.2.2.2.2 ([97, 110, 110] : List UInt8) ([107] : List UInt8) ([110] : List UInt8) d 4).bind fun f => ((Xg a.1 a.2.1 a.2.2.1 a.2.2.2.1 ([(([97, 110, 110] : List UInt8), 0, 0, ([] : List (Int × Int)), ([(([107] : List UInt8), ([115] : List UInt8), 5)] : List ((List UInt8) × (List UInt8) × Int)))] : List Qk) a.2.2.2.2 ([97, 110, 110] : List UInt8) ([107] : List UInt8) ([110] : List UInt8) d 5).bind fun g => ((Xg a.1 a.2.1 a.2.2.1 a.2.2.2.1 ([(([97, 110, 110] : List UInt8), 0, 0, ([] : List (Int × Int)), ([(([107] : List UInt8), ([115] : List UInt8), 5)] : List ((List UInt8) × (List UInt8) × Int)))] : List Qk) a.2.2.2.2 ([97, 110, 110] : List UInt8) ([107] : List UInt8) ([109] : List UInt8) d 4).bind fun h => ((Ze a.1 a.2.1 a.2.2.1 a.2.2.2.1 ([(([97, 110, 110] : List UInt8), 0, 0, ([] : List (Int × Int)), ([(([107] : List UInt8), ([115] : List UInt8), 5)] : List ((List UInt8) × (List UInt8) × Int)))] : List Qk) a.2.2.2.2 ([97, 110, 110] : List UInt8) ([107] : List UInt8) 4).bind fun i => ((V2 a.1 a.2.1 a.2.2.1 a.2.2.2.1 ([(([97, 110, 110] : List UInt8), 0, 0, ([] : List (Int × Int)), ([(([107] : List UInt8), ([115] : List UInt8), 5)] : List ((List UInt8) × (List UInt8) × Int)))] : List Qk) a.2.2.2.2 ([97, 110, 110] : List UInt8) ([107] : List UInt8)).bind fun c => ((V2 c.2.1 c.2.2.1 c.2.2.2.1 c.2.2.2.2.1 ([(([97, 110, 110] : List UInt8), 0, 0, ([] : List (Int × Int)), ([(([107] : List UInt8), ([115] : List UInt8), 5)] : List ((List UInt8) × (List UInt8) × Int)))] : List Qk) c.2.2.2.2.2 ([97, 110, 110] : List UInt8) ([107] : List UInt8)).bind fun b => ((Xg b.2.1 b.2.2.1 b.2.2.2.1 b.2.2.2.2.1 ([(([97, 110, 110] : List UInt8), 0, 0, ([] : List (Int × Int)), ([(([107] : List UInt8), ([115] : List UInt8), 5)] : List ((List UInt8) × (List UInt8) × Int)))] : List Qk) b.2.2.2.2.2 ([97, 110, 110] : List UInt8) ([107] : List UInt8) ([110] : List UInt8) d 4).bind fun j => (cond (f == 0) (cond (g == 3) (cond (h == 101) (cond i (cond c.1 (cond (!b.1) (cond (j == 3) ((Yn b.2.1 b.2.2.1 b.2.2.2.1 b.2.2.2.2.1 ([(([97, 110, 110] : List UInt8), 0, 0, ([] : List (Int × Int)), ([(([107] : List UInt8), ([115] : List UInt8), 5)] : List ((List UInt8) × (List UInt8) × Int)))] : List Qk) b.2.2.2.2.2 ([97, 110, 110] : List UInt8) ([107] : List UInt8) ([110] : List UInt8)).bind fun k => (cond (k == d) ((Yn b.2.1 b.2.2.1 b.2.2.2.1 b.2.2.2.2.1 ([(([97, 110, 110] : List UInt8), 0, 0, ([] : List (Int × Int)), ([(([107] : List UInt8), ([115] : List UInt8), 5)] : List ((List UInt8) × (List UInt8) × Int)))] : List Qk) b.2.2.2.2.2 ([97, 110, 110] : List UInt8) ([122] : List UInt8) ([110] : List UInt8)).bind fun l => (cond (l == ([] : List UInt8)) ((Ze b.2.1 b.2.2.1 b.2.2.2.1 b.2.2.2.2.1 ([(([97, 110, 110] : List UInt8), 0, 0, ([] : List (Int × Int)), ([(([107] : List UInt8), ([115] : List UInt8), 5)] : List ((List UInt8) × (List UInt8) × Int)))] : List Qk) b.2.2.2.2.2 ([97, 110, 110] : List UInt8) ([107] : List UInt8) 0).bind fun m => (Vg (!m))) (Vg false))) (Vg false))) (Vg false)) (Vg false)) (Vg false)) (Vg false)) (Vg false)) (Vg false)) (Vg false)))))))))))
def Yo  : Option (Bool) :=
  ((J5 ).bind fun z1 => ((X5 9 9 9 9 ([(([97, 110, 110] : List UInt8), 0, 0, ([] : List (Int × Int)), ([(([107] : List UInt8), ([115] : List UInt8), 5)] : List ((List UInt8) × (List UInt8) × Int)))] : List Qk)).bind fun z9 => (optE z9 (some (false)) (fun a => ((X5 0 0 0 0 ([] : List Qk)).bind fun b => (optE b (Xk a false) (fun c => (Xk a true))))))))
set_option maxRecDepth 100000 in
set_option maxHeartbeats 4000000 in
theorem Ri   (w0 : World) (hL : D0 w0)  (r : (Bool)) (H : Yo  = some r) :
  Calls Tryz.prog 15 #[] w0 (fun e w' => e = .returned (.bool r) ∧ SP [] w0 w' []) := by
 unfold Yo at H
 refine Qv (n := 81) Tryz.func15 K K K ?_
 have g1 := Q0 [] w0
 refine aQ ?_
 refine aR ?_
 refine iR 1 1 [(0, (.bool false))] ?_
 refine iF ?_
 refine aQ ?_
 refine aR ?_
 obtain ⟨z1, g2, H⟩ := Qe H
 refine iS 1 ?_
 refine cF 42 #[] #[] 10 Tryz.call42 (Ru   w0  z1 g2) ?_
 rintro e w3 ⟨g5, g6, rfl, d2⟩
 refine ⟨_, rfl, ?_⟩
 have z := SP.call g1 d2
 clear d2
 obtain ⟨z9, d3, H⟩ := Qe H
 rcases z9 with _ | f
 ·have H := optN H
  refine iS 2 ?_
  refine cF 18 #[(.tmp 10)] #[24] 11 Tryz.call18 (Zt (some ⟨g6, 0, none⟩) (List.length ([(([97, 110, 110] : List UInt8), 0, 0, ([] : List (Int × Int)), ([(([107] : List UInt8), ([115] : List UInt8), 5)] : List ((List UInt8) × (List UInt8) × Int)))] : List Qk)) 9 9 9 9 ([(([97, 110, 110] : List UInt8), 0, 0, (none, 0, ([] : List (Int × Int))), ((some ⟨g5, 0, none⟩), (List.length ([(([107] : List UInt8), ([115] : List UInt8), 5)] : List ((List UInt8) × (List UInt8) × Int))), ([(([107] : List UInt8), ([115] : List UInt8), 5)] : List ((List UInt8) × (List UInt8) × Int))))] : List Vl) w3 (Zg hL (SP.keeps z)) (Bs (Vk (SP.get z (i := 1) rfl)) (Nu (X1 Jp (X1 Jp (X1 Jp (X1 (U3 (RdT.nil (Qj (Qd .u32) (Qd .i64)) w3)) (U3 (Vk (SP.get z (i := 0) rfl))))))) Rm)) none d3) ?_
  rintro e i9 ⟨rfl, d4⟩
  refine ⟨_, rfl, ?_⟩
  have g3 := SP.call z d4
  clear d4
  refine iR 1 3 [(1, (.pointer none))] ?_
  refine iF ?_
  refine aQ ?_
  refine aQ ?_
  refine aR ?_
  refine iR 7 7 [(12, (.pointer none)), (13, (.bool true)), (14, (.bool true)), (15, undef), (16, undef), (17, undef), (18, (.bool true))] ?_
  refine iF ?_
  refine Zq K (o := (.tmp 18)) K (b := true) K (fun d5 => ?_) (fun d5 => ?_)
  rotate_left
  ·cases d5
  refine aQ ?_
  refine aR ?_
  refine iR 1 1 [(0, (.bool false))] ?_
  refine iF ?_
  refine At.ret K ?_
  refine ⟨(.bool false), K, ?_⟩
  obtain rfl := Qm H
  exact ⟨rfl, SP.sel g3 [] rfl rfl⟩
 ·have H := optS H
  refine iS 2 ?_
  refine cF 18 #[(.tmp 10)] #[24] 11 Tryz.call18 (Zt (some ⟨g6, 0, none⟩) (List.length ([(([97, 110, 110] : List UInt8), 0, 0, ([] : List (Int × Int)), ([(([107] : List UInt8), ([115] : List UInt8), 5)] : List ((List UInt8) × (List UInt8) × Int)))] : List Qk)) 9 9 9 9 ([(([97, 110, 110] : List UInt8), 0, 0, (none, 0, ([] : List (Int × Int))), ((some ⟨g5, 0, none⟩), (List.length ([(([107] : List UInt8), ([115] : List UInt8), 5)] : List ((List UInt8) × (List UInt8) × Int))), ([(([107] : List UInt8), ([115] : List UInt8), 5)] : List ((List UInt8) × (List UInt8) × Int))))] : List Vl) w3 (Zg hL (SP.keeps z)) (Bs (Vk (SP.get z (i := 1) rfl)) (Nu (X1 Jp (X1 Jp (X1 Jp (X1 (U3 (RdT.nil (Qj (Qd .u32) (Qd .i64)) w3)) (U3 (Vk (SP.get z (i := 0) rfl))))))) Rm)) (some f) d3) ?_
  rintro e b2 ⟨j, m, rfl, d6⟩
  refine ⟨_, rfl, ?_⟩
  have b3 := SP.call z d6
  clear d6
  refine iR 1 3 [(1, (pt j 0))] ?_
  refine iF ?_
  refine aQ ?_
  refine aQ ?_
  refine At.join (fun ρ w => ∃ (a3 : Bool), Zf ρ [(1, (pt j 0)), (18, (.bool a3))] ∧ SP [] w0 w [X6 44 Nd (some ⟨g6, 0, none⟩) (List.length ([(([97, 110, 110] : List UInt8), 0, 0, ([] : List (Int × Int)), ([(([107] : List UInt8), ([115] : List UInt8), 5)] : List ((List UInt8) × (List UInt8) × Int)))] : List Qk)) ([(([97, 110, 110] : List UInt8), 0, 0, (none, 0, ([] : List (Int × Int))), ((some ⟨g5, 0, none⟩), (List.length ([(([107] : List UInt8), ([115] : List UInt8), 5)] : List ((List UInt8) × (List UInt8) × Int))), ([(([107] : List UInt8), ([115] : List UInt8), 5)] : List ((List UInt8) × (List UInt8) × Int))))] : List Vl), X6 48 (Qj Q4 (Qj Q4 (Qd .i64))) (some ⟨g5, 0, none⟩) (List.length ([(([107] : List UInt8), ([115] : List UInt8), 5)] : List ((List UInt8) × (List UInt8) × Int))) ([(([107] : List UInt8), ([115] : List UInt8), 5)] : List ((List UInt8) × (List UInt8) × Int)), Qx j 79 #[(.int .i64 f.1), (.int .i64 f.2.1), (.int .i64 f.2.2.1), (.int .i64 f.2.2.2.1), (.slice (some ⟨g6, 0, none⟩) (List.length ([(([97, 110, 110] : List UInt8), 0, 0, ([] : List (Int × Int)), ([(([107] : List UInt8), ([115] : List UInt8), 5)] : List ((List UInt8) × (List UInt8) × Int)))] : List Qk)) (List.length ([(([97, 110, 110] : List UInt8), 0, 0, ([] : List (Int × Int)), ([(([107] : List UInt8), ([115] : List UInt8), 5)] : List ((List UInt8) × (List UInt8) × Int)))] : List Qk))), (.map (some m))], Vf m f.2.2.2.2] ∧ Xk f a3 = some r) ?_ ?_
  ·refine aR ?_
   refine iR 4 4 [(12, (pt j 0)), (13, (.bool false)), (14, (.bool false)), (15, (.agg #[(.int .i64 0), (.int .i64 0), (.int .i64 0), (.int .i64 0), (.slice none (List.length ([] : List Qk)) 0)]))] ?_
   obtain ⟨g4, d7, H⟩ := Qe H
   rcases g4 with _ | g7
   ·have H := optN H
    refine iS 5 ?_
    refine cF 18 #[(.tmp 15)] #[24] 16 Tryz.call18 (Zt none 0 0 0 0 0 ([] : List Vl) b2 (Zg hL (SP.keeps b3)) (Rk Nd Cn b2) none d7) ?_
    rintro e j0 ⟨rfl, d8⟩
    refine ⟨_, rfl, ?_⟩
    have g8 := SP.call b3 d8
    clear d8
    refine iR 2 7 [(17, (.bool false)), (18, (.bool false))] ?_
    refine iF ?_
    exact ⟨false, ⟨K, K, trivial⟩, SP.sel g8 [1, 0, 2, 3] rfl rfl, H⟩
   ·have H := optS H
    refine iS 5 ?_
    refine cF 18 #[(.tmp 15)] #[24] 16 Tryz.call18 (Zt none 0 0 0 0 0 ([] : List Vl) b2 (Zg hL (SP.keeps b3)) (Rk Nd Cn b2) (some g7) d7) ?_
    rintro e j1 ⟨j2, j3, rfl, d9⟩
    refine ⟨_, rfl, ?_⟩
    have g9 := SP.call b3 d9
    clear d9
    refine iR 2 7 [(17, (.bool true)), (18, (.bool true))] ?_
    refine iF ?_
    exact ⟨true, ⟨K, K, trivial⟩, SP.sel g9 [1, 0, 2, 3] rfl rfl, H⟩
  ·rintro ρ j4 ⟨a3, hk, e0, H⟩
   unfold Xk at H
   first | refine At.known [(1, (pt j 0)), (18, (.bool a3))] hk ?_ | rw [← Q8 (l := [(1, (pt j 0)), (18, (.bool a3))]) hk]
   refine Zq K (o := (.tmp 18)) K (b := a3) K (fun c1 => ?_) (fun c1 => ?_)
   ·have H := ct H c1
    refine aQ ?_
    refine aR ?_
    refine iR 1 1 [(0, (.bool false))] ?_
    refine iF ?_
    refine At.ret K ?_
    refine ⟨(.bool false), K, ?_⟩
    obtain rfl := Qm H
    exact ⟨rfl, SP.sel e0 [] rfl rfl⟩
   ·have H := cf H c1
    refine At.skip K ?_
    refine aQ ?_
    refine aR ?_
    refine iS 1 ?_
    refine V6 (e := eU8) (T := 52) (E := 5) (len := 1) (parts := #[(0, (.const (.int .u8 (115))))]) (cs := #[(.int .u8 115)]) ([(115 : UInt8)] : List UInt8) (d := (some 19)) (k := 0) K rfl (fun _ => K) e0 (Y1 (Or.inl rfl) rfl) rfl rfl rfl ?_
    intro s j5 h1
    refine iS 2 ?_
    refine Qi.mark (T := 52) (E := 5) (x := (.tmp 19)) (g := s) (c := (List.length ([(115 : UInt8)] : List UInt8))) (i := 4) (l := ([(115 : UInt8)] : List UInt8)) (d := (some 20)) (k := 1) K rfl K K K h1 rfl ?_
    intro j6 h2
    refine iS 3 ?_
    refine V6 (e := Q4) (T := 53) (E := 9) (len := 3) (parts := #[(0, (.const (.string ⟨List.toArray ([97, 110, 110] : List UInt8)⟩))), (1, (.const (.string ⟨List.toArray ([107] : List UInt8)⟩))), (2, (.const (.string ⟨List.toArray ([110] : List UInt8)⟩)))]) (cs := #[(.string ⟨List.toArray ([97, 110, 110] : List UInt8)⟩), (.string ⟨List.toArray ([107] : List UInt8)⟩), (.string ⟨List.toArray ([110] : List UInt8)⟩)]) ([([97, 110, 110] : List UInt8), ([107] : List UInt8), ([110] : List UInt8)] : List (List UInt8)) (d := (some 21)) (k := 2) K rfl (fun _ => K) h2 rfl rfl rfl rfl ?_
    intro u h3 c2
    obtain ⟨p, h4, H⟩ := Qe H
    refine iS 4 ?_
    refine cF 30 #[(.tmp 20), (.tmp 21)] #[52, 53] 22 Tryz.call30 (Gz (some ⟨s, 0, none⟩) (List.length ([(115 : UInt8)] : List UInt8)) (some ⟨u, 0, none⟩) (List.length ([([97, 110, 110] : List UInt8), ([107] : List UInt8), ([110] : List UInt8)] : List (List UInt8))) ([(115 : UInt8)] : List UInt8) ([([97, 110, 110] : List UInt8), ([107] : List UInt8), ([110] : List UInt8)] : List (List UInt8)) h3 (F5 (SP.get c2 (i := 4) rfl)) (Vk (SP.get c2 (i := 5) rfl)) p h4) ?_
    rintro e h5 ⟨rfl, e1⟩
    refine ⟨_, rfl, ?_⟩
    have b4 := SP.call c2 e1
    clear e1
    refine iR 1 5 [(2, (.string ⟨List.toArray p⟩))] ?_
    refine iF ?_
    refine aQ ?_
    refine aR ?_
    refine iR 2 2 [(23, (pt j 0)), (24, (.string ⟨List.toArray p⟩))] ?_
    obtain ⟨a4, h6, H⟩ := Qe H
    refine iS 3 ?_
    refine cF 26 #[(.tmp 23), (.const (.string ⟨List.toArray ([97, 110, 110] : List UInt8)⟩)), (.const (.string ⟨List.toArray ([107] : List UInt8)⟩)), (.const (.string ⟨List.toArray ([110] : List UInt8)⟩)), (.tmp 24), (.const (.int .i64 (4)))] #[29, 9, 9, 9, 9, 2] 25 Tryz.call26 (Xp j (some ⟨g6, 0, none⟩) (List.length ([(([97, 110, 110] : List UInt8), 0, 0, ([] : List (Int × Int)), ([(([107] : List UInt8), ([115] : List UInt8), 5)] : List ((List UInt8) × (List UInt8) × Int)))] : List Qk)) m f.1 f.2.1 f.2.2.1 f.2.2.2.1 ([(([97, 110, 110] : List UInt8), 0, 0, (none, 0, ([] : List (Int × Int))), ((some ⟨g5, 0, none⟩), (List.length ([(([107] : List UInt8), ([115] : List UInt8), 5)] : List ((List UInt8) × (List UInt8) × Int))), ([(([107] : List UInt8), ([115] : List UInt8), 5)] : List ((List UInt8) × (List UInt8) × Int))))] : List Vl) f.2.2.2.2 ([97, 110, 110] : List UInt8) ([107] : List UInt8) ([110] : List UInt8) p 4 h5 (Yc b4 [2, 3] rfl rfl) (fun w hm => Bs (Vk (SP.still b4 (l := [2, 3]) (i := 0) rfl rfl rfl hm)) (Nu (X1 Jp (X1 Jp (X1 Jp (X1 (Rk (Qj (Qd .u32) (Qd .i64)) dT w) (U3 (Vk (SP.still b4 (l := [2, 3]) (i := 1) rfl rfl rfl hm))))))) Rm)) a4 h6) ?_
    rintro e e2 ⟨rfl, e3⟩
    refine ⟨_, rfl, ?_⟩
    have b5 : SP [] w0 e2 [X6 44 Nd (some ⟨g6, 0, none⟩) (List.length ([(([97, 110, 110] : List UInt8), 0, 0, ([] : List (Int × Int)), ([(([107] : List UInt8), ([115] : List UInt8), 5)] : List ((List UInt8) × (List UInt8) × Int)))] : List Qk)) ([(([97, 110, 110] : List UInt8), 0, 0, (none, 0, ([] : List (Int × Int))), ((some ⟨g5, 0, none⟩), (List.length ([(([107] : List UInt8), ([115] : List UInt8), 5)] : List ((List UInt8) × (List UInt8) × Int))), ([(([107] : List UInt8), ([115] : List UInt8), 5)] : List ((List UInt8) × (List UInt8) × Int))))] : List Vl), X6 48 (Qj Q4 (Qj Q4 (Qd .i64))) (some ⟨g5, 0, none⟩) (List.length ([(([107] : List UInt8), ([115] : List UInt8), 5)] : List ((List UInt8) × (List UInt8) × Int))) ([(([107] : List UInt8), ([115] : List UInt8), 5)] : List ((List UInt8) × (List UInt8) × Int)), rdE eU8 (some ⟨s, 0, none⟩) (List.length ([(115 : UInt8)] : List UInt8)) ([(115 : UInt8)] : List UInt8), X6 9 Q4 (some ⟨u, 0, none⟩) (List.length ([([97, 110, 110] : List UInt8), ([107] : List UInt8), ([110] : List UInt8)] : List (List UInt8))) ([([97, 110, 110] : List UInt8), ([107] : List UInt8), ([110] : List UInt8)] : List (List UInt8)), Qx j 79 #[(.int .i64 f.1), (.int .i64 f.2.1), (.int .i64 f.2.2.1), (.int .i64 f.2.2.2.1), (.slice (some ⟨g6, 0, none⟩) (List.length ([(([97, 110, 110] : List UInt8), 0, 0, ([] : List (Int × Int)), ([(([107] : List UInt8), ([115] : List UInt8), 5)] : List ((List UInt8) × (List UInt8) × Int)))] : List Qk)) (List.length ([(([97, 110, 110] : List UInt8), 0, 0, ([] : List (Int × Int)), ([(([107] : List UInt8), ([115] : List UInt8), 5)] : List ((List UInt8) × (List UInt8) × Int)))] : List Qk))), (.map (some m))], Vf m f.2.2.2.2] := Zk b4 [2, 3] [0, 1, 4, 5] rfl rfl e3 rfl
    clear e3
    refine iR 1 4 [(3, (.int .i64 a4))] ?_
    refine iF ?_
    refine aQ ?_
    refine aR ?_
    refine iR 2 2 [(26, (pt j 0)), (27, (.string ⟨List.toArray p⟩))] ?_
    obtain ⟨a0, h7, H⟩ := Qe H
    refine iS 3 ?_
    refine cF 26 #[(.tmp 26), (.const (.string ⟨List.toArray ([97, 110, 110] : List UInt8)⟩)), (.const (.string ⟨List.toArray ([107] : List UInt8)⟩)), (.const (.string ⟨List.toArray ([110] : List UInt8)⟩)), (.tmp 27), (.const (.int .i64 (5)))] #[29, 9, 9, 9, 9, 2] 28 Tryz.call26 (Xp j (some ⟨g6, 0, none⟩) (List.length ([(([97, 110, 110] : List UInt8), 0, 0, ([] : List (Int × Int)), ([(([107] : List UInt8), ([115] : List UInt8), 5)] : List ((List UInt8) × (List UInt8) × Int)))] : List Qk)) m f.1 f.2.1 f.2.2.1 f.2.2.2.1 ([(([97, 110, 110] : List UInt8), 0, 0, (none, 0, ([] : List (Int × Int))), ((some ⟨g5, 0, none⟩), (List.length ([(([107] : List UInt8), ([115] : List UInt8), 5)] : List ((List UInt8) × (List UInt8) × Int))), ([(([107] : List UInt8), ([115] : List UInt8), 5)] : List ((List UInt8) × (List UInt8) × Int))))] : List Vl) f.2.2.2.2 ([97, 110, 110] : List UInt8) ([107] : List UInt8) ([110] : List UInt8) p 5 e2 (Yc b5 [4, 5] rfl rfl) (fun w hm => Bs (Vk (SP.still b5 (l := [4, 5]) (i := 0) rfl rfl rfl hm)) (Nu (X1 Jp (X1 Jp (X1 Jp (X1 (Rk (Qj (Qd .u32) (Qd .i64)) dT w) (U3 (Vk (SP.still b5 (l := [4, 5]) (i := 1) rfl rfl rfl hm))))))) Rm)) a0 h7) ?_
    rintro e e4 ⟨rfl, e5⟩
    refine ⟨_, rfl, ?_⟩
    have b6 : SP [] w0 e4 [X6 44 Nd (some ⟨g6, 0, none⟩) (List.length ([(([97, 110, 110] : List UInt8), 0, 0, ([] : List (Int × Int)), ([(([107] : List UInt8), ([115] : List UInt8), 5)] : List ((List UInt8) × (List UInt8) × Int)))] : List Qk)) ([(([97, 110, 110] : List UInt8), 0, 0, (none, 0, ([] : List (Int × Int))), ((some ⟨g5, 0, none⟩), (List.length ([(([107] : List UInt8), ([115] : List UInt8), 5)] : List ((List UInt8) × (List UInt8) × Int))), ([(([107] : List UInt8), ([115] : List UInt8), 5)] : List ((List UInt8) × (List UInt8) × Int))))] : List Vl), X6 48 (Qj Q4 (Qj Q4 (Qd .i64))) (some ⟨g5, 0, none⟩) (List.length ([(([107] : List UInt8), ([115] : List UInt8), 5)] : List ((List UInt8) × (List UInt8) × Int))) ([(([107] : List UInt8), ([115] : List UInt8), 5)] : List ((List UInt8) × (List UInt8) × Int)), rdE eU8 (some ⟨s, 0, none⟩) (List.length ([(115 : UInt8)] : List UInt8)) ([(115 : UInt8)] : List UInt8), X6 9 Q4 (some ⟨u, 0, none⟩) (List.length ([([97, 110, 110] : List UInt8), ([107] : List UInt8), ([110] : List UInt8)] : List (List UInt8))) ([([97, 110, 110] : List UInt8), ([107] : List UInt8), ([110] : List UInt8)] : List (List UInt8)), Qx j 79 #[(.int .i64 f.1), (.int .i64 f.2.1), (.int .i64 f.2.2.1), (.int .i64 f.2.2.2.1), (.slice (some ⟨g6, 0, none⟩) (List.length ([(([97, 110, 110] : List UInt8), 0, 0, ([] : List (Int × Int)), ([(([107] : List UInt8), ([115] : List UInt8), 5)] : List ((List UInt8) × (List UInt8) × Int)))] : List Qk)) (List.length ([(([97, 110, 110] : List UInt8), 0, 0, ([] : List (Int × Int)), ([(([107] : List UInt8), ([115] : List UInt8), 5)] : List ((List UInt8) × (List UInt8) × Int)))] : List Qk))), (.map (some m))], Vf m f.2.2.2.2] := Zk b5 [4, 5] [0, 1, 2, 3] rfl rfl e5 rfl
    clear e5
    refine iR 1 4 [(4, (.int .i64 a0))] ?_
    refine iF ?_
    refine aQ ?_
    refine aR ?_
    refine iR 2 2 [(29, (pt j 0)), (30, (.string ⟨List.toArray p⟩))] ?_
    obtain ⟨a1, h8, H⟩ := Qe H
    refine iS 3 ?_
    refine cF 26 #[(.tmp 29), (.const (.string ⟨List.toArray ([97, 110, 110] : List UInt8)⟩)), (.const (.string ⟨List.toArray ([107] : List UInt8)⟩)), (.const (.string ⟨List.toArray ([109] : List UInt8)⟩)), (.tmp 30), (.const (.int .i64 (4)))] #[29, 9, 9, 9, 9, 2] 31 Tryz.call26 (Xp j (some ⟨g6, 0, none⟩) (List.length ([(([97, 110, 110] : List UInt8), 0, 0, ([] : List (Int × Int)), ([(([107] : List UInt8), ([115] : List UInt8), 5)] : List ((List UInt8) × (List UInt8) × Int)))] : List Qk)) m f.1 f.2.1 f.2.2.1 f.2.2.2.1 ([(([97, 110, 110] : List UInt8), 0, 0, (none, 0, ([] : List (Int × Int))), ((some ⟨g5, 0, none⟩), (List.length ([(([107] : List UInt8), ([115] : List UInt8), 5)] : List ((List UInt8) × (List UInt8) × Int))), ([(([107] : List UInt8), ([115] : List UInt8), 5)] : List ((List UInt8) × (List UInt8) × Int))))] : List Vl) f.2.2.2.2 ([97, 110, 110] : List UInt8) ([107] : List UInt8) ([109] : List UInt8) p 4 e4 (Yc b6 [4, 5] rfl rfl) (fun w hm => Bs (Vk (SP.still b6 (l := [4, 5]) (i := 0) rfl rfl rfl hm)) (Nu (X1 Jp (X1 Jp (X1 Jp (X1 (Rk (Qj (Qd .u32) (Qd .i64)) dT w) (U3 (Vk (SP.still b6 (l := [4, 5]) (i := 1) rfl rfl rfl hm))))))) Rm)) a1 h8) ?_
    rintro e e6 ⟨rfl, e7⟩
    refine ⟨_, rfl, ?_⟩
    have b7 : SP [] w0 e6 [X6 44 Nd (some ⟨g6, 0, none⟩) (List.length ([(([97, 110, 110] : List UInt8), 0, 0, ([] : List (Int × Int)), ([(([107] : List UInt8), ([115] : List UInt8), 5)] : List ((List UInt8) × (List UInt8) × Int)))] : List Qk)) ([(([97, 110, 110] : List UInt8), 0, 0, (none, 0, ([] : List (Int × Int))), ((some ⟨g5, 0, none⟩), (List.length ([(([107] : List UInt8), ([115] : List UInt8), 5)] : List ((List UInt8) × (List UInt8) × Int))), ([(([107] : List UInt8), ([115] : List UInt8), 5)] : List ((List UInt8) × (List UInt8) × Int))))] : List Vl), X6 48 (Qj Q4 (Qj Q4 (Qd .i64))) (some ⟨g5, 0, none⟩) (List.length ([(([107] : List UInt8), ([115] : List UInt8), 5)] : List ((List UInt8) × (List UInt8) × Int))) ([(([107] : List UInt8), ([115] : List UInt8), 5)] : List ((List UInt8) × (List UInt8) × Int)), rdE eU8 (some ⟨s, 0, none⟩) (List.length ([(115 : UInt8)] : List UInt8)) ([(115 : UInt8)] : List UInt8), X6 9 Q4 (some ⟨u, 0, none⟩) (List.length ([([97, 110, 110] : List UInt8), ([107] : List UInt8), ([110] : List UInt8)] : List (List UInt8))) ([([97, 110, 110] : List UInt8), ([107] : List UInt8), ([110] : List UInt8)] : List (List UInt8)), Qx j 79 #[(.int .i64 f.1), (.int .i64 f.2.1), (.int .i64 f.2.2.1), (.int .i64 f.2.2.2.1), (.slice (some ⟨g6, 0, none⟩) (List.length ([(([97, 110, 110] : List UInt8), 0, 0, ([] : List (Int × Int)), ([(([107] : List UInt8), ([115] : List UInt8), 5)] : List ((List UInt8) × (List UInt8) × Int)))] : List Qk)) (List.length ([(([97, 110, 110] : List UInt8), 0, 0, ([] : List (Int × Int)), ([(([107] : List UInt8), ([115] : List UInt8), 5)] : List ((List UInt8) × (List UInt8) × Int)))] : List Qk))), (.map (some m))], Vf m f.2.2.2.2] := Zk b6 [4, 5] [0, 1, 2, 3] rfl rfl e7 rfl
    clear e7
    refine iR 1 4 [(5, (.int .i64 a1))] ?_
    refine iF ?_
    refine aQ ?_
    refine aR ?_
    refine iR 1 1 [(32, (pt j 0))] ?_
    obtain ⟨a5, h9, H⟩ := Qe H
    refine iS 2 ?_
    refine cF 22 #[(.tmp 32), (.const (.string ⟨List.toArray ([97, 110, 110] : List UInt8)⟩)), (.const (.string ⟨List.toArray ([107] : List UInt8)⟩)), (.const (.int .i64 (4)))] #[29, 9, 9, 2] 33 Tryz.call22 (Vv j (some ⟨g6, 0, none⟩) (List.length ([(([97, 110, 110] : List UInt8), 0, 0, ([] : List (Int × Int)), ([(([107] : List UInt8), ([115] : List UInt8), 5)] : List ((List UInt8) × (List UInt8) × Int)))] : List Qk)) m f.1 f.2.1 f.2.2.1 f.2.2.2.1 ([(([97, 110, 110] : List UInt8), 0, 0, (none, 0, ([] : List (Int × Int))), ((some ⟨g5, 0, none⟩), (List.length ([(([107] : List UInt8), ([115] : List UInt8), 5)] : List ((List UInt8) × (List UInt8) × Int))), ([(([107] : List UInt8), ([115] : List UInt8), 5)] : List ((List UInt8) × (List UInt8) × Int))))] : List Vl) f.2.2.2.2 ([97, 110, 110] : List UInt8) ([107] : List UInt8) 4 e6 (Yc b7 [4, 5] rfl rfl) (fun w hm => Bs (Vk (SP.still b7 (l := [4, 5]) (i := 0) rfl rfl rfl hm)) (Nu (X1 Jp (X1 Jp (X1 Jp (X1 (Rk (Qj (Qd .u32) (Qd .i64)) dT w) (U3 (Vk (SP.still b7 (l := [4, 5]) (i := 1) rfl rfl rfl hm))))))) Rm)) a5 h9) ?_
    rintro e e8 ⟨rfl, e9⟩
    refine ⟨_, rfl, ?_⟩
    have b8 : SP [] w0 e8 [X6 44 Nd (some ⟨g6, 0, none⟩) (List.length ([(([97, 110, 110] : List UInt8), 0, 0, ([] : List (Int × Int)), ([(([107] : List UInt8), ([115] : List UInt8), 5)] : List ((List UInt8) × (List UInt8) × Int)))] : List Qk)) ([(([97, 110, 110] : List UInt8), 0, 0, (none, 0, ([] : List (Int × Int))), ((some ⟨g5, 0, none⟩), (List.length ([(([107] : List UInt8), ([115] : List UInt8), 5)] : List ((List UInt8) × (List UInt8) × Int))), ([(([107] : List UInt8), ([115] : List UInt8), 5)] : List ((List UInt8) × (List UInt8) × Int))))] : List Vl), X6 48 (Qj Q4 (Qj Q4 (Qd .i64))) (some ⟨g5, 0, none⟩) (List.length ([(([107] : List UInt8), ([115] : List UInt8), 5)] : List ((List UInt8) × (List UInt8) × Int))) ([(([107] : List UInt8), ([115] : List UInt8), 5)] : List ((List UInt8) × (List UInt8) × Int)), rdE eU8 (some ⟨s, 0, none⟩) (List.length ([(115 : UInt8)] : List UInt8)) ([(115 : UInt8)] : List UInt8), X6 9 Q4 (some ⟨u, 0, none⟩) (List.length ([([97, 110, 110] : List UInt8), ([107] : List UInt8), ([110] : List UInt8)] : List (List UInt8))) ([([97, 110, 110] : List UInt8), ([107] : List UInt8), ([110] : List UInt8)] : List (List UInt8)), Qx j 79 #[(.int .i64 f.1), (.int .i64 f.2.1), (.int .i64 f.2.2.1), (.int .i64 f.2.2.2.1), (.slice (some ⟨g6, 0, none⟩) (List.length ([(([97, 110, 110] : List UInt8), 0, 0, ([] : List (Int × Int)), ([(([107] : List UInt8), ([115] : List UInt8), 5)] : List ((List UInt8) × (List UInt8) × Int)))] : List Qk)) (List.length ([(([97, 110, 110] : List UInt8), 0, 0, ([] : List (Int × Int)), ([(([107] : List UInt8), ([115] : List UInt8), 5)] : List ((List UInt8) × (List UInt8) × Int)))] : List Qk))), (.map (some m))], Vf m f.2.2.2.2] := Zk b7 [4, 5] [0, 1, 2, 3] rfl rfl e9 rfl
    clear e9
    refine iR 1 3 [(6, (.bool a5))] ?_
    refine iF ?_
    refine aQ ?_
    refine aR ?_
    refine iR 1 1 [(34, (pt j 0))] ?_
    obtain ⟨q, i0, H⟩ := Qe H
    refine iS 2 ?_
    refine cF 20 #[(.tmp 34), (.const (.string ⟨List.toArray ([97, 110, 110] : List UInt8)⟩)), (.const (.string ⟨List.toArray ([107] : List UInt8)⟩))] #[29, 9, 9] 35 Tryz.call20 (Vz j (some ⟨g6, 0, none⟩) (List.length ([(([97, 110, 110] : List UInt8), 0, 0, ([] : List (Int × Int)), ([(([107] : List UInt8), ([115] : List UInt8), 5)] : List ((List UInt8) × (List UInt8) × Int)))] : List Qk)) m f.1 f.2.1 f.2.2.1 f.2.2.2.1 ([(([97, 110, 110] : List UInt8), 0, 0, (none, 0, ([] : List (Int × Int))), ((some ⟨g5, 0, none⟩), (List.length ([(([107] : List UInt8), ([115] : List UInt8), 5)] : List ((List UInt8) × (List UInt8) × Int))), ([(([107] : List UInt8), ([115] : List UInt8), 5)] : List ((List UInt8) × (List UInt8) × Int))))] : List Vl) f.2.2.2.2 ([97, 110, 110] : List UInt8) ([107] : List UInt8) e8 (Yc b8 [4, 5] rfl rfl) (fun w hm => Bs (Vk (SP.still b8 (l := [4, 5]) (i := 0) rfl rfl rfl hm)) (Nu (X1 Jp (X1 Jp (X1 Jp (X1 (Rk (Qj (Qd .u32) (Qd .i64)) dT w) (U3 (Vk (SP.still b8 (l := [4, 5]) (i := 1) rfl rfl rfl hm))))))) Rm)) q i0) ?_
    rintro e f0 ⟨rfl, f1⟩
    refine ⟨_, rfl, ?_⟩
    have b9 : SP [] w0 f0 [X6 44 Nd (some ⟨g6, 0, none⟩) (List.length ([(([97, 110, 110] : List UInt8), 0, 0, ([] : List (Int × Int)), ([(([107] : List UInt8), ([115] : List UInt8), 5)] : List ((List UInt8) × (List UInt8) × Int)))] : List Qk)) ([(([97, 110, 110] : List UInt8), 0, 0, (none, 0, ([] : List (Int × Int))), ((some ⟨g5, 0, none⟩), (List.length ([(([107] : List UInt8), ([115] : List UInt8), 5)] : List ((List UInt8) × (List UInt8) × Int))), ([(([107] : List UInt8), ([115] : List UInt8), 5)] : List ((List UInt8) × (List UInt8) × Int))))] : List Vl), X6 48 (Qj Q4 (Qj Q4 (Qd .i64))) (some ⟨g5, 0, none⟩) (List.length ([(([107] : List UInt8), ([115] : List UInt8), 5)] : List ((List UInt8) × (List UInt8) × Int))) ([(([107] : List UInt8), ([115] : List UInt8), 5)] : List ((List UInt8) × (List UInt8) × Int)), rdE eU8 (some ⟨s, 0, none⟩) (List.length ([(115 : UInt8)] : List UInt8)) ([(115 : UInt8)] : List UInt8), X6 9 Q4 (some ⟨u, 0, none⟩) (List.length ([([97, 110, 110] : List UInt8), ([107] : List UInt8), ([110] : List UInt8)] : List (List UInt8))) ([([97, 110, 110] : List UInt8), ([107] : List UInt8), ([110] : List UInt8)] : List (List UInt8)), Qx j 79 #[(.int .i64 q.2.1), (.int .i64 q.2.2.1), (.int .i64 q.2.2.2.1), (.int .i64 q.2.2.2.2.1), (.slice (some ⟨g6, 0, none⟩) (List.length ([(([97, 110, 110] : List UInt8), 0, 0, ([] : List (Int × Int)), ([(([107] : List UInt8), ([115] : List UInt8), 5)] : List ((List UInt8) × (List UInt8) × Int)))] : List Qk)) (List.length ([(([97, 110, 110] : List UInt8), 0, 0, ([] : List (Int × Int)), ([(([107] : List UInt8), ([115] : List UInt8), 5)] : List ((List UInt8) × (List UInt8) × Int)))] : List Qk))), (.map (some m))], Vf m q.2.2.2.2.2] := Zk b8 [4, 5] [0, 1, 2, 3] rfl rfl f1 rfl
    clear f1
    refine iR 1 3 [(7, (.bool q.1))] ?_
    refine iF ?_
    refine aQ ?_
    refine aR ?_
    refine iR 1 1 [(36, (pt j 0))] ?_
    obtain ⟨h, i1, H⟩ := Qe H
    refine iS 2 ?_
    refine cF 20 #[(.tmp 36), (.const (.string ⟨List.toArray ([97, 110, 110] : List UInt8)⟩)), (.const (.string ⟨List.toArray ([107] : List UInt8)⟩))] #[29, 9, 9] 37 Tryz.call20 (Vz j (some ⟨g6, 0, none⟩) (List.length ([(([97, 110, 110] : List UInt8), 0, 0, ([] : List (Int × Int)), ([(([107] : List UInt8), ([115] : List UInt8), 5)] : List ((List UInt8) × (List UInt8) × Int)))] : List Qk)) m q.2.1 q.2.2.1 q.2.2.2.1 q.2.2.2.2.1 ([(([97, 110, 110] : List UInt8), 0, 0, (none, 0, ([] : List (Int × Int))), ((some ⟨g5, 0, none⟩), (List.length ([(([107] : List UInt8), ([115] : List UInt8), 5)] : List ((List UInt8) × (List UInt8) × Int))), ([(([107] : List UInt8), ([115] : List UInt8), 5)] : List ((List UInt8) × (List UInt8) × Int))))] : List Vl) q.2.2.2.2.2 ([97, 110, 110] : List UInt8) ([107] : List UInt8) f0 (Yc b9 [4, 5] rfl rfl) (fun w hm => Bs (Vk (SP.still b9 (l := [4, 5]) (i := 0) rfl rfl rfl hm)) (Nu (X1 Jp (X1 Jp (X1 Jp (X1 (Rk (Qj (Qd .u32) (Qd .i64)) dT w) (U3 (Vk (SP.still b9 (l := [4, 5]) (i := 1) rfl rfl rfl hm))))))) Rm)) h i1) ?_
    rintro e f2 ⟨rfl, f3⟩
    refine ⟨_, rfl, ?_⟩
    have c0 : SP [] w0 f2 [X6 44 Nd (some ⟨g6, 0, none⟩) (List.length ([(([97, 110, 110] : List UInt8), 0, 0, ([] : List (Int × Int)), ([(([107] : List UInt8), ([115] : List UInt8), 5)] : List ((List UInt8) × (List UInt8) × Int)))] : List Qk)) ([(([97, 110, 110] : List UInt8), 0, 0, (none, 0, ([] : List (Int × Int))), ((some ⟨g5, 0, none⟩), (List.length ([(([107] : List UInt8), ([115] : List UInt8), 5)] : List ((List UInt8) × (List UInt8) × Int))), ([(([107] : List UInt8), ([115] : List UInt8), 5)] : List ((List UInt8) × (List UInt8) × Int))))] : List Vl), X6 48 (Qj Q4 (Qj Q4 (Qd .i64))) (some ⟨g5, 0, none⟩) (List.length ([(([107] : List UInt8), ([115] : List UInt8), 5)] : List ((List UInt8) × (List UInt8) × Int))) ([(([107] : List UInt8), ([115] : List UInt8), 5)] : List ((List UInt8) × (List UInt8) × Int)), rdE eU8 (some ⟨s, 0, none⟩) (List.length ([(115 : UInt8)] : List UInt8)) ([(115 : UInt8)] : List UInt8), X6 9 Q4 (some ⟨u, 0, none⟩) (List.length ([([97, 110, 110] : List UInt8), ([107] : List UInt8), ([110] : List UInt8)] : List (List UInt8))) ([([97, 110, 110] : List UInt8), ([107] : List UInt8), ([110] : List UInt8)] : List (List UInt8)), Qx j 79 #[(.int .i64 h.2.1), (.int .i64 h.2.2.1), (.int .i64 h.2.2.2.1), (.int .i64 h.2.2.2.2.1), (.slice (some ⟨g6, 0, none⟩) (List.length ([(([97, 110, 110] : List UInt8), 0, 0, ([] : List (Int × Int)), ([(([107] : List UInt8), ([115] : List UInt8), 5)] : List ((List UInt8) × (List UInt8) × Int)))] : List Qk)) (List.length ([(([97, 110, 110] : List UInt8), 0, 0, ([] : List (Int × Int)), ([(([107] : List UInt8), ([115] : List UInt8), 5)] : List ((List UInt8) × (List UInt8) × Int)))] : List Qk))), (.map (some m))], Vf m h.2.2.2.2.2] := Zk b9 [4, 5] [0, 1, 2, 3] rfl rfl f3 rfl
    clear f3
    refine iR 1 3 [(8, (.bool h.1))] ?_
    refine iF ?_
    refine aQ ?_
    refine aR ?_
    refine iR 2 2 [(38, (pt j 0)), (39, (.string ⟨List.toArray p⟩))] ?_
    obtain ⟨a2, i2, H⟩ := Qe H
    refine iS 3 ?_
    refine cF 26 #[(.tmp 38), (.const (.string ⟨List.toArray ([97, 110, 110] : List UInt8)⟩)), (.const (.string ⟨List.toArray ([107] : List UInt8)⟩)), (.const (.string ⟨List.toArray ([110] : List UInt8)⟩)), (.tmp 39), (.const (.int .i64 (4)))] #[29, 9, 9, 9, 9, 2] 40 Tryz.call26 (Xp j (some ⟨g6, 0, none⟩) (List.length ([(([97, 110, 110] : List UInt8), 0, 0, ([] : List (Int × Int)), ([(([107] : List UInt8), ([115] : List UInt8), 5)] : List ((List UInt8) × (List UInt8) × Int)))] : List Qk)) m h.2.1 h.2.2.1 h.2.2.2.1 h.2.2.2.2.1 ([(([97, 110, 110] : List UInt8), 0, 0, (none, 0, ([] : List (Int × Int))), ((some ⟨g5, 0, none⟩), (List.length ([(([107] : List UInt8), ([115] : List UInt8), 5)] : List ((List UInt8) × (List UInt8) × Int))), ([(([107] : List UInt8), ([115] : List UInt8), 5)] : List ((List UInt8) × (List UInt8) × Int))))] : List Vl) h.2.2.2.2.2 ([97, 110, 110] : List UInt8) ([107] : List UInt8) ([110] : List UInt8) p 4 f2 (Yc c0 [4, 5] rfl rfl) (fun w hm => Bs (Vk (SP.still c0 (l := [4, 5]) (i := 0) rfl rfl rfl hm)) (Nu (X1 Jp (X1 Jp (X1 Jp (X1 (Rk (Qj (Qd .u32) (Qd .i64)) dT w) (U3 (Vk (SP.still c0 (l := [4, 5]) (i := 1) rfl rfl rfl hm))))))) Rm)) a2 i2) ?_
    rintro e f4 ⟨rfl, f5⟩
    refine ⟨_, rfl, ?_⟩
    have v : SP [] w0 f4 [X6 44 Nd (some ⟨g6, 0, none⟩) (List.length ([(([97, 110, 110] : List UInt8), 0, 0, ([] : List (Int × Int)), ([(([107] : List UInt8), ([115] : List UInt8), 5)] : List ((List UInt8) × (List UInt8) × Int)))] : List Qk)) ([(([97, 110, 110] : List UInt8), 0, 0, (none, 0, ([] : List (Int × Int))), ((some ⟨g5, 0, none⟩), (List.length ([(([107] : List UInt8), ([115] : List UInt8), 5)] : List ((List UInt8) × (List UInt8) × Int))), ([(([107] : List UInt8), ([115] : List UInt8), 5)] : List ((List UInt8) × (List UInt8) × Int))))] : List Vl), X6 48 (Qj Q4 (Qj Q4 (Qd .i64))) (some ⟨g5, 0, none⟩) (List.length ([(([107] : List UInt8), ([115] : List UInt8), 5)] : List ((List UInt8) × (List UInt8) × Int))) ([(([107] : List UInt8), ([115] : List UInt8), 5)] : List ((List UInt8) × (List UInt8) × Int)), rdE eU8 (some ⟨s, 0, none⟩) (List.length ([(115 : UInt8)] : List UInt8)) ([(115 : UInt8)] : List UInt8), X6 9 Q4 (some ⟨u, 0, none⟩) (List.length ([([97, 110, 110] : List UInt8), ([107] : List UInt8), ([110] : List UInt8)] : List (List UInt8))) ([([97, 110, 110] : List UInt8), ([107] : List UInt8), ([110] : List UInt8)] : List (List UInt8)), Qx j 79 #[(.int .i64 h.2.1), (.int .i64 h.2.2.1), (.int .i64 h.2.2.2.1), (.int .i64 h.2.2.2.2.1), (.slice (some ⟨g6, 0, none⟩) (List.length ([(([97, 110, 110] : List UInt8), 0, 0, ([] : List (Int × Int)), ([(([107] : List UInt8), ([115] : List UInt8), 5)] : List ((List UInt8) × (List UInt8) × Int)))] : List Qk)) (List.length ([(([97, 110, 110] : List UInt8), 0, 0, ([] : List (Int × Int)), ([(([107] : List UInt8), ([115] : List UInt8), 5)] : List ((List UInt8) × (List UInt8) × Int)))] : List Qk))), (.map (some m))], Vf m h.2.2.2.2.2] := Zk c0 [4, 5] [0, 1, 2, 3] rfl rfl f5 rfl
    clear f5
    refine iR 1 4 [(9, (.int .i64 a2))] ?_
    refine iF ?_
    refine aQ ?_
    refine At.join (fun ρ w => ∃ (a6 : Bool), Zf ρ [(0, (.bool a6))] ∧ SP [] w0 w [] ∧ Vg a6 = some r) ?_ ?_
    ·refine aR ?_
     refine iR 3 3 [(41, (.int .i64 a4)), (42, (.bool (a4 == 0))), (43, (.bool (a4 == 0)))] ?_
     refine In.guard (t := 43) (b := (a4 == 0)) K (fun c3 => ?_) (fun c3 => ?_)
     ·have H := ct H c3
      refine iR 4 7 [(44, (.int .i64 a0)), (45, (.bool (a0 == 3))), (46, (.bool (a0 == 3))), (47, (.bool (a0 == 3)))] ?_
      refine In.guard (t := 47) (b := (a0 == 3)) K (fun c4 => ?_) (fun c4 => ?_)
      ·have H := ct H c4
       refine iR 4 11 [(48, (.int .i64 a1)), (49, (.bool (a1 == 101))), (50, (.bool (a1 == 101))), (51, (.bool (a1 == 101)))] ?_
       refine In.guard (t := 51) (b := (a1 == 101)) K (fun c5 => ?_) (fun c5 => ?_)
       ·have H := ct H c5
        refine iR 3 14 [(52, (.bool a5)), (53, (.bool a5)), (54, (.bool a5))] ?_
        refine In.guard (t := 54) (b := a5) K (fun c6 => ?_) (fun c6 => ?_)
        ·have H := ct H c6
         refine iR 3 17 [(55, (.bool q.1)), (56, (.bool q.1)), (57, (.bool q.1))] ?_
         refine In.guard (t := 57) (b := q.1) K (fun c7 => ?_) (fun c7 => ?_)
         ·have H := ct H c7
          refine iR 4 21 [(58, (.bool h.1)), (59, (.bool (!h.1))), (60, (.bool (!h.1))), (61, (.bool (!h.1)))] ?_
          refine In.guard (t := 61) (b := (!h.1)) K (fun c8 => ?_) (fun c8 => ?_)
          ·have H := ct H c8
           refine iR 4 25 [(62, (.int .i64 a2)), (63, (.bool (a2 == 3))), (64, (.bool (a2 == 3))), (65, (.bool (a2 == 3)))] ?_
           refine In.guard (t := 65) (b := (a2 == 3)) K (fun c9 => ?_) (fun c9 => ?_)
           ·have H := ct H c9
            refine iR 1 26 [(66, (pt j 0))] ?_
            obtain ⟨a7, i3, H⟩ := Qe H
            refine iS 27 ?_
            refine cF 24 #[(.tmp 66), (.const (.string ⟨List.toArray ([97, 110, 110] : List UInt8)⟩)), (.const (.string ⟨List.toArray ([107] : List UInt8)⟩)), (.const (.string ⟨List.toArray ([110] : List UInt8)⟩))] #[29, 9, 9, 9] 67 Tryz.call24 (Jb j (some ⟨g6, 0, none⟩) (List.length ([(([97, 110, 110] : List UInt8), 0, 0, ([] : List (Int × Int)), ([(([107] : List UInt8), ([115] : List UInt8), 5)] : List ((List UInt8) × (List UInt8) × Int)))] : List Qk)) m h.2.1 h.2.2.1 h.2.2.2.1 h.2.2.2.2.1 ([(([97, 110, 110] : List UInt8), 0, 0, (none, 0, ([] : List (Int × Int))), ((some ⟨g5, 0, none⟩), (List.length ([(([107] : List UInt8), ([115] : List UInt8), 5)] : List ((List UInt8) × (List UInt8) × Int))), ([(([107] : List UInt8), ([115] : List UInt8), 5)] : List ((List UInt8) × (List UInt8) × Int))))] : List Vl) h.2.2.2.2.2 ([97, 110, 110] : List UInt8) ([107] : List UInt8) ([110] : List UInt8) f4 (Yc v [4, 5] rfl rfl) (fun w hm => Bs (Vk (SP.still v (l := [4, 5]) (i := 0) rfl rfl rfl hm)) (Nu (X1 Jp (X1 Jp (X1 Jp (X1 (Rk (Qj (Qd .u32) (Qd .i64)) dT w) (U3 (Vk (SP.still v (l := [4, 5]) (i := 1) rfl rfl rfl hm))))))) Rm)) a7 i3) ?_
            rintro e f6 ⟨rfl, f7⟩
            refine ⟨_, rfl, ?_⟩
            have a9 : SP [] w0 f6 [X6 44 Nd (some ⟨g6, 0, none⟩) (List.length ([(([97, 110, 110] : List UInt8), 0, 0, ([] : List (Int × Int)), ([(([107] : List UInt8), ([115] : List UInt8), 5)] : List ((List UInt8) × (List UInt8) × Int)))] : List Qk)) ([(([97, 110, 110] : List UInt8), 0, 0, (none, 0, ([] : List (Int × Int))), ((some ⟨g5, 0, none⟩), (List.length ([(([107] : List UInt8), ([115] : List UInt8), 5)] : List ((List UInt8) × (List UInt8) × Int))), ([(([107] : List UInt8), ([115] : List UInt8), 5)] : List ((List UInt8) × (List UInt8) × Int))))] : List Vl), X6 48 (Qj Q4 (Qj Q4 (Qd .i64))) (some ⟨g5, 0, none⟩) (List.length ([(([107] : List UInt8), ([115] : List UInt8), 5)] : List ((List UInt8) × (List UInt8) × Int))) ([(([107] : List UInt8), ([115] : List UInt8), 5)] : List ((List UInt8) × (List UInt8) × Int)), rdE eU8 (some ⟨s, 0, none⟩) (List.length ([(115 : UInt8)] : List UInt8)) ([(115 : UInt8)] : List UInt8), X6 9 Q4 (some ⟨u, 0, none⟩) (List.length ([([97, 110, 110] : List UInt8), ([107] : List UInt8), ([110] : List UInt8)] : List (List UInt8))) ([([97, 110, 110] : List UInt8), ([107] : List UInt8), ([110] : List UInt8)] : List (List UInt8)), Qx j 79 #[(.int .i64 h.2.1), (.int .i64 h.2.2.1), (.int .i64 h.2.2.2.1), (.int .i64 h.2.2.2.2.1), (.slice (some ⟨g6, 0, none⟩) (List.length ([(([97, 110, 110] : List UInt8), 0, 0, ([] : List (Int × Int)), ([(([107] : List UInt8), ([115] : List UInt8), 5)] : List ((List UInt8) × (List UInt8) × Int)))] : List Qk)) (List.length ([(([97, 110, 110] : List UInt8), 0, 0, ([] : List (Int × Int)), ([(([107] : List UInt8), ([115] : List UInt8), 5)] : List ((List UInt8) × (List UInt8) × Int)))] : List Qk))), (.map (some m))], Vf m h.2.2.2.2.2] := Zk v [4, 5] [0, 1, 2, 3] rfl rfl f7 rfl
            clear f7
            refine iR 1 28 [(68, (.string ⟨List.toArray p⟩))] ?_
            refine iS 29 ?_
            refine Ye (op := .eql) (T := 9) (T' := 9) (x := (.tmp 67)) (y := (.tmp 68)) (a := a7) (b := p) (r := (.bool (a7 == p))) (d := (some 69)) (k := 28) K rfl K K rfl ?_
            refine iR 2 31 [(70, (.bool (a7 == p))), (71, (.bool (a7 == p)))] ?_
            refine In.guard (t := 71) (b := (a7 == p)) K (fun d0 => ?_) (fun d0 => ?_)
            ·have H := ct H d0
             refine iR 1 32 [(72, (pt j 0))] ?_
             obtain ⟨a8, i4, H⟩ := Qe H
             refine iS 33 ?_
             refine cF 24 #[(.tmp 72), (.const (.string ⟨List.toArray ([97, 110, 110] : List UInt8)⟩)), (.const (.string ⟨List.toArray ([122] : List UInt8)⟩)), (.const (.string ⟨List.toArray ([110] : List UInt8)⟩))] #[29, 9, 9, 9] 73 Tryz.call24 (Jb j (some ⟨g6, 0, none⟩) (List.length ([(([97, 110, 110] : List UInt8), 0, 0, ([] : List (Int × Int)), ([(([107] : List UInt8), ([115] : List UInt8), 5)] : List ((List UInt8) × (List UInt8) × Int)))] : List Qk)) m h.2.1 h.2.2.1 h.2.2.2.1 h.2.2.2.2.1 ([(([97, 110, 110] : List UInt8), 0, 0, (none, 0, ([] : List (Int × Int))), ((some ⟨g5, 0, none⟩), (List.length ([(([107] : List UInt8), ([115] : List UInt8), 5)] : List ((List UInt8) × (List UInt8) × Int))), ([(([107] : List UInt8), ([115] : List UInt8), 5)] : List ((List UInt8) × (List UInt8) × Int))))] : List Vl) h.2.2.2.2.2 ([97, 110, 110] : List UInt8) ([122] : List UInt8) ([110] : List UInt8) f6 (Yc a9 [4, 5] rfl rfl) (fun w hm => Bs (Vk (SP.still a9 (l := [4, 5]) (i := 0) rfl rfl rfl hm)) (Nu (X1 Jp (X1 Jp (X1 Jp (X1 (Rk (Qj (Qd .u32) (Qd .i64)) dT w) (U3 (Vk (SP.still a9 (l := [4, 5]) (i := 1) rfl rfl rfl hm))))))) Rm)) a8 i4) ?_
             rintro e f8 ⟨rfl, f9⟩
             refine ⟨_, rfl, ?_⟩
             have b0 : SP [] w0 f8 [X6 44 Nd (some ⟨g6, 0, none⟩) (List.length ([(([97, 110, 110] : List UInt8), 0, 0, ([] : List (Int × Int)), ([(([107] : List UInt8), ([115] : List UInt8), 5)] : List ((List UInt8) × (List UInt8) × Int)))] : List Qk)) ([(([97, 110, 110] : List UInt8), 0, 0, (none, 0, ([] : List (Int × Int))), ((some ⟨g5, 0, none⟩), (List.length ([(([107] : List UInt8), ([115] : List UInt8), 5)] : List ((List UInt8) × (List UInt8) × Int))), ([(([107] : List UInt8), ([115] : List UInt8), 5)] : List ((List UInt8) × (List UInt8) × Int))))] : List Vl), X6 48 (Qj Q4 (Qj Q4 (Qd .i64))) (some ⟨g5, 0, none⟩) (List.length ([(([107] : List UInt8), ([115] : List UInt8), 5)] : List ((List UInt8) × (List UInt8) × Int))) ([(([107] : List UInt8), ([115] : List UInt8), 5)] : List ((List UInt8) × (List UInt8) × Int)), rdE eU8 (some ⟨s, 0, none⟩) (List.length ([(115 : UInt8)] : List UInt8)) ([(115 : UInt8)] : List UInt8), X6 9 Q4 (some ⟨u, 0, none⟩) (List.length ([([97, 110, 110] : List UInt8), ([107] : List UInt8), ([110] : List UInt8)] : List (List UInt8))) ([([97, 110, 110] : List UInt8), ([107] : List UInt8), ([110] : List UInt8)] : List (List UInt8)), Qx j 79 #[(.int .i64 h.2.1), (.int .i64 h.2.2.1), (.int .i64 h.2.2.2.1), (.int .i64 h.2.2.2.2.1), (.slice (some ⟨g6, 0, none⟩) (List.length ([(([97, 110, 110] : List UInt8), 0, 0, ([] : List (Int × Int)), ([(([107] : List UInt8), ([115] : List UInt8), 5)] : List ((List UInt8) × (List UInt8) × Int)))] : List Qk)) (List.length ([(([97, 110, 110] : List UInt8), 0, 0, ([] : List (Int × Int)), ([(([107] : List UInt8), ([115] : List UInt8), 5)] : List ((List UInt8) × (List UInt8) × Int)))] : List Qk))), (.map (some m))], Vf m h.2.2.2.2.2] := Zk a9 [4, 5] [0, 1, 2, 3] rfl rfl f9 rfl
             clear f9
             refine iS 34 ?_
             refine Ye (op := .eql) (T := 9) (T' := 9) (x := (.tmp 73)) (y := (.const (.string ⟨List.toArray ([] : List UInt8)⟩))) (a := a8) (b := ([] : List UInt8)) (r := (.bool (a8 == ([] : List UInt8)))) (d := (some 74)) (k := 33) K rfl K K rfl ?_
             refine iR 2 36 [(75, (.bool (a8 == ([] : List UInt8)))), (76, (.bool (a8 == ([] : List UInt8))))] ?_
             refine In.guard (t := 76) (b := (a8 == ([] : List UInt8))) K (fun d1 => ?_) (fun d1 => ?_)
             ·have H := ct H d1
              refine iR 1 37 [(77, (pt j 0))] ?_
              obtain ⟨b1, i5, H⟩ := Qe H
              refine iS 38 ?_
              refine cF 22 #[(.tmp 77), (.const (.string ⟨List.toArray ([97, 110, 110] : List UInt8)⟩)), (.const (.string ⟨List.toArray ([107] : List UInt8)⟩)), (.const (.int .i64 (0)))] #[29, 9, 9, 2] 78 Tryz.call22 (Vv j (some ⟨g6, 0, none⟩) (List.length ([(([97, 110, 110] : List UInt8), 0, 0, ([] : List (Int × Int)), ([(([107] : List UInt8), ([115] : List UInt8), 5)] : List ((List UInt8) × (List UInt8) × Int)))] : List Qk)) m h.2.1 h.2.2.1 h.2.2.2.1 h.2.2.2.2.1 ([(([97, 110, 110] : List UInt8), 0, 0, (none, 0, ([] : List (Int × Int))), ((some ⟨g5, 0, none⟩), (List.length ([(([107] : List UInt8), ([115] : List UInt8), 5)] : List ((List UInt8) × (List UInt8) × Int))), ([(([107] : List UInt8), ([115] : List UInt8), 5)] : List ((List UInt8) × (List UInt8) × Int))))] : List Vl) h.2.2.2.2.2 ([97, 110, 110] : List UInt8) ([107] : List UInt8) 0 f8 (Yc b0 [4, 5] rfl rfl) (fun w hm => Bs (Vk (SP.still b0 (l := [4, 5]) (i := 0) rfl rfl rfl hm)) (Nu (X1 Jp (X1 Jp (X1 Jp (X1 (Rk (Qj (Qd .u32) (Qd .i64)) dT w) (U3 (Vk (SP.still b0 (l := [4, 5]) (i := 1) rfl rfl rfl hm))))))) Rm)) b1 i5) ?_
              rintro e i6 ⟨rfl, g0⟩
              refine ⟨_, rfl, ?_⟩
              have i7 : SP [] w0 i6 [X6 44 Nd (some ⟨g6, 0, none⟩) (List.length ([(([97, 110, 110] : List UInt8), 0, 0, ([] : List (Int × Int)), ([(([107] : List UInt8), ([115] : List UInt8), 5)] : List ((List UInt8) × (List UInt8) × Int)))] : List Qk)) ([(([97, 110, 110] : List UInt8), 0, 0, (none, 0, ([] : List (Int × Int))), ((some ⟨g5, 0, none⟩), (List.length ([(([107] : List UInt8), ([115] : List UInt8), 5)] : List ((List UInt8) × (List UInt8) × Int))), ([(([107] : List UInt8), ([115] : List UInt8), 5)] : List ((List UInt8) × (List UInt8) × Int))))] : List Vl), X6 48 (Qj Q4 (Qj Q4 (Qd .i64))) (some ⟨g5, 0, none⟩) (List.length ([(([107] : List UInt8), ([115] : List UInt8), 5)] : List ((List UInt8) × (List UInt8) × Int))) ([(([107] : List UInt8), ([115] : List UInt8), 5)] : List ((List UInt8) × (List UInt8) × Int)), rdE eU8 (some ⟨s, 0, none⟩) (List.length ([(115 : UInt8)] : List UInt8)) ([(115 : UInt8)] : List UInt8), X6 9 Q4 (some ⟨u, 0, none⟩) (List.length ([([97, 110, 110] : List UInt8), ([107] : List UInt8), ([110] : List UInt8)] : List (List UInt8))) ([([97, 110, 110] : List UInt8), ([107] : List UInt8), ([110] : List UInt8)] : List (List UInt8)), Qx j 79 #[(.int .i64 h.2.1), (.int .i64 h.2.2.1), (.int .i64 h.2.2.2.1), (.int .i64 h.2.2.2.2.1), (.slice (some ⟨g6, 0, none⟩) (List.length ([(([97, 110, 110] : List UInt8), 0, 0, ([] : List (Int × Int)), ([(([107] : List UInt8), ([115] : List UInt8), 5)] : List ((List UInt8) × (List UInt8) × Int)))] : List Qk)) (List.length ([(([97, 110, 110] : List UInt8), 0, 0, ([] : List (Int × Int)), ([(([107] : List UInt8), ([115] : List UInt8), 5)] : List ((List UInt8) × (List UInt8) × Int)))] : List Qk))), (.map (some m))], Vf m h.2.2.2.2.2] := Zk b0 [4, 5] [0, 1, 2, 3] rfl rfl g0 rfl
              clear g0
              refine iR 3 41 [(79, (.bool (!b1))), (80, (.bool (!b1))), (0, (.bool (!b1)))] ?_
              refine iF ?_
              exact ⟨(!b1), ⟨K, trivial⟩, SP.sel i7 [] rfl rfl, H⟩
             ·have H := cf H d1
              refine iR 5 41 [(77, undef), (78, undef), (79, undef), (80, (.bool false)), (0, (.bool false))] ?_
              refine iF ?_
              exact ⟨false, ⟨K, trivial⟩, SP.sel b0 [] rfl rfl, H⟩
            ·have H := cf H d0
             refine iR 10 41 [(72, undef), (73, undef), (74, undef), (75, (.bool false)), (76, (.bool false)), (77, undef), (78, undef), (79, undef), (80, (.bool false)), (0, (.bool false))] ?_
             refine iF ?_
             exact ⟨false, ⟨K, trivial⟩, SP.sel a9 [] rfl rfl, H⟩
           ·have H := cf H c9
            refine iR 16 41 [(66, undef), (67, undef), (68, undef), (69, undef), (70, (.bool false)), (71, (.bool false)), (72, undef), (73, undef), (74, undef), (75, (.bool false)), (76, (.bool false)), (77, undef), (78, undef), (79, undef), (80, (.bool false)), (0, (.bool false))] ?_
            refine iF ?_
            exact ⟨false, ⟨K, trivial⟩, SP.sel v [] rfl rfl, H⟩
          ·have H := cf H c8
           refine iR 20 41 [(62, undef), (63, undef), (64, (.bool false)), (65, (.bool false)), (66, undef), (67, undef), (68, undef), (69, undef), (70, (.bool false)), (71, (.bool false)), (72, undef), (73, undef), (74, undef), (75, (.bool false)), (76, (.bool false)), (77, undef), (78, undef), (79, undef), (80, (.bool false)), (0, (.bool false))] ?_
           refine iF ?_
           exact ⟨false, ⟨K, trivial⟩, SP.sel v [] rfl rfl, H⟩
         ·have H := cf H c7
          refine iR 24 41 [(58, undef), (59, undef), (60, (.bool false)), (61, (.bool false)), (62, undef), (63, undef), (64, (.bool false)), (65, (.bool false)), (66, undef), (67, undef), (68, undef), (69, undef), (70, (.bool false)), (71, (.bool false)), (72, undef), (73, undef), (74, undef), (75, (.bool false)), (76, (.bool false)), (77, undef), (78, undef), (79, undef), (80, (.bool false)), (0, (.bool false))] ?_
          refine iF ?_
          exact ⟨false, ⟨K, trivial⟩, SP.sel v [] rfl rfl, H⟩
        ·have H := cf H c6
         refine iR 27 41 [(55, undef), (56, (.bool false)), (57, (.bool false)), (58, undef), (59, undef), (60, (.bool false)), (61, (.bool false)), (62, undef), (63, undef), (64, (.bool false)), (65, (.bool false)), (66, undef), (67, undef), (68, undef), (69, undef), (70, (.bool false)), (71, (.bool false)), (72, undef), (73, undef), (74, undef), (75, (.bool false)), (76, (.bool false)), (77, undef), (78, undef), (79, undef), (80, (.bool false)), (0, (.bool false))] ?_
         refine iF ?_
         exact ⟨false, ⟨K, trivial⟩, SP.sel v [] rfl rfl, H⟩
       ·have H := cf H c5
        refine iR 30 41 [(52, undef), (53, (.bool false)), (54, (.bool false)), (55, undef), (56, (.bool false)), (57, (.bool false)), (58, undef), (59, undef), (60, (.bool false)), (61, (.bool false)), (62, undef), (63, undef), (64, (.bool false)), (65, (.bool false)), (66, undef), (67, undef), (68, undef), (69, undef), (70, (.bool false)), (71, (.bool false)), (72, undef), (73, undef), (74, undef), (75, (.bool false)), (76, (.bool false)), (77, undef), (78, undef), (79, undef), (80, (.bool false)), (0, (.bool false))] ?_
        refine iF ?_
        exact ⟨false, ⟨K, trivial⟩, SP.sel v [] rfl rfl, H⟩
      ·have H := cf H c4
       refine iR 34 41 [(48, undef), (49, undef), (50, (.bool false)), (51, (.bool false)), (52, undef), (53, (.bool false)), (54, (.bool false)), (55, undef), (56, (.bool false)), (57, (.bool false)), (58, undef), (59, undef), (60, (.bool false)), (61, (.bool false)), (62, undef), (63, undef), (64, (.bool false)), (65, (.bool false)), (66, undef), (67, undef), (68, undef), (69, undef), (70, (.bool false)), (71, (.bool false)), (72, undef), (73, undef), (74, undef), (75, (.bool false)), (76, (.bool false)), (77, undef), (78, undef), (79, undef), (80, (.bool false)), (0, (.bool false))] ?_
       refine iF ?_
       exact ⟨false, ⟨K, trivial⟩, SP.sel v [] rfl rfl, H⟩
     ·have H := cf H c3
      refine iR 38 41 [(44, undef), (45, undef), (46, (.bool false)), (47, (.bool false)), (48, undef), (49, undef), (50, (.bool false)), (51, (.bool false)), (52, undef), (53, (.bool false)), (54, (.bool false)), (55, undef), (56, (.bool false)), (57, (.bool false)), (58, undef), (59, undef), (60, (.bool false)), (61, (.bool false)), (62, undef), (63, undef), (64, (.bool false)), (65, (.bool false)), (66, undef), (67, undef), (68, undef), (69, undef), (70, (.bool false)), (71, (.bool false)), (72, undef), (73, undef), (74, undef), (75, (.bool false)), (76, (.bool false)), (77, undef), (78, undef), (79, undef), (80, (.bool false)), (0, (.bool false))] ?_
      refine iF ?_
      exact ⟨false, ⟨K, trivial⟩, SP.sel v [] rfl rfl, H⟩
    ·rintro ρ j7 ⟨a6, hk, i8, H⟩
     unfold Vg at H
     first | refine At.known [(0, (.bool a6))] hk ?_ | rw [← Q8 (l := [(0, (.bool a6))]) hk]
     refine At.ret K ?_
     refine ⟨(.bool a6), K, ?_⟩
     obtain rfl := Qm H
     exact ⟨rfl, SP.sel i8 [] rfl rfl⟩
end Go.Proofs.YtmgfanhcdfobhaaGreatDoor
namespace Go.Proofs.YtmgfanhcdfobhaaGreatDoor
abbrev headV : List Qk := [(([97, 110, 110] : List UInt8), 0, 0, ([] : List (Int × Int)), ([(([107] : List UInt8), ([115] : List UInt8), 5)] : List ((List UInt8) × (List UInt8) × Int)))]
theorem headV_q : ∀ t ∈ headV, TenQ t := by
  intro t ht
  have : t = (([97, 110, 110] : List UInt8), 0, 0, ([] : List (Int × Int)), ([(([107] : List UInt8), ([115] : List UInt8), 5)] : List ((List UInt8) × (List UInt8) × Int))) := by simpa [headV] using ht
  subst this
  refine ⟨by decide, by decide, by decide, (fun n hn => by cases hn), fun x hx => ?_⟩
  have : x = (([107] : List UInt8), ([115] : List UInt8), 5) := by simpa using hx
  subst this
  decide
theorem headVNew : X5 9 9 9 9 headV = some (some (9, 9, 9, 9, [])) := by
  rw [pVNew 9 9 9 9 headV (by decide) headV_q, show Ef 9 9 9 9 headV = true by kernel_rfl]
  rfl
theorem headVNone : X5 0 0 0 0 [] = some none := by
  rw [pVNew 0 0 0 0 [] (by decide) (fun t ht => by cases ht), show Ef 0 0 0 0 [] = false by kernel_rfl]
  rfl
theorem headVRest : Xk (9, 9, 9, 9, []) false = some true := by kernel_rfl
theorem optE_s {α β : Type} (x : α) (a : Option β) (f : α → Option β) : optE (some x) a f = f x := rfl
theorem optE_n {α β : Type} (a : Option β) (f : α → Option β) : optE none a f = a := rfl
theorem vaultHead : Yo = some true := by
  unfold Yo
  rw [show J5 = some () from rfl, Option.bind_some, headVNew, Option.bind_some, optE_s, headVNone, Option.bind_some, optE_n]
  exact headVRest
abbrev OpV := Int × Str × Str × Str × Str × Int
def OpVQ (o : OpV) : Prop := o.2.1.length ≤ 140737488355328 ∧ o.2.2.1.length ≤ 140737488355328 ∧ o.2.2.2.1.length ≤ 140737488355328 ∧ o.2.2.2.2.1.length ≤ 140737488355328
theorem opsV_loop (l : List OpV) (hl : l.length ≤ 140737488355328) (hq : ∀ o ∈ l, OpVQ o) : ∀ (d i f : Nat), d = min l.length 200 - i → i ≤ l.length → i ≤ 200 → d < f → ∃ b, V7 l f (i : Int) = some b ∧ (b = false → l.length ≤ 100) := by
  intro d
  induction d with
  | zero =>
    intro i f hd hi h3 hf
    obtain ⟨f, rfl⟩ : ∃ g, f = g + 1 := ⟨f - 1, by omega⟩
    show ∃ b, Zp (V7 l f) l (i : Int) = some b ∧ _
    unfold Zp Zy
    by_cases hlt : i < l.length
    · rw [show decide ((i : Int) < ((l.length : Nat) : Int)) = true from decide_eq_true (by omega), cond_true, show decide ((i : Int) < 200) = false from decide_eq_false (by omega), cond_false]
      exact ⟨_, rfl, fun h => by have := of_decide_eq_false h; omega⟩
    · rw [show decide ((i : Int) < ((l.length : Nat) : Int)) = false from decide_eq_false (by omega), cond_false, cond_false]
      exact ⟨_, rfl, fun h => by have := of_decide_eq_false h; omega⟩
  | succ d ih =>
    intro i f hd hi h3 hf
    obtain ⟨f, rfl⟩ : ∃ g, f = g + 1 := ⟨f - 1, by omega⟩
    have hlt : i < l.length := by omega
    show ∃ b, Zp (V7 l f) l (i : Int) = some b ∧ _
    unfold Zp Zy
    rw [show decide ((i : Int) < ((l.length : Nat) : Int)) = true from decide_eq_true (by omega), cond_true, show decide ((i : Int) < 200) = true from decide_eq_true (by omega), cond_true, Ur hlt, Option.bind_some, Option.bind_some, Option.bind_some, Option.bind_some]
    generalize decide (_ > (2000 : Int)) = g
    cases g with
    | true =>
      rw [cond_true]
      exact ⟨true, rfl, fun h => by cases h⟩
    | false =>
      rw [cond_false, show ((i : Int) + 1) = ((i + 1 : Nat) : Int) by omega, G8 (by omega)]
      exact ih (i + 1) f (by omega) (by omega) (by omega) (by omega)
theorem Ht (l : List OpV) (hl : l.length ≤ 140737488355328) (hq : ∀ o ∈ l, OpVQ o) : ∃ b, Jc l = some b ∧ (b = false → l.length ≤ 100) :=
  opsV_loop l hl hq _ 0 Xa rfl (by omega) (by omega) (by unfold Xa; omega)
theorem Bl (l : List Qk) (M : Yp) (t k : Str) (x : Str × Str) : J8 (Ci l M t k) x = if (Ej l t k).2.2.2 = true ∧ (t, k) = x then J8 M (t, k) + 1 else J8 M x := by
  unfold Ci
  cases h : (Ej l t k).2.2.2 with
  | false => rw [cond_false, if_neg (by simp)]
  | true =>
    rw [cond_true, Cg]
    simp
def MB (n : Nat) (M : Yp) : Prop := ∀ x, 0 ≤ J8 M x ∧ J8 M x ≤ n
theorem mb_nil : MB 0 [] := fun x => by rw [Hd]; omega
theorem He {n : Nat} {M : Yp} (h : MB n M) (l : List Qk) (t k : Str) : MB (n + 1) (Ci l M t k) := by
  intro x
  rw [Bl]
  have := h x
  have := h (t, k)
  split <;> omega
theorem mb_le {n m : Nat} {M : Yp} (h : MB n M) (hm : n ≤ m) : MB m M := fun x => by have := h x; omega
end Go.Proofs.YtmgfanhcdfobhaaGreatDoor
namespace Go.Proofs.YtmgfanhcdfobhaaGreatDoor
open Go.RowKit
def Vj (a : Int → Int → Int → Int → Yp → Int → Int → Int → Int → Yp → Int → Option (Bool)) (b : Int) (c : Int) (d : Int) (e : Int) (f : Int) (g : Yp) (h : Int) (i : Int) (j : Int) (k : Int) (l : Yp) (m : Bool) : Option (Bool) :=
  (cond m (some (false)) (a h i j k l c d e f g (IntKind.wrap .i64 (b + 1))))
def Zc (h : Int → Int → Int → Int → Yp → Int → Int → Int → Int → Yp → Int → Option (Bool)) (i : (List Qk)) (p : (List UInt8)) (q : (List UInt8)) (j : Int) (b : (Int × (List UInt8) × (List UInt8) × (List UInt8) × (List UInt8) × Int)) (k : Int) (l : Int) (m : Int) (n : Int) (o : Yp) (c : Int) (d : Int) (e : Int) (f : Int) (g : Yp) (r : Bool) : Option (Bool) :=
  ((Ze k l m n i o p q b.2.2.2.2.2).bind fun s => (cond s (Vj h j c d e f g k l m n o true) ((V2 k l m n i o p q).bind fun a => (cond a.1 (Vj h j c d e f g a.2.1 a.2.2.1 a.2.2.2.1 a.2.2.2.2.1 a.2.2.2.2.2 true) (cond (!r) ((Ze a.2.1 a.2.2.1 a.2.2.2.1 a.2.2.2.2.1 i a.2.2.2.2.2 b.2.1 b.2.2.1 b.2.2.2.2.2).bind fun t => ((Ze c d e f i g b.2.1 b.2.2.1 b.2.2.2.2.2).bind fun u => (Vj h j c d e f g a.2.1 a.2.2.1 a.2.2.2.1 a.2.2.2.2.1 a.2.2.2.2.2 (!(t == u))))) (Vj h j c d e f g a.2.1 a.2.2.1 a.2.2.2.1 a.2.2.2.2.1 a.2.2.2.2.2 false))))))
def Zd (d : Int → Int → Int → Int → Yp → Int → Int → Int → Int → Yp → Int → Option (Bool)) (e : (List Qk)) (b : (List UInt8)) (c : (List UInt8)) (f : Int) (a : (Int × (List UInt8) × (List UInt8) × (List UInt8) × (List UInt8) × Int)) (g : Int) (h : Int) (i : Int) (j : Int) (k : Yp) (l : Int) (m : Int) (n : Int) (o : Int) (p : Yp) : Option (Bool) :=
  (cond (a.2.1 == b) (Zc d e b c f a g h i j k l m n o p (a.2.2.1 == c)) (Zc d e b c f a g h i j k l m n o p false))
def V3 (f : Int → Int → Int → Int → Yp → Int → Int → Int → Int → Yp → Int → Option (Bool)) (d : (List Qk)) (g : (List UInt8)) (h : (List UInt8)) (i : (List (Int × (List UInt8) × (List UInt8) × (List UInt8) × (List UInt8) × Int))) (t : (Bool)) (j : Int) (k : Int) (l : Int) (m : Int) (n : Yp) (o : Int) (p : Int) (q : Int) (r : Int) (s : Yp) (e : Int) : Option (Bool) :=
  (cond (decide (e < ((List.length i : Nat) : Int))) ((idx i e).bind fun a => (cond (a.1 == 0) ((V2 j k l m d n a.2.1 a.2.2.1).bind fun b => ((V2 o p q r d s a.2.1 a.2.2.1).bind fun c => (Zd f d g h e a b.2.1 b.2.2.1 b.2.2.2.1 b.2.2.2.2.1 b.2.2.2.2.2 c.2.1 c.2.2.1 c.2.2.2.1 c.2.2.2.2.1 c.2.2.2.2.2))) (Zd f d g h e a j k l m n o p q r s))) (some (t)))
def Q5 (a : (List Qk)) (b : (List UInt8)) (c : (List UInt8)) (d : (List (Int × (List UInt8) × (List UInt8) × (List UInt8) × (List UInt8) × Int))) (e : (Bool)) : Nat → Int → Int → Int → Int → Yp → Int → Int → Int → Int → Yp → Int → Option (Bool)
  | 0, _, _, _, _, _, _, _, _, _, _, _ => none
  | f + 1, g, h, i, j, k, l, m, n, o, p, q => V3  (Q5 a b c d e f) a b c d e g h i j k l m n o p q
def Vo (d : (List Qk)) (e : (List UInt8)) (f : (List UInt8)) (h : (List (Int × (List UInt8) × (List UInt8) × (List UInt8) × (List UInt8) × Int))) (g : (Bool)) (a : (Int × Int × Int × Int × Yp)) (b : (Int × Int × Int × Int × Yp)) (i : Bool) : Option (Bool) :=
  (cond i (some (g)) ((V2 a.1 a.2.1 a.2.2.1 a.2.2.2.1 d a.2.2.2.2 e f).bind fun c => (Q5 d e f h g Xa c.2.1 c.2.2.1 c.2.2.2.1 c.2.2.2.2.1 c.2.2.2.2.2 b.1 b.2.1 b.2.2.1 b.2.2.2.1 b.2.2.2.2 0)))
def Xx (c : Int) (d : Int) (e : Int) (f : Int) (a : (List Qk)) (g : (List UInt8)) (h : (List UInt8)) (i : (List (Int × (List UInt8) × (List UInt8) × (List UInt8) × (List UInt8) × Int))) : Option (Bool) :=
  ((Yo ).bind fun b => ((X5 c d e f a).bind fun l => (optE l ((X5 c d e f a).bind fun m => (optE m (some (b)) (fun q => (some (b))))) (fun j => ((X5 c d e f a).bind fun n => (optE n (some (b)) (fun k => ((Y3 c d e f a).bind fun o => (cond o (Vo a g h i b j k true) ((Jc i).bind fun p => (cond p (Vo a g h i b j k true) (Vo a g h i b j k (decide ((IntKind.wrap .i64 (((List.length g : Nat) : Int) + ((List.length h : Nat) : Int))) > 2000))))))))))))))
set_option maxRecDepth 100000 in
set_option maxHeartbeats 4000000 in
theorem N5 (A6 : Option Addr) (c7 : Nat) (b1 : Option Addr) (b2 : Nat) (c5 : Int) (c6 : Int) (c8 : Int) (c9 : Int) (d9 : (List Vl)) (q : (List UInt8)) (p : (List UInt8)) (a3 : (List (Int × (List UInt8) × (List UInt8) × (List UInt8) × (List UInt8) × Int))) (w0 : World) (hL : D0 w0) (c1 : (dDS Nd Cn).ok w0 (A6, c7, d9)) (h2 : RdT (Qj (Qd .i64) (Qj Q4 (Qj Q4 (Qj Q4 (Qj Q4 (Qd .i64)))))) w0 b1 b2 a3) (r : (Bool)) (H : Xx c5 c6 c8 c9 (List.map stT d9) q p a3 = some r) :
  Calls Tryz.prog 5 #[(.agg #[(.int .i64 c5), (.int .i64 c6), (.int .i64 c8), (.int .i64 c9), (.slice A6 (List.length (List.map stT d9)) c7)]), (.string ⟨List.toArray q⟩), (.string ⟨List.toArray p⟩), (.slice b1 (List.length a3) b2)] w0 (fun e w' => e = .returned (.bool r) ∧ SP [] w0 w' []) := by
 unfold Xx at H
 refine Qv (n := 118) Tryz.func5 K K K ?_
 have n6 := Q0 [] w0
 refine aQ ?_
 refine aR ?_
 refine iS 1 ?_
 refine V8 (t := 24) (x := (.tmp 0)) (v := (.agg #[(.int .i64 c5), (.int .i64 c6), (.int .i64 c8), (.int .i64 c9), (.slice A6 (List.length (List.map stT d9)) c7)])) (d := (some 4)) (k := 0) K rfl K n6 ?_
 intro f8 n7 j5
 refine iR 1 2 [(8, (.bool false))] ?_
 refine iF ?_
 refine aQ ?_
 refine aR ?_
 obtain ⟨a1, n8, H⟩ := Qe H
 refine iS 1 ?_
 refine cF 15 #[] #[] 15 Tryz.call15 (Ri   n7 (Zg hL (SP.keeps j5)) a1 n8) ?_
 rintro e j6 ⟨rfl, j7⟩
 refine ⟨_, rfl, ?_⟩
 have e1 := SP.call j5 j7
 clear j7
 refine iR 1 2 [(9, (.bool a1))] ?_
 refine iF ?_
 refine aQ ?_
 refine aR ?_
 refine iS 1 ?_
 refine sL 24 4 f8 0 0 (.agg #[(.int .i64 c5), (.int .i64 c6), (.int .i64 c8), (.int .i64 c9), (.slice A6 (List.length (List.map stT d9)) c7)]) 16 e1 rfl ?_
 obtain ⟨n9, j8, H⟩ := Qe H
 rcases n9 with _ | d0
 ·have H := optN H
  refine iS 2 ?_
  refine cF 18 #[(.tmp 16)] #[24] 17 Tryz.call18 (Zt A6 c7 c5 c6 c8 c9 d9 j6 (Zg hL (SP.keeps e1)) (Dp.sp c1 e1) none j8) ?_
  rintro e j9 ⟨rfl, k1⟩
  refine ⟨_, rfl, ?_⟩
  have e2 := SP.call e1 k1
  clear k1
  refine iR 1 3 [(10, (.pointer none))] ?_
  refine iF ?_
  refine aQ ?_
  refine aR ?_
  refine iS 1 ?_
  refine sL 24 4 f8 0 0 (.agg #[(.int .i64 c5), (.int .i64 c6), (.int .i64 c8), (.int .i64 c9), (.slice A6 (List.length (List.map stT d9)) c7)]) 18 e2 rfl ?_
  obtain ⟨o0, k2, H⟩ := Qe H
  rcases o0 with _ | o1
  ·have H := optN H
   refine iS 2 ?_
   refine cF 18 #[(.tmp 18)] #[24] 19 Tryz.call18 (Zt A6 c7 c5 c6 c8 c9 d9 j9 (Zg hL (SP.keeps e2)) (Dp.sp c1 e2) none k2) ?_
   rintro e w2 ⟨rfl, k3⟩
   refine ⟨_, rfl, ?_⟩
   have o2 := SP.call e2 k3
   clear k3
   refine iR 1 3 [(11, (.pointer none))] ?_
   refine iF ?_
   refine aQ ?_
   refine aQ ?_
   refine aR ?_
   refine iR 22 22 [(20, (.pointer none)), (21, (.bool true)), (22, (.bool true)), (23, undef), (24, undef), (25, (.bool true)), (26, (.bool true)), (27, undef), (28, undef), (29, (.bool true)), (30, (.bool true)), (31, undef), (32, undef), (33, (.bool true)), (34, (.bool true)), (35, undef), (36, undef), (37, undef), (38, undef), (39, undef), (40, undef), (41, (.bool true))] ?_
   refine iF ?_
   refine Zq K (o := (.tmp 41)) K (b := true) K (fun k4 => ?_) (fun k4 => ?_)
   rotate_left
   ·cases k4
   refine aQ ?_
   refine aR ?_
   refine iR 2 2 [(42, (.bool a1)), (8, (.bool a1))] ?_
   refine iF ?_
   refine At.ret K ?_
   refine ⟨(.bool a1), K, ?_⟩
   obtain rfl := Qm H
   exact ⟨rfl, SP.sel o2 [] rfl rfl⟩
  ·have H := optS H
   refine iS 2 ?_
   refine cF 18 #[(.tmp 18)] #[24] 19 Tryz.call18 (Zt A6 c7 c5 c6 c8 c9 d9 j9 (Zg hL (SP.keeps e2)) (Dp.sp c1 e2) (some o1) k2) ?_
   rintro e w3 ⟨o3, w4, rfl, k5⟩
   refine ⟨_, rfl, ?_⟩
   have o4 := SP.call e2 k5
   clear k5
   refine iR 1 3 [(11, (pt o3 0))] ?_
   refine iF ?_
   refine aQ ?_
   refine aQ ?_
   refine aR ?_
   refine iR 22 22 [(20, (.pointer none)), (21, (.bool true)), (22, (.bool true)), (23, undef), (24, undef), (25, (.bool true)), (26, (.bool true)), (27, undef), (28, undef), (29, (.bool true)), (30, (.bool true)), (31, undef), (32, undef), (33, (.bool true)), (34, (.bool true)), (35, undef), (36, undef), (37, undef), (38, undef), (39, undef), (40, undef), (41, (.bool true))] ?_
   refine iF ?_
   refine Zq K (o := (.tmp 41)) K (b := true) K (fun k6 => ?_) (fun k6 => ?_)
   rotate_left
   ·cases k6
   refine aQ ?_
   refine aR ?_
   refine iR 2 2 [(42, (.bool a1)), (8, (.bool a1))] ?_
   refine iF ?_
   refine At.ret K ?_
   refine ⟨(.bool a1), K, ?_⟩
   obtain rfl := Qm H
   exact ⟨rfl, SP.sel o4 [] rfl rfl⟩
 ·have H := optS H
  refine iS 2 ?_
  refine cF 18 #[(.tmp 16)] #[24] 17 Tryz.call18 (Zt A6 c7 c5 c6 c8 c9 d9 j6 (Zg hL (SP.keeps e1)) (Dp.sp c1 e1) (some d0) j8) ?_
  rintro e k7 ⟨m, s, rfl, k8⟩
  refine ⟨_, rfl, ?_⟩
  have e3 := SP.call e1 k8
  clear k8
  refine iR 1 3 [(10, (pt m 0))] ?_
  refine iF ?_
  refine aQ ?_
  refine aR ?_
  refine iS 1 ?_
  refine sL 24 4 f8 0 0 (.agg #[(.int .i64 c5), (.int .i64 c6), (.int .i64 c8), (.int .i64 c9), (.slice A6 (List.length (List.map stT d9)) c7)]) 18 e3 rfl ?_
  obtain ⟨o5, k9, H⟩ := Qe H
  rcases o5 with _ | c3
  ·have H := optN H
   refine iS 2 ?_
   refine cF 18 #[(.tmp 18)] #[24] 19 Tryz.call18 (Zt A6 c7 c5 c6 c8 c9 d9 k7 (Zg hL (SP.keeps e3)) (Dp.sp c1 e3) none k9) ?_
   rintro e w5 ⟨rfl, l0⟩
   refine ⟨_, rfl, ?_⟩
   have o6 := SP.call e3 l0
   clear l0
   refine iR 1 3 [(11, (.pointer none))] ?_
   refine iF ?_
   refine aQ ?_
   refine aQ ?_
   refine aR ?_
   refine iR 22 22 [(20, (pt m 0)), (21, (.bool false)), (22, (.bool false)), (23, (.pointer none)), (24, (.bool true)), (25, (.bool true)), (26, (.bool true)), (27, undef), (28, undef), (29, (.bool true)), (30, (.bool true)), (31, undef), (32, undef), (33, (.bool true)), (34, (.bool true)), (35, undef), (36, undef), (37, undef), (38, undef), (39, undef), (40, undef), (41, (.bool true))] ?_
   refine iF ?_
   refine Zq K (o := (.tmp 41)) K (b := true) K (fun l1 => ?_) (fun l1 => ?_)
   rotate_left
   ·cases l1
   refine aQ ?_
   refine aR ?_
   refine iR 2 2 [(42, (.bool a1)), (8, (.bool a1))] ?_
   refine iF ?_
   refine At.ret K ?_
   refine ⟨(.bool a1), K, ?_⟩
   obtain rfl := Qm H
   exact ⟨rfl, SP.sel o6 [] rfl rfl⟩
  ·have H := optS H
   refine iS 2 ?_
   refine cF 18 #[(.tmp 18)] #[24] 19 Tryz.call18 (Zt A6 c7 c5 c6 c8 c9 d9 k7 (Zg hL (SP.keeps e3)) (Dp.sp c1 e3) (some c3) k9) ?_
   rintro e o7 ⟨a0, u, rfl, l2⟩
   refine ⟨_, rfl, ?_⟩
   have h3 := SP.call e3 l2
   clear l2
   refine iR 1 3 [(11, (pt a0 0))] ?_
   refine iF ?_
   refine aQ ?_
   refine aQ ?_
   refine At.join (fun ρ w => ∃ (f0 : Bool), Zf ρ [(1, (.string ⟨List.toArray q⟩)), (2, (.string ⟨List.toArray p⟩)), (3, (.slice b1 (List.length a3) b2)), (9, (.bool a1)), (10, (pt m 0)), (11, (pt a0 0)), (41, (.bool f0))] ∧ SP [] w0 w [Qx m 79 #[(.int .i64 d0.1), (.int .i64 d0.2.1), (.int .i64 d0.2.2.1), (.int .i64 d0.2.2.2.1), (.slice A6 (List.length (List.map stT d9)) c7), (.map (some s))], Vf s d0.2.2.2.2, Qx a0 79 #[(.int .i64 c3.1), (.int .i64 c3.2.1), (.int .i64 c3.2.2.1), (.int .i64 c3.2.2.2.1), (.slice A6 (List.length (List.map stT d9)) c7), (.map (some u))], Vf u c3.2.2.2.2] ∧ Vo (List.map stT d9) q p a3 a1 d0 c3 f0 = some r) ?_ ?_
   ·refine aR ?_
    refine iR 7 7 [(20, (pt m 0)), (21, (.bool false)), (22, (.bool false)), (23, (pt a0 0)), (24, (.bool false)), (25, (.bool false)), (26, (.bool false))] ?_
    refine iS 8 ?_
    refine sL 24 4 f8 0 0 (.agg #[(.int .i64 c5), (.int .i64 c6), (.int .i64 c8), (.int .i64 c9), (.slice A6 (List.length (List.map stT d9)) c7)]) 27 h3 rfl ?_
    obtain ⟨f9, o8, H⟩ := Qe H
    refine iS 9 ?_
    refine cF 16 #[(.tmp 27)] #[24] 28 Tryz.call16 (Gv A6 c7 c5 c6 c8 c9 d9 o7 (Dp.sp c1 h3) f9 o8) ?_
    rintro e o9 ⟨rfl, l3⟩
    refine ⟨_, rfl, ?_⟩
    have h4 := SP.call h3 l3
    clear l3
    refine iR 2 11 [(29, (.bool f9)), (30, (.bool f9))] ?_
    refine In.guard (t := 30) (b := f9) K (fun h5 => ?_) (fun h5 => ?_)
    ·have H := ct H h5
     refine iR 11 22 [(31, undef), (32, undef), (33, (.bool true)), (34, (.bool true)), (35, undef), (36, undef), (37, undef), (38, undef), (39, undef), (40, undef), (41, (.bool true))] ?_
     refine iF ?_
     exact ⟨true, ⟨K, K, K, K, K, K, K, trivial⟩, SP.sel h4 [1, 2, 3, 4] rfl rfl, H⟩
    ·have H := cf H h5
     refine iR 1 12 [(31, (.slice b1 (List.length a3) b2))] ?_
     obtain ⟨g0, p0, H⟩ := Qe H
     refine iS 13 ?_
     refine cF 17 #[(.tmp 31)] #[25] 32 Tryz.call17 (G0 b1 b2 a3 o9 (RdT.sp h2 h4) g0 p0) ?_
     rintro e w6 ⟨rfl, l4⟩
     refine ⟨_, rfl, ?_⟩
     have l5 := SP.call h4 l4
     clear l4
     refine iR 2 15 [(33, (.bool g0)), (34, (.bool g0))] ?_
     refine In.guard (t := 34) (b := g0) K (fun h6 => ?_) (fun h6 => ?_)
     ·have H := ct H h6
      refine iR 7 22 [(35, undef), (36, undef), (37, undef), (38, undef), (39, undef), (40, undef), (41, (.bool true))] ?_
      refine iF ?_
      exact ⟨true, ⟨K, K, K, K, K, K, K, trivial⟩, SP.sel l5 [1, 2, 3, 4] rfl rfl, H⟩
     ·have H := cf H h6
      refine iR 7 22 [(35, (.string ⟨List.toArray q⟩)), (36, (.int .i64 ((List.length q : Nat) : Int))), (37, (.string ⟨List.toArray p⟩)), (38, (.int .i64 ((List.length p : Nat) : Int))), (39, (.int .i64 (IntKind.wrap .i64 (((List.length q : Nat) : Int) + ((List.length p : Nat) : Int))))), (40, (.bool (decide ((IntKind.wrap .i64 (((List.length q : Nat) : Int) + ((List.length p : Nat) : Int))) > 2000)))), (41, (.bool (decide ((IntKind.wrap .i64 (((List.length q : Nat) : Int) + ((List.length p : Nat) : Int))) > 2000))))] ?_
      refine iF ?_
      exact ⟨(decide ((IntKind.wrap .i64 (((List.length q : Nat) : Int) + ((List.length p : Nat) : Int))) > 2000)), ⟨K, K, K, K, K, K, K, trivial⟩, SP.sel l5 [1, 2, 3, 4] rfl rfl, H⟩
   ·rintro ρ p1 ⟨f0, hk, g1, H⟩
    unfold Vo at H
    first | refine At.known [(1, (.string ⟨List.toArray q⟩)), (2, (.string ⟨List.toArray p⟩)), (3, (.slice b1 (List.length a3) b2)), (9, (.bool a1)), (10, (pt m 0)), (11, (pt a0 0)), (41, (.bool f0))] hk ?_ | rw [← Q8 (l := [(1, (.string ⟨List.toArray q⟩)), (2, (.string ⟨List.toArray p⟩)), (3, (.slice b1 (List.length a3) b2)), (9, (.bool a1)), (10, (pt m 0)), (11, (pt a0 0)), (41, (.bool f0))]) hk]
    refine Zq K (o := (.tmp 41)) K (b := f0) K (fun h7 => ?_) (fun h7 => ?_)
    ·have H := ct H h7
     refine aQ ?_
     refine aR ?_
     refine iR 2 2 [(42, (.bool a1)), (8, (.bool a1))] ?_
     refine iF ?_
     refine At.ret K ?_
     refine ⟨(.bool a1), K, ?_⟩
     obtain rfl := Qm H
     exact ⟨rfl, SP.sel g1 [] rfl rfl⟩
    ·have H := cf H h7
     refine At.skip K ?_
     refine aQ ?_
     refine aR ?_
     refine iR 3 3 [(43, (pt m 0)), (44, (.string ⟨List.toArray q⟩)), (45, (.string ⟨List.toArray p⟩))] ?_
     obtain ⟨d2, p2, H⟩ := Qe H
     refine iS 4 ?_
     refine cF 20 #[(.tmp 43), (.tmp 44), (.tmp 45)] #[29, 9, 9] 46 Tryz.call20 (Vz m A6 c7 s d0.1 d0.2.1 d0.2.2.1 d0.2.2.2.1 d9 d0.2.2.2.2 q p p1 (Yc g1 [0, 1] rfl rfl) (fun w hm => Dp.mono _ (Xq g1 (l := [0, 1]) rfl hm) c1) d2 p2) ?_
     rintro e p3 ⟨rfl, l6⟩
     refine ⟨_, rfl, ?_⟩
     have p4 : SP [] w0 p3 [Qx a0 79 #[(.int .i64 c3.1), (.int .i64 c3.2.1), (.int .i64 c3.2.2.1), (.int .i64 c3.2.2.2.1), (.slice A6 (List.length (List.map stT d9)) c7), (.map (some u))], Vf u c3.2.2.2.2, Qx m 79 #[(.int .i64 d2.2.1), (.int .i64 d2.2.2.1), (.int .i64 d2.2.2.2.1), (.int .i64 d2.2.2.2.2.1), (.slice A6 (List.length (List.map stT d9)) c7), (.map (some s))], Vf s d2.2.2.2.2.2] := Zk g1 [0, 1] [2, 3] rfl rfl l6 rfl
     clear l6
     refine iF ?_
     refine aQ ?_
     refine aQ ?_
     refine aR ?_
     refine iR 1 1 [(12, (.int .i64 0))] ?_
     refine iF ?_
     refine Zu K (id := 0) K ?_
     refine Jy K (fun f1 ρ w => ∃ (e4 : Int) (e5 : Int) (e6 : Int) (e7 : Int) (e8 : Yp) (d5 : Int) (d6 : Int) (d7 : Int) (d8 : Int) (e0 : Yp) (a4 : Int), Zf ρ [(1, (.string ⟨List.toArray q⟩)), (2, (.string ⟨List.toArray p⟩)), (3, (.slice b1 (List.length a3) b2)), (9, (.bool a1)), (10, (pt m 0)), (11, (pt a0 0)), (12, (.int .i64 a4))] ∧ SP [] w0 w [Qx m 79 #[(.int .i64 e4), (.int .i64 e5), (.int .i64 e6), (.int .i64 e7), (.slice A6 (List.length (List.map stT d9)) c7), (.map (some s))], Vf s e8, Qx a0 79 #[(.int .i64 d5), (.int .i64 d6), (.int .i64 d7), (.int .i64 d8), (.slice A6 (List.length (List.map stT d9)) c7), (.map (some u))], Vf u e0] ∧ Q5 (List.map stT d9) q p a3 a1 f1 e4 e5 e6 e7 e8 d5 d6 d7 d8 e0 a4 = some r) (by rintro ρ w ⟨e4, e5, e6, e7, e8, d5, d6, d7, d8, e0, a4, hk, hs, H⟩; cases H) ?_ Xa ?_
     ·rintro f1 ρ w7 ⟨e4, e5, e6, e7, e8, d5, d6, d7, d8, e0, a4, hk, g2, H⟩
      refine At.known [(1, (.string ⟨List.toArray q⟩)), (2, (.string ⟨List.toArray p⟩)), (3, (.slice b1 (List.length a3) b2)), (9, (.bool a1)), (10, (pt m 0)), (11, (pt a0 0)), (12, (.int .i64 a4))] hk ?_
      replace H := (show V3 (Q5 (List.map stT d9) q p a3 a1 f1) (List.map stT d9) q p a3 a1 e4 e5 e6 e7 e8 d5 d6 d7 d8 e0 a4 = some r from H)
      unfold V3 at H
      refine aQ ?_
      refine aQ ?_
      refine aR ?_
      refine iR 4 4 [(47, (.int .i64 a4)), (48, (.slice b1 (List.length a3) b2)), (49, (.int .i64 ((List.length a3 : Nat) : Int))), (50, (.bool (decide (a4 < ((List.length a3 : Nat) : Int)))))] ?_
      refine iF ?_
      refine Zq K (o := (.tmp 50)) K (b := (decide (a4 < ((List.length a3 : Nat) : Int)))) K (fun h8 => ?_) (fun h8 => ?_)
      ·have H := ct H h8
       refine At.skip K ?_
       refine aQ ?_
       refine Zu K (id := 1) K ?_
       refine aQ ?_
       refine aR ?_
       refine iR 2 2 [(53, (.slice b1 (List.length a3) b2)), (54, (.int .i64 a4))] ?_
       obtain ⟨f, l7, l8, p5, H⟩ := Qn H
       refine iS 3 ?_
       refine Vw (e := (Qj (Qd .i64) (Qj Q4 (Qj Q4 (Qj Q4 (Qj Q4 (Qd .i64))))))) (l := a3) (A := b1) (c := b2) (T := 25) (E := 34) (x := (.tmp 53)) (ix := (.tmp 54)) (ki := .i64) (iz := a4) (d := (some 55)) (k := 2) K rfl K K K K (RdT.sp h2 g2) l7 l8 ?_
       intro p6 p7 p8 w8 hc1681
       refine iS 4 ?_
       refine Qi.cells (t := 34) (x := (.tmp 55)) (b := p6) (off := (p7 + Int.toNat a4 * (Qj (Qd .i64) (Qj Q4 (Qj Q4 (Qj Q4 (Qj Q4 (Qd .i64)))))).sz)) (xs := [(.int .i64 f.1), (.string ⟨List.toArray f.2.1⟩), (.string ⟨List.toArray f.2.2.1⟩), (.string ⟨List.toArray f.2.2.2.1⟩), (.string ⟨List.toArray f.2.2.2.2.1⟩), (.int .i64 f.2.2.2.2.2)]) (d := (some 56)) (k := 3) K rfl K K K (Xd (e := (Qj (Qd .i64) (Qj Q4 (Qj Q4 (Qj Q4 (Qj Q4 (Qd .i64))))))) (Qf (RdT.sp h2 g2) p8 l7 l8) p5 rfl) ?_
       refine iS 5 ?_
       refine Qi.alloc (t := 34) (z := (.agg #[(.int .i64 0), (.string ⟨List.toArray ([] : List UInt8)⟩), (.string ⟨List.toArray ([] : List UInt8)⟩), (.string ⟨List.toArray ([] : List UInt8)⟩), (.string ⟨List.toArray ([] : List UInt8)⟩), (.int .i64 0)])) (d := (some 13)) (k := 4) K rfl K g2 ?_
       intro h w9 p9
       refine iS 6 ?_
       refine Qi.store (t := 34) (x := (.tmp 13)) (y := (.tmp 56)) (g := h) (off := 0) (i := 4) (v := (.agg #[(.int .i64 f.1), (.string ⟨List.toArray f.2.1⟩), (.string ⟨List.toArray f.2.2.1⟩), (.string ⟨List.toArray f.2.2.2.1⟩), (.string ⟨List.toArray f.2.2.2.2.1⟩), (.int .i64 f.2.2.2.2.2)])) (cs' := #[(.int .i64 f.1), (.string ⟨List.toArray f.2.1⟩), (.string ⟨List.toArray f.2.2.1⟩), (.string ⟨List.toArray f.2.2.2.1⟩), (.string ⟨List.toArray f.2.2.2.2.1⟩), (.int .i64 f.2.2.2.2.2)]) (d := none) (k := 5) K rfl K K p9 rfl K ?_
       intro q0 e9
       refine iF ?_
       refine aQ ?_
       refine aQ ?_
       refine aR ?_
       refine iR 1 1 [(57, (pt h 0))] ?_
       refine iS 2 ?_
       refine sL 3 57 h 0 4 (.int .i64 f.1) 58 e9 rfl ?_
       refine iR 1 3 [(59, (.bool (f.1 == 0)))] ?_
       refine iF ?_
       refine At.join (fun ρ w => ∃ (b3 : Int) (b4 : Int) (b5 : Int) (b6 : Int) (b7 : Yp) (a5 : Int) (a6 : Int) (a7 : Int) (a8 : Int) (a9 : Yp), Zf ρ [(1, (.string ⟨List.toArray q⟩)), (2, (.string ⟨List.toArray p⟩)), (3, (.slice b1 (List.length a3) b2)), (9, (.bool a1)), (10, (pt m 0)), (11, (pt a0 0)), (12, (.int .i64 a4)), (13, (pt h 0))] ∧ SP [] w0 w [Qx m 79 #[(.int .i64 b3), (.int .i64 b4), (.int .i64 b5), (.int .i64 b6), (.slice A6 (List.length (List.map stT d9)) c7), (.map (some s))], Vf s b7, Qx a0 79 #[(.int .i64 a5), (.int .i64 a6), (.int .i64 a7), (.int .i64 a8), (.slice A6 (List.length (List.map stT d9)) c7), (.map (some u))], Vf u a9, Qx h 34 #[(.int .i64 f.1), (.string ⟨List.toArray f.2.1⟩), (.string ⟨List.toArray f.2.2.1⟩), (.string ⟨List.toArray f.2.2.2.1⟩), (.string ⟨List.toArray f.2.2.2.2.1⟩), (.int .i64 f.2.2.2.2.2)]] ∧ Zd (Q5 (List.map stT d9) q p a3 a1 f1) (List.map stT d9) q p a4 f b3 b4 b5 b6 b7 a5 a6 a7 a8 a9 = some r) ?_ ?_
       ·refine Zq K (o := (.tmp 59)) K (b := (f.1 == 0)) K (fun h9 => ?_) (fun h9 => ?_)
        ·have H := ct H h9
         refine aQ ?_
         refine aR ?_
         refine iR 2 2 [(60, (pt m 0)), (61, (pt h 1))] ?_
         refine iS 3 ?_
         refine sL 9 61 h 1 4 (.string ⟨List.toArray f.2.1⟩) 62 e9 rfl ?_
         refine iR 1 4 [(63, (pt h 2))] ?_
         refine iS 5 ?_
         refine sL 9 63 h 2 4 (.string ⟨List.toArray f.2.2.1⟩) 64 e9 rfl ?_
         obtain ⟨c4, q1, H⟩ := Qe H
         refine iS 6 ?_
         refine cF 20 #[(.tmp 60), (.tmp 62), (.tmp 64)] #[29, 9, 9] 65 Tryz.call20 (Vz m A6 c7 s e4 e5 e6 e7 d9 e8 f.2.1 f.2.2.1 q0 (Yc e9 [0, 1] rfl rfl) (fun w hm => Dp.mono _ (Xq e9 (l := [0, 1]) rfl hm) c1) c4 q1) ?_
         rintro e l9 ⟨rfl, m0⟩
         refine ⟨_, rfl, ?_⟩
         have f3 : SP [] w0 l9 [Qx a0 79 #[(.int .i64 d5), (.int .i64 d6), (.int .i64 d7), (.int .i64 d8), (.slice A6 (List.length (List.map stT d9)) c7), (.map (some u))], Vf u e0, Qx h 34 #[(.int .i64 f.1), (.string ⟨List.toArray f.2.1⟩), (.string ⟨List.toArray f.2.2.1⟩), (.string ⟨List.toArray f.2.2.2.1⟩), (.string ⟨List.toArray f.2.2.2.2.1⟩), (.int .i64 f.2.2.2.2.2)], Qx m 79 #[(.int .i64 c4.2.1), (.int .i64 c4.2.2.1), (.int .i64 c4.2.2.2.1), (.int .i64 c4.2.2.2.2.1), (.slice A6 (List.length (List.map stT d9)) c7), (.map (some s))], Vf s c4.2.2.2.2.2] := Zk e9 [0, 1] [2, 3, 4] rfl rfl m0 rfl
         clear m0
         refine iF ?_
         refine aR ?_
         refine iR 2 2 [(66, (pt a0 0)), (67, (pt h 1))] ?_
         refine iS 3 ?_
         refine sL 9 67 h 1 2 (.string ⟨List.toArray f.2.1⟩) 68 f3 rfl ?_
         refine iR 1 4 [(69, (pt h 2))] ?_
         refine iS 5 ?_
         refine sL 9 69 h 2 2 (.string ⟨List.toArray f.2.2.1⟩) 70 f3 rfl ?_
         obtain ⟨d3, q2, H⟩ := Qe H
         refine iS 6 ?_
         refine cF 20 #[(.tmp 66), (.tmp 68), (.tmp 70)] #[29, 9, 9] 71 Tryz.call20 (Vz a0 A6 c7 u d5 d6 d7 d8 d9 e0 f.2.1 f.2.2.1 l9 (Yc f3 [0, 1] rfl rfl) (fun w hm => Dp.mono _ (Xq f3 (l := [0, 1]) rfl hm) c1) d3 q2) ?_
         rintro e q3 ⟨rfl, m1⟩
         refine ⟨_, rfl, ?_⟩
         have q4 : SP [] w0 q3 [Qx h 34 #[(.int .i64 f.1), (.string ⟨List.toArray f.2.1⟩), (.string ⟨List.toArray f.2.2.1⟩), (.string ⟨List.toArray f.2.2.2.1⟩), (.string ⟨List.toArray f.2.2.2.2.1⟩), (.int .i64 f.2.2.2.2.2)], Qx m 79 #[(.int .i64 c4.2.1), (.int .i64 c4.2.2.1), (.int .i64 c4.2.2.2.1), (.int .i64 c4.2.2.2.2.1), (.slice A6 (List.length (List.map stT d9)) c7), (.map (some s))], Vf s c4.2.2.2.2.2, Qx a0 79 #[(.int .i64 d3.2.1), (.int .i64 d3.2.2.1), (.int .i64 d3.2.2.2.1), (.int .i64 d3.2.2.2.2.1), (.slice A6 (List.length (List.map stT d9)) c7), (.map (some u))], Vf u d3.2.2.2.2.2] := Zk f3 [0, 1] [2, 3, 4] rfl rfl m1 rfl
         clear m1
         refine iF ?_
         exact ⟨c4.2.1, c4.2.2.1, c4.2.2.2.1, c4.2.2.2.2.1, c4.2.2.2.2.2, d3.2.1, d3.2.2.1, d3.2.2.2.1, d3.2.2.2.2.1, d3.2.2.2.2.2, ⟨K, K, K, K, K, K, K, K, trivial⟩, SP.sel q4 [1, 2, 3, 4, 0] rfl rfl, H⟩
        ·have H := cf H h9
         refine At.skip K ?_
         exact ⟨e4, e5, e6, e7, e8, d5, d6, d7, d8, e0, ⟨K, K, K, K, K, K, K, K, trivial⟩, SP.sel e9 [0, 1, 2, 3, 4] rfl rfl, H⟩
       ·rintro ρ x0 ⟨b3, b4, b5, b6, b7, a5, a6, a7, a8, a9, hk, g3, H⟩
        unfold Zd at H
        first | refine At.known [(1, (.string ⟨List.toArray q⟩)), (2, (.string ⟨List.toArray p⟩)), (3, (.slice b1 (List.length a3) b2)), (9, (.bool a1)), (10, (pt m 0)), (11, (pt a0 0)), (12, (.int .i64 a4)), (13, (pt h 0))] hk ?_ | rw [← Q8 (l := [(1, (.string ⟨List.toArray q⟩)), (2, (.string ⟨List.toArray p⟩)), (3, (.slice b1 (List.length a3) b2)), (9, (.bool a1)), (10, (pt m 0)), (11, (pt a0 0)), (12, (.int .i64 a4)), (13, (pt h 0))]) hk]
        refine aQ ?_
        refine At.join (fun ρ w => ∃ (c0 : Bool), Zf ρ [(1, (.string ⟨List.toArray q⟩)), (2, (.string ⟨List.toArray p⟩)), (3, (.slice b1 (List.length a3) b2)), (9, (.bool a1)), (10, (pt m 0)), (11, (pt a0 0)), (12, (.int .i64 a4)), (13, (pt h 0)), (14, (.bool c0))] ∧ SP [] w0 w [Qx m 79 #[(.int .i64 b3), (.int .i64 b4), (.int .i64 b5), (.int .i64 b6), (.slice A6 (List.length (List.map stT d9)) c7), (.map (some s))], Vf s b7, Qx a0 79 #[(.int .i64 a5), (.int .i64 a6), (.int .i64 a7), (.int .i64 a8), (.slice A6 (List.length (List.map stT d9)) c7), (.map (some u))], Vf u a9, Qx h 34 #[(.int .i64 f.1), (.string ⟨List.toArray f.2.1⟩), (.string ⟨List.toArray f.2.2.1⟩), (.string ⟨List.toArray f.2.2.2.1⟩), (.string ⟨List.toArray f.2.2.2.2.1⟩), (.int .i64 f.2.2.2.2.2)]] ∧ Zc (Q5 (List.map stT d9) q p a3 a1 f1) (List.map stT d9) q p a4 f b3 b4 b5 b6 b7 a5 a6 a7 a8 a9 c0 = some r) ?_ ?_
        ·refine aR ?_
         refine iR 1 1 [(72, (pt h 1))] ?_
         refine iS 2 ?_
         refine sL 9 72 h 1 4 (.string ⟨List.toArray f.2.1⟩) 73 g3 rfl ?_
         refine iR 1 3 [(74, (.string ⟨List.toArray q⟩))] ?_
         refine iS 4 ?_
         refine Ye (op := .eql) (T := 9) (T' := 9) (x := (.tmp 73)) (y := (.tmp 74)) (a := f.2.1) (b := q) (r := (.bool (f.2.1 == q))) (d := (some 75)) (k := 3) K rfl K K rfl ?_
         refine iR 1 5 [(76, (.bool (f.2.1 == q)))] ?_
         refine In.guard (t := 76) (b := (f.2.1 == q)) K (fun i0 => ?_) (fun i0 => ?_)
         ·have H := ct H i0
          refine iR 1 6 [(77, (pt h 2))] ?_
          refine iS 7 ?_
          refine sL 9 77 h 2 4 (.string ⟨List.toArray f.2.2.1⟩) 78 g3 rfl ?_
          refine iR 1 8 [(79, (.string ⟨List.toArray p⟩))] ?_
          refine iS 9 ?_
          refine Ye (op := .eql) (T := 9) (T' := 9) (x := (.tmp 78)) (y := (.tmp 79)) (a := f.2.2.1) (b := p) (r := (.bool (f.2.2.1 == p))) (d := (some 80)) (k := 8) K rfl K K rfl ?_
          refine iR 2 11 [(81, (.bool (f.2.2.1 == p))), (14, (.bool (f.2.2.1 == p)))] ?_
          refine iF ?_
          exact ⟨(f.2.2.1 == p), ⟨K, K, K, K, K, K, K, K, K, trivial⟩, SP.sel g3 [0, 1, 2, 3, 4] rfl rfl, H⟩
         ·have H := cf H i0
          refine iR 6 11 [(77, undef), (78, undef), (79, undef), (80, undef), (81, (.bool false)), (14, (.bool false))] ?_
          refine iF ?_
          exact ⟨false, ⟨K, K, K, K, K, K, K, K, K, trivial⟩, SP.sel g3 [0, 1, 2, 3, 4] rfl rfl, H⟩
        ·rintro ρ x1 ⟨c0, hk, g4, H⟩
         unfold Zc at H
         first | refine At.known [(1, (.string ⟨List.toArray q⟩)), (2, (.string ⟨List.toArray p⟩)), (3, (.slice b1 (List.length a3) b2)), (9, (.bool a1)), (10, (pt m 0)), (11, (pt a0 0)), (12, (.int .i64 a4)), (13, (pt h 0)), (14, (.bool c0))] hk ?_ | rw [← Q8 (l := [(1, (.string ⟨List.toArray q⟩)), (2, (.string ⟨List.toArray p⟩)), (3, (.slice b1 (List.length a3) b2)), (9, (.bool a1)), (10, (pt m 0)), (11, (pt a0 0)), (12, (.int .i64 a4)), (13, (pt h 0)), (14, (.bool c0))]) hk]
         refine aQ ?_
         refine At.join (fun ρ w => ∃ (g5 : Int) (g6 : Int) (g7 : Int) (g8 : Int) (g9 : Yp) (f2 : Bool), Zf ρ [(1, (.string ⟨List.toArray q⟩)), (2, (.string ⟨List.toArray p⟩)), (3, (.slice b1 (List.length a3) b2)), (9, (.bool a1)), (10, (pt m 0)), (11, (pt a0 0)), (12, (.int .i64 a4)), (116, (.bool f2))] ∧ SP [] w0 w [Qx m 79 #[(.int .i64 g5), (.int .i64 g6), (.int .i64 g7), (.int .i64 g8), (.slice A6 (List.length (List.map stT d9)) c7), (.map (some s))], Vf s g9, Qx a0 79 #[(.int .i64 a5), (.int .i64 a6), (.int .i64 a7), (.int .i64 a8), (.slice A6 (List.length (List.map stT d9)) c7), (.map (some u))], Vf u a9] ∧ Vj (Q5 (List.map stT d9) q p a3 a1 f1) a4 a5 a6 a7 a8 a9 g5 g6 g7 g8 g9 f2 = some r) ?_ ?_
         ·obtain ⟨b0, h1, H⟩ := Qe H
          rcases Bool.eq_false_or_eq_true b0 with b8 | b8
          ·have H := ct H b8
           refine aG [GEq (pt m 0), GEq (.string ⟨List.toArray q⟩), GEq (.string ⟨List.toArray p⟩), GEq (pt h 5), GEq (.int .i64 f.2.2.2.2.2), GEq (.bool b0), GEq (.bool b0), GEq undef, GEq undef, GEq undef, GEq undef, GEq (.bool true), GEq (.bool true), GEq undef, GEq undef, GEq undef, GEq undef, GEq undef, GEq undef, GEq undef, GEq undef, GEq undef, GEq undef, GEq undef, GEq undef, GEq undef, GEq undef, GEq undef, GEq undef, GEq undef, GEq undef, GEq undef, GEq undef, GEq undef, GEq (.bool true)] [5] [sG [] [] [] w0 [Qx m 79 #[(.int .i64 b3), (.int .i64 b4), (.int .i64 b5), (.int .i64 b6), (.slice A6 (List.length (List.map stT d9)) c7), (.map (some s))], Vf s b7, Qx a0 79 #[(.int .i64 a5), (.int .i64 a6), (.int .i64 a7), (.int .i64 a8), (.slice A6 (List.length (List.map stT d9)) c7), (.map (some u))], Vf u a9, Qx h 34 #[(.int .i64 f.1), (.string ⟨List.toArray f.2.1⟩), (.string ⟨List.toArray f.2.2.1⟩), (.string ⟨List.toArray f.2.2.2.1⟩), (.string ⟨List.toArray f.2.2.2.2.1⟩), (.int .i64 f.2.2.2.2.2)]], sG [5] [(.bool b0)] [] w0 [Qx a0 79 #[(.int .i64 a5), (.int .i64 a6), (.int .i64 a7), (.int .i64 a8), (.slice A6 (List.length (List.map stT d9)) c7), (.map (some u))], Vf u a9, Qx h 34 #[(.int .i64 f.1), (.string ⟨List.toArray f.2.1⟩), (.string ⟨List.toArray f.2.2.1⟩), (.string ⟨List.toArray f.2.2.2.1⟩), (.string ⟨List.toArray f.2.2.2.2.1⟩), (.int .i64 f.2.2.2.2.2)], Qx m 79 #[(.int .i64 b3), (.int .i64 b4), (.int .i64 b5), (.int .i64 b6), (.slice A6 (List.length (List.map stT d9)) c7), (.map (some s))], Vf s b7]] 35 1 ⟨trivial, SP.drew g4⟩ ?_ ?_
           iterate 35 refine And.intro ?_ ?_
           exact trivial
           ·exact oV (hC (hS 10 (pt m 0)) (h0)) (pt m 0)
           ·exact oV (hC (hS 1 (.string ⟨List.toArray q⟩)) (h0)) (.string ⟨List.toArray q⟩)
           ·exact oV (hC (hS 2 (.string ⟨List.toArray p⟩)) (h0)) (.string ⟨List.toArray p⟩)
           ·exact oV (hC (hS 13 (pt h 0)) (h0)) (pt h 5)
           ·refine oL 0 ?_
            ·rintro ρ' w' hs hah ⟨x2, q5⟩
             refine kM (kc (kA hah 3 85) k0) fun hkn => ?_
             refine sL 2 85 h 5 4 (.int .i64 f.2.2.2.2.2) 86 q5 rfl ?_
             exact eK hkn
           ·refine oH 0 1 ?_
            ·rintro ρ' w' hs hah ⟨x3, i1⟩
             refine kM (kc (kA hah 0 82) (kc (kA hah 1 83) (kc (kA hah 2 84) (kc (kA hah 4 86) k0)))) fun hkn => ?_
             refine cF 22 #[(.tmp 82), (.tmp 83), (.tmp 84), (.tmp 86)] #[29, 9, 9, 2] 87 Tryz.call22 (Vv m A6 c7 s b3 b4 b5 b6 d9 b7 q p f.2.2.2.2.2 w' (Yc i1 [0, 1] rfl rfl) (fun w hm => Dp.mono _ (Xq i1 (l := [0, 1]) rfl hm) c1) b0 h1) ?_
             rintro e q6 ⟨rfl, m2⟩
             refine ⟨_, rfl, ?_⟩
             have q7 : SP [] w0 q6 [Qx a0 79 #[(.int .i64 a5), (.int .i64 a6), (.int .i64 a7), (.int .i64 a8), (.slice A6 (List.length (List.map stT d9)) c7), (.map (some u))], Vf u a9, Qx h 34 #[(.int .i64 f.1), (.string ⟨List.toArray f.2.1⟩), (.string ⟨List.toArray f.2.2.1⟩), (.string ⟨List.toArray f.2.2.2.1⟩), (.string ⟨List.toArray f.2.2.2.2.1⟩), (.int .i64 f.2.2.2.2.2)], Qx m 79 #[(.int .i64 b3), (.int .i64 b4), (.int .i64 b5), (.int .i64 b6), (.slice A6 (List.length (List.map stT d9)) c7), (.map (some s))], Vf s b7] := Zk i1 [0, 1] [2, 3, 4] rfl rfl m2 rfl
             clear m2
             refine ⟨_, Qa hkn, rfl, ?_⟩
             exact (And.intro (And.intro rfl (trivial)) (q7))
           ·exact oV (hC (hA 5 87) (h0)) (.bool b0)
           ·exact oW (hC (hB 6 88 b8) (h0)) 89
           ·exact oW (hC (hB 6 88 b8) (h0)) 90
           ·exact oW (hC (hB 6 88 b8) (h0)) 91
           ·exact oW (hC (hB 6 88 b8) (h0)) 92
           ·exact oV (hC (hB 6 88 b8) (hC (hA 10 92) (h0))) (.bool true)
           ·exact oV (hC (hA 11 93) (h0)) (.bool true)
           ·exact oW (hC (hA 12 94) (h0)) 95
           ·exact oW (hC (hA 12 94) (h0)) 96
           ·exact oW (hC (hA 12 94) (h0)) 97
           ·exact oW (hC (hA 15 97) (h0)) 98
           ·exact oW (hC (hA 15 97) (h0)) 99
           ·exact oW (hC (hA 15 97) (h0)) 100
           ·exact oW (hC (hA 15 97) (h0)) 101
           ·exact oW (hC (hA 15 97) (h0)) 102
           ·exact oW (hC (hA 15 97) (h0)) 103
           ·exact oW (hC (hA 15 97) (h0)) 104
           ·exact oW (hC (hA 15 97) (h0)) 105
           ·exact oW (hC (hA 15 97) (h0)) 106
           ·exact oW (hC (hA 15 97) (h0)) 107
           ·exact oW (hC (hA 15 97) (h0)) 108
           ·exact oW (hC (hA 15 97) (h0)) 109
           ·exact oW (hC (hA 15 97) (h0)) 110
           ·exact oW (hC (hA 15 97) (h0)) 111
           ·exact oW (hC (hA 15 97) (h0)) 112
           ·exact oW (hC (hA 15 97) (h0)) 113
           ·exact oW (hC (hA 15 97) (h0)) 114
           ·exact oW (hC (hA 12 94) (h0)) 115
           ·exact oV (hC (hA 12 94) (hC (hA 33 115) (h0))) (.bool true)
           ·rintro ρ' w' hs hf ⟨⟨x4, -⟩, m3⟩
            refine Vd [(1, (.string ⟨List.toArray q⟩)), (2, (.string ⟨List.toArray p⟩)), (3, (.slice b1 (List.length a3) b2)), (9, (.bool a1)), (10, (pt m 0)), (11, (pt a0 0)), (12, (.int .i64 a4)), (116, (.bool true))] ⟨(hs 1 K).trans K, (hs 2 K).trans K, (hs 3 K).trans K, (hs 9 K).trans K, (hs 10 K).trans K, (hs 11 K).trans K, (hs 12 K).trans K, hf 34 116 K, trivial⟩ ?_
            obtain ⟨x5, q8⟩ : ∃ x, w' = x := ⟨_, rfl⟩
            rw [q8] at m3 ⊢
            exact ⟨b3, b4, b5, b6, b7, true, ⟨K, K, K, K, K, K, K, K, trivial⟩, SP.sel m3 [3, 4, 0, 1] rfl rfl, H⟩
          ·have H := cf H b8
           obtain ⟨j, i2, H⟩ := Qe H
           rcases Bool.eq_false_or_eq_true j.1 with c2 | c2
           ·have H := ct H c2
            refine aG [GEq (pt m 0), GEq (.string ⟨List.toArray q⟩), GEq (.string ⟨List.toArray p⟩), GEq (pt h 5), GEq (.int .i64 f.2.2.2.2.2), GEq (.bool b0), GEq (.bool b0), GEq (pt m 0), GEq (.string ⟨List.toArray q⟩), GEq (.string ⟨List.toArray p⟩), GEq (.bool j.1), GEq (.bool j.1), GEq (.bool j.1), GEq undef, GEq undef, GEq undef, GEq undef, GEq undef, GEq undef, GEq undef, GEq undef, GEq undef, GEq undef, GEq undef, GEq undef, GEq undef, GEq undef, GEq undef, GEq undef, GEq undef, GEq undef, GEq undef, GEq undef, GEq undef, GEq (.bool true)] [5, 10] [sG [] [] [] w0 [Qx m 79 #[(.int .i64 b3), (.int .i64 b4), (.int .i64 b5), (.int .i64 b6), (.slice A6 (List.length (List.map stT d9)) c7), (.map (some s))], Vf s b7, Qx a0 79 #[(.int .i64 a5), (.int .i64 a6), (.int .i64 a7), (.int .i64 a8), (.slice A6 (List.length (List.map stT d9)) c7), (.map (some u))], Vf u a9, Qx h 34 #[(.int .i64 f.1), (.string ⟨List.toArray f.2.1⟩), (.string ⟨List.toArray f.2.2.1⟩), (.string ⟨List.toArray f.2.2.2.1⟩), (.string ⟨List.toArray f.2.2.2.2.1⟩), (.int .i64 f.2.2.2.2.2)]], sG [5] [(.bool b0)] [] w0 [Qx a0 79 #[(.int .i64 a5), (.int .i64 a6), (.int .i64 a7), (.int .i64 a8), (.slice A6 (List.length (List.map stT d9)) c7), (.map (some u))], Vf u a9, Qx h 34 #[(.int .i64 f.1), (.string ⟨List.toArray f.2.1⟩), (.string ⟨List.toArray f.2.2.1⟩), (.string ⟨List.toArray f.2.2.2.1⟩), (.string ⟨List.toArray f.2.2.2.2.1⟩), (.int .i64 f.2.2.2.2.2)], Qx m 79 #[(.int .i64 b3), (.int .i64 b4), (.int .i64 b5), (.int .i64 b6), (.slice A6 (List.length (List.map stT d9)) c7), (.map (some s))], Vf s b7], sG [5, 10] [(.bool b0), (.bool j.1)] [] w0 [Qx a0 79 #[(.int .i64 a5), (.int .i64 a6), (.int .i64 a7), (.int .i64 a8), (.slice A6 (List.length (List.map stT d9)) c7), (.map (some u))], Vf u a9, Qx h 34 #[(.int .i64 f.1), (.string ⟨List.toArray f.2.1⟩), (.string ⟨List.toArray f.2.2.1⟩), (.string ⟨List.toArray f.2.2.2.1⟩), (.string ⟨List.toArray f.2.2.2.2.1⟩), (.int .i64 f.2.2.2.2.2)], Qx m 79 #[(.int .i64 j.2.1), (.int .i64 j.2.2.1), (.int .i64 j.2.2.2.1), (.int .i64 j.2.2.2.2.1), (.slice A6 (List.length (List.map stT d9)) c7), (.map (some s))], Vf s j.2.2.2.2.2]] 35 2 ⟨trivial, SP.drew g4⟩ ?_ ?_
            iterate 35 refine And.intro ?_ ?_
            exact trivial
            ·exact oV (hC (hS 10 (pt m 0)) (h0)) (pt m 0)
            ·exact oV (hC (hS 1 (.string ⟨List.toArray q⟩)) (h0)) (.string ⟨List.toArray q⟩)
            ·exact oV (hC (hS 2 (.string ⟨List.toArray p⟩)) (h0)) (.string ⟨List.toArray p⟩)
            ·exact oV (hC (hS 13 (pt h 0)) (h0)) (pt h 5)
            ·refine oL 0 ?_
             ·rintro ρ' w' hs hah ⟨x6, q9⟩
              refine kM (kc (kA hah 3 85) k0) fun hkn => ?_
              refine sL 2 85 h 5 4 (.int .i64 f.2.2.2.2.2) 86 q9 rfl ?_
              exact eK hkn
            ·refine oH 0 1 ?_
             ·rintro ρ' w' hs hah ⟨x7, i3⟩
              refine kM (kc (kA hah 0 82) (kc (kA hah 1 83) (kc (kA hah 2 84) (kc (kA hah 4 86) k0)))) fun hkn => ?_
              refine cF 22 #[(.tmp 82), (.tmp 83), (.tmp 84), (.tmp 86)] #[29, 9, 9, 2] 87 Tryz.call22 (Vv m A6 c7 s b3 b4 b5 b6 d9 b7 q p f.2.2.2.2.2 w' (Yc i3 [0, 1] rfl rfl) (fun w hm => Dp.mono _ (Xq i3 (l := [0, 1]) rfl hm) c1) b0 h1) ?_
              rintro e r0 ⟨rfl, m4⟩
              refine ⟨_, rfl, ?_⟩
              have r1 : SP [] w0 r0 [Qx a0 79 #[(.int .i64 a5), (.int .i64 a6), (.int .i64 a7), (.int .i64 a8), (.slice A6 (List.length (List.map stT d9)) c7), (.map (some u))], Vf u a9, Qx h 34 #[(.int .i64 f.1), (.string ⟨List.toArray f.2.1⟩), (.string ⟨List.toArray f.2.2.1⟩), (.string ⟨List.toArray f.2.2.2.1⟩), (.string ⟨List.toArray f.2.2.2.2.1⟩), (.int .i64 f.2.2.2.2.2)], Qx m 79 #[(.int .i64 b3), (.int .i64 b4), (.int .i64 b5), (.int .i64 b6), (.slice A6 (List.length (List.map stT d9)) c7), (.map (some s))], Vf s b7] := Zk i3 [0, 1] [2, 3, 4] rfl rfl m4 rfl
              clear m4
              refine ⟨_, Qa hkn, rfl, ?_⟩
              exact (And.intro (And.intro rfl (trivial)) (r1))
            ·exact oV (hC (hA 5 87) (h0)) (.bool b0)
            ·exact oV (hC (hS 10 (pt m 0)) (hC (hB 6 88 b8) (h0))) (pt m 0)
            ·exact oV (hC (hS 1 (.string ⟨List.toArray q⟩)) (hC (hB 6 88 b8) (h0))) (.string ⟨List.toArray q⟩)
            ·exact oV (hC (hS 2 (.string ⟨List.toArray p⟩)) (hC (hB 6 88 b8) (h0))) (.string ⟨List.toArray p⟩)
            ·refine oH 1 2 ?_
             ·rintro ρ' w' hs hah ⟨⟨r2, -⟩, i4⟩
              have f4 := hah 7 89 K
              have f5 := hah 8 90 K
              have f6 := hah 9 91 K
              have f7 := hah 6 88 K
              refine kN [(89, (pt m 0)), (90, (.string ⟨List.toArray q⟩)), (91, (.string ⟨List.toArray p⟩)), (88, (.bool false))] ⟨f4, f5, f6, (Eq.trans f7 (congrArg Value.bool b8)), trivial⟩ fun hkn => ?_
              refine cF 20 #[(.tmp 89), (.tmp 90), (.tmp 91)] #[29, 9, 9] 92 Tryz.call20 (Vz m A6 c7 s b3 b4 b5 b6 d9 b7 q p w' (Yc i4 [3, 4] rfl rfl) (fun w hm => Dp.mono _ (Xq i4 (l := [3, 4]) rfl hm) c1) j i2) ?_
              rintro e r3 ⟨rfl, m5⟩
              refine ⟨_, rfl, ?_⟩
              have r4 : SP [] w0 r3 [Qx a0 79 #[(.int .i64 a5), (.int .i64 a6), (.int .i64 a7), (.int .i64 a8), (.slice A6 (List.length (List.map stT d9)) c7), (.map (some u))], Vf u a9, Qx h 34 #[(.int .i64 f.1), (.string ⟨List.toArray f.2.1⟩), (.string ⟨List.toArray f.2.2.1⟩), (.string ⟨List.toArray f.2.2.2.1⟩), (.string ⟨List.toArray f.2.2.2.2.1⟩), (.int .i64 f.2.2.2.2.2)], Qx m 79 #[(.int .i64 j.2.1), (.int .i64 j.2.2.1), (.int .i64 j.2.2.2.1), (.int .i64 j.2.2.2.2.1), (.slice A6 (List.length (List.map stT d9)) c7), (.map (some s))], Vf s j.2.2.2.2.2] := Zk i4 [3, 4] [0, 1, 2] rfl rfl m5 rfl
              clear m5
              refine ⟨_, Qa hkn, rfl, ?_⟩
              exact (And.intro (And.intro r2 (And.intro rfl (trivial))) (r4))
            ·exact oV (hC (hB 6 88 b8) (hC (hA 10 92) (h0))) (.bool j.1)
            ·exact oV (hC (hA 11 93) (h0)) (.bool j.1)
            ·exact oW (hC (hB 12 94 c2) (h0)) 95
            ·exact oW (hC (hB 12 94 c2) (h0)) 96
            ·exact oW (hC (hB 12 94 c2) (h0)) 97
            ·exact oW (hC (hA 15 97) (h0)) 98
            ·exact oW (hC (hA 15 97) (h0)) 99
            ·exact oW (hC (hA 15 97) (h0)) 100
            ·exact oW (hC (hA 15 97) (h0)) 101
            ·exact oW (hC (hA 15 97) (h0)) 102
            ·exact oW (hC (hA 15 97) (h0)) 103
            ·exact oW (hC (hA 15 97) (h0)) 104
            ·exact oW (hC (hA 15 97) (h0)) 105
            ·exact oW (hC (hA 15 97) (h0)) 106
            ·exact oW (hC (hA 15 97) (h0)) 107
            ·exact oW (hC (hA 15 97) (h0)) 108
            ·exact oW (hC (hA 15 97) (h0)) 109
            ·exact oW (hC (hA 15 97) (h0)) 110
            ·exact oW (hC (hA 15 97) (h0)) 111
            ·exact oW (hC (hA 15 97) (h0)) 112
            ·exact oW (hC (hA 15 97) (h0)) 113
            ·exact oW (hC (hA 15 97) (h0)) 114
            ·exact oW (hC (hB 12 94 c2) (h0)) 115
            ·exact oV (hC (hB 12 94 c2) (hC (hA 33 115) (h0))) (.bool true)
            ·rintro ρ' w' hs hf ⟨⟨x8, x9, -⟩, m6⟩
             refine Vd [(1, (.string ⟨List.toArray q⟩)), (2, (.string ⟨List.toArray p⟩)), (3, (.slice b1 (List.length a3) b2)), (9, (.bool a1)), (10, (pt m 0)), (11, (pt a0 0)), (12, (.int .i64 a4)), (116, (.bool true))] ⟨(hs 1 K).trans K, (hs 2 K).trans K, (hs 3 K).trans K, (hs 9 K).trans K, (hs 10 K).trans K, (hs 11 K).trans K, (hs 12 K).trans K, hf 34 116 K, trivial⟩ ?_
             obtain ⟨y0, r5⟩ : ∃ x, w' = x := ⟨_, rfl⟩
             rw [r5] at m6 ⊢
             exact ⟨j.2.1, j.2.2.1, j.2.2.2.1, j.2.2.2.2.1, j.2.2.2.2.2, true, ⟨K, K, K, K, K, K, K, K, trivial⟩, SP.sel m6 [3, 4, 0, 1] rfl rfl, H⟩
           ·have H := cf H c2
            rcases Bool.eq_false_or_eq_true (!c0) with a2 | a2
            ·have H := ct H a2
             obtain ⟨d1, r6, H⟩ := Qe H
             obtain ⟨d4, r7, H⟩ := Qe H
             refine aG [GEq (pt m 0), GEq (.string ⟨List.toArray q⟩), GEq (.string ⟨List.toArray p⟩), GEq (pt h 5), GEq (.int .i64 f.2.2.2.2.2), GEq (.bool b0), GEq (.bool b0), GEq (pt m 0), GEq (.string ⟨List.toArray q⟩), GEq (.string ⟨List.toArray p⟩), GEq (.bool j.1), GEq (.bool j.1), GEq (.bool j.1), GEq (.bool c0), GEq (.bool (!c0)), GEq (.bool (!c0)), GEq (pt m 0), GEq (pt h 1), GEq (.string ⟨List.toArray f.2.1⟩), GEq (pt h 2), GEq (.string ⟨List.toArray f.2.2.1⟩), GEq (pt h 5), GEq (.int .i64 f.2.2.2.2.2), GEq (.bool d1), GEq (pt a0 0), GEq (pt h 1), GEq (.string ⟨List.toArray f.2.1⟩), GEq (pt h 2), GEq (.string ⟨List.toArray f.2.2.1⟩), GEq (pt h 5), GEq (.int .i64 f.2.2.2.2.2), GEq (.bool d4), GEq (.bool (!(d1 == d4))), GEq (.bool (!(d1 == d4))), GEq (.bool (!(d1 == d4)))] [5, 10, 23, 31] [sG [] [] [] w0 [Qx m 79 #[(.int .i64 b3), (.int .i64 b4), (.int .i64 b5), (.int .i64 b6), (.slice A6 (List.length (List.map stT d9)) c7), (.map (some s))], Vf s b7, Qx a0 79 #[(.int .i64 a5), (.int .i64 a6), (.int .i64 a7), (.int .i64 a8), (.slice A6 (List.length (List.map stT d9)) c7), (.map (some u))], Vf u a9, Qx h 34 #[(.int .i64 f.1), (.string ⟨List.toArray f.2.1⟩), (.string ⟨List.toArray f.2.2.1⟩), (.string ⟨List.toArray f.2.2.2.1⟩), (.string ⟨List.toArray f.2.2.2.2.1⟩), (.int .i64 f.2.2.2.2.2)]], sG [5] [(.bool b0)] [] w0 [Qx a0 79 #[(.int .i64 a5), (.int .i64 a6), (.int .i64 a7), (.int .i64 a8), (.slice A6 (List.length (List.map stT d9)) c7), (.map (some u))], Vf u a9, Qx h 34 #[(.int .i64 f.1), (.string ⟨List.toArray f.2.1⟩), (.string ⟨List.toArray f.2.2.1⟩), (.string ⟨List.toArray f.2.2.2.1⟩), (.string ⟨List.toArray f.2.2.2.2.1⟩), (.int .i64 f.2.2.2.2.2)], Qx m 79 #[(.int .i64 b3), (.int .i64 b4), (.int .i64 b5), (.int .i64 b6), (.slice A6 (List.length (List.map stT d9)) c7), (.map (some s))], Vf s b7], sG [5, 10] [(.bool b0), (.bool j.1)] [] w0 [Qx a0 79 #[(.int .i64 a5), (.int .i64 a6), (.int .i64 a7), (.int .i64 a8), (.slice A6 (List.length (List.map stT d9)) c7), (.map (some u))], Vf u a9, Qx h 34 #[(.int .i64 f.1), (.string ⟨List.toArray f.2.1⟩), (.string ⟨List.toArray f.2.2.1⟩), (.string ⟨List.toArray f.2.2.2.1⟩), (.string ⟨List.toArray f.2.2.2.2.1⟩), (.int .i64 f.2.2.2.2.2)], Qx m 79 #[(.int .i64 j.2.1), (.int .i64 j.2.2.1), (.int .i64 j.2.2.2.1), (.int .i64 j.2.2.2.2.1), (.slice A6 (List.length (List.map stT d9)) c7), (.map (some s))], Vf s j.2.2.2.2.2], sG [5, 10, 23] [(.bool b0), (.bool j.1), (.bool d1)] [] w0 [Qx a0 79 #[(.int .i64 a5), (.int .i64 a6), (.int .i64 a7), (.int .i64 a8), (.slice A6 (List.length (List.map stT d9)) c7), (.map (some u))], Vf u a9, Qx h 34 #[(.int .i64 f.1), (.string ⟨List.toArray f.2.1⟩), (.string ⟨List.toArray f.2.2.1⟩), (.string ⟨List.toArray f.2.2.2.1⟩), (.string ⟨List.toArray f.2.2.2.2.1⟩), (.int .i64 f.2.2.2.2.2)], Qx m 79 #[(.int .i64 j.2.1), (.int .i64 j.2.2.1), (.int .i64 j.2.2.2.1), (.int .i64 j.2.2.2.2.1), (.slice A6 (List.length (List.map stT d9)) c7), (.map (some s))], Vf s j.2.2.2.2.2], sG [5, 10, 23, 31] [(.bool b0), (.bool j.1), (.bool d1), (.bool d4)] [] w0 [Qx h 34 #[(.int .i64 f.1), (.string ⟨List.toArray f.2.1⟩), (.string ⟨List.toArray f.2.2.1⟩), (.string ⟨List.toArray f.2.2.2.1⟩), (.string ⟨List.toArray f.2.2.2.2.1⟩), (.int .i64 f.2.2.2.2.2)], Qx m 79 #[(.int .i64 j.2.1), (.int .i64 j.2.2.1), (.int .i64 j.2.2.2.1), (.int .i64 j.2.2.2.2.1), (.slice A6 (List.length (List.map stT d9)) c7), (.map (some s))], Vf s j.2.2.2.2.2, Qx a0 79 #[(.int .i64 a5), (.int .i64 a6), (.int .i64 a7), (.int .i64 a8), (.slice A6 (List.length (List.map stT d9)) c7), (.map (some u))], Vf u a9]] 35 4 ⟨trivial, SP.drew g4⟩ ?_ ?_
             iterate 35 refine And.intro ?_ ?_
             exact trivial
             ·exact oV (hC (hS 10 (pt m 0)) (h0)) (pt m 0)
             ·exact oV (hC (hS 1 (.string ⟨List.toArray q⟩)) (h0)) (.string ⟨List.toArray q⟩)
             ·exact oV (hC (hS 2 (.string ⟨List.toArray p⟩)) (h0)) (.string ⟨List.toArray p⟩)
             ·exact oV (hC (hS 13 (pt h 0)) (h0)) (pt h 5)
             ·refine oL 0 ?_
              ·rintro ρ' w' hs hah ⟨y1, r8⟩
               refine kM (kc (kA hah 3 85) k0) fun hkn => ?_
               refine sL 2 85 h 5 4 (.int .i64 f.2.2.2.2.2) 86 r8 rfl ?_
               exact eK hkn
             ·refine oH 0 1 ?_
              ·rintro ρ' w' hs hah ⟨y2, i5⟩
               refine kM (kc (kA hah 0 82) (kc (kA hah 1 83) (kc (kA hah 2 84) (kc (kA hah 4 86) k0)))) fun hkn => ?_
               refine cF 22 #[(.tmp 82), (.tmp 83), (.tmp 84), (.tmp 86)] #[29, 9, 9, 2] 87 Tryz.call22 (Vv m A6 c7 s b3 b4 b5 b6 d9 b7 q p f.2.2.2.2.2 w' (Yc i5 [0, 1] rfl rfl) (fun w hm => Dp.mono _ (Xq i5 (l := [0, 1]) rfl hm) c1) b0 h1) ?_
               rintro e r9 ⟨rfl, m7⟩
               refine ⟨_, rfl, ?_⟩
               have s0 : SP [] w0 r9 [Qx a0 79 #[(.int .i64 a5), (.int .i64 a6), (.int .i64 a7), (.int .i64 a8), (.slice A6 (List.length (List.map stT d9)) c7), (.map (some u))], Vf u a9, Qx h 34 #[(.int .i64 f.1), (.string ⟨List.toArray f.2.1⟩), (.string ⟨List.toArray f.2.2.1⟩), (.string ⟨List.toArray f.2.2.2.1⟩), (.string ⟨List.toArray f.2.2.2.2.1⟩), (.int .i64 f.2.2.2.2.2)], Qx m 79 #[(.int .i64 b3), (.int .i64 b4), (.int .i64 b5), (.int .i64 b6), (.slice A6 (List.length (List.map stT d9)) c7), (.map (some s))], Vf s b7] := Zk i5 [0, 1] [2, 3, 4] rfl rfl m7 rfl
               clear m7
               refine ⟨_, Qa hkn, rfl, ?_⟩
               exact (And.intro (And.intro rfl (trivial)) (s0))
             ·exact oV (hC (hA 5 87) (h0)) (.bool b0)
             ·exact oV (hC (hS 10 (pt m 0)) (hC (hB 6 88 b8) (h0))) (pt m 0)
             ·exact oV (hC (hS 1 (.string ⟨List.toArray q⟩)) (hC (hB 6 88 b8) (h0))) (.string ⟨List.toArray q⟩)
             ·exact oV (hC (hS 2 (.string ⟨List.toArray p⟩)) (hC (hB 6 88 b8) (h0))) (.string ⟨List.toArray p⟩)
             ·refine oH 1 2 ?_
              ·rintro ρ' w' hs hah ⟨⟨s1, -⟩, i6⟩
               have f4 := hah 7 89 K
               have f5 := hah 8 90 K
               have f6 := hah 9 91 K
               have f7 := hah 6 88 K
               refine kN [(89, (pt m 0)), (90, (.string ⟨List.toArray q⟩)), (91, (.string ⟨List.toArray p⟩)), (88, (.bool false))] ⟨f4, f5, f6, (Eq.trans f7 (congrArg Value.bool b8)), trivial⟩ fun hkn => ?_
               refine cF 20 #[(.tmp 89), (.tmp 90), (.tmp 91)] #[29, 9, 9] 92 Tryz.call20 (Vz m A6 c7 s b3 b4 b5 b6 d9 b7 q p w' (Yc i6 [3, 4] rfl rfl) (fun w hm => Dp.mono _ (Xq i6 (l := [3, 4]) rfl hm) c1) j i2) ?_
               rintro e s2 ⟨rfl, m8⟩
               refine ⟨_, rfl, ?_⟩
               have s3 : SP [] w0 s2 [Qx a0 79 #[(.int .i64 a5), (.int .i64 a6), (.int .i64 a7), (.int .i64 a8), (.slice A6 (List.length (List.map stT d9)) c7), (.map (some u))], Vf u a9, Qx h 34 #[(.int .i64 f.1), (.string ⟨List.toArray f.2.1⟩), (.string ⟨List.toArray f.2.2.1⟩), (.string ⟨List.toArray f.2.2.2.1⟩), (.string ⟨List.toArray f.2.2.2.2.1⟩), (.int .i64 f.2.2.2.2.2)], Qx m 79 #[(.int .i64 j.2.1), (.int .i64 j.2.2.1), (.int .i64 j.2.2.2.1), (.int .i64 j.2.2.2.2.1), (.slice A6 (List.length (List.map stT d9)) c7), (.map (some s))], Vf s j.2.2.2.2.2] := Zk i6 [3, 4] [0, 1, 2] rfl rfl m8 rfl
               clear m8
               refine ⟨_, Qa hkn, rfl, ?_⟩
               exact (And.intro (And.intro s1 (And.intro rfl (trivial))) (s3))
             ·exact oV (hC (hB 6 88 b8) (hC (hA 10 92) (h0))) (.bool j.1)
             ·exact oV (hC (hA 11 93) (h0)) (.bool j.1)
             ·exact oV (hC (hS 14 (.bool c0)) (hC (hB 12 94 c2) (h0))) (.bool c0)
             ·exact oV (hC (hA 13 95) (hC (hB 12 94 c2) (h0))) (.bool (!c0))
             ·exact oV (hC (hA 14 96) (hC (hB 12 94 c2) (h0))) (.bool (!c0))
             ·exact oV (hC (hS 10 (pt m 0)) (hC (hB 15 97 a2) (h0))) (pt m 0)
             ·exact oV (hC (hS 13 (pt h 0)) (hC (hB 15 97 a2) (h0))) (pt h 1)
             ·refine oL 2 ?_
              ·rintro ρ' w' hs hah ⟨⟨y3, y4, -⟩, s4⟩
               have s5 := hah 17 99 K
               have b9 := hah 15 97 K
               refine kN [(99, (pt h 1)), (97, (.bool true))] ⟨s5, (Eq.trans b9 (congrArg Value.bool a2)), trivial⟩ fun hkn => ?_
               refine sL 9 99 h 1 2 (.string ⟨List.toArray f.2.1⟩) 100 s4 rfl ?_
               exact eK hkn
             ·exact oV (hC (hS 13 (pt h 0)) (hC (hB 15 97 a2) (h0))) (pt h 2)
             ·refine oL 2 ?_
              ·rintro ρ' w' hs hah ⟨⟨y5, y6, -⟩, s6⟩
               have s7 := hah 19 101 K
               have b9 := hah 15 97 K
               refine kN [(101, (pt h 2)), (97, (.bool true))] ⟨s7, (Eq.trans b9 (congrArg Value.bool a2)), trivial⟩ fun hkn => ?_
               refine sL 9 101 h 2 2 (.string ⟨List.toArray f.2.2.1⟩) 102 s6 rfl ?_
               exact eK hkn
             ·exact oV (hC (hS 13 (pt h 0)) (hC (hB 15 97 a2) (h0))) (pt h 5)
             ·refine oL 2 ?_
              ·rintro ρ' w' hs hah ⟨⟨y7, y8, -⟩, s8⟩
               have s9 := hah 21 103 K
               have b9 := hah 15 97 K
               refine kN [(103, (pt h 5)), (97, (.bool true))] ⟨s9, (Eq.trans b9 (congrArg Value.bool a2)), trivial⟩ fun hkn => ?_
               refine sL 2 103 h 5 2 (.int .i64 f.2.2.2.2.2) 104 s8 rfl ?_
               exact eK hkn
             ·refine oH 2 3 ?_
              ·rintro ρ' w' hs hah ⟨⟨t0, t1, -⟩, i7⟩
               have t2 := hah 16 98 K
               have t3 := hah 18 100 K
               have t4 := hah 20 102 K
               have t5 := hah 22 104 K
               have b9 := hah 15 97 K
               refine kN [(98, (pt m 0)), (100, (.string ⟨List.toArray f.2.1⟩)), (102, (.string ⟨List.toArray f.2.2.1⟩)), (104, (.int .i64 f.2.2.2.2.2)), (97, (.bool true))] ⟨t2, t3, t4, t5, (Eq.trans b9 (congrArg Value.bool a2)), trivial⟩ fun hkn => ?_
               refine cF 22 #[(.tmp 98), (.tmp 100), (.tmp 102), (.tmp 104)] #[29, 9, 9, 2] 105 Tryz.call22 (Vv m A6 c7 s j.2.1 j.2.2.1 j.2.2.2.1 j.2.2.2.2.1 d9 j.2.2.2.2.2 f.2.1 f.2.2.1 f.2.2.2.2.2 w' (Yc i7 [3, 4] rfl rfl) (fun w hm => Dp.mono _ (Xq i7 (l := [3, 4]) rfl hm) c1) d1 r6) ?_
               rintro e t6 ⟨rfl, m9⟩
               refine ⟨_, rfl, ?_⟩
               have t7 : SP [] w0 t6 [Qx a0 79 #[(.int .i64 a5), (.int .i64 a6), (.int .i64 a7), (.int .i64 a8), (.slice A6 (List.length (List.map stT d9)) c7), (.map (some u))], Vf u a9, Qx h 34 #[(.int .i64 f.1), (.string ⟨List.toArray f.2.1⟩), (.string ⟨List.toArray f.2.2.1⟩), (.string ⟨List.toArray f.2.2.2.1⟩), (.string ⟨List.toArray f.2.2.2.2.1⟩), (.int .i64 f.2.2.2.2.2)], Qx m 79 #[(.int .i64 j.2.1), (.int .i64 j.2.2.1), (.int .i64 j.2.2.2.1), (.int .i64 j.2.2.2.2.1), (.slice A6 (List.length (List.map stT d9)) c7), (.map (some s))], Vf s j.2.2.2.2.2] := Zk i7 [3, 4] [0, 1, 2] rfl rfl m9 rfl
               clear m9
               refine ⟨_, Qa hkn, rfl, ?_⟩
               exact (And.intro (And.intro t0 (And.intro t1 (And.intro rfl (trivial)))) (t7))
             ·exact oV (hC (hS 11 (pt a0 0)) (hC (hB 15 97 a2) (h0))) (pt a0 0)
             ·exact oV (hC (hS 13 (pt h 0)) (hC (hB 15 97 a2) (h0))) (pt h 1)
             ·refine Owe.light K [2, 3] K (Qc ?_ (Qc ?_ Q2))
              ·rintro ρ' w' hs hah ⟨⟨y9, z0, -⟩, t8⟩
               have i8 := hah 25 107 K
               have b9 := hah 15 97 K
               refine kN [(107, (pt h 1)), (97, (.bool true))] ⟨i8, (Eq.trans b9 (congrArg Value.bool a2)), trivial⟩ fun hkn => ?_
               refine sL 9 107 h 1 2 (.string ⟨List.toArray f.2.1⟩) 108 t8 rfl ?_
               exact eK hkn
              ·rintro ρ' w' hs hah ⟨⟨z1, z2, z3, -⟩, t9⟩
               have i8 := hah 25 107 K
               have b9 := hah 15 97 K
               refine kN [(107, (pt h 1)), (97, (.bool true))] ⟨i8, (Eq.trans b9 (congrArg Value.bool a2)), trivial⟩ fun hkn => ?_
               refine sL 9 107 h 1 2 (.string ⟨List.toArray f.2.1⟩) 108 t9 rfl ?_
               exact eK hkn
             ·exact oV (hC (hS 13 (pt h 0)) (hC (hB 15 97 a2) (h0))) (pt h 2)
             ·refine Owe.light K [2, 3] K (Qc ?_ (Qc ?_ Q2))
              ·rintro ρ' w' hs hah ⟨⟨z4, z5, -⟩, u0⟩
               have i9 := hah 27 109 K
               have b9 := hah 15 97 K
               refine kN [(109, (pt h 2)), (97, (.bool true))] ⟨i9, (Eq.trans b9 (congrArg Value.bool a2)), trivial⟩ fun hkn => ?_
               refine sL 9 109 h 2 2 (.string ⟨List.toArray f.2.2.1⟩) 110 u0 rfl ?_
               exact eK hkn
              ·rintro ρ' w' hs hah ⟨⟨z6, z7, z8, -⟩, u1⟩
               have i9 := hah 27 109 K
               have b9 := hah 15 97 K
               refine kN [(109, (pt h 2)), (97, (.bool true))] ⟨i9, (Eq.trans b9 (congrArg Value.bool a2)), trivial⟩ fun hkn => ?_
               refine sL 9 109 h 2 2 (.string ⟨List.toArray f.2.2.1⟩) 110 u1 rfl ?_
               exact eK hkn
             ·exact oV (hC (hS 13 (pt h 0)) (hC (hB 15 97 a2) (h0))) (pt h 5)
             ·refine Owe.light K [2, 3] K (Qc ?_ (Qc ?_ Q2))
              ·rintro ρ' w' hs hah ⟨⟨z9, aa0, -⟩, u2⟩
               have j0 := hah 29 111 K
               have b9 := hah 15 97 K
               refine kN [(111, (pt h 5)), (97, (.bool true))] ⟨j0, (Eq.trans b9 (congrArg Value.bool a2)), trivial⟩ fun hkn => ?_
               refine sL 2 111 h 5 2 (.int .i64 f.2.2.2.2.2) 112 u2 rfl ?_
               exact eK hkn
              ·rintro ρ' w' hs hah ⟨⟨aa1, aa2, aa3, -⟩, u3⟩
               have j0 := hah 29 111 K
               have b9 := hah 15 97 K
               refine kN [(111, (pt h 5)), (97, (.bool true))] ⟨j0, (Eq.trans b9 (congrArg Value.bool a2)), trivial⟩ fun hkn => ?_
               refine sL 2 111 h 5 2 (.int .i64 f.2.2.2.2.2) 112 u3 rfl ?_
               exact eK hkn
             ·refine oH 3 4 ?_
              ·rintro ρ' w' hs hah ⟨⟨u4, u5, u6, -⟩, j1⟩
               have u7 := hah 24 106 K
               have u8 := hah 26 108 K
               have u9 := hah 28 110 K
               have v0 := hah 30 112 K
               have b9 := hah 15 97 K
               refine kN [(106, (pt a0 0)), (108, (.string ⟨List.toArray f.2.1⟩)), (110, (.string ⟨List.toArray f.2.2.1⟩)), (112, (.int .i64 f.2.2.2.2.2)), (97, (.bool true))] ⟨u7, u8, u9, v0, (Eq.trans b9 (congrArg Value.bool a2)), trivial⟩ fun hkn => ?_
               refine cF 22 #[(.tmp 106), (.tmp 108), (.tmp 110), (.tmp 112)] #[29, 9, 9, 2] 113 Tryz.call22 (Vv a0 A6 c7 u a5 a6 a7 a8 d9 a9 f.2.1 f.2.2.1 f.2.2.2.2.2 w' (Yc j1 [0, 1] rfl rfl) (fun w hm => Dp.mono _ (Xq j1 (l := [0, 1]) rfl hm) c1) d4 r7) ?_
               rintro e v1 ⟨rfl, n0⟩
               refine ⟨_, rfl, ?_⟩
               have v2 : SP [] w0 v1 [Qx h 34 #[(.int .i64 f.1), (.string ⟨List.toArray f.2.1⟩), (.string ⟨List.toArray f.2.2.1⟩), (.string ⟨List.toArray f.2.2.2.1⟩), (.string ⟨List.toArray f.2.2.2.2.1⟩), (.int .i64 f.2.2.2.2.2)], Qx m 79 #[(.int .i64 j.2.1), (.int .i64 j.2.2.1), (.int .i64 j.2.2.2.1), (.int .i64 j.2.2.2.2.1), (.slice A6 (List.length (List.map stT d9)) c7), (.map (some s))], Vf s j.2.2.2.2.2, Qx a0 79 #[(.int .i64 a5), (.int .i64 a6), (.int .i64 a7), (.int .i64 a8), (.slice A6 (List.length (List.map stT d9)) c7), (.map (some u))], Vf u a9] := Zk j1 [0, 1] [2, 3, 4] rfl rfl n0 rfl
               clear n0
               refine ⟨_, Qa hkn, rfl, ?_⟩
               exact (And.intro (And.intro u4 (And.intro u5 (And.intro u6 (And.intro rfl (trivial))))) (v2))
             ·exact oV (hC (hA 23 105) (hC (hA 31 113) (hC (hB 15 97 a2) (h0)))) (.bool (!(d1 == d4)))
             ·exact oV (hC (hB 15 97 a2) (hC (hA 32 114) (hC (hB 12 94 c2) (h0)))) (.bool (!(d1 == d4)))
             ·exact oV (hC (hB 12 94 c2) (hC (hA 33 115) (h0))) (.bool (!(d1 == d4)))
             ·rintro ρ' w' hs hf ⟨⟨aa4, aa5, aa6, aa7, -⟩, n1⟩
              refine Vd [(1, (.string ⟨List.toArray q⟩)), (2, (.string ⟨List.toArray p⟩)), (3, (.slice b1 (List.length a3) b2)), (9, (.bool a1)), (10, (pt m 0)), (11, (pt a0 0)), (12, (.int .i64 a4)), (116, (.bool (!(d1 == d4))))] ⟨(hs 1 K).trans K, (hs 2 K).trans K, (hs 3 K).trans K, (hs 9 K).trans K, (hs 10 K).trans K, (hs 11 K).trans K, (hs 12 K).trans K, hf 34 116 K, trivial⟩ ?_
              obtain ⟨aa8, v3⟩ : ∃ x, w' = x := ⟨_, rfl⟩
              rw [v3] at n1 ⊢
              exact ⟨j.2.1, j.2.2.1, j.2.2.2.1, j.2.2.2.2.1, j.2.2.2.2.2, (!(d1 == d4)), ⟨K, K, K, K, K, K, K, K, trivial⟩, SP.sel n1 [1, 2, 3, 4] rfl rfl, H⟩
            ·have H := cf H a2
             refine aG [GEq (pt m 0), GEq (.string ⟨List.toArray q⟩), GEq (.string ⟨List.toArray p⟩), GEq (pt h 5), GEq (.int .i64 f.2.2.2.2.2), GEq (.bool b0), GEq (.bool b0), GEq (pt m 0), GEq (.string ⟨List.toArray q⟩), GEq (.string ⟨List.toArray p⟩), GEq (.bool j.1), GEq (.bool j.1), GEq (.bool j.1), GEq (.bool c0), GEq (.bool (!c0)), GEq (.bool (!c0)), GEq undef, GEq undef, GEq undef, GEq undef, GEq undef, GEq undef, GEq undef, GEq undef, GEq undef, GEq undef, GEq undef, GEq undef, GEq undef, GEq undef, GEq undef, GEq undef, GEq undef, GEq (.bool false), GEq (.bool false)] [5, 10] [sG [] [] [] w0 [Qx m 79 #[(.int .i64 b3), (.int .i64 b4), (.int .i64 b5), (.int .i64 b6), (.slice A6 (List.length (List.map stT d9)) c7), (.map (some s))], Vf s b7, Qx a0 79 #[(.int .i64 a5), (.int .i64 a6), (.int .i64 a7), (.int .i64 a8), (.slice A6 (List.length (List.map stT d9)) c7), (.map (some u))], Vf u a9, Qx h 34 #[(.int .i64 f.1), (.string ⟨List.toArray f.2.1⟩), (.string ⟨List.toArray f.2.2.1⟩), (.string ⟨List.toArray f.2.2.2.1⟩), (.string ⟨List.toArray f.2.2.2.2.1⟩), (.int .i64 f.2.2.2.2.2)]], sG [5] [(.bool b0)] [] w0 [Qx a0 79 #[(.int .i64 a5), (.int .i64 a6), (.int .i64 a7), (.int .i64 a8), (.slice A6 (List.length (List.map stT d9)) c7), (.map (some u))], Vf u a9, Qx h 34 #[(.int .i64 f.1), (.string ⟨List.toArray f.2.1⟩), (.string ⟨List.toArray f.2.2.1⟩), (.string ⟨List.toArray f.2.2.2.1⟩), (.string ⟨List.toArray f.2.2.2.2.1⟩), (.int .i64 f.2.2.2.2.2)], Qx m 79 #[(.int .i64 b3), (.int .i64 b4), (.int .i64 b5), (.int .i64 b6), (.slice A6 (List.length (List.map stT d9)) c7), (.map (some s))], Vf s b7], sG [5, 10] [(.bool b0), (.bool j.1)] [] w0 [Qx a0 79 #[(.int .i64 a5), (.int .i64 a6), (.int .i64 a7), (.int .i64 a8), (.slice A6 (List.length (List.map stT d9)) c7), (.map (some u))], Vf u a9, Qx h 34 #[(.int .i64 f.1), (.string ⟨List.toArray f.2.1⟩), (.string ⟨List.toArray f.2.2.1⟩), (.string ⟨List.toArray f.2.2.2.1⟩), (.string ⟨List.toArray f.2.2.2.2.1⟩), (.int .i64 f.2.2.2.2.2)], Qx m 79 #[(.int .i64 j.2.1), (.int .i64 j.2.2.1), (.int .i64 j.2.2.2.1), (.int .i64 j.2.2.2.2.1), (.slice A6 (List.length (List.map stT d9)) c7), (.map (some s))], Vf s j.2.2.2.2.2]] 35 2 ⟨trivial, SP.drew g4⟩ ?_ ?_
             iterate 35 refine And.intro ?_ ?_
             exact trivial
             ·exact oV (hC (hS 10 (pt m 0)) (h0)) (pt m 0)
             ·exact oV (hC (hS 1 (.string ⟨List.toArray q⟩)) (h0)) (.string ⟨List.toArray q⟩)
             ·exact oV (hC (hS 2 (.string ⟨List.toArray p⟩)) (h0)) (.string ⟨List.toArray p⟩)
             ·exact oV (hC (hS 13 (pt h 0)) (h0)) (pt h 5)
             ·refine oL 0 ?_
              ·rintro ρ' w' hs hah ⟨aa9, v4⟩
               refine kM (kc (kA hah 3 85) k0) fun hkn => ?_
               refine sL 2 85 h 5 4 (.int .i64 f.2.2.2.2.2) 86 v4 rfl ?_
               exact eK hkn
             ·refine oH 0 1 ?_
              ·rintro ρ' w' hs hah ⟨ab0, j2⟩
               refine kM (kc (kA hah 0 82) (kc (kA hah 1 83) (kc (kA hah 2 84) (kc (kA hah 4 86) k0)))) fun hkn => ?_
               refine cF 22 #[(.tmp 82), (.tmp 83), (.tmp 84), (.tmp 86)] #[29, 9, 9, 2] 87 Tryz.call22 (Vv m A6 c7 s b3 b4 b5 b6 d9 b7 q p f.2.2.2.2.2 w' (Yc j2 [0, 1] rfl rfl) (fun w hm => Dp.mono _ (Xq j2 (l := [0, 1]) rfl hm) c1) b0 h1) ?_
               rintro e v5 ⟨rfl, n2⟩
               refine ⟨_, rfl, ?_⟩
               have v6 : SP [] w0 v5 [Qx a0 79 #[(.int .i64 a5), (.int .i64 a6), (.int .i64 a7), (.int .i64 a8), (.slice A6 (List.length (List.map stT d9)) c7), (.map (some u))], Vf u a9, Qx h 34 #[(.int .i64 f.1), (.string ⟨List.toArray f.2.1⟩), (.string ⟨List.toArray f.2.2.1⟩), (.string ⟨List.toArray f.2.2.2.1⟩), (.string ⟨List.toArray f.2.2.2.2.1⟩), (.int .i64 f.2.2.2.2.2)], Qx m 79 #[(.int .i64 b3), (.int .i64 b4), (.int .i64 b5), (.int .i64 b6), (.slice A6 (List.length (List.map stT d9)) c7), (.map (some s))], Vf s b7] := Zk j2 [0, 1] [2, 3, 4] rfl rfl n2 rfl
               clear n2
               refine ⟨_, Qa hkn, rfl, ?_⟩
               exact (And.intro (And.intro rfl (trivial)) (v6))
             ·exact oV (hC (hA 5 87) (h0)) (.bool b0)
             ·exact oV (hC (hS 10 (pt m 0)) (hC (hB 6 88 b8) (h0))) (pt m 0)
             ·exact oV (hC (hS 1 (.string ⟨List.toArray q⟩)) (hC (hB 6 88 b8) (h0))) (.string ⟨List.toArray q⟩)
             ·exact oV (hC (hS 2 (.string ⟨List.toArray p⟩)) (hC (hB 6 88 b8) (h0))) (.string ⟨List.toArray p⟩)
             ·refine oH 1 2 ?_
              ·rintro ρ' w' hs hah ⟨⟨v7, -⟩, j3⟩
               have f4 := hah 7 89 K
               have f5 := hah 8 90 K
               have f6 := hah 9 91 K
               have f7 := hah 6 88 K
               refine kN [(89, (pt m 0)), (90, (.string ⟨List.toArray q⟩)), (91, (.string ⟨List.toArray p⟩)), (88, (.bool false))] ⟨f4, f5, f6, (Eq.trans f7 (congrArg Value.bool b8)), trivial⟩ fun hkn => ?_
               refine cF 20 #[(.tmp 89), (.tmp 90), (.tmp 91)] #[29, 9, 9] 92 Tryz.call20 (Vz m A6 c7 s b3 b4 b5 b6 d9 b7 q p w' (Yc j3 [3, 4] rfl rfl) (fun w hm => Dp.mono _ (Xq j3 (l := [3, 4]) rfl hm) c1) j i2) ?_
               rintro e v8 ⟨rfl, n3⟩
               refine ⟨_, rfl, ?_⟩
               have v9 : SP [] w0 v8 [Qx a0 79 #[(.int .i64 a5), (.int .i64 a6), (.int .i64 a7), (.int .i64 a8), (.slice A6 (List.length (List.map stT d9)) c7), (.map (some u))], Vf u a9, Qx h 34 #[(.int .i64 f.1), (.string ⟨List.toArray f.2.1⟩), (.string ⟨List.toArray f.2.2.1⟩), (.string ⟨List.toArray f.2.2.2.1⟩), (.string ⟨List.toArray f.2.2.2.2.1⟩), (.int .i64 f.2.2.2.2.2)], Qx m 79 #[(.int .i64 j.2.1), (.int .i64 j.2.2.1), (.int .i64 j.2.2.2.1), (.int .i64 j.2.2.2.2.1), (.slice A6 (List.length (List.map stT d9)) c7), (.map (some s))], Vf s j.2.2.2.2.2] := Zk j3 [3, 4] [0, 1, 2] rfl rfl n3 rfl
               clear n3
               refine ⟨_, Qa hkn, rfl, ?_⟩
               exact (And.intro (And.intro v7 (And.intro rfl (trivial))) (v9))
             ·exact oV (hC (hB 6 88 b8) (hC (hA 10 92) (h0))) (.bool j.1)
             ·exact oV (hC (hA 11 93) (h0)) (.bool j.1)
             ·exact oV (hC (hS 14 (.bool c0)) (hC (hB 12 94 c2) (h0))) (.bool c0)
             ·exact oV (hC (hA 13 95) (hC (hB 12 94 c2) (h0))) (.bool (!c0))
             ·exact oV (hC (hA 14 96) (hC (hB 12 94 c2) (h0))) (.bool (!c0))
             ·exact oW (hC (hB 15 97 a2) (h0)) 98
             ·exact oW (hC (hB 15 97 a2) (h0)) 99
             ·exact oW (hC (hB 15 97 a2) (h0)) 100
             ·exact oW (hC (hB 15 97 a2) (h0)) 101
             ·exact oW (hC (hB 15 97 a2) (h0)) 102
             ·exact oW (hC (hB 15 97 a2) (h0)) 103
             ·exact oW (hC (hB 15 97 a2) (h0)) 104
             ·exact oW (hC (hB 15 97 a2) (h0)) 105
             ·exact oW (hC (hB 15 97 a2) (h0)) 106
             ·exact oW (hC (hB 15 97 a2) (h0)) 107
             ·exact oW (hC (hB 15 97 a2) (h0)) 108
             ·exact oW (hC (hB 15 97 a2) (h0)) 109
             ·exact oW (hC (hB 15 97 a2) (h0)) 110
             ·exact oW (hC (hB 15 97 a2) (h0)) 111
             ·exact oW (hC (hB 15 97 a2) (h0)) 112
             ·exact oW (hC (hB 15 97 a2) (h0)) 113
             ·exact oW (hC (hB 15 97 a2) (h0)) 114
             ·exact oV (hC (hB 15 97 a2) (hC (hA 32 114) (hC (hB 12 94 c2) (h0)))) (.bool false)
             ·exact oV (hC (hB 12 94 c2) (hC (hA 33 115) (h0))) (.bool false)
             ·rintro ρ' w' hs hf ⟨⟨ab1, ab2, -⟩, n4⟩
              refine Vd [(1, (.string ⟨List.toArray q⟩)), (2, (.string ⟨List.toArray p⟩)), (3, (.slice b1 (List.length a3) b2)), (9, (.bool a1)), (10, (pt m 0)), (11, (pt a0 0)), (12, (.int .i64 a4)), (116, (.bool false))] ⟨(hs 1 K).trans K, (hs 2 K).trans K, (hs 3 K).trans K, (hs 9 K).trans K, (hs 10 K).trans K, (hs 11 K).trans K, (hs 12 K).trans K, hf 34 116 K, trivial⟩ ?_
              obtain ⟨ab3, w1⟩ : ∃ x, w' = x := ⟨_, rfl⟩
              rw [w1] at n4 ⊢
              exact ⟨j.2.1, j.2.2.1, j.2.2.2.1, j.2.2.2.2.1, j.2.2.2.2.2, false, ⟨K, K, K, K, K, K, K, K, trivial⟩, SP.sel n4 [3, 4, 0, 1] rfl rfl, H⟩
         ·rintro ρ ab4 ⟨g5, g6, g7, g8, g9, f2, hk, n5, H⟩
          unfold Vj at H
          first | refine At.known [(1, (.string ⟨List.toArray q⟩)), (2, (.string ⟨List.toArray p⟩)), (3, (.slice b1 (List.length a3) b2)), (9, (.bool a1)), (10, (pt m 0)), (11, (pt a0 0)), (12, (.int .i64 a4)), (116, (.bool f2))] hk ?_ | rw [← Q8 (l := [(1, (.string ⟨List.toArray q⟩)), (2, (.string ⟨List.toArray p⟩)), (3, (.slice b1 (List.length a3) b2)), (9, (.bool a1)), (10, (pt m 0)), (11, (pt a0 0)), (12, (.int .i64 a4)), (116, (.bool f2))]) hk]
          refine Zq K (o := (.tmp 116)) K (b := f2) K (fun j4 => ?_) (fun j4 => ?_)
          ·have H := ct H j4
           refine aQ ?_
           refine aR ?_
           refine iR 1 1 [(8, (.bool false))] ?_
           refine iF ?_
           refine At.ret K ?_
           refine ⟨(.bool false), K, ?_⟩
           obtain rfl := Qm H
           exact ⟨rfl, SP.sel n5 [] rfl rfl⟩
          ·have H := cf H j4
           refine At.skip K ?_
           refine aR ?_
           refine iR 3 3 [(51, (.int .i64 a4)), (52, (.int .i64 (IntKind.wrap .i64 (a4 + 1)))), (12, (.int .i64 (IntKind.wrap .i64 (a4 + 1))))] ?_
           refine iF ?_
           exact ⟨g5, g6, g7, g8, g9, a5, a6, a7, a8, a9, (IntKind.wrap .i64 (a4 + 1)), ⟨K, K, K, K, K, K, K, trivial⟩, SP.sel n5 [0, 1, 2, 3] rfl rfl, H⟩
      ·have H := cf H h8
       refine At.exit K (id := 0) K ?_
       refine aQ ?_
       refine aR ?_
       refine iR 2 2 [(117, (.bool a1)), (8, (.bool a1))] ?_
       refine iF ?_
       refine At.ret K ?_
       refine ⟨(.bool a1), K, ?_⟩
       obtain rfl := Qm H
       exact ⟨rfl, SP.sel g2 [] rfl rfl⟩
     ·exact ⟨d2.2.1, d2.2.2.1, d2.2.2.2.1, d2.2.2.2.2.1, d2.2.2.2.2.2, c3.1, c3.2.1, c3.2.2.1, c3.2.2.2.1, c3.2.2.2.2, 0, ⟨K, K, K, K, K, K, K, trivial⟩, SP.sel p4 [2, 3, 0, 1] rfl rfl, H⟩
end Go.Proofs.YtmgfanhcdfobhaaGreatDoor
namespace Go.Proofs.YtmgfanhcdfobhaaGreatDoor
structure Hu (l : List Qk) (t k : Str) (M W : Yp) : Prop where
  own : (Ej l t k).2.2.2 = true → 1 ≤ J8 M (t, k)
  same : ∀ x, x ≠ (t, k) → J8 M x = J8 W x
theorem gone_both {l : List Qk} {t k : Str} {M W : Yp} {n : Nat} (hM : MB n M) (h : Hu l t k M W) (a b : Str) : Hu l t k (Ci l M a b) (Ci l W a b) := by
  refine ⟨fun hx => ?_, fun x hx => ?_⟩
  · rw [Bl]
    have := h.own hx
    have := hM (a, b)
    split <;> omega
  · rw [Bl, Bl]
    by_cases e : (Ej l a b).2.2.2 = true ∧ (a, b) = x
    · rw [if_pos e, if_pos e, h.same _ (by rw [e.2]; exact hx)]
    · rw [if_neg e, if_neg e, h.same x hx]
theorem Hf {l : List Qk} {t k : Str} {M W : Yp} {n : Nat} (hM : MB n M) (h : ∀ x, x ≠ (t, k) → J8 M x = J8 W x) : Hu l t k (Ci l M t k) W := by
  refine ⟨fun hx => ?_, fun x hx => ?_⟩
  · rw [Bl, if_pos ⟨hx, rfl⟩]
    have := hM (t, k)
    omega
  · rw [Bl, if_neg (fun e => hx e.2.symm), h x hx]
theorem gone_loop (w g i0 e : Int) {l : List Qk} (hv : VC l) (t k : Str) (ops : List OpV) (hops : ops.length ≤ 100) :
    ∀ (d i f : Nat) (M W : Yp), d = ops.length - i → i ≤ ops.length → d < f → MB (2 * i + 1) M → MB i W → Hu l t k M W → Q5 l t k ops true f w g i0 e M w g i0 e W (i : Int) = some true := by
  intro d
  induction d with
  | zero =>
    intro i f M W hd hi hf hM hW hG
    obtain ⟨f, rfl⟩ : ∃ g, f = g + 1 := ⟨f - 1, by omega⟩
    show V3 (Q5 l t k ops true f) l t k ops true w g i0 e M w g i0 e W (i : Int) = _
    unfold V3
    rw [show decide ((i : Int) < ((ops.length : Nat) : Int)) = false from decide_eq_false (by omega), cond_false]
  | succ d ih =>
    intro i f M W hd hi hf hM hW hG
    obtain ⟨f, rfl⟩ : ∃ g, f = g + 1 := ⟨f - 1, by omega⟩
    have hlt : i < ops.length := by omega
    show V3 (Q5 l t k ops true f) l t k ops true w g i0 e M w g i0 e W (i : Int) = _
    generalize hR : Q5 l t k ops true f = R at *
    unfold V3
    rw [show decide ((i : Int) < ((ops.length : Nat) : Int)) = true from decide_eq_true (by omega), cond_true, Ur hlt, Option.bind_some]
    generalize ops[i] = x
    have k12 : ∀ M' W', MB (2 * i + 2) M' → MB (i + 1) W' → Hu l t k M' W' → Zd R l t k (i : Int) x w g i0 e M' w g i0 e W' = some true := by
      intro M' W' hM' hW' hG'
      have hng : ∀ now, F2 l M' t k now = false := by
        intro now
        unfold F2
        cases hx : (Ej l t k).2.2.2 with
        | false => rfl
        | true => rw [beq_eq_false_iff_ne.2 (by have := hG'.own hx; omega)]; rfl
      have hnr : vRevB l M' t k = false := by
        unfold vRevB
        cases hx : (Ej l t k).2.2.2 with
        | false => rfl
        | true => rw [beq_eq_false_iff_ne.2 (by have := hG'.own hx; omega)]; rfl
      have hG2 : Hu l t k (Ci l M' t k) W' := Hf hM' hG'.same
      have k13 : ∀ own : Bool, (own = false → (x.2.1, x.2.2.1) ≠ (t, k)) → Zc R l t k (i : Int) x w g i0 e M' w g i0 e W' own = some true := by
        intro own hown
        have hgo : Vj R (i : Int) w g i0 e W' w g i0 e (Ci l M' t k) false = some true := by
          unfold Vj
          rw [cond_false, show ((i : Int) + 1) = ((i + 1 : Nat) : Int) by omega, G8 (by omega), ← hR]
          exact ih (i + 1) f _ _ (by omega) (by omega) (by omega) (mb_le (He hM' l t k) (by omega)) hW' hG2
        unfold Zc
        rw [pVGood hv, Option.bind_some, hng, cond_false, By hv _ _ _ _ _ _ _ (by have := hM' (t, k); omega), Option.bind_some]
        simp only []
        rw [hnr, cond_false]
        cases own with
        | true => rw [show (!true) = false from rfl, cond_false]; exact hgo
        | false =>
          rw [show (!false) = true from rfl, cond_true, pVGood hv, Option.bind_some, pVGood hv, Option.bind_some]
          have : F2 l (Ci l M' t k) x.2.1 x.2.2.1 x.2.2.2.2.2 = F2 l W' x.2.1 x.2.2.1 x.2.2.2.2.2 := by
            unfold F2
            rw [hG2.same _ (hown rfl)]
          rw [this, beq_self_eq_true]
          exact hgo
      unfold Zd
      by_cases h1 : x.2.1 = t
      · rw [beq_iff_eq.2 h1, cond_true]
        refine k13 _ (fun h2 => ?_)
        rw [beq_eq_false_iff_ne] at h2
        intro h3
        injection h3 with _ h3
        exact h2 h3
      · rw [beq_eq_false_iff_ne.2 h1, cond_false]
        refine k13 _ (fun _ h3 => ?_)
        injection h3 with h3 _
        exact h1 h3
    cases (x.1 == 0) with
    | false => rw [cond_false]; exact k12 M W (mb_le hM (by omega)) (mb_le hW (by omega)) hG
    | true =>
      rw [cond_true, By hv _ _ _ _ _ _ _ (by have := hM (x.2.1, x.2.2.1); omega), Option.bind_some, By hv _ _ _ _ _ _ _ (by have := hW (x.2.1, x.2.2.1); omega), Option.bind_some]
      exact k12 _ _ (He hM l _ _) (He hW l _ _) (gone_both hM hG _ _)
theorem Cj (w g i0 e : Int) (l : List Qk) (t k : Str) (ops : List OpV) (hl : l.length ≤ 140737488355328) (hq : ∀ t ∈ l, TenQ t) (hops : ops.length ≤ 140737488355328) (hoq : ∀ o ∈ ops, OpVQ o) : Xx w g i0 e l t k ops = some true := by
  unfold Xx
  obtain ⟨c, hc, hc'⟩ := cfg_great w g i0 e l hl hq
  obtain ⟨b, hb, hb'⟩ := Ht ops hops hoq
  rw [vaultHead, Option.bind_some, pVNew w g i0 e l hl hq, Option.bind_some]
  cases hk : Ef w g i0 e l with
  | false => rfl
  | true =>
    rw [cond_true, optE_s, Option.bind_some, optE_s, hc, Option.bind_some]
    have hup : Vo l t k ops true (w, g, i0, e, []) (w, g, i0, e, []) true = some true := by unfold Vo; rw [cond_true]
    cases c with
    | true => rw [cond_true]; exact hup
    | false =>
      obtain ⟨s1, s2⟩ := hc' rfl
      have hv := vc_of hk (by omega) hq s2
      rw [cond_false, hb, Option.bind_some]
      cases b with
      | true => rw [cond_true]; exact hup
      | false =>
        rw [cond_false]
        generalize decide (_ > (2000 : Int)) = z
        cases z with
        | true => exact hup
        | false =>
          unfold Vo
          rw [cond_false, By hv _ _ _ _ _ _ _ (by rw [Hd]; omega), Option.bind_some]
          have := gone_loop w g i0 e hv t k ops (hb' rfl) ops.length 0 Xa _ [] (by omega) (by omega) (by have := hb' rfl; unfold Xa; omega) (He mb_nil l t k) mb_nil (Hf mb_nil (fun _ _ => rfl))
          rw [show ((0 : Nat) : Int) = 0 from rfl] at this
          exact this
end Go.Proofs.YtmgfanhcdfobhaaGreatDoor
namespace Go.Proofs.YtmgfanhcdfobhaaGreatDoor
open Go.RowKit Go.ChangeShapes Go.WideShapes Go.Deep
theorem own : ownKnob Tryz.prog.godebug = none := by kernel_rfl
theorem Ek : laidOutB Tryz.prog = true := by kernel_rfl
section
variable {H : Type} {enc : TypeId × Value → H} {W : World} {spare : Nat → Bool} {held : Bool} {base b0 : Nat} {r : Reach}
end
end Go.Proofs.YtmgfanhcdfobhaaGreatDoor
namespace Go.Proofs.YtmgfanhcdfobhaaGreatDoor
open Go.RowKit Go.ChangeShapes Go.WideShapes Go.Deep
section
variable {H : Type} {enc : TypeId × Value → H} {P : Program} {W : World}
def Rds (enc : TypeId × Value → H) (P : Program) (W : World) (t : TypeId) {α : Type} (e : Enc α) (Q : Nat → α → Prop) : Prop :=
  ∀ (Xa : Nat) (cs : List Value) (x : DataW H × List MemPlace), DataW.trod enc P W 0 (fun _ => true) true Xa t cs = some x → ∃ a, cs = e.enc a ∧ ∀ r, (x.1.weights P t).all (· ≤ r) = true → Q r a
def RdsFs (enc : TypeId × Value → H) (P : Program) (W : World) (o : Nat) (fs : List (TypeId × Nat)) {α : Type} (e : Enc α) (Q : Nat → α → Prop) : Prop :=
  ∀ (Xa : Nat) (cs : List Value) (xs : List (DataW H × List MemPlace)), xs.length = fs.length → (∀ (i : Nat) f, fs[i]? = some f → DataW.trod enc P W 0 (fun _ => true) true Xa f.1 ((cs.drop f.2).take (P.cellsOf f.1)) = xs[i]?) →
    ∃ a, (cs.drop o).take e.sz = e.enc a ∧ ∀ r, (DataW.weightsEach P (fs.map (·.1)) (xs.map (·.1))).all (· ≤ r) = true → Q r a
theorem Gd {t : TypeId} {k : IntKind} (ht : P.underlying t = some (.int k)) : Rds enc P W t (Qd k) (fun _ n => (Lit.int k n).wf = true) := by
  intro Xa cs x h
  obtain ⟨n, rfl, rfl, hw⟩ := DataW.trod_int ht h
  exact ⟨n, rfl, fun _ _ => hw⟩
theorem Ds {t : TypeId} (ht : P.underlying t = some .string) : Rds enc P W t Q4 (fun r s => s.length ≤ r) := by
  intro Xa cs x h
  obtain ⟨s, rfl, rfl, hs⟩ := DataW.trod_string ht h
  refine ⟨s.data.toList, rfl, fun r hr => ?_⟩
  simpa [DataW.weights] using hr
theorem Fc {t : TypeId} {o : Nat} {α : Type} {e : Enc α} {Q : Nat → α → Prop} (h : Rds enc P W t e Q) (hc : P.cellsOf t = e.sz) : RdsFs enc P W o [(t, o)] e Q := by
  intro Xa cs xs hl hf
  match xs, hl with
  | [x], _ =>
    have := hf 0 (t, o) rfl
    obtain ⟨a, ha, hq⟩ := h Xa _ _ this
    rw [hc] at ha
    refine ⟨a, ha, fun r hr => hq r ?_⟩
    simpa [DataW.weightsEach] using hr
theorem Uc {t : TypeId} {o : Nat} {fs : List (TypeId × Nat)} {α β : Type} {e : Enc α} {e' : Enc β} {Q : Nat → α → Prop} {Q' : Nat → β → Prop} (h : Rds enc P W t e Q) (hc : P.cellsOf t = e.sz) (hr : RdsFs enc P W (o + e.sz) fs e' Q') :
    RdsFs enc P W o ((t, o) :: fs) (Qj e e') (fun r a => Q r a.1 ∧ Q' r a.2) := by
  intro Xa cs xs hl hf
  match xs, hl with
  | x :: xs, hl =>
    have := hf 0 (t, o) rfl
    obtain ⟨a, ha, hq⟩ := h Xa _ _ this
    obtain ⟨b, hb, hq'⟩ := hr Xa cs xs (by simpa using hl) (fun i f hi => by have := hf (i + 1) f (by simpa using hi); simpa using this)
    refine ⟨(a, b), ?_, fun r hw => ?_⟩
    · show (cs.drop o).take (e.sz + e'.sz) = e.enc a ++ e'.enc b
      rw [hc] at ha
      rw [← ha, ← hb, List.take_add, List.drop_drop]
    · simp only [List.map_cons, DataW.weightsEach, List.all_append, Bool.and_eq_true] at hw
      exact ⟨hq r hw.1, hq' r hw.2⟩
theorem G1 {t : TypeId} {l : List (TypeId × Nat)} {α : Type} {e : Enc α} {Q : Nat → α → Prop} (hl : (match P.underlying t with | some (.struct fs) => some (fs.toList.map (fun f => (f.type, f.offset))) | _ => none) = some l) (hc : P.cellsOf t = e.sz)
    (hr : RdsFs enc P W 0 l e Q) : Rds enc P W t e Q := by
  intro Xa cs x hx
  split at hl
  · rename_i fs hs
    simp only [Option.some.injEq] at hl
    subst hl
    obtain ⟨xs, n, _, rfl, hlen, hxs, hg⟩ := DataW.trod_struct hs hx
    obtain ⟨a, ha, hq⟩ := hr n cs xs (by simpa using hxs) (fun i f hi => by
      rw [List.getElem?_map, Option.map_eq_some_iff] at hi
      obtain ⟨f', hf', rfl⟩ := hi
      exact hg i f' (by simpa using hf'))
    rw [List.drop_zero, List.take_of_length_le (by omega)] at ha
    refine ⟨a, ha, fun r hw => hq r ?_⟩
    simp only [DataW.weights, hs] at hw
    simpa [List.map_map, Function.comp_def] using hw
  · cases hl
theorem Dg {t : TypeId} {n : Nat} : ∀ {ds : List (DataW H)} {d : DataW H}, d ∈ ds → n ∈ d.weights P t → n ∈ DataW.weightsAll P t ds
  | d0 :: ds, d, hd, hn => by
    simp only [DataW.weightsAll, List.mem_append]
    rcases List.mem_cons.1 hd with rfl | h
    · exact .inl hn
    · exact .inr (Dg h hn)
theorem rds_row {t te : TypeId} {α : Type} {e : Enc α} {Q : Nat → α → Prop} (ht : P.underlying t = some (.slice te)) (h : Rds enc P W te e Q) (hc : P.cellsOf te = e.sz) (h0 : 0 < e.sz) {Xa : Nat} {cs : List Value} {x : DataW H × List MemPlace}
    (hx : DataW.trod enc P W 0 (fun _ => true) true Xa t cs = some x) :
    ∃ (A : Option Addr) (c : Nat) (l : List α), cs = [.slice A l.length c] ∧ RdT e W A c l ∧ ∀ r, (x.1.weights P t).all (· ≤ r) = true → l.length * P.bytesOf te ≤ r ∧ ∀ a ∈ l, Q r a := by
  rcases DataW.trod_slice ht hx with ⟨rfl, rfl⟩ | ⟨a, len, cap, elems, rest, n, _, rfl, rfl, _, hl, hm, hlen, hel, _, _⟩
  · exact ⟨none, 0, [], rfl, RdT.nil _ W, fun r _ => ⟨by simp, fun a ha => by cases ha⟩⟩
  · have each : ∀ i, i ≤ len → ∃ l : List α, l.length = i ∧ ∀ j (hj : j < l.length), W.cells? 0 (a.add (j * P.cellsOf te)) (P.cellsOf te) = some (e.enc l[j]) ∧ ∀ y, elems[j]? = some y → ∀ r, (y.1.weights P te).all (· ≤ r) = true → Q r l[j] := by
      intro i
      induction i with
      | zero => exact fun _ => ⟨[], rfl, fun j hj => by simp at hj⟩
      | succ i ih =>
        intro hi
        obtain ⟨l, hll, hlg⟩ := ih (by omega)
        have := hel i (by omega)
        rw [List.getElem?_eq_getElem (by omega), Option.bind_eq_some_iff] at this
        obtain ⟨cs', h1, h2⟩ := this
        obtain ⟨b, rfl, hb⟩ := h n cs' _ h2
        refine ⟨l ++ [b], by simp [hll], fun j hj => ?_⟩
        by_cases hji : j < l.length
        · rw [List.getElem_append_left hji]
          exact hlg j hji
        · obtain rfl : j = i := by simp at hj; omega
          subst hll
          rw [List.getElem_concat_length rfl]
          refine ⟨h1, fun y hy => ?_⟩
          rw [List.getElem?_eq_getElem (by omega), Option.some.injEq] at hy
          subst hy
          exact hb
    obtain ⟨l, hll, hlg⟩ := each len (Nat.le_refl _)
    subst hll
    refine ⟨some a, cap, l, rfl, ⟨by rw [Vi], hl, hm, fun hn => ?_⟩, fun r hw => ?_⟩
    · have cell : ∀ j (hj : j < l.length) k, k < e.sz → W.cell? ((a.add (j * e.sz)).add k) = (e.enc l[j])[k]? := by
        intro j hj k hk
        have := (hlg j hj).1
        rw [hc] at this
        exact (World.cells?_some this).2.2 k hk
      have c0 := cell 0 hn 0 h0
      rw [Nat.zero_mul, List.getElem?_eq_getElem (by rw [e.len]; exact h0)] at c0
      obtain ⟨b, off, spot⟩ := a
      obtain rfl : spot = none := by simpa [Addr.add] using World.cell?_spot c0
      have hadd : ∀ i j : Nat, ((⟨b, off, none⟩ : Addr).add i).add j = ⟨b, off + (i + j), none⟩ := by
        intro i j
        unfold Addr.add
        by_cases hi : i = 0 <;> by_cases hj : j = 0 <;> simp [hi, hj, Nat.add_assoc]
      rw [hadd] at c0
      refine ⟨b, off, rfl, block_lt_of_cell c0, fun j u hu => ?_⟩
      have hlen2 := (List.getElem?_eq_some_iff.1 hu).1
      rw [Vi] at hlen2
      have hq : j / e.sz < l.length := Nat.div_lt_of_lt_mul (by rw [Nat.mul_comm]; exact hlen2)
      have hk : j % e.sz < e.sz := Nat.mod_lt _ h0
      have hj : j = j / e.sz * e.sz + j % e.sz := by rw [Nat.mul_comm]; exact (Nat.div_add_mod j e.sz).symm
      have hce := cell (j / e.sz) hq (j % e.sz) hk
      rw [hadd, ← hj] at hce
      rw [hce]
      have hgt := G3 e (l := l) (i := j / e.sz) (x := l[j / e.sz]) (List.getElem?_eq_getElem hq) (j := j % e.sz) (u := (e.enc l[j / e.sz])[j % e.sz]'(by rw [e.len]; exact hk)) (List.getElem?_eq_getElem _)
      rw [← hj, hu] at hgt
      rw [List.getElem?_eq_getElem (by rw [e.len]; exact hk), ← hgt]
    · simp only [DataW.weights, ht, List.all_cons, Bool.and_eq_true, decide_eq_true_eq, List.all_append] at hw
      refine ⟨Nat.le_trans (Nat.mul_le_mul_right _ (by simp; omega)) hw.1, fun b hb => ?_⟩
      obtain ⟨j, hj, rfl⟩ := List.mem_iff_getElem.1 hb
      refine (hlg j hj).2 _ (List.getElem?_eq_getElem (by omega)) r ?_
      rw [List.all_eq_true] at hw ⊢
      intro m hm'
      exact hw.2.1 m (Dg (List.mem_map.2 ⟨_, List.getElem_mem (by omega), rfl⟩) hm')
variable {r0 : Reach} {b0 : Nat}
theorem open_agg {t : TypeId} {fs : Array Field} {α : Type} {e : Enc α} {Q : Nat → α → Prop} (hs : P.underlying t = some (.struct fs)) (h : Rds enc P W t e Q) {v : Value} {d : DataW H} {p : List MemPlace} (hv : Value.okWide P W r0 b0 t v)
    (hd : DataW.Trod enc P W 0 (fun _ => true) true t v d p) (hr : ∀ n ∈ d.weights P t, n ≤ reachBytes) : ∃ a, v = .agg ⟨e.enc a⟩ ∧ Q reachBytes a := by
  obtain ⟨cs, rfl, hsz⟩ := okWide_struct hs hv
  obtain ⟨Xa, hf⟩ := hd
  obtain ⟨a, ha, hq⟩ := h Xa _ _ hf
  refine ⟨a, ?_, hq _ (by rw [List.all_eq_true]; intro n hn; exact decide_eq_true (hr n hn))⟩
  simp only [Value.cells] at ha
  rw [← ha]
theorem open_row {t te : TypeId} {α : Type} {e : Enc α} {Q : Nat → α → Prop} (ht : P.underlying t = some (.slice te)) (h : Rds enc P W te e Q) (hc : P.cellsOf te = e.sz) (h0 : 0 < e.sz) {v : Value} {d : DataW H} {p : List MemPlace} (hv : Value.okWide P W r0 b0 t v)
    (hd : DataW.Trod enc P W 0 (fun _ => true) true t v d p) (hr : ∀ n ∈ d.weights P t, n ≤ reachBytes) : ∃ (A : Option Addr) (c : Nat) (l : List α), v = .slice A l.length c ∧ RdT e W A c l ∧ l.length * P.bytesOf te ≤ reachBytes ∧ ∀ a ∈ l, Q reachBytes a := by
  obtain ⟨A, n, c, rfl⟩ := okWide_slice ht hv
  obtain ⟨Xa, hf⟩ := hd
  obtain ⟨A', c', l, hl, hrd, hq⟩ := rds_row ht h hc h0 hf
  simp [Value.cells] at hl
  obtain ⟨rfl, rfl, rfl⟩ := hl
  have := hq reachBytes (by rw [List.all_eq_true]; intro n hn; exact decide_eq_true (hr n hn))
  exact ⟨A, c, l, rfl, hrd, this.1, this.2⟩
end
end Go.Proofs.YtmgfanhcdfobhaaGreatDoor
namespace Go.Proofs.YtmgfanhcdfobhaaGreatDoor
theorem reachM : reachBytes ≤ 140737488355328 := by decide
section
variable {H : Type} {enc : TypeId × Value → H} {P : Program} {W : World}
theorem rds_ds {t te : TypeId} {α : Type} {e : Enc α} {Q : Nat → α → Prop} (p : Dp α) (ht : P.underlying t = some (.slice te)) (h : Rds enc P W te e Q) (hc : P.cellsOf te = e.sz) (h0 : 0 < e.sz) (hb : Nat.ble 1 (P.bytesOf te) = true) (hp : ∀ r a, Q r a → p.ok W a) :
    Rds enc P W t (eDS e) (fun r x => (dDS e p).ok W x ∧ x.2.2.length ≤ r ∧ ∀ a ∈ x.2.2, Q r a) := by
  intro Xa cs x hx
  obtain ⟨A, c, l, rfl, hr, hq⟩ := rds_row ht h hc h0 hx
  refine ⟨(A, c, l), rfl, fun r hw => ?_⟩
  obtain ⟨h1, h2⟩ := hq r hw
  exact ⟨⟨hr, fun y hy => hp r y (h2 y hy)⟩, Nat.le_trans (Nat.le_mul_of_pos_right _ (Nat.le_of_ble_eq_true hb)) h1, h2⟩
def NetQ (r : Nat) (n : Int × Int) : Prop := (Lit.int .u32 n.1).wf = true ∧ (Lit.int .i64 n.2).wf = true
def TokQ (r : Nat) (x : List UInt8 × List UInt8 × Int) : Prop := x.1.length ≤ r ∧ x.2.1.length ≤ r ∧ (Lit.int .i64 x.2.2).wf = true
def TenDQ (W : World) (r : Nat) (y : Vl) : Prop := y.1.length ≤ r ∧ (Lit.int .i64 y.2.1).wf = true ∧ (Lit.int .i64 y.2.2.1).wf = true ∧
  ((dDS eNet dT).ok W y.2.2.2.1 ∧ y.2.2.2.1.2.2.length ≤ r ∧ ∀ n ∈ y.2.2.2.1.2.2, NetQ r n) ∧ ((dDS eTok dT).ok W y.2.2.2.2 ∧ y.2.2.2.2.2.2.length ≤ r ∧ ∀ x ∈ y.2.2.2.2.2.2, TokQ r x)
def CfgQ (W : World) (r : Nat) (c : Int × Int × Int × Int × DS Vl) : Prop := (Lit.int .i64 c.1).wf = true ∧ (Lit.int .i64 c.2.1).wf = true ∧ (Lit.int .i64 c.2.2.1).wf = true ∧ (Lit.int .i64 c.2.2.2.1).wf = true ∧
  ((dDS Nd Cn).ok W c.2.2.2.2 ∧ c.2.2.2.2.2.2.length ≤ r ∧ ∀ y ∈ c.2.2.2.2.2.2, TenDQ W r y)
set_option maxRecDepth 100000 in
theorem net_rds : Rds enc Tryz.prog W 113 eNet NetQ :=
  G1 (l := [(111, 0), (3, 1)]) (by kernel_rfl) (by kernel_rfl) (Uc (Gd Tryz.underlying111) (by kernel_rfl) (Fc (Gd Tryz.underlying3) (by kernel_rfl)))
set_option maxRecDepth 100000 in
theorem tok_rds : Rds enc Tryz.prog W 48 eTok TokQ :=
  G1 (l := [(9, 0), (9, 1), (2, 2)]) (by kernel_rfl) (by kernel_rfl) (Uc (Ds Tryz.underlying9) (by kernel_rfl) (Uc (Ds Tryz.underlying9) (by kernel_rfl) (Fc (Gd Tryz.underlying2) (by kernel_rfl))))
set_option maxRecDepth 100000 in
theorem ten_rds : Rds enc Tryz.prog W 44 Nd (TenDQ W) :=
  G1 (l := [(9, 0), (3, 1), (3, 2), (41, 3), (42, 4)]) (by kernel_rfl) (by kernel_rfl)
    (Uc (Ds Tryz.underlying9) (by kernel_rfl) (Uc (Gd Tryz.underlying3) (by kernel_rfl) (Uc (Gd Tryz.underlying3) (by kernel_rfl)
      (Uc (rds_ds dT Tryz.underlying41 net_rds (by kernel_rfl) (by decide) (by kernel_rfl) (fun _ _ _ => trivial)) (by kernel_rfl) (Fc (rds_ds dT Tryz.underlying42 tok_rds (by kernel_rfl) (by decide) (by kernel_rfl) (fun _ _ _ => trivial)) (by kernel_rfl))))))
set_option maxRecDepth 100000 in
theorem cfg_rds : Rds enc Tryz.prog W 24 (Qj (Qd .i64) (Qj (Qd .i64) (Qj (Qd .i64) (Qj (Qd .i64) (eDS Nd))))) (CfgQ W) :=
  G1 (l := [(2, 0), (2, 1), (2, 2), (2, 3), (22, 4)]) (by kernel_rfl) (by kernel_rfl)
    (Uc (Gd Tryz.underlying2) (by kernel_rfl) (Uc (Gd Tryz.underlying2) (by kernel_rfl) (Uc (Gd Tryz.underlying2) (by kernel_rfl) (Uc (Gd Tryz.underlying2) (by kernel_rfl)
      (Fc (rds_ds Cn Tryz.underlying22 ten_rds (by kernel_rfl) (by decide) (by kernel_rfl) (fun _ _ h => ⟨trivial, trivial, trivial, h.2.2.2.1.1, h.2.2.2.2.1⟩)) (by kernel_rfl))))))
set_option maxRecDepth 100000 in
theorem open_cfg {r0 : Reach} {b0 : Nat} {v : Value} {d : DataW H} {p : List MemPlace} (hv : Value.okWide Tryz.prog W r0 b0 24 v) (hd : DataW.Trod enc Tryz.prog W 0 (fun _ => true) true 24 v d p) (hr : ∀ n ∈ d.weights Tryz.prog 24, n ≤ reachBytes) :
    ∃ (a b c e : Int) (A : Option Addr) (k : Nat) (l : List Vl), v = .agg #[.int .i64 a, .int .i64 b, .int .i64 c, .int .i64 e, .slice A (List.length (List.map stT l)) k] ∧ CfgQ W reachBytes (a, b, c, e, A, k, l) := by
  obtain ⟨⟨a, b, c, e, A, k, l⟩, rfl, q⟩ := open_agg Tryz.underlying24 cfg_rds hv hd hr
  refine ⟨a, b, c, e, A, k, l, ?_, q⟩
  rw [List.length_map]
  rfl
theorem cfg_q {W : World} {a b c d : Int} {A : Option Addr} {k : Nat} {x : List Vl} (h : CfgQ W reachBytes (a, b, c, d, A, k, x)) : (List.map stT x).length ≤ 140737488355328 ∧ ∀ t ∈ List.map stT x, TenQ t := by
  have hM := reachM
  obtain ⟨_, _, _, _, _, h1, h2⟩ := h
  refine ⟨by rw [List.length_map]; exact Nat.le_trans h1 hM, fun t ht => ?_⟩
  obtain ⟨y, hy, rfl⟩ := List.mem_map.1 ht
  obtain ⟨q1, q2, q3, ⟨_, q4, q5⟩, _, q6, q7⟩ := h2 y hy
  refine ⟨Nat.le_trans q1 hM, Nat.le_trans q4 hM, Nat.le_trans q6 hM, fun n hn => ?_, fun z hz => ⟨Nat.le_trans (q7 z hz).1 hM, Nat.le_trans (q7 z hz).2.1 hM⟩⟩
  have := (q5 n hn).1
  simp [Lit.wf, IntKind.min, IntKind.max, IntKind.signed, IntKind.bits] at this
  omega
end
end Go.Proofs.YtmgfanhcdfobhaaGreatDoor
namespace Go.Proofs.YtmgfanhcdfobhaaGreatDoor
def OpVW (r : Nat) (o : OpV) : Prop := (Lit.int .i64 o.1).wf = true ∧ o.2.1.length ≤ r ∧ o.2.2.1.length ≤ r ∧ o.2.2.2.1.length ≤ r ∧ o.2.2.2.2.1.length ≤ r ∧ (Lit.int .i64 o.2.2.2.2.2).wf = true
section
variable {H : Type} {enc : TypeId × Value → H} {W : World}
set_option maxRecDepth 100000 in
theorem opv_rds : Rds enc Tryz.prog W 34 (Qj (Qd .i64) (Qj Q4 (Qj Q4 (Qj Q4 (Qj Q4 (Qd .i64)))))) OpVW :=
  G1 (l := [(3, 0), (9, 1), (9, 2), (9, 3), (9, 4), (2, 5)]) (by kernel_rfl) (by kernel_rfl)
    (Uc (Gd Tryz.underlying3) (by kernel_rfl) (Uc (Ds Tryz.underlying9) (by kernel_rfl) (Uc (Ds Tryz.underlying9) (by kernel_rfl) (Uc (Ds Tryz.underlying9) (by kernel_rfl)
      (Uc (Ds Tryz.underlying9) (by kernel_rfl) (Fc (Gd Tryz.underlying2) (by kernel_rfl)))))))
theorem opv_q {l : List OpV} (hl : l.length ≤ reachBytes) (h : ∀ o ∈ l, OpVW reachBytes o) : l.length ≤ 140737488355328 ∧ ∀ o ∈ l, OpVQ o := by
  have hM := reachM
  refine ⟨Nat.le_trans hl hM, fun o ho => ?_⟩
  obtain ⟨q1, q2, q3, q4, q5, q6⟩ := h o ho
  exact ⟨Nat.le_trans q2 hM, Nat.le_trans q3 hM, Nat.le_trans q4 hM, Nat.le_trans q5 hM⟩
end
end Go.Proofs.YtmgfanhcdfobhaaGreatDoor
namespace Go.Proofs.YtmgfanhcdfobhaaGreatDoor
open Go.RowKit
abbrev Hg : List (String × DataW Unit) := [("math/bits.deBruijn32tab", Rows.laid_math_bits_deBruijn32tab), ("math/bits.deBruijn64tab", Rows.laid_math_bits_deBruijn64tab), ("internal/strconv.uint64pow10", Rows.laid_internal_strconv_uint64pow10)
  , ("unicode/utf8.acceptRanges", Rows.laid_unicode_utf8_acceptRanges), ("unicode/utf8.first", Rows.laid_unicode_utf8_first)
  ]
theorem gTab : Tryz.prog.globalNamed R0 = some 0 := by kernel_rfl
theorem gTabType : (Tryz.prog.globals[0]?).map (·.type) = some 183 := by kernel_rfl
theorem cellsTab : Tryz.prog.cellsOf 183 = 20 := by kernel_rfl
theorem cellsU64 : Tryz.prog.cellsOf 153 = 1 := by kernel_rfl
theorem laid_of {W : World} (h : laidMetH Tryz.prog Hg W) : D0 W := by
  have h1 := h.filter (fun x => x.1 == R0)
  have e : Hg.filter (fun x => x.1 == R0) = [(R0, Lib.tabData .u64 Lib.pow10Tab)] := by kernel_rfl
  rw [e] at h1
  have ht : Lib.TabIs Tryz.prog W R0 .u64 Lib.pow10Tab := Lib.tabIs_of_head (rest := []) gTab gTabType Tryz.underlying183 Tryz.underlying153 cellsU64 cellsTab h1
  refine ⟨ht, fun g hg => ?_⟩
  obtain rfl := Option.some.inj (gTab.symm.trans hg)
  have := ht.cell gTab 0 (by decide)
  exact block_lt_of_cell this
def cells1 : DataW Unit → List Value
  | .lit (.int k z) => [.int k z]
  | .lit (.bool b) => [.bool b]
  | _ => []
def cells2 : DataW Unit → List Value
  | .agg l => l.flatMap cells1
  | d => cells1 d
def cells3 : DataW Unit → List Value
  | .agg l => l.flatMap cells2
  | d => cells2 d
def D7 (d : DataW Unit) : Obj → Obj
  | .cells _ t frozen => .cells (cells3 d).toArray t frozen
  | o => o
noncomputable def Ck (os : Os) : World :=
  { World.holding Tryz.prog os ⟨#[], #[], []⟩ with heap := ((((World.holding Tryz.prog os ⟨#[], #[], []⟩).heap.modify 4 (D7 Rows.laid_math_bits_deBruijn32tab)).modify 5 (D7 Rows.laid_math_bits_deBruijn64tab)).modify 0 (D7 Rows.laid_internal_strconv_uint64pow10)
    |>.modify 2 (D7 Rows.laid_unicode_utf8_acceptRanges) |>.modify 1 (D7 Rows.laid_unicode_utf8_first)
    ) }
end Go.Proofs.YtmgfanhcdfobhaaGreatDoor
namespace Go.Proofs.YtmgfanhcdfobhaaGreatDoor
open Go.ChangeShapes Go.WideShapes Go.ChangeAt Go.RowKit
open Go.ChangeMaps (open_string shut_string)
set_option maxRecDepth 100000 in
theorem D8 (H : Type) (enc : TypeId × Value → H) (W : World) (base : Nat) (args : Array Value) (ds gs : List (DataW H)) (before : List MemPlace) (vt : List TypeId)
    (hval : ∀ (j : Nat) t v, Tryz.f5.params[j]? = some t → args[j]? = some v → Value.okWide Tryz.prog W .any base t v)
    (hW : DataW.Whole enc Tryz.prog Tryz.f5.params.toList Rows.vaultGoneSpec.vars false W args.toList ds gs before) (hL : laidMetH Tryz.prog Rows.vaultGoneRow.laid W)
    (hZ : (DataW.weightsEach Tryz.prog (Tryz.f5.params.toList ++ vt) (ds ++ gs)).all (· ≤ reachBytes) = true) :
    Calls Tryz.prog 5 args W fun e W' => ∃ v, e = .returned v ∧ Rows.vaultGoneSpec.post enc Tryz.prog Tryz.f5 false true false false W args v W' := by
  have hW' := hW
  obtain ⟨p, q, hA0, hV, rfl, hfz, hnd⟩ := hW
  have hA : DataW.TrodAll enc Tryz.prog W 0 (fun _ => true) true Tryz.f5.params.toList args.toList ds p := hA0
  rw [Tryz.params5] at hA hval hZ
  obtain ⟨v0, vs0, d0, ds0, p0, q0, hargs, rfl, rfl, h0, r0⟩ := trodAll_cons hA
  obtain ⟨v1, vs1, d1, ds1, p1, q1, rfl, rfl, rfl, h1, r1⟩ := trodAll_cons r0
  obtain ⟨v2, vs2, d2, ds2, p2, q2, rfl, rfl, rfl, h2, r2⟩ := trodAll_cons r1
  obtain ⟨v3, vs3, d3, ds3, p3, q3, rfl, rfl, rfl, h3, r3⟩ := trodAll_cons r2
  obtain ⟨rfl, rfl, rfl⟩ := trodAll_nil r3
  obtain rfl : args = #[v0, v1, v2, v3] := by cases args; simp_all
  obtain ⟨rfl, rfl⟩ := trodVars_none hV
  have wz : ∀ (j : Nat) t d, _ → _ → ∀ n ∈ DataW.weights Tryz.prog t d, n ≤ reachBytes := fun j t d ht hd n hn => of_decide_eq_true (List.all_eq_true.1 hZ n (DataW.weights_mem_each (j := j) ht hd n hn))
  have k0 := h0
  have lt0 : ∀ x ∈ p0, x.block < W.heap.size := by obtain ⟨m, hm⟩ := k0; exact DataW.trod_lt m _ _ _ hm
  have k1 := h1
  have lt1 : ∀ x ∈ p1, x.block < W.heap.size := by obtain ⟨m, hm⟩ := k1; exact DataW.trod_lt m _ _ _ hm
  have k2 := h2
  have lt2 : ∀ x ∈ p2, x.block < W.heap.size := by obtain ⟨m, hm⟩ := k2; exact DataW.trod_lt m _ _ _ hm
  have k3 := h3
  have lt3 : ∀ x ∈ p3, x.block < W.heap.size := by obtain ⟨m, hm⟩ := k3; exact DataW.trod_lt m _ _ _ hm
  obtain ⟨a0_0, a0_1, a0_2, a0_3, A0_, c0_, l0_, rfl, q0_⟩ := open_cfg (hval 0 24 v0 rfl rfl) h0 (wz 0 24 d0 rfl rfl)
  obtain ⟨s1_, rfl, ed1_, _, hs1_⟩ := open_string Tryz.underlying9 (hval 1 9 v1 rfl rfl) h1
  have hn1_ : s1_.data.toList.length ≤ reachBytes := (wz 1 9 d1 rfl rfl) _ (by rw [ed1_]; simp [DataW.weights])
  obtain ⟨s2_, rfl, ed2_, _, hs2_⟩ := open_string Tryz.underlying9 (hval 2 9 v2 rfl rfl) h2
  have hn2_ : s2_.data.toList.length ≤ reachBytes := (wz 2 9 d2 rfl rfl) _ (by rw [ed2_]; simp [DataW.weights])
  obtain ⟨A3_, c3_, l3_, rfl, hr3_, hb3_, hq3_⟩ := open_row Tryz.underlying25 opv_rds (by kernel_rfl) (by decide) (hval 3 25 v3 rfl rfl) h3 (wz 3 25 d3 rfl rfl)
  have hl3_ : l3_.length ≤ reachBytes := Nat.le_trans (Nat.le_mul_of_pos_right _ (of_decide_eq_true (by kernel_rfl))) hb3_
  clear hA0
  refine (N5 A0_ c0_ A3_ c3_ a0_0 a0_1 a0_2 a0_3 l0_ s1_.data.toList s2_.data.toList l3_ W (laid_of hL) q0_.2.2.2.2.1 hr3_ true (Cj _ _ _ _ _ _ _ _ (cfg_q q0_).1 (cfg_q q0_).2 (opv_q hl3_ hq3_).1 (opv_q hl3_ hq3_).2)).mono fun e W' ⟨he, bel0⟩ => ?_
  have bel := SP.keeps bel0
  subst he
  exact ⟨_, rfl, _, _, _, [], _, [], hW', trodAll_mk1 (shut_bool Tryz.underlying4 _), (trodAll_cons_mk (Below.trod Ek (by kernel_rfl) (of_decide_eq_true (by kernel_rfl)) k0 bel lt0) (trodAll_cons_mk (Below.trod Ek (by kernel_rfl) (of_decide_eq_true (by kernel_rfl)) k1 bel lt1) (trodAll_cons_mk (Below.trod Ek (by kernel_rfl) (of_decide_eq_true (by kernel_rfl)) k2 bel lt2) (trodAll_cons_mk (Below.trod Ek (by kernel_rfl) (of_decide_eq_true (by kernel_rfl)) k3 bel lt3) trodAll_mk0)))), rfl, bel.frame _, fun h => by cases h⟩
theorem D9 (os : Os) : laidMet Tryz.prog Rows.vaultGoneRow.laid ((Ck os).forCall (fun _ _ => 0) ⟨#[], #[.agg #[.int .i64 0, .int .i64 0, .int .i64 0, .int .i64 0, .slice none 0 0], .string ⟨#[]⟩, .string ⟨#[]⟩, .slice none 0 0], []⟩).memory :=
  laidMet_of_run' 8 (by kernel_rfl) (by kernel_rfl)
theorem Cl (os : Os) {H : Type} (enc : TypeId × Value → H) : ∃ places, DataW.whole enc Tryz.prog ((Ck os).forCall (fun _ _ => 0) ⟨#[], #[.agg #[.int .i64 0, .int .i64 0, .int .i64 0, .int .i64 0, .slice none 0 0], .string ⟨#[]⟩, .string ⟨#[]⟩, .slice none 0 0], []⟩).memory Tryz.f5.params.toList Rows.vaultGoneSpec.vars false [.agg #[.int .i64 0, .int .i64 0, .int .i64 0, .int .i64 0, .slice none 0 0], .string ⟨#[]⟩, .string ⟨#[]⟩, .slice none 0 0] 8 = some ([.agg [.lit (.int .i64 0), .lit (.int .i64 0), .lit (.int .i64 0), .lit (.int .i64 0), .nil], .lit (.string []), .lit (.string []), .nil], [], places) :=
  ⟨[], by kernel_rfl⟩
set_option maxRecDepth 100000 in
theorem Bw (os : Os) (started : os.Started) (H : Type) (enc : TypeId × Value → H) (F : Stop.Interp) :
    ReturnsInHanded {} Tryz.checked os 5 .any ((OpenSpec.ofChange Rows.vaultGoneSpec).preRow enc Tryz.prog Tryz.f5 Rows.vaultGoneRow.domain false Rows.vaultGoneRow.laid) (((OpenSpec.ofChange Rows.vaultGoneSpec).at F).post enc Tryz.prog Tryz.f5 false true false false) := by
  obtain ⟨places, hx⟩ := Cl os enc
  refine returnsInHanded_of_row (C := Tryz.checked) (s := OpenSpec.ofChange Rows.vaultGoneSpec) own started (by kernel_rfl) Tryz.func5
    (witness_row_at (enc := enc) (C := Tryz.checked) false (Ck os) #[.agg #[.int .i64 0, .int .i64 0, .int .i64 0, .int .i64 0, .slice none 0 0], .string ⟨#[]⟩, .string ⟨#[]⟩, .slice none 0 0] rfl (by kernel_rfl) (by kernel_rfl) (by kernel_rfl)
      (OpenSpec.preRow_of_cond 8 hx (by kernel_rfl) (fun k hk => by cases hk) (by kernel_rfl) (D9 os))) ?_
  intro W base args ds gs before hval hW _ _ hZ hL _ _
  exact D8 H enc W base args ds gs before _ hval hW hL hZ
theorem Cq : Rows.VaultGoneSaid :=
  OpenClaim.holds_of_cond 5 Tryz.f5 rfl rfl rfl rfl rfl rfl rfl ⟨rfl, rfl, rfl, rfl, rfl⟩ rfl rfl rfl rfl rfl (by kernel_rfl) Tryz.func5 (by kernel_rfl)
    (of_decide_eq_true (by kernel_rfl)) (by unfold Func.isWrapper; first | (rw [if_pos (by decide +kernel)]; kernel_rfl) | (rw [if_neg (by decide +kernel)]; exact ⟨rfl, rfl⟩))
    (fun os started H enc _ F => by rw [OpenClaim.pre_eq_preRow]; exact Bw os started H enc F)
theorem Dt (f : FuncId) (fn : Func) (hf : Tryz.pinned.checked.prog.funcNamed Rows.vaultGoneRow.func = some f) (hfn : Tryz.pinned.checked.prog.funcs[f]? = some fn) :
    false = Tryz.pinned.checked.prog.looks [] ∧ ∀ (j : Nat) t, fn.params[j]? = some t → Tryz.pinned.checked.prog.wantsStandIn t = false := by
  obtain rfl : f = 5 := Option.some.inj ((show Tryz.prog.funcNamed Rows.vaultGoneRow.func = some 5 by kernel_rfl).symm.trans hf) |>.symm
  obtain rfl : fn = Tryz.f5 := (Option.some.inj (Tryz.func5.symm.trans hfn)).symm
  refine ⟨by kernel_rfl, fun j t ht => ?_⟩
  have ha : (Tryz.f5.params.toList.all fun t => !Tryz.prog.wantsStandIn t) = true := by kernel_rfl
  rw [List.all_eq_true] at ha
  have := ha t (by rw [← Array.getElem?_toList] at ht; exact List.mem_of_getElem? ht)
  have h2 : Tryz.prog.wantsStandIn t = false := by simpa using this
  exact h2
theorem vaultGone_card : Rows.VaultGoneCardSaid :=
  Claim7.holds_tied_plain_at .later [] _ _ _ _ Cq (fun _ h => by cases h) (by kernel_rfl) (fun _ h => by cases h) vaultGone_row_tie rfl ⟨rfl, rfl⟩ (by kernel_rfl) rfl Dt (by kernel_rfl)
#print axioms vaultGone_card
end Go.Proofs.YtmgfanhcdfobhaaGreatDoor
