import Derived.Test.YtmgfanhcdfobhaaGreatDoorPkShakeBetween3
set_option linter.unusedSimpArgs false
set_option linter.unusedVariables false
set_option linter.unusedSectionVars false
namespace Go.Proofs.YtmgfanhcdfobhaaGreatDoor
open Go.RowKit
def J5 (a : Int) (b : Int) (c : Int) (d : Int) (e : (List Qd)) : Option (Option (Int × Int × Int × Int × Yi)) :=
  ((Jx a b c d e).bind fun f => (cond (!f) (some none) (some (some (a, b, c, d, ([] : Yi))))))
set_option maxRecDepth 100000 in
set_option maxHeartbeats 4000000 in
theorem J0 (A6 : Option Addr) (c7 : Nat) (a : Int) (c : Int) (f : Int) (g : Int) (d9 : (List Q6)) (w0 : World) (hL : Dd w0) (y : (dDS J9 Bb).ok w0 (A6, c7, d9)) (r : (Option (Int × Int × Int × Int × Yi))) (H : J5 a c f g (List.map stT d9) = some r) :
  Calls Tryz.prog 18 #[(.agg #[(.int .i64 a), (.int .i64 c), (.int .i64 f), (.int .i64 g), (.slice A6 (List.length (List.map stT d9)) c7)])] w0 (fun e w' => match r with | none => e = .returned (.pointer none) ∧ SP [] w0 w' [] | some o => ∃ (q : Nat) (s : Nat), e = .returned (pt q 0) ∧ SP [] w0 w' [Qo q 79 #[(.int .i64 o.1), (.int .i64 o.2.1), (.int .i64 o.2.2.1), (.int .i64 o.2.2.2.1), (.slice A6 (List.length (List.map stT d9)) c7), (.map (some s))], Vf s o.2.2.2.2]) := by
 unfold J5 at H
 refine Qu (n := 10) Tryz.func18 K K K ?_
 have z := Q3 [] w0
 refine aQ ?_
 refine aR ?_
 refine iS 1 ?_
 refine Vn (t := 24) (x := (.tmp 0)) (v := (.agg #[(.int .i64 a), (.int .i64 c), (.int .i64 f), (.int .i64 g), (.slice A6 (List.length (List.map stT d9)) c7)])) (d := (some 1)) (k := 0) K rfl K z ?_
 intro u w32 h
 refine iR 1 2 [(2, (.pointer none))] ?_
 refine iF ?_
 refine aQ ?_
 refine aQ ?_
 refine aR ?_
 refine iS 1 ?_
 refine sL 24 1 u 0 0 (.agg #[(.int .i64 a), (.int .i64 c), (.int .i64 f), (.int .i64 g), (.slice A6 (List.length (List.map stT d9)) c7)]) 3 h rfl ?_
 obtain ⟨i, a0, H⟩ := Qc H
 refine iS 2 ?_
 refine cF 43 #[(.tmp 3)] #[24] 4 Tryz.call43 (Ry A6 c7 a c f g d9 w32 (Zw hL (SP.keeps h)) (Dp.sp y h) i a0) ?_
 rintro e a3 ⟨rfl, w⟩
 refine ⟨_, rfl, ?_⟩
 have j := SP.call h w
 clear w
 refine iR 1 3 [(5, (.bool (!i)))] ?_
 refine iF ?_
 refine Zq K (o := (.tmp 5)) K (b := (!i)) K (fun l => ?_) (fun l => ?_)
 ·have H := ct H l
  refine aQ ?_
  refine aR ?_
  refine iR 1 1 [(2, (.pointer none))] ?_
  refine iF ?_
  refine At.ret K ?_
  refine ⟨(.pointer none), K, ?_⟩
  obtain rfl := Qg H
  exact ⟨rfl, SP.sel j [] rfl rfl⟩
 ·have H := cf H l
  refine At.skip K ?_
  refine aQ ?_
  refine aR ?_
  refine iS 1 ?_
  refine sL 24 1 u 0 0 (.agg #[(.int .i64 a), (.int .i64 c), (.int .i64 f), (.int .i64 g), (.slice A6 (List.length (List.map stT d9)) c7)]) 6 j rfl ?_
  refine iS 2 ?_
  refine Hn (T := 77) (dst := (some 7)) (o := 1) K rfl j ?_
  intro m a4 a1
  refine iR 1 3 [(8, (.agg #[(.int .i64 a), (.int .i64 c), (.int .i64 f), (.int .i64 g), (.slice A6 (List.length (List.map stT d9)) c7), (.map (some m))]))] ?_
  refine iS 4 ?_
  refine Vn (t := 79) (x := (.tmp 8)) (v := (.agg #[(.int .i64 a), (.int .i64 c), (.int .i64 f), (.int .i64 g), (.slice A6 (List.length (List.map stT d9)) c7), (.map (some m))])) (d := (some 9)) (k := 3) K rfl K a1 ?_
  intro p a5 a2
  refine iR 1 5 [(2, (pt p 0))] ?_
  refine iF ?_
  refine At.ret K ?_
  refine ⟨(pt p 0), K, ?_⟩
  obtain rfl := Qg H
  exact ⟨p, m, rfl, SP.sel a2 [2,1] rfl rfl⟩
def X2 (f : (List UInt8)) (g : (List UInt8)) (h : Int) (q5 : (List UInt8)) (q7 : (List UInt8)) (q9 : Int) (c : Int) (d : Int) (e : Int) (i : (List Qd)) (a : Yi) (j : Bool) : Option (Int × Int × Int × Int × Yi × Bool) :=
  ((chk (Nat.ble (List.length q5) 140737488355328 && Nat.ble (List.length q7) 140737488355328)).bind fun _ => ((chk (Nat.ble (List.length q5) 140737488355328 && Nat.ble (List.length q7) 140737488355328)).bind fun _ => ((some (H4 a (q5, q7) (IntKind.wrap .i64 ((Ua a (q5, q7)) + 1)))).bind fun b => ((chk (Nat.ble (List.length q5) 140737488355328 && Nat.ble (List.length q7) 140737488355328)).bind fun _ => (some (q9, c, d, e, b, ((Ua b (q5, q7)) == 1)))))))
set_option maxRecDepth 100000 in
set_option maxHeartbeats 4000000 in
theorem Nd {S : List Nat} (g4 : Nat) (g6 : Nat) (g8 : Nat) (u : Option Addr) (a0 : Nat) (a : Nat) (f : Nat) (j : Nat) (a1 : (List UInt8)) (a2 : (List UInt8)) (a3 : Int) (q5 : (List UInt8)) (q7 : (List UInt8)) (q9 : Int) (a4 : Int) (a5 : Int) (a6 : Int) (q : (List Q6)) (c : Yi) (a8 : Bool) (w0 : World) (hO : SP S w0 w0 [Qo g4 9 #[(.string ⟨List.toArray q5⟩)], Qo g6 9 #[(.string ⟨List.toArray q7⟩)], Qo g8 79 #[(.int .i64 q9), (.int .i64 a4), (.int .i64 a5), (.int .i64 a6), (.slice u (List.length (List.map stT q)) a0), (.map (some a))], Vf a c, Qo f 29 #[(pt g8 0)], Qo j 4 #[(.bool a8)]]) (e4 : ∀ w, Mod S w0 w → (dDS J9 Bb).ok w (u, a0, q)) (r : (Int × Int × Int × Int × Yi × Bool)) (H : X2 a1 a2 a3 q5 q7 q9 a4 a5 a6 (List.map stT q) c a8 = some r) :
  Calls Tryz.prog 46 #[(.agg #[(.string ⟨List.toArray a1⟩), (.string ⟨List.toArray a2⟩), (.int .i64 a3)]), (pt g4 0), (pt g6 0), (pt f 0), (pt j 0)] w0 (fun e w' => e = .returned (.tuple #[]) ∧ SP S w0 w' [Qo g4 9 #[(.string ⟨List.toArray q5⟩)], Qo g6 9 #[(.string ⟨List.toArray q7⟩)], Qo g8 79 #[(.int .i64 r.1), (.int .i64 r.2.1), (.int .i64 r.2.2.1), (.int .i64 r.2.2.2.1), (.slice u (List.length (List.map stT q)) a0), (.map (some a))], Vf a r.2.2.2.2.1, Qo f 29 #[(pt g8 0)], Qo j 4 #[(.bool r.2.2.2.2.2)]]) := by
 unfold X2 at H
 refine Qu (n := 26) Tryz.func46 K K K ?_
 have c0 := hO
 refine aQ ?_
 refine aR ?_
 refine iS 1 ?_
 refine Vn (t := 48) (x := (.tmp 0)) (v := (.agg #[(.string ⟨List.toArray a1⟩), (.string ⟨List.toArray a2⟩), (.int .i64 a3)])) (d := (some 5)) (k := 0) K rfl K c0 ?_
 intro b0 e5 b3
 refine iF ?_
 refine aQ ?_
 refine aR ?_
 refine iS 1 ?_
 refine sL 9 1 g4 0 0 (.string ⟨List.toArray q5⟩) 7 b3 rfl ?_
 refine iS 2 ?_
 refine sL 9 2 g6 0 1 (.string ⟨List.toArray q7⟩) 8 b3 rfl ?_
 refine iR 1 3 [(9, (.agg (Qa V9 ([q5, q7] : List (List UInt8))).toArray))] ?_
 refine iS 4 ?_
 refine Vc (e := V9) (l := (List.replicate 2 ([] : List UInt8))) (m := 2) (t := 83) (z := .agg (Qa V9 (List.replicate 2 ([] : List UInt8))).toArray) (d := (some 6)) (k := 3) K rfl K rfl rfl K b3 ?_
 intro p e6 c1
 refine iS 5 ?_
 refine V6 (e := V9) (l := (List.replicate 2 ([] : List UInt8))) (l' := ([q5, q7] : List (List UInt8))) (m := 2) (t := 83) (x := (.tmp 6)) (y := (.tmp 9)) (g := p) (i := 7) (d := none) (k := 4) K rfl K K rfl c1 rfl K ?_
 intro e7 c2
 refine iF ?_
 refine aQ ?_
 obtain ⟨b1, H⟩ := Zd H
 obtain ⟨b2, H⟩ := Zd H
 obtain ⟨s, hyl137, H⟩ := V4 H
 refine aG [GEq (pt g8 0), GEq (pt g8 0), GEq (pt g8 5), GEq (.map (some a)), GEq (.agg (Qa V9 ([q5, q7] : List (List UInt8))).toArray), GEq (.int .i64 (Ua c (q5, q7))), GEq (.int .i64 (IntKind.wrap .i64 ((Ua c (q5, q7)) + 1))), Cg, Cg, Cg] [7, 8, 9] [([], fun vs w => VL vs [] ∧ SP S w0 w [Qo g4 9 #[(.string ⟨List.toArray q5⟩)], Qo g6 9 #[(.string ⟨List.toArray q7⟩)], Qo g8 79 #[(.int .i64 q9), (.int .i64 a4), (.int .i64 a5), (.int .i64 a6), (.slice u (List.length (List.map stT q)) a0), (.map (some a))], Vf a c, Qo f 29 #[(pt g8 0)], Qo j 4 #[(.bool a8)], Qo b0 48 #[(.string ⟨List.toArray a1⟩), (.string ⟨List.toArray a2⟩), (.int .i64 a3)], Vq 83 V9 p 2 ([q5, q7] : List (List UInt8))]), ([7], fun vs w => ∃ (a9 : Nat), VL vs [(.tuple #[(.int .i64 (Ua c (q5, q7))), (.int .i64 ((a9 : Nat) : Int))])] ∧ SP S w0 w [Qo g4 9 #[(.string ⟨List.toArray q5⟩)], Qo g6 9 #[(.string ⟨List.toArray q7⟩)], Qo g8 79 #[(.int .i64 q9), (.int .i64 a4), (.int .i64 a5), (.int .i64 a6), (.slice u (List.length (List.map stT q)) a0), (.map (some a))], Hj a c (q5, q7) a9, Qo f 29 #[(pt g8 0)], Qo j 4 #[(.bool a8)], Qo b0 48 #[(.string ⟨List.toArray a1⟩), (.string ⟨List.toArray a2⟩), (.int .i64 a3)], Vq 83 V9 p 2 ([q5, q7] : List (List UInt8))]), ([7, 8], fun vs w => ∃ (a7 : Nat), VL vs [(.tuple #[(.int .i64 (Ua c (q5, q7))), (.int .i64 ((a7 : Nat) : Int))]), (.int .i64 ((a7 : Nat) : Int))] ∧ SP S w0 w [Qo g4 9 #[(.string ⟨List.toArray q5⟩)], Qo g6 9 #[(.string ⟨List.toArray q7⟩)], Qo g8 79 #[(.int .i64 q9), (.int .i64 a4), (.int .i64 a5), (.int .i64 a6), (.slice u (List.length (List.map stT q)) a0), (.map (some a))], Hj a c (q5, q7) a7, Qo f 29 #[(pt g8 0)], Qo j 4 #[(.bool a8)], Qo b0 48 #[(.string ⟨List.toArray a1⟩), (.string ⟨List.toArray a2⟩), (.int .i64 a3)], Vq 83 V9 p 2 ([q5, q7] : List (List UInt8))]), ([7, 8, 9], fun vs w => ∃ (b4 : Nat), VL vs [(.tuple #[(.int .i64 (Ua c (q5, q7))), (.int .i64 ((b4 : Nat) : Int))]), (.int .i64 ((b4 : Nat) : Int)), undef] ∧ SP S w0 w [Qo g4 9 #[(.string ⟨List.toArray q5⟩)], Qo g6 9 #[(.string ⟨List.toArray q7⟩)], Qo g8 79 #[(.int .i64 q9), (.int .i64 a4), (.int .i64 a5), (.int .i64 a6), (.slice u (List.length (List.map stT q)) a0), (.map (some a))], Vf a s, Qo f 29 #[(pt g8 0)], Qo j 4 #[(.bool a8)], Qo b0 48 #[(.string ⟨List.toArray a1⟩), (.string ⟨List.toArray a2⟩), (.int .i64 a3)], Vq 83 V9 p 2 ([q5, q7] : List (List UInt8))])] 10 3 ⟨trivial, SP.drew c2⟩ ?_ ?_
 iterate 10 refine And.intro ?_ ?_
 exact trivial
 ·refine oL 0 ?_
  ·rintro ρ' w' hs hah ⟨e8, c3⟩
   refine kM (kc (kS hs 3 (pt f 0)) k0) fun hkn => ?_
   refine sL 29 3 f 0 4 (pt g8 0) 10 c3 rfl ?_
   exact eK hkn
 ·exact oV (hC (hA 0 10) (h0)) (pt g8 0)
 ·exact oV (hC (hA 1 11) (h0)) (pt g8 5)
 ·refine oL 0 ?_
  ·rintro ρ' w' hs hah ⟨e9, c4⟩
   refine kM (kc (kA hah 2 12) k0) fun hkn => ?_
   refine sL 77 12 g8 5 2 (.map (some a)) 13 c4 rfl ?_
   exact eK hkn
 ·refine oL 0 ?_
  ·rintro ρ' w' hs hah ⟨f0, c5⟩
   refine kM (kc (kS hs 6 (pt p 0)) k0) fun hkn => ?_
   refine V8 (e := V9) (l := ([q5, q7] : List (List UInt8))) (m := 2) (t := 83) (x := (.tmp 6)) (g := p) (i := 7) (d := (some 14)) (k := 4) K rfl K c5 rfl K K ?_
   exact eK hkn
 ·refine Owe.light K [0, 1, 2] K (Qm ?_ (Qm ?_ (Qm ?_ Vy)))
  ·rintro ρ' w' hs hah ⟨f1, c6⟩
   refine kM (kc (kA hah 3 13) (kc (kA hah 4 14) k0)) fun hkn => ?_
   refine Re (T := 77) (kt := 83) (et := 3) (m := a) (L := c) (k := (q5, q7)) (x := (.tmp 13)) (ix := (.tmp 14)) (dst := (some 15)) (o := 5) K rfl K K K Gg (fun _ => rfl) (SP.get c6 (i := 3) rfl) (Fl b1).1 (Fl b1).2 ?_
   exact eK hkn
  ·rintro ρ' w' hs hah ⟨a9, ⟨f2, -⟩, c7⟩
   refine kM (kc (kA hah 3 13) (kc (kA hah 4 14) k0)) fun hkn => ?_
   refine Cb (T := 77) (kt := 83) (et := 3) (m := a) (L := c) (k := (q5, q7)) (x := (.tmp 13)) (ix := (.tmp 14)) (dst := (some 15)) (o := 5) K rfl K K K Gg (fun _ => rfl) (SP.get c7 (i := 3) rfl) (Fl b1).1 (Fl b1).2 ?_
   exact eK hkn
  ·rintro ρ' w' hs hah ⟨a7, ⟨f3, f4, -⟩, c8⟩
   refine kM (kc (kA hah 3 13) (kc (kA hah 4 14) k0)) fun hkn => ?_
   refine Cb (T := 77) (kt := 83) (et := 3) (m := a) (L := c) (k := (q5, q7)) (x := (.tmp 13)) (ix := (.tmp 14)) (dst := (some 15)) (o := 5) K rfl K K K Gg (fun _ => rfl) (SP.get c8 (i := 3) rfl) (Fl b1).1 (Fl b1).2 ?_
   exact eK hkn
 ·exact oV (hC (hA 5 15) (h0)) (.int .i64 (IntKind.wrap .i64 ((Ua c (q5, q7)) + 1)))
 ·refine oH 0 1 ?_
  ·rintro ρ' w' hs hah ⟨f5, c9⟩
   refine kM (kc (kA hah 3 13) (kc (kA hah 4 14) k0)) fun hkn => ?_
   refine Fi (T := 77) (kt := 83) (et := 3) (m := a) (L := c) (k := (q5, q7)) (x := (.tmp 13)) (ix := (.tmp 14)) (dst := (some 17)) (o := 7) (i := 3) K rfl K K K Gg (fun _ => rfl) c9 rfl (Fl b2).1 (Fl b2).2 ?_
   intro d0 f6 d1
   refine ⟨_, Qb hkn, trivial, ?_⟩
   exact (Exists.intro d0 (And.intro (And.intro rfl (trivial)) (d1)))
 ·refine oH 1 2 ?_
  ·rintro ρ' w' hs hah ⟨a9, ⟨b5, -⟩, d2⟩
   refine kN [(17, (.tuple #[(.int .i64 (Ua c (q5, q7))), (.int .i64 ((a9 : Nat) : Int))]))] ⟨(Yd (h := 7) K).symm.trans b5, trivial⟩ fun hkn => ?_
   refine Qi.run (k := 8) (v := (.int .i64 ((a9 : Nat) : Int))) K ?_
   refine ⟨_, Qb hkn, trivial, ?_⟩
   exact (Exists.intro a9 (And.intro (And.intro b5 (And.intro rfl (trivial))) (d2)))
 ·refine oH 2 3 ?_
  ·rintro ρ' w' hs hah ⟨a7, ⟨d3, b6, -⟩, d4⟩
   refine kN [(13, (.map (some a))), (18, (.int .i64 ((a7 : Nat) : Int))), (16, (.int .i64 (IntKind.wrap .i64 ((Ua c (q5, q7)) + 1))))] ⟨hah 3 13 K, (Yd (h := 8) K).symm.trans b6, hah 6 16 K, trivial⟩ fun hkn => ?_
   refine Fj (T := 77) (m := a) (L := c) (k := (q5, q7)) (x := (.tmp 13)) (ix := (.tmp 18)) (y := (.tmp 16)) (i := 3) (b := a7) (v := (IntKind.wrap .i64 ((Ua c (q5, q7)) + 1))) (dst := none) (o := 9) K rfl K K K d4 rfl (Fl b2).1 (Fl b2).2 ?_
   rw [hyl137]
   intro f7 d5
   refine ⟨_, Qb hkn, trivial, ?_⟩
   exact (Exists.intro a7 (And.intro (And.intro d3 (And.intro b6 (And.intro rfl (trivial)))) (d5)))
 ·rintro ρ' w' hs hf ⟨b4, ⟨f8, f9, g0, -⟩, b7⟩
  refine Vs [(3, (pt f 0)), (4, (pt j 0)), (6, (pt p 0))] ⟨(hs 3 K).trans K, (hs 4 K).trans K, (hs 6 K).trans K, trivial⟩ ?_
  obtain ⟨g1, d6⟩ : ∃ x, w' = x := ⟨_, rfl⟩
  rw [d6] at b7 ⊢
  obtain ⟨b8, H⟩ := Zd H
  refine aG [GEq (pt g8 0), GEq (pt g8 0), GEq (pt g8 5), GEq (.map (some a)), GEq (.agg (Qa V9 ([q5, q7] : List (List UInt8))).toArray), GEq (.int .i64 (Ua s (q5, q7))), GEq (.bool ((Ua s (q5, q7)) == 1)), Cg] [7] [sG [] [] S w0 [Qo g4 9 #[(.string ⟨List.toArray q5⟩)], Qo g6 9 #[(.string ⟨List.toArray q7⟩)], Qo g8 79 #[(.int .i64 q9), (.int .i64 a4), (.int .i64 a5), (.int .i64 a6), (.slice u (List.length (List.map stT q)) a0), (.map (some a))], Vf a s, Qo f 29 #[(pt g8 0)], Qo j 4 #[(.bool a8)], Qo b0 48 #[(.string ⟨List.toArray a1⟩), (.string ⟨List.toArray a2⟩), (.int .i64 a3)], Vq 83 V9 p 2 ([q5, q7] : List (List UInt8))], sG [7] [undef] S w0 [Qo g4 9 #[(.string ⟨List.toArray q5⟩)], Qo g6 9 #[(.string ⟨List.toArray q7⟩)], Qo g8 79 #[(.int .i64 q9), (.int .i64 a4), (.int .i64 a5), (.int .i64 a6), (.slice u (List.length (List.map stT q)) a0), (.map (some a))], Vf a s, Qo f 29 #[(pt g8 0)], Qo j 4 #[(.bool ((Ua s (q5, q7)) == 1))], Qo b0 48 #[(.string ⟨List.toArray a1⟩), (.string ⟨List.toArray a2⟩), (.int .i64 a3)], Vq 83 V9 p 2 ([q5, q7] : List (List UInt8))]] 8 1 ⟨trivial, SP.drew b7⟩ ?_ ?_
  iterate 8 refine And.intro ?_ ?_
  exact trivial
  ·refine oL 0 ?_
   ·rintro ρ' w' hs hah ⟨g2, d7⟩
    refine kM (kc (kS hs 3 (pt f 0)) k0) fun hkn => ?_
    refine sL 29 3 f 0 4 (pt g8 0) 19 d7 rfl ?_
    exact eK hkn
  ·exact oV (hC (hA 0 19) (h0)) (pt g8 0)
  ·exact oV (hC (hA 1 20) (h0)) (pt g8 5)
  ·refine oL 0 ?_
   ·rintro ρ' w' hs hah ⟨g3, d8⟩
    refine kM (kc (kA hah 2 21) k0) fun hkn => ?_
    refine sL 77 21 g8 5 2 (.map (some a)) 22 d8 rfl ?_
    exact eK hkn
  ·refine oL 0 ?_
   ·rintro ρ' w' hs hah ⟨g5, d9⟩
    refine kM (kc (kS hs 6 (pt p 0)) k0) fun hkn => ?_
    refine V8 (e := V9) (l := ([q5, q7] : List (List UInt8))) (m := 2) (t := 83) (x := (.tmp 6)) (g := p) (i := 7) (d := (some 23)) (k := 4) K rfl K d9 rfl K K ?_
    exact eK hkn
  ·refine oL 0 ?_
   ·rintro ρ' w' hs hah ⟨g7, e0⟩
    refine kM (kc (kA hah 3 22) (kc (kA hah 4 23) k0)) fun hkn => ?_
    refine Re (T := 77) (kt := 83) (et := 3) (m := a) (L := s) (k := (q5, q7)) (x := (.tmp 22)) (ix := (.tmp 23)) (dst := (some 24)) (o := 5) K rfl K K K Gg (fun _ => rfl) (SP.get e0 (i := 3) rfl) (Fl b8).1 (Fl b8).2 ?_
    exact eK hkn
  ·exact oV (hC (hA 5 24) (h0)) (.bool ((Ua s (q5, q7)) == 1))
  ·refine oH 0 1 ?_
   ·rintro ρ' w' hs hah ⟨g9, e1⟩
    refine kM (kc (kS hs 4 (pt j 0)) (kc (kA hah 6 25) k0)) fun hkn => ?_
    refine Qi.store (t := 4) (x := (.tmp 4)) (y := (.tmp 25)) (g := j) (off := 0) (i := 5) (v := (.bool ((Ua s (q5, q7)) == 1))) (cs' := #[(.bool ((Ua s (q5, q7)) == 1))]) (d := none) (k := 7) K rfl K K e1 rfl K ?_
    intro h1 e2
    refine ⟨_, Qb hkn, trivial, ?_⟩
    exact (And.intro (And.intro rfl (trivial)) (e2))
  ·rintro ρ' w' hs hf ⟨⟨h2, -⟩, b9⟩
   refine Vs [] trivial ?_
   obtain ⟨h3, e3⟩ : ∃ x, w' = x := ⟨_, rfl⟩
   rw [e3] at b9 ⊢
   refine ⟨(.tuple #[]), K, ?_⟩
   obtain rfl := Qg H
   exact ⟨rfl, SP.sel b9 [0,1,2,3,4,5] rfl rfl⟩
def Zu (a : Bool) : Option (Bool) :=
  (some (a))
def Yl (f : (List UInt8)) (g : (List UInt8)) (c : Int) (q5 : Int) (q6 : Int) (q7 : Int) (q8 : Int) (q9 : (List Qd)) (d : Yi) (a : (List UInt8)) (b : (List UInt8)) (e : Int) (h : Bool) : Option (Bool) :=
  ((chk (Nat.ble (List.length a) 140737488355328 && Nat.ble (List.length b) 140737488355328)).bind fun _ => (cond ((Ua d (a, b)) == 0) (Zu (decide (e < c))) (Zu false)))
set_option maxRecDepth 100000 in
set_option maxHeartbeats 4000000 in
theorem Nl {S : List Nat} (g4 : Nat) (a3 : Option Addr) (a4 : Nat) (f : Nat) (q : Nat) (s : Nat) (u : Nat) (a0 : Nat) (z : Nat) (a5 : (List UInt8)) (a6 : (List UInt8)) (j : Int) (q5 : Int) (q6 : Int) (q7 : Int) (q8 : Int) (a1 : (List Q6)) (c : Yi) (a : (List UInt8)) (b : (List UInt8)) (h : Int) (a7 : Bool) (w0 : World) (hO : SP S w0 w0 [Qo g4 79 #[(.int .i64 q5), (.int .i64 q6), (.int .i64 q7), (.int .i64 q8), (.slice a3 (List.length (List.map stT a1)) a4), (.map (some f))], Vf f c, Qo q 29 #[(pt g4 0)], Qo s 9 #[(.string ⟨List.toArray a⟩)], Qo u 9 #[(.string ⟨List.toArray b⟩)], Qo a0 2 #[(.int .i64 h)], Qo z 4 #[(.bool a7)]]) (d5 : ∀ w, Mod S w0 w → (dDS J9 Bb).ok w (a3, a4, a1)) (r : (Bool)) (H : Yl a5 a6 j q5 q6 q7 q8 (List.map stT a1) c a b h a7 = some r) :
  Calls Tryz.prog 49 #[(.agg #[(.string ⟨List.toArray a5⟩), (.string ⟨List.toArray a6⟩), (.int .i64 j)]), (pt q 0), (pt s 0), (pt u 0), (pt a0 0), (pt z 0)] w0 (fun e w' => e = .returned (.tuple #[]) ∧ SP S w0 w' [Qo g4 79 #[(.int .i64 q5), (.int .i64 q6), (.int .i64 q7), (.int .i64 q8), (.slice a3 (List.length (List.map stT a1)) a4), (.map (some f))], Vf f c, Qo q 29 #[(pt g4 0)], Qo s 9 #[(.string ⟨List.toArray a⟩)], Qo u 9 #[(.string ⟨List.toArray b⟩)], Qo a0 2 #[(.int .i64 h)], Qo z 4 #[(.bool r)]]) := by
 unfold Yl at H
 refine Qu (n := 22) Tryz.func49 K K K ?_
 have b4 := hO
 refine aQ ?_
 refine aR ?_
 refine iS 1 ?_
 refine Vn (t := 48) (x := (.tmp 0)) (v := (.agg #[(.string ⟨List.toArray a5⟩), (.string ⟨List.toArray a6⟩), (.int .i64 j)])) (d := (some 6)) (k := 0) K rfl K b4 ?_
 intro a2 d6 b1
 refine iF ?_
 refine At.join (fun ρ w => ∃ (a9 : Bool), Zk ρ [] ∧ SP S w0 w [Qo g4 79 #[(.int .i64 q5), (.int .i64 q6), (.int .i64 q7), (.int .i64 q8), (.slice a3 (List.length (List.map stT a1)) a4), (.map (some f))], Vf f c, Qo q 29 #[(pt g4 0)], Qo s 9 #[(.string ⟨List.toArray a⟩)], Qo u 9 #[(.string ⟨List.toArray b⟩)], Qo a0 2 #[(.int .i64 h)], Qo z 4 #[(.bool a9)]] ∧ Zu a9 = some r) ?_ ?_
 ·obtain ⟨a8, H⟩ := Zd H
  rcases Bool.eq_false_or_eq_true ((Ua c (a, b)) == 0) with p | p
  ·have H := ct H p
   refine aG [GEq (pt g4 0), GEq (pt g4 0), GEq (pt g4 5), GEq (.map (some f)), GEq (.string ⟨List.toArray a⟩), GEq (.string ⟨List.toArray b⟩), GEq (.agg (Qa V9 ([a, b] : List (List UInt8))).toArray), GEq (.int .i64 (Ua c (a, b))), GEq (.bool ((Ua c (a, b)) == 0)), GEq (.bool ((Ua c (a, b)) == 0)), GEq (.int .i64 h), GEq (pt a2 2), GEq (.int .i64 j), GEq (.bool (decide (h < j))), GEq (.bool (decide (h < j))), Cg] [15] [sG [] [] S w0 [Qo g4 79 #[(.int .i64 q5), (.int .i64 q6), (.int .i64 q7), (.int .i64 q8), (.slice a3 (List.length (List.map stT a1)) a4), (.map (some f))], Vf f c, Qo q 29 #[(pt g4 0)], Qo s 9 #[(.string ⟨List.toArray a⟩)], Qo u 9 #[(.string ⟨List.toArray b⟩)], Qo a0 2 #[(.int .i64 h)], Qo z 4 #[(.bool a7)], Qo a2 48 #[(.string ⟨List.toArray a5⟩), (.string ⟨List.toArray a6⟩), (.int .i64 j)]], sG [15] [undef] S w0 [Qo g4 79 #[(.int .i64 q5), (.int .i64 q6), (.int .i64 q7), (.int .i64 q8), (.slice a3 (List.length (List.map stT a1)) a4), (.map (some f))], Vf f c, Qo q 29 #[(pt g4 0)], Qo s 9 #[(.string ⟨List.toArray a⟩)], Qo u 9 #[(.string ⟨List.toArray b⟩)], Qo a0 2 #[(.int .i64 h)], Qo z 4 #[(.bool (decide (h < j)))], Qo a2 48 #[(.string ⟨List.toArray a5⟩), (.string ⟨List.toArray a6⟩), (.int .i64 j)]]] 16 1 ⟨trivial, SP.drew b1⟩ ?_ ?_
   iterate 16 refine And.intro ?_ ?_
   exact trivial
   ·refine oL 0 ?_
    ·rintro ρ' w' hs hah ⟨d7, b5⟩
     refine kM (kc (kS hs 1 (pt q 0)) k0) fun hkn => ?_
     refine sL 29 1 q 0 2 (pt g4 0) 7 b5 rfl ?_
     exact eK hkn
   ·exact oV (hC (hA 0 7) (h0)) (pt g4 0)
   ·exact oV (hC (hA 1 8) (h0)) (pt g4 5)
   ·refine oL 0 ?_
    ·rintro ρ' w' hs hah ⟨d8, b6⟩
     refine kM (kc (kA hah 2 9) k0) fun hkn => ?_
     refine sL 77 9 g4 5 0 (.map (some f)) 10 b6 rfl ?_
     exact eK hkn
   ·refine oL 0 ?_
    ·rintro ρ' w' hs hah ⟨d9, b7⟩
     refine kM (kc (kS hs 2 (pt s 0)) k0) fun hkn => ?_
     refine sL 9 2 s 0 3 (.string ⟨List.toArray a⟩) 11 b7 rfl ?_
     exact eK hkn
   ·refine oL 0 ?_
    ·rintro ρ' w' hs hah ⟨e0, b8⟩
     refine kM (kc (kS hs 3 (pt u 0)) k0) fun hkn => ?_
     refine sL 9 3 u 0 4 (.string ⟨List.toArray b⟩) 12 b8 rfl ?_
     exact eK hkn
   ·exact oV (hC (hA 4 11) (hC (hA 5 12) (h0))) (.agg (Qa V9 ([a, b] : List (List UInt8))).toArray)
   ·refine oL 0 ?_
    ·rintro ρ' w' hs hah ⟨e1, b9⟩
     refine kM (kc (kA hah 3 10) (kc (kA hah 6 13) k0)) fun hkn => ?_
     refine Re (T := 77) (kt := 83) (et := 3) (m := f) (L := c) (k := (a, b)) (x := (.tmp 10)) (ix := (.tmp 13)) (dst := (some 14)) (o := 7) K rfl K K K Gg (fun _ => rfl) (SP.get b9 (i := 1) rfl) (Fl a8).1 (Fl a8).2 ?_
     exact eK hkn
   ·exact oV (hC (hA 7 14) (h0)) (.bool ((Ua c (a, b)) == 0))
   ·exact oV (hC (hA 8 15) (h0)) (.bool ((Ua c (a, b)) == 0))
   ·refine oL 0 ?_
    ·rintro ρ' w' hs hah ⟨e2, c0⟩
     have e4 : ρ' 4 = (pt a0 0) := (hs 4 K).trans K
     have b0 := hah 9 16 K
     refine kN [(4, (pt a0 0)), (16, (.bool true))] ⟨e4, (Eq.trans b0 (congrArg Value.bool p)), trivial⟩ fun hkn => ?_
     refine sL 2 4 a0 0 5 (.int .i64 h) 17 c0 rfl ?_
     exact eK hkn
   ·exact oV (hC (hS 6 (pt a2 0)) (hC (hB 9 16 p) (h0))) (pt a2 2)
   ·refine oL 0 ?_
    ·rintro ρ' w' hs hah ⟨e3, c1⟩
     have c2 := hah 11 18 K
     have b0 := hah 9 16 K
     refine kN [(18, (pt a2 2)), (16, (.bool true))] ⟨c2, (Eq.trans b0 (congrArg Value.bool p)), trivial⟩ fun hkn => ?_
     refine sL 2 18 a2 2 7 (.int .i64 j) 19 c1 rfl ?_
     exact eK hkn
   ·exact oV (hC (hA 10 17) (hC (hA 12 19) (hC (hB 9 16 p) (h0)))) (.bool (decide (h < j)))
   ·exact oV (hC (hB 9 16 p) (hC (hA 13 20) (h0))) (.bool (decide (h < j)))
   ·refine oH 0 1 ?_
    ·rintro ρ' w' hs hah ⟨e5, c3⟩
     refine kM (kc (kS hs 5 (pt z 0)) (kc (kA hah 14 21) k0)) fun hkn => ?_
     refine Qi.store (t := 4) (x := (.tmp 5)) (y := (.tmp 21)) (g := z) (off := 0) (i := 6) (v := (.bool (decide (h < j)))) (cs' := #[(.bool (decide (h < j)))]) (d := none) (k := 15) K rfl K K c3 rfl K ?_
     intro e6 c4
     refine ⟨_, Qb hkn, trivial, ?_⟩
     exact (And.intro (And.intro rfl (trivial)) (c4))
   ·rintro ρ' w' hs hf ⟨⟨e7, -⟩, b2⟩
    refine Vs [] trivial ?_
    obtain ⟨e8, c5⟩ : ∃ x, w' = x := ⟨_, rfl⟩
    rw [c5] at b2 ⊢
    exact ⟨(decide (h < j)), trivial, SP.sel b2 [0, 1, 2, 3, 4, 5, 6] rfl rfl, H⟩
  ·have H := cf H p
   refine aG [GEq (pt g4 0), GEq (pt g4 0), GEq (pt g4 5), GEq (.map (some f)), GEq (.string ⟨List.toArray a⟩), GEq (.string ⟨List.toArray b⟩), GEq (.agg (Qa V9 ([a, b] : List (List UInt8))).toArray), GEq (.int .i64 (Ua c (a, b))), GEq (.bool ((Ua c (a, b)) == 0)), GEq (.bool ((Ua c (a, b)) == 0)), GEq undef, GEq undef, GEq undef, GEq undef, GEq (.bool false), Cg] [15] [sG [] [] S w0 [Qo g4 79 #[(.int .i64 q5), (.int .i64 q6), (.int .i64 q7), (.int .i64 q8), (.slice a3 (List.length (List.map stT a1)) a4), (.map (some f))], Vf f c, Qo q 29 #[(pt g4 0)], Qo s 9 #[(.string ⟨List.toArray a⟩)], Qo u 9 #[(.string ⟨List.toArray b⟩)], Qo a0 2 #[(.int .i64 h)], Qo z 4 #[(.bool a7)], Qo a2 48 #[(.string ⟨List.toArray a5⟩), (.string ⟨List.toArray a6⟩), (.int .i64 j)]], sG [15] [undef] S w0 [Qo g4 79 #[(.int .i64 q5), (.int .i64 q6), (.int .i64 q7), (.int .i64 q8), (.slice a3 (List.length (List.map stT a1)) a4), (.map (some f))], Vf f c, Qo q 29 #[(pt g4 0)], Qo s 9 #[(.string ⟨List.toArray a⟩)], Qo u 9 #[(.string ⟨List.toArray b⟩)], Qo a0 2 #[(.int .i64 h)], Qo z 4 #[(.bool false)], Qo a2 48 #[(.string ⟨List.toArray a5⟩), (.string ⟨List.toArray a6⟩), (.int .i64 j)]]] 16 1 ⟨trivial, SP.drew b1⟩ ?_ ?_
   iterate 16 refine And.intro ?_ ?_
   exact trivial
   ·refine oL 0 ?_
    ·rintro ρ' w' hs hah ⟨e9, c6⟩
     refine kM (kc (kS hs 1 (pt q 0)) k0) fun hkn => ?_
     refine sL 29 1 q 0 2 (pt g4 0) 7 c6 rfl ?_
     exact eK hkn
   ·exact oV (hC (hA 0 7) (h0)) (pt g4 0)
   ·exact oV (hC (hA 1 8) (h0)) (pt g4 5)
   ·refine oL 0 ?_
    ·rintro ρ' w' hs hah ⟨f0, c7⟩
     refine kM (kc (kA hah 2 9) k0) fun hkn => ?_
     refine sL 77 9 g4 5 0 (.map (some f)) 10 c7 rfl ?_
     exact eK hkn
   ·refine oL 0 ?_
    ·rintro ρ' w' hs hah ⟨f1, c8⟩
     refine kM (kc (kS hs 2 (pt s 0)) k0) fun hkn => ?_
     refine sL 9 2 s 0 3 (.string ⟨List.toArray a⟩) 11 c8 rfl ?_
     exact eK hkn
   ·refine oL 0 ?_
    ·rintro ρ' w' hs hah ⟨f2, c9⟩
     refine kM (kc (kS hs 3 (pt u 0)) k0) fun hkn => ?_
     refine sL 9 3 u 0 4 (.string ⟨List.toArray b⟩) 12 c9 rfl ?_
     exact eK hkn
   ·exact oV (hC (hA 4 11) (hC (hA 5 12) (h0))) (.agg (Qa V9 ([a, b] : List (List UInt8))).toArray)
   ·refine oL 0 ?_
    ·rintro ρ' w' hs hah ⟨f3, d0⟩
     refine kM (kc (kA hah 3 10) (kc (kA hah 6 13) k0)) fun hkn => ?_
     refine Re (T := 77) (kt := 83) (et := 3) (m := f) (L := c) (k := (a, b)) (x := (.tmp 10)) (ix := (.tmp 13)) (dst := (some 14)) (o := 7) K rfl K K K Gg (fun _ => rfl) (SP.get d0 (i := 1) rfl) (Fl a8).1 (Fl a8).2 ?_
     exact eK hkn
   ·exact oV (hC (hA 7 14) (h0)) (.bool ((Ua c (a, b)) == 0))
   ·exact oV (hC (hA 8 15) (h0)) (.bool ((Ua c (a, b)) == 0))
   ·exact oW (hC (hB 9 16 p) (h0)) 17
   ·exact oW (hC (hB 9 16 p) (h0)) 18
   ·exact oW (hC (hB 9 16 p) (h0)) 19
   ·exact oW (hC (hB 9 16 p) (h0)) 20
   ·exact oV (hC (hB 9 16 p) (hC (hA 13 20) (h0))) (.bool false)
   ·refine oH 0 1 ?_
    ·rintro ρ' w' hs hah ⟨f4, d1⟩
     refine kM (kc (kS hs 5 (pt z 0)) (kc (kA hah 14 21) k0)) fun hkn => ?_
     refine Qi.store (t := 4) (x := (.tmp 5)) (y := (.tmp 21)) (g := z) (off := 0) (i := 6) (v := (.bool false)) (cs' := #[(.bool false)]) (d := none) (k := 15) K rfl K K d1 rfl K ?_
     intro f5 d2
     refine ⟨_, Qb hkn, trivial, ?_⟩
     exact (And.intro (And.intro rfl (trivial)) (d2))
   ·rintro ρ' w' hs hf ⟨⟨f6, -⟩, b3⟩
    refine Vs [] trivial ?_
    obtain ⟨f7, d3⟩ : ∃ x, w' = x := ⟨_, rfl⟩
    rw [d3] at b3 ⊢
    exact ⟨false, trivial, SP.sel b3 [0, 1, 2, 3, 4, 5, 6] rfl rfl, H⟩
 ·rintro ρ f8 ⟨a9, hk, d4, H⟩
  unfold Zu at H
  first | refine At.known [] hk ?_ | rw [← Q9 (l := []) hk]
  refine ⟨(.tuple #[]), K, ?_⟩
  obtain rfl := Qg H
  exact ⟨rfl, SP.sel d4 [0,1,2,3,4,5,6] rfl rfl⟩
def Ym (c : (List UInt8)) (a : (List UInt8)) (d : Int) (q5 : (List UInt8)) (q7 : (List UInt8)) (q9 : (List UInt8)) (e : (List UInt8)) : Option ((List UInt8)) :=
  ((chk (Nat.ble (List.length a) 281474976710656)).bind fun _ => ((Ge a ([q5, q7, q9] : List (List UInt8))).bind fun b => (some (b))))
set_option maxRecDepth 100000 in
set_option maxHeartbeats 4000000 in
theorem Nm {S : List Nat} (g4 : Nat) (g6 : Nat) (g8 : Nat) (b : Nat) (c : (List UInt8)) (a : (List UInt8)) (f : Int) (q5 : (List UInt8)) (q7 : (List UInt8)) (q9 : (List UInt8)) (j : (List UInt8)) (w0 : World) (hO : SP S w0 w0 [Qo g4 9 #[(.string ⟨List.toArray q5⟩)], Qo g6 9 #[(.string ⟨List.toArray q7⟩)], Qo g8 9 #[(.string ⟨List.toArray q9⟩)], Qo b 9 #[(.string ⟨List.toArray j⟩)]])  (r : ((List UInt8))) (H : Ym c a f q5 q7 q9 j = some r) :
  Calls Tryz.prog 50 #[(.agg #[(.string ⟨List.toArray c⟩), (.string ⟨List.toArray a⟩), (.int .i64 f)]), (pt g4 0), (pt g6 0), (pt g8 0), (pt b 0)] w0 (fun e w' => e = .returned (.tuple #[]) ∧ SP S w0 w' [Qo g4 9 #[(.string ⟨List.toArray q5⟩)], Qo g6 9 #[(.string ⟨List.toArray q7⟩)], Qo g8 9 #[(.string ⟨List.toArray q9⟩)], Qo b 9 #[(.string ⟨List.toArray r⟩)]]) := by
 unfold Ym at H
 refine Qu (n := 14) Tryz.func50 K K K ?_
 have a0 := hO
 refine aQ ?_
 refine aR ?_
 refine iS 1 ?_
 refine Vn (t := 48) (x := (.tmp 0)) (v := (.agg #[(.string ⟨List.toArray c⟩), (.string ⟨List.toArray a⟩), (.int .i64 f)])) (d := (some 5)) (k := 0) K rfl K a0 ?_
 intro m a8 q
 refine iF ?_
 refine aR ?_
 refine iR 1 1 [(6, (pt m 1))] ?_
 refine iS 2 ?_
 refine sL 9 6 m 1 4 (.string ⟨List.toArray a⟩) 7 q rfl ?_
 obtain ⟨a1, H⟩ := Zd H
 refine iS 3 ?_
 refine Gv (S' := 9) (T := 52) (E := 5) (x := (.tmp 7)) (l := a) (d := (some 8)) (k := 2) K rfl K K K K (Gw a1) q ?_
 intro s u a2 w _
 have h : SP S w0 a2 [Qo g4 9 #[(.string ⟨List.toArray q5⟩)], Qo g6 9 #[(.string ⟨List.toArray q7⟩)], Qo g8 9 #[(.string ⟨List.toArray q9⟩)], Qo b 9 #[(.string ⟨List.toArray j⟩)], Qo m 48 #[(.string ⟨List.toArray c⟩), (.string ⟨List.toArray a⟩), (.int .i64 f)], rdE eU8 (some ⟨s, 0, none⟩) u a] := w
 clear w
 refine iS 4 ?_
 refine sL 9 1 g4 0 0 (.string ⟨List.toArray q5⟩) 9 h rfl ?_
 refine iS 5 ?_
 refine sL 9 2 g6 0 1 (.string ⟨List.toArray q7⟩) 10 h rfl ?_
 refine iS 6 ?_
 refine sL 9 3 g8 0 2 (.string ⟨List.toArray q9⟩) 11 h rfl ?_
 refine iS 7 ?_
 refine Ji (e := V9) (T := 53) (E := 9) (len := 3) (parts := #[(0, (.tmp 9)), (1, (.tmp 10)), (2, (.tmp 11))]) (cs := #[(.string ⟨List.toArray q5⟩), (.string ⟨List.toArray q7⟩), (.string ⟨List.toArray q9⟩)]) ([q5, q7, q9] : List (List UInt8)) (d := (some 12)) (k := 6) K rfl (fun _ => K) h rfl rfl rfl rfl ?_
 intro a3 a4 o
 obtain ⟨p, a5, H⟩ := Qc H
 refine iS 8 ?_
 refine cF 51 #[(.tmp 8), (.tmp 12)] #[52, 53] 13 Tryz.call51 (Bj (some ⟨s, 0, none⟩) u (some ⟨a3, 0, none⟩) (List.length ([q5, q7, q9] : List (List UInt8))) a ([q5, q7, q9] : List (List UInt8)) a4 (rdE_rd (SP.get o (i := 5) rfl)) (V7 (SP.get o (i := 6) rfl)) p a5) ?_
 rintro e a9 ⟨rfl, z⟩
 refine ⟨_, rfl, ?_⟩
 have a6 := SP.call o z
 clear z
 refine iS 9 ?_
 refine Qi.store (t := 9) (x := (.tmp 4)) (y := (.tmp 13)) (g := b) (off := 0) (i := 3) (v := (.string ⟨List.toArray p⟩)) (cs' := #[(.string ⟨List.toArray p⟩)]) (d := none) (k := 8) K rfl K K a6 rfl K ?_
 intro b0 a7
 refine iF ?_
 refine ⟨(.tuple #[]), K, ?_⟩
 obtain rfl := Qg H
 exact ⟨rfl, SP.sel a7 [0,1,2,3] rfl rfl⟩
def Vh (a : Int) (b : Int) (c : Int) (d : Int) (e : Yi) (f : Bool) : Option (Int × Int × Int × Int × Yi × Bool) :=
  (some (a, b, c, d, e, f))
def V2 (q2 : Int) (q3 : Int) (q4 : Int) (q5 : Int) (q6 : (List Qd)) (d : Yi) (f : (List UInt8)) (g : (List UInt8)) (h : (List UInt8)) (i : (List UInt8)) (e : Bool) : Option (Int × Int × Int × Int × Yi × Bool) :=
  ((Yw q2 q3 q4 q5 q6 f).bind fun b => ((Yg b.1 b.2.1 b.2.2.1 b.2.2.2.1 b.2.2.2.2.1 g).bind fun c => (cond c.2.2.2 ((X2 c.1 c.2.1 c.2.2.1 h i q2 q3 q4 q5 q6 d e).bind fun a => (Vh a.1 a.2.1 a.2.2.1 a.2.2.2.1 a.2.2.2.2.1 a.2.2.2.2.2)) (Vh q2 q3 q4 q5 d e))))
set_option maxRecDepth 100000 in
set_option maxHeartbeats 4000000 in
theorem Jh {S : List Nat} (g1 : Nat) (A7 : Option Addr) (c8 : Nat) (j : Nat) (p : Nat) (q : Nat) (s : Nat) (u : Nat) (q2 : Int) (q3 : Int) (q4 : Int) (q5 : Int) (m : (List Q6)) (a7 : Yi) (a8 : (List UInt8)) (a9 : (List UInt8)) (a4 : (List UInt8)) (a5 : (List UInt8)) (b0 : Bool) (w0 : World) (hO : SP S w0 w0 [Qo g1 79 #[(.int .i64 q2), (.int .i64 q3), (.int .i64 q4), (.int .i64 q5), (.slice A7 (List.length (List.map stT m)) c8), (.map (some j))], Vf j a7, Qo p 9 #[(.string ⟨List.toArray a4⟩)], Qo q 9 #[(.string ⟨List.toArray a5⟩)], Qo s 29 #[(pt g1 0)], Qo u 4 #[(.bool b0)]]) (c3 : ∀ w, Mod S w0 w → (dDS J9 Bb).ok w (A7, c8, m)) (r : (Int × Int × Int × Int × Yi × Bool)) (H : V2 q2 q3 q4 q5 (List.map stT m) a7 a8 a9 a4 a5 b0 = some r) :
  Calls Tryz.prog 45 #[(pt g1 0), (.string ⟨List.toArray a8⟩), (.string ⟨List.toArray a9⟩), (.func (.func 46) #[] #[(pt p 0), (pt q 0), (pt s 0), (pt u 0)])] w0 (fun e w' => e = .returned (.tuple #[]) ∧ SP S w0 w' [Qo g1 79 #[(.int .i64 r.1), (.int .i64 r.2.1), (.int .i64 r.2.2.1), (.int .i64 r.2.2.2.1), (.slice A7 (List.length (List.map stT m)) c8), (.map (some j))], Vf j r.2.2.2.2.1, Qo p 9 #[(.string ⟨List.toArray a4⟩)], Qo q 9 #[(.string ⟨List.toArray a5⟩)], Qo s 29 #[(pt g1 0)], Qo u 4 #[(.bool r.2.2.2.2.2)]]) := by
 unfold V2 at H
 refine Qu (n := 31) Tryz.func45 K K K ?_
 have b2 := hO
 refine aQ ?_
 refine aR ?_
 refine iR 3 3 [(13, (pt g1 0)), (14, (pt g1 0)), (15, (pt g1 0))] ?_
 refine iS 4 ?_
 refine sL 24 15 g1 0 0 (.agg #[(.int .i64 q2), (.int .i64 q3), (.int .i64 q4), (.int .i64 q5), (.slice A7 (List.length (List.map stT m)) c8)]) 16 b2 rfl ?_
 refine iR 1 5 [(17, (.string ⟨List.toArray a8⟩))] ?_
 obtain ⟨a, c7, H⟩ := Qc H
 refine iS 6 ?_
 refine cF 67 #[(.tmp 16), (.tmp 17)] #[24, 9] 18 Tryz.call67 (Ug (R := fun w => Mod S w0 w) A7 c8 q2 q3 q4 q5 m a8 w0 (fun w hb => C9 b2 hb) c3 a c7) ?_
 rintro e e1 ⟨a0, a1, a2, a3, rfl, c9, d0, c4⟩
 refine ⟨_, rfl, ?_⟩
 have d1 := SP.call b2 c4
 clear c4
 refine iR 3 9 [(12, (.tuple #[(.agg #[(.string ⟨List.toArray a.1⟩), (.int .i64 a.2.1), (.int .i64 a.2.2.1), (.slice a0 (List.length a.2.2.2.1) a1), (.slice a2 (List.length a.2.2.2.2.1) a3)]), (.bool a.2.2.2.2.2)])), (19, (.agg #[(.string ⟨List.toArray a.1⟩), (.int .i64 a.2.1), (.int .i64 a.2.2.1), (.slice a0 (List.length a.2.2.2.1) a1), (.slice a2 (List.length a.2.2.2.2.1) a3)])), (20, (.bool a.2.2.2.2.2))] ?_
 refine iS 10 ?_
 refine Qi.alloc (t := 44) (z := (.agg #[(.string ⟨List.toArray ([] : List UInt8)⟩), (.int .i64 0), (.int .i64 0), (.slice none (List.length ([] : List (Int × Int))) 0), (.slice none (List.length ([] : List ((List UInt8) × (List UInt8) × Int))) 0)])) (d := (some 8)) (k := 9) K rfl K d1 ?_
 intro b3 e2 d2
 refine iS 11 ?_
 refine Qi.store (t := 44) (x := (.tmp 8)) (y := (.tmp 19)) (g := b3) (off := 0) (i := 6) (v := (.agg #[(.string ⟨List.toArray a.1⟩), (.int .i64 a.2.1), (.int .i64 a.2.2.1), (.slice a0 (List.length a.2.2.2.1) a1), (.slice a2 (List.length a.2.2.2.2.1) a3)])) (cs' := #[(.string ⟨List.toArray a.1⟩), (.int .i64 a.2.1), (.int .i64 a.2.2.1), (.slice a0 (List.length a.2.2.2.1) a1), (.slice a2 (List.length a.2.2.2.2.1) a3)]) (d := none) (k := 10) K rfl K K d2 rfl K ?_
 intro b4 b1
 refine iR 1 12 [(9, (.bool a.2.2.2.2.2))] ?_
 refine iF ?_
 refine aQ ?_
 refine aR ?_
 refine iS 1 ?_
 refine sL 44 8 b3 0 6 (.agg #[(.string ⟨List.toArray a.1⟩), (.int .i64 a.2.1), (.int .i64 a.2.2.1), (.slice a0 (List.length a.2.2.2.1) a1), (.slice a2 (List.length a.2.2.2.2.1) a3)]) 22 b1 rfl ?_
 refine iR 1 2 [(23, (.string ⟨List.toArray a9⟩))] ?_
 obtain ⟨c, d3, H⟩ := Qc H
 refine iS 3 ?_
 refine cF 68 #[(.tmp 22), (.tmp 23)] #[44, 9] 24 Tryz.call68 (J4 a0 a1 a2 a3 a.1 a.2.1 a.2.2.1 a.2.2.2.1 a.2.2.2.2.1 a9 b4 (c9 b4 (SP.mod b1)) (d0 b4 (SP.mod b1)) c d3) ?_
 rintro e e3 ⟨rfl, c5⟩
 refine ⟨_, rfl, ?_⟩
 have d4 := SP.call b1 c5
 clear c5
 refine iR 3 6 [(21, (.tuple #[(.agg #[(.string ⟨List.toArray c.1⟩), (.string ⟨List.toArray c.2.1⟩), (.int .i64 c.2.2.1)]), (.bool c.2.2.2)])), (25, (.agg #[(.string ⟨List.toArray c.1⟩), (.string ⟨List.toArray c.2.1⟩), (.int .i64 c.2.2.1)])), (26, (.bool c.2.2.2))] ?_
 refine iS 7 ?_
 refine Qi.alloc (t := 48) (z := (.agg #[(.string ⟨List.toArray ([] : List UInt8)⟩), (.string ⟨List.toArray ([] : List UInt8)⟩), (.int .i64 0)])) (d := (some 10)) (k := 6) K rfl K d4 ?_
 intro b5 e4 d5
 refine iS 8 ?_
 refine Qi.store (t := 48) (x := (.tmp 10)) (y := (.tmp 25)) (g := b5) (off := 0) (i := 7) (v := (.agg #[(.string ⟨List.toArray c.1⟩), (.string ⟨List.toArray c.2.1⟩), (.int .i64 c.2.2.1)])) (cs' := #[(.string ⟨List.toArray c.1⟩), (.string ⟨List.toArray c.2.1⟩), (.int .i64 c.2.2.1)]) (d := none) (k := 7) K rfl K K d5 rfl K ?_
 intro d6 a6
 refine iR 1 9 [(11, (.bool c.2.2.2))] ?_
 refine iF ?_
 refine aQ ?_
 refine aR ?_
 refine iR 1 1 [(27, (.bool c.2.2.2))] ?_
 refine iF ?_
 refine At.join (fun ρ w => ∃ (b6 : Int) (b7 : Int) (b8 : Int) (b9 : Int) (c0 : Yi) (c1 : Bool), Zk ρ [] ∧ SP S w0 w [Qo g1 79 #[(.int .i64 b6), (.int .i64 b7), (.int .i64 b8), (.int .i64 b9), (.slice A7 (List.length (List.map stT m)) c8), (.map (some j))], Vf j c0, Qo p 9 #[(.string ⟨List.toArray a4⟩)], Qo q 9 #[(.string ⟨List.toArray a5⟩)], Qo s 29 #[(pt g1 0)], Qo u 4 #[(.bool c1)]] ∧ Vh b6 b7 b8 b9 c0 c1 = some r) ?_ ?_
 ·refine Zq K (o := (.tmp 27)) K (b := c.2.2.2) K (fun c2 => ?_) (fun c2 => ?_)
  ·have H := ct H c2
   refine aR ?_
   refine iR 1 1 [(28, (.func (.func 46) #[] #[(pt p 0), (pt q 0), (pt s 0), (pt u 0)]))] ?_
   refine iS 2 ?_
   refine sL 48 10 b5 0 7 (.agg #[(.string ⟨List.toArray c.1⟩), (.string ⟨List.toArray c.2.1⟩), (.int .i64 c.2.2.1)]) 29 a6 rfl ?_
   obtain ⟨h, d7, H⟩ := Qc H
   refine iS 3 ?_
   refine Z3 (f := 46) (fo := (.tmp 28)) (xs := #[(.tmp 29)]) (tys := #[48]) (first := #[]) (captured := #[(pt p 0), (pt q 0), (pt s 0), (pt u 0)]) (d := (some 30)) (k := 2) K rfl K K Tryz.call46 (Nd p q g1 A7 c8 j s u c.1 c.2.1 c.2.2.1 a4 a5 q2 q3 q4 q5 m a7 b0 d6 (Xs a6 [2, 3, 0, 1, 4, 5] rfl rfl) (fun w hm => c3 w (SP.through a6 (l := [2, 3, 0, 1, 4, 5]) rfl hm)) h d7) ?_
   rintro e d8 ⟨rfl, c6⟩
   refine ⟨_, rfl, ?_⟩
   have d9 : SP S w0 d8 [Qo b3 44 #[(.string ⟨List.toArray a.1⟩), (.int .i64 a.2.1), (.int .i64 a.2.2.1), (.slice a0 (List.length a.2.2.2.1) a1), (.slice a2 (List.length a.2.2.2.2.1) a3)], Qo b5 48 #[(.string ⟨List.toArray c.1⟩), (.string ⟨List.toArray c.2.1⟩), (.int .i64 c.2.2.1)], Qo p 9 #[(.string ⟨List.toArray a4⟩)], Qo q 9 #[(.string ⟨List.toArray a5⟩)], Qo g1 79 #[(.int .i64 h.1), (.int .i64 h.2.1), (.int .i64 h.2.2.1), (.int .i64 h.2.2.2.1), (.slice A7 (List.length (List.map stT m)) c8), (.map (some j))], Vf j h.2.2.2.2.1, Qo s 29 #[(pt g1 0)], Qo u 4 #[(.bool h.2.2.2.2.2)]] := Vv a6 [2, 3, 0, 1, 4, 5] [6, 7] rfl rfl c6 rfl
   clear c6
   refine iF ?_
   exact ⟨h.1, h.2.1, h.2.2.1, h.2.2.2.1, h.2.2.2.2.1, h.2.2.2.2.2, trivial, SP.sel d9 [4, 5, 2, 3, 6, 7] rfl rfl, H⟩
  ·have H := cf H c2
   refine At.skip K ?_
   exact ⟨q2, q3, q4, q5, a7, b0, trivial, SP.sel a6 [0, 1, 2, 3, 4, 5] rfl rfl, H⟩
 ·rintro ρ e5 ⟨b6, b7, b8, b9, c0, c1, hk, e0, H⟩
  unfold Vh at H
  first | refine At.known [] hk ?_ | rw [← Q9 (l := []) hk]
  refine ⟨(.tuple #[]), K, ?_⟩
  obtain rfl := Qg H
  exact ⟨rfl, SP.sel e0 [0,1,2,3,4,5] rfl rfl⟩
def Vl (a : Bool) : Option (Bool) :=
  (some (a))
def Za (q2 : Int) (q3 : Int) (q4 : Int) (q5 : Int) (q6 : (List Qd)) (d : Yi) (e : (List UInt8)) (f : (List UInt8)) (g : (List UInt8)) (h : (List UInt8)) (i : Int) (c : Bool) : Option (Bool) :=
  ((Yw q2 q3 q4 q5 q6 e).bind fun a => ((Yg a.1 a.2.1 a.2.2.1 a.2.2.2.1 a.2.2.2.2.1 f).bind fun b => (cond b.2.2.2 ((Yl b.1 b.2.1 b.2.2.1 q2 q3 q4 q5 q6 d g h i c).bind fun j => (Vl j)) (Vl c))))
set_option maxRecDepth 100000 in
set_option maxHeartbeats 4000000 in
theorem Jp {S : List Nat} (g1 : Nat) (A7 : Option Addr) (c8 : Nat) (h : Nat) (m : Nat) (p : Nat) (q : Nat) (s : Nat) (u : Nat) (q2 : Int) (q3 : Int) (q4 : Int) (q5 : Int) (j : (List Q6)) (a4 : Yi) (a9 : (List UInt8)) (b0 : (List UInt8)) (a5 : (List UInt8)) (a6 : (List UInt8)) (a7 : Int) (b1 : Bool) (w0 : World) (hO : SP S w0 w0 [Qo g1 79 #[(.int .i64 q2), (.int .i64 q3), (.int .i64 q4), (.int .i64 q5), (.slice A7 (List.length (List.map stT j)) c8), (.map (some h))], Vf h a4, Qo m 29 #[(pt g1 0)], Qo p 9 #[(.string ⟨List.toArray a5⟩)], Qo q 9 #[(.string ⟨List.toArray a6⟩)], Qo s 2 #[(.int .i64 a7)], Qo u 4 #[(.bool b1)]]) (c0 : ∀ w, Mod S w0 w → (dDS J9 Bb).ok w (A7, c8, j)) (r : (Bool)) (H : Za q2 q3 q4 q5 (List.map stT j) a4 a9 b0 a5 a6 a7 b1 = some r) :
  Calls Tryz.prog 45 #[(pt g1 0), (.string ⟨List.toArray a9⟩), (.string ⟨List.toArray b0⟩), (.func (.func 49) #[] #[(pt m 0), (pt p 0), (pt q 0), (pt s 0), (pt u 0)])] w0 (fun e w' => e = .returned (.tuple #[]) ∧ SP S w0 w' [Qo g1 79 #[(.int .i64 q2), (.int .i64 q3), (.int .i64 q4), (.int .i64 q5), (.slice A7 (List.length (List.map stT j)) c8), (.map (some h))], Vf h a4, Qo m 29 #[(pt g1 0)], Qo p 9 #[(.string ⟨List.toArray a5⟩)], Qo q 9 #[(.string ⟨List.toArray a6⟩)], Qo s 2 #[(.int .i64 a7)], Qo u 4 #[(.bool r)]]) := by
 unfold Za at H
 refine Qu (n := 31) Tryz.func45 K K K ?_
 have b3 := hO
 refine aQ ?_
 refine aR ?_
 refine iR 3 3 [(13, (pt g1 0)), (14, (pt g1 0)), (15, (pt g1 0))] ?_
 refine iS 4 ?_
 refine sL 24 15 g1 0 0 (.agg #[(.int .i64 q2), (.int .i64 q3), (.int .i64 q4), (.int .i64 q5), (.slice A7 (List.length (List.map stT j)) c8)]) 16 b3 rfl ?_
 refine iR 1 5 [(17, (.string ⟨List.toArray a9⟩))] ?_
 obtain ⟨a, c4, H⟩ := Qc H
 refine iS 6 ?_
 refine cF 67 #[(.tmp 16), (.tmp 17)] #[24, 9] 18 Tryz.call67 (Ug (R := fun w => Mod S w0 w) A7 c8 q2 q3 q4 q5 j a9 w0 (fun w hb => C9 b3 hb) c0 a c4) ?_
 rintro e d8 ⟨a0, a1, a2, a3, rfl, c5, c6, c1⟩
 refine ⟨_, rfl, ?_⟩
 have c7 := SP.call b3 c1
 clear c1
 refine iR 3 9 [(12, (.tuple #[(.agg #[(.string ⟨List.toArray a.1⟩), (.int .i64 a.2.1), (.int .i64 a.2.2.1), (.slice a0 (List.length a.2.2.2.1) a1), (.slice a2 (List.length a.2.2.2.2.1) a3)]), (.bool a.2.2.2.2.2)])), (19, (.agg #[(.string ⟨List.toArray a.1⟩), (.int .i64 a.2.1), (.int .i64 a.2.2.1), (.slice a0 (List.length a.2.2.2.1) a1), (.slice a2 (List.length a.2.2.2.2.1) a3)])), (20, (.bool a.2.2.2.2.2))] ?_
 refine iS 10 ?_
 refine Qi.alloc (t := 44) (z := (.agg #[(.string ⟨List.toArray ([] : List UInt8)⟩), (.int .i64 0), (.int .i64 0), (.slice none (List.length ([] : List (Int × Int))) 0), (.slice none (List.length ([] : List ((List UInt8) × (List UInt8) × Int))) 0)])) (d := (some 8)) (k := 9) K rfl K c7 ?_
 intro b4 d9 c9
 refine iS 11 ?_
 refine Qi.store (t := 44) (x := (.tmp 8)) (y := (.tmp 19)) (g := b4) (off := 0) (i := 7) (v := (.agg #[(.string ⟨List.toArray a.1⟩), (.int .i64 a.2.1), (.int .i64 a.2.2.1), (.slice a0 (List.length a.2.2.2.1) a1), (.slice a2 (List.length a.2.2.2.2.1) a3)])) (cs' := #[(.string ⟨List.toArray a.1⟩), (.int .i64 a.2.1), (.int .i64 a.2.2.1), (.slice a0 (List.length a.2.2.2.1) a1), (.slice a2 (List.length a.2.2.2.2.1) a3)]) (d := none) (k := 10) K rfl K K c9 rfl K ?_
 intro b5 b2
 refine iR 1 12 [(9, (.bool a.2.2.2.2.2))] ?_
 refine iF ?_
 refine aQ ?_
 refine aR ?_
 refine iS 1 ?_
 refine sL 44 8 b4 0 7 (.agg #[(.string ⟨List.toArray a.1⟩), (.int .i64 a.2.1), (.int .i64 a.2.2.1), (.slice a0 (List.length a.2.2.2.1) a1), (.slice a2 (List.length a.2.2.2.2.1) a3)]) 22 b2 rfl ?_
 refine iR 1 2 [(23, (.string ⟨List.toArray b0⟩))] ?_
 obtain ⟨c, d0, H⟩ := Qc H
 refine iS 3 ?_
 refine cF 68 #[(.tmp 22), (.tmp 23)] #[44, 9] 24 Tryz.call68 (J4 a0 a1 a2 a3 a.1 a.2.1 a.2.2.1 a.2.2.2.1 a.2.2.2.2.1 b0 b5 (c5 b5 (SP.mod b2)) (c6 b5 (SP.mod b2)) c d0) ?_
 rintro e e0 ⟨rfl, c2⟩
 refine ⟨_, rfl, ?_⟩
 have d1 := SP.call b2 c2
 clear c2
 refine iR 3 6 [(21, (.tuple #[(.agg #[(.string ⟨List.toArray c.1⟩), (.string ⟨List.toArray c.2.1⟩), (.int .i64 c.2.2.1)]), (.bool c.2.2.2)])), (25, (.agg #[(.string ⟨List.toArray c.1⟩), (.string ⟨List.toArray c.2.1⟩), (.int .i64 c.2.2.1)])), (26, (.bool c.2.2.2))] ?_
 refine iS 7 ?_
 refine Qi.alloc (t := 48) (z := (.agg #[(.string ⟨List.toArray ([] : List UInt8)⟩), (.string ⟨List.toArray ([] : List UInt8)⟩), (.int .i64 0)])) (d := (some 10)) (k := 6) K rfl K d1 ?_
 intro b6 e1 d2
 refine iS 8 ?_
 refine Qi.store (t := 48) (x := (.tmp 10)) (y := (.tmp 25)) (g := b6) (off := 0) (i := 8) (v := (.agg #[(.string ⟨List.toArray c.1⟩), (.string ⟨List.toArray c.2.1⟩), (.int .i64 c.2.2.1)])) (cs' := #[(.string ⟨List.toArray c.1⟩), (.string ⟨List.toArray c.2.1⟩), (.int .i64 c.2.2.1)]) (d := none) (k := 7) K rfl K K d2 rfl K ?_
 intro d3 a8
 refine iR 1 9 [(11, (.bool c.2.2.2))] ?_
 refine iF ?_
 refine aQ ?_
 refine aR ?_
 refine iR 1 1 [(27, (.bool c.2.2.2))] ?_
 refine iF ?_
 refine At.join (fun ρ w => ∃ (b7 : Bool), Zk ρ [] ∧ SP S w0 w [Qo g1 79 #[(.int .i64 q2), (.int .i64 q3), (.int .i64 q4), (.int .i64 q5), (.slice A7 (List.length (List.map stT j)) c8), (.map (some h))], Vf h a4, Qo m 29 #[(pt g1 0)], Qo p 9 #[(.string ⟨List.toArray a5⟩)], Qo q 9 #[(.string ⟨List.toArray a6⟩)], Qo s 2 #[(.int .i64 a7)], Qo u 4 #[(.bool b7)]] ∧ Vl b7 = some r) ?_ ?_
 ·refine Zq K (o := (.tmp 27)) K (b := c.2.2.2) K (fun b8 => ?_) (fun b8 => ?_)
  ·have H := ct H b8
   refine aR ?_
   refine iR 1 1 [(28, (.func (.func 49) #[] #[(pt m 0), (pt p 0), (pt q 0), (pt s 0), (pt u 0)]))] ?_
   refine iS 2 ?_
   refine sL 48 10 b6 0 8 (.agg #[(.string ⟨List.toArray c.1⟩), (.string ⟨List.toArray c.2.1⟩), (.int .i64 c.2.2.1)]) 29 a8 rfl ?_
   obtain ⟨b9, d4, H⟩ := Qc H
   refine iS 3 ?_
   refine Z3 (f := 49) (fo := (.tmp 28)) (xs := #[(.tmp 29)]) (tys := #[48]) (first := #[]) (captured := #[(pt m 0), (pt p 0), (pt q 0), (pt s 0), (pt u 0)]) (d := (some 30)) (k := 2) K rfl K K Tryz.call49 (Nl g1 A7 c8 h m p q s u c.1 c.2.1 c.2.2.1 q2 q3 q4 q5 j a4 a5 a6 a7 b1 d3 (Xs a8 [0, 1, 2, 3, 4, 5, 6] rfl rfl) (fun w hm => c0 w (SP.through a8 (l := [0, 1, 2, 3, 4, 5, 6]) rfl hm)) b9 d4) ?_
   rintro e d5 ⟨rfl, c3⟩
   refine ⟨_, rfl, ?_⟩
   have d6 : SP S w0 d5 [Qo b4 44 #[(.string ⟨List.toArray a.1⟩), (.int .i64 a.2.1), (.int .i64 a.2.2.1), (.slice a0 (List.length a.2.2.2.1) a1), (.slice a2 (List.length a.2.2.2.2.1) a3)], Qo b6 48 #[(.string ⟨List.toArray c.1⟩), (.string ⟨List.toArray c.2.1⟩), (.int .i64 c.2.2.1)], Qo g1 79 #[(.int .i64 q2), (.int .i64 q3), (.int .i64 q4), (.int .i64 q5), (.slice A7 (List.length (List.map stT j)) c8), (.map (some h))], Vf h a4, Qo m 29 #[(pt g1 0)], Qo p 9 #[(.string ⟨List.toArray a5⟩)], Qo q 9 #[(.string ⟨List.toArray a6⟩)], Qo s 2 #[(.int .i64 a7)], Qo u 4 #[(.bool b9)]] := Vv a8 [0, 1, 2, 3, 4, 5, 6] [7, 8] rfl rfl c3 rfl
   clear c3
   refine iF ?_
   exact ⟨b9, trivial, SP.sel d6 [2, 3, 4, 5, 6, 7, 8] rfl rfl, H⟩
  ·have H := cf H b8
   refine At.skip K ?_
   exact ⟨b1, trivial, SP.sel a8 [0, 1, 2, 3, 4, 5, 6] rfl rfl, H⟩
 ·rintro ρ e2 ⟨b7, hk, d7, H⟩
  unfold Vl at H
  first | refine At.known [] hk ?_ | rw [← Q9 (l := []) hk]
  refine ⟨(.tuple #[]), K, ?_⟩
  obtain rfl := Qg H
  exact ⟨rfl, SP.sel d7 [0,1,2,3,4,5,6] rfl rfl⟩
def Vm (a : (List UInt8)) : Option ((List UInt8)) :=
  (some (a))
def Zb (q2 : Int) (q3 : Int) (q4 : Int) (q5 : Int) (q6 : (List Qd)) (j : Yi) (d : (List UInt8)) (e : (List UInt8)) (f : (List UInt8)) (g : (List UInt8)) (h : (List UInt8)) (c : (List UInt8)) : Option ((List UInt8)) :=
  ((Yw q2 q3 q4 q5 q6 d).bind fun a => ((Yg a.1 a.2.1 a.2.2.1 a.2.2.2.1 a.2.2.2.2.1 e).bind fun b => (cond b.2.2.2 ((Ym b.1 b.2.1 b.2.2.1 f g h c).bind fun i => (Vm i)) (Vm c))))
set_option maxRecDepth 100000 in
set_option maxHeartbeats 4000000 in
theorem Jq {S : List Nat} (g1 : Nat) (A7 : Option Addr) (c8 : Nat) (h : Nat) (j : Nat) (m : Nat) (p : Nat) (q : Nat) (q2 : Int) (q3 : Int) (q4 : Int) (q5 : Int) (s : (List Q6)) (a6 : Yi) (a7 : (List UInt8)) (a8 : (List UInt8)) (a3 : (List UInt8)) (a4 : (List UInt8)) (a5 : (List UInt8)) (a9 : (List UInt8)) (w0 : World) (hO : SP S w0 w0 [Qo g1 79 #[(.int .i64 q2), (.int .i64 q3), (.int .i64 q4), (.int .i64 q5), (.slice A7 (List.length (List.map stT s)) c8), (.map (some h))], Vf h a6, Qo j 9 #[(.string ⟨List.toArray a3⟩)], Qo m 9 #[(.string ⟨List.toArray a4⟩)], Qo p 9 #[(.string ⟨List.toArray a5⟩)], Qo q 9 #[(.string ⟨List.toArray a9⟩)]]) (c2 : ∀ w, Mod S w0 w → (dDS J9 Bb).ok w (A7, c8, s)) (r : ((List UInt8))) (H : Zb q2 q3 q4 q5 (List.map stT s) a6 a7 a8 a3 a4 a5 a9 = some r) :
  Calls Tryz.prog 45 #[(pt g1 0), (.string ⟨List.toArray a7⟩), (.string ⟨List.toArray a8⟩), (.func (.func 50) #[] #[(pt j 0), (pt m 0), (pt p 0), (pt q 0)])] w0 (fun e w' => e = .returned (.tuple #[]) ∧ SP S w0 w' [Qo g1 79 #[(.int .i64 q2), (.int .i64 q3), (.int .i64 q4), (.int .i64 q5), (.slice A7 (List.length (List.map stT s)) c8), (.map (some h))], Vf h a6, Qo j 9 #[(.string ⟨List.toArray a3⟩)], Qo m 9 #[(.string ⟨List.toArray a4⟩)], Qo p 9 #[(.string ⟨List.toArray a5⟩)], Qo q 9 #[(.string ⟨List.toArray r⟩)]]) := by
 unfold Zb at H
 refine Qu (n := 31) Tryz.func45 K K K ?_
 have b2 := hO
 refine aQ ?_
 refine aR ?_
 refine iR 3 3 [(13, (pt g1 0)), (14, (pt g1 0)), (15, (pt g1 0))] ?_
 refine iS 4 ?_
 refine sL 24 15 g1 0 0 (.agg #[(.int .i64 q2), (.int .i64 q3), (.int .i64 q4), (.int .i64 q5), (.slice A7 (List.length (List.map stT s)) c8)]) 16 b2 rfl ?_
 refine iR 1 5 [(17, (.string ⟨List.toArray a7⟩))] ?_
 obtain ⟨a, c3, H⟩ := Qc H
 refine iS 6 ?_
 refine cF 67 #[(.tmp 16), (.tmp 17)] #[24, 9] 18 Tryz.call67 (Ug (R := fun w => Mod S w0 w) A7 c8 q2 q3 q4 q5 s a7 w0 (fun w hb => C9 b2 hb) c2 a c3) ?_
 rintro e d7 ⟨u, a0, a1, a2, rfl, c4, c5, b9⟩
 refine ⟨_, rfl, ?_⟩
 have c6 := SP.call b2 b9
 clear b9
 refine iR 3 9 [(12, (.tuple #[(.agg #[(.string ⟨List.toArray a.1⟩), (.int .i64 a.2.1), (.int .i64 a.2.2.1), (.slice u (List.length a.2.2.2.1) a0), (.slice a1 (List.length a.2.2.2.2.1) a2)]), (.bool a.2.2.2.2.2)])), (19, (.agg #[(.string ⟨List.toArray a.1⟩), (.int .i64 a.2.1), (.int .i64 a.2.2.1), (.slice u (List.length a.2.2.2.1) a0), (.slice a1 (List.length a.2.2.2.2.1) a2)])), (20, (.bool a.2.2.2.2.2))] ?_
 refine iS 10 ?_
 refine Qi.alloc (t := 44) (z := (.agg #[(.string ⟨List.toArray ([] : List UInt8)⟩), (.int .i64 0), (.int .i64 0), (.slice none (List.length ([] : List (Int × Int))) 0), (.slice none (List.length ([] : List ((List UInt8) × (List UInt8) × Int))) 0)])) (d := (some 8)) (k := 9) K rfl K c6 ?_
 intro b3 d8 c7
 refine iS 11 ?_
 refine Qi.store (t := 44) (x := (.tmp 8)) (y := (.tmp 19)) (g := b3) (off := 0) (i := 6) (v := (.agg #[(.string ⟨List.toArray a.1⟩), (.int .i64 a.2.1), (.int .i64 a.2.2.1), (.slice u (List.length a.2.2.2.1) a0), (.slice a1 (List.length a.2.2.2.2.1) a2)])) (cs' := #[(.string ⟨List.toArray a.1⟩), (.int .i64 a.2.1), (.int .i64 a.2.2.1), (.slice u (List.length a.2.2.2.1) a0), (.slice a1 (List.length a.2.2.2.2.1) a2)]) (d := none) (k := 10) K rfl K K c7 rfl K ?_
 intro b4 b0
 refine iR 1 12 [(9, (.bool a.2.2.2.2.2))] ?_
 refine iF ?_
 refine aQ ?_
 refine aR ?_
 refine iS 1 ?_
 refine sL 44 8 b3 0 6 (.agg #[(.string ⟨List.toArray a.1⟩), (.int .i64 a.2.1), (.int .i64 a.2.2.1), (.slice u (List.length a.2.2.2.1) a0), (.slice a1 (List.length a.2.2.2.2.1) a2)]) 22 b0 rfl ?_
 refine iR 1 2 [(23, (.string ⟨List.toArray a8⟩))] ?_
 obtain ⟨c, c9, H⟩ := Qc H
 refine iS 3 ?_
 refine cF 68 #[(.tmp 22), (.tmp 23)] #[44, 9] 24 Tryz.call68 (J4 u a0 a1 a2 a.1 a.2.1 a.2.2.1 a.2.2.2.1 a.2.2.2.2.1 a8 b4 (c4 b4 (SP.mod b0)) (c5 b4 (SP.mod b0)) c c9) ?_
 rintro e d9 ⟨rfl, c0⟩
 refine ⟨_, rfl, ?_⟩
 have d0 := SP.call b0 c0
 clear c0
 refine iR 3 6 [(21, (.tuple #[(.agg #[(.string ⟨List.toArray c.1⟩), (.string ⟨List.toArray c.2.1⟩), (.int .i64 c.2.2.1)]), (.bool c.2.2.2)])), (25, (.agg #[(.string ⟨List.toArray c.1⟩), (.string ⟨List.toArray c.2.1⟩), (.int .i64 c.2.2.1)])), (26, (.bool c.2.2.2))] ?_
 refine iS 7 ?_
 refine Qi.alloc (t := 48) (z := (.agg #[(.string ⟨List.toArray ([] : List UInt8)⟩), (.string ⟨List.toArray ([] : List UInt8)⟩), (.int .i64 0)])) (d := (some 10)) (k := 6) K rfl K d0 ?_
 intro b5 e0 d1
 refine iS 8 ?_
 refine Qi.store (t := 48) (x := (.tmp 10)) (y := (.tmp 25)) (g := b5) (off := 0) (i := 7) (v := (.agg #[(.string ⟨List.toArray c.1⟩), (.string ⟨List.toArray c.2.1⟩), (.int .i64 c.2.2.1)])) (cs' := #[(.string ⟨List.toArray c.1⟩), (.string ⟨List.toArray c.2.1⟩), (.int .i64 c.2.2.1)]) (d := none) (k := 7) K rfl K K d1 rfl K ?_
 intro d2 b1
 refine iR 1 9 [(11, (.bool c.2.2.2))] ?_
 refine iF ?_
 refine aQ ?_
 refine aR ?_
 refine iR 1 1 [(27, (.bool c.2.2.2))] ?_
 refine iF ?_
 refine At.join (fun ρ w => ∃ (b6 : (List UInt8)), Zk ρ [] ∧ SP S w0 w [Qo g1 79 #[(.int .i64 q2), (.int .i64 q3), (.int .i64 q4), (.int .i64 q5), (.slice A7 (List.length (List.map stT s)) c8), (.map (some h))], Vf h a6, Qo j 9 #[(.string ⟨List.toArray a3⟩)], Qo m 9 #[(.string ⟨List.toArray a4⟩)], Qo p 9 #[(.string ⟨List.toArray a5⟩)], Qo q 9 #[(.string ⟨List.toArray b6⟩)]] ∧ Vm b6 = some r) ?_ ?_
 ·refine Zq K (o := (.tmp 27)) K (b := c.2.2.2) K (fun b7 => ?_) (fun b7 => ?_)
  ·have H := ct H b7
   refine aR ?_
   refine iR 1 1 [(28, (.func (.func 50) #[] #[(pt j 0), (pt m 0), (pt p 0), (pt q 0)]))] ?_
   refine iS 2 ?_
   refine sL 48 10 b5 0 7 (.agg #[(.string ⟨List.toArray c.1⟩), (.string ⟨List.toArray c.2.1⟩), (.int .i64 c.2.2.1)]) 29 b1 rfl ?_
   obtain ⟨b8, d3, H⟩ := Qc H
   refine iS 3 ?_
   refine Z3 (f := 50) (fo := (.tmp 28)) (xs := #[(.tmp 29)]) (tys := #[48]) (first := #[]) (captured := #[(pt j 0), (pt m 0), (pt p 0), (pt q 0)]) (d := (some 30)) (k := 2) K rfl K K Tryz.call50 (Nm j m p q c.1 c.2.1 c.2.2.1 a3 a4 a5 a9 d2 (Xs b1 [2, 3, 4, 5] rfl rfl) b8 d3) ?_
   rintro e d4 ⟨rfl, c1⟩
   refine ⟨_, rfl, ?_⟩
   have d5 : SP S w0 d4 [Qo g1 79 #[(.int .i64 q2), (.int .i64 q3), (.int .i64 q4), (.int .i64 q5), (.slice A7 (List.length (List.map stT s)) c8), (.map (some h))], Vf h a6, Qo b3 44 #[(.string ⟨List.toArray a.1⟩), (.int .i64 a.2.1), (.int .i64 a.2.2.1), (.slice u (List.length a.2.2.2.1) a0), (.slice a1 (List.length a.2.2.2.2.1) a2)], Qo b5 48 #[(.string ⟨List.toArray c.1⟩), (.string ⟨List.toArray c.2.1⟩), (.int .i64 c.2.2.1)], Qo j 9 #[(.string ⟨List.toArray a3⟩)], Qo m 9 #[(.string ⟨List.toArray a4⟩)], Qo p 9 #[(.string ⟨List.toArray a5⟩)], Qo q 9 #[(.string ⟨List.toArray b8⟩)]] := Vv b1 [2, 3, 4, 5] [0, 1, 6, 7] rfl rfl c1 rfl
   clear c1
   refine iF ?_
   exact ⟨b8, trivial, SP.sel d5 [0, 1, 4, 5, 6, 7] rfl rfl, H⟩
  ·have H := cf H b7
   refine At.skip K ?_
   exact ⟨a9, trivial, SP.sel b1 [0, 1, 2, 3, 4, 5] rfl rfl, H⟩
 ·rintro ρ e1 ⟨b6, hk, d6, H⟩
  unfold Vm at H
  first | refine At.known [] hk ?_ | rw [← Q9 (l := []) hk]
  refine ⟨(.tuple #[]), K, ?_⟩
  obtain rfl := Qg H
  exact ⟨rfl, SP.sel d6 [0,1,2,3,4,5] rfl rfl⟩
def Xq (q2 : Int) (q3 : Int) (q4 : Int) (q5 : Int) (q6 : (List Qd)) (d : Yi) (b : (List UInt8)) (c : (List UInt8)) : Option (Bool × Int × Int × Int × Int × Yi) :=
  ((V2 q2 q3 q4 q5 q6 d b c b c false).bind fun a => (some (a.2.2.2.2.2, a.1, a.2.1, a.2.2.1, a.2.2.2.1, a.2.2.2.2.1)))
set_option maxRecDepth 100000 in
set_option maxHeartbeats 4000000 in
theorem Nn {S : List Nat} (g1 : Nat) (A7 : Option Addr) (c8 : Nat) (b : Nat) (q2 : Int) (q3 : Int) (q4 : Int) (q5 : Int) (h : (List Q6)) (s : Yi) (c : (List UInt8)) (f : (List UInt8)) (w0 : World) (hO : SP S w0 w0 [Qo g1 79 #[(.int .i64 q2), (.int .i64 q3), (.int .i64 q4), (.int .i64 q5), (.slice A7 (List.length (List.map stT h)) c8), (.map (some b))], Vf b s]) (a1 : ∀ w, Mod S w0 w → (dDS J9 Bb).ok w (A7, c8, h)) (r : (Bool × Int × Int × Int × Int × Yi)) (H : Xq q2 q3 q4 q5 (List.map stT h) s c f = some r) :
  Calls Tryz.prog 20 #[(pt g1 0), (.string ⟨List.toArray c⟩), (.string ⟨List.toArray f⟩)] w0 (fun e w' => e = .returned (.bool r.1) ∧ SP S w0 w' [Qo g1 79 #[(.int .i64 r.2.1), (.int .i64 r.2.2.1), (.int .i64 r.2.2.2.1), (.int .i64 r.2.2.2.2.1), (.slice A7 (List.length (List.map stT h)) c8), (.map (some b))], Vf b r.2.2.2.2.2]) := by
 unfold Xq at H
 refine Qu (n := 14) Tryz.func20 K K K ?_
 have a2 := hO
 refine aQ ?_
 refine aR ?_
 refine iS 1 ?_
 refine Vn (t := 29) (x := (.tmp 0)) (v := (pt g1 0)) (d := (some 3)) (k := 0) K rfl K a2 ?_
 intro o b0 a3
 refine iS 2 ?_
 refine Vn (t := 9) (x := (.tmp 1)) (v := (.string ⟨List.toArray c⟩)) (d := (some 4)) (k := 1) K rfl K a3 ?_
 intro p b1 a4
 refine iS 3 ?_
 refine Vn (t := 9) (x := (.tmp 2)) (v := (.string ⟨List.toArray f⟩)) (d := (some 5)) (k := 2) K rfl K a4 ?_
 intro q b2 a5
 refine iR 1 4 [(6, (.bool false))] ?_
 refine iF ?_
 refine aQ ?_
 refine aR ?_
 refine iS 1 ?_
 refine Qi.alloc (t := 4) (z := (.bool false)) (d := (some 7)) (k := 0) K rfl K a5 ?_
 intro m b3 a6
 refine iS 2 ?_
 refine Qi.store (t := 4) (x := (.tmp 7)) (y := (.const (.bool false))) (g := m) (off := 0) (i := 5) (v := (.bool false)) (cs' := #[(.bool false)]) (d := none) (k := 1) K rfl K K a6 rfl K ?_
 intro a7 j
 refine iF ?_
 refine aQ ?_
 refine aR ?_
 refine iS 1 ?_
 refine sL 29 3 o 0 2 (pt g1 0) 8 j rfl ?_
 refine iS 2 ?_
 refine sL 9 4 p 0 3 (.string ⟨List.toArray c⟩) 9 j rfl ?_
 refine iS 3 ?_
 refine sL 9 5 q 0 4 (.string ⟨List.toArray f⟩) 10 j rfl ?_
 refine iR 1 4 [(11, (.func (.func 46) #[] #[(pt p 0), (pt q 0), (pt o 0), (pt m 0)]))] ?_
 obtain ⟨a, a8, H⟩ := Qc H
 refine iS 5 ?_
 refine cF 45 #[(.tmp 8), (.tmp 9), (.tmp 10), (.tmp 11)] #[29, 9, 9, 84] 12 Tryz.call45 (Jh g1 A7 c8 b p q o m q2 q3 q4 q5 h s c f c f false a7 (Xs j [0, 1, 3, 4, 2, 5] rfl rfl) (fun w hm => a1 w (SP.through j (l := [0, 1, 3, 4, 2, 5]) rfl hm)) a a8) ?_
 rintro e a9 ⟨rfl, u⟩
 refine ⟨_, rfl, ?_⟩
 have a0 : SP S w0 a9 [Qo g1 79 #[(.int .i64 a.1), (.int .i64 a.2.1), (.int .i64 a.2.2.1), (.int .i64 a.2.2.2.1), (.slice A7 (List.length (List.map stT h)) c8), (.map (some b))], Vf b a.2.2.2.2.1, Qo p 9 #[(.string ⟨List.toArray c⟩)], Qo q 9 #[(.string ⟨List.toArray f⟩)], Qo o 29 #[(pt g1 0)], Qo m 4 #[(.bool a.2.2.2.2.2)]] := Vv j [0, 1, 3, 4, 2, 5] [] rfl rfl u rfl
 clear u
 refine iF ?_
 refine aQ ?_
 refine aR ?_
 refine iS 1 ?_
 refine sL 4 7 m 0 5 (.bool a.2.2.2.2.2) 13 a0 rfl ?_
 refine iR 1 2 [(6, (.bool a.2.2.2.2.2))] ?_
 refine iF ?_
 refine At.ret K ?_
 refine ⟨(.bool a.2.2.2.2.2), K, ?_⟩
 obtain rfl := Qg H
 exact ⟨rfl, SP.sel a0 [0,1] rfl rfl⟩
def Xe (q2 : Int) (q3 : Int) (q4 : Int) (q5 : Int) (q6 : (List Qd)) (c : Yi) (a : (List UInt8)) (b : (List UInt8)) (d : Int) : Option (Bool) :=
  ((Za q2 q3 q4 q5 q6 c a b a b d false).bind fun e => (some (e)))
set_option maxRecDepth 100000 in
set_option maxHeartbeats 4000000 in
theorem Uh {S : List Nat} (g1 : Nat) (A7 : Option Addr) (c8 : Nat) (a : Nat) (q2 : Int) (q3 : Int) (q4 : Int) (q5 : Int) (f : (List Q6)) (j : Yi) (b : (List UInt8)) (c : (List UInt8)) (m : Int) (w0 : World) (hO : SP S w0 w0 [Qo g1 79 #[(.int .i64 q2), (.int .i64 q3), (.int .i64 q4), (.int .i64 q5), (.slice A7 (List.length (List.map stT f)) c8), (.map (some a))], Vf a j]) (a3 : ∀ w, Mod S w0 w → (dDS J9 Bb).ok w (A7, c8, f)) (r : (Bool)) (H : Xe q2 q3 q4 q5 (List.map stT f) j b c m = some r) :
  Calls Tryz.prog 22 #[(pt g1 0), (.string ⟨List.toArray b⟩), (.string ⟨List.toArray c⟩), (.int .i64 m)] w0 (fun e w' => e = .returned (.bool r) ∧ SP S w0 w' [Qo g1 79 #[(.int .i64 q2), (.int .i64 q3), (.int .i64 q4), (.int .i64 q5), (.slice A7 (List.length (List.map stT f)) c8), (.map (some a))], Vf a j]) := by
 unfold Xe at H
 refine Qu (n := 16) Tryz.func22 K K K ?_
 have a4 := hO
 refine aQ ?_
 refine aR ?_
 refine iS 1 ?_
 refine Vn (t := 29) (x := (.tmp 0)) (v := (pt g1 0)) (d := (some 4)) (k := 0) K rfl K a4 ?_
 intro q b3 a5
 refine iS 2 ?_
 refine Vn (t := 9) (x := (.tmp 1)) (v := (.string ⟨List.toArray b⟩)) (d := (some 5)) (k := 1) K rfl K a5 ?_
 intro s b4 a6
 refine iS 3 ?_
 refine Vn (t := 9) (x := (.tmp 2)) (v := (.string ⟨List.toArray c⟩)) (d := (some 6)) (k := 2) K rfl K a6 ?_
 intro u b5 a7
 refine iS 4 ?_
 refine Vn (t := 2) (x := (.tmp 3)) (v := (.int .i64 m)) (d := (some 7)) (k := 3) K rfl K a7 ?_
 intro a0 b6 a8
 refine iR 1 5 [(8, (.bool false))] ?_
 refine iF ?_
 refine aQ ?_
 refine aR ?_
 refine iS 1 ?_
 refine Qi.alloc (t := 4) (z := (.bool false)) (d := (some 9)) (k := 0) K rfl K a8 ?_
 intro o b7 a9
 refine iS 2 ?_
 refine Qi.store (t := 4) (x := (.tmp 9)) (y := (.const (.bool false))) (g := o) (off := 0) (i := 6) (v := (.bool false)) (cs' := #[(.bool false)]) (d := none) (k := 1) K rfl K K a9 rfl K ?_
 intro b0 h
 refine iF ?_
 refine aQ ?_
 refine aR ?_
 refine iS 1 ?_
 refine sL 29 4 q 0 2 (pt g1 0) 10 h rfl ?_
 refine iS 2 ?_
 refine sL 9 5 s 0 3 (.string ⟨List.toArray b⟩) 11 h rfl ?_
 refine iS 3 ?_
 refine sL 9 6 u 0 4 (.string ⟨List.toArray c⟩) 12 h rfl ?_
 refine iR 1 4 [(13, (.func (.func 49) #[] #[(pt q 0), (pt s 0), (pt u 0), (pt a0 0), (pt o 0)]))] ?_
 obtain ⟨p, b1, H⟩ := Qc H
 refine iS 5 ?_
 refine cF 45 #[(.tmp 10), (.tmp 11), (.tmp 12), (.tmp 13)] #[29, 9, 9, 84] 14 Tryz.call45 (Jp g1 A7 c8 a q s u a0 o q2 q3 q4 q5 f j b c b c m false b0 (Xs h [0, 1, 2, 3, 4, 5, 6] rfl rfl) (fun w hm => a3 w (SP.through h (l := [0, 1, 2, 3, 4, 5, 6]) rfl hm)) p b1) ?_
 rintro e b2 ⟨rfl, a1⟩
 refine ⟨_, rfl, ?_⟩
 have a2 : SP S w0 b2 [Qo g1 79 #[(.int .i64 q2), (.int .i64 q3), (.int .i64 q4), (.int .i64 q5), (.slice A7 (List.length (List.map stT f)) c8), (.map (some a))], Vf a j, Qo q 29 #[(pt g1 0)], Qo s 9 #[(.string ⟨List.toArray b⟩)], Qo u 9 #[(.string ⟨List.toArray c⟩)], Qo a0 2 #[(.int .i64 m)], Qo o 4 #[(.bool p)]] := Vv h [0, 1, 2, 3, 4, 5, 6] [] rfl rfl a1 rfl
 clear a1
 refine iF ?_
 refine aQ ?_
 refine aR ?_
 refine iS 1 ?_
 refine sL 4 9 o 0 6 (.bool p) 15 a2 rfl ?_
 refine iR 1 2 [(8, (.bool p))] ?_
 refine iF ?_
 refine At.ret K ?_
 refine ⟨(.bool p), K, ?_⟩
 obtain rfl := Qg H
 exact ⟨rfl, SP.sel a2 [0,1] rfl rfl⟩
def Zv (q2 : Int) (q3 : Int) (q4 : Int) (q5 : Int) (q6 : (List Qd)) (c : Yi) (a : (List UInt8)) (b : (List UInt8)) (d : (List UInt8)) : Option ((List UInt8)) :=
  ((Zb q2 q3 q4 q5 q6 c a b a b d ([] : List UInt8)).bind fun e => (some (e)))
set_option maxRecDepth 100000 in
set_option maxHeartbeats 4000000 in
theorem Yz {S : List Nat} (g1 : Nat) (A7 : Option Addr) (c8 : Nat) (a : Nat) (q2 : Int) (q3 : Int) (q4 : Int) (q5 : Int) (f : (List Q6)) (h : Yi) (b : (List UInt8)) (c : (List UInt8)) (j : (List UInt8)) (w0 : World) (hO : SP S w0 w0 [Qo g1 79 #[(.int .i64 q2), (.int .i64 q3), (.int .i64 q4), (.int .i64 q5), (.slice A7 (List.length (List.map stT f)) c8), (.map (some a))], Vf a h]) (a2 : ∀ w, Mod S w0 w → (dDS J9 Bb).ok w (A7, c8, f)) (r : ((List UInt8))) (H : Zv q2 q3 q4 q5 (List.map stT f) h b c j = some r) :
  Calls Tryz.prog 24 #[(pt g1 0), (.string ⟨List.toArray b⟩), (.string ⟨List.toArray c⟩), (.string ⟨List.toArray j⟩)] w0 (fun e w' => e = .returned (.string ⟨List.toArray r⟩) ∧ SP S w0 w' [Qo g1 79 #[(.int .i64 q2), (.int .i64 q3), (.int .i64 q4), (.int .i64 q5), (.slice A7 (List.length (List.map stT f)) c8), (.map (some a))], Vf a h]) := by
 unfold Zv at H
 refine Qu (n := 16) Tryz.func24 K K K ?_
 have a3 := hO
 refine aQ ?_
 refine aR ?_
 refine iS 1 ?_
 refine Vn (t := 9) (x := (.tmp 1)) (v := (.string ⟨List.toArray b⟩)) (d := (some 5)) (k := 0) K rfl K a3 ?_
 intro q b1 a4
 refine iS 2 ?_
 refine Vn (t := 9) (x := (.tmp 2)) (v := (.string ⟨List.toArray c⟩)) (d := (some 6)) (k := 1) K rfl K a4 ?_
 intro s b2 a5
 refine iS 3 ?_
 refine Vn (t := 9) (x := (.tmp 3)) (v := (.string ⟨List.toArray j⟩)) (d := (some 7)) (k := 2) K rfl K a5 ?_
 intro u b3 a6
 refine iR 1 4 [(8, (.string ⟨List.toArray ([] : List UInt8)⟩))] ?_
 refine iF ?_
 refine aQ ?_
 refine aR ?_
 refine iS 1 ?_
 refine Qi.alloc (t := 9) (z := (.string ⟨List.toArray ([] : List UInt8)⟩)) (d := (some 9)) (k := 0) K rfl K a6 ?_
 intro m b4 a7
 refine iS 2 ?_
 refine Qi.store (t := 9) (x := (.tmp 9)) (y := (.const (.string ⟨List.toArray ([] : List UInt8)⟩))) (g := m) (off := 0) (i := 5) (v := (.string ⟨List.toArray ([] : List UInt8)⟩)) (cs' := #[(.string ⟨List.toArray ([] : List UInt8)⟩)]) (d := none) (k := 1) K rfl K K a7 rfl K ?_
 intro a8 o
 refine iF ?_
 refine aQ ?_
 refine aR ?_
 refine iR 1 1 [(10, (pt g1 0))] ?_
 refine iS 2 ?_
 refine sL 9 5 q 0 2 (.string ⟨List.toArray b⟩) 11 o rfl ?_
 refine iS 3 ?_
 refine sL 9 6 s 0 3 (.string ⟨List.toArray c⟩) 12 o rfl ?_
 refine iR 1 4 [(13, (.func (.func 50) #[] #[(pt q 0), (pt s 0), (pt u 0), (pt m 0)]))] ?_
 obtain ⟨p, a9, H⟩ := Qc H
 refine iS 5 ?_
 refine cF 45 #[(.tmp 10), (.tmp 11), (.tmp 12), (.tmp 13)] #[29, 9, 9, 84] 14 Tryz.call45 (Jq g1 A7 c8 a q s u m q2 q3 q4 q5 f h b c b c j ([] : List UInt8) a8 (Xs o [0, 1, 2, 3, 4, 5] rfl rfl) (fun w hm => a2 w (SP.through o (l := [0, 1, 2, 3, 4, 5]) rfl hm)) p a9) ?_
 rintro e b0 ⟨rfl, a0⟩
 refine ⟨_, rfl, ?_⟩
 have a1 : SP S w0 b0 [Qo g1 79 #[(.int .i64 q2), (.int .i64 q3), (.int .i64 q4), (.int .i64 q5), (.slice A7 (List.length (List.map stT f)) c8), (.map (some a))], Vf a h, Qo q 9 #[(.string ⟨List.toArray b⟩)], Qo s 9 #[(.string ⟨List.toArray c⟩)], Qo u 9 #[(.string ⟨List.toArray j⟩)], Qo m 9 #[(.string ⟨List.toArray p⟩)]] := Vv o [0, 1, 2, 3, 4, 5] [] rfl rfl a0 rfl
 clear a0
 refine iF ?_
 refine aQ ?_
 refine aR ?_
 refine iS 1 ?_
 refine sL 9 9 m 0 5 (.string ⟨List.toArray p⟩) 15 a1 rfl ?_
 refine iR 1 2 [(8, (.string ⟨List.toArray p⟩))] ?_
 refine iF ?_
 refine At.ret K ?_
 refine ⟨(.string ⟨List.toArray p⟩), K, ?_⟩
 obtain rfl := Qg H
 exact ⟨rfl, SP.sel a1 [0,1] rfl rfl⟩
def Z1 (a : Bool) : Option (Int) :=
  (cond a (some (101)) (some (0)))
def X1 (q2 : Int) (q3 : Int) (q4 : Int) (q5 : Int) (q6 : (List Qd)) (b : Yi) (c : (List UInt8)) (d : (List UInt8)) (f : (List UInt8)) (e : (List UInt8)) (g : Int) : Option (Int) :=
  ((Xe q2 q3 q4 q5 q6 b c d g).bind fun h => (cond (!h) (some (3)) ((Zv q2 q3 q4 q5 q6 b c d f).bind fun a => (cond (a == ([] : List UInt8)) (Z1 true) ((chk (Nat.ble (List.length a) 281474976710656)).bind fun _ => ((chk (Nat.ble (List.length e) 281474976710656)).bind fun _ => ((Nx a e).bind fun i => (Z1 (!i)))))))))
set_option maxRecDepth 100000 in
set_option maxHeartbeats 4000000 in
theorem Ny {S : List Nat} (g1 : Nat) (A7 : Option Addr) (c8 : Nat) (c : Nat) (q2 : Int) (q3 : Int) (q4 : Int) (q5 : Int) (g : (List Q6)) (h : Yi) (j : (List UInt8)) (m : (List UInt8)) (s : (List UInt8)) (p : (List UInt8)) (u : Int) (w0 : World) (hO : SP S w0 w0 [Qo g1 79 #[(.int .i64 q2), (.int .i64 q3), (.int .i64 q4), (.int .i64 q5), (.slice A7 (List.length (List.map stT g)) c8), (.map (some c))], Vf c h]) (a8 : ∀ w, Mod S w0 w → (dDS J9 Bb).ok w (A7, c8, g)) (r : (Int)) (H : X1 q2 q3 q4 q5 (List.map stT g) h j m s p u = some r) :
  Calls Tryz.prog 26 #[(pt g1 0), (.string ⟨List.toArray j⟩), (.string ⟨List.toArray m⟩), (.string ⟨List.toArray s⟩), (.string ⟨List.toArray p⟩), (.int .i64 u)] w0 (fun e w' => e = .returned (.int .i64 r) ∧ SP S w0 w' [Qo g1 79 #[(.int .i64 q2), (.int .i64 q3), (.int .i64 q4), (.int .i64 q5), (.slice A7 (List.length (List.map stT g)) c8), (.map (some c))], Vf c h]) := by
 unfold X1 at H
 refine Qu (n := 35) Tryz.func26 K K K ?_
 have a0 := hO
 refine aQ ?_
 refine aR ?_
 refine iR 1 1 [(12, (.int .i64 0))] ?_
 refine iF ?_
 refine aQ ?_
 refine aQ ?_
 refine aR ?_
 refine iR 4 4 [(14, (pt g1 0)), (15, (.string ⟨List.toArray j⟩)), (16, (.string ⟨List.toArray m⟩)), (17, (.int .i64 u))] ?_
 obtain ⟨a1, c0, H⟩ := Qc H
 refine iS 5 ?_
 refine cF 22 #[(.tmp 14), (.tmp 15), (.tmp 16), (.tmp 17)] #[29, 9, 9, 2] 18 Tryz.call22 (Uh g1 A7 c8 c q2 q3 q4 q5 g h j m u w0 (Xs a0 [0, 1] rfl rfl) (fun w hm => a8 w (SP.through a0 (l := [0, 1]) rfl hm)) a1 c0) ?_
 rintro e a9 ⟨rfl, b0⟩
 refine ⟨_, rfl, ?_⟩
 have v : SP S w0 a9 [Qo g1 79 #[(.int .i64 q2), (.int .i64 q3), (.int .i64 q4), (.int .i64 q5), (.slice A7 (List.length (List.map stT g)) c8), (.map (some c))], Vf c h] := Vv a0 [0, 1] [] rfl rfl b0 rfl
 clear b0
 refine iR 1 6 [(19, (.bool (!a1)))] ?_
 refine iF ?_
 refine Zq K (o := (.tmp 19)) K (b := (!a1)) K (fun a2 => ?_) (fun a2 => ?_)
 ·have H := ct H a2
  refine aQ ?_
  refine aR ?_
  refine iR 1 1 [(12, (.int .i64 3))] ?_
  refine iF ?_
  refine At.ret K ?_
  refine ⟨(.int .i64 3), K, ?_⟩
  obtain rfl := Qg H
  exact ⟨rfl, SP.sel v [0,1] rfl rfl⟩
 ·have H := cf H a2
  refine At.skip K ?_
  refine aQ ?_
  refine aQ ?_
  refine aR ?_
  refine iR 4 4 [(20, (pt g1 0)), (21, (.string ⟨List.toArray j⟩)), (22, (.string ⟨List.toArray m⟩)), (23, (.string ⟨List.toArray s⟩))] ?_
  obtain ⟨f, c1, H⟩ := Qc H
  refine iS 5 ?_
  refine cF 24 #[(.tmp 20), (.tmp 21), (.tmp 22), (.tmp 23)] #[29, 9, 9, 9] 24 Tryz.call24 (Yz g1 A7 c8 c q2 q3 q4 q5 g h j m s a9 (Xs v [0, 1] rfl rfl) (fun w hm => a8 w (SP.through v (l := [0, 1]) rfl hm)) f c1) ?_
  rintro e c2 ⟨rfl, b1⟩
  refine ⟨_, rfl, ?_⟩
  have b2 : SP S w0 c2 [Qo g1 79 #[(.int .i64 q2), (.int .i64 q3), (.int .i64 q4), (.int .i64 q5), (.slice A7 (List.length (List.map stT g)) c8), (.map (some c))], Vf c h] := Vv v [0, 1] [] rfl rfl b1 rfl
  clear b1
  refine iR 1 6 [(13, (.string ⟨List.toArray f⟩))] ?_
  refine iF ?_
  refine aQ ?_
  refine At.join (fun ρ w => ∃ (q : Bool), Zk ρ [(34, (.bool q))] ∧ SP S w0 w [Qo g1 79 #[(.int .i64 q2), (.int .i64 q3), (.int .i64 q4), (.int .i64 q5), (.slice A7 (List.length (List.map stT g)) c8), (.map (some c))], Vf c h] ∧ Z1 q = some r) ?_ ?_
  ·refine aR ?_
   refine iR 1 1 [(25, (.string ⟨List.toArray f⟩))] ?_
   refine iS 2 ?_
   refine Y6 (op := .eql) (T := 9) (T' := 9) (x := (.tmp 25)) (y := (.const (.string ⟨List.toArray ([] : List UInt8)⟩))) (a := f) (b := ([] : List UInt8)) (r := (.bool (f == ([] : List UInt8)))) (d := (some 26)) (k := 1) K rfl K K rfl ?_
   refine iR 1 3 [(27, (.bool (f == ([] : List UInt8))))] ?_
   refine In.guard (t := 27) (b := (f == ([] : List UInt8))) K (fun a3 => ?_) (fun a3 => ?_)
   ·have H := ct H a3
    refine iR 7 10 [(28, undef), (29, undef), (30, undef), (31, undef), (32, undef), (33, undef), (34, (.bool true))] ?_
    refine iF ?_
    exact ⟨true, ⟨K, trivial⟩, SP.sel b2 [0, 1] rfl rfl, H⟩
   ·have H := cf H a3
    refine iR 1 4 [(28, (.string ⟨List.toArray f⟩))] ?_
    obtain ⟨c3, H⟩ := Zd H
    refine iS 5 ?_
    refine Gv (S' := 9) (T := 52) (E := 5) (x := (.tmp 28)) (l := f) (d := (some 29)) (k := 4) K rfl K K K K (Gw c3) b2 ?_
    intro a4 a5 c4 b3 _
    have c5 : SP S w0 c4 [Qo g1 79 #[(.int .i64 q2), (.int .i64 q3), (.int .i64 q4), (.int .i64 q5), (.slice A7 (List.length (List.map stT g)) c8), (.map (some c))], Vf c h, rdE eU8 (some ⟨a4, 0, none⟩) a5 f] := b3
    clear b3
    refine iR 1 6 [(30, (.string ⟨List.toArray p⟩))] ?_
    obtain ⟨c6, H⟩ := Zd H
    refine iS 7 ?_
    refine Gv (S' := 9) (T := 52) (E := 5) (x := (.tmp 30)) (l := p) (d := (some 31)) (k := 6) K rfl K K K K (Gw c6) c5 ?_
    intro b4 b5 b6 b7 _
    have a6 : SP S w0 b6 [Qo g1 79 #[(.int .i64 q2), (.int .i64 q3), (.int .i64 q4), (.int .i64 q5), (.slice A7 (List.length (List.map stT g)) c8), (.map (some c))], Vf c h, rdE eU8 (some ⟨a4, 0, none⟩) a5 f, rdE eU8 (some ⟨b4, 0, none⟩) b5 p] := b7
    clear b7
    obtain ⟨z, c7, H⟩ := Qc H
    refine iS 8 ?_
    refine cF 52 #[(.tmp 29), (.tmp 31)] #[52, 52] 32 Tryz.call52 (Cd (some ⟨a4, 0, none⟩) a5 (some ⟨b4, 0, none⟩) b5 f p b6 (rdE_rd (SP.get a6 (i := 2) rfl)) (rdE_rd (SP.get a6 (i := 3) rfl)) z c7) ?_
    rintro e d0 ⟨rfl, b8⟩
    refine ⟨_, rfl, ?_⟩
    have c9 := SP.call a6 b8
    clear b8
    refine iR 2 10 [(33, (.bool (!z))), (34, (.bool (!z)))] ?_
    refine iF ?_
    exact ⟨(!z), ⟨K, trivial⟩, SP.sel c9 [0, 1] rfl rfl, H⟩
  ·rintro ρ d1 ⟨q, hk, b9, H⟩
   unfold Z1 at H
   first | refine At.known [(34, (.bool q))] hk ?_ | rw [← Q9 (l := [(34, (.bool q))]) hk]
   refine Zq K (o := (.tmp 34)) K (b := q) K (fun a7 => ?_) (fun a7 => ?_)
   ·have H := ct H a7
    refine aQ ?_
    refine aR ?_
    refine iR 1 1 [(12, (.int .i64 101))] ?_
    refine iF ?_
    refine At.ret K ?_
    refine ⟨(.int .i64 101), K, ?_⟩
    obtain rfl := Qg H
    exact ⟨rfl, SP.sel b9 [0,1] rfl rfl⟩
   ·have H := cf H a7
    refine At.skip K ?_
    refine aQ ?_
    refine aR ?_
    refine iR 1 1 [(12, (.int .i64 0))] ?_
    refine iF ?_
    refine At.ret K ?_
    refine ⟨(.int .i64 0), K, ?_⟩
    obtain rfl := Qg H
    exact ⟨rfl, SP.sel b9 [0,1] rfl rfl⟩
end Go.Proofs.YtmgfanhcdfobhaaGreatDoor
namespace Go.Proofs.YtmgfanhcdfobhaaGreatDoor
theorem fx_step {α : Type} {P : α → Bool} {l : List α} {i : Nat} (hi : i < l.length) (hn : (l.take i).any P = false) (hx : P l[i] = true) : l.findIdx? P = some i := by
  rw [List.findIdx?_eq_some_iff_getElem]
  refine ⟨hi, hx, fun j hj => ?_⟩
  rw [List.any_eq_false] at hn
  have := hn l[j] (by rw [List.mem_take_iff_getElem]; exact ⟨j, by omega, rfl⟩)
  simpa using this
theorem fx_none {α : Type} {P : α → Bool} {l : List α} (hn : l.any P = false) : l.findIdx? P = none := by
  rw [List.findIdx?_eq_none_iff]
  intro x hx
  rw [List.any_eq_false] at hn
  simpa using hn x hx
theorem fx_more {α : Type} {P : α → Bool} {l : List α} {i : Nat} (hi : i < l.length) (hn : (l.take i).any P = false) (hx : P l[i] = false) : (l.take (i + 1)).any P = false := by
  rw [List.take_add_one, List.getElem?_eq_getElem hi, List.any_append, hn]
  simp [hx]
def ixI (o : Option Nat) : Int := match o with | some i => (i : Int) | none => -1
theorem Iv (l : List Qd) (P : Qd → Bool) (p : Str → Int → Int → List Ih → List Bl → Option Bool) (hp : ∀ x : Qd, p x.1 x.2.1 x.2.2.1 x.2.2.2.1 x.2.2.2.2 = some (P x)) (hl : l.length ≤ 140737488355328) :
    ∀ (d i f : Nat), d = l.length - i → i ≤ l.length → d < f → (l.take i).any P = false → Qh l p f (i : Int) = some (ixI (l.findIdx? P)) := by
  intro d
  induction d with
  | zero =>
    intro i f hd hi hf hn
    obtain ⟨f, rfl⟩ : ∃ g, f = g + 1 := ⟨f - 1, by omega⟩
    show Ql (Qh l p f) l p (i : Int) = _
    unfold Ql
    rw [List.take_of_length_le (by omega)] at hn
    rw [show decide ((i : Int) < ((l.length : Nat) : Int)) = false from decide_eq_false (by omega), cond_false, fx_none hn]
    rfl
  | succ d ih =>
    intro i f hd hi hf hn
    obtain ⟨f, rfl⟩ : ∃ g, f = g + 1 := ⟨f - 1, by omega⟩
    have hlt : i < l.length := by omega
    show Ql (Qh l p f) l p (i : Int) = _
    unfold Ql
    rw [show decide ((i : Int) < ((l.length : Nat) : Int)) = true from decide_eq_true (by omega), cond_true, Jo hlt, Option.bind_some, hp, Option.bind_some]
    cases hx : P l[i] with
    | true => rw [cond_true, fx_step hlt hn hx]; rfl
    | false =>
      rw [cond_false, show ((i : Int) + 1) = ((i + 1 : Nat) : Int) by omega, Xy (by omega)]
      exact ih (i + 1) f (by omega) (by omega) (by omega) (fx_more hlt hn hx)
theorem Iw (l : List Bl) (P : Bl → Bool) (p : Str → Str → Int → Option Bool) (hp : ∀ x : Bl, p x.1 x.2.1 x.2.2 = some (P x)) (hl : l.length ≤ 140737488355328) :
    ∀ (d i f : Nat), d = l.length - i → i ≤ l.length → d < f → (l.take i).any P = false → Qj l p f (i : Int) = some (ixI (l.findIdx? P)) := by
  intro d
  induction d with
  | zero =>
    intro i f hd hi hf hn
    obtain ⟨f, rfl⟩ : ∃ g, f = g + 1 := ⟨f - 1, by omega⟩
    show Qn (Qj l p f) l p (i : Int) = _
    unfold Qn
    rw [List.take_of_length_le (by omega)] at hn
    rw [show decide ((i : Int) < ((l.length : Nat) : Int)) = false from decide_eq_false (by omega), cond_false, fx_none hn]
    rfl
  | succ d ih =>
    intro i f hd hi hf hn
    obtain ⟨f, rfl⟩ : ∃ g, f = g + 1 := ⟨f - 1, by omega⟩
    have hlt : i < l.length := by omega
    show Qn (Qj l p f) l p (i : Int) = _
    unfold Qn
    rw [show decide ((i : Int) < ((l.length : Nat) : Int)) = true from decide_eq_true (by omega), cond_true, Jo hlt, Option.bind_some, hp, Option.bind_some]
    cases hx : P l[i] with
    | true => rw [cond_true, fx_step hlt hn hx]; rfl
    | false =>
      rw [cond_false, show ((i : Int) + 1) = ((i + 1 : Nat) : Int) by omega, Xy (by omega)]
      exact ih (i + 1) f (by omega) (by omega) (by omega) (fx_more hlt hn hx)
theorem pl_lt' {l : List Qd} {nm : Str} {k : Nat} (h : pl l nm = some k) : k < l.length := (List.findIdx?_eq_some_iff_getElem.1 h).1
theorem lFind (w g i e : Int) (l : List Qd) (nm : Str) (hl : l.length ≤ 140737488355328) : Yw w g i e l nm = some (Eb l nm) := by
  have h := Iv l (fun x => x.1 == nm) (fun y0 y1 y2 y3 y4 => Jg y0 y1 y2 y3 y4 nm) (fun x => rfl) hl l.length 0 Z0 (by omega) (by omega) (by unfold Z0; omega) rfl
  unfold Yw Q0
  rw [show ((0 : Nat) : Int) = 0 from rfl] at h
  rw [h, Option.bind_some]
  unfold Eb
  show _ = some (match pl l nm with | some k => _ | none => _)
  rw [show l.findIdx? (fun x => x.1 == nm) = pl l nm from rfl]
  cases hp : pl l nm with
  | none => rfl
  | some k =>
    have hk := pl_lt' hp
    have hg : l.getD k E8 = l[k] := by simp [List.getD, hk]
    rw [show decide (ixI (some k) < 0) = false from decide_eq_false (by show ¬ ((k : Nat) : Int) < 0; omega), cond_false]
    show (idx l ((k : Nat) : Int)).bind _ = _
    rw [Jo hk, Option.bind_some]
    simp only [hg]
def tix (l : List Bl) (nm : Str) : Option Nat := l.findIdx? (fun x => x.1 == nm)
def dTok0 : Bl := ([], [], 0)
def tokL (l : List Bl) (nm : Str) : Str × Str × Int × Bool := match tix l nm with
  | some k => ((l.getD k dTok0).1, (l.getD k dTok0).2.1, (l.getD k dTok0).2.2, true)
  | none => ([], [], 0, false)
theorem tix_lt {l : List Bl} {nm : Str} {k : Nat} (h : tix l nm = some k) : k < l.length := (List.findIdx?_eq_some_iff_getElem.1 h).1
theorem lTok (n : Str) (a b : Int) (ns : List Ih) (l : List Bl) (nm : Str) (hl : l.length ≤ 140737488355328) : Yg n a b ns l nm = some (tokL l nm) := by
  have h := Iw l (fun x => x.1 == nm) (fun y0 y1 y2 => Y5 y0 y1 y2 nm) (fun x => rfl) hl l.length 0 Z0 (by omega) (by omega) (by unfold Z0; omega) rfl
  unfold Yg Q2
  rw [show ((0 : Nat) : Int) = 0 from rfl] at h
  rw [h, Option.bind_some]
  unfold tokL
  rw [show l.findIdx? (fun x => x.1 == nm) = tix l nm from rfl]
  cases hp : tix l nm with
  | none => rfl
  | some k =>
    have hk := tix_lt hp
    have hg : l.getD k dTok0 = l[k] := by simp [List.getD, hk]
    rw [show decide (ixI (some k) < 0) = false from decide_eq_false (by show ¬ ((k : Nat) : Int) < 0; omega), cond_false]
    show (idx l ((k : Nat) : Int)).bind _ = _
    rw [Jo hk, Option.bind_some]
    simp only [hg]
theorem H7 (a : Nat) (h : a < 256) : (BitVec.ofInt (IntKind.bits .u8) (a : Int)).toNat = a := by
  show (BitVec.ofInt 8 (a : Int)).toNat = a
  rw [BitVec.ofInt_natCast, BitVec.toNat_ofNat]
  exact Nat.mod_eq_of_lt (by omega)
theorem bOr8 (a b : Nat) (ha : a < 256) (hb : b < 256) : bOr .u8 (a : Int) (b : Int) = ((a ||| b : Nat) : Int) := by
  unfold bOr
  rw [BitVec.toNat_or, H7 a ha, H7 b hb, wrap8]
  have : a ||| b < 2 ^ 8 := Nat.or_lt_two_pow (by omega) (by omega)
  omega
theorem bXor8 (a b : Nat) (ha : a < 256) (hb : b < 256) : Xr .u8 (a : Int) (b : Int) = ((a ^^^ b : Nat) : Int) := by
  unfold Xr
  rw [BitVec.toNat_xor, H7 a ha, H7 b hb, wrap8]
  have : a ^^^ b < 2 ^ 8 := Nat.xor_lt_two_pow (by omega) (by omega)
  omega
theorem or_zero {a b : Nat} : a ||| b = 0 ↔ a = 0 ∧ b = 0 := by
  constructor
  · intro h
    exact ⟨Nat.le_zero.1 (h ▸ Nat.left_le_or), Nat.le_zero.1 (h ▸ Nat.right_le_or)⟩
  · rintro ⟨rfl, rfl⟩; rfl
theorem xor_zero {a b : Nat} : a ^^^ b = 0 ↔ a = b := by
  constructor
  · intro h
    have : a ^^^ b ^^^ b = 0 ^^^ b := by rw [h]
    rwa [Nat.xor_assoc, Nat.xor_self, Nat.xor_zero, Nat.zero_xor] at this
  · rintro rfl; exact Nat.xor_self a
theorem Ho (v x y : UInt8) : (Ds (bOr .u8 ((v.toNat : Nat) : Int) (Xr .u8 ((x.toNat : Nat) : Int) ((y.toNat : Nat) : Int))) = 0) ↔ (v = 0 ∧ x = y) := by
  have hv := v.toNat_lt
  have hx := x.toNat_lt
  have hy := y.toNat_lt
  have hxy : x.toNat ^^^ y.toNat < 2 ^ 8 := Nat.xor_lt_two_pow (by omega) (by omega)
  rw [bXor8 _ _ (by omega) (by omega), bOr8 _ _ (by omega) (by omega), Hu]
  have hor : v.toNat ||| (x.toNat ^^^ y.toNat) < 2 ^ 8 := Nat.or_lt_two_pow (by omega) (by omega)
  constructor
  · intro h
    have h2 := congrArg UInt8.toNat h
    rw [UInt8.toNat_ofNat', Nat.mod_eq_of_lt (by omega)] at h2
    obtain ⟨a, b⟩ := or_zero.1 h2
    exact ⟨UInt8.toNat_inj.1 a, UInt8.toNat_inj.1 (xor_zero.1 b)⟩
  · rintro ⟨rfl, rfl⟩
    rw [Nat.xor_self]
    rfl
theorem same_loop (p q : Str) (hlen : p.length = q.length) (hl : p.length ≤ 140737488355328) : ∀ (d i f : Nat) (v : UInt8), d = p.length - i → i ≤ p.length → d < f → (v = 0 ↔ p.take i = q.take i) → Yy p q f v (i : Int) = some (p == q) := by
  intro d
  induction d with
  | zero =>
    intro i f v hd hi hf hv
    obtain ⟨f, rfl⟩ : ∃ g, f = g + 1 := ⟨f - 1, by omega⟩
    show Yx (Yy p q f) p q v (i : Int) = _
    unfold Yx
    rw [List.take_of_length_le (by omega), List.take_of_length_le (by omega)] at hv
    rw [show decide ((i : Int) < ((p.length : Nat) : Int)) = false from decide_eq_false (by omega), cond_false]
    congr 1
    rw [Bool.eq_iff_iff, beq_iff_eq, beq_iff_eq, ← hv]
    constructor
    · intro h
      exact UInt8.toNat_inj.1 (by show v.toNat = 0; omega)
    · rintro rfl; rfl
  | succ d ih =>
    intro i f v hd hi hf hv
    obtain ⟨f, rfl⟩ : ∃ g, f = g + 1 := ⟨f - 1, by omega⟩
    have hlt : i < p.length := by omega
    have hlt2 : i < q.length := by omega
    show Yx (Yy p q f) p q v (i : Int) = _
    unfold Yx
    rw [show decide ((i : Int) < ((p.length : Nat) : Int)) = true from decide_eq_true (by omega), cond_true, Jo hlt, Option.bind_some, Jo hlt2, Option.bind_some, show ((i : Int) + 1) = ((i + 1 : Nat) : Int) by omega, Xy (by omega)]
    refine ih (i + 1) f _ (by omega) (by omega) (by omega) ?_
    rw [Ho, hv, List.take_add_one, List.take_add_one, List.getElem?_eq_getElem hlt, List.getElem?_eq_getElem hlt2]
    constructor
    · rintro ⟨h1, h2⟩; rw [h1, h2]
    · intro h
      have := List.append_inj h (by simp; omega)
      exact ⟨this.1, by simpa using this.2⟩
theorem lSame (p q : Str) (hl : p.length ≤ 140737488355328) : Nx p q = some (p == q) := by
  unfold Nx
  by_cases h : p.length = q.length
  · rw [h, bne_self_eq_false, cond_false]
    exact same_loop p q h hl p.length 0 Z0 0 (by omega) (by omega) (by unfold Z0; omega) (by simp)
  · rw [show ((((List.length p : Nat) : Int)) != ((List.length q : Nat) : Int)) = true by rw [bne_iff_ne]; omega, cond_true]
    congr 1
    symm
    rw [beq_eq_false_iff_ne]
    rintro rfl
    exact h rfl
structure VC (l : List Qd) : Prop where
  len : l.length ≤ 9000
  q : ∀ t ∈ l, TenQ t
  s : ∀ t ∈ l, TenS t
  o : ∀ t ∈ l, E6 t = true
def Ch (l : List Qd) (t k : Str) : Str × Str × Int × Bool := tokL (Eb l t).2.2.2.2.1 k
def Ek (l : List Qd) (M : Yi) (t k : Str) (now : Int) : Bool := (Ch l t k).2.2.2 && ((Ua M (t, k) == 0) && decide (now < (Ch l t k).2.2.1))
def Nz (l : List Qd) (t k n : Str) : Str := cond (Ch l t k).2.2.2 (Be (Ch l t k).2.1 [t, k, n]) []
def U4 (l : List Qd) (M : Yi) (t k n p : Str) (now : Int) : Int := cond (Ek l M t k now) (cond (Nz l t k n == []) 101 (cond (p == Nz l t k n) 0 101)) 3
def vRevB (l : List Qd) (M : Yi) (t k : Str) : Bool := (Ch l t k).2.2.2 && (Ua M (t, k) == 0)
def vRevM (l : List Qd) (M : Yi) (t k : Str) : Yi := cond (Ch l t k).2.2.2 (H4 M (t, k) (Ua M (t, k) + 1)) M
section
variable {l : List Qd} (hv : VC l)
include hv
theorem D3 (t : Str) : (Eb l t).2.2.2.2.1.length ≤ 9000 := by
  unfold Eb
  cases hp : pl l t with
  | none => simp
  | some k =>
    have hk := pl_lt' hp
    have hg : l.getD k E8 = l[k] := by simp [List.getD, hk]
    simp only [hg]
    exact (hv.s _ (List.getElem_mem hk)).2.2.1
theorem Hp {t k : Str} (h : (Ch l t k).2.2.2 = true) : (Ch l t k).2.1.length ≤ 32 ∧ 0 ≤ (Ch l t k).2.2.1 ∧ (Ch l t k).2.2.1 ≤ 1099511627776 ∧ t.length ≤ 20 ∧ k.length ≤ 20 := by
  unfold Ch at h ⊢
  unfold Eb at h ⊢
  cases hp : pl l t with
  | none =>
    rw [hp] at h
    simp [tokL, tix] at h
  | some i =>
    have hi := pl_lt' hp
    have hg : l.getD i E8 = l[i] := by simp [List.getD, hi]
    rw [hp] at h
    simp only [hg] at h ⊢
    have ho := hv.o _ (List.getElem_mem hi)
    have hname : l[i].1 = t := by
      have := (List.findIdx?_eq_some_iff_getElem.1 hp).2.1
      simpa using this
    unfold E6 at ho
    simp only [Bool.and_eq_true, List.all_eq_true] at ho
    have hn := ho.2.1.1
    unfold Bz at hn
    simp only [Bool.and_eq_true, decide_eq_true_eq] at hn
    unfold tokL at h ⊢
    cases hp2 : tix l[i].2.2.2.2 k with
    | none => rw [hp2] at h; cases h
    | some j =>
      have hj := tix_lt hp2
      have hg2 : l[i].2.2.2.2.getD j dTok0 = l[i].2.2.2.2[j] := by simp [List.getD, hj]
      simp only [hg2]
      have hk := ho.1.2 _ (List.getElem_mem hj)
      have hname2 : l[i].2.2.2.2[j].1 = k := by
        have := (List.findIdx?_eq_some_iff_getElem.1 hp2).2.1
        simpa using this
      unfold Ii Bz at hk
      simp only [Bool.and_eq_true, decide_eq_true_eq] at hk
      rw [hname2] at hk
      rw [hname] at hn
      exact ⟨hk.2.1.2, hk.2.2.1, hk.2.2.2, hn.1.1.1.2, hk.1.1.1.1.2⟩
variable (w g i e : Int) (M : Yi) (t k : Str)
theorem pVGood (now : Int) : Xe w g i e l M t k now = some (Ek l M t k now) := by
  unfold Xe Za Vl
  rw [lFind _ _ _ _ _ _ (by have := hv.len; omega), Option.bind_some, lTok _ _ _ _ _ _ (by have := D3 hv t; omega), Option.bind_some]
  rw [show tokL (Eb l t).2.2.2.2.1 k = Ch l t k from rfl]
  unfold Ek
  cases h : (Ch l t k).2.2.2 with
  | false => rfl
  | true =>
    obtain ⟨_, _, _, h1, h2⟩ := Hp hv h
    rw [cond_true]
    unfold Yl Zu
    rw [show (Nat.ble t.length 140737488355328 && Nat.ble k.length 140737488355328) = true by simp; omega]
    simp only [chk, Option.bind_some]
    cases (Ua M (t, k) == 0) <;> rfl
theorem pVWant (n : Str) : Zv w g i e l M t k n = some (Nz l t k n) := by
  unfold Zv Zb Vm
  rw [lFind _ _ _ _ _ _ (by have := hv.len; omega), Option.bind_some, lTok _ _ _ _ _ _ (by have := D3 hv t; omega), Option.bind_some]
  rw [show tokL (Eb l t).2.2.2.2.1 k = Ch l t k from rfl]
  unfold Nz
  cases h : (Ch l t k).2.2.2 with
  | false => rfl
  | true =>
    obtain ⟨h1, _⟩ := Hp hv h
    rw [cond_true, cond_true]
    unfold Ym
    rw [show Nat.ble (Ch l t k).2.1.length 281474976710656 = true by simp; omega]
    simp only [chk, Option.bind_some]
    rw [It _ (by omega) _ (by simp)]
    rfl
theorem pVRevoke (hM : 0 ≤ Ua M (t, k) ∧ Ua M (t, k) ≤ 1000000) : Xq w g i e l M t k = some (vRevB l M t k, w, g, i, e, vRevM l M t k) := by
  unfold Xq V2 Vh
  rw [lFind _ _ _ _ _ _ (by have := hv.len; omega), Option.bind_some, lTok _ _ _ _ _ _ (by have := D3 hv t; omega), Option.bind_some]
  rw [show tokL (Eb l t).2.2.2.2.1 k = Ch l t k from rfl]
  unfold vRevB vRevM
  cases h : (Ch l t k).2.2.2 with
  | false => rfl
  | true =>
    obtain ⟨_, _, _, h1, h2⟩ := Hp hv h
    rw [cond_true]
    unfold X2
    rw [show (Nat.ble t.length 140737488355328 && Nat.ble k.length 140737488355328) = true by simp; omega]
    simp only [chk, Option.bind_some, cond_true, Bool.true_and]
    rw [Rj (by omega), Cc, if_pos rfl]
    rw [show (Ua M (t, k) + 1 == 1) = (Ua M (t, k) == 0) by rw [Bool.eq_iff_iff, beq_iff_eq, beq_iff_eq]; omega]
omit hv in
theorem Fk (n : Str) : (Nz l t k n).length ≤ 64 := by
  unfold Nz
  cases (Ch l t k).2.2.2 with
  | false => simp
  | true =>
    rw [cond_true]
    by_cases h : ∀ x ∈ [t, k, n], x.length ≤ 255
    · rw [Ei h]; omega
    · unfold Be
      rw [if_neg (by simpa [List.all_eq_true] using h)]
      simp
omit hv in
theorem beq_sym (a b : Str) : (a == b) = (b == a) := by rw [Bool.eq_iff_iff, beq_iff_eq, beq_iff_eq]; exact eq_comm
theorem pVCheck (n p : Str) (hp : p.length ≤ 140737488355328) (now : Int) : X1 w g i e l M t k n p now = some (U4 l M t k n p now) := by
  unfold X1 Z1 U4
  rw [pVGood hv, Option.bind_some, pVWant hv, Option.bind_some]
  have hw := Fk (l := l) t k n
  cases Ek l M t k now with
  | false => rfl
  | true =>
    rw [show (!true) = false from rfl, cond_false, cond_true]
    cases h : (Nz l t k n == []) with
    | true => rfl
    | false =>
      rw [cond_false, cond_false, show Nat.ble (Nz l t k n).length 281474976710656 = true by simp; omega, show Nat.ble p.length 281474976710656 = true by simp; omega]
      simp only [chk, Option.bind_some]
      rw [lSame _ _ (by omega), Option.bind_some, beq_sym p]
      cases (Nz l t k n == p) <;> rfl
end
theorem pVNew (w g i e : Int) (l : List Qd) (hl : l.length ≤ 140737488355328) (hq : ∀ t ∈ l, TenQ t) : J5 w g i e l = some (cond (E7 w g i e l) (some (w, g, i, e, [])) none) := by
  unfold J5
  rw [lCfg w g i e l hl hq, Option.bind_some]
  cases E7 w g i e l <;> rfl
theorem vc_of {w g i e : Int} {l : List Qd} (hk : E7 w g i e l = true) (hl : l.length ≤ 9000) (hq : ∀ t ∈ l, TenQ t) (hs : ∀ t ∈ l, TenS t) : VC l := by
  refine ⟨hl, hq, hs, ?_⟩
  unfold E7 at hk
  simp only [Bool.and_eq_true, List.all_eq_true] at hk
  exact hk.2.2.1
end Go.Proofs.YtmgfanhcdfobhaaGreatDoor
namespace Go.Proofs.YtmgfanhcdfobhaaGreatDoor
abbrev headV : List Qd := [(([97, 110, 110] : List UInt8), 0, 0, ([] : List (Int × Int)), ([(([107] : List UInt8), ([115] : List UInt8), 5)] : List ((List UInt8) × (List UInt8) × Int)))]
theorem headV_q : ∀ t ∈ headV, TenQ t := by
  intro t ht
  have : t = (([97, 110, 110] : List UInt8), 0, 0, ([] : List (Int × Int)), ([(([107] : List UInt8), ([115] : List UInt8), 5)] : List ((List UInt8) × (List UInt8) × Int))) := by simpa [headV] using ht
  subst this
  refine ⟨by decide, by decide, by decide, (fun n hn => by cases hn), fun x hx => ?_⟩
  have : x = (([107] : List UInt8), ([115] : List UInt8), 5) := by simpa using hx
  subst this
  decide
theorem headVNew : J5 9 9 9 9 headV = some (some (9, 9, 9, 9, [])) := by
  rw [pVNew 9 9 9 9 headV (by decide) headV_q, show E7 9 9 9 9 headV = true by kernel_rfl]
  rfl
theorem optE_s {α β : Type} (x : α) (a : Option β) (f : α → Option β) : optE (some x) a f = f x := rfl
theorem rev_get (l : List Qd) (M : Yi) (t k : Str) (x : Str × Str) : Ua (vRevM l M t k) x = if (Ch l t k).2.2.2 = true ∧ (t, k) = x then Ua M (t, k) + 1 else Ua M x := by
  unfold vRevM
  cases h : (Ch l t k).2.2.2 with
  | false => rw [cond_false, if_neg (by simp)]
  | true =>
    rw [cond_true, Cc]
    simp
end Go.Proofs.YtmgfanhcdfobhaaGreatDoor
namespace Go.Proofs.YtmgfanhcdfobhaaGreatDoor
def Zc (c : Int) (g : Nat) : Value := cond (c == 1) (.func (.func 57) #[pt g 0] #[]) (cond (c == 2) (.func (.func 75) #[pt g 0] #[]) .nilFunc)
def Cm (c : Int) : Bool := cond (c == 1) false (cond (c == 2) false true)
theorem stepV_1 {c : Int} {g : Nat} (h : (c == 1) = true) : Zc c g = .func (.func 57) #[pt g 0] #[] := by unfold Zc; rw [h]; rfl
theorem stepV_2 {c : Int} {g : Nat} (h1 : (c == 1) = false) (h : (c == 2) = true) : Zc c g = .func (.func 75) #[pt g 0] #[] := by unfold Zc; rw [h1, h]; rfl
end Go.Proofs.YtmgfanhcdfobhaaGreatDoor
namespace Go.Proofs.YtmgfanhcdfobhaaGreatDoor
open Go.RowKit
def Zx (q3 : Int) (q4 : Int) (q5 : Int) (q6 : Int) (q7 : (List Qd)) (f : Yi) (g : Int) (a : (List UInt8)) (b : (List UInt8)) (c : (List UInt8)) (d : Bool) (e : Int) : Option (Int × (List UInt8) × (List UInt8) × Int × Int × Int × (List UInt8) × (List UInt8) × (List UInt8) × Bool) :=
  (some (5, ([] : List UInt8), ([] : List UInt8), e, 0, 0, a, b, c, d))
set_option maxRecDepth 100000 in
set_option maxHeartbeats 4000000 in
theorem Yh {S : List Nat} (g1 : Nat) (g2 : Nat) (A8 : Option Addr) (c9 : Nat) (c : Nat) (q3 : Int) (q4 : Int) (q5 : Int) (q6 : Int) (f : (List Q6)) (h : Yi) (p : Int) (j : (List UInt8)) (l : (List UInt8)) (m : (List UInt8)) (o : Bool) (b : Int) (w0 : World) (hO : SP S w0 w0 [Qo g2 79 #[(.int .i64 q3), (.int .i64 q4), (.int .i64 q5), (.int .i64 q6), (.slice A8 (List.length (List.map stT f)) c9), (.map (some c))], Vf c h, Qo g1 95 #[(pt g2 0), (Zc p g1), (.string ⟨List.toArray j⟩), (.string ⟨List.toArray l⟩), (.string ⟨List.toArray m⟩), (.bool o)]]) (a2 : ∀ w, Mod S w0 w → (dDS J9 Bb).ok w (A8, c9, f)) (r : (Int × (List UInt8) × (List UInt8) × Int × Int × Int × (List UInt8) × (List UInt8) × (List UInt8) × Bool)) (H : Zx q3 q4 q5 q6 (List.map stT f) h p j l m o b = some r) :
  Calls Tryz.prog 74 #[(pt g1 0), (.int .i64 b)] w0 (fun e w' => e = .returned (.agg #[(.int .i64 r.1), (.string ⟨List.toArray r.2.1⟩), (.string ⟨List.toArray r.2.2.1⟩), (.int .i64 r.2.2.2.1), (.int .i64 r.2.2.2.2.1)]) ∧ SP S w0 w' [Qo g2 79 #[(.int .i64 q3), (.int .i64 q4), (.int .i64 q5), (.int .i64 q6), (.slice A8 (List.length (List.map stT f)) c9), (.map (some c))], Vf c h, Qo g1 95 #[(pt g2 0), (Zc r.2.2.2.2.2.1 g1), (.string ⟨List.toArray r.2.2.2.2.2.2.1⟩), (.string ⟨List.toArray r.2.2.2.2.2.2.2.1⟩), (.string ⟨List.toArray r.2.2.2.2.2.2.2.2.1⟩), (.bool r.2.2.2.2.2.2.2.2.2)]]) := by
 unfold Zx at H
 refine Qu (n := 10) Tryz.func74 K K K ?_
 have u := hO
 refine aQ ?_
 refine aR ?_
 refine iS 1 ?_
 refine Qi.alloc (t := 63) (z := (.agg #[(.int .i64 0), (.string ⟨List.toArray ([] : List UInt8)⟩), (.string ⟨List.toArray ([] : List UInt8)⟩), (.int .i64 0), (.int .i64 0)])) (d := (some 4)) (k := 0) K rfl K u ?_
 intro q a3 a0
 refine iF ?_
 refine aQ ?_
 refine aR ?_
 refine iR 3 3 [(5, (pt g1 0)), (6, (pt g1 0)), (7, (pt g1 1))] ?_
 refine iS 4 ?_
 refine Qi.store (t := 93) (x := (.tmp 7)) (y := (.const .nilFunc)) (g := g1) (off := 1) (i := 2) (v := .nilFunc) (cs' := #[(pt g2 0), .nilFunc, (.string ⟨List.toArray j⟩), (.string ⟨List.toArray l⟩), (.string ⟨List.toArray m⟩), (.bool o)]) (d := none) (k := 3) K rfl K K a0 rfl K ?_
 intro a4 a1
 refine iF ?_
 refine aQ ?_
 refine aR ?_
 refine iR 2 2 [(8, (.int .i64 b)), (9, (.agg #[(.int .i64 5), (.string ⟨List.toArray ([] : List UInt8)⟩), (.string ⟨List.toArray ([] : List UInt8)⟩), (.int .i64 b), (.int .i64 0)]))] ?_
 refine iS 3 ?_
 refine Qi.store (t := 63) (x := (.tmp 4)) (y := (.tmp 9)) (g := q) (off := 0) (i := 3) (v := (.agg #[(.int .i64 5), (.string ⟨List.toArray ([] : List UInt8)⟩), (.string ⟨List.toArray ([] : List UInt8)⟩), (.int .i64 b), (.int .i64 0)])) (cs' := #[(.int .i64 5), (.string ⟨List.toArray ([] : List UInt8)⟩), (.string ⟨List.toArray ([] : List UInt8)⟩), (.int .i64 b), (.int .i64 0)]) (d := none) (k := 2) K rfl K K a1 rfl K ?_
 intro a5 s
 refine iF ?_
 refine At.ret K ?_
 refine ⟨(.agg #[(.int .i64 5), (.string ⟨List.toArray ([] : List UInt8)⟩), (.string ⟨List.toArray ([] : List UInt8)⟩), (.int .i64 b), (.int .i64 0)]), Rr K (Ub (a := 4) (t := 63) (g := q) (off := 0) K (SP.get s (i := 3) rfl) K), ?_⟩
 obtain rfl := Qg H
 exact ⟨rfl, SP.sel s [0,1,2] rfl rfl⟩
def Y0 (q3 : Int) (q4 : Int) (q5 : Int) (q6 : Int) (q7 : (List Qd)) (e : Yi) (f : Int) (g : (List UInt8)) (h : (List UInt8)) (i : (List UInt8)) (c : Bool) (j : Int) (k : (List UInt8)) (l : (List UInt8)) (m : Int) (n : Int) (o : Int) (b : (List UInt8)) : Option (Int × (List UInt8) × (List UInt8) × Int × Int × Int × (List UInt8) × (List UInt8) × (List UInt8) × Bool) :=
  (cond (j != 1) ((Zx q3 q4 q5 q6 q7 e f g h i c 1).bind fun a => (some (a.1, a.2.1, a.2.2.1, a.2.2.2.1, a.2.2.2.2.1, a.2.2.2.2.2.1, a.2.2.2.2.2.2.1, a.2.2.2.2.2.2.2.1, a.2.2.2.2.2.2.2.2.1, a.2.2.2.2.2.2.2.2.2))) ((sub b 0 (if 64 < ((List.length b : Nat) : Int) then 64 else ((List.length b : Nat) : Int))).bind fun d => (some (2, d, ([] : List UInt8), 0, 0, 2, k, l, d, c))))
set_option maxRecDepth 100000 in
set_option maxHeartbeats 4000000 in
theorem N0 {S : List Nat} (g1 : Nat) (g2 : Nat) (A8 : Option Addr) (c9 : Nat) (q : Nat) (q3 : Int) (q4 : Int) (q5 : Int) (q6 : Int) (a0 : (List Q6)) (a4 : Yi) (a1 : Int) (b0 : (List UInt8)) (a8 : (List UInt8)) (a5 : (List UInt8)) (s : Bool) (u : Int) (h : (List UInt8)) (m : (List UInt8)) (a6 : Int) (a7 : Int) (b5 : Int) (c : (List UInt8)) (w0 : World) (hO : SP S w0 w0 [Qo g2 79 #[(.int .i64 q3), (.int .i64 q4), (.int .i64 q5), (.int .i64 q6), (.slice A8 (List.length (List.map stT a0)) c9), (.map (some q))], Vf q a4, Qo g1 95 #[(pt g2 0), (Zc a1 g1), (.string ⟨List.toArray b0⟩), (.string ⟨List.toArray a8⟩), (.string ⟨List.toArray a5⟩), (.bool s)]]) (c1 : ∀ w, Mod S w0 w → (dDS J9 Bb).ok w (A8, c9, a0)) (r : (Int × (List UInt8) × (List UInt8) × Int × Int × Int × (List UInt8) × (List UInt8) × (List UInt8) × Bool)) (H : Y0 q3 q4 q5 q6 (List.map stT a0) a4 a1 b0 a8 a5 s u h m a6 a7 b5 c = some r) :
  Calls Tryz.prog 57 #[(pt g1 0), (.agg #[(.int .i64 u), (.string ⟨List.toArray h⟩), (.string ⟨List.toArray m⟩), (.int .i64 a6), (.int .i64 a7)]), (.int .i64 b5), (.string ⟨List.toArray c⟩)] w0 (fun e w' => e = .returned (.agg #[(.int .i64 r.1), (.string ⟨List.toArray r.2.1⟩), (.string ⟨List.toArray r.2.2.1⟩), (.int .i64 r.2.2.2.1), (.int .i64 r.2.2.2.2.1)]) ∧ SP S w0 w' [Qo g2 79 #[(.int .i64 q3), (.int .i64 q4), (.int .i64 q5), (.int .i64 q6), (.slice A8 (List.length (List.map stT a0)) c9), (.map (some q))], Vf q a4, Qo g1 95 #[(pt g2 0), (Zc r.2.2.2.2.2.1 g1), (.string ⟨List.toArray r.2.2.2.2.2.2.1⟩), (.string ⟨List.toArray r.2.2.2.2.2.2.2.1⟩), (.string ⟨List.toArray r.2.2.2.2.2.2.2.2.1⟩), (.bool r.2.2.2.2.2.2.2.2.2)]]) := by
 unfold Y0 at H
 refine Qu (n := 42) Tryz.func57 K K K ?_
 have c2 := hO
 refine aQ ?_
 refine aR ?_
 refine iS 1 ?_
 refine Vn (t := 63) (x := (.tmp 1)) (v := (.agg #[(.int .i64 u), (.string ⟨List.toArray h⟩), (.string ⟨List.toArray m⟩), (.int .i64 a6), (.int .i64 a7)])) (d := (some 5)) (k := 0) K rfl K c2 ?_
 intro p e2 c3
 refine iS 2 ?_
 refine Qi.alloc (t := 63) (z := (.agg #[(.int .i64 0), (.string ⟨List.toArray ([] : List UInt8)⟩), (.string ⟨List.toArray ([] : List UInt8)⟩), (.int .i64 0), (.int .i64 0)])) (d := (some 8)) (k := 1) K rfl K c3 ?_
 intro a2 c4 a9
 refine iF ?_
 refine aQ ?_
 refine aQ ?_
 refine aR ?_
 refine iR 1 1 [(9, (pt p 0))] ?_
 refine iS 2 ?_
 refine sL 3 9 p 0 3 (.int .i64 u) 10 a9 rfl ?_
 refine iR 1 3 [(11, (.bool (u != 1)))] ?_
 refine iF ?_
 refine Zq K (o := (.tmp 11)) K (b := (u != 1)) K (fun b1 => ?_) (fun b1 => ?_)
 ·have H := ct H b1
  refine aQ ?_
  refine aR ?_
  refine iR 1 1 [(12, (pt g1 0))] ?_
  obtain ⟨f, c5, H⟩ := Qc H
  refine iS 2 ?_
  refine cF 74 #[(.tmp 12), (.const (.int .i64 (1)))] #[60, 38] 13 Tryz.call74 (Yh g1 g2 A8 c9 q q3 q4 q5 q6 a0 a4 a1 b0 a8 a5 s 1 c4 (Xs a9 [0, 1, 2] rfl rfl) (fun w hm => c1 w (SP.through a9 (l := [0, 1, 2]) rfl hm)) f c5) ?_
  rintro e c6 ⟨rfl, b6⟩
  refine ⟨_, rfl, ?_⟩
  have c7 : SP S w0 c6 [Qo p 63 #[(.int .i64 u), (.string ⟨List.toArray h⟩), (.string ⟨List.toArray m⟩), (.int .i64 a6), (.int .i64 a7)], Qo a2 63 #[(.int .i64 0), (.string ⟨List.toArray ([] : List UInt8)⟩), (.string ⟨List.toArray ([] : List UInt8)⟩), (.int .i64 0), (.int .i64 0)], Qo g2 79 #[(.int .i64 q3), (.int .i64 q4), (.int .i64 q5), (.int .i64 q6), (.slice A8 (List.length (List.map stT a0)) c9), (.map (some q))], Vf q a4, Qo g1 95 #[(pt g2 0), (Zc f.2.2.2.2.2.1 g1), (.string ⟨List.toArray f.2.2.2.2.2.2.1⟩), (.string ⟨List.toArray f.2.2.2.2.2.2.2.1⟩), (.string ⟨List.toArray f.2.2.2.2.2.2.2.2.1⟩), (.bool f.2.2.2.2.2.2.2.2.2)]] := Vv a9 [0, 1, 2] [3, 4] rfl rfl b6 rfl
  clear b6
  refine iS 3 ?_
  refine Qi.store (t := 63) (x := (.tmp 8)) (y := (.tmp 13)) (g := a2) (off := 0) (i := 1) (v := (.agg #[(.int .i64 f.1), (.string ⟨List.toArray f.2.1⟩), (.string ⟨List.toArray f.2.2.1⟩), (.int .i64 f.2.2.2.1), (.int .i64 f.2.2.2.2.1)])) (cs' := #[(.int .i64 f.1), (.string ⟨List.toArray f.2.1⟩), (.string ⟨List.toArray f.2.2.1⟩), (.int .i64 f.2.2.2.1), (.int .i64 f.2.2.2.2.1)]) (d := none) (k := 2) K rfl K K c7 rfl K ?_
  intro e3 b7
  refine iF ?_
  refine At.ret K ?_
  refine ⟨(.agg #[(.int .i64 f.1), (.string ⟨List.toArray f.2.1⟩), (.string ⟨List.toArray f.2.2.1⟩), (.int .i64 f.2.2.2.1), (.int .i64 f.2.2.2.2.1)]), Rr K (Ub (a := 8) (t := 63) (g := a2) (off := 0) K (SP.get b7 (i := 1) rfl) K), ?_⟩
  obtain rfl := Qg H
  exact ⟨rfl, SP.sel b7 [2,3,4] rfl rfl⟩
 ·have H := cf H b1
  refine At.skip K ?_
  refine aQ ?_
  obtain ⟨b2, b3, b4, H⟩ := N4 H
  obtain ⟨a3, hyl142⟩ : ∃ y, (List.drop (Int.toNat 0) (List.take (Int.toNat (if 64 < ((List.length c : Nat) : Int) then 64 else ((List.length c : Nat) : Int))) c)) = y := ⟨_, rfl⟩
  rw [hyl142] at H
  refine aG [GEq (pt g1 0), GEq (pt g1 0), GEq (pt g1 0), GEq (pt p 1), GEq (.string ⟨List.toArray h⟩), GEq (pt p 2), GEq (.string ⟨List.toArray m⟩), GEq (.string ⟨List.toArray c⟩), GEq (.string ⟨List.toArray c⟩), GEq (.int .i64 ((List.length c : Nat) : Int)), GEq (.int .i64 (if 64 < ((List.length c : Nat) : Int) then 64 else ((List.length c : Nat) : Int))), GEq (.string ⟨List.toArray a3⟩), GEq (pt g1 0), GEq (pt g1 2), Cg, GEq (pt g1 0), GEq (pt g1 3), Cg, GEq (pt g1 0), GEq (pt g1 4), Cg] [14, 17, 20] [sG [] [] S w0 [Qo g2 79 #[(.int .i64 q3), (.int .i64 q4), (.int .i64 q5), (.int .i64 q6), (.slice A8 (List.length (List.map stT a0)) c9), (.map (some q))], Vf q a4, Qo g1 95 #[(pt g2 0), (Zc a1 g1), (.string ⟨List.toArray b0⟩), (.string ⟨List.toArray a8⟩), (.string ⟨List.toArray a5⟩), (.bool s)], Qo p 63 #[(.int .i64 u), (.string ⟨List.toArray h⟩), (.string ⟨List.toArray m⟩), (.int .i64 a6), (.int .i64 a7)], Qo a2 63 #[(.int .i64 0), (.string ⟨List.toArray ([] : List UInt8)⟩), (.string ⟨List.toArray ([] : List UInt8)⟩), (.int .i64 0), (.int .i64 0)]], sG [14] [undef] S w0 [Qo g2 79 #[(.int .i64 q3), (.int .i64 q4), (.int .i64 q5), (.int .i64 q6), (.slice A8 (List.length (List.map stT a0)) c9), (.map (some q))], Vf q a4, Qo g1 95 #[(pt g2 0), (Zc a1 g1), (.string ⟨List.toArray h⟩), (.string ⟨List.toArray a8⟩), (.string ⟨List.toArray a5⟩), (.bool s)], Qo p 63 #[(.int .i64 u), (.string ⟨List.toArray h⟩), (.string ⟨List.toArray m⟩), (.int .i64 a6), (.int .i64 a7)], Qo a2 63 #[(.int .i64 0), (.string ⟨List.toArray ([] : List UInt8)⟩), (.string ⟨List.toArray ([] : List UInt8)⟩), (.int .i64 0), (.int .i64 0)]], sG [14, 17] [undef, undef] S w0 [Qo g2 79 #[(.int .i64 q3), (.int .i64 q4), (.int .i64 q5), (.int .i64 q6), (.slice A8 (List.length (List.map stT a0)) c9), (.map (some q))], Vf q a4, Qo g1 95 #[(pt g2 0), (Zc a1 g1), (.string ⟨List.toArray h⟩), (.string ⟨List.toArray m⟩), (.string ⟨List.toArray a5⟩), (.bool s)], Qo p 63 #[(.int .i64 u), (.string ⟨List.toArray h⟩), (.string ⟨List.toArray m⟩), (.int .i64 a6), (.int .i64 a7)], Qo a2 63 #[(.int .i64 0), (.string ⟨List.toArray ([] : List UInt8)⟩), (.string ⟨List.toArray ([] : List UInt8)⟩), (.int .i64 0), (.int .i64 0)]], sG [14, 17, 20] [undef, undef, undef] S w0 [Qo g2 79 #[(.int .i64 q3), (.int .i64 q4), (.int .i64 q5), (.int .i64 q6), (.slice A8 (List.length (List.map stT a0)) c9), (.map (some q))], Vf q a4, Qo g1 95 #[(pt g2 0), (Zc a1 g1), (.string ⟨List.toArray h⟩), (.string ⟨List.toArray m⟩), (.string ⟨List.toArray a3⟩), (.bool s)], Qo p 63 #[(.int .i64 u), (.string ⟨List.toArray h⟩), (.string ⟨List.toArray m⟩), (.int .i64 a6), (.int .i64 a7)], Qo a2 63 #[(.int .i64 0), (.string ⟨List.toArray ([] : List UInt8)⟩), (.string ⟨List.toArray ([] : List UInt8)⟩), (.int .i64 0), (.int .i64 0)]]] 21 3 ⟨trivial, SP.drew a9⟩ ?_ ?_
  iterate 21 refine And.intro ?_ ?_
  exact trivial
  ·exact oV (hC (hS 0 (pt g1 0)) (h0)) (pt g1 0)
  ·exact oV (hC (hS 0 (pt g1 0)) (h0)) (pt g1 0)
  ·exact oV (hC (hS 0 (pt g1 0)) (h0)) (pt g1 0)
  ·exact oV (hC (hS 5 (pt p 0)) (h0)) (pt p 1)
  ·refine oL 0 ?_
   ·rintro ρ' w' hs hah ⟨e4, c8⟩
    refine kM (kc (kA hah 3 17) k0) fun hkn => ?_
    refine sL 9 17 p 1 3 (.string ⟨List.toArray h⟩) 18 c8 rfl ?_
    exact eK hkn
  ·exact oV (hC (hS 5 (pt p 0)) (h0)) (pt p 2)
  ·refine Owe.light K [0, 1] K (Qm ?_ (Qm ?_ Vy))
   ·rintro ρ' w' hs hah ⟨e5, d0⟩
    refine kM (kc (kA hah 5 19) k0) fun hkn => ?_
    refine sL 9 19 p 2 3 (.string ⟨List.toArray m⟩) 20 d0 rfl ?_
    exact eK hkn
   ·rintro ρ' w' hs hah ⟨⟨e6, -⟩, d1⟩
    refine kM (kc (kA hah 5 19) k0) fun hkn => ?_
    refine sL 9 19 p 2 3 (.string ⟨List.toArray m⟩) 20 d1 rfl ?_
    exact eK hkn
  ·exact oV (hC (hS 3 (.string ⟨List.toArray c⟩)) (h0)) (.string ⟨List.toArray c⟩)
  ·exact oV (hC (hS 3 (.string ⟨List.toArray c⟩)) (h0)) (.string ⟨List.toArray c⟩)
  ·exact oV (hC (hA 8 22) (h0)) (.int .i64 ((List.length c : Nat) : Int))
  ·exact oV (hC (hA 9 23) (h0)) (.int .i64 (if 64 < ((List.length c : Nat) : Int) then 64 else ((List.length c : Nat) : Int)))
  ·refine Owe.light K [0, 1, 2] K (Qm ?_ (Qm ?_ (Qm ?_ Vy)))
   ·rintro ρ' w' hs hah ⟨e7, e8⟩
    refine kM (kc (kA hah 7 21) (kc (kA hah 10 24) k0)) fun hkn => ?_
    refine N5 (a := c) (T := 9) (x := (.tmp 21)) (lo := none) (hi := (some (.tmp 24))) (i := 0) (j := (if 64 < ((List.length c : Nat) : Int) then 64 else ((List.length c : Nat) : Int))) (d := (some 25)) (k := 11) K rfl K K rfl ⟨.i64, K⟩ b2 b3 b4 ?_
    rw [hyl142]
    exact eK hkn
   ·rintro ρ' w' hs hah ⟨⟨e9, -⟩, f0⟩
    refine kM (kc (kA hah 7 21) (kc (kA hah 10 24) k0)) fun hkn => ?_
    refine N5 (a := c) (T := 9) (x := (.tmp 21)) (lo := none) (hi := (some (.tmp 24))) (i := 0) (j := (if 64 < ((List.length c : Nat) : Int) then 64 else ((List.length c : Nat) : Int))) (d := (some 25)) (k := 11) K rfl K K rfl ⟨.i64, K⟩ b2 b3 b4 ?_
    rw [hyl142]
    exact eK hkn
   ·rintro ρ' w' hs hah ⟨⟨f1, f2, -⟩, f3⟩
    refine kM (kc (kA hah 7 21) (kc (kA hah 10 24) k0)) fun hkn => ?_
    refine N5 (a := c) (T := 9) (x := (.tmp 21)) (lo := none) (hi := (some (.tmp 24))) (i := 0) (j := (if 64 < ((List.length c : Nat) : Int) then 64 else ((List.length c : Nat) : Int))) (d := (some 25)) (k := 11) K rfl K K rfl ⟨.i64, K⟩ b2 b3 b4 ?_
    rw [hyl142]
    exact eK hkn
  ·exact oV (hC (hA 0 14) (h0)) (pt g1 0)
  ·exact oV (hC (hA 12 26) (h0)) (pt g1 2)
  ·refine oH 0 1 ?_
   ·rintro ρ' w' hs hah ⟨f4, d2⟩
    refine kM (kc (kA hah 13 27) (kc (kA hah 4 18) k0)) fun hkn => ?_
    refine Qi.store (t := 9) (x := (.tmp 27)) (y := (.tmp 18)) (g := g1) (off := 2) (i := 2) (v := (.string ⟨List.toArray h⟩)) (cs' := #[(pt g2 0), (Zc a1 g1), (.string ⟨List.toArray h⟩), (.string ⟨List.toArray a8⟩), (.string ⟨List.toArray a5⟩), (.bool s)]) (d := none) (k := 14) K rfl K K d2 rfl K ?_
    intro f5 d3
    refine ⟨_, Qb hkn, trivial, ?_⟩
    exact (And.intro (And.intro rfl (trivial)) (d3))
  ·exact oV (hC (hA 1 15) (h0)) (pt g1 0)
  ·exact oV (hC (hA 15 28) (h0)) (pt g1 3)
  ·refine oH 1 2 ?_
   ·rintro ρ' w' hs hah ⟨⟨d4, -⟩, d5⟩
    refine kM (kc (kA hah 16 29) (kc (kA hah 6 20) k0)) fun hkn => ?_
    refine Qi.store (t := 9) (x := (.tmp 29)) (y := (.tmp 20)) (g := g1) (off := 3) (i := 2) (v := (.string ⟨List.toArray m⟩)) (cs' := #[(pt g2 0), (Zc a1 g1), (.string ⟨List.toArray h⟩), (.string ⟨List.toArray m⟩), (.string ⟨List.toArray a5⟩), (.bool s)]) (d := none) (k := 17) K rfl K K d5 rfl K ?_
    intro f6 d6
    refine ⟨_, Qb hkn, trivial, ?_⟩
    exact (And.intro (And.intro d4 (And.intro rfl (trivial))) (d6))
  ·exact oV (hC (hA 2 16) (h0)) (pt g1 0)
  ·exact oV (hC (hA 18 30) (h0)) (pt g1 4)
  ·refine oH 2 3 ?_
   ·rintro ρ' w' hs hah ⟨⟨d7, d8, -⟩, d9⟩
    refine kM (kc (kA hah 19 31) (kc (kA hah 11 25) k0)) fun hkn => ?_
    refine Qi.store (t := 9) (x := (.tmp 31)) (y := (.tmp 25)) (g := g1) (off := 4) (i := 2) (v := (.string ⟨List.toArray a3⟩)) (cs' := #[(pt g2 0), (Zc a1 g1), (.string ⟨List.toArray h⟩), (.string ⟨List.toArray m⟩), (.string ⟨List.toArray a3⟩), (.bool s)]) (d := none) (k := 20) K rfl K K d9 rfl K ?_
    intro f7 e0
    refine ⟨_, Qb hkn, trivial, ?_⟩
    exact (And.intro (And.intro d7 (And.intro d8 (And.intro rfl (trivial)))) (e0))
  ·rintro ρ' w' hs hf ⟨⟨f8, f9, g0, -⟩, b8⟩
   refine Vs [(0, (pt g1 0)), (8, (pt a2 0))] ⟨(hs 0 K).trans K, (hs 8 K).trans K, trivial⟩ ?_
   obtain ⟨g3, e1⟩ : ∃ x, w' = x := ⟨_, rfl⟩
   rw [e1] at b8 ⊢
   refine aQ ?_
   refine aR ?_
   refine iR 5 5 [(32, (pt g1 0)), (33, (pt g1 0)), (34, (.func (.func 75) #[(pt g1 0)] #[])), (35, (pt g1 0)), (36, (pt g1 1))] ?_
   refine iS 6 ?_
   refine Qi.store (t := 93) (x := (.tmp 36)) (y := (.tmp 34)) (g := g1) (off := 1) (i := 2) (v := (.func (.func 75) #[(pt g1 0)] #[])) (cs' := #[(pt g2 0), (.func (.func 75) #[(pt g1 0)] #[]), (.string ⟨List.toArray h⟩), (.string ⟨List.toArray m⟩), (.string ⟨List.toArray a3⟩), (.bool s)]) (d := none) (k := 5) K rfl K K b8 rfl K ?_
   intro g4 b9
   refine iF ?_
   refine aQ ?_
   refine aR ?_
   refine iR 3 3 [(37, (pt g1 0)), (38, (pt g1 0)), (39, (pt g1 4))] ?_
   refine iS 4 ?_
   refine sL 9 39 g1 4 2 (.string ⟨List.toArray a3⟩) 40 b9 rfl ?_
   refine iR 1 5 [(41, (.agg #[(.int .i64 2), (.string ⟨List.toArray a3⟩), (.string ⟨List.toArray ([] : List UInt8)⟩), (.int .i64 0), (.int .i64 0)]))] ?_
   refine iS 6 ?_
   refine Qi.store (t := 63) (x := (.tmp 8)) (y := (.tmp 41)) (g := a2) (off := 0) (i := 4) (v := (.agg #[(.int .i64 2), (.string ⟨List.toArray a3⟩), (.string ⟨List.toArray ([] : List UInt8)⟩), (.int .i64 0), (.int .i64 0)])) (cs' := #[(.int .i64 2), (.string ⟨List.toArray a3⟩), (.string ⟨List.toArray ([] : List UInt8)⟩), (.int .i64 0), (.int .i64 0)]) (d := none) (k := 5) K rfl K K b9 rfl K ?_
   intro g5 c0
   refine iF ?_
   refine At.ret K ?_
   refine ⟨(.agg #[(.int .i64 2), (.string ⟨List.toArray a3⟩), (.string ⟨List.toArray ([] : List UInt8)⟩), (.int .i64 0), (.int .i64 0)]), Rr K (Ub (a := 8) (t := 63) (g := a2) (off := 0) K (SP.get c0 (i := 4) rfl) K), ?_⟩
   obtain rfl := Qg H
   exact ⟨rfl, SP.sel c0 [0,1,2] rfl rfl⟩
def Y1 (q3 : Int) (q4 : Int) (q5 : Int) (q6 : Int) (q7 : (List Qd)) (f : Yi) (g : Int) (c : (List UInt8)) (d : (List UInt8)) (e : (List UInt8)) (h : Bool) (j : Int) (k : (List UInt8)) (m : (List UInt8)) (n : Int) (o : Int) (l : Int) (p : (List UInt8)) : Option (Int × (List UInt8) × (List UInt8) × Int × Int × Int × (List UInt8) × (List UInt8) × (List UInt8) × Bool) :=
  (cond (j != 3) ((Zx q3 q4 q5 q6 q7 f g c d e h 1).bind fun a => (some (a.1, a.2.1, a.2.2.1, a.2.2.2.1, a.2.2.2.2.1, a.2.2.2.2.2.1, a.2.2.2.2.2.2.1, a.2.2.2.2.2.2.2.1, a.2.2.2.2.2.2.2.2.1, a.2.2.2.2.2.2.2.2.2))) ((X1 q3 q4 q5 q6 q7 f c d e k l).bind fun i => (cond (i != 0) ((Zx q3 q4 q5 q6 q7 f g c d e h i).bind fun b => (some (b.1, b.2.1, b.2.2.1, b.2.2.2.1, b.2.2.2.2.1, b.2.2.2.2.2.1, b.2.2.2.2.2.2.1, b.2.2.2.2.2.2.2.1, b.2.2.2.2.2.2.2.2.1, b.2.2.2.2.2.2.2.2.2))) (some (4, ([] : List UInt8), ([] : List UInt8), 0, 0, 0, c, d, e, true)))))
set_option maxRecDepth 100000 in
set_option maxHeartbeats 4000000 in
theorem N1 {S : List Nat} (g1 : Nat) (g2 : Nat) (A8 : Option Addr) (c9 : Nat) (h : Nat) (q3 : Int) (q4 : Int) (q5 : Int) (q6 : Int) (j : (List Q6)) (u : Yi) (a8 : Int) (m : (List UInt8)) (p : (List UInt8)) (q : (List UInt8)) (a4 : Bool) (a0 : Int) (a1 : (List UInt8)) (a5 : (List UInt8)) (a6 : Int) (a7 : Int) (a9 : Int) (b6 : (List UInt8)) (w0 : World) (hO : SP S w0 w0 [Qo g2 79 #[(.int .i64 q3), (.int .i64 q4), (.int .i64 q5), (.int .i64 q6), (.slice A8 (List.length (List.map stT j)) c9), (.map (some h))], Vf h u, Qo g1 95 #[(pt g2 0), (Zc a8 g1), (.string ⟨List.toArray m⟩), (.string ⟨List.toArray p⟩), (.string ⟨List.toArray q⟩), (.bool a4)]]) (b2 : ∀ w, Mod S w0 w → (dDS J9 Bb).ok w (A8, c9, j)) (r : (Int × (List UInt8) × (List UInt8) × Int × Int × Int × (List UInt8) × (List UInt8) × (List UInt8) × Bool)) (H : Y1 q3 q4 q5 q6 (List.map stT j) u a8 m p q a4 a0 a1 a5 a6 a7 a9 b6 = some r) :
  Calls Tryz.prog 75 #[(pt g1 0), (.agg #[(.int .i64 a0), (.string ⟨List.toArray a1⟩), (.string ⟨List.toArray a5⟩), (.int .i64 a6), (.int .i64 a7)]), (.int .i64 a9), (.string ⟨List.toArray b6⟩)] w0 (fun e w' => e = .returned (.agg #[(.int .i64 r.1), (.string ⟨List.toArray r.2.1⟩), (.string ⟨List.toArray r.2.2.1⟩), (.int .i64 r.2.2.2.1), (.int .i64 r.2.2.2.2.1)]) ∧ SP S w0 w' [Qo g2 79 #[(.int .i64 q3), (.int .i64 q4), (.int .i64 q5), (.int .i64 q6), (.slice A8 (List.length (List.map stT j)) c9), (.map (some h))], Vf h u, Qo g1 95 #[(pt g2 0), (Zc r.2.2.2.2.2.1 g1), (.string ⟨List.toArray r.2.2.2.2.2.2.1⟩), (.string ⟨List.toArray r.2.2.2.2.2.2.2.1⟩), (.string ⟨List.toArray r.2.2.2.2.2.2.2.2.1⟩), (.bool r.2.2.2.2.2.2.2.2.2)]]) := by
 unfold Y1 at H
 refine Qu (n := 47) Tryz.func75 K K K ?_
 have c3 := hO
 refine aQ ?_
 refine aR ?_
 refine iS 1 ?_
 refine Vn (t := 63) (x := (.tmp 1)) (v := (.agg #[(.int .i64 a0), (.string ⟨List.toArray a1⟩), (.string ⟨List.toArray a5⟩), (.int .i64 a6), (.int .i64 a7)])) (d := (some 5)) (k := 0) K rfl K c3 ?_
 intro a2 e5 c4
 refine iS 2 ?_
 refine Qi.alloc (t := 63) (z := (.agg #[(.int .i64 0), (.string ⟨List.toArray ([] : List UInt8)⟩), (.string ⟨List.toArray ([] : List UInt8)⟩), (.int .i64 0), (.int .i64 0)])) (d := (some 8)) (k := 1) K rfl K c4 ?_
 intro s c5 b0
 refine iF ?_
 refine aQ ?_
 refine aQ ?_
 refine aR ?_
 refine iR 1 1 [(10, (pt a2 0))] ?_
 refine iS 2 ?_
 refine sL 3 10 a2 0 3 (.int .i64 a0) 11 b0 rfl ?_
 refine iR 1 3 [(12, (.bool (a0 != 3)))] ?_
 refine iF ?_
 refine Zq K (o := (.tmp 12)) K (b := (a0 != 3)) K (fun b3 => ?_) (fun b3 => ?_)
 ·have H := ct H b3
  refine aQ ?_
  refine aR ?_
  refine iR 1 1 [(13, (pt g1 0))] ?_
  obtain ⟨c, c6, H⟩ := Qc H
  refine iS 2 ?_
  refine cF 74 #[(.tmp 13), (.const (.int .i64 (1)))] #[60, 38] 14 Tryz.call74 (Yh g1 g2 A8 c9 h q3 q4 q5 q6 j u a8 m p q a4 1 c5 (Xs b0 [0, 1, 2] rfl rfl) (fun w hm => b2 w (SP.through b0 (l := [0, 1, 2]) rfl hm)) c c6) ?_
  rintro e c7 ⟨rfl, b7⟩
  refine ⟨_, rfl, ?_⟩
  have c8 : SP S w0 c7 [Qo a2 63 #[(.int .i64 a0), (.string ⟨List.toArray a1⟩), (.string ⟨List.toArray a5⟩), (.int .i64 a6), (.int .i64 a7)], Qo s 63 #[(.int .i64 0), (.string ⟨List.toArray ([] : List UInt8)⟩), (.string ⟨List.toArray ([] : List UInt8)⟩), (.int .i64 0), (.int .i64 0)], Qo g2 79 #[(.int .i64 q3), (.int .i64 q4), (.int .i64 q5), (.int .i64 q6), (.slice A8 (List.length (List.map stT j)) c9), (.map (some h))], Vf h u, Qo g1 95 #[(pt g2 0), (Zc c.2.2.2.2.2.1 g1), (.string ⟨List.toArray c.2.2.2.2.2.2.1⟩), (.string ⟨List.toArray c.2.2.2.2.2.2.2.1⟩), (.string ⟨List.toArray c.2.2.2.2.2.2.2.2.1⟩), (.bool c.2.2.2.2.2.2.2.2.2)]] := Vv b0 [0, 1, 2] [3, 4] rfl rfl b7 rfl
  clear b7
  refine iS 3 ?_
  refine Qi.store (t := 63) (x := (.tmp 8)) (y := (.tmp 14)) (g := s) (off := 0) (i := 1) (v := (.agg #[(.int .i64 c.1), (.string ⟨List.toArray c.2.1⟩), (.string ⟨List.toArray c.2.2.1⟩), (.int .i64 c.2.2.2.1), (.int .i64 c.2.2.2.2.1)])) (cs' := #[(.int .i64 c.1), (.string ⟨List.toArray c.2.1⟩), (.string ⟨List.toArray c.2.2.1⟩), (.int .i64 c.2.2.2.1), (.int .i64 c.2.2.2.2.1)]) (d := none) (k := 2) K rfl K K c8 rfl K ?_
  intro e6 b8
  refine iF ?_
  refine At.ret K ?_
  refine ⟨(.agg #[(.int .i64 c.1), (.string ⟨List.toArray c.2.1⟩), (.string ⟨List.toArray c.2.2.1⟩), (.int .i64 c.2.2.2.1), (.int .i64 c.2.2.2.2.1)]), Rr K (Ub (a := 8) (t := 63) (g := s) (off := 0) K (SP.get b8 (i := 1) rfl) K), ?_⟩
  obtain rfl := Qg H
  exact ⟨rfl, SP.sel b8 [2,3,4] rfl rfl⟩
 ·have H := cf H b3
  refine At.skip K ?_
  refine aQ ?_
  refine aQ ?_
  obtain ⟨a3, d0, H⟩ := Qc H
  refine aG [GEq (pt g1 0), GEq (pt g1 0), GEq (pt g1 0), GEq (pt g2 0), GEq (pt g1 0), GEq (pt g1 0), GEq (pt g1 2), GEq (.string ⟨List.toArray m⟩), GEq (pt g1 0), GEq (pt g1 0), GEq (pt g1 3), GEq (.string ⟨List.toArray p⟩), GEq (pt g1 0), GEq (pt g1 0), GEq (pt g1 4), GEq (.string ⟨List.toArray q⟩), GEq (pt a2 1), GEq (.string ⟨List.toArray a1⟩), GEq (.int .i64 a9), GEq (.int .i64 a3), GEq (.int .i64 a3)] [19] [sG [] [] S w0 [Qo g2 79 #[(.int .i64 q3), (.int .i64 q4), (.int .i64 q5), (.int .i64 q6), (.slice A8 (List.length (List.map stT j)) c9), (.map (some h))], Vf h u, Qo g1 95 #[(pt g2 0), (Zc a8 g1), (.string ⟨List.toArray m⟩), (.string ⟨List.toArray p⟩), (.string ⟨List.toArray q⟩), (.bool a4)], Qo a2 63 #[(.int .i64 a0), (.string ⟨List.toArray a1⟩), (.string ⟨List.toArray a5⟩), (.int .i64 a6), (.int .i64 a7)], Qo s 63 #[(.int .i64 0), (.string ⟨List.toArray ([] : List UInt8)⟩), (.string ⟨List.toArray ([] : List UInt8)⟩), (.int .i64 0), (.int .i64 0)]], sG [19] [(.int .i64 a3)] S w0 [Qo g1 95 #[(pt g2 0), (Zc a8 g1), (.string ⟨List.toArray m⟩), (.string ⟨List.toArray p⟩), (.string ⟨List.toArray q⟩), (.bool a4)], Qo a2 63 #[(.int .i64 a0), (.string ⟨List.toArray a1⟩), (.string ⟨List.toArray a5⟩), (.int .i64 a6), (.int .i64 a7)], Qo s 63 #[(.int .i64 0), (.string ⟨List.toArray ([] : List UInt8)⟩), (.string ⟨List.toArray ([] : List UInt8)⟩), (.int .i64 0), (.int .i64 0)], Qo g2 79 #[(.int .i64 q3), (.int .i64 q4), (.int .i64 q5), (.int .i64 q6), (.slice A8 (List.length (List.map stT j)) c9), (.map (some h))], Vf h u]] 21 1 ⟨trivial, SP.drew b0⟩ ?_ ?_
  iterate 21 refine And.intro ?_ ?_
  exact trivial
  ·exact oV (hC (hS 0 (pt g1 0)) (h0)) (pt g1 0)
  ·exact oV (hC (hA 0 15) (h0)) (pt g1 0)
  ·exact oV (hC (hA 1 16) (h0)) (pt g1 0)
  ·refine oL 0 ?_
   ·rintro ρ' w' hs hah ⟨e7, d1⟩
    refine kM (kc (kA hah 2 17) k0) fun hkn => ?_
    refine sL 29 17 g1 0 2 (pt g2 0) 18 d1 rfl ?_
    exact eK hkn
  ·exact oV (hC (hS 0 (pt g1 0)) (h0)) (pt g1 0)
  ·exact oV (hC (hA 4 19) (h0)) (pt g1 0)
  ·exact oV (hC (hA 5 20) (h0)) (pt g1 2)
  ·refine oL 0 ?_
   ·rintro ρ' w' hs hah ⟨e8, d2⟩
    refine kM (kc (kA hah 6 21) k0) fun hkn => ?_
    refine sL 9 21 g1 2 2 (.string ⟨List.toArray m⟩) 22 d2 rfl ?_
    exact eK hkn
  ·exact oV (hC (hS 0 (pt g1 0)) (h0)) (pt g1 0)
  ·exact oV (hC (hA 8 23) (h0)) (pt g1 0)
  ·exact oV (hC (hA 9 24) (h0)) (pt g1 3)
  ·refine oL 0 ?_
   ·rintro ρ' w' hs hah ⟨e9, d3⟩
    refine kM (kc (kA hah 10 25) k0) fun hkn => ?_
    refine sL 9 25 g1 3 2 (.string ⟨List.toArray p⟩) 26 d3 rfl ?_
    exact eK hkn
  ·exact oV (hC (hS 0 (pt g1 0)) (h0)) (pt g1 0)
  ·exact oV (hC (hA 12 27) (h0)) (pt g1 0)
  ·exact oV (hC (hA 13 28) (h0)) (pt g1 4)
  ·refine oL 0 ?_
   ·rintro ρ' w' hs hah ⟨f0, d4⟩
    refine kM (kc (kA hah 14 29) k0) fun hkn => ?_
    refine sL 9 29 g1 4 2 (.string ⟨List.toArray q⟩) 30 d4 rfl ?_
    exact eK hkn
  ·exact oV (hC (hS 5 (pt a2 0)) (h0)) (pt a2 1)
  ·refine oL 0 ?_
   ·rintro ρ' w' hs hah ⟨f1, d5⟩
    refine kM (kc (kA hah 16 31) k0) fun hkn => ?_
    refine sL 9 31 a2 1 3 (.string ⟨List.toArray a1⟩) 32 d5 rfl ?_
    exact eK hkn
  ·exact oV (hC (hS 2 (.int .i64 a9)) (h0)) (.int .i64 a9)
  ·refine oH 0 1 ?_
   ·rintro ρ' w' hs hah ⟨f2, b4⟩
    refine kM (kc (kA hah 3 18) (kc (kA hah 7 22) (kc (kA hah 11 26) (kc (kA hah 15 30) (kc (kA hah 17 32) (kc (kA hah 18 33) k0)))))) fun hkn => ?_
    refine cF 26 #[(.tmp 18), (.tmp 22), (.tmp 26), (.tmp 30), (.tmp 32), (.tmp 33)] #[29, 9, 9, 9, 9, 2] 34 Tryz.call26 (Ny g2 A8 c9 h q3 q4 q5 q6 j u m p q a1 a9 w' (Xs b4 [0, 1] rfl rfl) (fun w hm => b2 w (SP.through b4 (l := [0, 1]) rfl hm)) a3 d0) ?_
    rintro e d6 ⟨rfl, b9⟩
    refine ⟨_, rfl, ?_⟩
    have d7 : SP S w0 d6 [Qo g1 95 #[(pt g2 0), (Zc a8 g1), (.string ⟨List.toArray m⟩), (.string ⟨List.toArray p⟩), (.string ⟨List.toArray q⟩), (.bool a4)], Qo a2 63 #[(.int .i64 a0), (.string ⟨List.toArray a1⟩), (.string ⟨List.toArray a5⟩), (.int .i64 a6), (.int .i64 a7)], Qo s 63 #[(.int .i64 0), (.string ⟨List.toArray ([] : List UInt8)⟩), (.string ⟨List.toArray ([] : List UInt8)⟩), (.int .i64 0), (.int .i64 0)], Qo g2 79 #[(.int .i64 q3), (.int .i64 q4), (.int .i64 q5), (.int .i64 q6), (.slice A8 (List.length (List.map stT j)) c9), (.map (some h))], Vf h u] := Vv b4 [0, 1] [2, 3, 4] rfl rfl b9 rfl
    clear b9
    refine ⟨_, Qb hkn, rfl, ?_⟩
    exact (And.intro (And.intro rfl (trivial)) (d7))
  ·exact oV (hC (hA 19 34) (h0)) (.int .i64 a3)
  ·rintro ρ' w' hs hf ⟨⟨f3, -⟩, b1⟩
   refine Vs [(0, (pt g1 0)), (8, (pt s 0)), (9, (.int .i64 a3))] ⟨(hs 0 K).trans K, (hs 8 K).trans K, hf 20 9 K, trivial⟩ ?_
   obtain ⟨d8, d9⟩ : ∃ x, w' = x := ⟨_, rfl⟩
   rw [d9] at b1 ⊢
   refine aQ ?_
   refine aR ?_
   refine iR 2 2 [(35, (.int .i64 a3)), (36, (.bool (a3 != 0)))] ?_
   refine iF ?_
   refine Zq K (o := (.tmp 36)) K (b := (a3 != 0)) K (fun b5 => ?_) (fun b5 => ?_)
   ·have H := ct H b5
    refine aQ ?_
    refine aR ?_
    refine iR 2 2 [(37, (pt g1 0)), (38, (.int .i64 a3))] ?_
    obtain ⟨f, e0, H⟩ := Qc H
    refine iS 3 ?_
    refine cF 74 #[(.tmp 37), (.tmp 38)] #[60, 38] 39 Tryz.call74 (Yh g1 g2 A8 c9 h q3 q4 q5 q6 j u a8 m p q a4 a3 d8 (Xs b1 [3, 4, 0] rfl rfl) (fun w hm => b2 w (SP.through b1 (l := [3, 4, 0]) rfl hm)) f e0) ?_
    rintro e e1 ⟨rfl, c0⟩
    refine ⟨_, rfl, ?_⟩
    have e2 : SP S w0 e1 [Qo a2 63 #[(.int .i64 a0), (.string ⟨List.toArray a1⟩), (.string ⟨List.toArray a5⟩), (.int .i64 a6), (.int .i64 a7)], Qo s 63 #[(.int .i64 0), (.string ⟨List.toArray ([] : List UInt8)⟩), (.string ⟨List.toArray ([] : List UInt8)⟩), (.int .i64 0), (.int .i64 0)], Qo g2 79 #[(.int .i64 q3), (.int .i64 q4), (.int .i64 q5), (.int .i64 q6), (.slice A8 (List.length (List.map stT j)) c9), (.map (some h))], Vf h u, Qo g1 95 #[(pt g2 0), (Zc f.2.2.2.2.2.1 g1), (.string ⟨List.toArray f.2.2.2.2.2.2.1⟩), (.string ⟨List.toArray f.2.2.2.2.2.2.2.1⟩), (.string ⟨List.toArray f.2.2.2.2.2.2.2.2.1⟩), (.bool f.2.2.2.2.2.2.2.2.2)]] := Vv b1 [3, 4, 0] [1, 2] rfl rfl c0 rfl
    clear c0
    refine iS 4 ?_
    refine Qi.store (t := 63) (x := (.tmp 8)) (y := (.tmp 39)) (g := s) (off := 0) (i := 1) (v := (.agg #[(.int .i64 f.1), (.string ⟨List.toArray f.2.1⟩), (.string ⟨List.toArray f.2.2.1⟩), (.int .i64 f.2.2.2.1), (.int .i64 f.2.2.2.2.1)])) (cs' := #[(.int .i64 f.1), (.string ⟨List.toArray f.2.1⟩), (.string ⟨List.toArray f.2.2.1⟩), (.int .i64 f.2.2.2.1), (.int .i64 f.2.2.2.2.1)]) (d := none) (k := 3) K rfl K K e2 rfl K ?_
    intro f4 c1
    refine iF ?_
    refine At.ret K ?_
    refine ⟨(.agg #[(.int .i64 f.1), (.string ⟨List.toArray f.2.1⟩), (.string ⟨List.toArray f.2.2.1⟩), (.int .i64 f.2.2.2.1), (.int .i64 f.2.2.2.2.1)]), Rr K (Ub (a := 8) (t := 63) (g := s) (off := 0) K (SP.get c1 (i := 1) rfl) K), ?_⟩
    obtain rfl := Qg H
    exact ⟨rfl, SP.sel c1 [2,3,4] rfl rfl⟩
   ·have H := cf H b5
    refine At.skip K ?_
    refine aQ ?_
    refine aR ?_
    refine iR 4 4 [(40, (pt g1 0)), (41, (pt g1 0)), (42, (pt g1 0)), (43, (pt g1 1))] ?_
    refine iS 5 ?_
    refine Qi.store (t := 93) (x := (.tmp 43)) (y := (.const .nilFunc)) (g := g1) (off := 1) (i := 0) (v := .nilFunc) (cs' := #[(pt g2 0), .nilFunc, (.string ⟨List.toArray m⟩), (.string ⟨List.toArray p⟩), (.string ⟨List.toArray q⟩), (.bool a4)]) (d := none) (k := 4) K rfl K K b1 rfl K ?_
    intro f5 e3
    refine iR 2 7 [(44, (pt g1 0)), (45, (pt g1 5))] ?_
    refine iS 8 ?_
    refine Qi.store (t := 4) (x := (.tmp 45)) (y := (.const (.bool true))) (g := g1) (off := 5) (i := 0) (v := (.bool true)) (cs' := #[(pt g2 0), .nilFunc, (.string ⟨List.toArray m⟩), (.string ⟨List.toArray p⟩), (.string ⟨List.toArray q⟩), (.bool true)]) (d := none) (k := 7) K rfl K K e3 rfl K ?_
    intro f6 e4
    refine iF ?_
    refine aQ ?_
    refine aR ?_
    refine iR 1 1 [(46, (.agg #[(.int .i64 4), (.string ⟨List.toArray ([] : List UInt8)⟩), (.string ⟨List.toArray ([] : List UInt8)⟩), (.int .i64 0), (.int .i64 0)]))] ?_
    refine iS 2 ?_
    refine Qi.store (t := 63) (x := (.tmp 8)) (y := (.tmp 46)) (g := s) (off := 0) (i := 2) (v := (.agg #[(.int .i64 4), (.string ⟨List.toArray ([] : List UInt8)⟩), (.string ⟨List.toArray ([] : List UInt8)⟩), (.int .i64 0), (.int .i64 0)])) (cs' := #[(.int .i64 4), (.string ⟨List.toArray ([] : List UInt8)⟩), (.string ⟨List.toArray ([] : List UInt8)⟩), (.int .i64 0), (.int .i64 0)]) (d := none) (k := 1) K rfl K K e4 rfl K ?_
    intro f7 c2
    refine iF ?_
    refine At.ret K ?_
    refine ⟨(.agg #[(.int .i64 4), (.string ⟨List.toArray ([] : List UInt8)⟩), (.string ⟨List.toArray ([] : List UInt8)⟩), (.int .i64 0), (.int .i64 0)]), Rr K (Ub (a := 8) (t := 63) (g := s) (off := 0) K (SP.get c2 (i := 2) rfl) K), ?_⟩
    obtain rfl := Qg H
    exact ⟨rfl, SP.sel c2 [3,4,0] rfl rfl⟩
def Ur (q2 : Int) (q3 : Int) (q4 : Int) (q5 : Int) (q6 : (List Qd)) (a : Yi) : Option (Int × (List UInt8) × (List UInt8) × (List UInt8) × Bool) :=
  (some (1, ([] : List UInt8), ([] : List UInt8), ([] : List UInt8), false))
set_option maxRecDepth 100000 in
set_option maxHeartbeats 4000000 in
theorem U3 {S : List Nat} (g1 : Nat) (A7 : Option Addr) (c8 : Nat) (b : Nat) (q2 : Int) (q3 : Int) (q4 : Int) (q5 : Int) (c : (List Q6)) (f : Yi) (w0 : World) (hO : SP S w0 w0 [Qo g1 79 #[(.int .i64 q2), (.int .i64 q3), (.int .i64 q4), (.int .i64 q5), (.slice A7 (List.length (List.map stT c)) c8), (.map (some b))], Vf b f]) (o : ∀ w, Mod S w0 w → (dDS J9 Bb).ok w (A7, c8, c)) (r : (Int × (List UInt8) × (List UInt8) × (List UInt8) × Bool)) (H : Ur q2 q3 q4 q5 (List.map stT c) f = some r) :
  Calls Tryz.prog 33 #[(pt g1 0)] w0 (fun e w' => ∃ (h : Nat), e = .returned (pt h 0) ∧ SP S w0 w' [Qo h 95 #[(pt g1 0), (Zc r.1 h), (.string ⟨List.toArray r.2.1⟩), (.string ⟨List.toArray r.2.2.1⟩), (.string ⟨List.toArray r.2.2.2.1⟩), (.bool r.2.2.2.2)], Qo g1 79 #[(.int .i64 q2), (.int .i64 q3), (.int .i64 q4), (.int .i64 q5), (.slice A7 (List.length (List.map stT c)) c8), (.map (some b))], Vf b f]) := by
 unfold Ur at H
 refine Qu (n := 13) Tryz.func33 K K K ?_
 have j := hO
 refine aQ ?_
 refine aR ?_
 refine iR 1 1 [(2, (.pointer none))] ?_
 refine iF ?_
 refine aQ ?_
 refine aR ?_
 refine iR 2 2 [(4, (pt g1 0)), (5, (.agg #[(pt g1 0), .nilFunc, (.string ⟨List.toArray ([] : List UInt8)⟩), (.string ⟨List.toArray ([] : List UInt8)⟩), (.string ⟨List.toArray ([] : List UInt8)⟩), (.bool false)]))] ?_
 refine iS 3 ?_
 refine Vn (t := 95) (x := (.tmp 5)) (v := (.agg #[(pt g1 0), .nilFunc, (.string ⟨List.toArray ([] : List UInt8)⟩), (.string ⟨List.toArray ([] : List UInt8)⟩), (.string ⟨List.toArray ([] : List UInt8)⟩), (.bool false)])) (d := (some 6)) (k := 2) K rfl K j ?_
 intro a p l
 refine iR 1 4 [(3, (pt a 0))] ?_
 refine iF ?_
 refine aQ ?_
 refine aR ?_
 refine iR 5 5 [(7, (pt a 0)), (8, (pt a 0)), (9, (.func (.func 57) #[(pt a 0)] #[])), (10, (pt a 0)), (11, (pt a 1))] ?_
 refine iS 6 ?_
 refine Qi.store (t := 93) (x := (.tmp 11)) (y := (.tmp 9)) (g := a) (off := 1) (i := 2) (v := (.func (.func 57) #[(pt a 0)] #[])) (cs' := #[(pt g1 0), (.func (.func 57) #[(pt a 0)] #[]), (.string ⟨List.toArray ([] : List UInt8)⟩), (.string ⟨List.toArray ([] : List UInt8)⟩), (.string ⟨List.toArray ([] : List UInt8)⟩), (.bool false)]) (d := none) (k := 5) K rfl K K l rfl K ?_
 intro q m
 refine iF ?_
 refine aQ ?_
 refine aR ?_
 refine iR 2 2 [(12, (pt a 0)), (2, (pt a 0))] ?_
 refine iF ?_
 refine At.ret K ?_
 refine ⟨(pt a 0), K, ?_⟩
 obtain rfl := Qg H
 exact ⟨a, rfl, SP.sel m [2,0,1] rfl rfl⟩
def Vx (q3 : Int) (q4 : Int) (q5 : Int) (q6 : Int) (q7 : (List Qd)) (h : Yi) (c : Int) (d : (List UInt8)) (e : (List UInt8)) (f : (List UInt8)) (g : Bool) (i : Int) (j : (List UInt8)) (k : (List UInt8)) (l : Int) (m : Int) (n : Int) (o : (List UInt8)) : Option (Int × (List UInt8) × (List UInt8) × Int × Int × Bool × Int × (List UInt8) × (List UInt8) × (List UInt8) × Bool) :=
  (cond (Cm c) (some (0, ([] : List UInt8), ([] : List UInt8), 0, 0, false, c, d, e, f, g)) (cond (c == 1) ((Y0 q3 q4 q5 q6 q7 h 1 d e f g i j k l m n o).bind fun a => (some (a.1, a.2.1, a.2.2.1, a.2.2.2.1, a.2.2.2.2.1, true, a.2.2.2.2.2.1, a.2.2.2.2.2.2.1, a.2.2.2.2.2.2.2.1, a.2.2.2.2.2.2.2.2.1, a.2.2.2.2.2.2.2.2.2))) (cond (c == 2) ((Y1 q3 q4 q5 q6 q7 h 2 d e f g i j k l m n o).bind fun b => (some (b.1, b.2.1, b.2.2.1, b.2.2.2.1, b.2.2.2.2.1, true, b.2.2.2.2.2.1, b.2.2.2.2.2.2.1, b.2.2.2.2.2.2.2.1, b.2.2.2.2.2.2.2.2.1, b.2.2.2.2.2.2.2.2.2))) none)))
set_option maxRecDepth 100000 in
set_option maxHeartbeats 4000000 in
theorem Zg {S : List Nat} (g1 : Nat) (g2 : Nat) (A8 : Option Addr) (c9 : Nat) (m : Nat) (q3 : Int) (q4 : Int) (q5 : Int) (q6 : Int) (a2 : (List Q6)) (a3 : Yi) (a5 : Int) (a8 : (List UInt8)) (a9 : (List UInt8)) (b0 : (List UInt8)) (b1 : Bool) (q : Int) (s : (List UInt8)) (u : (List UInt8)) (a0 : Int) (a1 : Int) (a6 : Int) (a7 : (List UInt8)) (w0 : World) (hO : SP S w0 w0 [Qo g2 79 #[(.int .i64 q3), (.int .i64 q4), (.int .i64 q5), (.int .i64 q6), (.slice A8 (List.length (List.map stT a2)) c9), (.map (some m))], Vf m a3, Qo g1 95 #[(pt g2 0), (Zc a5 g1), (.string ⟨List.toArray a8⟩), (.string ⟨List.toArray a9⟩), (.string ⟨List.toArray b0⟩), (.bool b1)]]) (c0 : ∀ w, Mod S w0 w → (dDS J9 Bb).ok w (A8, c9, a2)) (r : (Int × (List UInt8) × (List UInt8) × Int × Int × Bool × Int × (List UInt8) × (List UInt8) × (List UInt8) × Bool)) (H : Vx q3 q4 q5 q6 (List.map stT a2) a3 a5 a8 a9 b0 b1 q s u a0 a1 a6 a7 = some r) :
  Calls Tryz.prog 34 #[(pt g1 0), (.agg #[(.int .i64 q), (.string ⟨List.toArray s⟩), (.string ⟨List.toArray u⟩), (.int .i64 a0), (.int .i64 a1)]), (.int .i64 a6), (.string ⟨List.toArray a7⟩)] w0 (fun e w' => e = .returned (.tuple #[(.agg #[(.int .i64 r.1), (.string ⟨List.toArray r.2.1⟩), (.string ⟨List.toArray r.2.2.1⟩), (.int .i64 r.2.2.2.1), (.int .i64 r.2.2.2.2.1)]), (.bool r.2.2.2.2.2.1)]) ∧ SP S w0 w' [Qo g2 79 #[(.int .i64 q3), (.int .i64 q4), (.int .i64 q5), (.int .i64 q6), (.slice A8 (List.length (List.map stT a2)) c9), (.map (some m))], Vf m a3, Qo g1 95 #[(pt g2 0), (Zc r.2.2.2.2.2.2.1 g1), (.string ⟨List.toArray r.2.2.2.2.2.2.2.1⟩), (.string ⟨List.toArray r.2.2.2.2.2.2.2.2.1⟩), (.string ⟨List.toArray r.2.2.2.2.2.2.2.2.2.1⟩), (.bool r.2.2.2.2.2.2.2.2.2.2)]]) := by
 unfold Vx at H
 refine Qu (n := 24) Tryz.func34 K K K ?_
 have c7 := hO
 refine aQ ?_
 refine aR ?_
 refine iS 1 ?_
 refine Vn (t := 63) (x := (.tmp 1)) (v := (.agg #[(.int .i64 q), (.string ⟨List.toArray s⟩), (.string ⟨List.toArray u⟩), (.int .i64 a0), (.int .i64 a1)])) (d := (some 5)) (k := 0) K rfl K c7 ?_
 intro a4 e8 c8
 refine iS 2 ?_
 refine Qi.alloc (t := 63) (z := (.agg #[(.int .i64 0), (.string ⟨List.toArray ([] : List UInt8)⟩), (.string ⟨List.toArray ([] : List UInt8)⟩), (.int .i64 0), (.int .i64 0)])) (d := (some 8)) (k := 1) K rfl K c8 ?_
 intro p c1 b3
 refine iR 1 3 [(9, (.bool false))] ?_
 refine iF ?_
 refine aQ ?_
 refine aQ ?_
 refine aR ?_
 refine iR 3 3 [(10, (pt g1 0)), (11, (pt g1 0)), (12, (pt g1 1))] ?_
 refine iS 4 ?_
 refine sL 93 12 g1 1 2 (Zc a5 g1) 13 b3 rfl ?_
 refine iS 5 ?_
 refine Dc (op := .eql) (T := 93) (T' := 93) (x := (.tmp 13)) (y := (.const .nilFunc)) (vx := (Zc a5 g1)) (vy := .nilFunc) (v := (.bool (Cm a5))) (d := (some 14)) (k := 4) K rfl K K (by clear H; intro w; unfold Zc Cm; cases (a5 == 1) <;> cases (a5 == 2) <;> kernel_rfl) ?_
 refine iF ?_
 refine Zq K (o := (.tmp 14)) K (b := (Cm a5)) K (fun b5 => ?_) (fun b5 => ?_)
 ·have H := ct H b5
  refine aQ ?_
  refine aR ?_
  refine iR 1 1 [(15, (.agg #[(.int .i64 0), (.string ⟨List.toArray ([] : List UInt8)⟩), (.string ⟨List.toArray ([] : List UInt8)⟩), (.int .i64 0), (.int .i64 0)]))] ?_
  refine iS 2 ?_
  refine Qi.store (t := 63) (x := (.tmp 8)) (y := (.tmp 15)) (g := p) (off := 0) (i := 4) (v := (.agg #[(.int .i64 0), (.string ⟨List.toArray ([] : List UInt8)⟩), (.string ⟨List.toArray ([] : List UInt8)⟩), (.int .i64 0), (.int .i64 0)])) (cs' := #[(.int .i64 0), (.string ⟨List.toArray ([] : List UInt8)⟩), (.string ⟨List.toArray ([] : List UInt8)⟩), (.int .i64 0), (.int .i64 0)]) (d := none) (k := 1) K rfl K K b3 rfl K ?_
  intro e9 c2
  refine iR 1 3 [(9, (.bool false))] ?_
  refine iF ?_
  refine At.ret K ?_
  refine ⟨(.tuple #[(.agg #[(.int .i64 0), (.string ⟨List.toArray ([] : List UInt8)⟩), (.string ⟨List.toArray ([] : List UInt8)⟩), (.int .i64 0), (.int .i64 0)]), (.bool false)]), Fx K (Ub (a := 8) (t := 63) (g := p) (off := 0) K (SP.get c2 (i := 4) rfl) K) (Bx (t := 9) K), ?_⟩
  obtain rfl := Qg H
  exact ⟨rfl, SP.sel c2 [0,1,2] rfl rfl⟩
 ·have H := cf H b5
  refine At.skip K ?_
  refine aQ ?_
  rcases Bool.eq_false_or_eq_true (a5 == 1) with b2 | b2
  ·have H := ct H b2
   have d0 : SP S w0 c1 [Qo g2 79 #[(.int .i64 q3), (.int .i64 q4), (.int .i64 q5), (.int .i64 q6), (.slice A8 (List.length (List.map stT a2)) c9), (.map (some m))], Vf m a3, Qo g1 95 #[(pt g2 0), (.func (.func 57) #[(pt g1 0)] #[]), (.string ⟨List.toArray a8⟩), (.string ⟨List.toArray a9⟩), (.string ⟨List.toArray b0⟩), (.bool b1)], Qo a4 63 #[(.int .i64 q), (.string ⟨List.toArray s⟩), (.string ⟨List.toArray u⟩), (.int .i64 a0), (.int .i64 a1)], Qo p 63 #[(.int .i64 0), (.string ⟨List.toArray ([] : List UInt8)⟩), (.string ⟨List.toArray ([] : List UInt8)⟩), (.int .i64 0), (.int .i64 0)]] := by have h := b3; rw [stepV_1 b2] at h; exact h
   obtain ⟨c, d1, H⟩ := Qc H
   refine aG [GEq (pt g1 0), GEq (pt g1 0), GEq (pt g1 1), GEq (.func (.func 57) #[(pt g1 0)] #[]), GEq (.agg #[(.int .i64 q), (.string ⟨List.toArray s⟩), (.string ⟨List.toArray u⟩), (.int .i64 a0), (.int .i64 a1)]), GEq (.int .i64 a6), GEq (.string ⟨List.toArray a7⟩), GEq (.agg #[(.int .i64 c.1), (.string ⟨List.toArray c.2.1⟩), (.string ⟨List.toArray c.2.2.1⟩), (.int .i64 c.2.2.2.1), (.int .i64 c.2.2.2.2.1)]), Cg, GEq (.bool true)] [7, 8] [sG [] [] S w0 [Qo g2 79 #[(.int .i64 q3), (.int .i64 q4), (.int .i64 q5), (.int .i64 q6), (.slice A8 (List.length (List.map stT a2)) c9), (.map (some m))], Vf m a3, Qo g1 95 #[(pt g2 0), (.func (.func 57) #[(pt g1 0)] #[]), (.string ⟨List.toArray a8⟩), (.string ⟨List.toArray a9⟩), (.string ⟨List.toArray b0⟩), (.bool b1)], Qo a4 63 #[(.int .i64 q), (.string ⟨List.toArray s⟩), (.string ⟨List.toArray u⟩), (.int .i64 a0), (.int .i64 a1)], Qo p 63 #[(.int .i64 0), (.string ⟨List.toArray ([] : List UInt8)⟩), (.string ⟨List.toArray ([] : List UInt8)⟩), (.int .i64 0), (.int .i64 0)]], sG [7] [(.agg #[(.int .i64 c.1), (.string ⟨List.toArray c.2.1⟩), (.string ⟨List.toArray c.2.2.1⟩), (.int .i64 c.2.2.2.1), (.int .i64 c.2.2.2.2.1)])] S w0 [Qo a4 63 #[(.int .i64 q), (.string ⟨List.toArray s⟩), (.string ⟨List.toArray u⟩), (.int .i64 a0), (.int .i64 a1)], Qo p 63 #[(.int .i64 0), (.string ⟨List.toArray ([] : List UInt8)⟩), (.string ⟨List.toArray ([] : List UInt8)⟩), (.int .i64 0), (.int .i64 0)], Qo g2 79 #[(.int .i64 q3), (.int .i64 q4), (.int .i64 q5), (.int .i64 q6), (.slice A8 (List.length (List.map stT a2)) c9), (.map (some m))], Vf m a3, Qo g1 95 #[(pt g2 0), (Zc c.2.2.2.2.2.1 g1), (.string ⟨List.toArray c.2.2.2.2.2.2.1⟩), (.string ⟨List.toArray c.2.2.2.2.2.2.2.1⟩), (.string ⟨List.toArray c.2.2.2.2.2.2.2.2.1⟩), (.bool c.2.2.2.2.2.2.2.2.2)]], sG [7, 8] [(.agg #[(.int .i64 c.1), (.string ⟨List.toArray c.2.1⟩), (.string ⟨List.toArray c.2.2.1⟩), (.int .i64 c.2.2.2.1), (.int .i64 c.2.2.2.2.1)]), undef] S w0 [Qo a4 63 #[(.int .i64 q), (.string ⟨List.toArray s⟩), (.string ⟨List.toArray u⟩), (.int .i64 a0), (.int .i64 a1)], Qo p 63 #[(.int .i64 c.1), (.string ⟨List.toArray c.2.1⟩), (.string ⟨List.toArray c.2.2.1⟩), (.int .i64 c.2.2.2.1), (.int .i64 c.2.2.2.2.1)], Qo g2 79 #[(.int .i64 q3), (.int .i64 q4), (.int .i64 q5), (.int .i64 q6), (.slice A8 (List.length (List.map stT a2)) c9), (.map (some m))], Vf m a3, Qo g1 95 #[(pt g2 0), (Zc c.2.2.2.2.2.1 g1), (.string ⟨List.toArray c.2.2.2.2.2.2.1⟩), (.string ⟨List.toArray c.2.2.2.2.2.2.2.1⟩), (.string ⟨List.toArray c.2.2.2.2.2.2.2.2.1⟩), (.bool c.2.2.2.2.2.2.2.2.2)]]] 10 2 ⟨trivial, SP.drew d0⟩ ?_ ?_
   iterate 10 refine And.intro ?_ ?_
   exact trivial
   ·exact oV (hC (hS 0 (pt g1 0)) (h0)) (pt g1 0)
   ·exact oV (hC (hA 0 16) (h0)) (pt g1 0)
   ·exact oV (hC (hA 1 17) (h0)) (pt g1 1)
   ·refine oL 0 ?_
    ·rintro ρ' w' hs hah ⟨f0, d2⟩
     refine kM (kc (kA hah 2 18) k0) fun hkn => ?_
     refine sL 93 18 g1 1 2 (.func (.func 57) #[(pt g1 0)] #[]) 19 d2 rfl ?_
     exact eK hkn
   ·refine oL 0 ?_
    ·rintro ρ' w' hs hah ⟨f1, d3⟩
     refine kM (kc (kS hs 5 (pt a4 0)) k0) fun hkn => ?_
     refine sL 63 5 a4 0 3 (.agg #[(.int .i64 q), (.string ⟨List.toArray s⟩), (.string ⟨List.toArray u⟩), (.int .i64 a0), (.int .i64 a1)]) 20 d3 rfl ?_
     exact eK hkn
   ·exact oV (hC (hS 2 (.int .i64 a6)) (h0)) (.int .i64 a6)
   ·exact oV (hC (hS 3 (.string ⟨List.toArray a7⟩)) (h0)) (.string ⟨List.toArray a7⟩)
   ·refine oH 0 1 ?_
    ·rintro ρ' w' hs hah ⟨f2, b6⟩
     refine kM (kc (kA hah 3 19) (kc (kA hah 4 20) (kc (kA hah 5 21) (kc (kA hah 6 22) k0)))) fun hkn => ?_
     refine Z3 (f := 57) (fo := (.tmp 19)) (xs := #[(.tmp 20), (.tmp 21), (.tmp 22)]) (tys := #[63, 2, 9]) (first := #[(pt g1 0)]) (captured := #[]) (d := (some 23)) (k := 7) K rfl K K Tryz.call57 (N0 g1 g2 A8 c9 m q3 q4 q5 q6 a2 a3 1 a8 a9 b0 b1 q s u a0 a1 a6 a7 w' (Xs b6 [0, 1, 2] rfl rfl) (fun w hm => c0 w (SP.through b6 (l := [0, 1, 2]) rfl hm)) c d1) ?_
     rintro e d4 ⟨rfl, c3⟩
     refine ⟨_, rfl, ?_⟩
     have d5 : SP S w0 d4 [Qo a4 63 #[(.int .i64 q), (.string ⟨List.toArray s⟩), (.string ⟨List.toArray u⟩), (.int .i64 a0), (.int .i64 a1)], Qo p 63 #[(.int .i64 0), (.string ⟨List.toArray ([] : List UInt8)⟩), (.string ⟨List.toArray ([] : List UInt8)⟩), (.int .i64 0), (.int .i64 0)], Qo g2 79 #[(.int .i64 q3), (.int .i64 q4), (.int .i64 q5), (.int .i64 q6), (.slice A8 (List.length (List.map stT a2)) c9), (.map (some m))], Vf m a3, Qo g1 95 #[(pt g2 0), (Zc c.2.2.2.2.2.1 g1), (.string ⟨List.toArray c.2.2.2.2.2.2.1⟩), (.string ⟨List.toArray c.2.2.2.2.2.2.2.1⟩), (.string ⟨List.toArray c.2.2.2.2.2.2.2.2.1⟩), (.bool c.2.2.2.2.2.2.2.2.2)]] := Vv b6 [0, 1, 2] [3, 4] rfl rfl c3 rfl
     clear c3
     refine ⟨_, Qb hkn, rfl, ?_⟩
     exact (And.intro (And.intro rfl (trivial)) (d5))
   ·refine oH 1 2 ?_
    ·rintro ρ' w' hs hah ⟨⟨c4, -⟩, d6⟩
     refine kN [(8, (pt p 0)), (23, (.agg #[(.int .i64 c.1), (.string ⟨List.toArray c.2.1⟩), (.string ⟨List.toArray c.2.2.1⟩), (.int .i64 c.2.2.2.1), (.int .i64 c.2.2.2.2.1)]))] ⟨(hs 8 K).trans K, (Yd (h := 7) K).symm.trans c4, trivial⟩ fun hkn => ?_
     refine Qi.store (t := 63) (x := (.tmp 8)) (y := (.tmp 23)) (g := p) (off := 0) (i := 1) (v := (.agg #[(.int .i64 c.1), (.string ⟨List.toArray c.2.1⟩), (.string ⟨List.toArray c.2.2.1⟩), (.int .i64 c.2.2.2.1), (.int .i64 c.2.2.2.2.1)])) (cs' := #[(.int .i64 c.1), (.string ⟨List.toArray c.2.1⟩), (.string ⟨List.toArray c.2.2.1⟩), (.int .i64 c.2.2.2.1), (.int .i64 c.2.2.2.2.1)]) (d := none) (k := 8) K rfl K K d6 rfl K ?_
     intro f3 d7
     refine ⟨_, Qb hkn, trivial, ?_⟩
     exact (And.intro (And.intro c4 (And.intro rfl (trivial))) (d7))
   ·exact Owe.run K [] trivial (.bool true) (fun _ _ => K) rfl
   ·rintro ρ' w' hs hf ⟨⟨f4, f5, -⟩, b7⟩
    refine Vs [(8, (pt p 0)), (9, (.bool true))] ⟨(hs 8 K).trans K, hf 9 9 K, trivial⟩ ?_
    obtain ⟨f6, d8⟩ : ∃ x, w' = x := ⟨_, rfl⟩
    rw [d8] at b7 ⊢
    refine At.ret K ?_
    refine ⟨(.tuple #[(.agg #[(.int .i64 c.1), (.string ⟨List.toArray c.2.1⟩), (.string ⟨List.toArray c.2.2.1⟩), (.int .i64 c.2.2.2.1), (.int .i64 c.2.2.2.2.1)]), (.bool true)]), Fx K (Ub (a := 8) (t := 63) (g := p) (off := 0) K (SP.get b7 (i := 1) rfl) K) (Bx (t := 9) K), ?_⟩
    obtain rfl := Qg H
    exact ⟨rfl, SP.sel b7 [2,3,4] rfl rfl⟩
  ·have H := cf H b2
   rcases Bool.eq_false_or_eq_true (a5 == 2) with b4 | b4
   ·have H := ct H b4
    have d9 : SP S w0 c1 [Qo g2 79 #[(.int .i64 q3), (.int .i64 q4), (.int .i64 q5), (.int .i64 q6), (.slice A8 (List.length (List.map stT a2)) c9), (.map (some m))], Vf m a3, Qo g1 95 #[(pt g2 0), (.func (.func 75) #[(pt g1 0)] #[]), (.string ⟨List.toArray a8⟩), (.string ⟨List.toArray a9⟩), (.string ⟨List.toArray b0⟩), (.bool b1)], Qo a4 63 #[(.int .i64 q), (.string ⟨List.toArray s⟩), (.string ⟨List.toArray u⟩), (.int .i64 a0), (.int .i64 a1)], Qo p 63 #[(.int .i64 0), (.string ⟨List.toArray ([] : List UInt8)⟩), (.string ⟨List.toArray ([] : List UInt8)⟩), (.int .i64 0), (.int .i64 0)]] := by have h := b3; rw [stepV_2 b2 b4] at h; exact h
    obtain ⟨j, e0, H⟩ := Qc H
    refine aG [GEq (pt g1 0), GEq (pt g1 0), GEq (pt g1 1), GEq (.func (.func 75) #[(pt g1 0)] #[]), GEq (.agg #[(.int .i64 q), (.string ⟨List.toArray s⟩), (.string ⟨List.toArray u⟩), (.int .i64 a0), (.int .i64 a1)]), GEq (.int .i64 a6), GEq (.string ⟨List.toArray a7⟩), GEq (.agg #[(.int .i64 j.1), (.string ⟨List.toArray j.2.1⟩), (.string ⟨List.toArray j.2.2.1⟩), (.int .i64 j.2.2.2.1), (.int .i64 j.2.2.2.2.1)]), Cg, GEq (.bool true)] [7, 8] [sG [] [] S w0 [Qo g2 79 #[(.int .i64 q3), (.int .i64 q4), (.int .i64 q5), (.int .i64 q6), (.slice A8 (List.length (List.map stT a2)) c9), (.map (some m))], Vf m a3, Qo g1 95 #[(pt g2 0), (.func (.func 75) #[(pt g1 0)] #[]), (.string ⟨List.toArray a8⟩), (.string ⟨List.toArray a9⟩), (.string ⟨List.toArray b0⟩), (.bool b1)], Qo a4 63 #[(.int .i64 q), (.string ⟨List.toArray s⟩), (.string ⟨List.toArray u⟩), (.int .i64 a0), (.int .i64 a1)], Qo p 63 #[(.int .i64 0), (.string ⟨List.toArray ([] : List UInt8)⟩), (.string ⟨List.toArray ([] : List UInt8)⟩), (.int .i64 0), (.int .i64 0)]], sG [7] [(.agg #[(.int .i64 j.1), (.string ⟨List.toArray j.2.1⟩), (.string ⟨List.toArray j.2.2.1⟩), (.int .i64 j.2.2.2.1), (.int .i64 j.2.2.2.2.1)])] S w0 [Qo a4 63 #[(.int .i64 q), (.string ⟨List.toArray s⟩), (.string ⟨List.toArray u⟩), (.int .i64 a0), (.int .i64 a1)], Qo p 63 #[(.int .i64 0), (.string ⟨List.toArray ([] : List UInt8)⟩), (.string ⟨List.toArray ([] : List UInt8)⟩), (.int .i64 0), (.int .i64 0)], Qo g2 79 #[(.int .i64 q3), (.int .i64 q4), (.int .i64 q5), (.int .i64 q6), (.slice A8 (List.length (List.map stT a2)) c9), (.map (some m))], Vf m a3, Qo g1 95 #[(pt g2 0), (Zc j.2.2.2.2.2.1 g1), (.string ⟨List.toArray j.2.2.2.2.2.2.1⟩), (.string ⟨List.toArray j.2.2.2.2.2.2.2.1⟩), (.string ⟨List.toArray j.2.2.2.2.2.2.2.2.1⟩), (.bool j.2.2.2.2.2.2.2.2.2)]], sG [7, 8] [(.agg #[(.int .i64 j.1), (.string ⟨List.toArray j.2.1⟩), (.string ⟨List.toArray j.2.2.1⟩), (.int .i64 j.2.2.2.1), (.int .i64 j.2.2.2.2.1)]), undef] S w0 [Qo a4 63 #[(.int .i64 q), (.string ⟨List.toArray s⟩), (.string ⟨List.toArray u⟩), (.int .i64 a0), (.int .i64 a1)], Qo p 63 #[(.int .i64 j.1), (.string ⟨List.toArray j.2.1⟩), (.string ⟨List.toArray j.2.2.1⟩), (.int .i64 j.2.2.2.1), (.int .i64 j.2.2.2.2.1)], Qo g2 79 #[(.int .i64 q3), (.int .i64 q4), (.int .i64 q5), (.int .i64 q6), (.slice A8 (List.length (List.map stT a2)) c9), (.map (some m))], Vf m a3, Qo g1 95 #[(pt g2 0), (Zc j.2.2.2.2.2.1 g1), (.string ⟨List.toArray j.2.2.2.2.2.2.1⟩), (.string ⟨List.toArray j.2.2.2.2.2.2.2.1⟩), (.string ⟨List.toArray j.2.2.2.2.2.2.2.2.1⟩), (.bool j.2.2.2.2.2.2.2.2.2)]]] 10 2 ⟨trivial, SP.drew d9⟩ ?_ ?_
    iterate 10 refine And.intro ?_ ?_
    exact trivial
    ·exact oV (hC (hS 0 (pt g1 0)) (h0)) (pt g1 0)
    ·exact oV (hC (hA 0 16) (h0)) (pt g1 0)
    ·exact oV (hC (hA 1 17) (h0)) (pt g1 1)
    ·refine oL 0 ?_
     ·rintro ρ' w' hs hah ⟨f7, e1⟩
      refine kM (kc (kA hah 2 18) k0) fun hkn => ?_
      refine sL 93 18 g1 1 2 (.func (.func 75) #[(pt g1 0)] #[]) 19 e1 rfl ?_
      exact eK hkn
    ·refine oL 0 ?_
     ·rintro ρ' w' hs hah ⟨f8, e2⟩
      refine kM (kc (kS hs 5 (pt a4 0)) k0) fun hkn => ?_
      refine sL 63 5 a4 0 3 (.agg #[(.int .i64 q), (.string ⟨List.toArray s⟩), (.string ⟨List.toArray u⟩), (.int .i64 a0), (.int .i64 a1)]) 20 e2 rfl ?_
      exact eK hkn
    ·exact oV (hC (hS 2 (.int .i64 a6)) (h0)) (.int .i64 a6)
    ·exact oV (hC (hS 3 (.string ⟨List.toArray a7⟩)) (h0)) (.string ⟨List.toArray a7⟩)
    ·refine oH 0 1 ?_
     ·rintro ρ' w' hs hah ⟨f9, b8⟩
      refine kM (kc (kA hah 3 19) (kc (kA hah 4 20) (kc (kA hah 5 21) (kc (kA hah 6 22) k0)))) fun hkn => ?_
      refine Z3 (f := 75) (fo := (.tmp 19)) (xs := #[(.tmp 20), (.tmp 21), (.tmp 22)]) (tys := #[63, 2, 9]) (first := #[(pt g1 0)]) (captured := #[]) (d := (some 23)) (k := 7) K rfl K K Tryz.call75 (N1 g1 g2 A8 c9 m q3 q4 q5 q6 a2 a3 2 a8 a9 b0 b1 q s u a0 a1 a6 a7 w' (Xs b8 [0, 1, 2] rfl rfl) (fun w hm => c0 w (SP.through b8 (l := [0, 1, 2]) rfl hm)) j e0) ?_
      rintro e e3 ⟨rfl, c5⟩
      refine ⟨_, rfl, ?_⟩
      have e4 : SP S w0 e3 [Qo a4 63 #[(.int .i64 q), (.string ⟨List.toArray s⟩), (.string ⟨List.toArray u⟩), (.int .i64 a0), (.int .i64 a1)], Qo p 63 #[(.int .i64 0), (.string ⟨List.toArray ([] : List UInt8)⟩), (.string ⟨List.toArray ([] : List UInt8)⟩), (.int .i64 0), (.int .i64 0)], Qo g2 79 #[(.int .i64 q3), (.int .i64 q4), (.int .i64 q5), (.int .i64 q6), (.slice A8 (List.length (List.map stT a2)) c9), (.map (some m))], Vf m a3, Qo g1 95 #[(pt g2 0), (Zc j.2.2.2.2.2.1 g1), (.string ⟨List.toArray j.2.2.2.2.2.2.1⟩), (.string ⟨List.toArray j.2.2.2.2.2.2.2.1⟩), (.string ⟨List.toArray j.2.2.2.2.2.2.2.2.1⟩), (.bool j.2.2.2.2.2.2.2.2.2)]] := Vv b8 [0, 1, 2] [3, 4] rfl rfl c5 rfl
      clear c5
      refine ⟨_, Qb hkn, rfl, ?_⟩
      exact (And.intro (And.intro rfl (trivial)) (e4))
    ·refine oH 1 2 ?_
     ·rintro ρ' w' hs hah ⟨⟨c6, -⟩, e5⟩
      refine kN [(8, (pt p 0)), (23, (.agg #[(.int .i64 j.1), (.string ⟨List.toArray j.2.1⟩), (.string ⟨List.toArray j.2.2.1⟩), (.int .i64 j.2.2.2.1), (.int .i64 j.2.2.2.2.1)]))] ⟨(hs 8 K).trans K, (Yd (h := 7) K).symm.trans c6, trivial⟩ fun hkn => ?_
      refine Qi.store (t := 63) (x := (.tmp 8)) (y := (.tmp 23)) (g := p) (off := 0) (i := 1) (v := (.agg #[(.int .i64 j.1), (.string ⟨List.toArray j.2.1⟩), (.string ⟨List.toArray j.2.2.1⟩), (.int .i64 j.2.2.2.1), (.int .i64 j.2.2.2.2.1)])) (cs' := #[(.int .i64 j.1), (.string ⟨List.toArray j.2.1⟩), (.string ⟨List.toArray j.2.2.1⟩), (.int .i64 j.2.2.2.1), (.int .i64 j.2.2.2.2.1)]) (d := none) (k := 8) K rfl K K e5 rfl K ?_
      intro g0 e6
      refine ⟨_, Qb hkn, trivial, ?_⟩
      exact (And.intro (And.intro c6 (And.intro rfl (trivial))) (e6))
    ·exact Owe.run K [] trivial (.bool true) (fun _ _ => K) rfl
    ·rintro ρ' w' hs hf ⟨⟨g3, g4, -⟩, b9⟩
     refine Vs [(8, (pt p 0)), (9, (.bool true))] ⟨(hs 8 K).trans K, hf 9 9 K, trivial⟩ ?_
     obtain ⟨g5, e7⟩ : ∃ x, w' = x := ⟨_, rfl⟩
     rw [e7] at b9 ⊢
     refine At.ret K ?_
     refine ⟨(.tuple #[(.agg #[(.int .i64 j.1), (.string ⟨List.toArray j.2.1⟩), (.string ⟨List.toArray j.2.2.1⟩), (.int .i64 j.2.2.2.1), (.int .i64 j.2.2.2.2.1)]), (.bool true)]), Fx K (Ub (a := 8) (t := 63) (g := p) (off := 0) K (SP.get b9 (i := 1) rfl) K) (Bx (t := 9) K), ?_⟩
     obtain rfl := Qg H
     exact ⟨rfl, SP.sel b9 [2,3,4] rfl rfl⟩
   ·have H := cf H b4
    cases H
def Z7 (q3 : Int) (q4 : Int) (q5 : Int) (q6 : Int) (q7 : (List Qd)) (c : Yi) (d : Int) (a : (List UInt8)) (e : (List UInt8)) (f : (List UInt8)) (b : Bool) : Option ((List UInt8) × Bool) :=
  (cond (!b) (some (([] : List UInt8), false)) (some (a, true)))
set_option maxRecDepth 100000 in
set_option maxHeartbeats 4000000 in
theorem Y9 {S : List Nat} (g1 : Nat) (g2 : Nat) (A8 : Option Addr) (c9 : Nat) (d : Nat) (q3 : Int) (q4 : Int) (q5 : Int) (q6 : Int) (f : (List Q6)) (h : Yi) (i : Int) (a : (List UInt8)) (j : (List UInt8)) (k : (List UInt8)) (c : Bool) (w0 : World) (hO : SP S w0 w0 [Qo g2 79 #[(.int .i64 q3), (.int .i64 q4), (.int .i64 q5), (.int .i64 q6), (.slice A8 (List.length (List.map stT f)) c9), (.map (some d))], Vf d h, Qo g1 95 #[(pt g2 0), (Zc i g1), (.string ⟨List.toArray a⟩), (.string ⟨List.toArray j⟩), (.string ⟨List.toArray k⟩), (.bool c)]]) (m : ∀ w, Mod S w0 w → (dDS J9 Bb).ok w (A8, c9, f)) (r : ((List UInt8) × Bool)) (H : Z7 q3 q4 q5 q6 (List.map stT f) h i a j k c = some r) :
  Calls Tryz.prog 35 #[(pt g1 0)] w0 (fun e w' => e = .returned (.tuple #[(.string ⟨List.toArray r.1⟩), (.bool r.2)]) ∧ SP S w0 w' [Qo g2 79 #[(.int .i64 q3), (.int .i64 q4), (.int .i64 q5), (.int .i64 q6), (.slice A8 (List.length (List.map stT f)) c9), (.map (some d))], Vf d h, Qo g1 95 #[(pt g2 0), (Zc i g1), (.string ⟨List.toArray a⟩), (.string ⟨List.toArray j⟩), (.string ⟨List.toArray k⟩), (.bool c)]]) := by
 unfold Z7 at H
 refine Qu (n := 13) Tryz.func35 K K K ?_
 have g := hO
 refine aQ ?_
 refine aR ?_
 refine iR 2 2 [(2, (.string ⟨List.toArray ([] : List UInt8)⟩)), (3, (.bool false))] ?_
 refine iF ?_
 refine aQ ?_
 refine aQ ?_
 refine aR ?_
 refine iR 3 3 [(4, (pt g1 0)), (5, (pt g1 0)), (6, (pt g1 5))] ?_
 refine iS 4 ?_
 refine sL 4 6 g1 5 2 (.bool c) 7 g rfl ?_
 refine iR 1 5 [(8, (.bool (!c)))] ?_
 refine iF ?_
 refine Zq K (o := (.tmp 8)) K (b := (!c)) K (fun l => ?_) (fun l => ?_)
 ·have H := ct H l
  refine aQ ?_
  refine aR ?_
  refine iR 2 2 [(2, (.string ⟨List.toArray ([] : List UInt8)⟩)), (3, (.bool false))] ?_
  refine iF ?_
  refine At.ret K ?_
  refine ⟨(.tuple #[(.string ⟨List.toArray ([] : List UInt8)⟩), (.bool false)]), K, ?_⟩
  obtain rfl := Qg H
  exact ⟨rfl, SP.sel g [0,1,2] rfl rfl⟩
 ·have H := cf H l
  refine At.skip K ?_
  refine aQ ?_
  refine aR ?_
  refine iR 3 3 [(9, (pt g1 0)), (10, (pt g1 0)), (11, (pt g1 2))] ?_
  refine iS 4 ?_
  refine sL 9 11 g1 2 2 (.string ⟨List.toArray a⟩) 12 g rfl ?_
  refine iR 2 6 [(2, (.string ⟨List.toArray a⟩)), (3, (.bool true))] ?_
  refine iF ?_
  refine At.ret K ?_
  refine ⟨(.tuple #[(.string ⟨List.toArray a⟩), (.bool true)]), K, ?_⟩
  obtain rfl := Qg H
  exact ⟨rfl, SP.sel g [0,1,2] rfl rfl⟩
def Jc (q3 : Int) (q4 : Int) (q5 : Int) (q6 : Int) (q7 : (List Qd)) (b : Yi) (a : Int) (c : (List UInt8)) (d : (List UInt8)) (e : (List UInt8)) (f : Bool) : Option (Bool) :=
  (some ((Cm a)))
set_option maxRecDepth 100000 in
set_option maxHeartbeats 4000000 in
theorem Ui {S : List Nat} (g1 : Nat) (g2 : Nat) (A8 : Option Addr) (c9 : Nat) (b : Nat) (q3 : Int) (q4 : Int) (q5 : Int) (q6 : Int) (c : (List Q6)) (f : Yi) (a : Int) (g : (List UInt8)) (h : (List UInt8)) (i : (List UInt8)) (j : Bool) (w0 : World) (hO : SP S w0 w0 [Qo g2 79 #[(.int .i64 q3), (.int .i64 q4), (.int .i64 q5), (.int .i64 q6), (.slice A8 (List.length (List.map stT c)) c9), (.map (some b))], Vf b f, Qo g1 95 #[(pt g2 0), (Zc a g1), (.string ⟨List.toArray g⟩), (.string ⟨List.toArray h⟩), (.string ⟨List.toArray i⟩), (.bool j)]]) (m : ∀ w, Mod S w0 w → (dDS J9 Bb).ok w (A8, c9, c)) (r : (Bool)) (H : Jc q3 q4 q5 q6 (List.map stT c) f a g h i j = some r) :
  Calls Tryz.prog 36 #[(pt g1 0)] w0 (fun e w' => e = .returned (.bool r) ∧ SP S w0 w' [Qo g2 79 #[(.int .i64 q3), (.int .i64 q4), (.int .i64 q5), (.int .i64 q6), (.slice A8 (List.length (List.map stT c)) c9), (.map (some b))], Vf b f, Qo g1 95 #[(pt g2 0), (Zc a g1), (.string ⟨List.toArray g⟩), (.string ⟨List.toArray h⟩), (.string ⟨List.toArray i⟩), (.bool j)]]) := by
 unfold Jc at H
 refine Qu (n := 8) Tryz.func36 K K K ?_
 have l := hO
 refine aQ ?_
 refine aR ?_
 refine iR 1 1 [(2, (.bool false))] ?_
 refine iF ?_
 refine aQ ?_
 refine aR ?_
 refine iR 3 3 [(3, (pt g1 0)), (4, (pt g1 0)), (5, (pt g1 1))] ?_
 refine iS 4 ?_
 refine sL 93 5 g1 1 2 (Zc a g1) 6 l rfl ?_
 refine iS 5 ?_
 refine Dc (op := .eql) (T := 93) (T' := 93) (x := (.tmp 6)) (y := (.const .nilFunc)) (vx := (Zc a g1)) (vy := .nilFunc) (v := (.bool (Cm a))) (d := (some 7)) (k := 4) K rfl K K (by clear H; intro w; unfold Zc Cm; cases (a == 1) <;> cases (a == 2) <;> kernel_rfl) ?_
 refine iR 1 6 [(2, (.bool (Cm a)))] ?_
 refine iF ?_
 refine At.ret K ?_
 refine ⟨(.bool (Cm a)), K, ?_⟩
 obtain rfl := Qg H
 exact ⟨rfl, SP.sel l [0,1,2] rfl rfl⟩
end Go.Proofs.YtmgfanhcdfobhaaGreatDoor
namespace Go.Proofs.YtmgfanhcdfobhaaGreatDoor
theorem cut64 (p : Str) (h : p.length ≤ 140737488355328) : sub p 0 (if 64 < ((List.length p : Nat) : Int) then 64 else ((List.length p : Nat) : Int)) = some (p.take 64) := by
  by_cases h2 : 64 < ((List.length p : Nat) : Int)
  · rw [if_pos h2]
    have := C7 p (i := 0) (j := 64) (by omega) (by omega)
    simpa using this
  · rw [if_neg h2]
    have := C7 p (i := 0) (j := p.length) (by omega) (by omega)
    rw [List.take_of_length_le (by omega : p.length ≤ 64)]
    simpa using this
def hearL (l : List Qd) (M : Yi) (c : Int) (t k n : Str) (kn : Bool) (kind : Int) (A B : Str) (now : Int) (nonce : Str) : Int × Str × Str × Int × Int × Bool × Int × Str × Str × Str × Bool :=
  cond (c == 1) (cond (kind == 1) (2, nonce.take 64, [], 0, 0, true, 2, A, B, nonce.take 64, kn) (5, [], [], 1, 0, true, 0, t, k, n, kn))
  (cond (c == 2) (cond (kind == 3) (cond (U4 l M t k n A now == 0) (4, [], [], 0, 0, true, 0, t, k, n, true) (5, [], [], U4 l M t k n A now, 0, true, 0, t, k, n, kn)) (5, [], [], 1, 0, true, 0, t, k, n, kn))
  (0, [], [], 0, 0, false, c, t, k, n, kn))
theorem pHear {l : List Qd} (hv : VC l) (w g i e : Int) (M : Yi) (c : Int) (t k n : Str) (kn : Bool) (kind : Int) (A B : Str) (N m now : Int) (nonce : Str) (hA : A.length ≤ 140737488355328) (hn : nonce.length ≤ 140737488355328) :
    Vx w g i e l M c t k n kn kind A B N m now nonce = some (hearL l M c t k n kn kind A B now nonce) := by
  unfold Vx Y0 Y1 Zx Cm hearL
  cases h1 : (c == 1) with
  | true =>
    rw [cond_true, cond_false, cond_true, cond_true, cut64 nonce hn]
    cases hk : (kind == 1) with
    | true => rw [show (kind != 1) = false by rw [bne, hk]; rfl]; rfl
    | false => rw [show (kind != 1) = true by rw [bne, hk]; rfl]; rfl
  | false =>
    cases h2 : (c == 2) with
    | true =>
      rw [cond_false, cond_true, cond_false, cond_false, cond_true, cond_false, cond_true]
      cases hk : (kind == 3) with
      | false => rw [show (kind != 3) = true by rw [bne, hk]; rfl]; rfl
      | true =>
        rw [show (kind != 3) = false by rw [bne, hk]; rfl, cond_false, pVCheck hv _ _ _ _ _ _ _ _ _ hA, Option.bind_some]
        cases he : (U4 l M t k n A now == 0) with
        | true => rw [show (U4 l M t k n A now != 0) = false by rw [bne, he]; rfl]; rfl
        | false => rw [show (U4 l M t k n A now != 0) = true by rw [bne, he]; rfl]; rfl
    | false => rfl
theorem vCheck_e (l : List Qd) (M : Yi) (t k n A : Str) (now : Int) : U4 l M t k n A now = 0 ∨ U4 l M t k n A now = 101 ∨ U4 l M t k n A now = 3 := by
  unfold U4
  cases Ek l M t k now with
  | false => exact .inr (.inr rfl)
  | true =>
    cases (Nz l t k n == []) with
    | true => exact .inr (.inl rfl)
    | false =>
      cases (A == Nz l t k n) with
      | true => exact .inl rfl
      | false => exact .inr (.inl rfl)
theorem H8 (l : List Qd) (M : Yi) (t k n A : Str) (now : Int) : (U4 l M t k n A now == 0) = (Ek l M t k now && (!(Nz l t k n == []) && (A == Nz l t k n))) := by
  unfold U4
  cases Ek l M t k now with
  | false => rfl
  | true =>
    cases (Nz l t k n == []) with
    | true => rfl
    | false => cases (A == Nz l t k n) <;> rfl
end Go.Proofs.YtmgfanhcdfobhaaGreatDoor
namespace Go.Proofs.YtmgfanhcdfobhaaGreatDoor
open Go.RowKit
def Jl  : Option Unit :=
  (some ())
set_option maxRecDepth 100000 in
set_option maxHeartbeats 4000000 in
theorem Gr   (w0 : World)  (r : Unit) (H : Jl  = some r) :
  Calls Tryz.prog 56 #[] w0 (fun e w' => ∃ (g7 : Nat) (b : Nat), e = .returned (.agg #[(.int .i64 9), (.int .i64 9), (.int .i64 9), (.int .i64 9), (.slice (some ⟨b, 0, none⟩) (List.length ([(([97, 110, 110] : List UInt8), 0, 0, ([] : List (Int × Int)), ([(([107] : List UInt8), ([115] : List UInt8), 5)] : List ((List UInt8) × (List UInt8) × Int)))] : List Qd)) (List.length ([(([97, 110, 110] : List UInt8), 0, 0, ([] : List (Int × Int)), ([(([107] : List UInt8), ([115] : List UInt8), 5)] : List ((List UInt8) × (List UInt8) × Int)))] : List Qd)))]) ∧ SP [] w0 w' [U2 48 (Qw V9 (Qw V9 (Qk .i64))) (some ⟨g7, 0, none⟩) (List.length ([(([107] : List UInt8), ([115] : List UInt8), 5)] : List ((List UInt8) × (List UInt8) × Int))) ([(([107] : List UInt8), ([115] : List UInt8), 5)] : List ((List UInt8) × (List UInt8) × Int)), U2 44 J9 (some ⟨b, 0, none⟩) (List.length ([(([97, 110, 110] : List UInt8), 0, 0, ([] : List (Int × Int)), ([(([107] : List UInt8), ([115] : List UInt8), 5)] : List ((List UInt8) × (List UInt8) × Int)))] : List Qd)) ([(([97, 110, 110] : List UInt8), 0, 0, (none, 0, ([] : List (Int × Int))), ((some ⟨g7, 0, none⟩), (List.length ([(([107] : List UInt8), ([115] : List UInt8), 5)] : List ((List UInt8) × (List UInt8) × Int))), ([(([107] : List UInt8), ([115] : List UInt8), 5)] : List ((List UInt8) × (List UInt8) × Int))))] : List Q6)]) := by
 unfold Jl at H
 refine Qu (n := 6) Tryz.func56 K K K ?_
 have f := Q3 [] w0
 refine aQ ?_
 refine aR ?_
 refine iS 1 ?_
 refine Qi.alloc (t := 24) (z := (.agg #[(.int .i64 0), (.int .i64 0), (.int .i64 0), (.int .i64 0), (.slice none (List.length ([] : List Qd)) 0)])) (d := (some 0)) (k := 0) K rfl K f ?_
 intro g3 w4 h
 refine iF ?_
 refine aQ ?_
 refine aR ?_
 refine iR 1 1 [(1, (.agg #[(.string ⟨List.toArray ([107] : List UInt8)⟩), (.string ⟨List.toArray ([115] : List UInt8)⟩), (.int .i64 5)]))] ?_
 refine iS 2 ?_
 refine Ji (e := (Qw V9 (Qw V9 (Qk .i64)))) (T := 42) (E := 48) (len := 1) (parts := #[(0, (.tmp 1))]) (cs := #[(.string ⟨List.toArray ([107] : List UInt8)⟩), (.string ⟨List.toArray ([115] : List UInt8)⟩), (.int .i64 5)]) ([(([107] : List UInt8), ([115] : List UInt8), 5)] : List ((List UInt8) × (List UInt8) × Int)) (d := (some 2)) (k := 1) K rfl (fun _ => K) h rfl rfl rfl rfl ?_
 intro g7 w8 j
 refine iR 1 3 [(3, (.agg #[(.string ⟨List.toArray ([97, 110, 110] : List UInt8)⟩), (.int .i64 0), (.int .i64 0), (.slice none (List.length ([] : List (Int × Int))) 0), (.slice (some ⟨g7, 0, none⟩) (List.length ([(([107] : List UInt8), ([115] : List UInt8), 5)] : List ((List UInt8) × (List UInt8) × Int))) (List.length ([(([107] : List UInt8), ([115] : List UInt8), 5)] : List ((List UInt8) × (List UInt8) × Int))))]))] ?_
 refine iS 4 ?_
 refine Ji (e := J9) (T := 22) (E := 44) (len := 1) (parts := #[(0, (.tmp 3))]) (cs := #[(.string ⟨List.toArray ([97, 110, 110] : List UInt8)⟩), (.int .i64 0), (.int .i64 0), (.slice none (List.length ([] : List (Int × Int))) 0), (.slice (some ⟨g7, 0, none⟩) (List.length ([(([107] : List UInt8), ([115] : List UInt8), 5)] : List ((List UInt8) × (List UInt8) × Int))) (List.length ([(([107] : List UInt8), ([115] : List UInt8), 5)] : List ((List UInt8) × (List UInt8) × Int))))]) ([(([97, 110, 110] : List UInt8), 0, 0, (none, 0, ([] : List (Int × Int))), ((some ⟨g7, 0, none⟩), (List.length ([(([107] : List UInt8), ([115] : List UInt8), 5)] : List ((List UInt8) × (List UInt8) × Int))), ([(([107] : List UInt8), ([115] : List UInt8), 5)] : List ((List UInt8) × (List UInt8) × Int))))] : List Q6) (d := (some 4)) (k := 3) K rfl (fun _ => K) j rfl rfl rfl rfl ?_
 intro b m l
 refine iR 1 5 [(5, (.agg #[(.int .i64 9), (.int .i64 9), (.int .i64 9), (.int .i64 9), (.slice (some ⟨b, 0, none⟩) (List.length ([(([97, 110, 110] : List UInt8), 0, 0, ([] : List (Int × Int)), ([(([107] : List UInt8), ([115] : List UInt8), 5)] : List ((List UInt8) × (List UInt8) × Int)))] : List Qd)) (List.length ([(([97, 110, 110] : List UInt8), 0, 0, ([] : List (Int × Int)), ([(([107] : List UInt8), ([115] : List UInt8), 5)] : List ((List UInt8) × (List UInt8) × Int)))] : List Qd)))]))] ?_
 refine iS 6 ?_
 refine Qi.store (t := 24) (x := (.tmp 0)) (y := (.tmp 5)) (g := g3) (off := 0) (i := 0) (v := (.agg #[(.int .i64 9), (.int .i64 9), (.int .i64 9), (.int .i64 9), (.slice (some ⟨b, 0, none⟩) (List.length ([(([97, 110, 110] : List UInt8), 0, 0, ([] : List (Int × Int)), ([(([107] : List UInt8), ([115] : List UInt8), 5)] : List ((List UInt8) × (List UInt8) × Int)))] : List Qd)) (List.length ([(([97, 110, 110] : List UInt8), 0, 0, ([] : List (Int × Int)), ([(([107] : List UInt8), ([115] : List UInt8), 5)] : List ((List UInt8) × (List UInt8) × Int)))] : List Qd)))])) (cs' := #[(.int .i64 9), (.int .i64 9), (.int .i64 9), (.int .i64 9), (.slice (some ⟨b, 0, none⟩) (List.length ([(([97, 110, 110] : List UInt8), 0, 0, ([] : List (Int × Int)), ([(([107] : List UInt8), ([115] : List UInt8), 5)] : List ((List UInt8) × (List UInt8) × Int)))] : List Qd)) (List.length ([(([97, 110, 110] : List UInt8), 0, 0, ([] : List (Int × Int)), ([(([107] : List UInt8), ([115] : List UInt8), 5)] : List ((List UInt8) × (List UInt8) × Int)))] : List Qd)))]) (d := none) (k := 5) K rfl K K l rfl K ?_
 intro o c
 refine iF ?_
 refine At.ret K ?_
 refine ⟨(.agg #[(.int .i64 9), (.int .i64 9), (.int .i64 9), (.int .i64 9), (.slice (some ⟨b, 0, none⟩) (List.length ([(([97, 110, 110] : List UInt8), 0, 0, ([] : List (Int × Int)), ([(([107] : List UInt8), ([115] : List UInt8), 5)] : List ((List UInt8) × (List UInt8) × Int)))] : List Qd)) (List.length ([(([97, 110, 110] : List UInt8), 0, 0, ([] : List (Int × Int)), ([(([107] : List UInt8), ([115] : List UInt8), 5)] : List ((List UInt8) × (List UInt8) × Int)))] : List Qd)))]), Rr K (Ub (a := 0) (t := 24) (g := g3) (off := 0) K (SP.get c (i := 0) rfl) K), ?_⟩
 exact ⟨g7, b, rfl, SP.sel c [1, 2] rfl rfl⟩
def Q1 (a : Bool) : Option (Bool) :=
  (some (a))
def Yb  : Option (Bool) :=
  ((Jl ).bind fun z1 => ((J5 9 9 9 9 ([(([97, 110, 110] : List UInt8), 0, 0, ([] : List (Int × Int)), ([(([107] : List UInt8), ([115] : List UInt8), 5)] : List ((List UInt8) × (List UInt8) × Int)))] : List Qd)).bind fun z9 => (optE z9 (some (false)) (fun a => ((Ur a.1 a.2.1 a.2.2.1 a.2.2.2.1 ([(([97, 110, 110] : List UInt8), 0, 0, ([] : List (Int × Int)), ([(([107] : List UInt8), ([115] : List UInt8), 5)] : List ((List UInt8) × (List UInt8) × Int)))] : List Qd) a.2.2.2.2).bind fun f => ((Ur a.1 a.2.1 a.2.2.1 a.2.2.2.1 ([(([97, 110, 110] : List UInt8), 0, 0, ([] : List (Int × Int)), ([(([107] : List UInt8), ([115] : List UInt8), 5)] : List ((List UInt8) × (List UInt8) × Int)))] : List Qd) a.2.2.2.2).bind fun g => ((Vx a.1 a.2.1 a.2.2.1 a.2.2.2.1 ([(([97, 110, 110] : List UInt8), 0, 0, ([] : List (Int × Int)), ([(([107] : List UInt8), ([115] : List UInt8), 5)] : List ((List UInt8) × (List UInt8) × Int)))] : List Qd) a.2.2.2.2 f.1 f.2.1 f.2.2.1 f.2.2.2.1 f.2.2.2.2 1 ([97, 110, 110] : List UInt8) ([107] : List UInt8) 0 0 1 ([110] : List UInt8)).bind fun d => ((Zv a.1 a.2.1 a.2.2.1 a.2.2.2.1 ([(([97, 110, 110] : List UInt8), 0, 0, ([] : List (Int × Int)), ([(([107] : List UInt8), ([115] : List UInt8), 5)] : List ((List UInt8) × (List UInt8) × Int)))] : List Qd) a.2.2.2.2 ([97, 110, 110] : List UInt8) ([107] : List UInt8) ([110] : List UInt8)).bind fun i => ((Vx a.1 a.2.1 a.2.2.1 a.2.2.2.1 ([(([97, 110, 110] : List UInt8), 0, 0, ([] : List (Int × Int)), ([(([107] : List UInt8), ([115] : List UInt8), 5)] : List ((List UInt8) × (List UInt8) × Int)))] : List Qd) a.2.2.2.2 d.2.2.2.2.2.2.1 d.2.2.2.2.2.2.2.1 d.2.2.2.2.2.2.2.2.1 d.2.2.2.2.2.2.2.2.2.1 d.2.2.2.2.2.2.2.2.2.2 3 i ([] : List UInt8) 0 0 2 ([109] : List UInt8)).bind fun c => ((Z7 a.1 a.2.1 a.2.2.1 a.2.2.2.1 ([(([97, 110, 110] : List UInt8), 0, 0, ([] : List (Int × Int)), ([(([107] : List UInt8), ([115] : List UInt8), 5)] : List ((List UInt8) × (List UInt8) × Int)))] : List Qd) a.2.2.2.2 c.2.2.2.2.2.2.1 c.2.2.2.2.2.2.2.1 c.2.2.2.2.2.2.2.2.1 c.2.2.2.2.2.2.2.2.2.1 c.2.2.2.2.2.2.2.2.2.2).bind fun h => ((Vx a.1 a.2.1 a.2.2.1 a.2.2.2.1 ([(([97, 110, 110] : List UInt8), 0, 0, ([] : List (Int × Int)), ([(([107] : List UInt8), ([115] : List UInt8), 5)] : List ((List UInt8) × (List UInt8) × Int)))] : List Qd) a.2.2.2.2 c.2.2.2.2.2.2.1 c.2.2.2.2.2.2.2.1 c.2.2.2.2.2.2.2.2.1 c.2.2.2.2.2.2.2.2.2.1 c.2.2.2.2.2.2.2.2.2.2 13 ([] : List UInt8) ([] : List UInt8) 0 0 3 ([] : List UInt8)).bind fun e => ((Vx a.1 a.2.1 a.2.2.1 a.2.2.2.1 ([(([97, 110, 110] : List UInt8), 0, 0, ([] : List (Int × Int)), ([(([107] : List UInt8), ([115] : List UInt8), 5)] : List ((List UInt8) × (List UInt8) × Int)))] : List Qd) a.2.2.2.2 g.1 g.2.1 g.2.2.1 g.2.2.2.1 g.2.2.2.2 3 ([] : List UInt8) ([] : List UInt8) 0 0 1 ([110] : List UInt8)).bind fun b => ((Z7 a.1 a.2.1 a.2.2.1 a.2.2.2.1 ([(([97, 110, 110] : List UInt8), 0, 0, ([] : List (Int × Int)), ([(([107] : List UInt8), ([115] : List UInt8), 5)] : List ((List UInt8) × (List UInt8) × Int)))] : List Qd) a.2.2.2.2 b.2.2.2.2.2.2.1 b.2.2.2.2.2.2.2.1 b.2.2.2.2.2.2.2.2.1 b.2.2.2.2.2.2.2.2.2.1 b.2.2.2.2.2.2.2.2.2.2).bind fun j => (cond ((d.1 == 2) && ((d.2.1 == ([110] : List UInt8)) && ((d.2.2.1 == ([] : List UInt8)) && ((d.2.2.2.1 == 0) && (d.2.2.2.2.1 == 0))))) (cond d.2.2.2.2.2.1 (cond (c.1 == 4) (cond c.2.2.2.2.2.1 (cond (h.1 == ([97, 110, 110] : List UInt8)) (cond h.2 (cond (!e.2.2.2.2.2.1) (cond ((b.1 == 5) && ((b.2.1 == ([] : List UInt8)) && ((b.2.2.1 == ([] : List UInt8)) && ((b.2.2.2.1 == 1) && (b.2.2.2.2.1 == 0))))) (cond (!j.2) ((Jc a.1 a.2.1 a.2.2.1 a.2.2.2.1 ([(([97, 110, 110] : List UInt8), 0, 0, ([] : List (Int × Int)), ([(([107] : List UInt8), ([115] : List UInt8), 5)] : List ((List UInt8) × (List UInt8) × Int)))] : List Qd) a.2.2.2.2 e.2.2.2.2.2.2.1 e.2.2.2.2.2.2.2.1 e.2.2.2.2.2.2.2.2.1 e.2.2.2.2.2.2.2.2.2.1 e.2.2.2.2.2.2.2.2.2.2).bind fun k => (cond k ((Jc a.1 a.2.1 a.2.2.1 a.2.2.2.1 ([(([97, 110, 110] : List UInt8), 0, 0, ([] : List (Int × Int)), ([(([107] : List UInt8), ([115] : List UInt8), 5)] : List ((List UInt8) × (List UInt8) × Int)))] : List Qd) a.2.2.2.2 b.2.2.2.2.2.2.1 b.2.2.2.2.2.2.2.1 b.2.2.2.2.2.2.2.2.1 b.2.2.2.2.2.2.2.2.2.1 b.2.2.2.2.2.2.2.2.2.2).bind fun l => (Q1 l)) (Q1 false))) (Q1 false)) (Q1 false)) (Q1 false)) (Q1 false)) (Q1 false)) (Q1 false)) (Q1 false)) (Q1 false)) (Q1 false)))))))))))))))
set_option maxRecDepth 100000 in
set_option maxHeartbeats 4000000 in
theorem Gh   (w0 : World) (hL : Dd w0)  (r : (Bool)) (H : Yb  = some r) :
  Calls Tryz.prog 31 #[] w0 (fun e w' => e = .returned (.bool r) ∧ SP [] w0 w' []) := by
 unfold Yb at H
 refine Qu (n := 108) Tryz.func31 K K K ?_
 have f8 := Q3 [] w0
 refine aQ ?_
 refine aR ?_
 refine iR 1 1 [(0, (.bool false))] ?_
 refine iF ?_
 refine aQ ?_
 refine aR ?_
 obtain ⟨z1, f9, H⟩ := Qc H
 refine iS 1 ?_
 refine cF 56 #[] #[] 16 Tryz.call56 (Gr   w0  z1 f9) ?_
 rintro e w3 ⟨g5, g6, rfl, d4⟩
 refine ⟨_, rfl, ?_⟩
 have a7 := SP.call f8 d4
 clear d4
 obtain ⟨z9, d5, H⟩ := Qc H
 rcases z9 with _ | c
 ·have H := optN H
  refine iS 2 ?_
  refine cF 18 #[(.tmp 16)] #[24] 17 Tryz.call18 (J0 (some ⟨g6, 0, none⟩) (List.length ([(([97, 110, 110] : List UInt8), 0, 0, ([] : List (Int × Int)), ([(([107] : List UInt8), ([115] : List UInt8), 5)] : List ((List UInt8) × (List UInt8) × Int)))] : List Qd)) 9 9 9 9 ([(([97, 110, 110] : List UInt8), 0, 0, (none, 0, ([] : List (Int × Int))), ((some ⟨g5, 0, none⟩), (List.length ([(([107] : List UInt8), ([115] : List UInt8), 5)] : List ((List UInt8) × (List UInt8) × Int))), ([(([107] : List UInt8), ([115] : List UInt8), 5)] : List ((List UInt8) × (List UInt8) × Int))))] : List Q6) w3 (Zw hL (SP.keeps a7)) (Dx (V7 (SP.get a7 (i := 1) rfl)) (Un (Z9 Ys (Z9 Ys (Z9 Ys (Z9 (J2 (RdT.nil (Qw (Qk .u32) (Qk .i64)) w3)) (J2 (V7 (SP.get a7 (i := 0) rfl))))))) Ns)) none d5) ?_
  rintro e j5 ⟨rfl, d6⟩
  refine ⟨_, rfl, ?_⟩
  have g0 := SP.call a7 d6
  clear d6
  refine iR 1 3 [(1, (.pointer none))] ?_
  refine iF ?_
  refine aQ ?_
  refine aQ ?_
  refine aR ?_
  refine iR 2 2 [(18, (.pointer none)), (19, (.bool true))] ?_
  refine iF ?_
  refine Zq K (o := (.tmp 19)) K (b := true) K (fun d7 => ?_) (fun d7 => ?_)
  rotate_left
  ·cases d7
  refine aQ ?_
  refine aR ?_
  refine iR 1 1 [(0, (.bool false))] ?_
  refine iF ?_
  refine At.ret K ?_
  refine ⟨(.bool false), K, ?_⟩
  obtain rfl := Qg H
  exact ⟨rfl, SP.sel g0 [] rfl rfl⟩
 ·have H := optS H
  refine iS 2 ?_
  refine cF 18 #[(.tmp 16)] #[24] 17 Tryz.call18 (J0 (some ⟨g6, 0, none⟩) (List.length ([(([97, 110, 110] : List UInt8), 0, 0, ([] : List (Int × Int)), ([(([107] : List UInt8), ([115] : List UInt8), 5)] : List ((List UInt8) × (List UInt8) × Int)))] : List Qd)) 9 9 9 9 ([(([97, 110, 110] : List UInt8), 0, 0, (none, 0, ([] : List (Int × Int))), ((some ⟨g5, 0, none⟩), (List.length ([(([107] : List UInt8), ([115] : List UInt8), 5)] : List ((List UInt8) × (List UInt8) × Int))), ([(([107] : List UInt8), ([115] : List UInt8), 5)] : List ((List UInt8) × (List UInt8) × Int))))] : List Q6) w3 (Zw hL (SP.keeps a7)) (Dx (V7 (SP.get a7 (i := 1) rfl)) (Un (Z9 Ys (Z9 Ys (Z9 Ys (Z9 (J2 (RdT.nil (Qw (Qk .u32) (Qk .i64)) w3)) (J2 (V7 (SP.get a7 (i := 0) rfl))))))) Ns)) (some c) d5) ?_
  rintro e g1 ⟨p, u, rfl, d8⟩
  refine ⟨_, rfl, ?_⟩
  have b2 := SP.call a7 d8
  clear d8
  refine iR 1 3 [(1, (pt p 0))] ?_
  refine iF ?_
  refine aQ ?_
  refine aQ ?_
  refine aR ?_
  refine iR 2 2 [(18, (pt p 0)), (19, (.bool false))] ?_
  refine iF ?_
  refine Zq K (o := (.tmp 19)) K (b := false) K (fun d9 => ?_) (fun d9 => ?_)
  ·cases d9
  refine At.skip K ?_
  refine aQ ?_
  refine aR ?_
  refine iR 1 1 [(20, (pt p 0))] ?_
  obtain ⟨a2, g2, H⟩ := Qc H
  refine iS 2 ?_
  refine cF 33 #[(.tmp 20)] #[29] 21 Tryz.call33 (U3 p (some ⟨g6, 0, none⟩) (List.length ([(([97, 110, 110] : List UInt8), 0, 0, ([] : List (Int × Int)), ([(([107] : List UInt8), ([115] : List UInt8), 5)] : List ((List UInt8) × (List UInt8) × Int)))] : List Qd)) u c.1 c.2.1 c.2.2.1 c.2.2.2.1 ([(([97, 110, 110] : List UInt8), 0, 0, (none, 0, ([] : List (Int × Int))), ((some ⟨g5, 0, none⟩), (List.length ([(([107] : List UInt8), ([115] : List UInt8), 5)] : List ((List UInt8) × (List UInt8) × Int))), ([(([107] : List UInt8), ([115] : List UInt8), 5)] : List ((List UInt8) × (List UInt8) × Int))))] : List Q6) c.2.2.2.2 g1 (Xs b2 [2, 3] rfl rfl) (fun w hm => Dx (V7 (SP.still b2 (l := [2, 3]) (i := 1) rfl rfl rfl hm)) (Un (Z9 Ys (Z9 Ys (Z9 Ys (Z9 (Gz (Qw (Qk .u32) (Qk .i64)) dT w) (J2 (V7 (SP.still b2 (l := [2, 3]) (i := 0) rfl rfl rfl hm))))))) Ns)) a2 g2) ?_
  rintro e e0 ⟨s, rfl, e1⟩
  refine ⟨_, rfl, ?_⟩
  have b3 : SP [] w0 e0 [U2 48 (Qw V9 (Qw V9 (Qk .i64))) (some ⟨g5, 0, none⟩) (List.length ([(([107] : List UInt8), ([115] : List UInt8), 5)] : List ((List UInt8) × (List UInt8) × Int))) ([(([107] : List UInt8), ([115] : List UInt8), 5)] : List ((List UInt8) × (List UInt8) × Int)), U2 44 J9 (some ⟨g6, 0, none⟩) (List.length ([(([97, 110, 110] : List UInt8), 0, 0, ([] : List (Int × Int)), ([(([107] : List UInt8), ([115] : List UInt8), 5)] : List ((List UInt8) × (List UInt8) × Int)))] : List Qd)) ([(([97, 110, 110] : List UInt8), 0, 0, (none, 0, ([] : List (Int × Int))), ((some ⟨g5, 0, none⟩), (List.length ([(([107] : List UInt8), ([115] : List UInt8), 5)] : List ((List UInt8) × (List UInt8) × Int))), ([(([107] : List UInt8), ([115] : List UInt8), 5)] : List ((List UInt8) × (List UInt8) × Int))))] : List Q6), Qo s 95 #[(pt p 0), (Zc a2.1 s), (.string ⟨List.toArray a2.2.1⟩), (.string ⟨List.toArray a2.2.2.1⟩), (.string ⟨List.toArray a2.2.2.2.1⟩), (.bool a2.2.2.2.2)], Qo p 79 #[(.int .i64 c.1), (.int .i64 c.2.1), (.int .i64 c.2.2.1), (.int .i64 c.2.2.2.1), (.slice (some ⟨g6, 0, none⟩) (List.length ([(([97, 110, 110] : List UInt8), 0, 0, ([] : List (Int × Int)), ([(([107] : List UInt8), ([115] : List UInt8), 5)] : List ((List UInt8) × (List UInt8) × Int)))] : List Qd)) (List.length ([(([97, 110, 110] : List UInt8), 0, 0, ([] : List (Int × Int)), ([(([107] : List UInt8), ([115] : List UInt8), 5)] : List ((List UInt8) × (List UInt8) × Int)))] : List Qd))), (.map (some u))], Vf u c.2.2.2.2] := Vv b2 [2, 3] [0, 1] rfl rfl e1 rfl
  clear e1
  refine iR 1 3 [(2, (pt s 0))] ?_
  refine iF ?_
  refine aQ ?_
  refine aR ?_
  refine iR 1 1 [(22, (pt p 0))] ?_
  obtain ⟨q, g3, H⟩ := Qc H
  refine iS 2 ?_
  refine cF 33 #[(.tmp 22)] #[29] 23 Tryz.call33 (U3 p (some ⟨g6, 0, none⟩) (List.length ([(([97, 110, 110] : List UInt8), 0, 0, ([] : List (Int × Int)), ([(([107] : List UInt8), ([115] : List UInt8), 5)] : List ((List UInt8) × (List UInt8) × Int)))] : List Qd)) u c.1 c.2.1 c.2.2.1 c.2.2.2.1 ([(([97, 110, 110] : List UInt8), 0, 0, (none, 0, ([] : List (Int × Int))), ((some ⟨g5, 0, none⟩), (List.length ([(([107] : List UInt8), ([115] : List UInt8), 5)] : List ((List UInt8) × (List UInt8) × Int))), ([(([107] : List UInt8), ([115] : List UInt8), 5)] : List ((List UInt8) × (List UInt8) × Int))))] : List Q6) c.2.2.2.2 e0 (Xs b3 [3, 4] rfl rfl) (fun w hm => Dx (V7 (SP.still b3 (l := [3, 4]) (i := 1) rfl rfl rfl hm)) (Un (Z9 Ys (Z9 Ys (Z9 Ys (Z9 (Gz (Qw (Qk .u32) (Qk .i64)) dT w) (J2 (V7 (SP.still b3 (l := [3, 4]) (i := 0) rfl rfl rfl hm))))))) Ns)) q g3) ?_
  rintro e e2 ⟨a0, rfl, e3⟩
  refine ⟨_, rfl, ?_⟩
  have b4 : SP [] w0 e2 [U2 48 (Qw V9 (Qw V9 (Qk .i64))) (some ⟨g5, 0, none⟩) (List.length ([(([107] : List UInt8), ([115] : List UInt8), 5)] : List ((List UInt8) × (List UInt8) × Int))) ([(([107] : List UInt8), ([115] : List UInt8), 5)] : List ((List UInt8) × (List UInt8) × Int)), U2 44 J9 (some ⟨g6, 0, none⟩) (List.length ([(([97, 110, 110] : List UInt8), 0, 0, ([] : List (Int × Int)), ([(([107] : List UInt8), ([115] : List UInt8), 5)] : List ((List UInt8) × (List UInt8) × Int)))] : List Qd)) ([(([97, 110, 110] : List UInt8), 0, 0, (none, 0, ([] : List (Int × Int))), ((some ⟨g5, 0, none⟩), (List.length ([(([107] : List UInt8), ([115] : List UInt8), 5)] : List ((List UInt8) × (List UInt8) × Int))), ([(([107] : List UInt8), ([115] : List UInt8), 5)] : List ((List UInt8) × (List UInt8) × Int))))] : List Q6), Qo s 95 #[(pt p 0), (Zc a2.1 s), (.string ⟨List.toArray a2.2.1⟩), (.string ⟨List.toArray a2.2.2.1⟩), (.string ⟨List.toArray a2.2.2.2.1⟩), (.bool a2.2.2.2.2)], Qo a0 95 #[(pt p 0), (Zc q.1 a0), (.string ⟨List.toArray q.2.1⟩), (.string ⟨List.toArray q.2.2.1⟩), (.string ⟨List.toArray q.2.2.2.1⟩), (.bool q.2.2.2.2)], Qo p 79 #[(.int .i64 c.1), (.int .i64 c.2.1), (.int .i64 c.2.2.1), (.int .i64 c.2.2.2.1), (.slice (some ⟨g6, 0, none⟩) (List.length ([(([97, 110, 110] : List UInt8), 0, 0, ([] : List (Int × Int)), ([(([107] : List UInt8), ([115] : List UInt8), 5)] : List ((List UInt8) × (List UInt8) × Int)))] : List Qd)) (List.length ([(([97, 110, 110] : List UInt8), 0, 0, ([] : List (Int × Int)), ([(([107] : List UInt8), ([115] : List UInt8), 5)] : List ((List UInt8) × (List UInt8) × Int)))] : List Qd))), (.map (some u))], Vf u c.2.2.2.2] := Vv b3 [3, 4] [0, 1, 2] rfl rfl e3 rfl
  clear e3
  refine iR 1 3 [(3, (pt a0 0))] ?_
  refine iF ?_
  refine aQ ?_
  refine aQ ?_
  refine aR ?_
  refine iR 6 6 [(24, (pt s 0)), (25, (.bool false)), (26, (.bool false)), (27, (pt a0 0)), (28, (.bool false)), (29, (.bool false))] ?_
  refine iF ?_
  refine Zq K (o := (.tmp 29)) K (b := false) K (fun e4 => ?_) (fun e4 => ?_)
  ·cases e4
  refine At.skip K ?_
  refine aQ ?_
  refine aR ?_
  refine iR 2 2 [(31, (pt s 0)), (32, (.agg #[(.int .i64 1), (.string ⟨List.toArray ([97, 110, 110] : List UInt8)⟩), (.string ⟨List.toArray ([107] : List UInt8)⟩), (.int .i64 0), (.int .i64 0)]))] ?_
  obtain ⟨f, g4, H⟩ := Qc H
  refine iS 3 ?_
  refine cF 34 #[(.tmp 31), (.tmp 32), (.const (.int .i64 (1))), (.const (.string ⟨List.toArray ([110] : List UInt8)⟩))] #[60, 63, 2, 9] 33 Tryz.call34 (Zg s p (some ⟨g6, 0, none⟩) (List.length ([(([97, 110, 110] : List UInt8), 0, 0, ([] : List (Int × Int)), ([(([107] : List UInt8), ([115] : List UInt8), 5)] : List ((List UInt8) × (List UInt8) × Int)))] : List Qd)) u c.1 c.2.1 c.2.2.1 c.2.2.2.1 ([(([97, 110, 110] : List UInt8), 0, 0, (none, 0, ([] : List (Int × Int))), ((some ⟨g5, 0, none⟩), (List.length ([(([107] : List UInt8), ([115] : List UInt8), 5)] : List ((List UInt8) × (List UInt8) × Int))), ([(([107] : List UInt8), ([115] : List UInt8), 5)] : List ((List UInt8) × (List UInt8) × Int))))] : List Q6) c.2.2.2.2 a2.1 a2.2.1 a2.2.2.1 a2.2.2.2.1 a2.2.2.2.2 1 ([97, 110, 110] : List UInt8) ([107] : List UInt8) 0 0 1 ([110] : List UInt8) e2 (Xs b4 [4, 5, 2] rfl rfl) (fun w hm => Dx (V7 (SP.still b4 (l := [4, 5, 2]) (i := 1) rfl rfl rfl hm)) (Un (Z9 Ys (Z9 Ys (Z9 Ys (Z9 (Gz (Qw (Qk .u32) (Qk .i64)) dT w) (J2 (V7 (SP.still b4 (l := [4, 5, 2]) (i := 0) rfl rfl rfl hm))))))) Ns)) f g4) ?_
  rintro e g7 ⟨rfl, e5⟩
  refine ⟨_, rfl, ?_⟩
  have g8 : SP [] w0 g7 [U2 48 (Qw V9 (Qw V9 (Qk .i64))) (some ⟨g5, 0, none⟩) (List.length ([(([107] : List UInt8), ([115] : List UInt8), 5)] : List ((List UInt8) × (List UInt8) × Int))) ([(([107] : List UInt8), ([115] : List UInt8), 5)] : List ((List UInt8) × (List UInt8) × Int)), U2 44 J9 (some ⟨g6, 0, none⟩) (List.length ([(([97, 110, 110] : List UInt8), 0, 0, ([] : List (Int × Int)), ([(([107] : List UInt8), ([115] : List UInt8), 5)] : List ((List UInt8) × (List UInt8) × Int)))] : List Qd)) ([(([97, 110, 110] : List UInt8), 0, 0, (none, 0, ([] : List (Int × Int))), ((some ⟨g5, 0, none⟩), (List.length ([(([107] : List UInt8), ([115] : List UInt8), 5)] : List ((List UInt8) × (List UInt8) × Int))), ([(([107] : List UInt8), ([115] : List UInt8), 5)] : List ((List UInt8) × (List UInt8) × Int))))] : List Q6), Qo a0 95 #[(pt p 0), (Zc q.1 a0), (.string ⟨List.toArray q.2.1⟩), (.string ⟨List.toArray q.2.2.1⟩), (.string ⟨List.toArray q.2.2.2.1⟩), (.bool q.2.2.2.2)], Qo p 79 #[(.int .i64 c.1), (.int .i64 c.2.1), (.int .i64 c.2.2.1), (.int .i64 c.2.2.2.1), (.slice (some ⟨g6, 0, none⟩) (List.length ([(([97, 110, 110] : List UInt8), 0, 0, ([] : List (Int × Int)), ([(([107] : List UInt8), ([115] : List UInt8), 5)] : List ((List UInt8) × (List UInt8) × Int)))] : List Qd)) (List.length ([(([97, 110, 110] : List UInt8), 0, 0, ([] : List (Int × Int)), ([(([107] : List UInt8), ([115] : List UInt8), 5)] : List ((List UInt8) × (List UInt8) × Int)))] : List Qd))), (.map (some u))], Vf u c.2.2.2.2, Qo s 95 #[(pt p 0), (Zc f.2.2.2.2.2.2.1 s), (.string ⟨List.toArray f.2.2.2.2.2.2.2.1⟩), (.string ⟨List.toArray f.2.2.2.2.2.2.2.2.1⟩), (.string ⟨List.toArray f.2.2.2.2.2.2.2.2.2.1⟩), (.bool f.2.2.2.2.2.2.2.2.2.2)]] := Vv b4 [4, 5, 2] [0, 1, 3] rfl rfl e5 rfl
  clear e5
  refine iR 3 6 [(30, (.tuple #[(.agg #[(.int .i64 f.1), (.string ⟨List.toArray f.2.1⟩), (.string ⟨List.toArray f.2.2.1⟩), (.int .i64 f.2.2.2.1), (.int .i64 f.2.2.2.2.1)]), (.bool f.2.2.2.2.2.1)])), (34, (.agg #[(.int .i64 f.1), (.string ⟨List.toArray f.2.1⟩), (.string ⟨List.toArray f.2.2.1⟩), (.int .i64 f.2.2.2.1), (.int .i64 f.2.2.2.2.1)])), (35, (.bool f.2.2.2.2.2.1))] ?_
  refine iS 7 ?_
  refine Qi.alloc (t := 63) (z := (.agg #[(.int .i64 0), (.string ⟨List.toArray ([] : List UInt8)⟩), (.string ⟨List.toArray ([] : List UInt8)⟩), (.int .i64 0), (.int .i64 0)])) (d := (some 4)) (k := 6) K rfl K g8 ?_
  intro a5 j6 g9
  refine iS 8 ?_
  refine Qi.store (t := 63) (x := (.tmp 4)) (y := (.tmp 34)) (g := a5) (off := 0) (i := 6) (v := (.agg #[(.int .i64 f.1), (.string ⟨List.toArray f.2.1⟩), (.string ⟨List.toArray f.2.2.1⟩), (.int .i64 f.2.2.2.1), (.int .i64 f.2.2.2.2.1)])) (cs' := #[(.int .i64 f.1), (.string ⟨List.toArray f.2.1⟩), (.string ⟨List.toArray f.2.2.1⟩), (.int .i64 f.2.2.2.1), (.int .i64 f.2.2.2.2.1)]) (d := none) (k := 7) K rfl K K g9 rfl K ?_
  intro h1 b5
  refine iR 1 9 [(5, (.bool f.2.2.2.2.2.1))] ?_
  refine iF ?_
  refine aQ ?_
  refine aR ?_
  refine iR 2 2 [(37, (pt s 0)), (38, (pt p 0))] ?_
  obtain ⟨c3, h2, H⟩ := Qc H
  refine iS 3 ?_
  refine cF 24 #[(.tmp 38), (.const (.string ⟨List.toArray ([97, 110, 110] : List UInt8)⟩)), (.const (.string ⟨List.toArray ([107] : List UInt8)⟩)), (.const (.string ⟨List.toArray ([110] : List UInt8)⟩))] #[29, 9, 9, 9] 39 Tryz.call24 (Yz p (some ⟨g6, 0, none⟩) (List.length ([(([97, 110, 110] : List UInt8), 0, 0, ([] : List (Int × Int)), ([(([107] : List UInt8), ([115] : List UInt8), 5)] : List ((List UInt8) × (List UInt8) × Int)))] : List Qd)) u c.1 c.2.1 c.2.2.1 c.2.2.2.1 ([(([97, 110, 110] : List UInt8), 0, 0, (none, 0, ([] : List (Int × Int))), ((some ⟨g5, 0, none⟩), (List.length ([(([107] : List UInt8), ([115] : List UInt8), 5)] : List ((List UInt8) × (List UInt8) × Int))), ([(([107] : List UInt8), ([115] : List UInt8), 5)] : List ((List UInt8) × (List UInt8) × Int))))] : List Q6) c.2.2.2.2 ([97, 110, 110] : List UInt8) ([107] : List UInt8) ([110] : List UInt8) h1 (Xs b5 [3, 4] rfl rfl) (fun w hm => Dx (V7 (SP.still b5 (l := [3, 4]) (i := 1) rfl rfl rfl hm)) (Un (Z9 Ys (Z9 Ys (Z9 Ys (Z9 (Gz (Qw (Qk .u32) (Qk .i64)) dT w) (J2 (V7 (SP.still b5 (l := [3, 4]) (i := 0) rfl rfl rfl hm))))))) Ns)) c3 h2) ?_
  rintro e e6 ⟨rfl, e7⟩
  refine ⟨_, rfl, ?_⟩
  have b6 : SP [] w0 e6 [U2 48 (Qw V9 (Qw V9 (Qk .i64))) (some ⟨g5, 0, none⟩) (List.length ([(([107] : List UInt8), ([115] : List UInt8), 5)] : List ((List UInt8) × (List UInt8) × Int))) ([(([107] : List UInt8), ([115] : List UInt8), 5)] : List ((List UInt8) × (List UInt8) × Int)), U2 44 J9 (some ⟨g6, 0, none⟩) (List.length ([(([97, 110, 110] : List UInt8), 0, 0, ([] : List (Int × Int)), ([(([107] : List UInt8), ([115] : List UInt8), 5)] : List ((List UInt8) × (List UInt8) × Int)))] : List Qd)) ([(([97, 110, 110] : List UInt8), 0, 0, (none, 0, ([] : List (Int × Int))), ((some ⟨g5, 0, none⟩), (List.length ([(([107] : List UInt8), ([115] : List UInt8), 5)] : List ((List UInt8) × (List UInt8) × Int))), ([(([107] : List UInt8), ([115] : List UInt8), 5)] : List ((List UInt8) × (List UInt8) × Int))))] : List Q6), Qo a0 95 #[(pt p 0), (Zc q.1 a0), (.string ⟨List.toArray q.2.1⟩), (.string ⟨List.toArray q.2.2.1⟩), (.string ⟨List.toArray q.2.2.2.1⟩), (.bool q.2.2.2.2)], Qo s 95 #[(pt p 0), (Zc f.2.2.2.2.2.2.1 s), (.string ⟨List.toArray f.2.2.2.2.2.2.2.1⟩), (.string ⟨List.toArray f.2.2.2.2.2.2.2.2.1⟩), (.string ⟨List.toArray f.2.2.2.2.2.2.2.2.2.1⟩), (.bool f.2.2.2.2.2.2.2.2.2.2)], Qo a5 63 #[(.int .i64 f.1), (.string ⟨List.toArray f.2.1⟩), (.string ⟨List.toArray f.2.2.1⟩), (.int .i64 f.2.2.2.1), (.int .i64 f.2.2.2.2.1)], Qo p 79 #[(.int .i64 c.1), (.int .i64 c.2.1), (.int .i64 c.2.2.1), (.int .i64 c.2.2.2.1), (.slice (some ⟨g6, 0, none⟩) (List.length ([(([97, 110, 110] : List UInt8), 0, 0, ([] : List (Int × Int)), ([(([107] : List UInt8), ([115] : List UInt8), 5)] : List ((List UInt8) × (List UInt8) × Int)))] : List Qd)) (List.length ([(([97, 110, 110] : List UInt8), 0, 0, ([] : List (Int × Int)), ([(([107] : List UInt8), ([115] : List UInt8), 5)] : List ((List UInt8) × (List UInt8) × Int)))] : List Qd))), (.map (some u))], Vf u c.2.2.2.2] := Vv b5 [3, 4] [0, 1, 2, 5, 6] rfl rfl e7 rfl
  clear e7
  refine iR 1 4 [(40, (.agg #[(.int .i64 3), (.string ⟨List.toArray c3⟩), (.string ⟨List.toArray ([] : List UInt8)⟩), (.int .i64 0), (.int .i64 0)]))] ?_
  obtain ⟨j, h3, H⟩ := Qc H
  refine iS 5 ?_
  refine cF 34 #[(.tmp 37), (.tmp 40), (.const (.int .i64 (2))), (.const (.string ⟨List.toArray ([109] : List UInt8)⟩))] #[60, 63, 2, 9] 41 Tryz.call34 (Zg s p (some ⟨g6, 0, none⟩) (List.length ([(([97, 110, 110] : List UInt8), 0, 0, ([] : List (Int × Int)), ([(([107] : List UInt8), ([115] : List UInt8), 5)] : List ((List UInt8) × (List UInt8) × Int)))] : List Qd)) u c.1 c.2.1 c.2.2.1 c.2.2.2.1 ([(([97, 110, 110] : List UInt8), 0, 0, (none, 0, ([] : List (Int × Int))), ((some ⟨g5, 0, none⟩), (List.length ([(([107] : List UInt8), ([115] : List UInt8), 5)] : List ((List UInt8) × (List UInt8) × Int))), ([(([107] : List UInt8), ([115] : List UInt8), 5)] : List ((List UInt8) × (List UInt8) × Int))))] : List Q6) c.2.2.2.2 f.2.2.2.2.2.2.1 f.2.2.2.2.2.2.2.1 f.2.2.2.2.2.2.2.2.1 f.2.2.2.2.2.2.2.2.2.1 f.2.2.2.2.2.2.2.2.2.2 3 c3 ([] : List UInt8) 0 0 2 ([109] : List UInt8) e6 (Xs b6 [5, 6, 3] rfl rfl) (fun w hm => Dx (V7 (SP.still b6 (l := [5, 6, 3]) (i := 1) rfl rfl rfl hm)) (Un (Z9 Ys (Z9 Ys (Z9 Ys (Z9 (Gz (Qw (Qk .u32) (Qk .i64)) dT w) (J2 (V7 (SP.still b6 (l := [5, 6, 3]) (i := 0) rfl rfl rfl hm))))))) Ns)) j h3) ?_
  rintro e h4 ⟨rfl, e8⟩
  refine ⟨_, rfl, ?_⟩
  have h5 : SP [] w0 h4 [U2 48 (Qw V9 (Qw V9 (Qk .i64))) (some ⟨g5, 0, none⟩) (List.length ([(([107] : List UInt8), ([115] : List UInt8), 5)] : List ((List UInt8) × (List UInt8) × Int))) ([(([107] : List UInt8), ([115] : List UInt8), 5)] : List ((List UInt8) × (List UInt8) × Int)), U2 44 J9 (some ⟨g6, 0, none⟩) (List.length ([(([97, 110, 110] : List UInt8), 0, 0, ([] : List (Int × Int)), ([(([107] : List UInt8), ([115] : List UInt8), 5)] : List ((List UInt8) × (List UInt8) × Int)))] : List Qd)) ([(([97, 110, 110] : List UInt8), 0, 0, (none, 0, ([] : List (Int × Int))), ((some ⟨g5, 0, none⟩), (List.length ([(([107] : List UInt8), ([115] : List UInt8), 5)] : List ((List UInt8) × (List UInt8) × Int))), ([(([107] : List UInt8), ([115] : List UInt8), 5)] : List ((List UInt8) × (List UInt8) × Int))))] : List Q6), Qo a0 95 #[(pt p 0), (Zc q.1 a0), (.string ⟨List.toArray q.2.1⟩), (.string ⟨List.toArray q.2.2.1⟩), (.string ⟨List.toArray q.2.2.2.1⟩), (.bool q.2.2.2.2)], Qo a5 63 #[(.int .i64 f.1), (.string ⟨List.toArray f.2.1⟩), (.string ⟨List.toArray f.2.2.1⟩), (.int .i64 f.2.2.2.1), (.int .i64 f.2.2.2.2.1)], Qo p 79 #[(.int .i64 c.1), (.int .i64 c.2.1), (.int .i64 c.2.2.1), (.int .i64 c.2.2.2.1), (.slice (some ⟨g6, 0, none⟩) (List.length ([(([97, 110, 110] : List UInt8), 0, 0, ([] : List (Int × Int)), ([(([107] : List UInt8), ([115] : List UInt8), 5)] : List ((List UInt8) × (List UInt8) × Int)))] : List Qd)) (List.length ([(([97, 110, 110] : List UInt8), 0, 0, ([] : List (Int × Int)), ([(([107] : List UInt8), ([115] : List UInt8), 5)] : List ((List UInt8) × (List UInt8) × Int)))] : List Qd))), (.map (some u))], Vf u c.2.2.2.2, Qo s 95 #[(pt p 0), (Zc j.2.2.2.2.2.2.1 s), (.string ⟨List.toArray j.2.2.2.2.2.2.2.1⟩), (.string ⟨List.toArray j.2.2.2.2.2.2.2.2.1⟩), (.string ⟨List.toArray j.2.2.2.2.2.2.2.2.2.1⟩), (.bool j.2.2.2.2.2.2.2.2.2.2)]] := Vv b6 [5, 6, 3] [0, 1, 2, 4] rfl rfl e8 rfl
  clear e8
  refine iR 3 8 [(36, (.tuple #[(.agg #[(.int .i64 j.1), (.string ⟨List.toArray j.2.1⟩), (.string ⟨List.toArray j.2.2.1⟩), (.int .i64 j.2.2.2.1), (.int .i64 j.2.2.2.2.1)]), (.bool j.2.2.2.2.2.1)])), (42, (.agg #[(.int .i64 j.1), (.string ⟨List.toArray j.2.1⟩), (.string ⟨List.toArray j.2.2.1⟩), (.int .i64 j.2.2.2.1), (.int .i64 j.2.2.2.2.1)])), (43, (.bool j.2.2.2.2.2.1))] ?_
  refine iS 9 ?_
  refine Qi.alloc (t := 63) (z := (.agg #[(.int .i64 0), (.string ⟨List.toArray ([] : List UInt8)⟩), (.string ⟨List.toArray ([] : List UInt8)⟩), (.int .i64 0), (.int .i64 0)])) (d := (some 6)) (k := 8) K rfl K h5 ?_
  intro a6 j7 h6
  refine iS 10 ?_
  refine Qi.store (t := 63) (x := (.tmp 6)) (y := (.tmp 42)) (g := a6) (off := 0) (i := 7) (v := (.agg #[(.int .i64 j.1), (.string ⟨List.toArray j.2.1⟩), (.string ⟨List.toArray j.2.2.1⟩), (.int .i64 j.2.2.2.1), (.int .i64 j.2.2.2.2.1)])) (cs' := #[(.int .i64 j.1), (.string ⟨List.toArray j.2.1⟩), (.string ⟨List.toArray j.2.2.1⟩), (.int .i64 j.2.2.2.1), (.int .i64 j.2.2.2.2.1)]) (d := none) (k := 9) K rfl K K h6 rfl K ?_
  intro h7 b7
  refine iR 1 11 [(7, (.bool j.2.2.2.2.2.1))] ?_
  refine iF ?_
  refine aQ ?_
  refine aR ?_
  refine iR 1 1 [(45, (pt s 0))] ?_
  obtain ⟨a1, h8, H⟩ := Qc H
  refine iS 2 ?_
  refine cF 35 #[(.tmp 45)] #[60] 46 Tryz.call35 (Y9 s p (some ⟨g6, 0, none⟩) (List.length ([(([97, 110, 110] : List UInt8), 0, 0, ([] : List (Int × Int)), ([(([107] : List UInt8), ([115] : List UInt8), 5)] : List ((List UInt8) × (List UInt8) × Int)))] : List Qd)) u c.1 c.2.1 c.2.2.1 c.2.2.2.1 ([(([97, 110, 110] : List UInt8), 0, 0, (none, 0, ([] : List (Int × Int))), ((some ⟨g5, 0, none⟩), (List.length ([(([107] : List UInt8), ([115] : List UInt8), 5)] : List ((List UInt8) × (List UInt8) × Int))), ([(([107] : List UInt8), ([115] : List UInt8), 5)] : List ((List UInt8) × (List UInt8) × Int))))] : List Q6) c.2.2.2.2 j.2.2.2.2.2.2.1 j.2.2.2.2.2.2.2.1 j.2.2.2.2.2.2.2.2.1 j.2.2.2.2.2.2.2.2.2.1 j.2.2.2.2.2.2.2.2.2.2 h7 (Xs b7 [4, 5, 6] rfl rfl) (fun w hm => Dx (V7 (SP.still b7 (l := [4, 5, 6]) (i := 1) rfl rfl rfl hm)) (Un (Z9 Ys (Z9 Ys (Z9 Ys (Z9 (Gz (Qw (Qk .u32) (Qk .i64)) dT w) (J2 (V7 (SP.still b7 (l := [4, 5, 6]) (i := 0) rfl rfl rfl hm))))))) Ns)) a1 h8) ?_
  rintro e e9 ⟨rfl, f0⟩
  refine ⟨_, rfl, ?_⟩
  have b8 : SP [] w0 e9 [U2 48 (Qw V9 (Qw V9 (Qk .i64))) (some ⟨g5, 0, none⟩) (List.length ([(([107] : List UInt8), ([115] : List UInt8), 5)] : List ((List UInt8) × (List UInt8) × Int))) ([(([107] : List UInt8), ([115] : List UInt8), 5)] : List ((List UInt8) × (List UInt8) × Int)), U2 44 J9 (some ⟨g6, 0, none⟩) (List.length ([(([97, 110, 110] : List UInt8), 0, 0, ([] : List (Int × Int)), ([(([107] : List UInt8), ([115] : List UInt8), 5)] : List ((List UInt8) × (List UInt8) × Int)))] : List Qd)) ([(([97, 110, 110] : List UInt8), 0, 0, (none, 0, ([] : List (Int × Int))), ((some ⟨g5, 0, none⟩), (List.length ([(([107] : List UInt8), ([115] : List UInt8), 5)] : List ((List UInt8) × (List UInt8) × Int))), ([(([107] : List UInt8), ([115] : List UInt8), 5)] : List ((List UInt8) × (List UInt8) × Int))))] : List Q6), Qo a0 95 #[(pt p 0), (Zc q.1 a0), (.string ⟨List.toArray q.2.1⟩), (.string ⟨List.toArray q.2.2.1⟩), (.string ⟨List.toArray q.2.2.2.1⟩), (.bool q.2.2.2.2)], Qo a5 63 #[(.int .i64 f.1), (.string ⟨List.toArray f.2.1⟩), (.string ⟨List.toArray f.2.2.1⟩), (.int .i64 f.2.2.2.1), (.int .i64 f.2.2.2.2.1)], Qo a6 63 #[(.int .i64 j.1), (.string ⟨List.toArray j.2.1⟩), (.string ⟨List.toArray j.2.2.1⟩), (.int .i64 j.2.2.2.1), (.int .i64 j.2.2.2.2.1)], Qo p 79 #[(.int .i64 c.1), (.int .i64 c.2.1), (.int .i64 c.2.2.1), (.int .i64 c.2.2.2.1), (.slice (some ⟨g6, 0, none⟩) (List.length ([(([97, 110, 110] : List UInt8), 0, 0, ([] : List (Int × Int)), ([(([107] : List UInt8), ([115] : List UInt8), 5)] : List ((List UInt8) × (List UInt8) × Int)))] : List Qd)) (List.length ([(([97, 110, 110] : List UInt8), 0, 0, ([] : List (Int × Int)), ([(([107] : List UInt8), ([115] : List UInt8), 5)] : List ((List UInt8) × (List UInt8) × Int)))] : List Qd))), (.map (some u))], Vf u c.2.2.2.2, Qo s 95 #[(pt p 0), (Zc j.2.2.2.2.2.2.1 s), (.string ⟨List.toArray j.2.2.2.2.2.2.2.1⟩), (.string ⟨List.toArray j.2.2.2.2.2.2.2.2.1⟩), (.string ⟨List.toArray j.2.2.2.2.2.2.2.2.2.1⟩), (.bool j.2.2.2.2.2.2.2.2.2.2)]] := Vv b7 [4, 5, 6] [0, 1, 2, 3, 7] rfl rfl f0 rfl
  clear f0
  refine iR 5 7 [(44, (.tuple #[(.string ⟨List.toArray a1.1⟩), (.bool a1.2)])), (47, (.string ⟨List.toArray a1.1⟩)), (48, (.bool a1.2)), (8, (.string ⟨List.toArray a1.1⟩)), (9, (.bool a1.2))] ?_
  refine iF ?_
  refine aQ ?_
  refine aR ?_
  refine iR 2 2 [(50, (pt s 0)), (51, (.agg #[(.int .i64 13), (.string ⟨List.toArray ([] : List UInt8)⟩), (.string ⟨List.toArray ([] : List UInt8)⟩), (.int .i64 0), (.int .i64 0)]))] ?_
  obtain ⟨m, h9, H⟩ := Qc H
  refine iS 3 ?_
  refine cF 34 #[(.tmp 50), (.tmp 51), (.const (.int .i64 (3))), (.const (.string ⟨List.toArray ([] : List UInt8)⟩))] #[60, 63, 2, 9] 52 Tryz.call34 (Zg s p (some ⟨g6, 0, none⟩) (List.length ([(([97, 110, 110] : List UInt8), 0, 0, ([] : List (Int × Int)), ([(([107] : List UInt8), ([115] : List UInt8), 5)] : List ((List UInt8) × (List UInt8) × Int)))] : List Qd)) u c.1 c.2.1 c.2.2.1 c.2.2.2.1 ([(([97, 110, 110] : List UInt8), 0, 0, (none, 0, ([] : List (Int × Int))), ((some ⟨g5, 0, none⟩), (List.length ([(([107] : List UInt8), ([115] : List UInt8), 5)] : List ((List UInt8) × (List UInt8) × Int))), ([(([107] : List UInt8), ([115] : List UInt8), 5)] : List ((List UInt8) × (List UInt8) × Int))))] : List Q6) c.2.2.2.2 j.2.2.2.2.2.2.1 j.2.2.2.2.2.2.2.1 j.2.2.2.2.2.2.2.2.1 j.2.2.2.2.2.2.2.2.2.1 j.2.2.2.2.2.2.2.2.2.2 13 ([] : List UInt8) ([] : List UInt8) 0 0 3 ([] : List UInt8) e9 (Xs b8 [5, 6, 7] rfl rfl) (fun w hm => Dx (V7 (SP.still b8 (l := [5, 6, 7]) (i := 1) rfl rfl rfl hm)) (Un (Z9 Ys (Z9 Ys (Z9 Ys (Z9 (Gz (Qw (Qk .u32) (Qk .i64)) dT w) (J2 (V7 (SP.still b8 (l := [5, 6, 7]) (i := 0) rfl rfl rfl hm))))))) Ns)) m h9) ?_
  rintro e i0 ⟨rfl, f1⟩
  refine ⟨_, rfl, ?_⟩
  have i1 : SP [] w0 i0 [U2 48 (Qw V9 (Qw V9 (Qk .i64))) (some ⟨g5, 0, none⟩) (List.length ([(([107] : List UInt8), ([115] : List UInt8), 5)] : List ((List UInt8) × (List UInt8) × Int))) ([(([107] : List UInt8), ([115] : List UInt8), 5)] : List ((List UInt8) × (List UInt8) × Int)), U2 44 J9 (some ⟨g6, 0, none⟩) (List.length ([(([97, 110, 110] : List UInt8), 0, 0, ([] : List (Int × Int)), ([(([107] : List UInt8), ([115] : List UInt8), 5)] : List ((List UInt8) × (List UInt8) × Int)))] : List Qd)) ([(([97, 110, 110] : List UInt8), 0, 0, (none, 0, ([] : List (Int × Int))), ((some ⟨g5, 0, none⟩), (List.length ([(([107] : List UInt8), ([115] : List UInt8), 5)] : List ((List UInt8) × (List UInt8) × Int))), ([(([107] : List UInt8), ([115] : List UInt8), 5)] : List ((List UInt8) × (List UInt8) × Int))))] : List Q6), Qo a0 95 #[(pt p 0), (Zc q.1 a0), (.string ⟨List.toArray q.2.1⟩), (.string ⟨List.toArray q.2.2.1⟩), (.string ⟨List.toArray q.2.2.2.1⟩), (.bool q.2.2.2.2)], Qo a5 63 #[(.int .i64 f.1), (.string ⟨List.toArray f.2.1⟩), (.string ⟨List.toArray f.2.2.1⟩), (.int .i64 f.2.2.2.1), (.int .i64 f.2.2.2.2.1)], Qo a6 63 #[(.int .i64 j.1), (.string ⟨List.toArray j.2.1⟩), (.string ⟨List.toArray j.2.2.1⟩), (.int .i64 j.2.2.2.1), (.int .i64 j.2.2.2.2.1)], Qo p 79 #[(.int .i64 c.1), (.int .i64 c.2.1), (.int .i64 c.2.2.1), (.int .i64 c.2.2.2.1), (.slice (some ⟨g6, 0, none⟩) (List.length ([(([97, 110, 110] : List UInt8), 0, 0, ([] : List (Int × Int)), ([(([107] : List UInt8), ([115] : List UInt8), 5)] : List ((List UInt8) × (List UInt8) × Int)))] : List Qd)) (List.length ([(([97, 110, 110] : List UInt8), 0, 0, ([] : List (Int × Int)), ([(([107] : List UInt8), ([115] : List UInt8), 5)] : List ((List UInt8) × (List UInt8) × Int)))] : List Qd))), (.map (some u))], Vf u c.2.2.2.2, Qo s 95 #[(pt p 0), (Zc m.2.2.2.2.2.2.1 s), (.string ⟨List.toArray m.2.2.2.2.2.2.2.1⟩), (.string ⟨List.toArray m.2.2.2.2.2.2.2.2.1⟩), (.string ⟨List.toArray m.2.2.2.2.2.2.2.2.2.1⟩), (.bool m.2.2.2.2.2.2.2.2.2.2)]] := Vv b8 [5, 6, 7] [0, 1, 2, 3, 4] rfl rfl f1 rfl
  clear f1
  refine iR 3 6 [(49, (.tuple #[(.agg #[(.int .i64 m.1), (.string ⟨List.toArray m.2.1⟩), (.string ⟨List.toArray m.2.2.1⟩), (.int .i64 m.2.2.2.1), (.int .i64 m.2.2.2.2.1)]), (.bool m.2.2.2.2.2.1)])), (53, (.agg #[(.int .i64 m.1), (.string ⟨List.toArray m.2.1⟩), (.string ⟨List.toArray m.2.2.1⟩), (.int .i64 m.2.2.2.1), (.int .i64 m.2.2.2.2.1)])), (54, (.bool m.2.2.2.2.2.1))] ?_
  refine iS 7 ?_
  refine Qi.alloc (t := 63) (z := (.agg #[(.int .i64 0), (.string ⟨List.toArray ([] : List UInt8)⟩), (.string ⟨List.toArray ([] : List UInt8)⟩), (.int .i64 0), (.int .i64 0)])) (d := (some 10)) (k := 6) K rfl K i1 ?_
  intro a9 j8 i2
  refine iS 8 ?_
  refine Qi.store (t := 63) (x := (.tmp 10)) (y := (.tmp 53)) (g := a9) (off := 0) (i := 8) (v := (.agg #[(.int .i64 m.1), (.string ⟨List.toArray m.2.1⟩), (.string ⟨List.toArray m.2.2.1⟩), (.int .i64 m.2.2.2.1), (.int .i64 m.2.2.2.2.1)])) (cs' := #[(.int .i64 m.1), (.string ⟨List.toArray m.2.1⟩), (.string ⟨List.toArray m.2.2.1⟩), (.int .i64 m.2.2.2.1), (.int .i64 m.2.2.2.2.1)]) (d := none) (k := 7) K rfl K K i2 rfl K ?_
  intro i3 b9
  refine iR 1 9 [(11, (.bool m.2.2.2.2.2.1))] ?_
  refine iF ?_
  refine aQ ?_
  refine aR ?_
  refine iR 2 2 [(56, (pt a0 0)), (57, (.agg #[(.int .i64 3), (.string ⟨List.toArray ([] : List UInt8)⟩), (.string ⟨List.toArray ([] : List UInt8)⟩), (.int .i64 0), (.int .i64 0)]))] ?_
  obtain ⟨h, i4, H⟩ := Qc H
  refine iS 3 ?_
  refine cF 34 #[(.tmp 56), (.tmp 57), (.const (.int .i64 (1))), (.const (.string ⟨List.toArray ([110] : List UInt8)⟩))] #[60, 63, 2, 9] 58 Tryz.call34 (Zg a0 p (some ⟨g6, 0, none⟩) (List.length ([(([97, 110, 110] : List UInt8), 0, 0, ([] : List (Int × Int)), ([(([107] : List UInt8), ([115] : List UInt8), 5)] : List ((List UInt8) × (List UInt8) × Int)))] : List Qd)) u c.1 c.2.1 c.2.2.1 c.2.2.2.1 ([(([97, 110, 110] : List UInt8), 0, 0, (none, 0, ([] : List (Int × Int))), ((some ⟨g5, 0, none⟩), (List.length ([(([107] : List UInt8), ([115] : List UInt8), 5)] : List ((List UInt8) × (List UInt8) × Int))), ([(([107] : List UInt8), ([115] : List UInt8), 5)] : List ((List UInt8) × (List UInt8) × Int))))] : List Q6) c.2.2.2.2 q.1 q.2.1 q.2.2.1 q.2.2.2.1 q.2.2.2.2 3 ([] : List UInt8) ([] : List UInt8) 0 0 1 ([110] : List UInt8) i3 (Xs b9 [5, 6, 2] rfl rfl) (fun w hm => Dx (V7 (SP.still b9 (l := [5, 6, 2]) (i := 1) rfl rfl rfl hm)) (Un (Z9 Ys (Z9 Ys (Z9 Ys (Z9 (Gz (Qw (Qk .u32) (Qk .i64)) dT w) (J2 (V7 (SP.still b9 (l := [5, 6, 2]) (i := 0) rfl rfl rfl hm))))))) Ns)) h i4) ?_
  rintro e i5 ⟨rfl, f2⟩
  refine ⟨_, rfl, ?_⟩
  have i6 : SP [] w0 i5 [U2 48 (Qw V9 (Qw V9 (Qk .i64))) (some ⟨g5, 0, none⟩) (List.length ([(([107] : List UInt8), ([115] : List UInt8), 5)] : List ((List UInt8) × (List UInt8) × Int))) ([(([107] : List UInt8), ([115] : List UInt8), 5)] : List ((List UInt8) × (List UInt8) × Int)), U2 44 J9 (some ⟨g6, 0, none⟩) (List.length ([(([97, 110, 110] : List UInt8), 0, 0, ([] : List (Int × Int)), ([(([107] : List UInt8), ([115] : List UInt8), 5)] : List ((List UInt8) × (List UInt8) × Int)))] : List Qd)) ([(([97, 110, 110] : List UInt8), 0, 0, (none, 0, ([] : List (Int × Int))), ((some ⟨g5, 0, none⟩), (List.length ([(([107] : List UInt8), ([115] : List UInt8), 5)] : List ((List UInt8) × (List UInt8) × Int))), ([(([107] : List UInt8), ([115] : List UInt8), 5)] : List ((List UInt8) × (List UInt8) × Int))))] : List Q6), Qo a5 63 #[(.int .i64 f.1), (.string ⟨List.toArray f.2.1⟩), (.string ⟨List.toArray f.2.2.1⟩), (.int .i64 f.2.2.2.1), (.int .i64 f.2.2.2.2.1)], Qo a6 63 #[(.int .i64 j.1), (.string ⟨List.toArray j.2.1⟩), (.string ⟨List.toArray j.2.2.1⟩), (.int .i64 j.2.2.2.1), (.int .i64 j.2.2.2.2.1)], Qo s 95 #[(pt p 0), (Zc m.2.2.2.2.2.2.1 s), (.string ⟨List.toArray m.2.2.2.2.2.2.2.1⟩), (.string ⟨List.toArray m.2.2.2.2.2.2.2.2.1⟩), (.string ⟨List.toArray m.2.2.2.2.2.2.2.2.2.1⟩), (.bool m.2.2.2.2.2.2.2.2.2.2)], Qo a9 63 #[(.int .i64 m.1), (.string ⟨List.toArray m.2.1⟩), (.string ⟨List.toArray m.2.2.1⟩), (.int .i64 m.2.2.2.1), (.int .i64 m.2.2.2.2.1)], Qo p 79 #[(.int .i64 c.1), (.int .i64 c.2.1), (.int .i64 c.2.2.1), (.int .i64 c.2.2.2.1), (.slice (some ⟨g6, 0, none⟩) (List.length ([(([97, 110, 110] : List UInt8), 0, 0, ([] : List (Int × Int)), ([(([107] : List UInt8), ([115] : List UInt8), 5)] : List ((List UInt8) × (List UInt8) × Int)))] : List Qd)) (List.length ([(([97, 110, 110] : List UInt8), 0, 0, ([] : List (Int × Int)), ([(([107] : List UInt8), ([115] : List UInt8), 5)] : List ((List UInt8) × (List UInt8) × Int)))] : List Qd))), (.map (some u))], Vf u c.2.2.2.2, Qo a0 95 #[(pt p 0), (Zc h.2.2.2.2.2.2.1 a0), (.string ⟨List.toArray h.2.2.2.2.2.2.2.1⟩), (.string ⟨List.toArray h.2.2.2.2.2.2.2.2.1⟩), (.string ⟨List.toArray h.2.2.2.2.2.2.2.2.2.1⟩), (.bool h.2.2.2.2.2.2.2.2.2.2)]] := Vv b9 [5, 6, 2] [0, 1, 3, 4, 7, 8] rfl rfl f2 rfl
  clear f2
  refine iR 3 6 [(55, (.tuple #[(.agg #[(.int .i64 h.1), (.string ⟨List.toArray h.2.1⟩), (.string ⟨List.toArray h.2.2.1⟩), (.int .i64 h.2.2.2.1), (.int .i64 h.2.2.2.2.1)]), (.bool h.2.2.2.2.2.1)])), (59, (.agg #[(.int .i64 h.1), (.string ⟨List.toArray h.2.1⟩), (.string ⟨List.toArray h.2.2.1⟩), (.int .i64 h.2.2.2.1), (.int .i64 h.2.2.2.2.1)])), (60, (.bool h.2.2.2.2.2.1))] ?_
  refine iS 7 ?_
  refine Qi.alloc (t := 63) (z := (.agg #[(.int .i64 0), (.string ⟨List.toArray ([] : List UInt8)⟩), (.string ⟨List.toArray ([] : List UInt8)⟩), (.int .i64 0), (.int .i64 0)])) (d := (some 12)) (k := 6) K rfl K i6 ?_
  intro b0 j9 i7
  refine iS 8 ?_
  refine Qi.store (t := 63) (x := (.tmp 12)) (y := (.tmp 59)) (g := b0) (off := 0) (i := 9) (v := (.agg #[(.int .i64 h.1), (.string ⟨List.toArray h.2.1⟩), (.string ⟨List.toArray h.2.2.1⟩), (.int .i64 h.2.2.2.1), (.int .i64 h.2.2.2.2.1)])) (cs' := #[(.int .i64 h.1), (.string ⟨List.toArray h.2.1⟩), (.string ⟨List.toArray h.2.2.1⟩), (.int .i64 h.2.2.2.1), (.int .i64 h.2.2.2.2.1)]) (d := none) (k := 7) K rfl K K i7 rfl K ?_
  intro i8 c0
  refine iR 1 9 [(13, (.bool h.2.2.2.2.2.1))] ?_
  refine iF ?_
  refine aQ ?_
  refine aR ?_
  refine iR 1 1 [(62, (pt a0 0))] ?_
  obtain ⟨a4, i9, H⟩ := Qc H
  refine iS 2 ?_
  refine cF 35 #[(.tmp 62)] #[60] 63 Tryz.call35 (Y9 a0 p (some ⟨g6, 0, none⟩) (List.length ([(([97, 110, 110] : List UInt8), 0, 0, ([] : List (Int × Int)), ([(([107] : List UInt8), ([115] : List UInt8), 5)] : List ((List UInt8) × (List UInt8) × Int)))] : List Qd)) u c.1 c.2.1 c.2.2.1 c.2.2.2.1 ([(([97, 110, 110] : List UInt8), 0, 0, (none, 0, ([] : List (Int × Int))), ((some ⟨g5, 0, none⟩), (List.length ([(([107] : List UInt8), ([115] : List UInt8), 5)] : List ((List UInt8) × (List UInt8) × Int))), ([(([107] : List UInt8), ([115] : List UInt8), 5)] : List ((List UInt8) × (List UInt8) × Int))))] : List Q6) c.2.2.2.2 h.2.2.2.2.2.2.1 h.2.2.2.2.2.2.2.1 h.2.2.2.2.2.2.2.2.1 h.2.2.2.2.2.2.2.2.2.1 h.2.2.2.2.2.2.2.2.2.2 i8 (Xs c0 [6, 7, 8] rfl rfl) (fun w hm => Dx (V7 (SP.still c0 (l := [6, 7, 8]) (i := 1) rfl rfl rfl hm)) (Un (Z9 Ys (Z9 Ys (Z9 Ys (Z9 (Gz (Qw (Qk .u32) (Qk .i64)) dT w) (J2 (V7 (SP.still c0 (l := [6, 7, 8]) (i := 0) rfl rfl rfl hm))))))) Ns)) a4 i9) ?_
  rintro e f3 ⟨rfl, f4⟩
  refine ⟨_, rfl, ?_⟩
  have a3 : SP [] w0 f3 [U2 48 (Qw V9 (Qw V9 (Qk .i64))) (some ⟨g5, 0, none⟩) (List.length ([(([107] : List UInt8), ([115] : List UInt8), 5)] : List ((List UInt8) × (List UInt8) × Int))) ([(([107] : List UInt8), ([115] : List UInt8), 5)] : List ((List UInt8) × (List UInt8) × Int)), U2 44 J9 (some ⟨g6, 0, none⟩) (List.length ([(([97, 110, 110] : List UInt8), 0, 0, ([] : List (Int × Int)), ([(([107] : List UInt8), ([115] : List UInt8), 5)] : List ((List UInt8) × (List UInt8) × Int)))] : List Qd)) ([(([97, 110, 110] : List UInt8), 0, 0, (none, 0, ([] : List (Int × Int))), ((some ⟨g5, 0, none⟩), (List.length ([(([107] : List UInt8), ([115] : List UInt8), 5)] : List ((List UInt8) × (List UInt8) × Int))), ([(([107] : List UInt8), ([115] : List UInt8), 5)] : List ((List UInt8) × (List UInt8) × Int))))] : List Q6), Qo a5 63 #[(.int .i64 f.1), (.string ⟨List.toArray f.2.1⟩), (.string ⟨List.toArray f.2.2.1⟩), (.int .i64 f.2.2.2.1), (.int .i64 f.2.2.2.2.1)], Qo a6 63 #[(.int .i64 j.1), (.string ⟨List.toArray j.2.1⟩), (.string ⟨List.toArray j.2.2.1⟩), (.int .i64 j.2.2.2.1), (.int .i64 j.2.2.2.2.1)], Qo s 95 #[(pt p 0), (Zc m.2.2.2.2.2.2.1 s), (.string ⟨List.toArray m.2.2.2.2.2.2.2.1⟩), (.string ⟨List.toArray m.2.2.2.2.2.2.2.2.1⟩), (.string ⟨List.toArray m.2.2.2.2.2.2.2.2.2.1⟩), (.bool m.2.2.2.2.2.2.2.2.2.2)], Qo a9 63 #[(.int .i64 m.1), (.string ⟨List.toArray m.2.1⟩), (.string ⟨List.toArray m.2.2.1⟩), (.int .i64 m.2.2.2.1), (.int .i64 m.2.2.2.2.1)], Qo b0 63 #[(.int .i64 h.1), (.string ⟨List.toArray h.2.1⟩), (.string ⟨List.toArray h.2.2.1⟩), (.int .i64 h.2.2.2.1), (.int .i64 h.2.2.2.2.1)], Qo p 79 #[(.int .i64 c.1), (.int .i64 c.2.1), (.int .i64 c.2.2.1), (.int .i64 c.2.2.2.1), (.slice (some ⟨g6, 0, none⟩) (List.length ([(([97, 110, 110] : List UInt8), 0, 0, ([] : List (Int × Int)), ([(([107] : List UInt8), ([115] : List UInt8), 5)] : List ((List UInt8) × (List UInt8) × Int)))] : List Qd)) (List.length ([(([97, 110, 110] : List UInt8), 0, 0, ([] : List (Int × Int)), ([(([107] : List UInt8), ([115] : List UInt8), 5)] : List ((List UInt8) × (List UInt8) × Int)))] : List Qd))), (.map (some u))], Vf u c.2.2.2.2, Qo a0 95 #[(pt p 0), (Zc h.2.2.2.2.2.2.1 a0), (.string ⟨List.toArray h.2.2.2.2.2.2.2.1⟩), (.string ⟨List.toArray h.2.2.2.2.2.2.2.2.1⟩), (.string ⟨List.toArray h.2.2.2.2.2.2.2.2.2.1⟩), (.bool h.2.2.2.2.2.2.2.2.2.2)]] := Vv c0 [6, 7, 8] [0, 1, 2, 3, 4, 5, 9] rfl rfl f4 rfl
  clear f4
  refine iR 5 7 [(61, (.tuple #[(.string ⟨List.toArray a4.1⟩), (.bool a4.2)])), (64, (.string ⟨List.toArray a4.1⟩)), (65, (.bool a4.2)), (14, (.string ⟨List.toArray a4.1⟩)), (15, (.bool a4.2))] ?_
  refine iF ?_
  refine aQ ?_
  refine At.join (fun ρ w => ∃ (a8 : Bool), Zk ρ [(0, (.bool a8))] ∧ SP [] w0 w [] ∧ Q1 a8 = some r) ?_ ?_
  ·refine aR ?_
   refine iS 1 ?_
   refine sL 63 4 a5 0 2 (.agg #[(.int .i64 f.1), (.string ⟨List.toArray f.2.1⟩), (.string ⟨List.toArray f.2.2.1⟩), (.int .i64 f.2.2.2.1), (.int .i64 f.2.2.2.2.1)]) 66 a3 rfl ?_
   refine iR 1 2 [(67, (.agg #[(.int .i64 2), (.string ⟨List.toArray ([110] : List UInt8)⟩), (.string ⟨List.toArray ([] : List UInt8)⟩), (.int .i64 0), (.int .i64 0)]))] ?_
   refine iS 3 ?_
   refine Dc (op := .eql) (T := 63) (T' := 63) (x := (.tmp 66)) (y := (.tmp 67)) (vx := (.agg #[(.int .i64 f.1), (.string ⟨List.toArray f.2.1⟩), (.string ⟨List.toArray f.2.2.1⟩), (.int .i64 f.2.2.2.1), (.int .i64 f.2.2.2.2.1)])) (vy := (.agg #[(.int .i64 2), (.string ⟨List.toArray ([110] : List UInt8)⟩), (.string ⟨List.toArray ([] : List UInt8)⟩), (.int .i64 0), (.int .i64 0)])) (v := (.bool ((f.1 == 2) && ((f.2.1 == ([110] : List UInt8)) && ((f.2.2.1 == ([] : List UInt8)) && ((f.2.2.2.1 == 0) && (f.2.2.2.2.1 == 0))))))) (d := (some 68)) (k := 2) K rfl K K (by clear H; intro w; simp only [Du]; go_simp; simp only [Dt, Rq, Bw, Du, Bool.and_true] <;> simp only [Bool.not_and]) ?_
   refine iR 1 4 [(69, (.bool ((f.1 == 2) && ((f.2.1 == ([110] : List UInt8)) && ((f.2.2.1 == ([] : List UInt8)) && ((f.2.2.2.1 == 0) && (f.2.2.2.2.1 == 0)))))))] ?_
   refine In.guard (t := 69) (b := ((f.1 == 2) && ((f.2.1 == ([110] : List UInt8)) && ((f.2.2.1 == ([] : List UInt8)) && ((f.2.2.2.1 == 0) && (f.2.2.2.2.1 == 0)))))) K (fun c4 => ?_) (fun c4 => ?_)
   ·have H := ct H c4
    refine iR 3 7 [(70, (.bool f.2.2.2.2.2.1)), (71, (.bool f.2.2.2.2.2.1)), (72, (.bool f.2.2.2.2.2.1))] ?_
    refine In.guard (t := 72) (b := f.2.2.2.2.2.1) K (fun c5 => ?_) (fun c5 => ?_)
    ·have H := ct H c5
     refine iR 1 8 [(73, (pt a6 0))] ?_
     refine iS 9 ?_
     refine sL 3 73 a6 0 3 (.int .i64 j.1) 74 a3 rfl ?_
     refine iR 3 12 [(75, (.bool (j.1 == 4))), (76, (.bool (j.1 == 4))), (77, (.bool (j.1 == 4)))] ?_
     refine In.guard (t := 77) (b := (j.1 == 4)) K (fun c6 => ?_) (fun c6 => ?_)
     ·have H := ct H c6
      refine iR 3 15 [(78, (.bool j.2.2.2.2.2.1)), (79, (.bool j.2.2.2.2.2.1)), (80, (.bool j.2.2.2.2.2.1))] ?_
      refine In.guard (t := 80) (b := j.2.2.2.2.2.1) K (fun c7 => ?_) (fun c7 => ?_)
      ·have H := ct H c7
       refine iR 1 16 [(81, (.string ⟨List.toArray a1.1⟩))] ?_
       refine iS 17 ?_
       refine Y6 (op := .eql) (T := 9) (T' := 9) (x := (.tmp 81)) (y := (.const (.string ⟨List.toArray ([97, 110, 110] : List UInt8)⟩))) (a := a1.1) (b := ([97, 110, 110] : List UInt8)) (r := (.bool (a1.1 == ([97, 110, 110] : List UInt8)))) (d := (some 82)) (k := 16) K rfl K K rfl ?_
       refine iR 2 19 [(83, (.bool (a1.1 == ([97, 110, 110] : List UInt8)))), (84, (.bool (a1.1 == ([97, 110, 110] : List UInt8))))] ?_
       refine In.guard (t := 84) (b := (a1.1 == ([97, 110, 110] : List UInt8))) K (fun c8 => ?_) (fun c8 => ?_)
       ·have H := ct H c8
        refine iR 3 22 [(85, (.bool a1.2)), (86, (.bool a1.2)), (87, (.bool a1.2))] ?_
        refine In.guard (t := 87) (b := a1.2) K (fun c9 => ?_) (fun c9 => ?_)
        ·have H := ct H c9
         refine iR 4 26 [(88, (.bool m.2.2.2.2.2.1)), (89, (.bool (!m.2.2.2.2.2.1))), (90, (.bool (!m.2.2.2.2.2.1))), (91, (.bool (!m.2.2.2.2.2.1)))] ?_
         refine In.guard (t := 91) (b := (!m.2.2.2.2.2.1)) K (fun d0 => ?_) (fun d0 => ?_)
         ·have H := ct H d0
          refine iS 27 ?_
          refine sL 63 12 b0 0 6 (.agg #[(.int .i64 h.1), (.string ⟨List.toArray h.2.1⟩), (.string ⟨List.toArray h.2.2.1⟩), (.int .i64 h.2.2.2.1), (.int .i64 h.2.2.2.2.1)]) 92 a3 rfl ?_
          refine iR 1 28 [(93, (.agg #[(.int .i64 5), (.string ⟨List.toArray ([] : List UInt8)⟩), (.string ⟨List.toArray ([] : List UInt8)⟩), (.int .i64 1), (.int .i64 0)]))] ?_
          refine iS 29 ?_
          refine Dc (op := .eql) (T := 63) (T' := 63) (x := (.tmp 92)) (y := (.tmp 93)) (vx := (.agg #[(.int .i64 h.1), (.string ⟨List.toArray h.2.1⟩), (.string ⟨List.toArray h.2.2.1⟩), (.int .i64 h.2.2.2.1), (.int .i64 h.2.2.2.2.1)])) (vy := (.agg #[(.int .i64 5), (.string ⟨List.toArray ([] : List UInt8)⟩), (.string ⟨List.toArray ([] : List UInt8)⟩), (.int .i64 1), (.int .i64 0)])) (v := (.bool ((h.1 == 5) && ((h.2.1 == ([] : List UInt8)) && ((h.2.2.1 == ([] : List UInt8)) && ((h.2.2.2.1 == 1) && (h.2.2.2.2.1 == 0))))))) (d := (some 94)) (k := 28) K rfl K K (by clear H; intro w; simp only [Du]; go_simp; simp only [Dt, Rq, Bw, Du, Bool.and_true] <;> simp only [Bool.not_and]) ?_
          refine iR 2 31 [(95, (.bool ((h.1 == 5) && ((h.2.1 == ([] : List UInt8)) && ((h.2.2.1 == ([] : List UInt8)) && ((h.2.2.2.1 == 1) && (h.2.2.2.2.1 == 0))))))), (96, (.bool ((h.1 == 5) && ((h.2.1 == ([] : List UInt8)) && ((h.2.2.1 == ([] : List UInt8)) && ((h.2.2.2.1 == 1) && (h.2.2.2.2.1 == 0)))))))] ?_
          refine In.guard (t := 96) (b := ((h.1 == 5) && ((h.2.1 == ([] : List UInt8)) && ((h.2.2.1 == ([] : List UInt8)) && ((h.2.2.2.1 == 1) && (h.2.2.2.2.1 == 0)))))) K (fun d1 => ?_) (fun d1 => ?_)
          ·have H := ct H d1
           refine iR 4 35 [(97, (.bool a4.2)), (98, (.bool (!a4.2))), (99, (.bool (!a4.2))), (100, (.bool (!a4.2)))] ?_
           refine In.guard (t := 100) (b := (!a4.2)) K (fun d2 => ?_) (fun d2 => ?_)
           ·have H := ct H d2
            refine iR 1 36 [(101, (pt s 0))] ?_
            obtain ⟨c1, j0, H⟩ := Qc H
            refine iS 37 ?_
            refine cF 36 #[(.tmp 101)] #[60] 102 Tryz.call36 (Ui s p (some ⟨g6, 0, none⟩) (List.length ([(([97, 110, 110] : List UInt8), 0, 0, ([] : List (Int × Int)), ([(([107] : List UInt8), ([115] : List UInt8), 5)] : List ((List UInt8) × (List UInt8) × Int)))] : List Qd)) u c.1 c.2.1 c.2.2.1 c.2.2.2.1 ([(([97, 110, 110] : List UInt8), 0, 0, (none, 0, ([] : List (Int × Int))), ((some ⟨g5, 0, none⟩), (List.length ([(([107] : List UInt8), ([115] : List UInt8), 5)] : List ((List UInt8) × (List UInt8) × Int))), ([(([107] : List UInt8), ([115] : List UInt8), 5)] : List ((List UInt8) × (List UInt8) × Int))))] : List Q6) c.2.2.2.2 m.2.2.2.2.2.2.1 m.2.2.2.2.2.2.2.1 m.2.2.2.2.2.2.2.2.1 m.2.2.2.2.2.2.2.2.2.1 m.2.2.2.2.2.2.2.2.2.2 f3 (Xs a3 [7, 8, 4] rfl rfl) (fun w hm => Dx (V7 (SP.still a3 (l := [7, 8, 4]) (i := 1) rfl rfl rfl hm)) (Un (Z9 Ys (Z9 Ys (Z9 Ys (Z9 (Gz (Qw (Qk .u32) (Qk .i64)) dT w) (J2 (V7 (SP.still a3 (l := [7, 8, 4]) (i := 0) rfl rfl rfl hm))))))) Ns)) c1 j0) ?_
            rintro e f5 ⟨rfl, f6⟩
            refine ⟨_, rfl, ?_⟩
            have b1 : SP [] w0 f5 [U2 48 (Qw V9 (Qw V9 (Qk .i64))) (some ⟨g5, 0, none⟩) (List.length ([(([107] : List UInt8), ([115] : List UInt8), 5)] : List ((List UInt8) × (List UInt8) × Int))) ([(([107] : List UInt8), ([115] : List UInt8), 5)] : List ((List UInt8) × (List UInt8) × Int)), U2 44 J9 (some ⟨g6, 0, none⟩) (List.length ([(([97, 110, 110] : List UInt8), 0, 0, ([] : List (Int × Int)), ([(([107] : List UInt8), ([115] : List UInt8), 5)] : List ((List UInt8) × (List UInt8) × Int)))] : List Qd)) ([(([97, 110, 110] : List UInt8), 0, 0, (none, 0, ([] : List (Int × Int))), ((some ⟨g5, 0, none⟩), (List.length ([(([107] : List UInt8), ([115] : List UInt8), 5)] : List ((List UInt8) × (List UInt8) × Int))), ([(([107] : List UInt8), ([115] : List UInt8), 5)] : List ((List UInt8) × (List UInt8) × Int))))] : List Q6), Qo a5 63 #[(.int .i64 f.1), (.string ⟨List.toArray f.2.1⟩), (.string ⟨List.toArray f.2.2.1⟩), (.int .i64 f.2.2.2.1), (.int .i64 f.2.2.2.2.1)], Qo a6 63 #[(.int .i64 j.1), (.string ⟨List.toArray j.2.1⟩), (.string ⟨List.toArray j.2.2.1⟩), (.int .i64 j.2.2.2.1), (.int .i64 j.2.2.2.2.1)], Qo a9 63 #[(.int .i64 m.1), (.string ⟨List.toArray m.2.1⟩), (.string ⟨List.toArray m.2.2.1⟩), (.int .i64 m.2.2.2.1), (.int .i64 m.2.2.2.2.1)], Qo b0 63 #[(.int .i64 h.1), (.string ⟨List.toArray h.2.1⟩), (.string ⟨List.toArray h.2.2.1⟩), (.int .i64 h.2.2.2.1), (.int .i64 h.2.2.2.2.1)], Qo a0 95 #[(pt p 0), (Zc h.2.2.2.2.2.2.1 a0), (.string ⟨List.toArray h.2.2.2.2.2.2.2.1⟩), (.string ⟨List.toArray h.2.2.2.2.2.2.2.2.1⟩), (.string ⟨List.toArray h.2.2.2.2.2.2.2.2.2.1⟩), (.bool h.2.2.2.2.2.2.2.2.2.2)], Qo p 79 #[(.int .i64 c.1), (.int .i64 c.2.1), (.int .i64 c.2.2.1), (.int .i64 c.2.2.2.1), (.slice (some ⟨g6, 0, none⟩) (List.length ([(([97, 110, 110] : List UInt8), 0, 0, ([] : List (Int × Int)), ([(([107] : List UInt8), ([115] : List UInt8), 5)] : List ((List UInt8) × (List UInt8) × Int)))] : List Qd)) (List.length ([(([97, 110, 110] : List UInt8), 0, 0, ([] : List (Int × Int)), ([(([107] : List UInt8), ([115] : List UInt8), 5)] : List ((List UInt8) × (List UInt8) × Int)))] : List Qd))), (.map (some u))], Vf u c.2.2.2.2, Qo s 95 #[(pt p 0), (Zc m.2.2.2.2.2.2.1 s), (.string ⟨List.toArray m.2.2.2.2.2.2.2.1⟩), (.string ⟨List.toArray m.2.2.2.2.2.2.2.2.1⟩), (.string ⟨List.toArray m.2.2.2.2.2.2.2.2.2.1⟩), (.bool m.2.2.2.2.2.2.2.2.2.2)]] := Vv a3 [7, 8, 4] [0, 1, 2, 3, 5, 6, 9] rfl rfl f6 rfl
            clear f6
            refine iR 2 39 [(103, (.bool c1)), (104, (.bool c1))] ?_
            refine In.guard (t := 104) (b := c1) K (fun d3 => ?_) (fun d3 => ?_)
            ·have H := ct H d3
             refine iR 1 40 [(105, (pt a0 0))] ?_
             obtain ⟨c2, j1, H⟩ := Qc H
             refine iS 41 ?_
             refine cF 36 #[(.tmp 105)] #[60] 106 Tryz.call36 (Ui a0 p (some ⟨g6, 0, none⟩) (List.length ([(([97, 110, 110] : List UInt8), 0, 0, ([] : List (Int × Int)), ([(([107] : List UInt8), ([115] : List UInt8), 5)] : List ((List UInt8) × (List UInt8) × Int)))] : List Qd)) u c.1 c.2.1 c.2.2.1 c.2.2.2.1 ([(([97, 110, 110] : List UInt8), 0, 0, (none, 0, ([] : List (Int × Int))), ((some ⟨g5, 0, none⟩), (List.length ([(([107] : List UInt8), ([115] : List UInt8), 5)] : List ((List UInt8) × (List UInt8) × Int))), ([(([107] : List UInt8), ([115] : List UInt8), 5)] : List ((List UInt8) × (List UInt8) × Int))))] : List Q6) c.2.2.2.2 h.2.2.2.2.2.2.1 h.2.2.2.2.2.2.2.1 h.2.2.2.2.2.2.2.2.1 h.2.2.2.2.2.2.2.2.2.1 h.2.2.2.2.2.2.2.2.2.2 f5 (Xs b1 [7, 8, 6] rfl rfl) (fun w hm => Dx (V7 (SP.still b1 (l := [7, 8, 6]) (i := 1) rfl rfl rfl hm)) (Un (Z9 Ys (Z9 Ys (Z9 Ys (Z9 (Gz (Qw (Qk .u32) (Qk .i64)) dT w) (J2 (V7 (SP.still b1 (l := [7, 8, 6]) (i := 0) rfl rfl rfl hm))))))) Ns)) c2 j1) ?_
             rintro e j2 ⟨rfl, f7⟩
             refine ⟨_, rfl, ?_⟩
             have j3 : SP [] w0 j2 [U2 48 (Qw V9 (Qw V9 (Qk .i64))) (some ⟨g5, 0, none⟩) (List.length ([(([107] : List UInt8), ([115] : List UInt8), 5)] : List ((List UInt8) × (List UInt8) × Int))) ([(([107] : List UInt8), ([115] : List UInt8), 5)] : List ((List UInt8) × (List UInt8) × Int)), U2 44 J9 (some ⟨g6, 0, none⟩) (List.length ([(([97, 110, 110] : List UInt8), 0, 0, ([] : List (Int × Int)), ([(([107] : List UInt8), ([115] : List UInt8), 5)] : List ((List UInt8) × (List UInt8) × Int)))] : List Qd)) ([(([97, 110, 110] : List UInt8), 0, 0, (none, 0, ([] : List (Int × Int))), ((some ⟨g5, 0, none⟩), (List.length ([(([107] : List UInt8), ([115] : List UInt8), 5)] : List ((List UInt8) × (List UInt8) × Int))), ([(([107] : List UInt8), ([115] : List UInt8), 5)] : List ((List UInt8) × (List UInt8) × Int))))] : List Q6), Qo a5 63 #[(.int .i64 f.1), (.string ⟨List.toArray f.2.1⟩), (.string ⟨List.toArray f.2.2.1⟩), (.int .i64 f.2.2.2.1), (.int .i64 f.2.2.2.2.1)], Qo a6 63 #[(.int .i64 j.1), (.string ⟨List.toArray j.2.1⟩), (.string ⟨List.toArray j.2.2.1⟩), (.int .i64 j.2.2.2.1), (.int .i64 j.2.2.2.2.1)], Qo a9 63 #[(.int .i64 m.1), (.string ⟨List.toArray m.2.1⟩), (.string ⟨List.toArray m.2.2.1⟩), (.int .i64 m.2.2.2.1), (.int .i64 m.2.2.2.2.1)], Qo b0 63 #[(.int .i64 h.1), (.string ⟨List.toArray h.2.1⟩), (.string ⟨List.toArray h.2.2.1⟩), (.int .i64 h.2.2.2.1), (.int .i64 h.2.2.2.2.1)], Qo s 95 #[(pt p 0), (Zc m.2.2.2.2.2.2.1 s), (.string ⟨List.toArray m.2.2.2.2.2.2.2.1⟩), (.string ⟨List.toArray m.2.2.2.2.2.2.2.2.1⟩), (.string ⟨List.toArray m.2.2.2.2.2.2.2.2.2.1⟩), (.bool m.2.2.2.2.2.2.2.2.2.2)], Qo p 79 #[(.int .i64 c.1), (.int .i64 c.2.1), (.int .i64 c.2.2.1), (.int .i64 c.2.2.2.1), (.slice (some ⟨g6, 0, none⟩) (List.length ([(([97, 110, 110] : List UInt8), 0, 0, ([] : List (Int × Int)), ([(([107] : List UInt8), ([115] : List UInt8), 5)] : List ((List UInt8) × (List UInt8) × Int)))] : List Qd)) (List.length ([(([97, 110, 110] : List UInt8), 0, 0, ([] : List (Int × Int)), ([(([107] : List UInt8), ([115] : List UInt8), 5)] : List ((List UInt8) × (List UInt8) × Int)))] : List Qd))), (.map (some u))], Vf u c.2.2.2.2, Qo a0 95 #[(pt p 0), (Zc h.2.2.2.2.2.2.1 a0), (.string ⟨List.toArray h.2.2.2.2.2.2.2.1⟩), (.string ⟨List.toArray h.2.2.2.2.2.2.2.2.1⟩), (.string ⟨List.toArray h.2.2.2.2.2.2.2.2.2.1⟩), (.bool h.2.2.2.2.2.2.2.2.2.2)]] := Vv b1 [7, 8, 6] [0, 1, 2, 3, 4, 5, 9] rfl rfl f7 rfl
             clear f7
             refine iR 2 43 [(107, (.bool c2)), (0, (.bool c2))] ?_
             refine iF ?_
             exact ⟨c2, ⟨K, trivial⟩, SP.sel j3 [] rfl rfl, H⟩
            ·have H := cf H d3
             refine iR 4 43 [(105, undef), (106, undef), (107, (.bool false)), (0, (.bool false))] ?_
             refine iF ?_
             exact ⟨false, ⟨K, trivial⟩, SP.sel b1 [] rfl rfl, H⟩
           ·have H := cf H d2
            refine iR 8 43 [(101, undef), (102, undef), (103, (.bool false)), (104, (.bool false)), (105, undef), (106, undef), (107, (.bool false)), (0, (.bool false))] ?_
            refine iF ?_
            exact ⟨false, ⟨K, trivial⟩, SP.sel a3 [] rfl rfl, H⟩
          ·have H := cf H d1
           refine iR 12 43 [(97, undef), (98, undef), (99, (.bool false)), (100, (.bool false)), (101, undef), (102, undef), (103, (.bool false)), (104, (.bool false)), (105, undef), (106, undef), (107, (.bool false)), (0, (.bool false))] ?_
           refine iF ?_
           exact ⟨false, ⟨K, trivial⟩, SP.sel a3 [] rfl rfl, H⟩
         ·have H := cf H d0
          refine iR 17 43 [(92, undef), (93, undef), (94, undef), (95, (.bool false)), (96, (.bool false)), (97, undef), (98, undef), (99, (.bool false)), (100, (.bool false)), (101, undef), (102, undef), (103, (.bool false)), (104, (.bool false)), (105, undef), (106, undef), (107, (.bool false)), (0, (.bool false))] ?_
          refine iF ?_
          exact ⟨false, ⟨K, trivial⟩, SP.sel a3 [] rfl rfl, H⟩
        ·have H := cf H c9
         refine iR 21 43 [(88, undef), (89, undef), (90, (.bool false)), (91, (.bool false)), (92, undef), (93, undef), (94, undef), (95, (.bool false)), (96, (.bool false)), (97, undef), (98, undef), (99, (.bool false)), (100, (.bool false)), (101, undef), (102, undef), (103, (.bool false)), (104, (.bool false)), (105, undef), (106, undef), (107, (.bool false)), (0, (.bool false))] ?_
         refine iF ?_
         exact ⟨false, ⟨K, trivial⟩, SP.sel a3 [] rfl rfl, H⟩
       ·have H := cf H c8
        refine iR 24 43 [(85, undef), (86, (.bool false)), (87, (.bool false)), (88, undef), (89, undef), (90, (.bool false)), (91, (.bool false)), (92, undef), (93, undef), (94, undef), (95, (.bool false)), (96, (.bool false)), (97, undef), (98, undef), (99, (.bool false)), (100, (.bool false)), (101, undef), (102, undef), (103, (.bool false)), (104, (.bool false)), (105, undef), (106, undef), (107, (.bool false)), (0, (.bool false))] ?_
        refine iF ?_
        exact ⟨false, ⟨K, trivial⟩, SP.sel a3 [] rfl rfl, H⟩
      ·have H := cf H c7
       refine iR 28 43 [(81, undef), (82, undef), (83, (.bool false)), (84, (.bool false)), (85, undef), (86, (.bool false)), (87, (.bool false)), (88, undef), (89, undef), (90, (.bool false)), (91, (.bool false)), (92, undef), (93, undef), (94, undef), (95, (.bool false)), (96, (.bool false)), (97, undef), (98, undef), (99, (.bool false)), (100, (.bool false)), (101, undef), (102, undef), (103, (.bool false)), (104, (.bool false)), (105, undef), (106, undef), (107, (.bool false)), (0, (.bool false))] ?_
       refine iF ?_
       exact ⟨false, ⟨K, trivial⟩, SP.sel a3 [] rfl rfl, H⟩
     ·have H := cf H c6
      refine iR 31 43 [(78, undef), (79, (.bool false)), (80, (.bool false)), (81, undef), (82, undef), (83, (.bool false)), (84, (.bool false)), (85, undef), (86, (.bool false)), (87, (.bool false)), (88, undef), (89, undef), (90, (.bool false)), (91, (.bool false)), (92, undef), (93, undef), (94, undef), (95, (.bool false)), (96, (.bool false)), (97, undef), (98, undef), (99, (.bool false)), (100, (.bool false)), (101, undef), (102, undef), (103, (.bool false)), (104, (.bool false)), (105, undef), (106, undef), (107, (.bool false)), (0, (.bool false))] ?_
      refine iF ?_
      exact ⟨false, ⟨K, trivial⟩, SP.sel a3 [] rfl rfl, H⟩
    ·have H := cf H c5
     refine iR 36 43 [(73, undef), (74, undef), (75, undef), (76, (.bool false)), (77, (.bool false)), (78, undef), (79, (.bool false)), (80, (.bool false)), (81, undef), (82, undef), (83, (.bool false)), (84, (.bool false)), (85, undef), (86, (.bool false)), (87, (.bool false)), (88, undef), (89, undef), (90, (.bool false)), (91, (.bool false)), (92, undef), (93, undef), (94, undef), (95, (.bool false)), (96, (.bool false)), (97, undef), (98, undef), (99, (.bool false)), (100, (.bool false)), (101, undef), (102, undef), (103, (.bool false)), (104, (.bool false)), (105, undef), (106, undef), (107, (.bool false)), (0, (.bool false))] ?_
     refine iF ?_
     exact ⟨false, ⟨K, trivial⟩, SP.sel a3 [] rfl rfl, H⟩
   ·have H := cf H c4
    refine iR 39 43 [(70, undef), (71, (.bool false)), (72, (.bool false)), (73, undef), (74, undef), (75, undef), (76, (.bool false)), (77, (.bool false)), (78, undef), (79, (.bool false)), (80, (.bool false)), (81, undef), (82, undef), (83, (.bool false)), (84, (.bool false)), (85, undef), (86, (.bool false)), (87, (.bool false)), (88, undef), (89, undef), (90, (.bool false)), (91, (.bool false)), (92, undef), (93, undef), (94, undef), (95, (.bool false)), (96, (.bool false)), (97, undef), (98, undef), (99, (.bool false)), (100, (.bool false)), (101, undef), (102, undef), (103, (.bool false)), (104, (.bool false)), (105, undef), (106, undef), (107, (.bool false)), (0, (.bool false))] ?_
    refine iF ?_
    exact ⟨false, ⟨K, trivial⟩, SP.sel a3 [] rfl rfl, H⟩
  ·rintro ρ k1 ⟨a8, hk, j4, H⟩
   unfold Q1 at H
   first | refine At.known [(0, (.bool a8))] hk ?_ | rw [← Q9 (l := [(0, (.bool a8))]) hk]
   refine At.ret K ?_
   refine ⟨(.bool a8), K, ?_⟩
   obtain rfl := Qg H
   exact ⟨rfl, SP.sel j4 [] rfl rfl⟩
end Go.Proofs.YtmgfanhcdfobhaaGreatDoor
namespace Go.Proofs.YtmgfanhcdfobhaaGreatDoor
theorem shakeHead : Yb = some true := by
  unfold Yb
  rw [show Jl = some () from rfl, Option.bind_some, headVNew, Option.bind_some, optE_s]
  kernel_rfl
theorem who_p (w g i e : Int) (l : List Qd) (M : Yi) (c : Int) (t k n : Str) (kn : Bool) : Z7 w g i e l M c t k n kn = some (cond kn t [], kn) := by
  unfold Z7
  cases kn <;> rfl
end Go.Proofs.YtmgfanhcdfobhaaGreatDoor
namespace Go.Proofs.YtmgfanhcdfobhaaGreatDoor
theorem Ix (l : List Qd) (M : Yi) (A B : Str) (now : Int) (nonce : Str) (h : nonce.length ≤ 64) : hearL l M 1 [] [] [] false 1 A B now nonce = (2, nonce, [], 0, 0, true, 2, A, B, nonce, false) := by
  unfold hearL
  rw [List.take_of_length_le h]
  rfl
theorem Iy (l : List Qd) (M : Yi) (t k n A B : Str) (now : Int) (nonce : Str) : hearL l M 2 t k n false 3 A B now nonce = cond (U4 l M t k n A now == 0) (4, [], [], 0, 0, true, 0, t, k, n, true) (5, [], [], U4 l M t k n A now, 0, true, 0, t, k, n, false) := rfl
end Go.Proofs.YtmgfanhcdfobhaaGreatDoor
namespace Go.Proofs.YtmgfanhcdfobhaaGreatDoor
open Go.RowKit
def Qe (a : Bool) : Option (Bool) :=
  (some (a))
def Vr (d : (List Qd)) (k : (List UInt8)) (l : Int) (m : Bool) (n : (Bool)) (e : ((List UInt8))) (o : (Bool)) (b : (Int × (List UInt8) × (List UInt8) × Int × Int × Bool × Int × (List UInt8) × (List UInt8) × (List UInt8) × Bool)) (f : Int) (g : Int) (h : Int) (i : Int) (j : Yi) : Option (Bool) :=
  ((Vx f g h i d j b.2.2.2.2.2.2.1 b.2.2.2.2.2.2.2.1 b.2.2.2.2.2.2.2.2.1 b.2.2.2.2.2.2.2.2.2.1 b.2.2.2.2.2.2.2.2.2.2 3 e ([] : List UInt8) 0 0 l ([] : List UInt8)).bind fun a => ((Z7 f g h i d j a.2.2.2.2.2.2.1 a.2.2.2.2.2.2.2.1 a.2.2.2.2.2.2.2.2.1 a.2.2.2.2.2.2.2.2.2.1 a.2.2.2.2.2.2.2.2.2.2).bind fun c => (cond n (cond b.2.2.2.2.2.1 (cond a.2.2.2.2.2.1 (cond ((b.1 == 2) && ((b.2.1 == k) && ((b.2.2.1 == ([] : List UInt8)) && ((b.2.2.2.1 == 0) && (b.2.2.2.2.1 == 0))))) (cond o (cond (!m) (cond (c.2 == (!(e == ([] : List UInt8)))) (cond ((a.1 == 4) == c.2) (cond c.2 (Qe true) (cond (a.1 == 5) (Qe (decide (a.2.2.2.1 > 0))) (Qe false))) (Qe false)) (Qe false)) (cond (c.2 == false) (cond ((a.1 == 4) == c.2) (cond c.2 (Qe true) (cond (a.1 == 5) (Qe (decide (a.2.2.2.1 > 0))) (Qe false))) (Qe false)) (Qe false))) (cond (c.2 == false) (cond ((a.1 == 4) == c.2) (cond c.2 (Qe true) (cond (a.1 == 5) (Qe (decide (a.2.2.2.1 > 0))) (Qe false))) (Qe false)) (Qe false))) (Qe false)) (Qe false)) (Qe false)) (Qe false))))
def Q5 (b : (List Qd)) (e : (List UInt8)) (f : (List UInt8)) (g : (List UInt8)) (h : Int) (i : Bool) (j : (Bool)) (a : (Int × Int × Int × Int × Yi)) (n : Bool) : Option (Bool) :=
  (cond n (some (j)) ((Ur a.1 a.2.1 a.2.2.1 a.2.2.2.1 b a.2.2.2.2).bind fun c => ((Zv a.1 a.2.1 a.2.2.1 a.2.2.2.1 b a.2.2.2.2 e f g).bind fun k => ((Xe a.1 a.2.1 a.2.2.1 a.2.2.2.1 b a.2.2.2.2 e f h).bind fun l => ((Vx a.1 a.2.1 a.2.2.1 a.2.2.2.1 b a.2.2.2.2 c.1 c.2.1 c.2.2.1 c.2.2.2.1 c.2.2.2.2 1 e f 0 0 0 g).bind fun m => (cond i ((Xq a.1 a.2.1 a.2.2.1 a.2.2.2.1 b a.2.2.2.2 e f).bind fun d => (Vr b g h i j k l m d.2.1 d.2.2.1 d.2.2.2.1 d.2.2.2.2.1 d.2.2.2.2.2)) (Vr b g h i j k l m a.1 a.2.1 a.2.2.1 a.2.2.2.1 a.2.2.2.2)))))))
def Zz (i : Int) (j : Int) (k : Int) (l : Int) (a : (List Qd)) (b : (List UInt8)) (c : (List UInt8)) (d : (List UInt8)) (f : Int) (g : Bool) : Option (Bool) :=
  ((Yb ).bind fun e => ((J5 i j k l a).bind fun m => (optE m (some (e)) (fun h => ((Yt i j k l a).bind fun n => (cond n (Q5 a b c d f g e h true) (cond (decide ((IntKind.wrap .i64 (((List.length b : Nat) : Int) + ((List.length c : Nat) : Int))) > 1000)) (Q5 a b c d f g e h true) (Q5 a b c d f g e h (decide (((List.length d : Nat) : Int) > 64))))))))))
set_option maxRecDepth 100000 in
set_option maxHeartbeats 4000000 in
theorem Us (A6 : Option Addr) (c7 : Nat) (b2 : Int) (b3 : Int) (b4 : Int) (b5 : Int) (d9 : (List Q6)) (a0 : (List UInt8)) (a1 : (List UInt8)) (s : (List UInt8)) (a7 : Int) (a5 : Bool) (w0 : World) (hL : Dd w0) (a9 : (dDS J9 Bb).ok w0 (A6, c7, d9)) (r : (Bool)) (H : Zz b2 b3 b4 b5 (List.map stT d9) a0 a1 s a7 a5 = some r) :
  Calls Tryz.prog 14 #[(.agg #[(.int .i64 b2), (.int .i64 b3), (.int .i64 b4), (.int .i64 b5), (.slice A6 (List.length (List.map stT d9)) c7)]), (.string ⟨List.toArray a0⟩), (.string ⟨List.toArray a1⟩), (.string ⟨List.toArray s⟩), (.int .i64 a7), (.bool a5)] w0 (fun e w' => e = .returned (.bool r) ∧ SP [] w0 w' []) := by
 unfold Zz at H
 refine Qu (n := 134) Tryz.func14 K K K ?_
 have h9 := Q3 [] w0
 refine aQ ?_
 refine aR ?_
 refine iS 1 ?_
 refine Vn (t := 24) (x := (.tmp 0)) (v := (.agg #[(.int .i64 b2), (.int .i64 b3), (.int .i64 b4), (.int .i64 b5), (.slice A6 (List.length (List.map stT d9)) c7)])) (d := (some 6)) (k := 0) K rfl K h9 ?_
 intro f8 i0 f9
 refine iR 1 2 [(12, (.bool false))] ?_
 refine iF ?_
 refine aQ ?_
 refine aR ?_
 obtain ⟨a4, i1, H⟩ := Qc H
 refine iS 1 ?_
 refine cF 31 #[] #[] 24 Tryz.call31 (Gh   i0 (Zw hL (SP.keeps f9)) a4 i1) ?_
 rintro e g0 ⟨rfl, g1⟩
 refine ⟨_, rfl, ?_⟩
 have b6 := SP.call f9 g1
 clear g1
 refine iR 1 2 [(13, (.bool a4))] ?_
 refine iF ?_
 refine aQ ?_
 refine aR ?_
 refine iS 1 ?_
 refine sL 24 6 f8 0 0 (.agg #[(.int .i64 b2), (.int .i64 b3), (.int .i64 b4), (.int .i64 b5), (.slice A6 (List.length (List.map stT d9)) c7)]) 25 b6 rfl ?_
 obtain ⟨i2, g2, H⟩ := Qc H
 rcases i2 with _ | h
 ·have H := optN H
  refine iS 2 ?_
  refine cF 18 #[(.tmp 25)] #[24] 26 Tryz.call18 (J0 A6 c7 b2 b3 b4 b5 d9 g0 (Zw hL (SP.keeps b6)) (Dp.sp a9 b6) none g2) ?_
  rintro e k8 ⟨rfl, g3⟩
  refine ⟨_, rfl, ?_⟩
  have i3 := SP.call b6 g3
  clear g3
  refine iR 1 3 [(14, (.pointer none))] ?_
  refine iF ?_
  refine aQ ?_
  refine aQ ?_
  refine aR ?_
  refine iR 19 19 [(27, (.pointer none)), (28, (.bool true)), (29, (.bool true)), (30, undef), (31, undef), (32, (.bool true)), (33, (.bool true)), (34, undef), (35, undef), (36, undef), (37, undef), (38, undef), (39, undef), (40, (.bool true)), (41, (.bool true)), (42, undef), (43, undef), (44, undef), (45, (.bool true))] ?_
  refine iF ?_
  refine Zq K (o := (.tmp 45)) K (b := true) K (fun g4 => ?_) (fun g4 => ?_)
  rotate_left
  ·cases g4
  refine aQ ?_
  refine aR ?_
  refine iR 2 2 [(46, (.bool a4)), (12, (.bool a4))] ?_
  refine iF ?_
  refine At.ret K ?_
  refine ⟨(.bool a4), K, ?_⟩
  obtain rfl := Qg H
  exact ⟨rfl, SP.sel i3 [] rfl rfl⟩
 ·have H := optS H
  refine iS 2 ?_
  refine cF 18 #[(.tmp 25)] #[24] 26 Tryz.call18 (J0 A6 c7 b2 b3 b4 b5 d9 g0 (Zw hL (SP.keeps b6)) (Dp.sp a9 b6) (some h) g2) ?_
  rintro e i4 ⟨m, u, rfl, g5⟩
  refine ⟨_, rfl, ?_⟩
  have c8 := SP.call b6 g5
  clear g5
  refine iR 1 3 [(14, (pt m 0))] ?_
  refine iF ?_
  refine aQ ?_
  refine aQ ?_
  refine At.join (fun ρ w => ∃ (c2 : Bool), Zk ρ [(1, (.string ⟨List.toArray a0⟩)), (2, (.string ⟨List.toArray a1⟩)), (3, (.string ⟨List.toArray s⟩)), (4, (.int .i64 a7)), (5, (.bool a5)), (13, (.bool a4)), (14, (pt m 0)), (45, (.bool c2))] ∧ SP [] w0 w [Qo m 79 #[(.int .i64 h.1), (.int .i64 h.2.1), (.int .i64 h.2.2.1), (.int .i64 h.2.2.2.1), (.slice A6 (List.length (List.map stT d9)) c7), (.map (some u))], Vf u h.2.2.2.2] ∧ Q5 (List.map stT d9) a0 a1 s a7 a5 a4 h c2 = some r) ?_ ?_
  ·refine aR ?_
   refine iR 3 3 [(27, (pt m 0)), (28, (.bool false)), (29, (.bool false))] ?_
   refine iS 4 ?_
   refine sL 24 6 f8 0 0 (.agg #[(.int .i64 b2), (.int .i64 b3), (.int .i64 b4), (.int .i64 b5), (.slice A6 (List.length (List.map stT d9)) c7)]) 30 c8 rfl ?_
   obtain ⟨c4, i5, H⟩ := Qc H
   refine iS 5 ?_
   refine cF 16 #[(.tmp 30)] #[24] 31 Tryz.call16 (Nt A6 c7 b2 b3 b4 b5 d9 i4 (Dp.sp a9 c8) c4 i5) ?_
   rintro e k9 ⟨rfl, g6⟩
   refine ⟨_, rfl, ?_⟩
   have c9 := SP.call c8 g6
   clear g6
   refine iR 2 7 [(32, (.bool c4)), (33, (.bool c4))] ?_
   refine In.guard (t := 33) (b := c4) K (fun d0 => ?_) (fun d0 => ?_)
   ·have H := ct H d0
    refine iR 12 19 [(34, undef), (35, undef), (36, undef), (37, undef), (38, undef), (39, undef), (40, (.bool true)), (41, (.bool true)), (42, undef), (43, undef), (44, undef), (45, (.bool true))] ?_
    refine iF ?_
    exact ⟨true, ⟨K, K, K, K, K, K, K, K, trivial⟩, SP.sel c9 [1, 2] rfl rfl, H⟩
   ·have H := cf H d0
    refine iR 8 15 [(34, (.string ⟨List.toArray a0⟩)), (35, (.int .i64 ((List.length a0 : Nat) : Int))), (36, (.string ⟨List.toArray a1⟩)), (37, (.int .i64 ((List.length a1 : Nat) : Int))), (38, (.int .i64 (IntKind.wrap .i64 (((List.length a0 : Nat) : Int) + ((List.length a1 : Nat) : Int))))), (39, (.bool (decide ((IntKind.wrap .i64 (((List.length a0 : Nat) : Int) + ((List.length a1 : Nat) : Int))) > 1000)))), (40, (.bool (decide ((IntKind.wrap .i64 (((List.length a0 : Nat) : Int) + ((List.length a1 : Nat) : Int))) > 1000)))), (41, (.bool (decide ((IntKind.wrap .i64 (((List.length a0 : Nat) : Int) + ((List.length a1 : Nat) : Int))) > 1000))))] ?_
    refine In.guard (t := 41) (b := (decide ((IntKind.wrap .i64 (((List.length a0 : Nat) : Int) + ((List.length a1 : Nat) : Int))) > 1000))) K (fun d1 => ?_) (fun d1 => ?_)
    ·have H := ct H d1
     refine iR 4 19 [(42, undef), (43, undef), (44, undef), (45, (.bool true))] ?_
     refine iF ?_
     exact ⟨true, ⟨K, K, K, K, K, K, K, K, trivial⟩, SP.sel c9 [1, 2] rfl rfl, H⟩
    ·have H := cf H d1
     refine iR 4 19 [(42, (.string ⟨List.toArray s⟩)), (43, (.int .i64 ((List.length s : Nat) : Int))), (44, (.bool (decide (((List.length s : Nat) : Int) > 64)))), (45, (.bool (decide (((List.length s : Nat) : Int) > 64))))] ?_
     refine iF ?_
     exact ⟨(decide (((List.length s : Nat) : Int) > 64)), ⟨K, K, K, K, K, K, K, K, trivial⟩, SP.sel c9 [1, 2] rfl rfl, H⟩
  ·rintro ρ i6 ⟨c2, hk, c5, H⟩
   unfold Q5 at H
   first | refine At.known [(1, (.string ⟨List.toArray a0⟩)), (2, (.string ⟨List.toArray a1⟩)), (3, (.string ⟨List.toArray s⟩)), (4, (.int .i64 a7)), (5, (.bool a5)), (13, (.bool a4)), (14, (pt m 0)), (45, (.bool c2))] hk ?_ | rw [← Q9 (l := [(1, (.string ⟨List.toArray a0⟩)), (2, (.string ⟨List.toArray a1⟩)), (3, (.string ⟨List.toArray s⟩)), (4, (.int .i64 a7)), (5, (.bool a5)), (13, (.bool a4)), (14, (pt m 0)), (45, (.bool c2))]) hk]
   refine Zq K (o := (.tmp 45)) K (b := c2) K (fun d2 => ?_) (fun d2 => ?_)
   ·have H := ct H d2
    refine aQ ?_
    refine aR ?_
    refine iR 2 2 [(46, (.bool a4)), (12, (.bool a4))] ?_
    refine iF ?_
    refine At.ret K ?_
    refine ⟨(.bool a4), K, ?_⟩
    obtain rfl := Qg H
    exact ⟨rfl, SP.sel c5 [] rfl rfl⟩
   ·have H := cf H d2
    refine At.skip K ?_
    refine aQ ?_
    refine aR ?_
    refine iR 1 1 [(47, (pt m 0))] ?_
    obtain ⟨a2, i7, H⟩ := Qc H
    refine iS 2 ?_
    refine cF 33 #[(.tmp 47)] #[29] 48 Tryz.call33 (U3 m A6 c7 u h.1 h.2.1 h.2.2.1 h.2.2.2.1 d9 h.2.2.2.2 i6 (Xs c5 [0, 1] rfl rfl) (fun w hm => Dp.mono _ (J1 c5 (l := [0, 1]) rfl hm) a9) a2 i7) ?_
    rintro e g7 ⟨q, rfl, g8⟩
    refine ⟨_, rfl, ?_⟩
    have d3 : SP [] w0 g7 [Qo q 95 #[(pt m 0), (Zc a2.1 q), (.string ⟨List.toArray a2.2.1⟩), (.string ⟨List.toArray a2.2.2.1⟩), (.string ⟨List.toArray a2.2.2.2.1⟩), (.bool a2.2.2.2.2)], Qo m 79 #[(.int .i64 h.1), (.int .i64 h.2.1), (.int .i64 h.2.2.1), (.int .i64 h.2.2.2.1), (.slice A6 (List.length (List.map stT d9)) c7), (.map (some u))], Vf u h.2.2.2.2] := Vv c5 [0, 1] [] rfl rfl g8 rfl
    clear g8
    refine iR 1 3 [(15, (pt q 0))] ?_
    refine iF ?_
    refine aQ ?_
    refine aQ ?_
    refine aR ?_
    refine iR 2 2 [(49, (pt q 0)), (50, (.bool false))] ?_
    refine iF ?_
    refine Zq K (o := (.tmp 50)) K (b := false) K (fun g9 => ?_) (fun g9 => ?_)
    ·cases g9
    refine At.skip K ?_
    refine aQ ?_
    refine aR ?_
    refine iR 4 4 [(51, (pt m 0)), (52, (.string ⟨List.toArray a0⟩)), (53, (.string ⟨List.toArray a1⟩)), (54, (.string ⟨List.toArray s⟩))] ?_
    obtain ⟨a6, i8, H⟩ := Qc H
    refine iS 5 ?_
    refine cF 24 #[(.tmp 51), (.tmp 52), (.tmp 53), (.tmp 54)] #[29, 9, 9, 9] 55 Tryz.call24 (Yz m A6 c7 u h.1 h.2.1 h.2.2.1 h.2.2.2.1 d9 h.2.2.2.2 a0 a1 s g7 (Xs d3 [1, 2] rfl rfl) (fun w hm => Dp.mono _ (J1 d3 (l := [1, 2]) rfl hm) a9) a6 i8) ?_
    rintro e h1 ⟨rfl, h2⟩
    refine ⟨_, rfl, ?_⟩
    have d4 : SP [] w0 h1 [Qo q 95 #[(pt m 0), (Zc a2.1 q), (.string ⟨List.toArray a2.2.1⟩), (.string ⟨List.toArray a2.2.2.1⟩), (.string ⟨List.toArray a2.2.2.2.1⟩), (.bool a2.2.2.2.2)], Qo m 79 #[(.int .i64 h.1), (.int .i64 h.2.1), (.int .i64 h.2.2.1), (.int .i64 h.2.2.2.1), (.slice A6 (List.length (List.map stT d9)) c7), (.map (some u))], Vf u h.2.2.2.2] := Vv d3 [1, 2] [0] rfl rfl h2 rfl
    clear h2
    refine iR 1 6 [(16, (.string ⟨List.toArray a6⟩))] ?_
    refine iF ?_
    refine aQ ?_
    refine aR ?_
    refine iR 4 4 [(56, (pt m 0)), (57, (.string ⟨List.toArray a0⟩)), (58, (.string ⟨List.toArray a1⟩)), (59, (.int .i64 a7))] ?_
    obtain ⟨b0, i9, H⟩ := Qc H
    refine iS 5 ?_
    refine cF 22 #[(.tmp 56), (.tmp 57), (.tmp 58), (.tmp 59)] #[29, 9, 9, 2] 60 Tryz.call22 (Uh m A6 c7 u h.1 h.2.1 h.2.2.1 h.2.2.2.1 d9 h.2.2.2.2 a0 a1 a7 h1 (Xs d4 [1, 2] rfl rfl) (fun w hm => Dp.mono _ (J1 d4 (l := [1, 2]) rfl hm) a9) b0 i9) ?_
    rintro e h3 ⟨rfl, h4⟩
    refine ⟨_, rfl, ?_⟩
    have d5 : SP [] w0 h3 [Qo q 95 #[(pt m 0), (Zc a2.1 q), (.string ⟨List.toArray a2.2.1⟩), (.string ⟨List.toArray a2.2.2.1⟩), (.string ⟨List.toArray a2.2.2.2.1⟩), (.bool a2.2.2.2.2)], Qo m 79 #[(.int .i64 h.1), (.int .i64 h.2.1), (.int .i64 h.2.2.1), (.int .i64 h.2.2.2.1), (.slice A6 (List.length (List.map stT d9)) c7), (.map (some u))], Vf u h.2.2.2.2] := Vv d4 [1, 2] [0] rfl rfl h4 rfl
    clear h4
    refine iR 1 6 [(17, (.bool b0))] ?_
    refine iF ?_
    refine aQ ?_
    refine aR ?_
    refine iR 5 5 [(62, (pt q 0)), (63, (.string ⟨List.toArray a0⟩)), (64, (.string ⟨List.toArray a1⟩)), (65, (.agg #[(.int .i64 1), (.string ⟨List.toArray a0⟩), (.string ⟨List.toArray a1⟩), (.int .i64 0), (.int .i64 0)])), (66, (.string ⟨List.toArray s⟩))] ?_
    obtain ⟨c, j0, H⟩ := Qc H
    refine iS 6 ?_
    refine cF 34 #[(.tmp 62), (.tmp 65), (.const (.int .i64 (0))), (.tmp 66)] #[60, 63, 2, 9] 67 Tryz.call34 (Zg q m A6 c7 u h.1 h.2.1 h.2.2.1 h.2.2.2.1 d9 h.2.2.2.2 a2.1 a2.2.1 a2.2.2.1 a2.2.2.2.1 a2.2.2.2.2 1 a0 a1 0 0 0 s h3 (Xs d5 [1, 2, 0] rfl rfl) (fun w hm => Dp.mono _ (J1 d5 (l := [1, 2, 0]) rfl hm) a9) c j0) ?_
    rintro e j1 ⟨rfl, h5⟩
    refine ⟨_, rfl, ?_⟩
    have j2 : SP [] w0 j1 [Qo m 79 #[(.int .i64 h.1), (.int .i64 h.2.1), (.int .i64 h.2.2.1), (.int .i64 h.2.2.2.1), (.slice A6 (List.length (List.map stT d9)) c7), (.map (some u))], Vf u h.2.2.2.2, Qo q 95 #[(pt m 0), (Zc c.2.2.2.2.2.2.1 q), (.string ⟨List.toArray c.2.2.2.2.2.2.2.1⟩), (.string ⟨List.toArray c.2.2.2.2.2.2.2.2.1⟩), (.string ⟨List.toArray c.2.2.2.2.2.2.2.2.2.1⟩), (.bool c.2.2.2.2.2.2.2.2.2.2)]] := Vv d5 [1, 2, 0] [] rfl rfl h5 rfl
    clear h5
    refine iR 3 9 [(61, (.tuple #[(.agg #[(.int .i64 c.1), (.string ⟨List.toArray c.2.1⟩), (.string ⟨List.toArray c.2.2.1⟩), (.int .i64 c.2.2.2.1), (.int .i64 c.2.2.2.2.1)]), (.bool c.2.2.2.2.2.1)])), (68, (.agg #[(.int .i64 c.1), (.string ⟨List.toArray c.2.1⟩), (.string ⟨List.toArray c.2.2.1⟩), (.int .i64 c.2.2.2.1), (.int .i64 c.2.2.2.2.1)])), (69, (.bool c.2.2.2.2.2.1))] ?_
    refine iS 10 ?_
    refine Qi.alloc (t := 63) (z := (.agg #[(.int .i64 0), (.string ⟨List.toArray ([] : List UInt8)⟩), (.string ⟨List.toArray ([] : List UInt8)⟩), (.int .i64 0), (.int .i64 0)])) (d := (some 18)) (k := 9) K rfl K j2 ?_
    intro b1 l0 j3
    refine iS 11 ?_
    refine Qi.store (t := 63) (x := (.tmp 18)) (y := (.tmp 68)) (g := b1) (off := 0) (i := 3) (v := (.agg #[(.int .i64 c.1), (.string ⟨List.toArray c.2.1⟩), (.string ⟨List.toArray c.2.2.1⟩), (.int .i64 c.2.2.2.1), (.int .i64 c.2.2.2.2.1)])) (cs' := #[(.int .i64 c.1), (.string ⟨List.toArray c.2.1⟩), (.string ⟨List.toArray c.2.2.1⟩), (.int .i64 c.2.2.2.1), (.int .i64 c.2.2.2.2.1)]) (d := none) (k := 10) K rfl K K j3 rfl K ?_
    intro j4 c6
    refine iR 1 12 [(19, (.bool c.2.2.2.2.2.1))] ?_
    refine iF ?_
    refine aQ ?_
    refine aQ ?_
    refine aR ?_
    refine iR 1 1 [(70, (.bool a5))] ?_
    refine iF ?_
    refine At.join (fun ρ w => ∃ (b7 : Int) (b8 : Int) (b9 : Int) (c0 : Int) (c1 : Yi), Zk ρ [(3, (.string ⟨List.toArray s⟩)), (4, (.int .i64 a7)), (5, (.bool a5)), (13, (.bool a4)), (15, (pt q 0)), (16, (.string ⟨List.toArray a6⟩)), (17, (.bool b0)), (18, (pt b1 0)), (19, (.bool c.2.2.2.2.2.1))] ∧ SP [] w0 w [Qo q 95 #[(pt m 0), (Zc c.2.2.2.2.2.2.1 q), (.string ⟨List.toArray c.2.2.2.2.2.2.2.1⟩), (.string ⟨List.toArray c.2.2.2.2.2.2.2.2.1⟩), (.string ⟨List.toArray c.2.2.2.2.2.2.2.2.2.1⟩), (.bool c.2.2.2.2.2.2.2.2.2.2)], Qo m 79 #[(.int .i64 b7), (.int .i64 b8), (.int .i64 b9), (.int .i64 c0), (.slice A6 (List.length (List.map stT d9)) c7), (.map (some u))], Vf u c1, Qo b1 63 #[(.int .i64 c.1), (.string ⟨List.toArray c.2.1⟩), (.string ⟨List.toArray c.2.2.1⟩), (.int .i64 c.2.2.2.1), (.int .i64 c.2.2.2.2.1)]] ∧ Vr (List.map stT d9) s a7 a5 a4 a6 b0 c b7 b8 b9 c0 c1 = some r) ?_ ?_
    ·refine Zq K (o := (.tmp 70)) K (b := a5) K (fun d6 => ?_) (fun d6 => ?_)
     ·have H := ct H d6
      refine aR ?_
      refine iR 3 3 [(71, (pt m 0)), (72, (.string ⟨List.toArray a0⟩)), (73, (.string ⟨List.toArray a1⟩))] ?_
      obtain ⟨a8, j5, H⟩ := Qc H
      refine iS 4 ?_
      refine cF 20 #[(.tmp 71), (.tmp 72), (.tmp 73)] #[29, 9, 9] 74 Tryz.call20 (Nn m A6 c7 u h.1 h.2.1 h.2.2.1 h.2.2.2.1 d9 h.2.2.2.2 a0 a1 j4 (Xs c6 [0, 1] rfl rfl) (fun w hm => Dp.mono _ (J1 c6 (l := [0, 1]) rfl hm) a9) a8 j5) ?_
      rintro e j6 ⟨rfl, h6⟩
      refine ⟨_, rfl, ?_⟩
      have j7 : SP [] w0 j6 [Qo q 95 #[(pt m 0), (Zc c.2.2.2.2.2.2.1 q), (.string ⟨List.toArray c.2.2.2.2.2.2.2.1⟩), (.string ⟨List.toArray c.2.2.2.2.2.2.2.2.1⟩), (.string ⟨List.toArray c.2.2.2.2.2.2.2.2.2.1⟩), (.bool c.2.2.2.2.2.2.2.2.2.2)], Qo b1 63 #[(.int .i64 c.1), (.string ⟨List.toArray c.2.1⟩), (.string ⟨List.toArray c.2.2.1⟩), (.int .i64 c.2.2.2.1), (.int .i64 c.2.2.2.2.1)], Qo m 79 #[(.int .i64 a8.2.1), (.int .i64 a8.2.2.1), (.int .i64 a8.2.2.2.1), (.int .i64 a8.2.2.2.2.1), (.slice A6 (List.length (List.map stT d9)) c7), (.map (some u))], Vf u a8.2.2.2.2.2] := Vv c6 [0, 1] [2, 3] rfl rfl h6 rfl
      clear h6
      refine iF ?_
      exact ⟨a8.2.1, a8.2.2.1, a8.2.2.2.1, a8.2.2.2.2.1, a8.2.2.2.2.2, ⟨K, K, K, K, K, K, K, K, K, trivial⟩, SP.sel j7 [0, 2, 3, 1] rfl rfl, H⟩
     ·have H := cf H d6
      refine At.skip K ?_
      exact ⟨h.1, h.2.1, h.2.2.1, h.2.2.2.1, h.2.2.2.2, ⟨K, K, K, K, K, K, K, K, K, trivial⟩, SP.sel c6 [2, 0, 1, 3] rfl rfl, H⟩
    ·rintro ρ j8 ⟨b7, b8, b9, c0, c1, hk, d7, H⟩
     unfold Vr at H
     first | refine At.known [(3, (.string ⟨List.toArray s⟩)), (4, (.int .i64 a7)), (5, (.bool a5)), (13, (.bool a4)), (15, (pt q 0)), (16, (.string ⟨List.toArray a6⟩)), (17, (.bool b0)), (18, (pt b1 0)), (19, (.bool c.2.2.2.2.2.1))] hk ?_ | rw [← Q9 (l := [(3, (.string ⟨List.toArray s⟩)), (4, (.int .i64 a7)), (5, (.bool a5)), (13, (.bool a4)), (15, (pt q 0)), (16, (.string ⟨List.toArray a6⟩)), (17, (.bool b0)), (18, (pt b1 0)), (19, (.bool c.2.2.2.2.2.1))]) hk]
     refine aQ ?_
     refine aR ?_
     refine iR 4 4 [(76, (pt q 0)), (77, (.string ⟨List.toArray a6⟩)), (78, (.agg #[(.int .i64 3), (.string ⟨List.toArray a6⟩), (.string ⟨List.toArray ([] : List UInt8)⟩), (.int .i64 0), (.int .i64 0)])), (79, (.int .i64 a7))] ?_
     obtain ⟨f, j9, H⟩ := Qc H
     refine iS 5 ?_
     refine cF 34 #[(.tmp 76), (.tmp 78), (.tmp 79), (.const (.string ⟨List.toArray ([] : List UInt8)⟩))] #[60, 63, 2, 9] 80 Tryz.call34 (Zg q m A6 c7 u b7 b8 b9 c0 d9 c1 c.2.2.2.2.2.2.1 c.2.2.2.2.2.2.2.1 c.2.2.2.2.2.2.2.2.1 c.2.2.2.2.2.2.2.2.2.1 c.2.2.2.2.2.2.2.2.2.2 3 a6 ([] : List UInt8) 0 0 a7 ([] : List UInt8) j8 (Xs d7 [1, 2, 0] rfl rfl) (fun w hm => Dp.mono _ (J1 d7 (l := [1, 2, 0]) rfl hm) a9) f j9) ?_
     rintro e k1 ⟨rfl, h7⟩
     refine ⟨_, rfl, ?_⟩
     have k2 : SP [] w0 k1 [Qo b1 63 #[(.int .i64 c.1), (.string ⟨List.toArray c.2.1⟩), (.string ⟨List.toArray c.2.2.1⟩), (.int .i64 c.2.2.2.1), (.int .i64 c.2.2.2.2.1)], Qo m 79 #[(.int .i64 b7), (.int .i64 b8), (.int .i64 b9), (.int .i64 c0), (.slice A6 (List.length (List.map stT d9)) c7), (.map (some u))], Vf u c1, Qo q 95 #[(pt m 0), (Zc f.2.2.2.2.2.2.1 q), (.string ⟨List.toArray f.2.2.2.2.2.2.2.1⟩), (.string ⟨List.toArray f.2.2.2.2.2.2.2.2.1⟩), (.string ⟨List.toArray f.2.2.2.2.2.2.2.2.2.1⟩), (.bool f.2.2.2.2.2.2.2.2.2.2)]] := Vv d7 [1, 2, 0] [3] rfl rfl h7 rfl
     clear h7
     refine iR 3 8 [(75, (.tuple #[(.agg #[(.int .i64 f.1), (.string ⟨List.toArray f.2.1⟩), (.string ⟨List.toArray f.2.2.1⟩), (.int .i64 f.2.2.2.1), (.int .i64 f.2.2.2.2.1)]), (.bool f.2.2.2.2.2.1)])), (81, (.agg #[(.int .i64 f.1), (.string ⟨List.toArray f.2.1⟩), (.string ⟨List.toArray f.2.2.1⟩), (.int .i64 f.2.2.2.1), (.int .i64 f.2.2.2.2.1)])), (82, (.bool f.2.2.2.2.2.1))] ?_
     refine iS 9 ?_
     refine Qi.alloc (t := 63) (z := (.agg #[(.int .i64 0), (.string ⟨List.toArray ([] : List UInt8)⟩), (.string ⟨List.toArray ([] : List UInt8)⟩), (.int .i64 0), (.int .i64 0)])) (d := (some 20)) (k := 8) K rfl K k2 ?_
     intro a3 l1 k3
     refine iS 10 ?_
     refine Qi.store (t := 63) (x := (.tmp 20)) (y := (.tmp 81)) (g := a3) (off := 0) (i := 4) (v := (.agg #[(.int .i64 f.1), (.string ⟨List.toArray f.2.1⟩), (.string ⟨List.toArray f.2.2.1⟩), (.int .i64 f.2.2.2.1), (.int .i64 f.2.2.2.2.1)])) (cs' := #[(.int .i64 f.1), (.string ⟨List.toArray f.2.1⟩), (.string ⟨List.toArray f.2.2.1⟩), (.int .i64 f.2.2.2.1), (.int .i64 f.2.2.2.2.1)]) (d := none) (k := 9) K rfl K K k3 rfl K ?_
     intro k4 d8
     refine iR 1 11 [(21, (.bool f.2.2.2.2.2.1))] ?_
     refine iF ?_
     refine aQ ?_
     refine aR ?_
     refine iR 1 1 [(84, (pt q 0))] ?_
     obtain ⟨j, k5, H⟩ := Qc H
     refine iS 2 ?_
     refine cF 35 #[(.tmp 84)] #[60] 85 Tryz.call35 (Y9 q m A6 c7 u b7 b8 b9 c0 d9 c1 f.2.2.2.2.2.2.1 f.2.2.2.2.2.2.2.1 f.2.2.2.2.2.2.2.2.1 f.2.2.2.2.2.2.2.2.2.1 f.2.2.2.2.2.2.2.2.2.2 k4 (Xs d8 [1, 2, 3] rfl rfl) (fun w hm => Dp.mono _ (J1 d8 (l := [1, 2, 3]) rfl hm) a9) j k5) ?_
     rintro e k6 ⟨rfl, h8⟩
     refine ⟨_, rfl, ?_⟩
     have p : SP [] w0 k6 [Qo b1 63 #[(.int .i64 c.1), (.string ⟨List.toArray c.2.1⟩), (.string ⟨List.toArray c.2.2.1⟩), (.int .i64 c.2.2.2.1), (.int .i64 c.2.2.2.2.1)], Qo a3 63 #[(.int .i64 f.1), (.string ⟨List.toArray f.2.1⟩), (.string ⟨List.toArray f.2.2.1⟩), (.int .i64 f.2.2.2.1), (.int .i64 f.2.2.2.2.1)], Qo m 79 #[(.int .i64 b7), (.int .i64 b8), (.int .i64 b9), (.int .i64 c0), (.slice A6 (List.length (List.map stT d9)) c7), (.map (some u))], Vf u c1, Qo q 95 #[(pt m 0), (Zc f.2.2.2.2.2.2.1 q), (.string ⟨List.toArray f.2.2.2.2.2.2.2.1⟩), (.string ⟨List.toArray f.2.2.2.2.2.2.2.2.1⟩), (.string ⟨List.toArray f.2.2.2.2.2.2.2.2.2.1⟩), (.bool f.2.2.2.2.2.2.2.2.2.2)]] := Vv d8 [1, 2, 3] [0, 4] rfl rfl h8 rfl
     clear h8
     refine iR 5 7 [(83, (.tuple #[(.string ⟨List.toArray j.1⟩), (.bool j.2)])), (86, (.string ⟨List.toArray j.1⟩)), (87, (.bool j.2)), (22, (.string ⟨List.toArray j.1⟩)), (23, (.bool j.2))] ?_
     refine iF ?_
     refine aQ ?_
     refine At.join (fun ρ w => ∃ (c3 : Bool), Zk ρ [(12, (.bool c3))] ∧ SP [] w0 w [] ∧ Qe c3 = some r) ?_ ?_
     ·refine aR ?_
      refine iR 2 2 [(88, (.bool a4)), (89, (.bool a4))] ?_
      refine In.guard (t := 89) (b := a4) K (fun e0 => ?_) (fun e0 => ?_)
      ·have H := ct H e0
       refine iR 3 5 [(90, (.bool c.2.2.2.2.2.1)), (91, (.bool c.2.2.2.2.2.1)), (92, (.bool c.2.2.2.2.2.1))] ?_
       refine In.guard (t := 92) (b := c.2.2.2.2.2.1) K (fun e1 => ?_) (fun e1 => ?_)
       ·have H := ct H e1
        refine iR 3 8 [(93, (.bool f.2.2.2.2.2.1)), (94, (.bool f.2.2.2.2.2.1)), (95, (.bool f.2.2.2.2.2.1))] ?_
        refine In.guard (t := 95) (b := f.2.2.2.2.2.1) K (fun e2 => ?_) (fun e2 => ?_)
        ·have H := ct H e2
         refine iS 9 ?_
         refine sL 63 18 b1 0 0 (.agg #[(.int .i64 c.1), (.string ⟨List.toArray c.2.1⟩), (.string ⟨List.toArray c.2.2.1⟩), (.int .i64 c.2.2.2.1), (.int .i64 c.2.2.2.2.1)]) 96 p rfl ?_
         refine iR 2 11 [(97, (.string ⟨List.toArray s⟩)), (98, (.agg #[(.int .i64 2), (.string ⟨List.toArray s⟩), (.string ⟨List.toArray ([] : List UInt8)⟩), (.int .i64 0), (.int .i64 0)]))] ?_
         refine iS 12 ?_
         refine Dc (op := .eql) (T := 63) (T' := 63) (x := (.tmp 96)) (y := (.tmp 98)) (vx := (.agg #[(.int .i64 c.1), (.string ⟨List.toArray c.2.1⟩), (.string ⟨List.toArray c.2.2.1⟩), (.int .i64 c.2.2.2.1), (.int .i64 c.2.2.2.2.1)])) (vy := (.agg #[(.int .i64 2), (.string ⟨List.toArray s⟩), (.string ⟨List.toArray ([] : List UInt8)⟩), (.int .i64 0), (.int .i64 0)])) (v := (.bool ((c.1 == 2) && ((c.2.1 == s) && ((c.2.2.1 == ([] : List UInt8)) && ((c.2.2.2.1 == 0) && (c.2.2.2.2.1 == 0))))))) (d := (some 99)) (k := 11) K rfl K K (by clear H; intro w; simp only [Du]; go_simp; simp only [Dt, Rq, Bw, Du, Bool.and_true] <;> simp only [Bool.not_and]) ?_
         refine iR 2 14 [(100, (.bool ((c.1 == 2) && ((c.2.1 == s) && ((c.2.2.1 == ([] : List UInt8)) && ((c.2.2.2.1 == 0) && (c.2.2.2.2.1 == 0))))))), (101, (.bool ((c.1 == 2) && ((c.2.1 == s) && ((c.2.2.1 == ([] : List UInt8)) && ((c.2.2.2.1 == 0) && (c.2.2.2.2.1 == 0)))))))] ?_
         refine In.guard (t := 101) (b := ((c.1 == 2) && ((c.2.1 == s) && ((c.2.2.1 == ([] : List UInt8)) && ((c.2.2.2.1 == 0) && (c.2.2.2.2.1 == 0)))))) K (fun e3 => ?_) (fun e3 => ?_)
         ·have H := ct H e3
          refine iR 3 17 [(102, (.bool j.2)), (103, (.bool b0)), (104, (.bool b0))] ?_
          refine In.guard (t := 104) (b := b0) K (fun e4 => ?_) (fun e4 => ?_)
          ·have H := ct H e4
           refine iR 4 21 [(105, (.bool a5)), (106, (.bool (!a5))), (107, (.bool (!a5))), (108, (.bool (!a5)))] ?_
           refine In.guard (t := 108) (b := (!a5)) K (fun e5 => ?_) (fun e5 => ?_)
           ·have H := ct H e5
            refine iR 1 22 [(109, (.string ⟨List.toArray a6⟩))] ?_
            refine iS 23 ?_
            refine Y6 (op := .neq) (T := 9) (T' := 9) (x := (.tmp 109)) (y := (.const (.string ⟨List.toArray ([] : List UInt8)⟩))) (a := a6) (b := ([] : List UInt8)) (r := (.bool (!(a6 == ([] : List UInt8))))) (d := (some 110)) (k := 22) K rfl K K rfl ?_
            refine iR 4 27 [(111, (.bool (!(a6 == ([] : List UInt8))))), (112, (.bool (j.2 == (!(a6 == ([] : List UInt8)))))), (113, (.bool (j.2 == (!(a6 == ([] : List UInt8)))))), (114, (.bool (j.2 == (!(a6 == ([] : List UInt8))))))] ?_
            refine In.guard (t := 114) (b := (j.2 == (!(a6 == ([] : List UInt8))))) K (fun e6 => ?_) (fun e6 => ?_)
            ·have H := ct H e6
             refine iR 1 28 [(115, (pt a3 0))] ?_
             refine iS 29 ?_
             refine sL 3 115 a3 0 1 (.int .i64 f.1) 116 p rfl ?_
             refine iR 5 34 [(117, (.bool (f.1 == 4))), (118, (.bool j.2)), (119, (.bool ((f.1 == 4) == j.2))), (120, (.bool ((f.1 == 4) == j.2))), (121, (.bool ((f.1 == 4) == j.2)))] ?_
             refine In.guard (t := 121) (b := ((f.1 == 4) == j.2)) K (fun e7 => ?_) (fun e7 => ?_)
             ·have H := ct H e7
              refine iR 2 36 [(122, (.bool j.2)), (123, (.bool j.2))] ?_
              refine In.guard (t := 123) (b := j.2) K (fun e8 => ?_) (fun e8 => ?_)
              ·have H := ct H e8
               refine iR 11 47 [(124, undef), (125, undef), (126, undef), (127, undef), (128, undef), (129, undef), (130, undef), (131, undef), (132, (.bool true)), (133, (.bool true)), (12, (.bool true))] ?_
               refine iF ?_
               exact ⟨true, ⟨K, trivial⟩, SP.sel p [] rfl rfl, H⟩
              ·have H := cf H e8
               refine iR 1 37 [(124, (pt a3 0))] ?_
               refine iS 38 ?_
               refine sL 3 124 a3 0 1 (.int .i64 f.1) 125 p rfl ?_
               refine iR 2 40 [(126, (.bool (f.1 == 5))), (127, (.bool (f.1 == 5)))] ?_
               refine In.guard (t := 127) (b := (f.1 == 5)) K (fun e9 => ?_) (fun e9 => ?_)
               ·have H := ct H e9
                refine iR 1 41 [(128, (pt a3 3))] ?_
                refine iS 42 ?_
                refine sL 2 128 a3 3 1 (.int .i64 f.2.2.2.1) 129 p rfl ?_
                refine iR 5 47 [(130, (.bool (decide (f.2.2.2.1 > 0)))), (131, (.bool (decide (f.2.2.2.1 > 0)))), (132, (.bool (decide (f.2.2.2.1 > 0)))), (133, (.bool (decide (f.2.2.2.1 > 0)))), (12, (.bool (decide (f.2.2.2.1 > 0))))] ?_
                refine iF ?_
                exact ⟨(decide (f.2.2.2.1 > 0)), ⟨K, trivial⟩, SP.sel p [] rfl rfl, H⟩
               ·have H := cf H e9
                refine iR 7 47 [(128, undef), (129, undef), (130, undef), (131, (.bool false)), (132, (.bool false)), (133, (.bool false)), (12, (.bool false))] ?_
                refine iF ?_
                exact ⟨false, ⟨K, trivial⟩, SP.sel p [] rfl rfl, H⟩
             ·have H := cf H e7
              refine iR 13 47 [(122, undef), (123, undef), (124, undef), (125, undef), (126, undef), (127, undef), (128, undef), (129, undef), (130, undef), (131, undef), (132, undef), (133, (.bool false)), (12, (.bool false))] ?_
              refine iF ?_
              exact ⟨false, ⟨K, trivial⟩, SP.sel p [] rfl rfl, H⟩
            ·have H := cf H e6
             refine iR 20 47 [(115, undef), (116, undef), (117, undef), (118, undef), (119, undef), (120, (.bool false)), (121, (.bool false)), (122, undef), (123, undef), (124, undef), (125, undef), (126, undef), (127, undef), (128, undef), (129, undef), (130, undef), (131, undef), (132, undef), (133, (.bool false)), (12, (.bool false))] ?_
             refine iF ?_
             exact ⟨false, ⟨K, trivial⟩, SP.sel p [] rfl rfl, H⟩
           ·have H := cf H e5
            refine iR 6 27 [(109, undef), (110, undef), (111, (.bool false)), (112, (.bool (j.2 == false))), (113, (.bool (j.2 == false))), (114, (.bool (j.2 == false)))] ?_
            refine In.guard (t := 114) (b := (j.2 == false)) K (fun f0 => ?_) (fun f0 => ?_)
            ·have H := ct H f0
             refine iR 1 28 [(115, (pt a3 0))] ?_
             refine iS 29 ?_
             refine sL 3 115 a3 0 1 (.int .i64 f.1) 116 p rfl ?_
             refine iR 5 34 [(117, (.bool (f.1 == 4))), (118, (.bool j.2)), (119, (.bool ((f.1 == 4) == j.2))), (120, (.bool ((f.1 == 4) == j.2))), (121, (.bool ((f.1 == 4) == j.2)))] ?_
             refine In.guard (t := 121) (b := ((f.1 == 4) == j.2)) K (fun f1 => ?_) (fun f1 => ?_)
             ·have H := ct H f1
              refine iR 2 36 [(122, (.bool j.2)), (123, (.bool j.2))] ?_
              refine In.guard (t := 123) (b := j.2) K (fun f2 => ?_) (fun f2 => ?_)
              ·have H := ct H f2
               refine iR 11 47 [(124, undef), (125, undef), (126, undef), (127, undef), (128, undef), (129, undef), (130, undef), (131, undef), (132, (.bool true)), (133, (.bool true)), (12, (.bool true))] ?_
               refine iF ?_
               exact ⟨true, ⟨K, trivial⟩, SP.sel p [] rfl rfl, H⟩
              ·have H := cf H f2
               refine iR 1 37 [(124, (pt a3 0))] ?_
               refine iS 38 ?_
               refine sL 3 124 a3 0 1 (.int .i64 f.1) 125 p rfl ?_
               refine iR 2 40 [(126, (.bool (f.1 == 5))), (127, (.bool (f.1 == 5)))] ?_
               refine In.guard (t := 127) (b := (f.1 == 5)) K (fun f3 => ?_) (fun f3 => ?_)
               ·have H := ct H f3
                refine iR 1 41 [(128, (pt a3 3))] ?_
                refine iS 42 ?_
                refine sL 2 128 a3 3 1 (.int .i64 f.2.2.2.1) 129 p rfl ?_
                refine iR 5 47 [(130, (.bool (decide (f.2.2.2.1 > 0)))), (131, (.bool (decide (f.2.2.2.1 > 0)))), (132, (.bool (decide (f.2.2.2.1 > 0)))), (133, (.bool (decide (f.2.2.2.1 > 0)))), (12, (.bool (decide (f.2.2.2.1 > 0))))] ?_
                refine iF ?_
                exact ⟨(decide (f.2.2.2.1 > 0)), ⟨K, trivial⟩, SP.sel p [] rfl rfl, H⟩
               ·have H := cf H f3
                refine iR 7 47 [(128, undef), (129, undef), (130, undef), (131, (.bool false)), (132, (.bool false)), (133, (.bool false)), (12, (.bool false))] ?_
                refine iF ?_
                exact ⟨false, ⟨K, trivial⟩, SP.sel p [] rfl rfl, H⟩
             ·have H := cf H f1
              refine iR 13 47 [(122, undef), (123, undef), (124, undef), (125, undef), (126, undef), (127, undef), (128, undef), (129, undef), (130, undef), (131, undef), (132, undef), (133, (.bool false)), (12, (.bool false))] ?_
              refine iF ?_
              exact ⟨false, ⟨K, trivial⟩, SP.sel p [] rfl rfl, H⟩
            ·have H := cf H f0
             refine iR 20 47 [(115, undef), (116, undef), (117, undef), (118, undef), (119, undef), (120, (.bool false)), (121, (.bool false)), (122, undef), (123, undef), (124, undef), (125, undef), (126, undef), (127, undef), (128, undef), (129, undef), (130, undef), (131, undef), (132, undef), (133, (.bool false)), (12, (.bool false))] ?_
             refine iF ?_
             exact ⟨false, ⟨K, trivial⟩, SP.sel p [] rfl rfl, H⟩
          ·have H := cf H e4
           refine iR 10 27 [(105, undef), (106, undef), (107, (.bool false)), (108, (.bool false)), (109, undef), (110, undef), (111, (.bool false)), (112, (.bool (j.2 == false))), (113, (.bool (j.2 == false))), (114, (.bool (j.2 == false)))] ?_
           refine In.guard (t := 114) (b := (j.2 == false)) K (fun f4 => ?_) (fun f4 => ?_)
           ·have H := ct H f4
            refine iR 1 28 [(115, (pt a3 0))] ?_
            refine iS 29 ?_
            refine sL 3 115 a3 0 1 (.int .i64 f.1) 116 p rfl ?_
            refine iR 5 34 [(117, (.bool (f.1 == 4))), (118, (.bool j.2)), (119, (.bool ((f.1 == 4) == j.2))), (120, (.bool ((f.1 == 4) == j.2))), (121, (.bool ((f.1 == 4) == j.2)))] ?_
            refine In.guard (t := 121) (b := ((f.1 == 4) == j.2)) K (fun f5 => ?_) (fun f5 => ?_)
            ·have H := ct H f5
             refine iR 2 36 [(122, (.bool j.2)), (123, (.bool j.2))] ?_
             refine In.guard (t := 123) (b := j.2) K (fun f6 => ?_) (fun f6 => ?_)
             ·have H := ct H f6
              refine iR 11 47 [(124, undef), (125, undef), (126, undef), (127, undef), (128, undef), (129, undef), (130, undef), (131, undef), (132, (.bool true)), (133, (.bool true)), (12, (.bool true))] ?_
              refine iF ?_
              exact ⟨true, ⟨K, trivial⟩, SP.sel p [] rfl rfl, H⟩
             ·have H := cf H f6
              refine iR 1 37 [(124, (pt a3 0))] ?_
              refine iS 38 ?_
              refine sL 3 124 a3 0 1 (.int .i64 f.1) 125 p rfl ?_
              refine iR 2 40 [(126, (.bool (f.1 == 5))), (127, (.bool (f.1 == 5)))] ?_
              refine In.guard (t := 127) (b := (f.1 == 5)) K (fun f7 => ?_) (fun f7 => ?_)
              ·have H := ct H f7
               refine iR 1 41 [(128, (pt a3 3))] ?_
               refine iS 42 ?_
               refine sL 2 128 a3 3 1 (.int .i64 f.2.2.2.1) 129 p rfl ?_
               refine iR 5 47 [(130, (.bool (decide (f.2.2.2.1 > 0)))), (131, (.bool (decide (f.2.2.2.1 > 0)))), (132, (.bool (decide (f.2.2.2.1 > 0)))), (133, (.bool (decide (f.2.2.2.1 > 0)))), (12, (.bool (decide (f.2.2.2.1 > 0))))] ?_
               refine iF ?_
               exact ⟨(decide (f.2.2.2.1 > 0)), ⟨K, trivial⟩, SP.sel p [] rfl rfl, H⟩
              ·have H := cf H f7
               refine iR 7 47 [(128, undef), (129, undef), (130, undef), (131, (.bool false)), (132, (.bool false)), (133, (.bool false)), (12, (.bool false))] ?_
               refine iF ?_
               exact ⟨false, ⟨K, trivial⟩, SP.sel p [] rfl rfl, H⟩
            ·have H := cf H f5
             refine iR 13 47 [(122, undef), (123, undef), (124, undef), (125, undef), (126, undef), (127, undef), (128, undef), (129, undef), (130, undef), (131, undef), (132, undef), (133, (.bool false)), (12, (.bool false))] ?_
             refine iF ?_
             exact ⟨false, ⟨K, trivial⟩, SP.sel p [] rfl rfl, H⟩
           ·have H := cf H f4
            refine iR 20 47 [(115, undef), (116, undef), (117, undef), (118, undef), (119, undef), (120, (.bool false)), (121, (.bool false)), (122, undef), (123, undef), (124, undef), (125, undef), (126, undef), (127, undef), (128, undef), (129, undef), (130, undef), (131, undef), (132, undef), (133, (.bool false)), (12, (.bool false))] ?_
            refine iF ?_
            exact ⟨false, ⟨K, trivial⟩, SP.sel p [] rfl rfl, H⟩
         ·have H := cf H e3
          refine iR 33 47 [(102, undef), (103, undef), (104, undef), (105, undef), (106, undef), (107, undef), (108, undef), (109, undef), (110, undef), (111, undef), (112, undef), (113, (.bool false)), (114, (.bool false)), (115, undef), (116, undef), (117, undef), (118, undef), (119, undef), (120, (.bool false)), (121, (.bool false)), (122, undef), (123, undef), (124, undef), (125, undef), (126, undef), (127, undef), (128, undef), (129, undef), (130, undef), (131, undef), (132, undef), (133, (.bool false)), (12, (.bool false))] ?_
          refine iF ?_
          exact ⟨false, ⟨K, trivial⟩, SP.sel p [] rfl rfl, H⟩
        ·have H := cf H e2
         refine iR 39 47 [(96, undef), (97, undef), (98, undef), (99, undef), (100, (.bool false)), (101, (.bool false)), (102, undef), (103, undef), (104, undef), (105, undef), (106, undef), (107, undef), (108, undef), (109, undef), (110, undef), (111, undef), (112, undef), (113, (.bool false)), (114, (.bool false)), (115, undef), (116, undef), (117, undef), (118, undef), (119, undef), (120, (.bool false)), (121, (.bool false)), (122, undef), (123, undef), (124, undef), (125, undef), (126, undef), (127, undef), (128, undef), (129, undef), (130, undef), (131, undef), (132, undef), (133, (.bool false)), (12, (.bool false))] ?_
         refine iF ?_
         exact ⟨false, ⟨K, trivial⟩, SP.sel p [] rfl rfl, H⟩
       ·have H := cf H e1
        refine iR 42 47 [(93, undef), (94, (.bool false)), (95, (.bool false)), (96, undef), (97, undef), (98, undef), (99, undef), (100, (.bool false)), (101, (.bool false)), (102, undef), (103, undef), (104, undef), (105, undef), (106, undef), (107, undef), (108, undef), (109, undef), (110, undef), (111, undef), (112, undef), (113, (.bool false)), (114, (.bool false)), (115, undef), (116, undef), (117, undef), (118, undef), (119, undef), (120, (.bool false)), (121, (.bool false)), (122, undef), (123, undef), (124, undef), (125, undef), (126, undef), (127, undef), (128, undef), (129, undef), (130, undef), (131, undef), (132, undef), (133, (.bool false)), (12, (.bool false))] ?_
        refine iF ?_
        exact ⟨false, ⟨K, trivial⟩, SP.sel p [] rfl rfl, H⟩
      ·have H := cf H e0
       refine iR 45 47 [(90, undef), (91, (.bool false)), (92, (.bool false)), (93, undef), (94, (.bool false)), (95, (.bool false)), (96, undef), (97, undef), (98, undef), (99, undef), (100, (.bool false)), (101, (.bool false)), (102, undef), (103, undef), (104, undef), (105, undef), (106, undef), (107, undef), (108, undef), (109, undef), (110, undef), (111, undef), (112, undef), (113, (.bool false)), (114, (.bool false)), (115, undef), (116, undef), (117, undef), (118, undef), (119, undef), (120, (.bool false)), (121, (.bool false)), (122, undef), (123, undef), (124, undef), (125, undef), (126, undef), (127, undef), (128, undef), (129, undef), (130, undef), (131, undef), (132, undef), (133, (.bool false)), (12, (.bool false))] ?_
       refine iF ?_
       exact ⟨false, ⟨K, trivial⟩, SP.sel p [] rfl rfl, H⟩
     ·rintro ρ l2 ⟨c3, hk, k7, H⟩
      unfold Qe at H
      first | refine At.known [(12, (.bool c3))] hk ?_ | rw [← Q9 (l := [(12, (.bool c3))]) hk]
      refine At.ret K ?_
      refine ⟨(.bool c3), K, ?_⟩
      obtain rfl := Qg H
      exact ⟨rfl, SP.sel k7 [] rfl rfl⟩
end Go.Proofs.YtmgfanhcdfobhaaGreatDoor
namespace Go.Proofs.YtmgfanhcdfobhaaGreatDoor
theorem Ce {l : List Qd} (hv : VC l) (w g i0 e : Int) (M : Yi) (t k n : Str) (now : Int) (rv gd : Bool) (hn : n.length ≤ 64) (hg : Ek l M t k now = (gd && !rv)) :
    Vr l n now rv true (Nz l t k n) gd (2, n, [], 0, 0, true, 2, t, k, n, false) w g i0 e M = some true := by
  unfold Vr Qe
  have hw := Fk (l := l) t k n
  rw [pHear hv _ _ _ _ _ _ _ _ _ _ _ _ _ _ _ _ _ (by omega) (by simp), Option.bind_some, Iy, who_p, Option.bind_some]
  have he := vCheck_e l M t k n (Nz l t k n) now
  rw [H8, hg, beq_self_eq_true]
  generalize hE : U4 l M t k n (Nz l t k n) now = E at he
  have h0 := H8 l M t k n (Nz l t k n) now
  rw [hE, hg, beq_self_eq_true] at h0
  cases gd <;> cases rv <;> cases hz : (Nz l t k n == []) <;> rw [hz] at h0 <;> simp at h0 ⊢ <;> omega
theorem Dm (w g i0 e : Int) (l : List Qd) (t k n : Str) (now : Int) (rv : Bool) (ht : t.length ≤ 140737488355328) (hl : l.length ≤ 140737488355328) (hq : ∀ t ∈ l, TenQ t) :
    Zz w g i0 e l t k n now rv = some true := by
  unfold Zz
  obtain ⟨c, hc, hc'⟩ := cfg_great w g i0 e l hl hq
  rw [shakeHead, Option.bind_some, pVNew w g i0 e l hl hq, Option.bind_some]
  cases hk : E7 w g i0 e l with
  | false => rfl
  | true =>
    rw [cond_true, optE_s, hc, Option.bind_some]
    have hup : Q5 l t k n now rv true (w, g, i0, e, []) true = some true := by unfold Q5; rw [cond_true]
    cases c with
    | true => rw [cond_true]; exact hup
    | false =>
      obtain ⟨s1, s2⟩ := hc' rfl
      have hv := vc_of hk (by omega) hq s2
      rw [cond_false]
      generalize decide (_ > (1000 : Int)) = z
      cases z with
      | true => rw [cond_true]; exact hup
      | false =>
        rw [cond_false]
        by_cases h1 : ((List.length n : Nat) : Int) > 64
        · rw [decide_eq_true h1]; exact hup
        · rw [decide_eq_false h1]
          unfold Q5
          rw [cond_false, show Ur (w, g, i0, e, ([] : Yi)).1 (w, g, i0, e, ([] : Yi)).2.1 (w, g, i0, e, ([] : Yi)).2.2.1 (w, g, i0, e, ([] : Yi)).2.2.2.1 l (w, g, i0, e, ([] : Yi)).2.2.2.2 = some (1, [], [], [], false) from rfl, Option.bind_some,
            pVWant hv, Option.bind_some, pVGood hv, Option.bind_some, pHear hv _ _ _ _ _ _ _ _ _ _ _ _ _ _ _ _ _ ht (by omega), Option.bind_some, Ix _ _ _ _ _ _ (by omega), pVRevoke hv _ _ _ _ _ _ _ (by rw [H6]; omega), Option.bind_some]
          cases rv with
          | false =>
            rw [cond_false]
            exact Ce hv w g i0 e [] t k n now false _ (by omega) (by simp)
          | true =>
            rw [cond_true]
            refine Ce hv w g i0 e _ t k n now true _ (by omega) ?_
            rw [Bool.not_true, Bool.and_false]
            unfold Ek
            cases hx : (Ch l t k).2.2.2 with
            | false => rfl
            | true =>
              rw [rev_get, if_pos ⟨hx, rfl⟩, H6]
              rfl
end Go.Proofs.YtmgfanhcdfobhaaGreatDoor
namespace Go.Proofs.YtmgfanhcdfobhaaGreatDoor
open Go.RowKit Go.ChangeShapes Go.WideShapes Go.Deep
theorem own : ownKnob Tryz.prog.godebug = none := by kernel_rfl
theorem D4 : laidOutB Tryz.prog = true := by kernel_rfl
section
variable {H : Type} {enc : TypeId × Value → H} {W : World} {spare : Nat → Bool} {held : Bool} {base b0 : Nat} {r : Reach}
end
end Go.Proofs.YtmgfanhcdfobhaaGreatDoor
