import Derived.Test.YtmgfanhcdfobhaaGreatDoorPkVaultRevokes4
set_option linter.unusedSimpArgs false
set_option linter.unusedVariables false
set_option linter.unusedSectionVars false
namespace Go.Proofs.YtmgfanhcdfobhaaGreatDoor
open Go.RowKit
def Jb (a : Int) (b : Int) (c : Int) (d : Int) (e : (List Qk)) : Option (Option (Int × Int × Int × Int × Jr)) :=
  ((Up a b c d e).bind fun f => (cond (!f) (some none) (some (some (a, b, c, d, ([] : Jr))))))
set_option maxRecDepth 100000 in
set_option maxHeartbeats 4000000 in
theorem Yd (A6 : Option Addr) (c7 : Nat) (a : Int) (c : Int) (f : Int) (g : Int) (d9 : (List Vo)) (w0 : World) (hL : Bd w0) (y : (dDS Ux Cv).ok w0 (A6, c7, d9)) (r : (Option (Int × Int × Int × Int × Jr))) (H : Jb a c f g (List.map stT d9) = some r) :
  Calls Tryz.prog 18 #[(.agg #[(.int .i64 a), (.int .i64 c), (.int .i64 f), (.int .i64 g), (.slice A6 (List.length (List.map stT d9)) c7)])] w0 (fun e w' => match r with | none => e = .returned (.pointer none) ∧ SP [] w0 w' [] | some o => ∃ (q : Nat) (s : Nat), e = .returned (pt q 0) ∧ SP [] w0 w' [Q6 q 79 #[(.int .i64 o.1), (.int .i64 o.2.1), (.int .i64 o.2.2.1), (.int .i64 o.2.2.2.1), (.slice A6 (List.length (List.map stT d9)) c7), (.map (some s))], Zv s o.2.2.2.2]) := by
 unfold Jb at H
 refine Qv (n := 10) Tryz.func18 K K K ?_
 have z := Q1 [] w0
 refine aQ ?_
 refine aR ?_
 refine iS 1 ?_
 refine V5 (t := 24) (x := (.tmp 0)) (v := (.agg #[(.int .i64 a), (.int .i64 c), (.int .i64 f), (.int .i64 g), (.slice A6 (List.length (List.map stT d9)) c7)])) (d := (some 1)) (k := 0) K rfl K z ?_
 intro u w32 h
 refine iR 1 2 [(2, (.pointer none))] ?_
 refine iF ?_
 refine aQ ?_
 refine aQ ?_
 refine aR ?_
 refine iS 1 ?_
 refine sL 24 1 u 0 0 (.agg #[(.int .i64 a), (.int .i64 c), (.int .i64 f), (.int .i64 g), (.slice A6 (List.length (List.map stT d9)) c7)]) 3 h rfl ?_
 obtain ⟨i, a0, H⟩ := Qf H
 refine iS 2 ?_
 refine cF 43 #[(.tmp 3)] #[24] 4 Tryz.call43 (D1 A6 c7 a c f g d9 w32 (Zw hL (SP.keeps h)) (Dp.sp y h) i a0) ?_
 rintro e a3 ⟨rfl, w⟩
 refine ⟨_, rfl, ?_⟩
 have j := SP.call h w
 clear w
 refine iR 1 3 [(5, (.bool (!i)))] ?_
 refine iF ?_
 refine Zi K (o := (.tmp 5)) K (b := (!i)) K (fun l => ?_) (fun l => ?_)
 ·have H := ct H l
  refine aQ ?_
  refine aR ?_
  refine iR 1 1 [(2, (.pointer none))] ?_
  refine iF ?_
  refine At.ret K ?_
  refine ⟨(.pointer none), K, ?_⟩
  obtain rfl := Qm H
  exact ⟨rfl, SP.sel j [] rfl rfl⟩
 ·have H := cf H l
  refine At.skip K ?_
  refine aQ ?_
  refine aR ?_
  refine iS 1 ?_
  refine sL 24 1 u 0 0 (.agg #[(.int .i64 a), (.int .i64 c), (.int .i64 f), (.int .i64 g), (.slice A6 (List.length (List.map stT d9)) c7)]) 6 j rfl ?_
  refine iS 2 ?_
  refine F8 (T := 77) (dst := (some 7)) (o := 1) K rfl j ?_
  intro m a4 a1
  refine iR 1 3 [(8, (.agg #[(.int .i64 a), (.int .i64 c), (.int .i64 f), (.int .i64 g), (.slice A6 (List.length (List.map stT d9)) c7), (.map (some m))]))] ?_
  refine iS 4 ?_
  refine V5 (t := 79) (x := (.tmp 8)) (v := (.agg #[(.int .i64 a), (.int .i64 c), (.int .i64 f), (.int .i64 g), (.slice A6 (List.length (List.map stT d9)) c7), (.map (some m))])) (d := (some 9)) (k := 3) K rfl K a1 ?_
  intro p a5 a2
  refine iR 1 5 [(2, (pt p 0))] ?_
  refine iF ?_
  refine At.ret K ?_
  refine ⟨(pt p 0), K, ?_⟩
  obtain rfl := Qm H
  exact ⟨p, m, rfl, SP.sel a2 [2,1] rfl rfl⟩
def Ya (f : (List UInt8)) (g : (List UInt8)) (h : Int) (q5 : (List UInt8)) (q7 : (List UInt8)) (q9 : Int) (c : Int) (d : Int) (e : Int) (i : (List Qk)) (a : Jr) (j : Bool) : Option (Int × Int × Int × Int × Jr × Bool) :=
  ((chk (Nat.ble (List.length q5) 140737488355328 && Nat.ble (List.length q7) 140737488355328)).bind fun _ => ((chk (Nat.ble (List.length q5) 140737488355328 && Nat.ble (List.length q7) 140737488355328)).bind fun _ => ((some (Hn a (q5, q7) (IntKind.wrap .i64 ((U7 a (q5, q7)) + 1)))).bind fun b => ((chk (Nat.ble (List.length q5) 140737488355328 && Nat.ble (List.length q7) 140737488355328)).bind fun _ => (some (q9, c, d, e, b, ((U7 b (q5, q7)) == 1)))))))
set_option maxRecDepth 100000 in
set_option maxHeartbeats 4000000 in
theorem Gm {S : List Nat} (g4 : Nat) (g6 : Nat) (g8 : Nat) (u : Option Addr) (a0 : Nat) (a : Nat) (f : Nat) (j : Nat) (a1 : (List UInt8)) (a2 : (List UInt8)) (a3 : Int) (q5 : (List UInt8)) (q7 : (List UInt8)) (q9 : Int) (a4 : Int) (a5 : Int) (a6 : Int) (q : (List Vo)) (c : Jr) (a8 : Bool) (w0 : World) (hO : SP S w0 w0 [Q6 g4 9 #[(.string ⟨List.toArray q5⟩)], Q6 g6 9 #[(.string ⟨List.toArray q7⟩)], Q6 g8 79 #[(.int .i64 q9), (.int .i64 a4), (.int .i64 a5), (.int .i64 a6), (.slice u (List.length (List.map stT q)) a0), (.map (some a))], Zv a c, Q6 f 29 #[(pt g8 0)], Q6 j 4 #[(.bool a8)]]) (e4 : ∀ w, Mod S w0 w → (dDS Ux Cv).ok w (u, a0, q)) (r : (Int × Int × Int × Int × Jr × Bool)) (H : Ya a1 a2 a3 q5 q7 q9 a4 a5 a6 (List.map stT q) c a8 = some r) :
  Calls Tryz.prog 46 #[(.agg #[(.string ⟨List.toArray a1⟩), (.string ⟨List.toArray a2⟩), (.int .i64 a3)]), (pt g4 0), (pt g6 0), (pt f 0), (pt j 0)] w0 (fun e w' => e = .returned (.tuple #[]) ∧ SP S w0 w' [Q6 g4 9 #[(.string ⟨List.toArray q5⟩)], Q6 g6 9 #[(.string ⟨List.toArray q7⟩)], Q6 g8 79 #[(.int .i64 r.1), (.int .i64 r.2.1), (.int .i64 r.2.2.1), (.int .i64 r.2.2.2.1), (.slice u (List.length (List.map stT q)) a0), (.map (some a))], Zv a r.2.2.2.2.1, Q6 f 29 #[(pt g8 0)], Q6 j 4 #[(.bool r.2.2.2.2.2)]]) := by
 unfold Ya at H
 refine Qv (n := 26) Tryz.func46 K K K ?_
 have c0 := hO
 refine aQ ?_
 refine aR ?_
 refine iS 1 ?_
 refine V5 (t := 48) (x := (.tmp 0)) (v := (.agg #[(.string ⟨List.toArray a1⟩), (.string ⟨List.toArray a2⟩), (.int .i64 a3)])) (d := (some 5)) (k := 0) K rfl K c0 ?_
 intro b0 e5 b3
 refine iF ?_
 refine aQ ?_
 refine aR ?_
 refine iS 1 ?_
 refine sL 9 1 g4 0 0 (.string ⟨List.toArray q5⟩) 7 b3 rfl ?_
 refine iS 2 ?_
 refine sL 9 2 g6 0 1 (.string ⟨List.toArray q7⟩) 8 b3 rfl ?_
 refine iR 1 3 [(9, (.agg (Qb Qy ([q5, q7] : List (List UInt8))).toArray))] ?_
 refine iS 4 ?_
 refine Qz (e := Qy) (l := (List.replicate 2 ([] : List UInt8))) (m := 2) (t := 83) (z := .agg (Qb Qy (List.replicate 2 ([] : List UInt8))).toArray) (d := (some 6)) (k := 3) K rfl K rfl rfl K b3 ?_
 intro p e6 c1
 refine iS 5 ?_
 refine Q8 (e := Qy) (l := (List.replicate 2 ([] : List UInt8))) (l' := ([q5, q7] : List (List UInt8))) (m := 2) (t := 83) (x := (.tmp 6)) (y := (.tmp 9)) (g := p) (i := 7) (d := none) (k := 4) K rfl K K rfl c1 rfl K ?_
 intro e7 c2
 refine iF ?_
 refine aQ ?_
 obtain ⟨b1, H⟩ := Vv H
 obtain ⟨b2, H⟩ := Vv H
 obtain ⟨s, hyl137, H⟩ := Vz H
 refine aG [GEq (pt g8 0), GEq (pt g8 0), GEq (pt g8 5), GEq (.map (some a)), GEq (.agg (Qb Qy ([q5, q7] : List (List UInt8))).toArray), GEq (.int .i64 (U7 c (q5, q7))), GEq (.int .i64 (IntKind.wrap .i64 ((U7 c (q5, q7)) + 1))), Bq, Bq, Bq] [7, 8, 9] [([], fun vs w => VL vs [] ∧ SP S w0 w [Q6 g4 9 #[(.string ⟨List.toArray q5⟩)], Q6 g6 9 #[(.string ⟨List.toArray q7⟩)], Q6 g8 79 #[(.int .i64 q9), (.int .i64 a4), (.int .i64 a5), (.int .i64 a6), (.slice u (List.length (List.map stT q)) a0), (.map (some a))], Zv a c, Q6 f 29 #[(pt g8 0)], Q6 j 4 #[(.bool a8)], Q6 b0 48 #[(.string ⟨List.toArray a1⟩), (.string ⟨List.toArray a2⟩), (.int .i64 a3)], Vc 83 Qy p 2 ([q5, q7] : List (List UInt8))]), ([7], fun vs w => ∃ (a9 : Nat), VL vs [(.tuple #[(.int .i64 (U7 c (q5, q7))), (.int .i64 ((a9 : Nat) : Int))])] ∧ SP S w0 w [Q6 g4 9 #[(.string ⟨List.toArray q5⟩)], Q6 g6 9 #[(.string ⟨List.toArray q7⟩)], Q6 g8 79 #[(.int .i64 q9), (.int .i64 a4), (.int .i64 a5), (.int .i64 a6), (.slice u (List.length (List.map stT q)) a0), (.map (some a))], F4 a c (q5, q7) a9, Q6 f 29 #[(pt g8 0)], Q6 j 4 #[(.bool a8)], Q6 b0 48 #[(.string ⟨List.toArray a1⟩), (.string ⟨List.toArray a2⟩), (.int .i64 a3)], Vc 83 Qy p 2 ([q5, q7] : List (List UInt8))]), ([7, 8], fun vs w => ∃ (a7 : Nat), VL vs [(.tuple #[(.int .i64 (U7 c (q5, q7))), (.int .i64 ((a7 : Nat) : Int))]), (.int .i64 ((a7 : Nat) : Int))] ∧ SP S w0 w [Q6 g4 9 #[(.string ⟨List.toArray q5⟩)], Q6 g6 9 #[(.string ⟨List.toArray q7⟩)], Q6 g8 79 #[(.int .i64 q9), (.int .i64 a4), (.int .i64 a5), (.int .i64 a6), (.slice u (List.length (List.map stT q)) a0), (.map (some a))], F4 a c (q5, q7) a7, Q6 f 29 #[(pt g8 0)], Q6 j 4 #[(.bool a8)], Q6 b0 48 #[(.string ⟨List.toArray a1⟩), (.string ⟨List.toArray a2⟩), (.int .i64 a3)], Vc 83 Qy p 2 ([q5, q7] : List (List UInt8))]), ([7, 8, 9], fun vs w => ∃ (b4 : Nat), VL vs [(.tuple #[(.int .i64 (U7 c (q5, q7))), (.int .i64 ((b4 : Nat) : Int))]), (.int .i64 ((b4 : Nat) : Int)), undef] ∧ SP S w0 w [Q6 g4 9 #[(.string ⟨List.toArray q5⟩)], Q6 g6 9 #[(.string ⟨List.toArray q7⟩)], Q6 g8 79 #[(.int .i64 q9), (.int .i64 a4), (.int .i64 a5), (.int .i64 a6), (.slice u (List.length (List.map stT q)) a0), (.map (some a))], Zv a s, Q6 f 29 #[(pt g8 0)], Q6 j 4 #[(.bool a8)], Q6 b0 48 #[(.string ⟨List.toArray a1⟩), (.string ⟨List.toArray a2⟩), (.int .i64 a3)], Vc 83 Qy p 2 ([q5, q7] : List (List UInt8))])] 10 3 ⟨trivial, SP.drew c2⟩ ?_ ?_
 iterate 10 refine And.intro ?_ ?_
 exact trivial
 ·refine oL 0 ?_
  ·rintro ρ' w' hs hah ⟨e8, c3⟩
   refine kM (kc (kS hs 3 (pt f 0)) k0) fun hkn => ?_
   refine sL 29 3 f 0 4 (pt g8 0) 10 c3 rfl ?_
   exact eK hkn
 ·exact oV (hC (hA 0 10) (h0)) (pt g8 0)
 ·exact oV (hC (hA 1 11) (h0)) (pt g8 5)
 ·refine oL 0 ?_
  ·rintro ρ' w' hs hah ⟨e9, c4⟩
   refine kM (kc (kA hah 2 12) k0) fun hkn => ?_
   refine sL 77 12 g8 5 2 (.map (some a)) 13 c4 rfl ?_
   exact eK hkn
 ·refine oL 0 ?_
  ·rintro ρ' w' hs hah ⟨f0, c5⟩
   refine kM (kc (kS hs 6 (pt p 0)) k0) fun hkn => ?_
   refine V3 (e := Qy) (l := ([q5, q7] : List (List UInt8))) (m := 2) (t := 83) (x := (.tmp 6)) (g := p) (i := 7) (d := (some 14)) (k := 4) K rfl K c5 rfl K K ?_
   exact eK hkn
 ·refine Owe.light K [0, 1, 2] K (Qd ?_ (Qd ?_ (Qd ?_ Q4)))
  ·rintro ρ' w' hs hah ⟨f1, c6⟩
   refine kM (kc (kA hah 3 13) (kc (kA hah 4 14) k0)) fun hkn => ?_
   refine Do (T := 77) (kt := 83) (et := 3) (m := a) (L := c) (k := (q5, q7)) (x := (.tmp 13)) (ix := (.tmp 14)) (dst := (some 15)) (o := 5) K rfl K K K Rr (fun _ => rfl) (SP.get c6 (i := 3) rfl) (Fk b1).1 (Fk b1).2 ?_
   exact eK hkn
  ·rintro ρ' w' hs hah ⟨a9, ⟨f2, -⟩, c7⟩
   refine kM (kc (kA hah 3 13) (kc (kA hah 4 14) k0)) fun hkn => ?_
   refine Cr (T := 77) (kt := 83) (et := 3) (m := a) (L := c) (k := (q5, q7)) (x := (.tmp 13)) (ix := (.tmp 14)) (dst := (some 15)) (o := 5) K rfl K K K Rr (fun _ => rfl) (SP.get c7 (i := 3) rfl) (Fk b1).1 (Fk b1).2 ?_
   exact eK hkn
  ·rintro ρ' w' hs hah ⟨a7, ⟨f3, f4, -⟩, c8⟩
   refine kM (kc (kA hah 3 13) (kc (kA hah 4 14) k0)) fun hkn => ?_
   refine Cr (T := 77) (kt := 83) (et := 3) (m := a) (L := c) (k := (q5, q7)) (x := (.tmp 13)) (ix := (.tmp 14)) (dst := (some 15)) (o := 5) K rfl K K K Rr (fun _ => rfl) (SP.get c8 (i := 3) rfl) (Fk b1).1 (Fk b1).2 ?_
   exact eK hkn
 ·exact oV (hC (hA 5 15) (h0)) (.int .i64 (IntKind.wrap .i64 ((U7 c (q5, q7)) + 1)))
 ·refine oH 0 1 ?_
  ·rintro ρ' w' hs hah ⟨f5, c9⟩
   refine kM (kc (kA hah 3 13) (kc (kA hah 4 14) k0)) fun hkn => ?_
   refine Fg (T := 77) (kt := 83) (et := 3) (m := a) (L := c) (k := (q5, q7)) (x := (.tmp 13)) (ix := (.tmp 14)) (dst := (some 17)) (o := 7) (i := 3) K rfl K K K Rr (fun _ => rfl) c9 rfl (Fk b2).1 (Fk b2).2 ?_
   intro d0 f6 d1
   refine ⟨_, Qa hkn, trivial, ?_⟩
   exact (Exists.intro d0 (And.intro (And.intro rfl (trivial)) (d1)))
 ·refine oH 1 2 ?_
  ·rintro ρ' w' hs hah ⟨a9, ⟨b5, -⟩, d2⟩
   refine kN [(17, (.tuple #[(.int .i64 (U7 c (q5, q7))), (.int .i64 ((a9 : Nat) : Int))]))] ⟨(Xk (h := 7) K).symm.trans b5, trivial⟩ fun hkn => ?_
   refine Qj.run (k := 8) (v := (.int .i64 ((a9 : Nat) : Int))) K ?_
   refine ⟨_, Qa hkn, trivial, ?_⟩
   exact (Exists.intro a9 (And.intro (And.intro b5 (And.intro rfl (trivial))) (d2)))
 ·refine oH 2 3 ?_
  ·rintro ρ' w' hs hah ⟨a7, ⟨d3, b6, -⟩, d4⟩
   refine kN [(13, (.map (some a))), (18, (.int .i64 ((a7 : Nat) : Int))), (16, (.int .i64 (IntKind.wrap .i64 ((U7 c (q5, q7)) + 1))))] ⟨hah 3 13 K, (Xk (h := 8) K).symm.trans b6, hah 6 16 K, trivial⟩ fun hkn => ?_
   refine Fh (T := 77) (m := a) (L := c) (k := (q5, q7)) (x := (.tmp 13)) (ix := (.tmp 18)) (y := (.tmp 16)) (i := 3) (b := a7) (v := (IntKind.wrap .i64 ((U7 c (q5, q7)) + 1))) (dst := none) (o := 9) K rfl K K K d4 rfl (Fk b2).1 (Fk b2).2 ?_
   rw [hyl137]
   intro f7 d5
   refine ⟨_, Qa hkn, trivial, ?_⟩
   exact (Exists.intro a7 (And.intro (And.intro d3 (And.intro b6 (And.intro rfl (trivial)))) (d5)))
 ·rintro ρ' w' hs hf ⟨b4, ⟨f8, f9, g0, -⟩, b7⟩
  refine Vh [(3, (pt f 0)), (4, (pt j 0)), (6, (pt p 0))] ⟨(hs 3 K).trans K, (hs 4 K).trans K, (hs 6 K).trans K, trivial⟩ ?_
  obtain ⟨g1, d6⟩ : ∃ x, w' = x := ⟨_, rfl⟩
  rw [d6] at b7 ⊢
  obtain ⟨b8, H⟩ := Vv H
  refine aG [GEq (pt g8 0), GEq (pt g8 0), GEq (pt g8 5), GEq (.map (some a)), GEq (.agg (Qb Qy ([q5, q7] : List (List UInt8))).toArray), GEq (.int .i64 (U7 s (q5, q7))), GEq (.bool ((U7 s (q5, q7)) == 1)), Bq] [7] [sG [] [] S w0 [Q6 g4 9 #[(.string ⟨List.toArray q5⟩)], Q6 g6 9 #[(.string ⟨List.toArray q7⟩)], Q6 g8 79 #[(.int .i64 q9), (.int .i64 a4), (.int .i64 a5), (.int .i64 a6), (.slice u (List.length (List.map stT q)) a0), (.map (some a))], Zv a s, Q6 f 29 #[(pt g8 0)], Q6 j 4 #[(.bool a8)], Q6 b0 48 #[(.string ⟨List.toArray a1⟩), (.string ⟨List.toArray a2⟩), (.int .i64 a3)], Vc 83 Qy p 2 ([q5, q7] : List (List UInt8))], sG [7] [undef] S w0 [Q6 g4 9 #[(.string ⟨List.toArray q5⟩)], Q6 g6 9 #[(.string ⟨List.toArray q7⟩)], Q6 g8 79 #[(.int .i64 q9), (.int .i64 a4), (.int .i64 a5), (.int .i64 a6), (.slice u (List.length (List.map stT q)) a0), (.map (some a))], Zv a s, Q6 f 29 #[(pt g8 0)], Q6 j 4 #[(.bool ((U7 s (q5, q7)) == 1))], Q6 b0 48 #[(.string ⟨List.toArray a1⟩), (.string ⟨List.toArray a2⟩), (.int .i64 a3)], Vc 83 Qy p 2 ([q5, q7] : List (List UInt8))]] 8 1 ⟨trivial, SP.drew b7⟩ ?_ ?_
  iterate 8 refine And.intro ?_ ?_
  exact trivial
  ·refine oL 0 ?_
   ·rintro ρ' w' hs hah ⟨g2, d7⟩
    refine kM (kc (kS hs 3 (pt f 0)) k0) fun hkn => ?_
    refine sL 29 3 f 0 4 (pt g8 0) 19 d7 rfl ?_
    exact eK hkn
  ·exact oV (hC (hA 0 19) (h0)) (pt g8 0)
  ·exact oV (hC (hA 1 20) (h0)) (pt g8 5)
  ·refine oL 0 ?_
   ·rintro ρ' w' hs hah ⟨g3, d8⟩
    refine kM (kc (kA hah 2 21) k0) fun hkn => ?_
    refine sL 77 21 g8 5 2 (.map (some a)) 22 d8 rfl ?_
    exact eK hkn
  ·refine oL 0 ?_
   ·rintro ρ' w' hs hah ⟨g5, d9⟩
    refine kM (kc (kS hs 6 (pt p 0)) k0) fun hkn => ?_
    refine V3 (e := Qy) (l := ([q5, q7] : List (List UInt8))) (m := 2) (t := 83) (x := (.tmp 6)) (g := p) (i := 7) (d := (some 23)) (k := 4) K rfl K d9 rfl K K ?_
    exact eK hkn
  ·refine oL 0 ?_
   ·rintro ρ' w' hs hah ⟨g7, e0⟩
    refine kM (kc (kA hah 3 22) (kc (kA hah 4 23) k0)) fun hkn => ?_
    refine Do (T := 77) (kt := 83) (et := 3) (m := a) (L := s) (k := (q5, q7)) (x := (.tmp 22)) (ix := (.tmp 23)) (dst := (some 24)) (o := 5) K rfl K K K Rr (fun _ => rfl) (SP.get e0 (i := 3) rfl) (Fk b8).1 (Fk b8).2 ?_
    exact eK hkn
  ·exact oV (hC (hA 5 24) (h0)) (.bool ((U7 s (q5, q7)) == 1))
  ·refine oH 0 1 ?_
   ·rintro ρ' w' hs hah ⟨g9, e1⟩
    refine kM (kc (kS hs 4 (pt j 0)) (kc (kA hah 6 25) k0)) fun hkn => ?_
    refine Qj.store (t := 4) (x := (.tmp 4)) (y := (.tmp 25)) (g := j) (off := 0) (i := 5) (v := (.bool ((U7 s (q5, q7)) == 1))) (cs' := #[(.bool ((U7 s (q5, q7)) == 1))]) (d := none) (k := 7) K rfl K K e1 rfl K ?_
    intro h1 e2
    refine ⟨_, Qa hkn, trivial, ?_⟩
    exact (And.intro (And.intro rfl (trivial)) (e2))
  ·rintro ρ' w' hs hf ⟨⟨h2, -⟩, b9⟩
   refine Vh [] trivial ?_
   obtain ⟨h3, e3⟩ : ∃ x, w' = x := ⟨_, rfl⟩
   rw [e3] at b9 ⊢
   refine ⟨(.tuple #[]), K, ?_⟩
   obtain rfl := Qm H
   exact ⟨rfl, SP.sel b9 [0,1,2,3,4,5] rfl rfl⟩
def X0 (a : Bool) : Option (Bool) :=
  (some (a))
def Ud (f : (List UInt8)) (g : (List UInt8)) (c : Int) (q5 : Int) (q6 : Int) (q7 : Int) (q8 : Int) (q9 : (List Qk)) (d : Jr) (a : (List UInt8)) (b : (List UInt8)) (e : Int) (h : Bool) : Option (Bool) :=
  ((chk (Nat.ble (List.length a) 140737488355328 && Nat.ble (List.length b) 140737488355328)).bind fun _ => (cond ((U7 d (a, b)) == 0) (X0 (decide (e < c))) (X0 false)))
set_option maxRecDepth 100000 in
set_option maxHeartbeats 4000000 in
theorem Gy {S : List Nat} (g4 : Nat) (a3 : Option Addr) (a4 : Nat) (f : Nat) (q : Nat) (s : Nat) (u : Nat) (a0 : Nat) (z : Nat) (a5 : (List UInt8)) (a6 : (List UInt8)) (j : Int) (q5 : Int) (q6 : Int) (q7 : Int) (q8 : Int) (a1 : (List Vo)) (c : Jr) (a : (List UInt8)) (b : (List UInt8)) (h : Int) (a7 : Bool) (w0 : World) (hO : SP S w0 w0 [Q6 g4 79 #[(.int .i64 q5), (.int .i64 q6), (.int .i64 q7), (.int .i64 q8), (.slice a3 (List.length (List.map stT a1)) a4), (.map (some f))], Zv f c, Q6 q 29 #[(pt g4 0)], Q6 s 9 #[(.string ⟨List.toArray a⟩)], Q6 u 9 #[(.string ⟨List.toArray b⟩)], Q6 a0 2 #[(.int .i64 h)], Q6 z 4 #[(.bool a7)]]) (d5 : ∀ w, Mod S w0 w → (dDS Ux Cv).ok w (a3, a4, a1)) (r : (Bool)) (H : Ud a5 a6 j q5 q6 q7 q8 (List.map stT a1) c a b h a7 = some r) :
  Calls Tryz.prog 49 #[(.agg #[(.string ⟨List.toArray a5⟩), (.string ⟨List.toArray a6⟩), (.int .i64 j)]), (pt q 0), (pt s 0), (pt u 0), (pt a0 0), (pt z 0)] w0 (fun e w' => e = .returned (.tuple #[]) ∧ SP S w0 w' [Q6 g4 79 #[(.int .i64 q5), (.int .i64 q6), (.int .i64 q7), (.int .i64 q8), (.slice a3 (List.length (List.map stT a1)) a4), (.map (some f))], Zv f c, Q6 q 29 #[(pt g4 0)], Q6 s 9 #[(.string ⟨List.toArray a⟩)], Q6 u 9 #[(.string ⟨List.toArray b⟩)], Q6 a0 2 #[(.int .i64 h)], Q6 z 4 #[(.bool r)]]) := by
 unfold Ud at H
 refine Qv (n := 22) Tryz.func49 K K K ?_
 have b4 := hO
 refine aQ ?_
 refine aR ?_
 refine iS 1 ?_
 refine V5 (t := 48) (x := (.tmp 0)) (v := (.agg #[(.string ⟨List.toArray a5⟩), (.string ⟨List.toArray a6⟩), (.int .i64 j)])) (d := (some 6)) (k := 0) K rfl K b4 ?_
 intro a2 d6 b1
 refine iF ?_
 refine At.join (fun ρ w => ∃ (a9 : Bool), V8 ρ [] ∧ SP S w0 w [Q6 g4 79 #[(.int .i64 q5), (.int .i64 q6), (.int .i64 q7), (.int .i64 q8), (.slice a3 (List.length (List.map stT a1)) a4), (.map (some f))], Zv f c, Q6 q 29 #[(pt g4 0)], Q6 s 9 #[(.string ⟨List.toArray a⟩)], Q6 u 9 #[(.string ⟨List.toArray b⟩)], Q6 a0 2 #[(.int .i64 h)], Q6 z 4 #[(.bool a9)]] ∧ X0 a9 = some r) ?_ ?_
 ·obtain ⟨a8, H⟩ := Vv H
  rcases Bool.eq_false_or_eq_true ((U7 c (a, b)) == 0) with p | p
  ·have H := ct H p
   refine aG [GEq (pt g4 0), GEq (pt g4 0), GEq (pt g4 5), GEq (.map (some f)), GEq (.string ⟨List.toArray a⟩), GEq (.string ⟨List.toArray b⟩), GEq (.agg (Qb Qy ([a, b] : List (List UInt8))).toArray), GEq (.int .i64 (U7 c (a, b))), GEq (.bool ((U7 c (a, b)) == 0)), GEq (.bool ((U7 c (a, b)) == 0)), GEq (.int .i64 h), GEq (pt a2 2), GEq (.int .i64 j), GEq (.bool (decide (h < j))), GEq (.bool (decide (h < j))), Bq] [15] [sG [] [] S w0 [Q6 g4 79 #[(.int .i64 q5), (.int .i64 q6), (.int .i64 q7), (.int .i64 q8), (.slice a3 (List.length (List.map stT a1)) a4), (.map (some f))], Zv f c, Q6 q 29 #[(pt g4 0)], Q6 s 9 #[(.string ⟨List.toArray a⟩)], Q6 u 9 #[(.string ⟨List.toArray b⟩)], Q6 a0 2 #[(.int .i64 h)], Q6 z 4 #[(.bool a7)], Q6 a2 48 #[(.string ⟨List.toArray a5⟩), (.string ⟨List.toArray a6⟩), (.int .i64 j)]], sG [15] [undef] S w0 [Q6 g4 79 #[(.int .i64 q5), (.int .i64 q6), (.int .i64 q7), (.int .i64 q8), (.slice a3 (List.length (List.map stT a1)) a4), (.map (some f))], Zv f c, Q6 q 29 #[(pt g4 0)], Q6 s 9 #[(.string ⟨List.toArray a⟩)], Q6 u 9 #[(.string ⟨List.toArray b⟩)], Q6 a0 2 #[(.int .i64 h)], Q6 z 4 #[(.bool (decide (h < j)))], Q6 a2 48 #[(.string ⟨List.toArray a5⟩), (.string ⟨List.toArray a6⟩), (.int .i64 j)]]] 16 1 ⟨trivial, SP.drew b1⟩ ?_ ?_
   iterate 16 refine And.intro ?_ ?_
   exact trivial
   ·refine oL 0 ?_
    ·rintro ρ' w' hs hah ⟨d7, b5⟩
     refine kM (kc (kS hs 1 (pt q 0)) k0) fun hkn => ?_
     refine sL 29 1 q 0 2 (pt g4 0) 7 b5 rfl ?_
     exact eK hkn
   ·exact oV (hC (hA 0 7) (h0)) (pt g4 0)
   ·exact oV (hC (hA 1 8) (h0)) (pt g4 5)
   ·refine oL 0 ?_
    ·rintro ρ' w' hs hah ⟨d8, b6⟩
     refine kM (kc (kA hah 2 9) k0) fun hkn => ?_
     refine sL 77 9 g4 5 0 (.map (some f)) 10 b6 rfl ?_
     exact eK hkn
   ·refine oL 0 ?_
    ·rintro ρ' w' hs hah ⟨d9, b7⟩
     refine kM (kc (kS hs 2 (pt s 0)) k0) fun hkn => ?_
     refine sL 9 2 s 0 3 (.string ⟨List.toArray a⟩) 11 b7 rfl ?_
     exact eK hkn
   ·refine oL 0 ?_
    ·rintro ρ' w' hs hah ⟨e0, b8⟩
     refine kM (kc (kS hs 3 (pt u 0)) k0) fun hkn => ?_
     refine sL 9 3 u 0 4 (.string ⟨List.toArray b⟩) 12 b8 rfl ?_
     exact eK hkn
   ·exact oV (hC (hA 4 11) (hC (hA 5 12) (h0))) (.agg (Qb Qy ([a, b] : List (List UInt8))).toArray)
   ·refine oL 0 ?_
    ·rintro ρ' w' hs hah ⟨e1, b9⟩
     refine kM (kc (kA hah 3 10) (kc (kA hah 6 13) k0)) fun hkn => ?_
     refine Do (T := 77) (kt := 83) (et := 3) (m := f) (L := c) (k := (a, b)) (x := (.tmp 10)) (ix := (.tmp 13)) (dst := (some 14)) (o := 7) K rfl K K K Rr (fun _ => rfl) (SP.get b9 (i := 1) rfl) (Fk a8).1 (Fk a8).2 ?_
     exact eK hkn
   ·exact oV (hC (hA 7 14) (h0)) (.bool ((U7 c (a, b)) == 0))
   ·exact oV (hC (hA 8 15) (h0)) (.bool ((U7 c (a, b)) == 0))
   ·refine oL 0 ?_
    ·rintro ρ' w' hs hah ⟨e2, c0⟩
     have e4 : ρ' 4 = (pt a0 0) := (hs 4 K).trans K
     have b0 := hah 9 16 K
     refine kN [(4, (pt a0 0)), (16, (.bool true))] ⟨e4, (Eq.trans b0 (congrArg Value.bool p)), trivial⟩ fun hkn => ?_
     refine sL 2 4 a0 0 5 (.int .i64 h) 17 c0 rfl ?_
     exact eK hkn
   ·exact oV (hC (hS 6 (pt a2 0)) (hC (hB 9 16 p) (h0))) (pt a2 2)
   ·refine oL 0 ?_
    ·rintro ρ' w' hs hah ⟨e3, c1⟩
     have c2 := hah 11 18 K
     have b0 := hah 9 16 K
     refine kN [(18, (pt a2 2)), (16, (.bool true))] ⟨c2, (Eq.trans b0 (congrArg Value.bool p)), trivial⟩ fun hkn => ?_
     refine sL 2 18 a2 2 7 (.int .i64 j) 19 c1 rfl ?_
     exact eK hkn
   ·exact oV (hC (hA 10 17) (hC (hA 12 19) (hC (hB 9 16 p) (h0)))) (.bool (decide (h < j)))
   ·exact oV (hC (hB 9 16 p) (hC (hA 13 20) (h0))) (.bool (decide (h < j)))
   ·refine oH 0 1 ?_
    ·rintro ρ' w' hs hah ⟨e5, c3⟩
     refine kM (kc (kS hs 5 (pt z 0)) (kc (kA hah 14 21) k0)) fun hkn => ?_
     refine Qj.store (t := 4) (x := (.tmp 5)) (y := (.tmp 21)) (g := z) (off := 0) (i := 6) (v := (.bool (decide (h < j)))) (cs' := #[(.bool (decide (h < j)))]) (d := none) (k := 15) K rfl K K c3 rfl K ?_
     intro e6 c4
     refine ⟨_, Qa hkn, trivial, ?_⟩
     exact (And.intro (And.intro rfl (trivial)) (c4))
   ·rintro ρ' w' hs hf ⟨⟨e7, -⟩, b2⟩
    refine Vh [] trivial ?_
    obtain ⟨e8, c5⟩ : ∃ x, w' = x := ⟨_, rfl⟩
    rw [c5] at b2 ⊢
    exact ⟨(decide (h < j)), trivial, SP.sel b2 [0, 1, 2, 3, 4, 5, 6] rfl rfl, H⟩
  ·have H := cf H p
   refine aG [GEq (pt g4 0), GEq (pt g4 0), GEq (pt g4 5), GEq (.map (some f)), GEq (.string ⟨List.toArray a⟩), GEq (.string ⟨List.toArray b⟩), GEq (.agg (Qb Qy ([a, b] : List (List UInt8))).toArray), GEq (.int .i64 (U7 c (a, b))), GEq (.bool ((U7 c (a, b)) == 0)), GEq (.bool ((U7 c (a, b)) == 0)), GEq undef, GEq undef, GEq undef, GEq undef, GEq (.bool false), Bq] [15] [sG [] [] S w0 [Q6 g4 79 #[(.int .i64 q5), (.int .i64 q6), (.int .i64 q7), (.int .i64 q8), (.slice a3 (List.length (List.map stT a1)) a4), (.map (some f))], Zv f c, Q6 q 29 #[(pt g4 0)], Q6 s 9 #[(.string ⟨List.toArray a⟩)], Q6 u 9 #[(.string ⟨List.toArray b⟩)], Q6 a0 2 #[(.int .i64 h)], Q6 z 4 #[(.bool a7)], Q6 a2 48 #[(.string ⟨List.toArray a5⟩), (.string ⟨List.toArray a6⟩), (.int .i64 j)]], sG [15] [undef] S w0 [Q6 g4 79 #[(.int .i64 q5), (.int .i64 q6), (.int .i64 q7), (.int .i64 q8), (.slice a3 (List.length (List.map stT a1)) a4), (.map (some f))], Zv f c, Q6 q 29 #[(pt g4 0)], Q6 s 9 #[(.string ⟨List.toArray a⟩)], Q6 u 9 #[(.string ⟨List.toArray b⟩)], Q6 a0 2 #[(.int .i64 h)], Q6 z 4 #[(.bool false)], Q6 a2 48 #[(.string ⟨List.toArray a5⟩), (.string ⟨List.toArray a6⟩), (.int .i64 j)]]] 16 1 ⟨trivial, SP.drew b1⟩ ?_ ?_
   iterate 16 refine And.intro ?_ ?_
   exact trivial
   ·refine oL 0 ?_
    ·rintro ρ' w' hs hah ⟨e9, c6⟩
     refine kM (kc (kS hs 1 (pt q 0)) k0) fun hkn => ?_
     refine sL 29 1 q 0 2 (pt g4 0) 7 c6 rfl ?_
     exact eK hkn
   ·exact oV (hC (hA 0 7) (h0)) (pt g4 0)
   ·exact oV (hC (hA 1 8) (h0)) (pt g4 5)
   ·refine oL 0 ?_
    ·rintro ρ' w' hs hah ⟨f0, c7⟩
     refine kM (kc (kA hah 2 9) k0) fun hkn => ?_
     refine sL 77 9 g4 5 0 (.map (some f)) 10 c7 rfl ?_
     exact eK hkn
   ·refine oL 0 ?_
    ·rintro ρ' w' hs hah ⟨f1, c8⟩
     refine kM (kc (kS hs 2 (pt s 0)) k0) fun hkn => ?_
     refine sL 9 2 s 0 3 (.string ⟨List.toArray a⟩) 11 c8 rfl ?_
     exact eK hkn
   ·refine oL 0 ?_
    ·rintro ρ' w' hs hah ⟨f2, c9⟩
     refine kM (kc (kS hs 3 (pt u 0)) k0) fun hkn => ?_
     refine sL 9 3 u 0 4 (.string ⟨List.toArray b⟩) 12 c9 rfl ?_
     exact eK hkn
   ·exact oV (hC (hA 4 11) (hC (hA 5 12) (h0))) (.agg (Qb Qy ([a, b] : List (List UInt8))).toArray)
   ·refine oL 0 ?_
    ·rintro ρ' w' hs hah ⟨f3, d0⟩
     refine kM (kc (kA hah 3 10) (kc (kA hah 6 13) k0)) fun hkn => ?_
     refine Do (T := 77) (kt := 83) (et := 3) (m := f) (L := c) (k := (a, b)) (x := (.tmp 10)) (ix := (.tmp 13)) (dst := (some 14)) (o := 7) K rfl K K K Rr (fun _ => rfl) (SP.get d0 (i := 1) rfl) (Fk a8).1 (Fk a8).2 ?_
     exact eK hkn
   ·exact oV (hC (hA 7 14) (h0)) (.bool ((U7 c (a, b)) == 0))
   ·exact oV (hC (hA 8 15) (h0)) (.bool ((U7 c (a, b)) == 0))
   ·exact oW (hC (hB 9 16 p) (h0)) 17
   ·exact oW (hC (hB 9 16 p) (h0)) 18
   ·exact oW (hC (hB 9 16 p) (h0)) 19
   ·exact oW (hC (hB 9 16 p) (h0)) 20
   ·exact oV (hC (hB 9 16 p) (hC (hA 13 20) (h0))) (.bool false)
   ·refine oH 0 1 ?_
    ·rintro ρ' w' hs hah ⟨f4, d1⟩
     refine kM (kc (kS hs 5 (pt z 0)) (kc (kA hah 14 21) k0)) fun hkn => ?_
     refine Qj.store (t := 4) (x := (.tmp 5)) (y := (.tmp 21)) (g := z) (off := 0) (i := 6) (v := (.bool false)) (cs' := #[(.bool false)]) (d := none) (k := 15) K rfl K K d1 rfl K ?_
     intro f5 d2
     refine ⟨_, Qa hkn, trivial, ?_⟩
     exact (And.intro (And.intro rfl (trivial)) (d2))
   ·rintro ρ' w' hs hf ⟨⟨f6, -⟩, b3⟩
    refine Vh [] trivial ?_
    obtain ⟨f7, d3⟩ : ∃ x, w' = x := ⟨_, rfl⟩
    rw [d3] at b3 ⊢
    exact ⟨false, trivial, SP.sel b3 [0, 1, 2, 3, 4, 5, 6] rfl rfl, H⟩
 ·rintro ρ f8 ⟨a9, hk, d4, H⟩
  unfold X0 at H
  first | refine At.known [] hk ?_ | rw [← Va (l := []) hk]
  refine ⟨(.tuple #[]), K, ?_⟩
  obtain rfl := Qm H
  exact ⟨rfl, SP.sel d4 [0,1,2,3,4,5,6] rfl rfl⟩
def Ue (c : (List UInt8)) (a : (List UInt8)) (d : Int) (q5 : (List UInt8)) (q7 : (List UInt8)) (q9 : (List UInt8)) (e : (List UInt8)) : Option ((List UInt8)) :=
  ((chk (Nat.ble (List.length a) 281474976710656)).bind fun _ => ((D3 a ([q5, q7, q9] : List (List UInt8))).bind fun b => (some (b))))
set_option maxRecDepth 100000 in
set_option maxHeartbeats 4000000 in
theorem Gz {S : List Nat} (g4 : Nat) (g6 : Nat) (g8 : Nat) (b : Nat) (c : (List UInt8)) (a : (List UInt8)) (f : Int) (q5 : (List UInt8)) (q7 : (List UInt8)) (q9 : (List UInt8)) (j : (List UInt8)) (w0 : World) (hO : SP S w0 w0 [Q6 g4 9 #[(.string ⟨List.toArray q5⟩)], Q6 g6 9 #[(.string ⟨List.toArray q7⟩)], Q6 g8 9 #[(.string ⟨List.toArray q9⟩)], Q6 b 9 #[(.string ⟨List.toArray j⟩)]])  (r : ((List UInt8))) (H : Ue c a f q5 q7 q9 j = some r) :
  Calls Tryz.prog 50 #[(.agg #[(.string ⟨List.toArray c⟩), (.string ⟨List.toArray a⟩), (.int .i64 f)]), (pt g4 0), (pt g6 0), (pt g8 0), (pt b 0)] w0 (fun e w' => e = .returned (.tuple #[]) ∧ SP S w0 w' [Q6 g4 9 #[(.string ⟨List.toArray q5⟩)], Q6 g6 9 #[(.string ⟨List.toArray q7⟩)], Q6 g8 9 #[(.string ⟨List.toArray q9⟩)], Q6 b 9 #[(.string ⟨List.toArray r⟩)]]) := by
 unfold Ue at H
 refine Qv (n := 14) Tryz.func50 K K K ?_
 have a0 := hO
 refine aQ ?_
 refine aR ?_
 refine iS 1 ?_
 refine V5 (t := 48) (x := (.tmp 0)) (v := (.agg #[(.string ⟨List.toArray c⟩), (.string ⟨List.toArray a⟩), (.int .i64 f)])) (d := (some 5)) (k := 0) K rfl K a0 ?_
 intro m a8 q
 refine iF ?_
 refine aR ?_
 refine iR 1 1 [(6, (pt m 1))] ?_
 refine iS 2 ?_
 refine sL 9 6 m 1 4 (.string ⟨List.toArray a⟩) 7 q rfl ?_
 obtain ⟨a1, H⟩ := Vv H
 refine iS 3 ?_
 refine R7 (S' := 9) (T := 52) (E := 5) (x := (.tmp 7)) (l := a) (d := (some 8)) (k := 2) K rfl K K K K (R9 a1) q ?_
 intro s u a2 w _
 have h : SP S w0 a2 [Q6 g4 9 #[(.string ⟨List.toArray q5⟩)], Q6 g6 9 #[(.string ⟨List.toArray q7⟩)], Q6 g8 9 #[(.string ⟨List.toArray q9⟩)], Q6 b 9 #[(.string ⟨List.toArray j⟩)], Q6 m 48 #[(.string ⟨List.toArray c⟩), (.string ⟨List.toArray a⟩), (.int .i64 f)], rdE eU8 (some ⟨s, 0, none⟩) u a] := w
 clear w
 refine iS 4 ?_
 refine sL 9 1 g4 0 0 (.string ⟨List.toArray q5⟩) 9 h rfl ?_
 refine iS 5 ?_
 refine sL 9 2 g6 0 1 (.string ⟨List.toArray q7⟩) 10 h rfl ?_
 refine iS 6 ?_
 refine sL 9 3 g8 0 2 (.string ⟨List.toArray q9⟩) 11 h rfl ?_
 refine iS 7 ?_
 refine V1 (e := Qy) (T := 53) (E := 9) (len := 3) (parts := #[(0, (.tmp 9)), (1, (.tmp 10)), (2, (.tmp 11))]) (cs := #[(.string ⟨List.toArray q5⟩), (.string ⟨List.toArray q7⟩), (.string ⟨List.toArray q9⟩)]) ([q5, q7, q9] : List (List UInt8)) (d := (some 12)) (k := 6) K rfl (fun _ => K) h rfl rfl rfl rfl ?_
 intro a3 a4 o
 obtain ⟨p, a5, H⟩ := Qf H
 refine iS 8 ?_
 refine cF 51 #[(.tmp 8), (.tmp 12)] #[52, 53] 13 Tryz.call51 (Ca (some ⟨s, 0, none⟩) u (some ⟨a3, 0, none⟩) (List.length ([q5, q7, q9] : List (List UInt8))) a ([q5, q7, q9] : List (List UInt8)) a4 (Hg (SP.get o (i := 5) rfl)) (Vf (SP.get o (i := 6) rfl)) p a5) ?_
 rintro e a9 ⟨rfl, z⟩
 refine ⟨_, rfl, ?_⟩
 have a6 := SP.call o z
 clear z
 refine iS 9 ?_
 refine Qj.store (t := 9) (x := (.tmp 4)) (y := (.tmp 13)) (g := b) (off := 0) (i := 3) (v := (.string ⟨List.toArray p⟩)) (cs' := #[(.string ⟨List.toArray p⟩)]) (d := none) (k := 8) K rfl K K a6 rfl K ?_
 intro b0 a7
 refine iF ?_
 refine ⟨(.tuple #[]), K, ?_⟩
 obtain rfl := Qm H
 exact ⟨rfl, SP.sel a7 [0,1,2,3] rfl rfl⟩
def Vu (a : Int) (b : Int) (c : Int) (d : Int) (e : Jr) (f : Bool) : Option (Int × Int × Int × Int × Jr × Bool) :=
  (some (a, b, c, d, e, f))
def Zg (q2 : Int) (q3 : Int) (q4 : Int) (q5 : Int) (q6 : (List Qk)) (d : Jr) (f : (List UInt8)) (g : (List UInt8)) (h : (List UInt8)) (i : (List UInt8)) (e : Bool) : Option (Int × Int × Int × Int × Jr × Bool) :=
  ((Ja q2 q3 q4 q5 q6 f).bind fun b => ((Yq b.1 b.2.1 b.2.2.1 b.2.2.2.1 b.2.2.2.2.1 g).bind fun c => (cond c.2.2.2 ((Ya c.1 c.2.1 c.2.2.1 h i q2 q3 q4 q5 q6 d e).bind fun a => (Vu a.1 a.2.1 a.2.2.1 a.2.2.2.1 a.2.2.2.2.1 a.2.2.2.2.2)) (Vu q2 q3 q4 q5 d e))))
set_option maxRecDepth 100000 in
set_option maxHeartbeats 4000000 in
theorem J3 {S : List Nat} (g1 : Nat) (A7 : Option Addr) (c8 : Nat) (j : Nat) (p : Nat) (q : Nat) (s : Nat) (u : Nat) (q2 : Int) (q3 : Int) (q4 : Int) (q5 : Int) (m : (List Vo)) (a7 : Jr) (a8 : (List UInt8)) (a9 : (List UInt8)) (a4 : (List UInt8)) (a5 : (List UInt8)) (b0 : Bool) (w0 : World) (hO : SP S w0 w0 [Q6 g1 79 #[(.int .i64 q2), (.int .i64 q3), (.int .i64 q4), (.int .i64 q5), (.slice A7 (List.length (List.map stT m)) c8), (.map (some j))], Zv j a7, Q6 p 9 #[(.string ⟨List.toArray a4⟩)], Q6 q 9 #[(.string ⟨List.toArray a5⟩)], Q6 s 29 #[(pt g1 0)], Q6 u 4 #[(.bool b0)]]) (c3 : ∀ w, Mod S w0 w → (dDS Ux Cv).ok w (A7, c8, m)) (r : (Int × Int × Int × Int × Jr × Bool)) (H : Zg q2 q3 q4 q5 (List.map stT m) a7 a8 a9 a4 a5 b0 = some r) :
  Calls Tryz.prog 45 #[(pt g1 0), (.string ⟨List.toArray a8⟩), (.string ⟨List.toArray a9⟩), (.func (.func 46) #[] #[(pt p 0), (pt q 0), (pt s 0), (pt u 0)])] w0 (fun e w' => e = .returned (.tuple #[]) ∧ SP S w0 w' [Q6 g1 79 #[(.int .i64 r.1), (.int .i64 r.2.1), (.int .i64 r.2.2.1), (.int .i64 r.2.2.2.1), (.slice A7 (List.length (List.map stT m)) c8), (.map (some j))], Zv j r.2.2.2.2.1, Q6 p 9 #[(.string ⟨List.toArray a4⟩)], Q6 q 9 #[(.string ⟨List.toArray a5⟩)], Q6 s 29 #[(pt g1 0)], Q6 u 4 #[(.bool r.2.2.2.2.2)]]) := by
 unfold Zg at H
 refine Qv (n := 31) Tryz.func45 K K K ?_
 have b2 := hO
 refine aQ ?_
 refine aR ?_
 refine iR 3 3 [(13, (pt g1 0)), (14, (pt g1 0)), (15, (pt g1 0))] ?_
 refine iS 4 ?_
 refine sL 24 15 g1 0 0 (.agg #[(.int .i64 q2), (.int .i64 q3), (.int .i64 q4), (.int .i64 q5), (.slice A7 (List.length (List.map stT m)) c8)]) 16 b2 rfl ?_
 refine iR 1 5 [(17, (.string ⟨List.toArray a8⟩))] ?_
 obtain ⟨a, c7, H⟩ := Qf H
 refine iS 6 ?_
 refine cF 67 #[(.tmp 16), (.tmp 17)] #[24, 9] 18 Tryz.call67 (Nh (R := fun w => Mod S w0 w) A7 c8 q2 q3 q4 q5 m a8 w0 (fun w hb => El b2 hb) c3 a c7) ?_
 rintro e e1 ⟨a0, a1, a2, a3, rfl, c9, d0, c4⟩
 refine ⟨_, rfl, ?_⟩
 have d1 := SP.call b2 c4
 clear c4
 refine iR 3 9 [(12, (.tuple #[(.agg #[(.string ⟨List.toArray a.1⟩), (.int .i64 a.2.1), (.int .i64 a.2.2.1), (.slice a0 (List.length a.2.2.2.1) a1), (.slice a2 (List.length a.2.2.2.2.1) a3)]), (.bool a.2.2.2.2.2)])), (19, (.agg #[(.string ⟨List.toArray a.1⟩), (.int .i64 a.2.1), (.int .i64 a.2.2.1), (.slice a0 (List.length a.2.2.2.1) a1), (.slice a2 (List.length a.2.2.2.2.1) a3)])), (20, (.bool a.2.2.2.2.2))] ?_
 refine iS 10 ?_
 refine Qj.alloc (t := 44) (z := (.agg #[(.string ⟨List.toArray ([] : List UInt8)⟩), (.int .i64 0), (.int .i64 0), (.slice none (List.length ([] : List (Int × Int))) 0), (.slice none (List.length ([] : List ((List UInt8) × (List UInt8) × Int))) 0)])) (d := (some 8)) (k := 9) K rfl K d1 ?_
 intro b3 e2 d2
 refine iS 11 ?_
 refine Qj.store (t := 44) (x := (.tmp 8)) (y := (.tmp 19)) (g := b3) (off := 0) (i := 6) (v := (.agg #[(.string ⟨List.toArray a.1⟩), (.int .i64 a.2.1), (.int .i64 a.2.2.1), (.slice a0 (List.length a.2.2.2.1) a1), (.slice a2 (List.length a.2.2.2.2.1) a3)])) (cs' := #[(.string ⟨List.toArray a.1⟩), (.int .i64 a.2.1), (.int .i64 a.2.2.1), (.slice a0 (List.length a.2.2.2.1) a1), (.slice a2 (List.length a.2.2.2.2.1) a3)]) (d := none) (k := 10) K rfl K K d2 rfl K ?_
 intro b4 b1
 refine iR 1 12 [(9, (.bool a.2.2.2.2.2))] ?_
 refine iF ?_
 refine aQ ?_
 refine aR ?_
 refine iS 1 ?_
 refine sL 44 8 b3 0 6 (.agg #[(.string ⟨List.toArray a.1⟩), (.int .i64 a.2.1), (.int .i64 a.2.2.1), (.slice a0 (List.length a.2.2.2.1) a1), (.slice a2 (List.length a.2.2.2.2.1) a3)]) 22 b1 rfl ?_
 refine iR 1 2 [(23, (.string ⟨List.toArray a9⟩))] ?_
 obtain ⟨c, d3, H⟩ := Qf H
 refine iS 3 ?_
 refine cF 68 #[(.tmp 22), (.tmp 23)] #[44, 9] 24 Tryz.call68 (U1 a0 a1 a2 a3 a.1 a.2.1 a.2.2.1 a.2.2.2.1 a.2.2.2.2.1 a9 b4 (c9 b4 (SP.mod b1)) (d0 b4 (SP.mod b1)) c d3) ?_
 rintro e e3 ⟨rfl, c5⟩
 refine ⟨_, rfl, ?_⟩
 have d4 := SP.call b1 c5
 clear c5
 refine iR 3 6 [(21, (.tuple #[(.agg #[(.string ⟨List.toArray c.1⟩), (.string ⟨List.toArray c.2.1⟩), (.int .i64 c.2.2.1)]), (.bool c.2.2.2)])), (25, (.agg #[(.string ⟨List.toArray c.1⟩), (.string ⟨List.toArray c.2.1⟩), (.int .i64 c.2.2.1)])), (26, (.bool c.2.2.2))] ?_
 refine iS 7 ?_
 refine Qj.alloc (t := 48) (z := (.agg #[(.string ⟨List.toArray ([] : List UInt8)⟩), (.string ⟨List.toArray ([] : List UInt8)⟩), (.int .i64 0)])) (d := (some 10)) (k := 6) K rfl K d4 ?_
 intro b5 e4 d5
 refine iS 8 ?_
 refine Qj.store (t := 48) (x := (.tmp 10)) (y := (.tmp 25)) (g := b5) (off := 0) (i := 7) (v := (.agg #[(.string ⟨List.toArray c.1⟩), (.string ⟨List.toArray c.2.1⟩), (.int .i64 c.2.2.1)])) (cs' := #[(.string ⟨List.toArray c.1⟩), (.string ⟨List.toArray c.2.1⟩), (.int .i64 c.2.2.1)]) (d := none) (k := 7) K rfl K K d5 rfl K ?_
 intro d6 a6
 refine iR 1 9 [(11, (.bool c.2.2.2))] ?_
 refine iF ?_
 refine aQ ?_
 refine aR ?_
 refine iR 1 1 [(27, (.bool c.2.2.2))] ?_
 refine iF ?_
 refine At.join (fun ρ w => ∃ (b6 : Int) (b7 : Int) (b8 : Int) (b9 : Int) (c0 : Jr) (c1 : Bool), V8 ρ [] ∧ SP S w0 w [Q6 g1 79 #[(.int .i64 b6), (.int .i64 b7), (.int .i64 b8), (.int .i64 b9), (.slice A7 (List.length (List.map stT m)) c8), (.map (some j))], Zv j c0, Q6 p 9 #[(.string ⟨List.toArray a4⟩)], Q6 q 9 #[(.string ⟨List.toArray a5⟩)], Q6 s 29 #[(pt g1 0)], Q6 u 4 #[(.bool c1)]] ∧ Vu b6 b7 b8 b9 c0 c1 = some r) ?_ ?_
 ·refine Zi K (o := (.tmp 27)) K (b := c.2.2.2) K (fun c2 => ?_) (fun c2 => ?_)
  ·have H := ct H c2
   refine aR ?_
   refine iR 1 1 [(28, (.func (.func 46) #[] #[(pt p 0), (pt q 0), (pt s 0), (pt u 0)]))] ?_
   refine iS 2 ?_
   refine sL 48 10 b5 0 7 (.agg #[(.string ⟨List.toArray c.1⟩), (.string ⟨List.toArray c.2.1⟩), (.int .i64 c.2.2.1)]) 29 a6 rfl ?_
   obtain ⟨h, d7, H⟩ := Qf H
   refine iS 3 ?_
   refine X2 (f := 46) (fo := (.tmp 28)) (xs := #[(.tmp 29)]) (tys := #[48]) (first := #[]) (captured := #[(pt p 0), (pt q 0), (pt s 0), (pt u 0)]) (d := (some 30)) (k := 2) K rfl K K Tryz.call46 (Gm p q g1 A7 c8 j s u c.1 c.2.1 c.2.2.1 a4 a5 q2 q3 q4 q5 m a7 b0 d6 (U8 a6 [2, 3, 0, 1, 4, 5] rfl rfl) (fun w hm => c3 w (SP.through a6 (l := [2, 3, 0, 1, 4, 5]) rfl hm)) h d7) ?_
   rintro e d8 ⟨rfl, c6⟩
   refine ⟨_, rfl, ?_⟩
   have d9 : SP S w0 d8 [Q6 b3 44 #[(.string ⟨List.toArray a.1⟩), (.int .i64 a.2.1), (.int .i64 a.2.2.1), (.slice a0 (List.length a.2.2.2.1) a1), (.slice a2 (List.length a.2.2.2.2.1) a3)], Q6 b5 48 #[(.string ⟨List.toArray c.1⟩), (.string ⟨List.toArray c.2.1⟩), (.int .i64 c.2.2.1)], Q6 p 9 #[(.string ⟨List.toArray a4⟩)], Q6 q 9 #[(.string ⟨List.toArray a5⟩)], Q6 g1 79 #[(.int .i64 h.1), (.int .i64 h.2.1), (.int .i64 h.2.2.1), (.int .i64 h.2.2.2.1), (.slice A7 (List.length (List.map stT m)) c8), (.map (some j))], Zv j h.2.2.2.2.1, Q6 s 29 #[(pt g1 0)], Q6 u 4 #[(.bool h.2.2.2.2.2)]] := Xx a6 [2, 3, 0, 1, 4, 5] [6, 7] rfl rfl c6 rfl
   clear c6
   refine iF ?_
   exact ⟨h.1, h.2.1, h.2.2.1, h.2.2.2.1, h.2.2.2.2.1, h.2.2.2.2.2, trivial, SP.sel d9 [4, 5, 2, 3, 6, 7] rfl rfl, H⟩
  ·have H := cf H c2
   refine At.skip K ?_
   exact ⟨q2, q3, q4, q5, a7, b0, trivial, SP.sel a6 [0, 1, 2, 3, 4, 5] rfl rfl, H⟩
 ·rintro ρ e5 ⟨b6, b7, b8, b9, c0, c1, hk, e0, H⟩
  unfold Vu at H
  first | refine At.known [] hk ?_ | rw [← Va (l := []) hk]
  refine ⟨(.tuple #[]), K, ?_⟩
  obtain rfl := Qm H
  exact ⟨rfl, SP.sel e0 [0,1,2,3,4,5] rfl rfl⟩
def Zd (a : Bool) : Option (Bool) :=
  (some (a))
def Xb (q2 : Int) (q3 : Int) (q4 : Int) (q5 : Int) (q6 : (List Qk)) (d : Jr) (e : (List UInt8)) (f : (List UInt8)) (g : (List UInt8)) (h : (List UInt8)) (i : Int) (c : Bool) : Option (Bool) :=
  ((Ja q2 q3 q4 q5 q6 e).bind fun a => ((Yq a.1 a.2.1 a.2.2.1 a.2.2.2.1 a.2.2.2.2.1 f).bind fun b => (cond b.2.2.2 ((Ud b.1 b.2.1 b.2.2.1 q2 q3 q4 q5 q6 d g h i c).bind fun j => (Zd j)) (Zd c))))
set_option maxRecDepth 100000 in
set_option maxHeartbeats 4000000 in
theorem Uf {S : List Nat} (g1 : Nat) (A7 : Option Addr) (c8 : Nat) (h : Nat) (m : Nat) (p : Nat) (q : Nat) (s : Nat) (u : Nat) (q2 : Int) (q3 : Int) (q4 : Int) (q5 : Int) (j : (List Vo)) (a4 : Jr) (a9 : (List UInt8)) (b0 : (List UInt8)) (a5 : (List UInt8)) (a6 : (List UInt8)) (a7 : Int) (b1 : Bool) (w0 : World) (hO : SP S w0 w0 [Q6 g1 79 #[(.int .i64 q2), (.int .i64 q3), (.int .i64 q4), (.int .i64 q5), (.slice A7 (List.length (List.map stT j)) c8), (.map (some h))], Zv h a4, Q6 m 29 #[(pt g1 0)], Q6 p 9 #[(.string ⟨List.toArray a5⟩)], Q6 q 9 #[(.string ⟨List.toArray a6⟩)], Q6 s 2 #[(.int .i64 a7)], Q6 u 4 #[(.bool b1)]]) (c0 : ∀ w, Mod S w0 w → (dDS Ux Cv).ok w (A7, c8, j)) (r : (Bool)) (H : Xb q2 q3 q4 q5 (List.map stT j) a4 a9 b0 a5 a6 a7 b1 = some r) :
  Calls Tryz.prog 45 #[(pt g1 0), (.string ⟨List.toArray a9⟩), (.string ⟨List.toArray b0⟩), (.func (.func 49) #[] #[(pt m 0), (pt p 0), (pt q 0), (pt s 0), (pt u 0)])] w0 (fun e w' => e = .returned (.tuple #[]) ∧ SP S w0 w' [Q6 g1 79 #[(.int .i64 q2), (.int .i64 q3), (.int .i64 q4), (.int .i64 q5), (.slice A7 (List.length (List.map stT j)) c8), (.map (some h))], Zv h a4, Q6 m 29 #[(pt g1 0)], Q6 p 9 #[(.string ⟨List.toArray a5⟩)], Q6 q 9 #[(.string ⟨List.toArray a6⟩)], Q6 s 2 #[(.int .i64 a7)], Q6 u 4 #[(.bool r)]]) := by
 unfold Xb at H
 refine Qv (n := 31) Tryz.func45 K K K ?_
 have b3 := hO
 refine aQ ?_
 refine aR ?_
 refine iR 3 3 [(13, (pt g1 0)), (14, (pt g1 0)), (15, (pt g1 0))] ?_
 refine iS 4 ?_
 refine sL 24 15 g1 0 0 (.agg #[(.int .i64 q2), (.int .i64 q3), (.int .i64 q4), (.int .i64 q5), (.slice A7 (List.length (List.map stT j)) c8)]) 16 b3 rfl ?_
 refine iR 1 5 [(17, (.string ⟨List.toArray a9⟩))] ?_
 obtain ⟨a, c4, H⟩ := Qf H
 refine iS 6 ?_
 refine cF 67 #[(.tmp 16), (.tmp 17)] #[24, 9] 18 Tryz.call67 (Nh (R := fun w => Mod S w0 w) A7 c8 q2 q3 q4 q5 j a9 w0 (fun w hb => El b3 hb) c0 a c4) ?_
 rintro e d8 ⟨a0, a1, a2, a3, rfl, c5, c6, c1⟩
 refine ⟨_, rfl, ?_⟩
 have c7 := SP.call b3 c1
 clear c1
 refine iR 3 9 [(12, (.tuple #[(.agg #[(.string ⟨List.toArray a.1⟩), (.int .i64 a.2.1), (.int .i64 a.2.2.1), (.slice a0 (List.length a.2.2.2.1) a1), (.slice a2 (List.length a.2.2.2.2.1) a3)]), (.bool a.2.2.2.2.2)])), (19, (.agg #[(.string ⟨List.toArray a.1⟩), (.int .i64 a.2.1), (.int .i64 a.2.2.1), (.slice a0 (List.length a.2.2.2.1) a1), (.slice a2 (List.length a.2.2.2.2.1) a3)])), (20, (.bool a.2.2.2.2.2))] ?_
 refine iS 10 ?_
 refine Qj.alloc (t := 44) (z := (.agg #[(.string ⟨List.toArray ([] : List UInt8)⟩), (.int .i64 0), (.int .i64 0), (.slice none (List.length ([] : List (Int × Int))) 0), (.slice none (List.length ([] : List ((List UInt8) × (List UInt8) × Int))) 0)])) (d := (some 8)) (k := 9) K rfl K c7 ?_
 intro b4 d9 c9
 refine iS 11 ?_
 refine Qj.store (t := 44) (x := (.tmp 8)) (y := (.tmp 19)) (g := b4) (off := 0) (i := 7) (v := (.agg #[(.string ⟨List.toArray a.1⟩), (.int .i64 a.2.1), (.int .i64 a.2.2.1), (.slice a0 (List.length a.2.2.2.1) a1), (.slice a2 (List.length a.2.2.2.2.1) a3)])) (cs' := #[(.string ⟨List.toArray a.1⟩), (.int .i64 a.2.1), (.int .i64 a.2.2.1), (.slice a0 (List.length a.2.2.2.1) a1), (.slice a2 (List.length a.2.2.2.2.1) a3)]) (d := none) (k := 10) K rfl K K c9 rfl K ?_
 intro b5 b2
 refine iR 1 12 [(9, (.bool a.2.2.2.2.2))] ?_
 refine iF ?_
 refine aQ ?_
 refine aR ?_
 refine iS 1 ?_
 refine sL 44 8 b4 0 7 (.agg #[(.string ⟨List.toArray a.1⟩), (.int .i64 a.2.1), (.int .i64 a.2.2.1), (.slice a0 (List.length a.2.2.2.1) a1), (.slice a2 (List.length a.2.2.2.2.1) a3)]) 22 b2 rfl ?_
 refine iR 1 2 [(23, (.string ⟨List.toArray b0⟩))] ?_
 obtain ⟨c, d0, H⟩ := Qf H
 refine iS 3 ?_
 refine cF 68 #[(.tmp 22), (.tmp 23)] #[44, 9] 24 Tryz.call68 (U1 a0 a1 a2 a3 a.1 a.2.1 a.2.2.1 a.2.2.2.1 a.2.2.2.2.1 b0 b5 (c5 b5 (SP.mod b2)) (c6 b5 (SP.mod b2)) c d0) ?_
 rintro e e0 ⟨rfl, c2⟩
 refine ⟨_, rfl, ?_⟩
 have d1 := SP.call b2 c2
 clear c2
 refine iR 3 6 [(21, (.tuple #[(.agg #[(.string ⟨List.toArray c.1⟩), (.string ⟨List.toArray c.2.1⟩), (.int .i64 c.2.2.1)]), (.bool c.2.2.2)])), (25, (.agg #[(.string ⟨List.toArray c.1⟩), (.string ⟨List.toArray c.2.1⟩), (.int .i64 c.2.2.1)])), (26, (.bool c.2.2.2))] ?_
 refine iS 7 ?_
 refine Qj.alloc (t := 48) (z := (.agg #[(.string ⟨List.toArray ([] : List UInt8)⟩), (.string ⟨List.toArray ([] : List UInt8)⟩), (.int .i64 0)])) (d := (some 10)) (k := 6) K rfl K d1 ?_
 intro b6 e1 d2
 refine iS 8 ?_
 refine Qj.store (t := 48) (x := (.tmp 10)) (y := (.tmp 25)) (g := b6) (off := 0) (i := 8) (v := (.agg #[(.string ⟨List.toArray c.1⟩), (.string ⟨List.toArray c.2.1⟩), (.int .i64 c.2.2.1)])) (cs' := #[(.string ⟨List.toArray c.1⟩), (.string ⟨List.toArray c.2.1⟩), (.int .i64 c.2.2.1)]) (d := none) (k := 7) K rfl K K d2 rfl K ?_
 intro d3 a8
 refine iR 1 9 [(11, (.bool c.2.2.2))] ?_
 refine iF ?_
 refine aQ ?_
 refine aR ?_
 refine iR 1 1 [(27, (.bool c.2.2.2))] ?_
 refine iF ?_
 refine At.join (fun ρ w => ∃ (b7 : Bool), V8 ρ [] ∧ SP S w0 w [Q6 g1 79 #[(.int .i64 q2), (.int .i64 q3), (.int .i64 q4), (.int .i64 q5), (.slice A7 (List.length (List.map stT j)) c8), (.map (some h))], Zv h a4, Q6 m 29 #[(pt g1 0)], Q6 p 9 #[(.string ⟨List.toArray a5⟩)], Q6 q 9 #[(.string ⟨List.toArray a6⟩)], Q6 s 2 #[(.int .i64 a7)], Q6 u 4 #[(.bool b7)]] ∧ Zd b7 = some r) ?_ ?_
 ·refine Zi K (o := (.tmp 27)) K (b := c.2.2.2) K (fun b8 => ?_) (fun b8 => ?_)
  ·have H := ct H b8
   refine aR ?_
   refine iR 1 1 [(28, (.func (.func 49) #[] #[(pt m 0), (pt p 0), (pt q 0), (pt s 0), (pt u 0)]))] ?_
   refine iS 2 ?_
   refine sL 48 10 b6 0 8 (.agg #[(.string ⟨List.toArray c.1⟩), (.string ⟨List.toArray c.2.1⟩), (.int .i64 c.2.2.1)]) 29 a8 rfl ?_
   obtain ⟨b9, d4, H⟩ := Qf H
   refine iS 3 ?_
   refine X2 (f := 49) (fo := (.tmp 28)) (xs := #[(.tmp 29)]) (tys := #[48]) (first := #[]) (captured := #[(pt m 0), (pt p 0), (pt q 0), (pt s 0), (pt u 0)]) (d := (some 30)) (k := 2) K rfl K K Tryz.call49 (Gy g1 A7 c8 h m p q s u c.1 c.2.1 c.2.2.1 q2 q3 q4 q5 j a4 a5 a6 a7 b1 d3 (U8 a8 [0, 1, 2, 3, 4, 5, 6] rfl rfl) (fun w hm => c0 w (SP.through a8 (l := [0, 1, 2, 3, 4, 5, 6]) rfl hm)) b9 d4) ?_
   rintro e d5 ⟨rfl, c3⟩
   refine ⟨_, rfl, ?_⟩
   have d6 : SP S w0 d5 [Q6 b4 44 #[(.string ⟨List.toArray a.1⟩), (.int .i64 a.2.1), (.int .i64 a.2.2.1), (.slice a0 (List.length a.2.2.2.1) a1), (.slice a2 (List.length a.2.2.2.2.1) a3)], Q6 b6 48 #[(.string ⟨List.toArray c.1⟩), (.string ⟨List.toArray c.2.1⟩), (.int .i64 c.2.2.1)], Q6 g1 79 #[(.int .i64 q2), (.int .i64 q3), (.int .i64 q4), (.int .i64 q5), (.slice A7 (List.length (List.map stT j)) c8), (.map (some h))], Zv h a4, Q6 m 29 #[(pt g1 0)], Q6 p 9 #[(.string ⟨List.toArray a5⟩)], Q6 q 9 #[(.string ⟨List.toArray a6⟩)], Q6 s 2 #[(.int .i64 a7)], Q6 u 4 #[(.bool b9)]] := Xx a8 [0, 1, 2, 3, 4, 5, 6] [7, 8] rfl rfl c3 rfl
   clear c3
   refine iF ?_
   exact ⟨b9, trivial, SP.sel d6 [2, 3, 4, 5, 6, 7, 8] rfl rfl, H⟩
  ·have H := cf H b8
   refine At.skip K ?_
   exact ⟨b1, trivial, SP.sel a8 [0, 1, 2, 3, 4, 5, 6] rfl rfl, H⟩
 ·rintro ρ e2 ⟨b7, hk, d7, H⟩
  unfold Zd at H
  first | refine At.known [] hk ?_ | rw [← Va (l := []) hk]
  refine ⟨(.tuple #[]), K, ?_⟩
  obtain rfl := Qm H
  exact ⟨rfl, SP.sel d7 [0,1,2,3,4,5,6] rfl rfl⟩
def Ze (a : (List UInt8)) : Option ((List UInt8)) :=
  (some (a))
def Xc (q2 : Int) (q3 : Int) (q4 : Int) (q5 : Int) (q6 : (List Qk)) (j : Jr) (d : (List UInt8)) (e : (List UInt8)) (f : (List UInt8)) (g : (List UInt8)) (h : (List UInt8)) (c : (List UInt8)) : Option ((List UInt8)) :=
  ((Ja q2 q3 q4 q5 q6 d).bind fun a => ((Yq a.1 a.2.1 a.2.2.1 a.2.2.2.1 a.2.2.2.2.1 e).bind fun b => (cond b.2.2.2 ((Ue b.1 b.2.1 b.2.2.1 f g h c).bind fun i => (Ze i)) (Ze c))))
set_option maxRecDepth 100000 in
set_option maxHeartbeats 4000000 in
theorem Ug {S : List Nat} (g1 : Nat) (A7 : Option Addr) (c8 : Nat) (h : Nat) (j : Nat) (m : Nat) (p : Nat) (q : Nat) (q2 : Int) (q3 : Int) (q4 : Int) (q5 : Int) (s : (List Vo)) (a6 : Jr) (a7 : (List UInt8)) (a8 : (List UInt8)) (a3 : (List UInt8)) (a4 : (List UInt8)) (a5 : (List UInt8)) (a9 : (List UInt8)) (w0 : World) (hO : SP S w0 w0 [Q6 g1 79 #[(.int .i64 q2), (.int .i64 q3), (.int .i64 q4), (.int .i64 q5), (.slice A7 (List.length (List.map stT s)) c8), (.map (some h))], Zv h a6, Q6 j 9 #[(.string ⟨List.toArray a3⟩)], Q6 m 9 #[(.string ⟨List.toArray a4⟩)], Q6 p 9 #[(.string ⟨List.toArray a5⟩)], Q6 q 9 #[(.string ⟨List.toArray a9⟩)]]) (c2 : ∀ w, Mod S w0 w → (dDS Ux Cv).ok w (A7, c8, s)) (r : ((List UInt8))) (H : Xc q2 q3 q4 q5 (List.map stT s) a6 a7 a8 a3 a4 a5 a9 = some r) :
  Calls Tryz.prog 45 #[(pt g1 0), (.string ⟨List.toArray a7⟩), (.string ⟨List.toArray a8⟩), (.func (.func 50) #[] #[(pt j 0), (pt m 0), (pt p 0), (pt q 0)])] w0 (fun e w' => e = .returned (.tuple #[]) ∧ SP S w0 w' [Q6 g1 79 #[(.int .i64 q2), (.int .i64 q3), (.int .i64 q4), (.int .i64 q5), (.slice A7 (List.length (List.map stT s)) c8), (.map (some h))], Zv h a6, Q6 j 9 #[(.string ⟨List.toArray a3⟩)], Q6 m 9 #[(.string ⟨List.toArray a4⟩)], Q6 p 9 #[(.string ⟨List.toArray a5⟩)], Q6 q 9 #[(.string ⟨List.toArray r⟩)]]) := by
 unfold Xc at H
 refine Qv (n := 31) Tryz.func45 K K K ?_
 have b2 := hO
 refine aQ ?_
 refine aR ?_
 refine iR 3 3 [(13, (pt g1 0)), (14, (pt g1 0)), (15, (pt g1 0))] ?_
 refine iS 4 ?_
 refine sL 24 15 g1 0 0 (.agg #[(.int .i64 q2), (.int .i64 q3), (.int .i64 q4), (.int .i64 q5), (.slice A7 (List.length (List.map stT s)) c8)]) 16 b2 rfl ?_
 refine iR 1 5 [(17, (.string ⟨List.toArray a7⟩))] ?_
 obtain ⟨a, c3, H⟩ := Qf H
 refine iS 6 ?_
 refine cF 67 #[(.tmp 16), (.tmp 17)] #[24, 9] 18 Tryz.call67 (Nh (R := fun w => Mod S w0 w) A7 c8 q2 q3 q4 q5 s a7 w0 (fun w hb => El b2 hb) c2 a c3) ?_
 rintro e d7 ⟨u, a0, a1, a2, rfl, c4, c5, b9⟩
 refine ⟨_, rfl, ?_⟩
 have c6 := SP.call b2 b9
 clear b9
 refine iR 3 9 [(12, (.tuple #[(.agg #[(.string ⟨List.toArray a.1⟩), (.int .i64 a.2.1), (.int .i64 a.2.2.1), (.slice u (List.length a.2.2.2.1) a0), (.slice a1 (List.length a.2.2.2.2.1) a2)]), (.bool a.2.2.2.2.2)])), (19, (.agg #[(.string ⟨List.toArray a.1⟩), (.int .i64 a.2.1), (.int .i64 a.2.2.1), (.slice u (List.length a.2.2.2.1) a0), (.slice a1 (List.length a.2.2.2.2.1) a2)])), (20, (.bool a.2.2.2.2.2))] ?_
 refine iS 10 ?_
 refine Qj.alloc (t := 44) (z := (.agg #[(.string ⟨List.toArray ([] : List UInt8)⟩), (.int .i64 0), (.int .i64 0), (.slice none (List.length ([] : List (Int × Int))) 0), (.slice none (List.length ([] : List ((List UInt8) × (List UInt8) × Int))) 0)])) (d := (some 8)) (k := 9) K rfl K c6 ?_
 intro b3 d8 c7
 refine iS 11 ?_
 refine Qj.store (t := 44) (x := (.tmp 8)) (y := (.tmp 19)) (g := b3) (off := 0) (i := 6) (v := (.agg #[(.string ⟨List.toArray a.1⟩), (.int .i64 a.2.1), (.int .i64 a.2.2.1), (.slice u (List.length a.2.2.2.1) a0), (.slice a1 (List.length a.2.2.2.2.1) a2)])) (cs' := #[(.string ⟨List.toArray a.1⟩), (.int .i64 a.2.1), (.int .i64 a.2.2.1), (.slice u (List.length a.2.2.2.1) a0), (.slice a1 (List.length a.2.2.2.2.1) a2)]) (d := none) (k := 10) K rfl K K c7 rfl K ?_
 intro b4 b0
 refine iR 1 12 [(9, (.bool a.2.2.2.2.2))] ?_
 refine iF ?_
 refine aQ ?_
 refine aR ?_
 refine iS 1 ?_
 refine sL 44 8 b3 0 6 (.agg #[(.string ⟨List.toArray a.1⟩), (.int .i64 a.2.1), (.int .i64 a.2.2.1), (.slice u (List.length a.2.2.2.1) a0), (.slice a1 (List.length a.2.2.2.2.1) a2)]) 22 b0 rfl ?_
 refine iR 1 2 [(23, (.string ⟨List.toArray a8⟩))] ?_
 obtain ⟨c, c9, H⟩ := Qf H
 refine iS 3 ?_
 refine cF 68 #[(.tmp 22), (.tmp 23)] #[44, 9] 24 Tryz.call68 (U1 u a0 a1 a2 a.1 a.2.1 a.2.2.1 a.2.2.2.1 a.2.2.2.2.1 a8 b4 (c4 b4 (SP.mod b0)) (c5 b4 (SP.mod b0)) c c9) ?_
 rintro e d9 ⟨rfl, c0⟩
 refine ⟨_, rfl, ?_⟩
 have d0 := SP.call b0 c0
 clear c0
 refine iR 3 6 [(21, (.tuple #[(.agg #[(.string ⟨List.toArray c.1⟩), (.string ⟨List.toArray c.2.1⟩), (.int .i64 c.2.2.1)]), (.bool c.2.2.2)])), (25, (.agg #[(.string ⟨List.toArray c.1⟩), (.string ⟨List.toArray c.2.1⟩), (.int .i64 c.2.2.1)])), (26, (.bool c.2.2.2))] ?_
 refine iS 7 ?_
 refine Qj.alloc (t := 48) (z := (.agg #[(.string ⟨List.toArray ([] : List UInt8)⟩), (.string ⟨List.toArray ([] : List UInt8)⟩), (.int .i64 0)])) (d := (some 10)) (k := 6) K rfl K d0 ?_
 intro b5 e0 d1
 refine iS 8 ?_
 refine Qj.store (t := 48) (x := (.tmp 10)) (y := (.tmp 25)) (g := b5) (off := 0) (i := 7) (v := (.agg #[(.string ⟨List.toArray c.1⟩), (.string ⟨List.toArray c.2.1⟩), (.int .i64 c.2.2.1)])) (cs' := #[(.string ⟨List.toArray c.1⟩), (.string ⟨List.toArray c.2.1⟩), (.int .i64 c.2.2.1)]) (d := none) (k := 7) K rfl K K d1 rfl K ?_
 intro d2 b1
 refine iR 1 9 [(11, (.bool c.2.2.2))] ?_
 refine iF ?_
 refine aQ ?_
 refine aR ?_
 refine iR 1 1 [(27, (.bool c.2.2.2))] ?_
 refine iF ?_
 refine At.join (fun ρ w => ∃ (b6 : (List UInt8)), V8 ρ [] ∧ SP S w0 w [Q6 g1 79 #[(.int .i64 q2), (.int .i64 q3), (.int .i64 q4), (.int .i64 q5), (.slice A7 (List.length (List.map stT s)) c8), (.map (some h))], Zv h a6, Q6 j 9 #[(.string ⟨List.toArray a3⟩)], Q6 m 9 #[(.string ⟨List.toArray a4⟩)], Q6 p 9 #[(.string ⟨List.toArray a5⟩)], Q6 q 9 #[(.string ⟨List.toArray b6⟩)]] ∧ Ze b6 = some r) ?_ ?_
 ·refine Zi K (o := (.tmp 27)) K (b := c.2.2.2) K (fun b7 => ?_) (fun b7 => ?_)
  ·have H := ct H b7
   refine aR ?_
   refine iR 1 1 [(28, (.func (.func 50) #[] #[(pt j 0), (pt m 0), (pt p 0), (pt q 0)]))] ?_
   refine iS 2 ?_
   refine sL 48 10 b5 0 7 (.agg #[(.string ⟨List.toArray c.1⟩), (.string ⟨List.toArray c.2.1⟩), (.int .i64 c.2.2.1)]) 29 b1 rfl ?_
   obtain ⟨b8, d3, H⟩ := Qf H
   refine iS 3 ?_
   refine X2 (f := 50) (fo := (.tmp 28)) (xs := #[(.tmp 29)]) (tys := #[48]) (first := #[]) (captured := #[(pt j 0), (pt m 0), (pt p 0), (pt q 0)]) (d := (some 30)) (k := 2) K rfl K K Tryz.call50 (Gz j m p q c.1 c.2.1 c.2.2.1 a3 a4 a5 a9 d2 (U8 b1 [2, 3, 4, 5] rfl rfl) b8 d3) ?_
   rintro e d4 ⟨rfl, c1⟩
   refine ⟨_, rfl, ?_⟩
   have d5 : SP S w0 d4 [Q6 g1 79 #[(.int .i64 q2), (.int .i64 q3), (.int .i64 q4), (.int .i64 q5), (.slice A7 (List.length (List.map stT s)) c8), (.map (some h))], Zv h a6, Q6 b3 44 #[(.string ⟨List.toArray a.1⟩), (.int .i64 a.2.1), (.int .i64 a.2.2.1), (.slice u (List.length a.2.2.2.1) a0), (.slice a1 (List.length a.2.2.2.2.1) a2)], Q6 b5 48 #[(.string ⟨List.toArray c.1⟩), (.string ⟨List.toArray c.2.1⟩), (.int .i64 c.2.2.1)], Q6 j 9 #[(.string ⟨List.toArray a3⟩)], Q6 m 9 #[(.string ⟨List.toArray a4⟩)], Q6 p 9 #[(.string ⟨List.toArray a5⟩)], Q6 q 9 #[(.string ⟨List.toArray b8⟩)]] := Xx b1 [2, 3, 4, 5] [0, 1, 6, 7] rfl rfl c1 rfl
   clear c1
   refine iF ?_
   exact ⟨b8, trivial, SP.sel d5 [0, 1, 4, 5, 6, 7] rfl rfl, H⟩
  ·have H := cf H b7
   refine At.skip K ?_
   exact ⟨a9, trivial, SP.sel b1 [0, 1, 2, 3, 4, 5] rfl rfl, H⟩
 ·rintro ρ e1 ⟨b6, hk, d6, H⟩
  unfold Ze at H
  first | refine At.known [] hk ?_ | rw [← Va (l := []) hk]
  refine ⟨(.tuple #[]), K, ?_⟩
  obtain rfl := Qm H
  exact ⟨rfl, SP.sel d6 [0,1,2,3,4,5] rfl rfl⟩
def Zh (q2 : Int) (q3 : Int) (q4 : Int) (q5 : Int) (q6 : (List Qk)) (d : Jr) (b : (List UInt8)) (c : (List UInt8)) : Option (Bool × Int × Int × Int × Int × Jr) :=
  ((Zg q2 q3 q4 q5 q6 d b c b c false).bind fun a => (some (a.2.2.2.2.2, a.1, a.2.1, a.2.2.1, a.2.2.2.1, a.2.2.2.2.1)))
set_option maxRecDepth 100000 in
set_option maxHeartbeats 4000000 in
theorem Yr {S : List Nat} (g1 : Nat) (A7 : Option Addr) (c8 : Nat) (b : Nat) (q2 : Int) (q3 : Int) (q4 : Int) (q5 : Int) (h : (List Vo)) (s : Jr) (c : (List UInt8)) (f : (List UInt8)) (w0 : World) (hO : SP S w0 w0 [Q6 g1 79 #[(.int .i64 q2), (.int .i64 q3), (.int .i64 q4), (.int .i64 q5), (.slice A7 (List.length (List.map stT h)) c8), (.map (some b))], Zv b s]) (a1 : ∀ w, Mod S w0 w → (dDS Ux Cv).ok w (A7, c8, h)) (r : (Bool × Int × Int × Int × Int × Jr)) (H : Zh q2 q3 q4 q5 (List.map stT h) s c f = some r) :
  Calls Tryz.prog 20 #[(pt g1 0), (.string ⟨List.toArray c⟩), (.string ⟨List.toArray f⟩)] w0 (fun e w' => e = .returned (.bool r.1) ∧ SP S w0 w' [Q6 g1 79 #[(.int .i64 r.2.1), (.int .i64 r.2.2.1), (.int .i64 r.2.2.2.1), (.int .i64 r.2.2.2.2.1), (.slice A7 (List.length (List.map stT h)) c8), (.map (some b))], Zv b r.2.2.2.2.2]) := by
 unfold Zh at H
 refine Qv (n := 14) Tryz.func20 K K K ?_
 have a2 := hO
 refine aQ ?_
 refine aR ?_
 refine iS 1 ?_
 refine V5 (t := 29) (x := (.tmp 0)) (v := (pt g1 0)) (d := (some 3)) (k := 0) K rfl K a2 ?_
 intro o b0 a3
 refine iS 2 ?_
 refine V5 (t := 9) (x := (.tmp 1)) (v := (.string ⟨List.toArray c⟩)) (d := (some 4)) (k := 1) K rfl K a3 ?_
 intro p b1 a4
 refine iS 3 ?_
 refine V5 (t := 9) (x := (.tmp 2)) (v := (.string ⟨List.toArray f⟩)) (d := (some 5)) (k := 2) K rfl K a4 ?_
 intro q b2 a5
 refine iR 1 4 [(6, (.bool false))] ?_
 refine iF ?_
 refine aQ ?_
 refine aR ?_
 refine iS 1 ?_
 refine Qj.alloc (t := 4) (z := (.bool false)) (d := (some 7)) (k := 0) K rfl K a5 ?_
 intro m b3 a6
 refine iS 2 ?_
 refine Qj.store (t := 4) (x := (.tmp 7)) (y := (.const (.bool false))) (g := m) (off := 0) (i := 5) (v := (.bool false)) (cs' := #[(.bool false)]) (d := none) (k := 1) K rfl K K a6 rfl K ?_
 intro a7 j
 refine iF ?_
 refine aQ ?_
 refine aR ?_
 refine iS 1 ?_
 refine sL 29 3 o 0 2 (pt g1 0) 8 j rfl ?_
 refine iS 2 ?_
 refine sL 9 4 p 0 3 (.string ⟨List.toArray c⟩) 9 j rfl ?_
 refine iS 3 ?_
 refine sL 9 5 q 0 4 (.string ⟨List.toArray f⟩) 10 j rfl ?_
 refine iR 1 4 [(11, (.func (.func 46) #[] #[(pt p 0), (pt q 0), (pt o 0), (pt m 0)]))] ?_
 obtain ⟨a, a8, H⟩ := Qf H
 refine iS 5 ?_
 refine cF 45 #[(.tmp 8), (.tmp 9), (.tmp 10), (.tmp 11)] #[29, 9, 9, 84] 12 Tryz.call45 (J3 g1 A7 c8 b p q o m q2 q3 q4 q5 h s c f c f false a7 (U8 j [0, 1, 3, 4, 2, 5] rfl rfl) (fun w hm => a1 w (SP.through j (l := [0, 1, 3, 4, 2, 5]) rfl hm)) a a8) ?_
 rintro e a9 ⟨rfl, u⟩
 refine ⟨_, rfl, ?_⟩
 have a0 : SP S w0 a9 [Q6 g1 79 #[(.int .i64 a.1), (.int .i64 a.2.1), (.int .i64 a.2.2.1), (.int .i64 a.2.2.2.1), (.slice A7 (List.length (List.map stT h)) c8), (.map (some b))], Zv b a.2.2.2.2.1, Q6 p 9 #[(.string ⟨List.toArray c⟩)], Q6 q 9 #[(.string ⟨List.toArray f⟩)], Q6 o 29 #[(pt g1 0)], Q6 m 4 #[(.bool a.2.2.2.2.2)]] := Xx j [0, 1, 3, 4, 2, 5] [] rfl rfl u rfl
 clear u
 refine iF ?_
 refine aQ ?_
 refine aR ?_
 refine iS 1 ?_
 refine sL 4 7 m 0 5 (.bool a.2.2.2.2.2) 13 a0 rfl ?_
 refine iR 1 2 [(6, (.bool a.2.2.2.2.2))] ?_
 refine iF ?_
 refine At.ret K ?_
 refine ⟨(.bool a.2.2.2.2.2), K, ?_⟩
 obtain rfl := Qm H
 exact ⟨rfl, SP.sel a0 [0,1] rfl rfl⟩
def Ym (q2 : Int) (q3 : Int) (q4 : Int) (q5 : Int) (q6 : (List Qk)) (c : Jr) (a : (List UInt8)) (b : (List UInt8)) (d : Int) : Option (Bool) :=
  ((Xb q2 q3 q4 q5 q6 c a b a b d false).bind fun e => (some (e)))
set_option maxRecDepth 100000 in
set_option maxHeartbeats 4000000 in
theorem Jc {S : List Nat} (g1 : Nat) (A7 : Option Addr) (c8 : Nat) (a : Nat) (q2 : Int) (q3 : Int) (q4 : Int) (q5 : Int) (f : (List Vo)) (j : Jr) (b : (List UInt8)) (c : (List UInt8)) (m : Int) (w0 : World) (hO : SP S w0 w0 [Q6 g1 79 #[(.int .i64 q2), (.int .i64 q3), (.int .i64 q4), (.int .i64 q5), (.slice A7 (List.length (List.map stT f)) c8), (.map (some a))], Zv a j]) (a3 : ∀ w, Mod S w0 w → (dDS Ux Cv).ok w (A7, c8, f)) (r : (Bool)) (H : Ym q2 q3 q4 q5 (List.map stT f) j b c m = some r) :
  Calls Tryz.prog 22 #[(pt g1 0), (.string ⟨List.toArray b⟩), (.string ⟨List.toArray c⟩), (.int .i64 m)] w0 (fun e w' => e = .returned (.bool r) ∧ SP S w0 w' [Q6 g1 79 #[(.int .i64 q2), (.int .i64 q3), (.int .i64 q4), (.int .i64 q5), (.slice A7 (List.length (List.map stT f)) c8), (.map (some a))], Zv a j]) := by
 unfold Ym at H
 refine Qv (n := 16) Tryz.func22 K K K ?_
 have a4 := hO
 refine aQ ?_
 refine aR ?_
 refine iS 1 ?_
 refine V5 (t := 29) (x := (.tmp 0)) (v := (pt g1 0)) (d := (some 4)) (k := 0) K rfl K a4 ?_
 intro q b3 a5
 refine iS 2 ?_
 refine V5 (t := 9) (x := (.tmp 1)) (v := (.string ⟨List.toArray b⟩)) (d := (some 5)) (k := 1) K rfl K a5 ?_
 intro s b4 a6
 refine iS 3 ?_
 refine V5 (t := 9) (x := (.tmp 2)) (v := (.string ⟨List.toArray c⟩)) (d := (some 6)) (k := 2) K rfl K a6 ?_
 intro u b5 a7
 refine iS 4 ?_
 refine V5 (t := 2) (x := (.tmp 3)) (v := (.int .i64 m)) (d := (some 7)) (k := 3) K rfl K a7 ?_
 intro a0 b6 a8
 refine iR 1 5 [(8, (.bool false))] ?_
 refine iF ?_
 refine aQ ?_
 refine aR ?_
 refine iS 1 ?_
 refine Qj.alloc (t := 4) (z := (.bool false)) (d := (some 9)) (k := 0) K rfl K a8 ?_
 intro o b7 a9
 refine iS 2 ?_
 refine Qj.store (t := 4) (x := (.tmp 9)) (y := (.const (.bool false))) (g := o) (off := 0) (i := 6) (v := (.bool false)) (cs' := #[(.bool false)]) (d := none) (k := 1) K rfl K K a9 rfl K ?_
 intro b0 h
 refine iF ?_
 refine aQ ?_
 refine aR ?_
 refine iS 1 ?_
 refine sL 29 4 q 0 2 (pt g1 0) 10 h rfl ?_
 refine iS 2 ?_
 refine sL 9 5 s 0 3 (.string ⟨List.toArray b⟩) 11 h rfl ?_
 refine iS 3 ?_
 refine sL 9 6 u 0 4 (.string ⟨List.toArray c⟩) 12 h rfl ?_
 refine iR 1 4 [(13, (.func (.func 49) #[] #[(pt q 0), (pt s 0), (pt u 0), (pt a0 0), (pt o 0)]))] ?_
 obtain ⟨p, b1, H⟩ := Qf H
 refine iS 5 ?_
 refine cF 45 #[(.tmp 10), (.tmp 11), (.tmp 12), (.tmp 13)] #[29, 9, 9, 84] 14 Tryz.call45 (Uf g1 A7 c8 a q s u a0 o q2 q3 q4 q5 f j b c b c m false b0 (U8 h [0, 1, 2, 3, 4, 5, 6] rfl rfl) (fun w hm => a3 w (SP.through h (l := [0, 1, 2, 3, 4, 5, 6]) rfl hm)) p b1) ?_
 rintro e b2 ⟨rfl, a1⟩
 refine ⟨_, rfl, ?_⟩
 have a2 : SP S w0 b2 [Q6 g1 79 #[(.int .i64 q2), (.int .i64 q3), (.int .i64 q4), (.int .i64 q5), (.slice A7 (List.length (List.map stT f)) c8), (.map (some a))], Zv a j, Q6 q 29 #[(pt g1 0)], Q6 s 9 #[(.string ⟨List.toArray b⟩)], Q6 u 9 #[(.string ⟨List.toArray c⟩)], Q6 a0 2 #[(.int .i64 m)], Q6 o 4 #[(.bool p)]] := Xx h [0, 1, 2, 3, 4, 5, 6] [] rfl rfl a1 rfl
 clear a1
 refine iF ?_
 refine aQ ?_
 refine aR ?_
 refine iS 1 ?_
 refine sL 4 9 o 0 6 (.bool p) 15 a2 rfl ?_
 refine iR 1 2 [(8, (.bool p))] ?_
 refine iF ?_
 refine At.ret K ?_
 refine ⟨(.bool p), K, ?_⟩
 obtain rfl := Qm H
 exact ⟨rfl, SP.sel a2 [0,1] rfl rfl⟩
def Yn (q2 : Int) (q3 : Int) (q4 : Int) (q5 : Int) (q6 : (List Qk)) (c : Jr) (a : (List UInt8)) (b : (List UInt8)) (d : (List UInt8)) : Option ((List UInt8)) :=
  ((Xc q2 q3 q4 q5 q6 c a b a b d ([] : List UInt8)).bind fun e => (some (e)))
set_option maxRecDepth 100000 in
set_option maxHeartbeats 4000000 in
theorem Jd {S : List Nat} (g1 : Nat) (A7 : Option Addr) (c8 : Nat) (a : Nat) (q2 : Int) (q3 : Int) (q4 : Int) (q5 : Int) (f : (List Vo)) (h : Jr) (b : (List UInt8)) (c : (List UInt8)) (j : (List UInt8)) (w0 : World) (hO : SP S w0 w0 [Q6 g1 79 #[(.int .i64 q2), (.int .i64 q3), (.int .i64 q4), (.int .i64 q5), (.slice A7 (List.length (List.map stT f)) c8), (.map (some a))], Zv a h]) (a2 : ∀ w, Mod S w0 w → (dDS Ux Cv).ok w (A7, c8, f)) (r : ((List UInt8))) (H : Yn q2 q3 q4 q5 (List.map stT f) h b c j = some r) :
  Calls Tryz.prog 24 #[(pt g1 0), (.string ⟨List.toArray b⟩), (.string ⟨List.toArray c⟩), (.string ⟨List.toArray j⟩)] w0 (fun e w' => e = .returned (.string ⟨List.toArray r⟩) ∧ SP S w0 w' [Q6 g1 79 #[(.int .i64 q2), (.int .i64 q3), (.int .i64 q4), (.int .i64 q5), (.slice A7 (List.length (List.map stT f)) c8), (.map (some a))], Zv a h]) := by
 unfold Yn at H
 refine Qv (n := 16) Tryz.func24 K K K ?_
 have a3 := hO
 refine aQ ?_
 refine aR ?_
 refine iS 1 ?_
 refine V5 (t := 9) (x := (.tmp 1)) (v := (.string ⟨List.toArray b⟩)) (d := (some 5)) (k := 0) K rfl K a3 ?_
 intro q b1 a4
 refine iS 2 ?_
 refine V5 (t := 9) (x := (.tmp 2)) (v := (.string ⟨List.toArray c⟩)) (d := (some 6)) (k := 1) K rfl K a4 ?_
 intro s b2 a5
 refine iS 3 ?_
 refine V5 (t := 9) (x := (.tmp 3)) (v := (.string ⟨List.toArray j⟩)) (d := (some 7)) (k := 2) K rfl K a5 ?_
 intro u b3 a6
 refine iR 1 4 [(8, (.string ⟨List.toArray ([] : List UInt8)⟩))] ?_
 refine iF ?_
 refine aQ ?_
 refine aR ?_
 refine iS 1 ?_
 refine Qj.alloc (t := 9) (z := (.string ⟨List.toArray ([] : List UInt8)⟩)) (d := (some 9)) (k := 0) K rfl K a6 ?_
 intro m b4 a7
 refine iS 2 ?_
 refine Qj.store (t := 9) (x := (.tmp 9)) (y := (.const (.string ⟨List.toArray ([] : List UInt8)⟩))) (g := m) (off := 0) (i := 5) (v := (.string ⟨List.toArray ([] : List UInt8)⟩)) (cs' := #[(.string ⟨List.toArray ([] : List UInt8)⟩)]) (d := none) (k := 1) K rfl K K a7 rfl K ?_
 intro a8 o
 refine iF ?_
 refine aQ ?_
 refine aR ?_
 refine iR 1 1 [(10, (pt g1 0))] ?_
 refine iS 2 ?_
 refine sL 9 5 q 0 2 (.string ⟨List.toArray b⟩) 11 o rfl ?_
 refine iS 3 ?_
 refine sL 9 6 s 0 3 (.string ⟨List.toArray c⟩) 12 o rfl ?_
 refine iR 1 4 [(13, (.func (.func 50) #[] #[(pt q 0), (pt s 0), (pt u 0), (pt m 0)]))] ?_
 obtain ⟨p, a9, H⟩ := Qf H
 refine iS 5 ?_
 refine cF 45 #[(.tmp 10), (.tmp 11), (.tmp 12), (.tmp 13)] #[29, 9, 9, 84] 14 Tryz.call45 (Ug g1 A7 c8 a q s u m q2 q3 q4 q5 f h b c b c j ([] : List UInt8) a8 (U8 o [0, 1, 2, 3, 4, 5] rfl rfl) (fun w hm => a2 w (SP.through o (l := [0, 1, 2, 3, 4, 5]) rfl hm)) p a9) ?_
 rintro e b0 ⟨rfl, a0⟩
 refine ⟨_, rfl, ?_⟩
 have a1 : SP S w0 b0 [Q6 g1 79 #[(.int .i64 q2), (.int .i64 q3), (.int .i64 q4), (.int .i64 q5), (.slice A7 (List.length (List.map stT f)) c8), (.map (some a))], Zv a h, Q6 q 9 #[(.string ⟨List.toArray b⟩)], Q6 s 9 #[(.string ⟨List.toArray c⟩)], Q6 u 9 #[(.string ⟨List.toArray j⟩)], Q6 m 9 #[(.string ⟨List.toArray p⟩)]] := Xx o [0, 1, 2, 3, 4, 5] [] rfl rfl a0 rfl
 clear a0
 refine iF ?_
 refine aQ ?_
 refine aR ?_
 refine iS 1 ?_
 refine sL 9 9 m 0 5 (.string ⟨List.toArray p⟩) 15 a1 rfl ?_
 refine iR 1 2 [(8, (.string ⟨List.toArray p⟩))] ?_
 refine iF ?_
 refine At.ret K ?_
 refine ⟨(.string ⟨List.toArray p⟩), K, ?_⟩
 obtain rfl := Qm H
 exact ⟨rfl, SP.sel a1 [0,1] rfl rfl⟩
def Yb (a : Bool) : Option (Int) :=
  (cond a (some (101)) (some (0)))
def Xh (q2 : Int) (q3 : Int) (q4 : Int) (q5 : Int) (q6 : (List Qk)) (b : Jr) (c : (List UInt8)) (d : (List UInt8)) (f : (List UInt8)) (e : (List UInt8)) (g : Int) : Option (Int) :=
  ((Ym q2 q3 q4 q5 q6 b c d g).bind fun h => (cond (!h) (some (3)) ((Yn q2 q3 q4 q5 q6 b c d f).bind fun a => (cond (a == ([] : List UInt8)) (Yb true) ((chk (Nat.ble (List.length a) 281474976710656)).bind fun _ => ((chk (Nat.ble (List.length e) 281474976710656)).bind fun _ => ((Bx a e).bind fun i => (Yb (!i)))))))))
set_option maxRecDepth 100000 in
set_option maxHeartbeats 4000000 in
theorem Xq {S : List Nat} (g1 : Nat) (A7 : Option Addr) (c8 : Nat) (c : Nat) (q2 : Int) (q3 : Int) (q4 : Int) (q5 : Int) (g : (List Vo)) (h : Jr) (j : (List UInt8)) (m : (List UInt8)) (s : (List UInt8)) (p : (List UInt8)) (u : Int) (w0 : World) (hO : SP S w0 w0 [Q6 g1 79 #[(.int .i64 q2), (.int .i64 q3), (.int .i64 q4), (.int .i64 q5), (.slice A7 (List.length (List.map stT g)) c8), (.map (some c))], Zv c h]) (a8 : ∀ w, Mod S w0 w → (dDS Ux Cv).ok w (A7, c8, g)) (r : (Int)) (H : Xh q2 q3 q4 q5 (List.map stT g) h j m s p u = some r) :
  Calls Tryz.prog 26 #[(pt g1 0), (.string ⟨List.toArray j⟩), (.string ⟨List.toArray m⟩), (.string ⟨List.toArray s⟩), (.string ⟨List.toArray p⟩), (.int .i64 u)] w0 (fun e w' => e = .returned (.int .i64 r) ∧ SP S w0 w' [Q6 g1 79 #[(.int .i64 q2), (.int .i64 q3), (.int .i64 q4), (.int .i64 q5), (.slice A7 (List.length (List.map stT g)) c8), (.map (some c))], Zv c h]) := by
 unfold Xh at H
 refine Qv (n := 35) Tryz.func26 K K K ?_
 have a0 := hO
 refine aQ ?_
 refine aR ?_
 refine iR 1 1 [(12, (.int .i64 0))] ?_
 refine iF ?_
 refine aQ ?_
 refine aQ ?_
 refine aR ?_
 refine iR 4 4 [(14, (pt g1 0)), (15, (.string ⟨List.toArray j⟩)), (16, (.string ⟨List.toArray m⟩)), (17, (.int .i64 u))] ?_
 obtain ⟨a1, c0, H⟩ := Qf H
 refine iS 5 ?_
 refine cF 22 #[(.tmp 14), (.tmp 15), (.tmp 16), (.tmp 17)] #[29, 9, 9, 2] 18 Tryz.call22 (Jc g1 A7 c8 c q2 q3 q4 q5 g h j m u w0 (U8 a0 [0, 1] rfl rfl) (fun w hm => a8 w (SP.through a0 (l := [0, 1]) rfl hm)) a1 c0) ?_
 rintro e a9 ⟨rfl, b0⟩
 refine ⟨_, rfl, ?_⟩
 have v : SP S w0 a9 [Q6 g1 79 #[(.int .i64 q2), (.int .i64 q3), (.int .i64 q4), (.int .i64 q5), (.slice A7 (List.length (List.map stT g)) c8), (.map (some c))], Zv c h] := Xx a0 [0, 1] [] rfl rfl b0 rfl
 clear b0
 refine iR 1 6 [(19, (.bool (!a1)))] ?_
 refine iF ?_
 refine Zi K (o := (.tmp 19)) K (b := (!a1)) K (fun a2 => ?_) (fun a2 => ?_)
 ·have H := ct H a2
  refine aQ ?_
  refine aR ?_
  refine iR 1 1 [(12, (.int .i64 3))] ?_
  refine iF ?_
  refine At.ret K ?_
  refine ⟨(.int .i64 3), K, ?_⟩
  obtain rfl := Qm H
  exact ⟨rfl, SP.sel v [0,1] rfl rfl⟩
 ·have H := cf H a2
  refine At.skip K ?_
  refine aQ ?_
  refine aQ ?_
  refine aR ?_
  refine iR 4 4 [(20, (pt g1 0)), (21, (.string ⟨List.toArray j⟩)), (22, (.string ⟨List.toArray m⟩)), (23, (.string ⟨List.toArray s⟩))] ?_
  obtain ⟨f, c1, H⟩ := Qf H
  refine iS 5 ?_
  refine cF 24 #[(.tmp 20), (.tmp 21), (.tmp 22), (.tmp 23)] #[29, 9, 9, 9] 24 Tryz.call24 (Jd g1 A7 c8 c q2 q3 q4 q5 g h j m s a9 (U8 v [0, 1] rfl rfl) (fun w hm => a8 w (SP.through v (l := [0, 1]) rfl hm)) f c1) ?_
  rintro e c2 ⟨rfl, b1⟩
  refine ⟨_, rfl, ?_⟩
  have b2 : SP S w0 c2 [Q6 g1 79 #[(.int .i64 q2), (.int .i64 q3), (.int .i64 q4), (.int .i64 q5), (.slice A7 (List.length (List.map stT g)) c8), (.map (some c))], Zv c h] := Xx v [0, 1] [] rfl rfl b1 rfl
  clear b1
  refine iR 1 6 [(13, (.string ⟨List.toArray f⟩))] ?_
  refine iF ?_
  refine aQ ?_
  refine At.join (fun ρ w => ∃ (q : Bool), V8 ρ [(34, (.bool q))] ∧ SP S w0 w [Q6 g1 79 #[(.int .i64 q2), (.int .i64 q3), (.int .i64 q4), (.int .i64 q5), (.slice A7 (List.length (List.map stT g)) c8), (.map (some c))], Zv c h] ∧ Yb q = some r) ?_ ?_
  ·refine aR ?_
   refine iR 1 1 [(25, (.string ⟨List.toArray f⟩))] ?_
   refine iS 2 ?_
   refine Xe (op := .eql) (T := 9) (T' := 9) (x := (.tmp 25)) (y := (.const (.string ⟨List.toArray ([] : List UInt8)⟩))) (a := f) (b := ([] : List UInt8)) (r := (.bool (f == ([] : List UInt8)))) (d := (some 26)) (k := 1) K rfl K K rfl ?_
   refine iR 1 3 [(27, (.bool (f == ([] : List UInt8))))] ?_
   refine In.guard (t := 27) (b := (f == ([] : List UInt8))) K (fun a3 => ?_) (fun a3 => ?_)
   ·have H := ct H a3
    refine iR 7 10 [(28, undef), (29, undef), (30, undef), (31, undef), (32, undef), (33, undef), (34, (.bool true))] ?_
    refine iF ?_
    exact ⟨true, ⟨K, trivial⟩, SP.sel b2 [0, 1] rfl rfl, H⟩
   ·have H := cf H a3
    refine iR 1 4 [(28, (.string ⟨List.toArray f⟩))] ?_
    obtain ⟨c3, H⟩ := Vv H
    refine iS 5 ?_
    refine R7 (S' := 9) (T := 52) (E := 5) (x := (.tmp 28)) (l := f) (d := (some 29)) (k := 4) K rfl K K K K (R9 c3) b2 ?_
    intro a4 a5 c4 b3 _
    have c5 : SP S w0 c4 [Q6 g1 79 #[(.int .i64 q2), (.int .i64 q3), (.int .i64 q4), (.int .i64 q5), (.slice A7 (List.length (List.map stT g)) c8), (.map (some c))], Zv c h, rdE eU8 (some ⟨a4, 0, none⟩) a5 f] := b3
    clear b3
    refine iR 1 6 [(30, (.string ⟨List.toArray p⟩))] ?_
    obtain ⟨c6, H⟩ := Vv H
    refine iS 7 ?_
    refine R7 (S' := 9) (T := 52) (E := 5) (x := (.tmp 30)) (l := p) (d := (some 31)) (k := 6) K rfl K K K K (R9 c6) c5 ?_
    intro b4 b5 b6 b7 _
    have a6 : SP S w0 b6 [Q6 g1 79 #[(.int .i64 q2), (.int .i64 q3), (.int .i64 q4), (.int .i64 q5), (.slice A7 (List.length (List.map stT g)) c8), (.map (some c))], Zv c h, rdE eU8 (some ⟨a4, 0, none⟩) a5 f, rdE eU8 (some ⟨b4, 0, none⟩) b5 p] := b7
    clear b7
    obtain ⟨z, c7, H⟩ := Qf H
    refine iS 8 ?_
    refine cF 52 #[(.tmp 29), (.tmp 31)] #[52, 52] 32 Tryz.call52 (Ct (some ⟨a4, 0, none⟩) a5 (some ⟨b4, 0, none⟩) b5 f p b6 (Hg (SP.get a6 (i := 2) rfl)) (Hg (SP.get a6 (i := 3) rfl)) z c7) ?_
    rintro e d0 ⟨rfl, b8⟩
    refine ⟨_, rfl, ?_⟩
    have c9 := SP.call a6 b8
    clear b8
    refine iR 2 10 [(33, (.bool (!z))), (34, (.bool (!z)))] ?_
    refine iF ?_
    exact ⟨(!z), ⟨K, trivial⟩, SP.sel c9 [0, 1] rfl rfl, H⟩
  ·rintro ρ d1 ⟨q, hk, b9, H⟩
   unfold Yb at H
   first | refine At.known [(34, (.bool q))] hk ?_ | rw [← Va (l := [(34, (.bool q))]) hk]
   refine Zi K (o := (.tmp 34)) K (b := q) K (fun a7 => ?_) (fun a7 => ?_)
   ·have H := ct H a7
    refine aQ ?_
    refine aR ?_
    refine iR 1 1 [(12, (.int .i64 101))] ?_
    refine iF ?_
    refine At.ret K ?_
    refine ⟨(.int .i64 101), K, ?_⟩
    obtain rfl := Qm H
    exact ⟨rfl, SP.sel b9 [0,1] rfl rfl⟩
   ·have H := cf H a7
    refine At.skip K ?_
    refine aQ ?_
    refine aR ?_
    refine iR 1 1 [(12, (.int .i64 0))] ?_
    refine iF ?_
    refine At.ret K ?_
    refine ⟨(.int .i64 0), K, ?_⟩
    obtain rfl := Qm H
    exact ⟨rfl, SP.sel b9 [0,1] rfl rfl⟩
end Go.Proofs.YtmgfanhcdfobhaaGreatDoor
namespace Go.Proofs.YtmgfanhcdfobhaaGreatDoor
open Go.RowKit
def Zx (b : Int → Option (Bool)) (p1 : (List (Int × (List UInt8) × (List UInt8) × (List UInt8) × (List UInt8) × Int))) (a : Int) (c : Bool) : Option (Bool) :=
  (cond c ((idx p1 a).bind fun d => ((idx p1 a).bind fun e => ((idx p1 a).bind fun f => ((idx p1 a).bind fun g => (cond (decide ((IntKind.wrap .i64 ((IntKind.wrap .i64 ((IntKind.wrap .i64 (((List.length d.2.1 : Nat) : Int) + ((List.length e.2.2.1 : Nat) : Int))) + ((List.length f.2.2.2.1 : Nat) : Int))) + ((List.length g.2.2.2.2.1 : Nat) : Int))) > 2000)) (some (true)) (b (IntKind.wrap .i64 (a + 1)))))))) (some ((decide (((List.length p1 : Nat) : Int) > 100)))))
def Zo (b : Int → Option (Bool)) (p1 : (List (Int × (List UInt8) × (List UInt8) × (List UInt8) × (List UInt8) × Int))) (a : Int) : Option (Bool) :=
  (cond (decide (a < ((List.length p1 : Nat) : Int))) (Zx b p1 a (decide (a < 200))) (Zx b p1 a false))
def V6 (p1 : (List (Int × (List UInt8) × (List UInt8) × (List UInt8) × (List UInt8) × Int))) : Nat → Int → Option (Bool)
  | 0, _ => none
  | f + 1, a => Zo  (V6 p1 f) p1 a
def Je (p1 : (List (Int × (List UInt8) × (List UInt8) × (List UInt8) × (List UInt8) × Int))) : Option (Bool) :=
  (V6 p1 Z0 0)
set_option maxRecDepth 100000 in
set_option maxHeartbeats 4000000 in
theorem G9 (A2 : Option Addr) (c3 : Nat) (p1 : (List (Int × (List UInt8) × (List UInt8) × (List UInt8) × (List UInt8) × Int))) (w0 : World) (m : RdT (Qi (Qc .i64) (Qi Qy (Qi Qy (Qi Qy (Qi Qy (Qc .i64)))))) w0 A2 c3 p1) (r : (Bool)) (H : Je p1 = some r) :
  Calls Tryz.prog 17 #[(.slice A2 (List.length p1) c3)] w0 (fun e w' => e = .returned (.bool r) ∧ SP [] w0 w' []) := by
 unfold Je at H
 refine Qv (n := 45) Tryz.func17 K K K ?_
 have b7 := Q1 [] w0
 refine aQ ?_
 refine aR ?_
 refine iR 1 1 [(2, (.bool false))] ?_
 refine iF ?_
 refine aQ ?_
 refine aQ ?_
 refine aR ?_
 refine iR 1 1 [(3, (.int .i64 0))] ?_
 refine iF ?_
 refine Zj K (id := 0) K ?_
 refine Jk K (fun f3 ρ w => ∃ (a : Int), V8 ρ [(0, (.slice A2 (List.length p1) c3)), (3, (.int .i64 a))] ∧ SP [] w0 w [] ∧ V6 p1 f3 a = some r) (by rintro ρ w ⟨a, hk, hs, H⟩; cases H) ?_ Z0 ?_
 ·rintro f3 ρ g9 ⟨a, hk, z, H⟩
  refine At.known [(0, (.slice A2 (List.length p1) c3)), (3, (.int .i64 a))] hk ?_
  replace H := (show Zo (V6 p1 f3) p1 a = some r from H)
  unfold Zo at H
  refine aQ ?_
  refine aQ ?_
  refine At.join (fun ρ w => ∃ (p : Bool), V8 ρ [(0, (.slice A2 (List.length p1) c3)), (3, (.int .i64 a)), (11, (.bool p))] ∧ SP [] w0 w [] ∧ Zx (V6 p1 f3) p1 a p = some r) ?_ ?_
  ·refine aR ?_
   refine iR 5 5 [(4, (.int .i64 a)), (5, (.slice A2 (List.length p1) c3)), (6, (.int .i64 ((List.length p1 : Nat) : Int))), (7, (.bool (decide (a < ((List.length p1 : Nat) : Int))))), (8, (.bool (decide (a < ((List.length p1 : Nat) : Int)))))] ?_
   refine In.guard (t := 8) (b := (decide (a < ((List.length p1 : Nat) : Int)))) K (fun q => ?_) (fun q => ?_)
   ·have H := ct H q
    refine iR 3 8 [(9, (.int .i64 a)), (10, (.bool (decide (a < 200)))), (11, (.bool (decide (a < 200))))] ?_
    refine iF ?_
    exact ⟨(decide (a < 200)), ⟨K, K, K, trivial⟩, SP.sel z [] rfl rfl, H⟩
   ·have H := cf H q
    refine iR 3 8 [(9, undef), (10, undef), (11, (.bool false))] ?_
    refine iF ?_
    exact ⟨false, ⟨K, K, K, trivial⟩, SP.sel z [] rfl rfl, H⟩
  ·rintro ρ h1 ⟨p, hk, a0, H⟩
   unfold Zx at H
   first | refine At.known [(0, (.slice A2 (List.length p1) c3)), (3, (.int .i64 a)), (11, (.bool p))] hk ?_ | rw [← Va (l := [(0, (.slice A2 (List.length p1) c3)), (3, (.int .i64 a)), (11, (.bool p))]) hk]
   refine Zi K (o := (.tmp 11)) K (b := p) K (fun s => ?_) (fun s => ?_)
   ·have H := ct H s
    refine At.skip K ?_
    refine aQ ?_
    refine Zj K (id := 1) K ?_
    refine aQ ?_
    obtain ⟨f, a1, a2, b8, H⟩ := Qn H
    obtain ⟨g, a3, a4, b9, H⟩ := Qn H
    obtain ⟨h, a5, a6, c0, H⟩ := Qn H
    obtain ⟨i, a7, a8, c1, H⟩ := Qn H
    refine aG [GEq (.slice A2 (List.length p1) c3), GEq (.int .i64 a), Vs A2 (Qi (Qc .i64) (Qi Qy (Qi Qy (Qi Qy (Qi Qy (Qc .i64)))))).sz a, GElem A2 (Qi (Qc .i64) (Qi Qy (Qi Qy (Qi Qy (Qi Qy (Qc .i64)))))).sz a 1, GEq (.string ⟨List.toArray f.2.1⟩), GEq (.int .i64 ((List.length f.2.1 : Nat) : Int)), GEq (.slice A2 (List.length p1) c3), GEq (.int .i64 a), Vs A2 (Qi (Qc .i64) (Qi Qy (Qi Qy (Qi Qy (Qi Qy (Qc .i64)))))).sz a, GElem A2 (Qi (Qc .i64) (Qi Qy (Qi Qy (Qi Qy (Qi Qy (Qc .i64)))))).sz a 2, GEq (.string ⟨List.toArray g.2.2.1⟩), GEq (.int .i64 ((List.length g.2.2.1 : Nat) : Int)), GEq (.int .i64 (IntKind.wrap .i64 (((List.length f.2.1 : Nat) : Int) + ((List.length g.2.2.1 : Nat) : Int)))), GEq (.slice A2 (List.length p1) c3), GEq (.int .i64 a), Vs A2 (Qi (Qc .i64) (Qi Qy (Qi Qy (Qi Qy (Qi Qy (Qc .i64)))))).sz a, GElem A2 (Qi (Qc .i64) (Qi Qy (Qi Qy (Qi Qy (Qi Qy (Qc .i64)))))).sz a 3, GEq (.string ⟨List.toArray h.2.2.2.1⟩), GEq (.int .i64 ((List.length h.2.2.2.1 : Nat) : Int)), GEq (.int .i64 (IntKind.wrap .i64 ((IntKind.wrap .i64 (((List.length f.2.1 : Nat) : Int) + ((List.length g.2.2.1 : Nat) : Int))) + ((List.length h.2.2.2.1 : Nat) : Int)))), GEq (.slice A2 (List.length p1) c3), GEq (.int .i64 a), Vs A2 (Qi (Qc .i64) (Qi Qy (Qi Qy (Qi Qy (Qi Qy (Qc .i64)))))).sz a, GElem A2 (Qi (Qc .i64) (Qi Qy (Qi Qy (Qi Qy (Qi Qy (Qc .i64)))))).sz a 4, GEq (.string ⟨List.toArray i.2.2.2.2.1⟩), GEq (.int .i64 ((List.length i.2.2.2.2.1 : Nat) : Int)), GEq (.int .i64 (IntKind.wrap .i64 ((IntKind.wrap .i64 ((IntKind.wrap .i64 (((List.length f.2.1 : Nat) : Int) + ((List.length g.2.2.1 : Nat) : Int))) + ((List.length h.2.2.2.1 : Nat) : Int))) + ((List.length i.2.2.2.2.1 : Nat) : Int)))), GEq (.bool (decide ((IntKind.wrap .i64 ((IntKind.wrap .i64 ((IntKind.wrap .i64 (((List.length f.2.1 : Nat) : Int) + ((List.length g.2.2.1 : Nat) : Int))) + ((List.length h.2.2.2.1 : Nat) : Int))) + ((List.length i.2.2.2.2.1 : Nat) : Int))) > 2000)))] [] (tG [] w0 [] [([], [])]) 28 0 ⟨trivial, SP.drew a0⟩ ?_ ?_
    iterate 28 refine And.intro ?_ ?_
    exact trivial
    ·exact oV (hC (hS 0 (.slice A2 (List.length p1) c3)) (h0)) (.slice A2 (List.length p1) c3)
    ·exact oV (hC (hS 3 (.int .i64 a)) (h0)) (.int .i64 a)
    ·refine oL 0 ?_
     ·rintro ρ' w' hs hah ⟨h2, c2⟩
      refine kM (kc (kA hah 0 14) (kc (kA hah 1 15) k0)) fun hkn => ?_
      refine Vj (e := (Qi (Qc .i64) (Qi Qy (Qi Qy (Qi Qy (Qi Qy (Qc .i64))))))) (l := p1) (A := A2) (c := c3) (T := 25) (E := 34) (x := (.tmp 14)) (ix := (.tmp 15)) (ki := .i64) (iz := a) (d := (some 16)) (k := 2) K rfl K K K K (RdT.sp m c2) a1 a2 ?_
      intro c4 c5 c6 h3 hc282
      exact ⟨rfl, _, Qa hkn, ⟨c4, c5, c6, rfl⟩⟩
    ·refine oL 0 ?_
     ·rintro ρ' w' hs hah ⟨h4, h5⟩
      obtain ⟨a9, b0, c7, c8⟩ := hah 2 16 K
      refine kM (kc c8 k0) fun hkn => ?_
      refine Qj.run (k := 3) (v := (.pointer (some ⟨a9, (b0 + Int.toNat a * (Qi (Qc .i64) (Qi Qy (Qi Qy (Qi Qy (Qi Qy (Qc .i64)))))).sz + 1), none⟩))) K ?_
      exact ⟨rfl, _, Qa hkn, ⟨a9, b0, c7, rfl⟩⟩
    ·refine oL 0 ?_
     ·rintro ρ' w' hs hah ⟨h6, c9⟩
      obtain ⟨d0, d1, d2, d3⟩ := hah 3 17 K
      refine kM (kc d3 k0) fun hkn => ?_
      refine sC 9 17 d0 (d1 + Int.toNat a * (Qi (Qc .i64) (Qi Qy (Qi Qy (Qi Qy (Qi Qy (Qc .i64)))))).sz + 1) (.string ⟨List.toArray f.2.1⟩) 18 (Qh (e := (Qi (Qc .i64) (Qi Qy (Qi Qy (Qi Qy (Qi Qy (Qc .i64))))))) (Qe (RdT.sp m c9) d2 a1 a2) b8 (j := 1) rfl) ?_
      exact eK hkn
    ·exact oV (hC (hA 4 18) (h0)) (.int .i64 ((List.length f.2.1 : Nat) : Int))
    ·exact oV (hC (hS 0 (.slice A2 (List.length p1) c3)) (h0)) (.slice A2 (List.length p1) c3)
    ·exact oV (hC (hS 3 (.int .i64 a)) (h0)) (.int .i64 a)
    ·refine oL 0 ?_
     ·rintro ρ' w' hs hah ⟨h7, d4⟩
      refine kM (kc (kA hah 6 20) (kc (kA hah 7 21) k0)) fun hkn => ?_
      refine Vj (e := (Qi (Qc .i64) (Qi Qy (Qi Qy (Qi Qy (Qi Qy (Qc .i64))))))) (l := p1) (A := A2) (c := c3) (T := 25) (E := 34) (x := (.tmp 20)) (ix := (.tmp 21)) (ki := .i64) (iz := a) (d := (some 22)) (k := 8) K rfl K K K K (RdT.sp m d4) a3 a4 ?_
      intro d5 d6 d7 h8 hc299
      exact ⟨rfl, _, Qa hkn, ⟨d5, d6, d7, rfl⟩⟩
    ·refine oL 0 ?_
     ·rintro ρ' w' hs hah ⟨h9, i0⟩
      obtain ⟨b1, b2, d8, d9⟩ := hah 8 22 K
      refine kM (kc d9 k0) fun hkn => ?_
      refine Qj.run (k := 9) (v := (.pointer (some ⟨b1, (b2 + Int.toNat a * (Qi (Qc .i64) (Qi Qy (Qi Qy (Qi Qy (Qi Qy (Qc .i64)))))).sz + 2), none⟩))) K ?_
      exact ⟨rfl, _, Qa hkn, ⟨b1, b2, d8, rfl⟩⟩
    ·refine oL 0 ?_
     ·rintro ρ' w' hs hah ⟨i1, e0⟩
      obtain ⟨e1, e2, e3, e4⟩ := hah 9 23 K
      refine kM (kc e4 k0) fun hkn => ?_
      refine sC 9 23 e1 (e2 + Int.toNat a * (Qi (Qc .i64) (Qi Qy (Qi Qy (Qi Qy (Qi Qy (Qc .i64)))))).sz + 2) (.string ⟨List.toArray g.2.2.1⟩) 24 (Qh (e := (Qi (Qc .i64) (Qi Qy (Qi Qy (Qi Qy (Qi Qy (Qc .i64))))))) (Qe (RdT.sp m e0) e3 a3 a4) b9 (j := 2) rfl) ?_
      exact eK hkn
    ·exact oV (hC (hA 10 24) (h0)) (.int .i64 ((List.length g.2.2.1 : Nat) : Int))
    ·exact oV (hC (hA 5 19) (hC (hA 11 25) (h0))) (.int .i64 (IntKind.wrap .i64 (((List.length f.2.1 : Nat) : Int) + ((List.length g.2.2.1 : Nat) : Int))))
    ·exact oV (hC (hS 0 (.slice A2 (List.length p1) c3)) (h0)) (.slice A2 (List.length p1) c3)
    ·exact oV (hC (hS 3 (.int .i64 a)) (h0)) (.int .i64 a)
    ·refine oL 0 ?_
     ·rintro ρ' w' hs hah ⟨i2, e5⟩
      refine kM (kc (kA hah 13 27) (kc (kA hah 14 28) k0)) fun hkn => ?_
      refine Vj (e := (Qi (Qc .i64) (Qi Qy (Qi Qy (Qi Qy (Qi Qy (Qc .i64))))))) (l := p1) (A := A2) (c := c3) (T := 25) (E := 34) (x := (.tmp 27)) (ix := (.tmp 28)) (ki := .i64) (iz := a) (d := (some 29)) (k := 15) K rfl K K K K (RdT.sp m e5) a5 a6 ?_
      intro e6 e7 e8 i3 hc316
      exact ⟨rfl, _, Qa hkn, ⟨e6, e7, e8, rfl⟩⟩
    ·refine oL 0 ?_
     ·rintro ρ' w' hs hah ⟨i4, i5⟩
      obtain ⟨b3, b4, e9, f0⟩ := hah 15 29 K
      refine kM (kc f0 k0) fun hkn => ?_
      refine Qj.run (k := 16) (v := (.pointer (some ⟨b3, (b4 + Int.toNat a * (Qi (Qc .i64) (Qi Qy (Qi Qy (Qi Qy (Qi Qy (Qc .i64)))))).sz + 3), none⟩))) K ?_
      exact ⟨rfl, _, Qa hkn, ⟨b3, b4, e9, rfl⟩⟩
    ·refine oL 0 ?_
     ·rintro ρ' w' hs hah ⟨i6, f1⟩
      obtain ⟨f2, f4, f5, f6⟩ := hah 16 30 K
      refine kM (kc f6 k0) fun hkn => ?_
      refine sC 9 30 f2 (f4 + Int.toNat a * (Qi (Qc .i64) (Qi Qy (Qi Qy (Qi Qy (Qi Qy (Qc .i64)))))).sz + 3) (.string ⟨List.toArray h.2.2.2.1⟩) 31 (Qh (e := (Qi (Qc .i64) (Qi Qy (Qi Qy (Qi Qy (Qi Qy (Qc .i64))))))) (Qe (RdT.sp m f1) f5 a5 a6) c0 (j := 3) rfl) ?_
      exact eK hkn
    ·exact oV (hC (hA 17 31) (h0)) (.int .i64 ((List.length h.2.2.2.1 : Nat) : Int))
    ·exact oV (hC (hA 12 26) (hC (hA 18 32) (h0))) (.int .i64 (IntKind.wrap .i64 ((IntKind.wrap .i64 (((List.length f.2.1 : Nat) : Int) + ((List.length g.2.2.1 : Nat) : Int))) + ((List.length h.2.2.2.1 : Nat) : Int))))
    ·exact oV (hC (hS 0 (.slice A2 (List.length p1) c3)) (h0)) (.slice A2 (List.length p1) c3)
    ·exact oV (hC (hS 3 (.int .i64 a)) (h0)) (.int .i64 a)
    ·refine oL 0 ?_
     ·rintro ρ' w' hs hah ⟨i7, f7⟩
      refine kM (kc (kA hah 20 34) (kc (kA hah 21 35) k0)) fun hkn => ?_
      refine Vj (e := (Qi (Qc .i64) (Qi Qy (Qi Qy (Qi Qy (Qi Qy (Qc .i64))))))) (l := p1) (A := A2) (c := c3) (T := 25) (E := 34) (x := (.tmp 34)) (ix := (.tmp 35)) (ki := .i64) (iz := a) (d := (some 36)) (k := 22) K rfl K K K K (RdT.sp m f7) a7 a8 ?_
      intro f8 f9 g0 i8 hc333
      exact ⟨rfl, _, Qa hkn, ⟨f8, f9, g0, rfl⟩⟩
    ·refine oL 0 ?_
     ·rintro ρ' w' hs hah ⟨i9, j0⟩
      obtain ⟨b5, b6, g1, g2⟩ := hah 22 36 K
      refine kM (kc g2 k0) fun hkn => ?_
      refine Qj.run (k := 23) (v := (.pointer (some ⟨b5, (b6 + Int.toNat a * (Qi (Qc .i64) (Qi Qy (Qi Qy (Qi Qy (Qi Qy (Qc .i64)))))).sz + 4), none⟩))) K ?_
      exact ⟨rfl, _, Qa hkn, ⟨b5, b6, g1, rfl⟩⟩
    ·refine oL 0 ?_
     ·rintro ρ' w' hs hah ⟨j1, g3⟩
      obtain ⟨g4, g5, g6, g7⟩ := hah 23 37 K
      refine kM (kc g7 k0) fun hkn => ?_
      refine sC 9 37 g4 (g5 + Int.toNat a * (Qi (Qc .i64) (Qi Qy (Qi Qy (Qi Qy (Qi Qy (Qc .i64)))))).sz + 4) (.string ⟨List.toArray i.2.2.2.2.1⟩) 38 (Qh (e := (Qi (Qc .i64) (Qi Qy (Qi Qy (Qi Qy (Qi Qy (Qc .i64))))))) (Qe (RdT.sp m g3) g6 a7 a8) c1 (j := 4) rfl) ?_
      exact eK hkn
    ·exact oV (hC (hA 24 38) (h0)) (.int .i64 ((List.length i.2.2.2.2.1 : Nat) : Int))
    ·exact oV (hC (hA 19 33) (hC (hA 25 39) (h0))) (.int .i64 (IntKind.wrap .i64 ((IntKind.wrap .i64 ((IntKind.wrap .i64 (((List.length f.2.1 : Nat) : Int) + ((List.length g.2.2.1 : Nat) : Int))) + ((List.length h.2.2.2.1 : Nat) : Int))) + ((List.length i.2.2.2.2.1 : Nat) : Int))))
    ·exact oV (hC (hA 26 40) (h0)) (.bool (decide ((IntKind.wrap .i64 ((IntKind.wrap .i64 ((IntKind.wrap .i64 (((List.length f.2.1 : Nat) : Int) + ((List.length g.2.2.1 : Nat) : Int))) + ((List.length h.2.2.2.1 : Nat) : Int))) + ((List.length i.2.2.2.2.1 : Nat) : Int))) > 2000)))
    ·rintro ρ' w' hs hf ⟨j2, u⟩
     refine Vh [(0, (.slice A2 (List.length p1) c3)), (3, (.int .i64 a)), (41, (.bool (decide ((IntKind.wrap .i64 ((IntKind.wrap .i64 ((IntKind.wrap .i64 (((List.length f.2.1 : Nat) : Int) + ((List.length g.2.2.1 : Nat) : Int))) + ((List.length h.2.2.2.1 : Nat) : Int))) + ((List.length i.2.2.2.2.1 : Nat) : Int))) > 2000))))] ⟨(hs 0 K).trans K, (hs 3 K).trans K, hf 27 41 K, trivial⟩ ?_
     obtain ⟨j3, g8⟩ : ∃ x, w' = x := ⟨_, rfl⟩
     rw [g8] at u ⊢
     refine Zi K (o := (.tmp 41)) K (b := (decide ((IntKind.wrap .i64 ((IntKind.wrap .i64 ((IntKind.wrap .i64 (((List.length f.2.1 : Nat) : Int) + ((List.length g.2.2.1 : Nat) : Int))) + ((List.length h.2.2.2.1 : Nat) : Int))) + ((List.length i.2.2.2.2.1 : Nat) : Int))) > 2000))) K (fun y => ?_) (fun y => ?_)
     ·have H := ct H y
      refine aQ ?_
      refine aR ?_
      refine iR 1 1 [(2, (.bool true))] ?_
      refine iF ?_
      refine At.ret K ?_
      refine ⟨(.bool true), K, ?_⟩
      obtain rfl := Qm H
      exact ⟨rfl, SP.sel u [] rfl rfl⟩
     ·have H := cf H y
      refine At.skip K ?_
      refine aR ?_
      refine iR 3 3 [(12, (.int .i64 a)), (13, (.int .i64 (IntKind.wrap .i64 (a + 1)))), (3, (.int .i64 (IntKind.wrap .i64 (a + 1))))] ?_
      refine iF ?_
      exact ⟨(IntKind.wrap .i64 (a + 1)), ⟨K, K, trivial⟩, SP.sel u [] rfl rfl, H⟩
   ·have H := cf H s
    refine At.exit K (id := 0) K ?_
    refine aQ ?_
    refine aR ?_
    refine iR 4 4 [(42, (.slice A2 (List.length p1) c3)), (43, (.int .i64 ((List.length p1 : Nat) : Int))), (44, (.bool (decide (((List.length p1 : Nat) : Int) > 100)))), (2, (.bool (decide (((List.length p1 : Nat) : Int) > 100))))] ?_
    refine iF ?_
    refine At.ret K ?_
    refine ⟨(.bool (decide (((List.length p1 : Nat) : Int) > 100))), K, ?_⟩
    obtain rfl := Qm H
    exact ⟨rfl, SP.sel a0 [] rfl rfl⟩
 ·exact ⟨0, ⟨K, K, trivial⟩, SP.sel b7 [] rfl rfl, H⟩
end Go.Proofs.YtmgfanhcdfobhaaGreatDoor
namespace Go.Proofs.YtmgfanhcdfobhaaGreatDoor
theorem F9 {α : Type} {P : α → Bool} {l : List α} {i : Nat} (hi : i < l.length) (hn : (l.take i).any P = false) (hx : P l[i] = true) : l.findIdx? P = some i := by
  rw [List.findIdx?_eq_some_iff_getElem]
  refine ⟨hi, hx, fun j hj => ?_⟩
  rw [List.any_eq_false] at hn
  have := hn l[j] (by rw [List.mem_take_iff_getElem]; exact ⟨j, by omega, rfl⟩)
  simpa using this
theorem Ha {α : Type} {P : α → Bool} {l : List α} (hn : l.any P = false) : l.findIdx? P = none := by
  rw [List.findIdx?_eq_none_iff]
  intro x hx
  rw [List.any_eq_false] at hn
  simpa using hn x hx
theorem Hb {α : Type} {P : α → Bool} {l : List α} {i : Nat} (hi : i < l.length) (hn : (l.take i).any P = false) (hx : P l[i] = false) : (l.take (i + 1)).any P = false := by
  rw [List.take_add_one, List.getElem?_eq_getElem hi, List.any_append, hn]
  simp [hx]
def ixI (o : Option Nat) : Int := match o with | some i => (i : Int) | none => -1
theorem H2 (l : List Qk) (P : Qk → Bool) (p : Str → Int → Int → List Hl → List B4 → Option Bool) (hp : ∀ x : Qk, p x.1 x.2.1 x.2.2.1 x.2.2.2.1 x.2.2.2.2 = some (P x)) (hl : l.length ≤ 140737488355328) :
    ∀ (d i f : Nat), d = l.length - i → i ≤ l.length → d < f → (l.take i).any P = false → Qo l p f (i : Int) = some (ixI (l.findIdx? P)) := by
  intro d
  induction d with
  | zero =>
    intro i f hd hi hf hn
    obtain ⟨f, rfl⟩ : ∃ g, f = g + 1 := ⟨f - 1, by omega⟩
    show Qq (Qo l p f) l p (i : Int) = _
    unfold Qq
    rw [List.take_of_length_le (by omega)] at hn
    rw [show decide ((i : Int) < ((l.length : Nat) : Int)) = false from decide_eq_false (by omega), cond_false, Ha hn]
    rfl
  | succ d ih =>
    intro i f hd hi hf hn
    obtain ⟨f, rfl⟩ : ∃ g, f = g + 1 := ⟨f - 1, by omega⟩
    have hlt : i < l.length := by omega
    show Qq (Qo l p f) l p (i : Int) = _
    unfold Qq
    rw [show decide ((i : Int) < ((l.length : Nat) : Int)) = true from decide_eq_true (by omega), cond_true, Jv hlt, Option.bind_some, hp, Option.bind_some]
    cases hx : P l[i] with
    | true => rw [cond_true, F9 hlt hn hx]; rfl
    | false =>
      rw [cond_false, show ((i : Int) + 1) = ((i + 1 : Nat) : Int) by omega, Gb (by omega)]
      exact ih (i + 1) f (by omega) (by omega) (by omega) (Hb hlt hn hx)
theorem H3 (l : List B4) (P : B4 → Bool) (p : Str → Str → Int → Option Bool) (hp : ∀ x : B4, p x.1 x.2.1 x.2.2 = some (P x)) (hl : l.length ≤ 140737488355328) :
    ∀ (d i f : Nat), d = l.length - i → i ≤ l.length → d < f → (l.take i).any P = false → Qp l p f (i : Int) = some (ixI (l.findIdx? P)) := by
  intro d
  induction d with
  | zero =>
    intro i f hd hi hf hn
    obtain ⟨f, rfl⟩ : ∃ g, f = g + 1 := ⟨f - 1, by omega⟩
    show Qs (Qp l p f) l p (i : Int) = _
    unfold Qs
    rw [List.take_of_length_le (by omega)] at hn
    rw [show decide ((i : Int) < ((l.length : Nat) : Int)) = false from decide_eq_false (by omega), cond_false, Ha hn]
    rfl
  | succ d ih =>
    intro i f hd hi hf hn
    obtain ⟨f, rfl⟩ : ∃ g, f = g + 1 := ⟨f - 1, by omega⟩
    have hlt : i < l.length := by omega
    show Qs (Qp l p f) l p (i : Int) = _
    unfold Qs
    rw [show decide ((i : Int) < ((l.length : Nat) : Int)) = true from decide_eq_true (by omega), cond_true, Jv hlt, Option.bind_some, hp, Option.bind_some]
    cases hx : P l[i] with
    | true => rw [cond_true, F9 hlt hn hx]; rfl
    | false =>
      rw [cond_false, show ((i : Int) + 1) = ((i + 1 : Nat) : Int) by omega, Gb (by omega)]
      exact ih (i + 1) f (by omega) (by omega) (by omega) (Hb hlt hn hx)
theorem pl_lt' {l : List Qk} {nm : Str} {k : Nat} (h : pl l nm = some k) : k < l.length := (List.findIdx?_eq_some_iff_getElem.1 h).1
theorem lFind (w g i e : Int) (l : List Qk) (nm : Str) (hl : l.length ≤ 140737488355328) : Ja w g i e l nm = some (B9 l nm) := by
  have h := H2 l (fun x => x.1 == nm) (fun y0 y1 y2 y3 y4 => J2 y0 y1 y2 y3 y4 nm) (fun x => rfl) hl l.length 0 Z0 (by omega) (by omega) (by unfold Z0; omega) rfl
  unfold Ja Q9
  rw [show ((0 : Nat) : Int) = 0 from rfl] at h
  rw [h, Option.bind_some]
  unfold B9
  show _ = some (match pl l nm with | some k => _ | none => _)
  rw [show l.findIdx? (fun x => x.1 == nm) = pl l nm from rfl]
  cases hp : pl l nm with
  | none => rfl
  | some k =>
    have hk := pl_lt' hp
    have hg : l.getD k Eo = l[k] := by simp [List.getD, hk]
    rw [show decide (ixI (some k) < 0) = false from decide_eq_false (by show ¬ ((k : Nat) : Int) < 0; omega), cond_false]
    show (idx l ((k : Nat) : Int)).bind _ = _
    rw [Jv hk, Option.bind_some]
    simp only [hg]
def tix (l : List B4) (nm : Str) : Option Nat := l.findIdx? (fun x => x.1 == nm)
def H4 : B4 := ([], [], 0)
def tokL (l : List B4) (nm : Str) : Str × Str × Int × Bool := match tix l nm with
  | some k => ((l.getD k H4).1, (l.getD k H4).2.1, (l.getD k H4).2.2, true)
  | none => ([], [], 0, false)
theorem tix_lt {l : List B4} {nm : Str} {k : Nat} (h : tix l nm = some k) : k < l.length := (List.findIdx?_eq_some_iff_getElem.1 h).1
theorem lTok (n : Str) (a b : Int) (ns : List Hl) (l : List B4) (nm : Str) (hl : l.length ≤ 140737488355328) : Yq n a b ns l nm = some (tokL l nm) := by
  have h := H3 l (fun x => x.1 == nm) (fun y0 y1 y2 => Ji y0 y1 y2 nm) (fun x => rfl) hl l.length 0 Z0 (by omega) (by omega) (by unfold Z0; omega) rfl
  unfold Yq Vd
  rw [show ((0 : Nat) : Int) = 0 from rfl] at h
  rw [h, Option.bind_some]
  unfold tokL
  rw [show l.findIdx? (fun x => x.1 == nm) = tix l nm from rfl]
  cases hp : tix l nm with
  | none => rfl
  | some k =>
    have hk := tix_lt hp
    have hg : l.getD k H4 = l[k] := by simp [List.getD, hk]
    rw [show decide (ixI (some k) < 0) = false from decide_eq_false (by show ¬ ((k : Nat) : Int) < 0; omega), cond_false]
    show (idx l ((k : Nat) : Int)).bind _ = _
    rw [Jv hk, Option.bind_some]
    simp only [hg]
theorem rTok_loop (l : List B4) (nm : Str) (hl : l.length ≤ 9000) : ∀ (d i f : Nat), d = l.length - i → i ≤ l.length → d < f → (l.take i).any (fun x => x.1 == nm) = false → Zl l nm f (i : Int) = some (tokL l nm) := by
  intro d
  induction d with
  | zero =>
    intro i f hd hi hf hn
    obtain ⟨f, rfl⟩ : ∃ g, f = g + 1 := ⟨f - 1, by omega⟩
    show Zk (Zl l nm f) l nm (i : Int) = _
    unfold Zk tokL tix
    rw [List.take_of_length_le (by omega)] at hn
    rw [show decide ((i : Int) < ((l.length : Nat) : Int)) = false from decide_eq_false (by omega), cond_false, Ha hn]
  | succ d ih =>
    intro i f hd hi hf hn
    obtain ⟨f, rfl⟩ : ∃ g, f = g + 1 := ⟨f - 1, by omega⟩
    have hlt : i < l.length := by omega
    show Zk (Zl l nm f) l nm (i : Int) = _
    unfold Zk
    rw [show decide ((i : Int) < ((l.length : Nat) : Int)) = true from decide_eq_true (by omega), cond_true, Jv hlt, Option.bind_some]
    cases hx : (l[i].1 == nm) with
    | true =>
      have hg : l.getD i H4 = l[i] := by simp [List.getD, hlt]
      rw [cond_true, Option.bind_some]
      unfold tokL tix
      rw [F9 hlt hn hx]
      simp only [hg]
    | false =>
      rw [cond_false, show ((i : Int) + 1) = ((i + 1 : Nat) : Int) by omega, Gb (by omega)]
      exact ih (i + 1) f (by omega) (by omega) (by omega) (Hb hlt hn hx)
theorem rTok (n : Str) (a b : Int) (ns : List Hl) (l : List B4) (nm : Str) (hl : l.length ≤ 9000) : Y2 n a b ns l nm = some (tokL l nm) :=
  rTok_loop l nm hl l.length 0 Z0 (by omega) (by omega) (by unfold Z0; omega) rfl
structure VC (l : List Qk) : Prop where
  len : l.length ≤ 9000
  q : ∀ t ∈ l, TenQ t
  s : ∀ t ∈ l, TenS t
  o : ∀ t ∈ l, Fd t = true
def Hc (l : List Qk) (t k : Str) : Str × Str × Int × Bool := tokL (B9 l t).2.2.2.2.1 k
def vRevB (l : List Qk) (M : Jr) (t k : Str) : Bool := (Hc l t k).2.2.2 && (U7 M (t, k) == 0)
def Hd (l : List Qk) (M : Jr) (t k : Str) : Jr := cond (Hc l t k).2.2.2 (Hn M (t, k) (U7 M (t, k) + 1)) M
section
variable {l : List Qk} (hv : VC l)
include hv
theorem Ec (t : Str) : (B9 l t).2.2.2.2.1.length ≤ 9000 := by
  unfold B9
  cases hp : pl l t with
  | none => simp
  | some k =>
    have hk := pl_lt' hp
    have hg : l.getD k Eo = l[k] := by simp [List.getD, hk]
    simp only [hg]
    exact (hv.s _ (List.getElem_mem hk)).2.2.1
theorem vtok_ok {t k : Str} (h : (Hc l t k).2.2.2 = true) : (Hc l t k).2.1.length ≤ 32 ∧ 0 ≤ (Hc l t k).2.2.1 ∧ (Hc l t k).2.2.1 ≤ 1099511627776 ∧ t.length ≤ 20 ∧ k.length ≤ 20 := by
  unfold Hc at h ⊢
  unfold B9 at h ⊢
  cases hp : pl l t with
  | none =>
    rw [hp] at h
    simp [tokL, tix] at h
  | some i =>
    have hi := pl_lt' hp
    have hg : l.getD i Eo = l[i] := by simp [List.getD, hi]
    rw [hp] at h
    simp only [hg] at h ⊢
    have ho := hv.o _ (List.getElem_mem hi)
    have hname : l[i].1 = t := by
      have := (List.findIdx?_eq_some_iff_getElem.1 hp).2.1
      simpa using this
    unfold Fd at ho
    simp only [Bool.and_eq_true, List.all_eq_true] at ho
    have hn := ho.2.1.1
    unfold Cm at hn
    simp only [Bool.and_eq_true, decide_eq_true_eq] at hn
    unfold tokL at h ⊢
    cases hp2 : tix l[i].2.2.2.2 k with
    | none => rw [hp2] at h; cases h
    | some j =>
      have hj := tix_lt hp2
      have hg2 : l[i].2.2.2.2.getD j H4 = l[i].2.2.2.2[j] := by simp [List.getD, hj]
      simp only [hg2]
      have hk := ho.1.2 _ (List.getElem_mem hj)
      have hname2 : l[i].2.2.2.2[j].1 = k := by
        have := (List.findIdx?_eq_some_iff_getElem.1 hp2).2.1
        simpa using this
      unfold Hx Cm at hk
      simp only [Bool.and_eq_true, decide_eq_true_eq] at hk
      rw [hname2] at hk
      rw [hname] at hn
      exact ⟨hk.2.1.2, hk.2.2.1, hk.2.2.2, hn.1.1.1.2, hk.1.1.1.1.2⟩
variable (w g i e : Int) (M : Jr) (t k : Str)
theorem pVRevoke (hM : 0 ≤ U7 M (t, k) ∧ U7 M (t, k) ≤ 1000000) : Zh w g i e l M t k = some (vRevB l M t k, w, g, i, e, Hd l M t k) := by
  unfold Zh Zg Vu
  rw [lFind _ _ _ _ _ _ (by have := hv.len; omega), Option.bind_some, lTok _ _ _ _ _ _ (by have := Ec hv t; omega), Option.bind_some]
  rw [show tokL (B9 l t).2.2.2.2.1 k = Hc l t k from rfl]
  unfold vRevB Hd
  cases h : (Hc l t k).2.2.2 with
  | false => rfl
  | true =>
    obtain ⟨_, _, _, h1, h2⟩ := vtok_ok hv h
    rw [cond_true]
    unfold Ya
    rw [show (Nat.ble t.length 140737488355328 && Nat.ble k.length 140737488355328) = true by simp; omega]
    simp only [chk, Option.bind_some, cond_true, Bool.true_and]
    rw [B3 (by omega), Cs, if_pos rfl]
    rw [show (U7 M (t, k) + 1 == 1) = (U7 M (t, k) == 0) by rw [Bool.eq_iff_iff, beq_iff_eq, beq_iff_eq]; omega]
omit hv in
def gf (ps : List (Str × Str)) : List Str := ps.flatMap fun p => [p.1, p.2]
omit hv in
theorem Hp : ∀ ps : List (Str × Str), (gf ps).length = 2 * ps.length
  | [] => rfl
  | p :: ps => by
    show (p.1 :: p.2 :: gf ps).length = _
    simp only [List.length_cons, Hp ps]
    omega
omit hv in
theorem gf_get : ∀ (ps : List (Str × Str)) (j : Nat) (h : j < ps.length), (gf ps)[2 * j]? = some ps[j].1 ∧ (gf ps)[2 * j + 1]? = some ps[j].2
  | p :: ps, 0, _ => ⟨rfl, rfl⟩
  | p :: ps, j + 1, h => by
    have := gf_get ps j (by simpa using h)
    have e : gf (p :: ps) = p.1 :: p.2 :: gf ps := rfl
    rw [e, show 2 * (j + 1) = 2 * j + 1 + 1 by omega]
    simpa using this
omit hv in
theorem gf_snoc (ps : List (Str × Str)) (t k : Str) : gf ps ++ [t, k] = gf (ps ++ [(t, k)]) := by simp [gf]
def inP (ps : List (Str × Str)) (t k : Str) : Bool := ps.any fun p => (p.1 == t) && (p.2 == k)
end
theorem pVNew (w g i e : Int) (l : List Qk) (hl : l.length ≤ 140737488355328) (hq : ∀ t ∈ l, TenQ t) : Jb w g i e l = some (cond (En w g i e l) (some (w, g, i, e, [])) none) := by
  unfold Jb
  rw [lCfg w g i e l hl hq, Option.bind_some]
  cases En w g i e l <;> rfl
theorem vc_of {w g i e : Int} {l : List Qk} (hk : En w g i e l = true) (hl : l.length ≤ 9000) (hq : ∀ t ∈ l, TenQ t) (hs : ∀ t ∈ l, TenS t) : VC l := by
  refine ⟨hl, hq, hs, ?_⟩
  unfold En at hk
  simp only [Bool.and_eq_true, List.all_eq_true] at hk
  exact hk.2.2.1
end Go.Proofs.YtmgfanhcdfobhaaGreatDoor
namespace Go.Proofs.YtmgfanhcdfobhaaGreatDoor
open Go.RowKit
def Ua  : Option Unit :=
  (some ())
set_option maxRecDepth 100000 in
set_option maxHeartbeats 4000000 in
theorem R4   (w0 : World)  (r : Unit) (H : Ua  = some r) :
  Calls Tryz.prog 42 #[] w0 (fun e w' => ∃ (g7 : Nat) (b : Nat), e = .returned (.agg #[(.int .i64 9), (.int .i64 9), (.int .i64 9), (.int .i64 9), (.slice (some ⟨b, 0, none⟩) (List.length ([(([97, 110, 110] : List UInt8), 0, 0, ([] : List (Int × Int)), ([(([107] : List UInt8), ([115] : List UInt8), 5)] : List ((List UInt8) × (List UInt8) × Int)))] : List Qk)) (List.length ([(([97, 110, 110] : List UInt8), 0, 0, ([] : List (Int × Int)), ([(([107] : List UInt8), ([115] : List UInt8), 5)] : List ((List UInt8) × (List UInt8) × Int)))] : List Qk)))]) ∧ SP [] w0 w' [Xu 48 (Qi Qy (Qi Qy (Qc .i64))) (some ⟨g7, 0, none⟩) (List.length ([(([107] : List UInt8), ([115] : List UInt8), 5)] : List ((List UInt8) × (List UInt8) × Int))) ([(([107] : List UInt8), ([115] : List UInt8), 5)] : List ((List UInt8) × (List UInt8) × Int)), Xu 44 Ux (some ⟨b, 0, none⟩) (List.length ([(([97, 110, 110] : List UInt8), 0, 0, ([] : List (Int × Int)), ([(([107] : List UInt8), ([115] : List UInt8), 5)] : List ((List UInt8) × (List UInt8) × Int)))] : List Qk)) ([(([97, 110, 110] : List UInt8), 0, 0, (none, 0, ([] : List (Int × Int))), ((some ⟨g7, 0, none⟩), (List.length ([(([107] : List UInt8), ([115] : List UInt8), 5)] : List ((List UInt8) × (List UInt8) × Int))), ([(([107] : List UInt8), ([115] : List UInt8), 5)] : List ((List UInt8) × (List UInt8) × Int))))] : List Vo)]) := by
 unfold Ua at H
 refine Qv (n := 6) Tryz.func42 K K K ?_
 have f := Q1 [] w0
 refine aQ ?_
 refine aR ?_
 refine iS 1 ?_
 refine Qj.alloc (t := 24) (z := (.agg #[(.int .i64 0), (.int .i64 0), (.int .i64 0), (.int .i64 0), (.slice none (List.length ([] : List Qk)) 0)])) (d := (some 0)) (k := 0) K rfl K f ?_
 intro g3 w4 h
 refine iF ?_
 refine aQ ?_
 refine aR ?_
 refine iR 1 1 [(1, (.agg #[(.string ⟨List.toArray ([107] : List UInt8)⟩), (.string ⟨List.toArray ([115] : List UInt8)⟩), (.int .i64 5)]))] ?_
 refine iS 2 ?_
 refine V1 (e := (Qi Qy (Qi Qy (Qc .i64)))) (T := 42) (E := 48) (len := 1) (parts := #[(0, (.tmp 1))]) (cs := #[(.string ⟨List.toArray ([107] : List UInt8)⟩), (.string ⟨List.toArray ([115] : List UInt8)⟩), (.int .i64 5)]) ([(([107] : List UInt8), ([115] : List UInt8), 5)] : List ((List UInt8) × (List UInt8) × Int)) (d := (some 2)) (k := 1) K rfl (fun _ => K) h rfl rfl rfl rfl ?_
 intro g7 w8 j
 refine iR 1 3 [(3, (.agg #[(.string ⟨List.toArray ([97, 110, 110] : List UInt8)⟩), (.int .i64 0), (.int .i64 0), (.slice none (List.length ([] : List (Int × Int))) 0), (.slice (some ⟨g7, 0, none⟩) (List.length ([(([107] : List UInt8), ([115] : List UInt8), 5)] : List ((List UInt8) × (List UInt8) × Int))) (List.length ([(([107] : List UInt8), ([115] : List UInt8), 5)] : List ((List UInt8) × (List UInt8) × Int))))]))] ?_
 refine iS 4 ?_
 refine V1 (e := Ux) (T := 22) (E := 44) (len := 1) (parts := #[(0, (.tmp 3))]) (cs := #[(.string ⟨List.toArray ([97, 110, 110] : List UInt8)⟩), (.int .i64 0), (.int .i64 0), (.slice none (List.length ([] : List (Int × Int))) 0), (.slice (some ⟨g7, 0, none⟩) (List.length ([(([107] : List UInt8), ([115] : List UInt8), 5)] : List ((List UInt8) × (List UInt8) × Int))) (List.length ([(([107] : List UInt8), ([115] : List UInt8), 5)] : List ((List UInt8) × (List UInt8) × Int))))]) ([(([97, 110, 110] : List UInt8), 0, 0, (none, 0, ([] : List (Int × Int))), ((some ⟨g7, 0, none⟩), (List.length ([(([107] : List UInt8), ([115] : List UInt8), 5)] : List ((List UInt8) × (List UInt8) × Int))), ([(([107] : List UInt8), ([115] : List UInt8), 5)] : List ((List UInt8) × (List UInt8) × Int))))] : List Vo) (d := (some 4)) (k := 3) K rfl (fun _ => K) j rfl rfl rfl rfl ?_
 intro b m l
 refine iR 1 5 [(5, (.agg #[(.int .i64 9), (.int .i64 9), (.int .i64 9), (.int .i64 9), (.slice (some ⟨b, 0, none⟩) (List.length ([(([97, 110, 110] : List UInt8), 0, 0, ([] : List (Int × Int)), ([(([107] : List UInt8), ([115] : List UInt8), 5)] : List ((List UInt8) × (List UInt8) × Int)))] : List Qk)) (List.length ([(([97, 110, 110] : List UInt8), 0, 0, ([] : List (Int × Int)), ([(([107] : List UInt8), ([115] : List UInt8), 5)] : List ((List UInt8) × (List UInt8) × Int)))] : List Qk)))]))] ?_
 refine iS 6 ?_
 refine Qj.store (t := 24) (x := (.tmp 0)) (y := (.tmp 5)) (g := g3) (off := 0) (i := 0) (v := (.agg #[(.int .i64 9), (.int .i64 9), (.int .i64 9), (.int .i64 9), (.slice (some ⟨b, 0, none⟩) (List.length ([(([97, 110, 110] : List UInt8), 0, 0, ([] : List (Int × Int)), ([(([107] : List UInt8), ([115] : List UInt8), 5)] : List ((List UInt8) × (List UInt8) × Int)))] : List Qk)) (List.length ([(([97, 110, 110] : List UInt8), 0, 0, ([] : List (Int × Int)), ([(([107] : List UInt8), ([115] : List UInt8), 5)] : List ((List UInt8) × (List UInt8) × Int)))] : List Qk)))])) (cs' := #[(.int .i64 9), (.int .i64 9), (.int .i64 9), (.int .i64 9), (.slice (some ⟨b, 0, none⟩) (List.length ([(([97, 110, 110] : List UInt8), 0, 0, ([] : List (Int × Int)), ([(([107] : List UInt8), ([115] : List UInt8), 5)] : List ((List UInt8) × (List UInt8) × Int)))] : List Qk)) (List.length ([(([97, 110, 110] : List UInt8), 0, 0, ([] : List (Int × Int)), ([(([107] : List UInt8), ([115] : List UInt8), 5)] : List ((List UInt8) × (List UInt8) × Int)))] : List Qk)))]) (d := none) (k := 5) K rfl K K l rfl K ?_
 intro o c
 refine iF ?_
 refine At.ret K ?_
 refine ⟨(.agg #[(.int .i64 9), (.int .i64 9), (.int .i64 9), (.int .i64 9), (.slice (some ⟨b, 0, none⟩) (List.length ([(([97, 110, 110] : List UInt8), 0, 0, ([] : List (Int × Int)), ([(([107] : List UInt8), ([115] : List UInt8), 5)] : List ((List UInt8) × (List UInt8) × Int)))] : List Qk)) (List.length ([(([97, 110, 110] : List UInt8), 0, 0, ([] : List (Int × Int)), ([(([107] : List UInt8), ([115] : List UInt8), 5)] : List ((List UInt8) × (List UInt8) × Int)))] : List Qk)))]), Bc K (Rg (a := 0) (t := 24) (g := g3) (off := 0) K (SP.get c (i := 0) rfl) K), ?_⟩
 exact ⟨g7, b, rfl, SP.sel c [1, 2] rfl rfl⟩
def Vi (a : Bool) : Option (Bool) :=
  (some (a))
def Xl (a : (Int × Int × Int × Int × Jr)) (e : Bool) : Option (Bool) :=
  (cond e (some (false)) ((U0 ([(115 : UInt8)] : List UInt8) ([([97, 110, 110] : List UInt8), ([107] : List UInt8), ([110] : List UInt8)] : List (List UInt8))).bind fun d => ((Xh a.1 a.2.1 a.2.2.1 a.2.2.2.1 ([(([97, 110, 110] : List UInt8), 0, 0, ([] : List (Int × Int)), ([(([107] : List UInt8), ([115] : List UInt8), 5)] : List ((List UInt8) × (List UInt8) × Int)))] : List Qk) a.2.2.2.2 ([97, 110, 110] : List UInt8) ([107] : List UInt8) ([110] : List UInt8) d 4).bind fun f => ((Xh a.1 a.2.1 a.2.2.1 a.2.2.2.1 ([(([97, 110, 110] : List UInt8), 0, 0, ([] : List (Int × Int)), ([(([107] : List UInt8), ([115] : List UInt8), 5)] : List ((List UInt8) × (List UInt8) × Int)))] : List Qk) a.2.2.2.2 ([97, 110, 110] : List UInt8) ([107] : List UInt8) ([110] : List UInt8) d 5).bind fun g => ((Xh a.1 a.2.1 a.2.2.1 a.2.2.2.1 ([(([97, 110, 110] : List UInt8), 0, 0, ([] : List (Int × Int)), ([(([107] : List UInt8), ([115] : List UInt8), 5)] : List ((List UInt8) × (List UInt8) × Int)))] : List Qk) a.2.2.2.2 ([97, 110, 110] : List UInt8) ([107] : List UInt8) ([109] : List UInt8) d 4).bind fun h => ((Ym a.1 a.2.1 a.2.2.1 a.2.2.2.1 ([(([97, 110, 110] : List UInt8), 0, 0, ([] : List (Int × Int)), ([(([107] : List UInt8), ([115] : List UInt8), 5)] : List ((List UInt8) × (List UInt8) × Int)))] : List Qk) a.2.2.2.2 ([97, 110, 110] : List UInt8) ([107] : List UInt8) 4).bind fun i => ((Zh a.1 a.2.1 a.2.2.1 a.2.2.2.1 ([(([97, 110, 110] : List UInt8), 0, 0, ([] : List (Int × Int)), ([(([107] : List UInt8), ([115] : List UInt8), 5)] : List ((List UInt8) × (List UInt8) × Int)))] : List Qk) a.2.2.2.2 ([97, 110, 110] : List UInt8) ([107] : List UInt8)).bind fun c => ((Zh c.2.1 c.2.2.1 c.2.2.2.1 c.2.2.2.2.1 ([(([97, 110, 110] : List UInt8), 0, 0, ([] : List (Int × Int)), ([(([107] : List UInt8), ([115] : List UInt8), 5)] : List ((List UInt8) × (List UInt8) × Int)))] : List Qk) c.2.2.2.2.2 ([97, 110, 110] : List UInt8) ([107] : List UInt8)).bind fun b => ((Xh b.2.1 b.2.2.1 b.2.2.2.1 b.2.2.2.2.1 ([(([97, 110, 110] : List UInt8), 0, 0, ([] : List (Int × Int)), ([(([107] : List UInt8), ([115] : List UInt8), 5)] : List ((List UInt8) × (List UInt8) × Int)))] : List Qk) b.2.2.2.2.2 ([97, 110, 110] : List UInt8) ([107] : List UInt8) ([110] : List UInt8) d 4).bind fun j => (cond (f == 0) (cond (g == 3) (cond (h == 101) (cond i (cond c.1 (cond (!b.1) (cond (j == 3) ((Yn b.2.1 b.2.2.1 b.2.2.2.1 b.2.2.2.2.1 ([(([97, 110, 110] : List UInt8), 0, 0, ([] : List (Int × Int)), ([(([107] : List UInt8), ([115] : List UInt8), 5)] : List ((List UInt8) × (List UInt8) × Int)))] : List Qk) b.2.2.2.2.2 ([97, 110, 110] : List UInt8) ([107] : List UInt8) ([110] : List UInt8)).bind fun k => (cond (k == d) ((Yn b.2.1 b.2.2.1 b.2.2.2.1 b.2.2.2.2.1 ([(([97, 110, 110] : List UInt8), 0, 0, ([] : List (Int × Int)), ([(([107] : List UInt8), ([115] : List UInt8), 5)] : List ((List UInt8) × (List UInt8) × Int)))] : List Qk) b.2.2.2.2.2 ([97, 110, 110] : List UInt8) ([122] : List UInt8) ([110] : List UInt8)).bind fun l => (cond (l == ([] : List UInt8)) ((Ym b.2.1 b.2.2.1 b.2.2.2.1 b.2.2.2.2.1 ([(([97, 110, 110] : List UInt8), 0, 0, ([] : List (Int × Int)), ([(([107] : List UInt8), ([115] : List UInt8), 5)] : List ((List UInt8) × (List UInt8) × Int)))] : List Qk) b.2.2.2.2.2 ([97, 110, 110] : List UInt8) ([107] : List UInt8) 0).bind fun m => (Vi (!m))) (Vi false))) (Vi false))) (Vi false)) (Vi false)) (Vi false)) (Vi false)) (Vi false)) (Vi false)) (Vi false)))))))))))
def Yo  : Option (Bool) :=
  ((Ua ).bind fun z1 => ((Jb 9 9 9 9 ([(([97, 110, 110] : List UInt8), 0, 0, ([] : List (Int × Int)), ([(([107] : List UInt8), ([115] : List UInt8), 5)] : List ((List UInt8) × (List UInt8) × Int)))] : List Qk)).bind fun z9 => (optE z9 (some (false)) (fun a => ((Jb 0 0 0 0 ([] : List Qk)).bind fun b => (optE b (Xl a false) (fun c => (Xl a true))))))))
set_option maxRecDepth 100000 in
set_option maxHeartbeats 4000000 in
theorem Rt   (w0 : World) (hL : Bd w0)  (r : (Bool)) (H : Yo  = some r) :
  Calls Tryz.prog 15 #[] w0 (fun e w' => e = .returned (.bool r) ∧ SP [] w0 w' []) := by
 unfold Yo at H
 refine Qv (n := 81) Tryz.func15 K K K ?_
 have g1 := Q1 [] w0
 refine aQ ?_
 refine aR ?_
 refine iR 1 1 [(0, (.bool false))] ?_
 refine iF ?_
 refine aQ ?_
 refine aR ?_
 obtain ⟨z1, g2, H⟩ := Qf H
 refine iS 1 ?_
 refine cF 42 #[] #[] 10 Tryz.call42 (R4   w0  z1 g2) ?_
 rintro e w3 ⟨g5, g6, rfl, d2⟩
 refine ⟨_, rfl, ?_⟩
 have z := SP.call g1 d2
 clear d2
 obtain ⟨z9, d3, H⟩ := Qf H
 rcases z9 with _ | f
 ·have H := optN H
  refine iS 2 ?_
  refine cF 18 #[(.tmp 10)] #[24] 11 Tryz.call18 (Yd (some ⟨g6, 0, none⟩) (List.length ([(([97, 110, 110] : List UInt8), 0, 0, ([] : List (Int × Int)), ([(([107] : List UInt8), ([115] : List UInt8), 5)] : List ((List UInt8) × (List UInt8) × Int)))] : List Qk)) 9 9 9 9 ([(([97, 110, 110] : List UInt8), 0, 0, (none, 0, ([] : List (Int × Int))), ((some ⟨g5, 0, none⟩), (List.length ([(([107] : List UInt8), ([115] : List UInt8), 5)] : List ((List UInt8) × (List UInt8) × Int))), ([(([107] : List UInt8), ([115] : List UInt8), 5)] : List ((List UInt8) × (List UInt8) × Int))))] : List Vo) w3 (Zw hL (SP.keeps z)) (B6 (Vf (SP.get z (i := 1) rfl)) (N3 (X4 Ju (X4 Ju (X4 Ju (X4 (Nc (RdT.nil (Qi (Qc .u32) (Qc .i64)) w3)) (Nc (Vf (SP.get z (i := 0) rfl))))))) Rw)) none d3) ?_
  rintro e i9 ⟨rfl, d4⟩
  refine ⟨_, rfl, ?_⟩
  have g3 := SP.call z d4
  clear d4
  refine iR 1 3 [(1, (.pointer none))] ?_
  refine iF ?_
  refine aQ ?_
  refine aQ ?_
  refine aR ?_
  refine iR 7 7 [(12, (.pointer none)), (13, (.bool true)), (14, (.bool true)), (15, undef), (16, undef), (17, undef), (18, (.bool true))] ?_
  refine iF ?_
  refine Zi K (o := (.tmp 18)) K (b := true) K (fun d5 => ?_) (fun d5 => ?_)
  rotate_left
  ·cases d5
  refine aQ ?_
  refine aR ?_
  refine iR 1 1 [(0, (.bool false))] ?_
  refine iF ?_
  refine At.ret K ?_
  refine ⟨(.bool false), K, ?_⟩
  obtain rfl := Qm H
  exact ⟨rfl, SP.sel g3 [] rfl rfl⟩
 ·have H := optS H
  refine iS 2 ?_
  refine cF 18 #[(.tmp 10)] #[24] 11 Tryz.call18 (Yd (some ⟨g6, 0, none⟩) (List.length ([(([97, 110, 110] : List UInt8), 0, 0, ([] : List (Int × Int)), ([(([107] : List UInt8), ([115] : List UInt8), 5)] : List ((List UInt8) × (List UInt8) × Int)))] : List Qk)) 9 9 9 9 ([(([97, 110, 110] : List UInt8), 0, 0, (none, 0, ([] : List (Int × Int))), ((some ⟨g5, 0, none⟩), (List.length ([(([107] : List UInt8), ([115] : List UInt8), 5)] : List ((List UInt8) × (List UInt8) × Int))), ([(([107] : List UInt8), ([115] : List UInt8), 5)] : List ((List UInt8) × (List UInt8) × Int))))] : List Vo) w3 (Zw hL (SP.keeps z)) (B6 (Vf (SP.get z (i := 1) rfl)) (N3 (X4 Ju (X4 Ju (X4 Ju (X4 (Nc (RdT.nil (Qi (Qc .u32) (Qc .i64)) w3)) (Nc (Vf (SP.get z (i := 0) rfl))))))) Rw)) (some f) d3) ?_
  rintro e b2 ⟨j, m, rfl, d6⟩
  refine ⟨_, rfl, ?_⟩
  have b3 := SP.call z d6
  clear d6
  refine iR 1 3 [(1, (pt j 0))] ?_
  refine iF ?_
  refine aQ ?_
  refine aQ ?_
  refine At.join (fun ρ w => ∃ (a3 : Bool), V8 ρ [(1, (pt j 0)), (18, (.bool a3))] ∧ SP [] w0 w [Xu 44 Ux (some ⟨g6, 0, none⟩) (List.length ([(([97, 110, 110] : List UInt8), 0, 0, ([] : List (Int × Int)), ([(([107] : List UInt8), ([115] : List UInt8), 5)] : List ((List UInt8) × (List UInt8) × Int)))] : List Qk)) ([(([97, 110, 110] : List UInt8), 0, 0, (none, 0, ([] : List (Int × Int))), ((some ⟨g5, 0, none⟩), (List.length ([(([107] : List UInt8), ([115] : List UInt8), 5)] : List ((List UInt8) × (List UInt8) × Int))), ([(([107] : List UInt8), ([115] : List UInt8), 5)] : List ((List UInt8) × (List UInt8) × Int))))] : List Vo), Xu 48 (Qi Qy (Qi Qy (Qc .i64))) (some ⟨g5, 0, none⟩) (List.length ([(([107] : List UInt8), ([115] : List UInt8), 5)] : List ((List UInt8) × (List UInt8) × Int))) ([(([107] : List UInt8), ([115] : List UInt8), 5)] : List ((List UInt8) × (List UInt8) × Int)), Q6 j 79 #[(.int .i64 f.1), (.int .i64 f.2.1), (.int .i64 f.2.2.1), (.int .i64 f.2.2.2.1), (.slice (some ⟨g6, 0, none⟩) (List.length ([(([97, 110, 110] : List UInt8), 0, 0, ([] : List (Int × Int)), ([(([107] : List UInt8), ([115] : List UInt8), 5)] : List ((List UInt8) × (List UInt8) × Int)))] : List Qk)) (List.length ([(([97, 110, 110] : List UInt8), 0, 0, ([] : List (Int × Int)), ([(([107] : List UInt8), ([115] : List UInt8), 5)] : List ((List UInt8) × (List UInt8) × Int)))] : List Qk))), (.map (some m))], Zv m f.2.2.2.2] ∧ Xl f a3 = some r) ?_ ?_
  ·refine aR ?_
   refine iR 4 4 [(12, (pt j 0)), (13, (.bool false)), (14, (.bool false)), (15, (.agg #[(.int .i64 0), (.int .i64 0), (.int .i64 0), (.int .i64 0), (.slice none (List.length ([] : List Qk)) 0)]))] ?_
   obtain ⟨g4, d7, H⟩ := Qf H
   rcases g4 with _ | g7
   ·have H := optN H
    refine iS 5 ?_
    refine cF 18 #[(.tmp 15)] #[24] 16 Tryz.call18 (Yd none 0 0 0 0 0 ([] : List Vo) b2 (Zw hL (SP.keeps b3)) (Rv Ux Cv b2) none d7) ?_
    rintro e j0 ⟨rfl, d8⟩
    refine ⟨_, rfl, ?_⟩
    have g8 := SP.call b3 d8
    clear d8
    refine iR 2 7 [(17, (.bool false)), (18, (.bool false))] ?_
    refine iF ?_
    exact ⟨false, ⟨K, K, trivial⟩, SP.sel g8 [1, 0, 2, 3] rfl rfl, H⟩
   ·have H := optS H
    refine iS 5 ?_
    refine cF 18 #[(.tmp 15)] #[24] 16 Tryz.call18 (Yd none 0 0 0 0 0 ([] : List Vo) b2 (Zw hL (SP.keeps b3)) (Rv Ux Cv b2) (some g7) d7) ?_
    rintro e j1 ⟨j2, j3, rfl, d9⟩
    refine ⟨_, rfl, ?_⟩
    have g9 := SP.call b3 d9
    clear d9
    refine iR 2 7 [(17, (.bool true)), (18, (.bool true))] ?_
    refine iF ?_
    exact ⟨true, ⟨K, K, trivial⟩, SP.sel g9 [1, 0, 2, 3] rfl rfl, H⟩
  ·rintro ρ j4 ⟨a3, hk, e0, H⟩
   unfold Xl at H
   first | refine At.known [(1, (pt j 0)), (18, (.bool a3))] hk ?_ | rw [← Va (l := [(1, (pt j 0)), (18, (.bool a3))]) hk]
   refine Zi K (o := (.tmp 18)) K (b := a3) K (fun c1 => ?_) (fun c1 => ?_)
   ·have H := ct H c1
    refine aQ ?_
    refine aR ?_
    refine iR 1 1 [(0, (.bool false))] ?_
    refine iF ?_
    refine At.ret K ?_
    refine ⟨(.bool false), K, ?_⟩
    obtain rfl := Qm H
    exact ⟨rfl, SP.sel e0 [] rfl rfl⟩
   ·have H := cf H c1
    refine At.skip K ?_
    refine aQ ?_
    refine aR ?_
    refine iS 1 ?_
    refine V1 (e := eU8) (T := 52) (E := 5) (len := 1) (parts := #[(0, (.const (.int .u8 (115))))]) (cs := #[(.int .u8 115)]) ([(115 : UInt8)] : List UInt8) (d := (some 19)) (k := 0) K rfl (fun _ => K) e0 (Y0 (Or.inl rfl) rfl) rfl rfl rfl ?_
    intro s j5 h1
    refine iS 2 ?_
    refine Qj.mark (T := 52) (E := 5) (x := (.tmp 19)) (g := s) (c := (List.length ([(115 : UInt8)] : List UInt8))) (i := 4) (l := ([(115 : UInt8)] : List UInt8)) (d := (some 20)) (k := 1) K rfl K K K h1 rfl ?_
    intro j6 h2
    refine iS 3 ?_
    refine V1 (e := Qy) (T := 53) (E := 9) (len := 3) (parts := #[(0, (.const (.string ⟨List.toArray ([97, 110, 110] : List UInt8)⟩))), (1, (.const (.string ⟨List.toArray ([107] : List UInt8)⟩))), (2, (.const (.string ⟨List.toArray ([110] : List UInt8)⟩)))]) (cs := #[(.string ⟨List.toArray ([97, 110, 110] : List UInt8)⟩), (.string ⟨List.toArray ([107] : List UInt8)⟩), (.string ⟨List.toArray ([110] : List UInt8)⟩)]) ([([97, 110, 110] : List UInt8), ([107] : List UInt8), ([110] : List UInt8)] : List (List UInt8)) (d := (some 21)) (k := 2) K rfl (fun _ => K) h2 rfl rfl rfl rfl ?_
    intro u h3 c2
    obtain ⟨p, h4, H⟩ := Qf H
    refine iS 4 ?_
    refine cF 30 #[(.tmp 20), (.tmp 21)] #[52, 53] 22 Tryz.call30 (G8 (some ⟨s, 0, none⟩) (List.length ([(115 : UInt8)] : List UInt8)) (some ⟨u, 0, none⟩) (List.length ([([97, 110, 110] : List UInt8), ([107] : List UInt8), ([110] : List UInt8)] : List (List UInt8))) ([(115 : UInt8)] : List UInt8) ([([97, 110, 110] : List UInt8), ([107] : List UInt8), ([110] : List UInt8)] : List (List UInt8)) h3 (Hg (SP.get c2 (i := 4) rfl)) (Vf (SP.get c2 (i := 5) rfl)) p h4) ?_
    rintro e h5 ⟨rfl, e1⟩
    refine ⟨_, rfl, ?_⟩
    have b4 := SP.call c2 e1
    clear e1
    refine iR 1 5 [(2, (.string ⟨List.toArray p⟩))] ?_
    refine iF ?_
    refine aQ ?_
    refine aR ?_
    refine iR 2 2 [(23, (pt j 0)), (24, (.string ⟨List.toArray p⟩))] ?_
    obtain ⟨a4, h6, H⟩ := Qf H
    refine iS 3 ?_
    refine cF 26 #[(.tmp 23), (.const (.string ⟨List.toArray ([97, 110, 110] : List UInt8)⟩)), (.const (.string ⟨List.toArray ([107] : List UInt8)⟩)), (.const (.string ⟨List.toArray ([110] : List UInt8)⟩)), (.tmp 24), (.const (.int .i64 (4)))] #[29, 9, 9, 9, 9, 2] 25 Tryz.call26 (Xq j (some ⟨g6, 0, none⟩) (List.length ([(([97, 110, 110] : List UInt8), 0, 0, ([] : List (Int × Int)), ([(([107] : List UInt8), ([115] : List UInt8), 5)] : List ((List UInt8) × (List UInt8) × Int)))] : List Qk)) m f.1 f.2.1 f.2.2.1 f.2.2.2.1 ([(([97, 110, 110] : List UInt8), 0, 0, (none, 0, ([] : List (Int × Int))), ((some ⟨g5, 0, none⟩), (List.length ([(([107] : List UInt8), ([115] : List UInt8), 5)] : List ((List UInt8) × (List UInt8) × Int))), ([(([107] : List UInt8), ([115] : List UInt8), 5)] : List ((List UInt8) × (List UInt8) × Int))))] : List Vo) f.2.2.2.2 ([97, 110, 110] : List UInt8) ([107] : List UInt8) ([110] : List UInt8) p 4 h5 (U8 b4 [2, 3] rfl rfl) (fun w hm => B6 (Vf (SP.still b4 (l := [2, 3]) (i := 0) rfl rfl rfl hm)) (N3 (X4 Ju (X4 Ju (X4 Ju (X4 (Rv (Qi (Qc .u32) (Qc .i64)) dT w) (Nc (Vf (SP.still b4 (l := [2, 3]) (i := 1) rfl rfl rfl hm))))))) Rw)) a4 h6) ?_
    rintro e e2 ⟨rfl, e3⟩
    refine ⟨_, rfl, ?_⟩
    have b5 : SP [] w0 e2 [Xu 44 Ux (some ⟨g6, 0, none⟩) (List.length ([(([97, 110, 110] : List UInt8), 0, 0, ([] : List (Int × Int)), ([(([107] : List UInt8), ([115] : List UInt8), 5)] : List ((List UInt8) × (List UInt8) × Int)))] : List Qk)) ([(([97, 110, 110] : List UInt8), 0, 0, (none, 0, ([] : List (Int × Int))), ((some ⟨g5, 0, none⟩), (List.length ([(([107] : List UInt8), ([115] : List UInt8), 5)] : List ((List UInt8) × (List UInt8) × Int))), ([(([107] : List UInt8), ([115] : List UInt8), 5)] : List ((List UInt8) × (List UInt8) × Int))))] : List Vo), Xu 48 (Qi Qy (Qi Qy (Qc .i64))) (some ⟨g5, 0, none⟩) (List.length ([(([107] : List UInt8), ([115] : List UInt8), 5)] : List ((List UInt8) × (List UInt8) × Int))) ([(([107] : List UInt8), ([115] : List UInt8), 5)] : List ((List UInt8) × (List UInt8) × Int)), rdE eU8 (some ⟨s, 0, none⟩) (List.length ([(115 : UInt8)] : List UInt8)) ([(115 : UInt8)] : List UInt8), Xu 9 Qy (some ⟨u, 0, none⟩) (List.length ([([97, 110, 110] : List UInt8), ([107] : List UInt8), ([110] : List UInt8)] : List (List UInt8))) ([([97, 110, 110] : List UInt8), ([107] : List UInt8), ([110] : List UInt8)] : List (List UInt8)), Q6 j 79 #[(.int .i64 f.1), (.int .i64 f.2.1), (.int .i64 f.2.2.1), (.int .i64 f.2.2.2.1), (.slice (some ⟨g6, 0, none⟩) (List.length ([(([97, 110, 110] : List UInt8), 0, 0, ([] : List (Int × Int)), ([(([107] : List UInt8), ([115] : List UInt8), 5)] : List ((List UInt8) × (List UInt8) × Int)))] : List Qk)) (List.length ([(([97, 110, 110] : List UInt8), 0, 0, ([] : List (Int × Int)), ([(([107] : List UInt8), ([115] : List UInt8), 5)] : List ((List UInt8) × (List UInt8) × Int)))] : List Qk))), (.map (some m))], Zv m f.2.2.2.2] := Xx b4 [2, 3] [0, 1, 4, 5] rfl rfl e3 rfl
    clear e3
    refine iR 1 4 [(3, (.int .i64 a4))] ?_
    refine iF ?_
    refine aQ ?_
    refine aR ?_
    refine iR 2 2 [(26, (pt j 0)), (27, (.string ⟨List.toArray p⟩))] ?_
    obtain ⟨a0, h7, H⟩ := Qf H
    refine iS 3 ?_
    refine cF 26 #[(.tmp 26), (.const (.string ⟨List.toArray ([97, 110, 110] : List UInt8)⟩)), (.const (.string ⟨List.toArray ([107] : List UInt8)⟩)), (.const (.string ⟨List.toArray ([110] : List UInt8)⟩)), (.tmp 27), (.const (.int .i64 (5)))] #[29, 9, 9, 9, 9, 2] 28 Tryz.call26 (Xq j (some ⟨g6, 0, none⟩) (List.length ([(([97, 110, 110] : List UInt8), 0, 0, ([] : List (Int × Int)), ([(([107] : List UInt8), ([115] : List UInt8), 5)] : List ((List UInt8) × (List UInt8) × Int)))] : List Qk)) m f.1 f.2.1 f.2.2.1 f.2.2.2.1 ([(([97, 110, 110] : List UInt8), 0, 0, (none, 0, ([] : List (Int × Int))), ((some ⟨g5, 0, none⟩), (List.length ([(([107] : List UInt8), ([115] : List UInt8), 5)] : List ((List UInt8) × (List UInt8) × Int))), ([(([107] : List UInt8), ([115] : List UInt8), 5)] : List ((List UInt8) × (List UInt8) × Int))))] : List Vo) f.2.2.2.2 ([97, 110, 110] : List UInt8) ([107] : List UInt8) ([110] : List UInt8) p 5 e2 (U8 b5 [4, 5] rfl rfl) (fun w hm => B6 (Vf (SP.still b5 (l := [4, 5]) (i := 0) rfl rfl rfl hm)) (N3 (X4 Ju (X4 Ju (X4 Ju (X4 (Rv (Qi (Qc .u32) (Qc .i64)) dT w) (Nc (Vf (SP.still b5 (l := [4, 5]) (i := 1) rfl rfl rfl hm))))))) Rw)) a0 h7) ?_
    rintro e e4 ⟨rfl, e5⟩
    refine ⟨_, rfl, ?_⟩
    have b6 : SP [] w0 e4 [Xu 44 Ux (some ⟨g6, 0, none⟩) (List.length ([(([97, 110, 110] : List UInt8), 0, 0, ([] : List (Int × Int)), ([(([107] : List UInt8), ([115] : List UInt8), 5)] : List ((List UInt8) × (List UInt8) × Int)))] : List Qk)) ([(([97, 110, 110] : List UInt8), 0, 0, (none, 0, ([] : List (Int × Int))), ((some ⟨g5, 0, none⟩), (List.length ([(([107] : List UInt8), ([115] : List UInt8), 5)] : List ((List UInt8) × (List UInt8) × Int))), ([(([107] : List UInt8), ([115] : List UInt8), 5)] : List ((List UInt8) × (List UInt8) × Int))))] : List Vo), Xu 48 (Qi Qy (Qi Qy (Qc .i64))) (some ⟨g5, 0, none⟩) (List.length ([(([107] : List UInt8), ([115] : List UInt8), 5)] : List ((List UInt8) × (List UInt8) × Int))) ([(([107] : List UInt8), ([115] : List UInt8), 5)] : List ((List UInt8) × (List UInt8) × Int)), rdE eU8 (some ⟨s, 0, none⟩) (List.length ([(115 : UInt8)] : List UInt8)) ([(115 : UInt8)] : List UInt8), Xu 9 Qy (some ⟨u, 0, none⟩) (List.length ([([97, 110, 110] : List UInt8), ([107] : List UInt8), ([110] : List UInt8)] : List (List UInt8))) ([([97, 110, 110] : List UInt8), ([107] : List UInt8), ([110] : List UInt8)] : List (List UInt8)), Q6 j 79 #[(.int .i64 f.1), (.int .i64 f.2.1), (.int .i64 f.2.2.1), (.int .i64 f.2.2.2.1), (.slice (some ⟨g6, 0, none⟩) (List.length ([(([97, 110, 110] : List UInt8), 0, 0, ([] : List (Int × Int)), ([(([107] : List UInt8), ([115] : List UInt8), 5)] : List ((List UInt8) × (List UInt8) × Int)))] : List Qk)) (List.length ([(([97, 110, 110] : List UInt8), 0, 0, ([] : List (Int × Int)), ([(([107] : List UInt8), ([115] : List UInt8), 5)] : List ((List UInt8) × (List UInt8) × Int)))] : List Qk))), (.map (some m))], Zv m f.2.2.2.2] := Xx b5 [4, 5] [0, 1, 2, 3] rfl rfl e5 rfl
    clear e5
    refine iR 1 4 [(4, (.int .i64 a0))] ?_
    refine iF ?_
    refine aQ ?_
    refine aR ?_
    refine iR 2 2 [(29, (pt j 0)), (30, (.string ⟨List.toArray p⟩))] ?_
    obtain ⟨a1, h8, H⟩ := Qf H
    refine iS 3 ?_
    refine cF 26 #[(.tmp 29), (.const (.string ⟨List.toArray ([97, 110, 110] : List UInt8)⟩)), (.const (.string ⟨List.toArray ([107] : List UInt8)⟩)), (.const (.string ⟨List.toArray ([109] : List UInt8)⟩)), (.tmp 30), (.const (.int .i64 (4)))] #[29, 9, 9, 9, 9, 2] 31 Tryz.call26 (Xq j (some ⟨g6, 0, none⟩) (List.length ([(([97, 110, 110] : List UInt8), 0, 0, ([] : List (Int × Int)), ([(([107] : List UInt8), ([115] : List UInt8), 5)] : List ((List UInt8) × (List UInt8) × Int)))] : List Qk)) m f.1 f.2.1 f.2.2.1 f.2.2.2.1 ([(([97, 110, 110] : List UInt8), 0, 0, (none, 0, ([] : List (Int × Int))), ((some ⟨g5, 0, none⟩), (List.length ([(([107] : List UInt8), ([115] : List UInt8), 5)] : List ((List UInt8) × (List UInt8) × Int))), ([(([107] : List UInt8), ([115] : List UInt8), 5)] : List ((List UInt8) × (List UInt8) × Int))))] : List Vo) f.2.2.2.2 ([97, 110, 110] : List UInt8) ([107] : List UInt8) ([109] : List UInt8) p 4 e4 (U8 b6 [4, 5] rfl rfl) (fun w hm => B6 (Vf (SP.still b6 (l := [4, 5]) (i := 0) rfl rfl rfl hm)) (N3 (X4 Ju (X4 Ju (X4 Ju (X4 (Rv (Qi (Qc .u32) (Qc .i64)) dT w) (Nc (Vf (SP.still b6 (l := [4, 5]) (i := 1) rfl rfl rfl hm))))))) Rw)) a1 h8) ?_
    rintro e e6 ⟨rfl, e7⟩
    refine ⟨_, rfl, ?_⟩
    have b7 : SP [] w0 e6 [Xu 44 Ux (some ⟨g6, 0, none⟩) (List.length ([(([97, 110, 110] : List UInt8), 0, 0, ([] : List (Int × Int)), ([(([107] : List UInt8), ([115] : List UInt8), 5)] : List ((List UInt8) × (List UInt8) × Int)))] : List Qk)) ([(([97, 110, 110] : List UInt8), 0, 0, (none, 0, ([] : List (Int × Int))), ((some ⟨g5, 0, none⟩), (List.length ([(([107] : List UInt8), ([115] : List UInt8), 5)] : List ((List UInt8) × (List UInt8) × Int))), ([(([107] : List UInt8), ([115] : List UInt8), 5)] : List ((List UInt8) × (List UInt8) × Int))))] : List Vo), Xu 48 (Qi Qy (Qi Qy (Qc .i64))) (some ⟨g5, 0, none⟩) (List.length ([(([107] : List UInt8), ([115] : List UInt8), 5)] : List ((List UInt8) × (List UInt8) × Int))) ([(([107] : List UInt8), ([115] : List UInt8), 5)] : List ((List UInt8) × (List UInt8) × Int)), rdE eU8 (some ⟨s, 0, none⟩) (List.length ([(115 : UInt8)] : List UInt8)) ([(115 : UInt8)] : List UInt8), Xu 9 Qy (some ⟨u, 0, none⟩) (List.length ([([97, 110, 110] : List UInt8), ([107] : List UInt8), ([110] : List UInt8)] : List (List UInt8))) ([([97, 110, 110] : List UInt8), ([107] : List UInt8), ([110] : List UInt8)] : List (List UInt8)), Q6 j 79 #[(.int .i64 f.1), (.int .i64 f.2.1), (.int .i64 f.2.2.1), (.int .i64 f.2.2.2.1), (.slice (some ⟨g6, 0, none⟩) (List.length ([(([97, 110, 110] : List UInt8), 0, 0, ([] : List (Int × Int)), ([(([107] : List UInt8), ([115] : List UInt8), 5)] : List ((List UInt8) × (List UInt8) × Int)))] : List Qk)) (List.length ([(([97, 110, 110] : List UInt8), 0, 0, ([] : List (Int × Int)), ([(([107] : List UInt8), ([115] : List UInt8), 5)] : List ((List UInt8) × (List UInt8) × Int)))] : List Qk))), (.map (some m))], Zv m f.2.2.2.2] := Xx b6 [4, 5] [0, 1, 2, 3] rfl rfl e7 rfl
    clear e7
    refine iR 1 4 [(5, (.int .i64 a1))] ?_
    refine iF ?_
    refine aQ ?_
    refine aR ?_
    refine iR 1 1 [(32, (pt j 0))] ?_
    obtain ⟨a5, h9, H⟩ := Qf H
    refine iS 2 ?_
    refine cF 22 #[(.tmp 32), (.const (.string ⟨List.toArray ([97, 110, 110] : List UInt8)⟩)), (.const (.string ⟨List.toArray ([107] : List UInt8)⟩)), (.const (.int .i64 (4)))] #[29, 9, 9, 2] 33 Tryz.call22 (Jc j (some ⟨g6, 0, none⟩) (List.length ([(([97, 110, 110] : List UInt8), 0, 0, ([] : List (Int × Int)), ([(([107] : List UInt8), ([115] : List UInt8), 5)] : List ((List UInt8) × (List UInt8) × Int)))] : List Qk)) m f.1 f.2.1 f.2.2.1 f.2.2.2.1 ([(([97, 110, 110] : List UInt8), 0, 0, (none, 0, ([] : List (Int × Int))), ((some ⟨g5, 0, none⟩), (List.length ([(([107] : List UInt8), ([115] : List UInt8), 5)] : List ((List UInt8) × (List UInt8) × Int))), ([(([107] : List UInt8), ([115] : List UInt8), 5)] : List ((List UInt8) × (List UInt8) × Int))))] : List Vo) f.2.2.2.2 ([97, 110, 110] : List UInt8) ([107] : List UInt8) 4 e6 (U8 b7 [4, 5] rfl rfl) (fun w hm => B6 (Vf (SP.still b7 (l := [4, 5]) (i := 0) rfl rfl rfl hm)) (N3 (X4 Ju (X4 Ju (X4 Ju (X4 (Rv (Qi (Qc .u32) (Qc .i64)) dT w) (Nc (Vf (SP.still b7 (l := [4, 5]) (i := 1) rfl rfl rfl hm))))))) Rw)) a5 h9) ?_
    rintro e e8 ⟨rfl, e9⟩
    refine ⟨_, rfl, ?_⟩
    have b8 : SP [] w0 e8 [Xu 44 Ux (some ⟨g6, 0, none⟩) (List.length ([(([97, 110, 110] : List UInt8), 0, 0, ([] : List (Int × Int)), ([(([107] : List UInt8), ([115] : List UInt8), 5)] : List ((List UInt8) × (List UInt8) × Int)))] : List Qk)) ([(([97, 110, 110] : List UInt8), 0, 0, (none, 0, ([] : List (Int × Int))), ((some ⟨g5, 0, none⟩), (List.length ([(([107] : List UInt8), ([115] : List UInt8), 5)] : List ((List UInt8) × (List UInt8) × Int))), ([(([107] : List UInt8), ([115] : List UInt8), 5)] : List ((List UInt8) × (List UInt8) × Int))))] : List Vo), Xu 48 (Qi Qy (Qi Qy (Qc .i64))) (some ⟨g5, 0, none⟩) (List.length ([(([107] : List UInt8), ([115] : List UInt8), 5)] : List ((List UInt8) × (List UInt8) × Int))) ([(([107] : List UInt8), ([115] : List UInt8), 5)] : List ((List UInt8) × (List UInt8) × Int)), rdE eU8 (some ⟨s, 0, none⟩) (List.length ([(115 : UInt8)] : List UInt8)) ([(115 : UInt8)] : List UInt8), Xu 9 Qy (some ⟨u, 0, none⟩) (List.length ([([97, 110, 110] : List UInt8), ([107] : List UInt8), ([110] : List UInt8)] : List (List UInt8))) ([([97, 110, 110] : List UInt8), ([107] : List UInt8), ([110] : List UInt8)] : List (List UInt8)), Q6 j 79 #[(.int .i64 f.1), (.int .i64 f.2.1), (.int .i64 f.2.2.1), (.int .i64 f.2.2.2.1), (.slice (some ⟨g6, 0, none⟩) (List.length ([(([97, 110, 110] : List UInt8), 0, 0, ([] : List (Int × Int)), ([(([107] : List UInt8), ([115] : List UInt8), 5)] : List ((List UInt8) × (List UInt8) × Int)))] : List Qk)) (List.length ([(([97, 110, 110] : List UInt8), 0, 0, ([] : List (Int × Int)), ([(([107] : List UInt8), ([115] : List UInt8), 5)] : List ((List UInt8) × (List UInt8) × Int)))] : List Qk))), (.map (some m))], Zv m f.2.2.2.2] := Xx b7 [4, 5] [0, 1, 2, 3] rfl rfl e9 rfl
    clear e9
    refine iR 1 3 [(6, (.bool a5))] ?_
    refine iF ?_
    refine aQ ?_
    refine aR ?_
    refine iR 1 1 [(34, (pt j 0))] ?_
    obtain ⟨q, i0, H⟩ := Qf H
    refine iS 2 ?_
    refine cF 20 #[(.tmp 34), (.const (.string ⟨List.toArray ([97, 110, 110] : List UInt8)⟩)), (.const (.string ⟨List.toArray ([107] : List UInt8)⟩))] #[29, 9, 9] 35 Tryz.call20 (Yr j (some ⟨g6, 0, none⟩) (List.length ([(([97, 110, 110] : List UInt8), 0, 0, ([] : List (Int × Int)), ([(([107] : List UInt8), ([115] : List UInt8), 5)] : List ((List UInt8) × (List UInt8) × Int)))] : List Qk)) m f.1 f.2.1 f.2.2.1 f.2.2.2.1 ([(([97, 110, 110] : List UInt8), 0, 0, (none, 0, ([] : List (Int × Int))), ((some ⟨g5, 0, none⟩), (List.length ([(([107] : List UInt8), ([115] : List UInt8), 5)] : List ((List UInt8) × (List UInt8) × Int))), ([(([107] : List UInt8), ([115] : List UInt8), 5)] : List ((List UInt8) × (List UInt8) × Int))))] : List Vo) f.2.2.2.2 ([97, 110, 110] : List UInt8) ([107] : List UInt8) e8 (U8 b8 [4, 5] rfl rfl) (fun w hm => B6 (Vf (SP.still b8 (l := [4, 5]) (i := 0) rfl rfl rfl hm)) (N3 (X4 Ju (X4 Ju (X4 Ju (X4 (Rv (Qi (Qc .u32) (Qc .i64)) dT w) (Nc (Vf (SP.still b8 (l := [4, 5]) (i := 1) rfl rfl rfl hm))))))) Rw)) q i0) ?_
    rintro e f0 ⟨rfl, f1⟩
    refine ⟨_, rfl, ?_⟩
    have b9 : SP [] w0 f0 [Xu 44 Ux (some ⟨g6, 0, none⟩) (List.length ([(([97, 110, 110] : List UInt8), 0, 0, ([] : List (Int × Int)), ([(([107] : List UInt8), ([115] : List UInt8), 5)] : List ((List UInt8) × (List UInt8) × Int)))] : List Qk)) ([(([97, 110, 110] : List UInt8), 0, 0, (none, 0, ([] : List (Int × Int))), ((some ⟨g5, 0, none⟩), (List.length ([(([107] : List UInt8), ([115] : List UInt8), 5)] : List ((List UInt8) × (List UInt8) × Int))), ([(([107] : List UInt8), ([115] : List UInt8), 5)] : List ((List UInt8) × (List UInt8) × Int))))] : List Vo), Xu 48 (Qi Qy (Qi Qy (Qc .i64))) (some ⟨g5, 0, none⟩) (List.length ([(([107] : List UInt8), ([115] : List UInt8), 5)] : List ((List UInt8) × (List UInt8) × Int))) ([(([107] : List UInt8), ([115] : List UInt8), 5)] : List ((List UInt8) × (List UInt8) × Int)), rdE eU8 (some ⟨s, 0, none⟩) (List.length ([(115 : UInt8)] : List UInt8)) ([(115 : UInt8)] : List UInt8), Xu 9 Qy (some ⟨u, 0, none⟩) (List.length ([([97, 110, 110] : List UInt8), ([107] : List UInt8), ([110] : List UInt8)] : List (List UInt8))) ([([97, 110, 110] : List UInt8), ([107] : List UInt8), ([110] : List UInt8)] : List (List UInt8)), Q6 j 79 #[(.int .i64 q.2.1), (.int .i64 q.2.2.1), (.int .i64 q.2.2.2.1), (.int .i64 q.2.2.2.2.1), (.slice (some ⟨g6, 0, none⟩) (List.length ([(([97, 110, 110] : List UInt8), 0, 0, ([] : List (Int × Int)), ([(([107] : List UInt8), ([115] : List UInt8), 5)] : List ((List UInt8) × (List UInt8) × Int)))] : List Qk)) (List.length ([(([97, 110, 110] : List UInt8), 0, 0, ([] : List (Int × Int)), ([(([107] : List UInt8), ([115] : List UInt8), 5)] : List ((List UInt8) × (List UInt8) × Int)))] : List Qk))), (.map (some m))], Zv m q.2.2.2.2.2] := Xx b8 [4, 5] [0, 1, 2, 3] rfl rfl f1 rfl
    clear f1
    refine iR 1 3 [(7, (.bool q.1))] ?_
    refine iF ?_
    refine aQ ?_
    refine aR ?_
    refine iR 1 1 [(36, (pt j 0))] ?_
    obtain ⟨h, i1, H⟩ := Qf H
    refine iS 2 ?_
    refine cF 20 #[(.tmp 36), (.const (.string ⟨List.toArray ([97, 110, 110] : List UInt8)⟩)), (.const (.string ⟨List.toArray ([107] : List UInt8)⟩))] #[29, 9, 9] 37 Tryz.call20 (Yr j (some ⟨g6, 0, none⟩) (List.length ([(([97, 110, 110] : List UInt8), 0, 0, ([] : List (Int × Int)), ([(([107] : List UInt8), ([115] : List UInt8), 5)] : List ((List UInt8) × (List UInt8) × Int)))] : List Qk)) m q.2.1 q.2.2.1 q.2.2.2.1 q.2.2.2.2.1 ([(([97, 110, 110] : List UInt8), 0, 0, (none, 0, ([] : List (Int × Int))), ((some ⟨g5, 0, none⟩), (List.length ([(([107] : List UInt8), ([115] : List UInt8), 5)] : List ((List UInt8) × (List UInt8) × Int))), ([(([107] : List UInt8), ([115] : List UInt8), 5)] : List ((List UInt8) × (List UInt8) × Int))))] : List Vo) q.2.2.2.2.2 ([97, 110, 110] : List UInt8) ([107] : List UInt8) f0 (U8 b9 [4, 5] rfl rfl) (fun w hm => B6 (Vf (SP.still b9 (l := [4, 5]) (i := 0) rfl rfl rfl hm)) (N3 (X4 Ju (X4 Ju (X4 Ju (X4 (Rv (Qi (Qc .u32) (Qc .i64)) dT w) (Nc (Vf (SP.still b9 (l := [4, 5]) (i := 1) rfl rfl rfl hm))))))) Rw)) h i1) ?_
    rintro e f2 ⟨rfl, f3⟩
    refine ⟨_, rfl, ?_⟩
    have c0 : SP [] w0 f2 [Xu 44 Ux (some ⟨g6, 0, none⟩) (List.length ([(([97, 110, 110] : List UInt8), 0, 0, ([] : List (Int × Int)), ([(([107] : List UInt8), ([115] : List UInt8), 5)] : List ((List UInt8) × (List UInt8) × Int)))] : List Qk)) ([(([97, 110, 110] : List UInt8), 0, 0, (none, 0, ([] : List (Int × Int))), ((some ⟨g5, 0, none⟩), (List.length ([(([107] : List UInt8), ([115] : List UInt8), 5)] : List ((List UInt8) × (List UInt8) × Int))), ([(([107] : List UInt8), ([115] : List UInt8), 5)] : List ((List UInt8) × (List UInt8) × Int))))] : List Vo), Xu 48 (Qi Qy (Qi Qy (Qc .i64))) (some ⟨g5, 0, none⟩) (List.length ([(([107] : List UInt8), ([115] : List UInt8), 5)] : List ((List UInt8) × (List UInt8) × Int))) ([(([107] : List UInt8), ([115] : List UInt8), 5)] : List ((List UInt8) × (List UInt8) × Int)), rdE eU8 (some ⟨s, 0, none⟩) (List.length ([(115 : UInt8)] : List UInt8)) ([(115 : UInt8)] : List UInt8), Xu 9 Qy (some ⟨u, 0, none⟩) (List.length ([([97, 110, 110] : List UInt8), ([107] : List UInt8), ([110] : List UInt8)] : List (List UInt8))) ([([97, 110, 110] : List UInt8), ([107] : List UInt8), ([110] : List UInt8)] : List (List UInt8)), Q6 j 79 #[(.int .i64 h.2.1), (.int .i64 h.2.2.1), (.int .i64 h.2.2.2.1), (.int .i64 h.2.2.2.2.1), (.slice (some ⟨g6, 0, none⟩) (List.length ([(([97, 110, 110] : List UInt8), 0, 0, ([] : List (Int × Int)), ([(([107] : List UInt8), ([115] : List UInt8), 5)] : List ((List UInt8) × (List UInt8) × Int)))] : List Qk)) (List.length ([(([97, 110, 110] : List UInt8), 0, 0, ([] : List (Int × Int)), ([(([107] : List UInt8), ([115] : List UInt8), 5)] : List ((List UInt8) × (List UInt8) × Int)))] : List Qk))), (.map (some m))], Zv m h.2.2.2.2.2] := Xx b9 [4, 5] [0, 1, 2, 3] rfl rfl f3 rfl
    clear f3
    refine iR 1 3 [(8, (.bool h.1))] ?_
    refine iF ?_
    refine aQ ?_
    refine aR ?_
    refine iR 2 2 [(38, (pt j 0)), (39, (.string ⟨List.toArray p⟩))] ?_
    obtain ⟨a2, i2, H⟩ := Qf H
    refine iS 3 ?_
    refine cF 26 #[(.tmp 38), (.const (.string ⟨List.toArray ([97, 110, 110] : List UInt8)⟩)), (.const (.string ⟨List.toArray ([107] : List UInt8)⟩)), (.const (.string ⟨List.toArray ([110] : List UInt8)⟩)), (.tmp 39), (.const (.int .i64 (4)))] #[29, 9, 9, 9, 9, 2] 40 Tryz.call26 (Xq j (some ⟨g6, 0, none⟩) (List.length ([(([97, 110, 110] : List UInt8), 0, 0, ([] : List (Int × Int)), ([(([107] : List UInt8), ([115] : List UInt8), 5)] : List ((List UInt8) × (List UInt8) × Int)))] : List Qk)) m h.2.1 h.2.2.1 h.2.2.2.1 h.2.2.2.2.1 ([(([97, 110, 110] : List UInt8), 0, 0, (none, 0, ([] : List (Int × Int))), ((some ⟨g5, 0, none⟩), (List.length ([(([107] : List UInt8), ([115] : List UInt8), 5)] : List ((List UInt8) × (List UInt8) × Int))), ([(([107] : List UInt8), ([115] : List UInt8), 5)] : List ((List UInt8) × (List UInt8) × Int))))] : List Vo) h.2.2.2.2.2 ([97, 110, 110] : List UInt8) ([107] : List UInt8) ([110] : List UInt8) p 4 f2 (U8 c0 [4, 5] rfl rfl) (fun w hm => B6 (Vf (SP.still c0 (l := [4, 5]) (i := 0) rfl rfl rfl hm)) (N3 (X4 Ju (X4 Ju (X4 Ju (X4 (Rv (Qi (Qc .u32) (Qc .i64)) dT w) (Nc (Vf (SP.still c0 (l := [4, 5]) (i := 1) rfl rfl rfl hm))))))) Rw)) a2 i2) ?_
    rintro e f4 ⟨rfl, f5⟩
    refine ⟨_, rfl, ?_⟩
    have v : SP [] w0 f4 [Xu 44 Ux (some ⟨g6, 0, none⟩) (List.length ([(([97, 110, 110] : List UInt8), 0, 0, ([] : List (Int × Int)), ([(([107] : List UInt8), ([115] : List UInt8), 5)] : List ((List UInt8) × (List UInt8) × Int)))] : List Qk)) ([(([97, 110, 110] : List UInt8), 0, 0, (none, 0, ([] : List (Int × Int))), ((some ⟨g5, 0, none⟩), (List.length ([(([107] : List UInt8), ([115] : List UInt8), 5)] : List ((List UInt8) × (List UInt8) × Int))), ([(([107] : List UInt8), ([115] : List UInt8), 5)] : List ((List UInt8) × (List UInt8) × Int))))] : List Vo), Xu 48 (Qi Qy (Qi Qy (Qc .i64))) (some ⟨g5, 0, none⟩) (List.length ([(([107] : List UInt8), ([115] : List UInt8), 5)] : List ((List UInt8) × (List UInt8) × Int))) ([(([107] : List UInt8), ([115] : List UInt8), 5)] : List ((List UInt8) × (List UInt8) × Int)), rdE eU8 (some ⟨s, 0, none⟩) (List.length ([(115 : UInt8)] : List UInt8)) ([(115 : UInt8)] : List UInt8), Xu 9 Qy (some ⟨u, 0, none⟩) (List.length ([([97, 110, 110] : List UInt8), ([107] : List UInt8), ([110] : List UInt8)] : List (List UInt8))) ([([97, 110, 110] : List UInt8), ([107] : List UInt8), ([110] : List UInt8)] : List (List UInt8)), Q6 j 79 #[(.int .i64 h.2.1), (.int .i64 h.2.2.1), (.int .i64 h.2.2.2.1), (.int .i64 h.2.2.2.2.1), (.slice (some ⟨g6, 0, none⟩) (List.length ([(([97, 110, 110] : List UInt8), 0, 0, ([] : List (Int × Int)), ([(([107] : List UInt8), ([115] : List UInt8), 5)] : List ((List UInt8) × (List UInt8) × Int)))] : List Qk)) (List.length ([(([97, 110, 110] : List UInt8), 0, 0, ([] : List (Int × Int)), ([(([107] : List UInt8), ([115] : List UInt8), 5)] : List ((List UInt8) × (List UInt8) × Int)))] : List Qk))), (.map (some m))], Zv m h.2.2.2.2.2] := Xx c0 [4, 5] [0, 1, 2, 3] rfl rfl f5 rfl
    clear f5
    refine iR 1 4 [(9, (.int .i64 a2))] ?_
    refine iF ?_
    refine aQ ?_
    refine At.join (fun ρ w => ∃ (a6 : Bool), V8 ρ [(0, (.bool a6))] ∧ SP [] w0 w [] ∧ Vi a6 = some r) ?_ ?_
    ·refine aR ?_
     refine iR 3 3 [(41, (.int .i64 a4)), (42, (.bool (a4 == 0))), (43, (.bool (a4 == 0)))] ?_
     refine In.guard (t := 43) (b := (a4 == 0)) K (fun c3 => ?_) (fun c3 => ?_)
     ·have H := ct H c3
      refine iR 4 7 [(44, (.int .i64 a0)), (45, (.bool (a0 == 3))), (46, (.bool (a0 == 3))), (47, (.bool (a0 == 3)))] ?_
      refine In.guard (t := 47) (b := (a0 == 3)) K (fun c4 => ?_) (fun c4 => ?_)
      ·have H := ct H c4
       refine iR 4 11 [(48, (.int .i64 a1)), (49, (.bool (a1 == 101))), (50, (.bool (a1 == 101))), (51, (.bool (a1 == 101)))] ?_
       refine In.guard (t := 51) (b := (a1 == 101)) K (fun c5 => ?_) (fun c5 => ?_)
       ·have H := ct H c5
        refine iR 3 14 [(52, (.bool a5)), (53, (.bool a5)), (54, (.bool a5))] ?_
        refine In.guard (t := 54) (b := a5) K (fun c6 => ?_) (fun c6 => ?_)
        ·have H := ct H c6
         refine iR 3 17 [(55, (.bool q.1)), (56, (.bool q.1)), (57, (.bool q.1))] ?_
         refine In.guard (t := 57) (b := q.1) K (fun c7 => ?_) (fun c7 => ?_)
         ·have H := ct H c7
          refine iR 4 21 [(58, (.bool h.1)), (59, (.bool (!h.1))), (60, (.bool (!h.1))), (61, (.bool (!h.1)))] ?_
          refine In.guard (t := 61) (b := (!h.1)) K (fun c8 => ?_) (fun c8 => ?_)
          ·have H := ct H c8
           refine iR 4 25 [(62, (.int .i64 a2)), (63, (.bool (a2 == 3))), (64, (.bool (a2 == 3))), (65, (.bool (a2 == 3)))] ?_
           refine In.guard (t := 65) (b := (a2 == 3)) K (fun c9 => ?_) (fun c9 => ?_)
           ·have H := ct H c9
            refine iR 1 26 [(66, (pt j 0))] ?_
            obtain ⟨a7, i3, H⟩ := Qf H
            refine iS 27 ?_
            refine cF 24 #[(.tmp 66), (.const (.string ⟨List.toArray ([97, 110, 110] : List UInt8)⟩)), (.const (.string ⟨List.toArray ([107] : List UInt8)⟩)), (.const (.string ⟨List.toArray ([110] : List UInt8)⟩))] #[29, 9, 9, 9] 67 Tryz.call24 (Jd j (some ⟨g6, 0, none⟩) (List.length ([(([97, 110, 110] : List UInt8), 0, 0, ([] : List (Int × Int)), ([(([107] : List UInt8), ([115] : List UInt8), 5)] : List ((List UInt8) × (List UInt8) × Int)))] : List Qk)) m h.2.1 h.2.2.1 h.2.2.2.1 h.2.2.2.2.1 ([(([97, 110, 110] : List UInt8), 0, 0, (none, 0, ([] : List (Int × Int))), ((some ⟨g5, 0, none⟩), (List.length ([(([107] : List UInt8), ([115] : List UInt8), 5)] : List ((List UInt8) × (List UInt8) × Int))), ([(([107] : List UInt8), ([115] : List UInt8), 5)] : List ((List UInt8) × (List UInt8) × Int))))] : List Vo) h.2.2.2.2.2 ([97, 110, 110] : List UInt8) ([107] : List UInt8) ([110] : List UInt8) f4 (U8 v [4, 5] rfl rfl) (fun w hm => B6 (Vf (SP.still v (l := [4, 5]) (i := 0) rfl rfl rfl hm)) (N3 (X4 Ju (X4 Ju (X4 Ju (X4 (Rv (Qi (Qc .u32) (Qc .i64)) dT w) (Nc (Vf (SP.still v (l := [4, 5]) (i := 1) rfl rfl rfl hm))))))) Rw)) a7 i3) ?_
            rintro e f6 ⟨rfl, f7⟩
            refine ⟨_, rfl, ?_⟩
            have a9 : SP [] w0 f6 [Xu 44 Ux (some ⟨g6, 0, none⟩) (List.length ([(([97, 110, 110] : List UInt8), 0, 0, ([] : List (Int × Int)), ([(([107] : List UInt8), ([115] : List UInt8), 5)] : List ((List UInt8) × (List UInt8) × Int)))] : List Qk)) ([(([97, 110, 110] : List UInt8), 0, 0, (none, 0, ([] : List (Int × Int))), ((some ⟨g5, 0, none⟩), (List.length ([(([107] : List UInt8), ([115] : List UInt8), 5)] : List ((List UInt8) × (List UInt8) × Int))), ([(([107] : List UInt8), ([115] : List UInt8), 5)] : List ((List UInt8) × (List UInt8) × Int))))] : List Vo), Xu 48 (Qi Qy (Qi Qy (Qc .i64))) (some ⟨g5, 0, none⟩) (List.length ([(([107] : List UInt8), ([115] : List UInt8), 5)] : List ((List UInt8) × (List UInt8) × Int))) ([(([107] : List UInt8), ([115] : List UInt8), 5)] : List ((List UInt8) × (List UInt8) × Int)), rdE eU8 (some ⟨s, 0, none⟩) (List.length ([(115 : UInt8)] : List UInt8)) ([(115 : UInt8)] : List UInt8), Xu 9 Qy (some ⟨u, 0, none⟩) (List.length ([([97, 110, 110] : List UInt8), ([107] : List UInt8), ([110] : List UInt8)] : List (List UInt8))) ([([97, 110, 110] : List UInt8), ([107] : List UInt8), ([110] : List UInt8)] : List (List UInt8)), Q6 j 79 #[(.int .i64 h.2.1), (.int .i64 h.2.2.1), (.int .i64 h.2.2.2.1), (.int .i64 h.2.2.2.2.1), (.slice (some ⟨g6, 0, none⟩) (List.length ([(([97, 110, 110] : List UInt8), 0, 0, ([] : List (Int × Int)), ([(([107] : List UInt8), ([115] : List UInt8), 5)] : List ((List UInt8) × (List UInt8) × Int)))] : List Qk)) (List.length ([(([97, 110, 110] : List UInt8), 0, 0, ([] : List (Int × Int)), ([(([107] : List UInt8), ([115] : List UInt8), 5)] : List ((List UInt8) × (List UInt8) × Int)))] : List Qk))), (.map (some m))], Zv m h.2.2.2.2.2] := Xx v [4, 5] [0, 1, 2, 3] rfl rfl f7 rfl
            clear f7
            refine iR 1 28 [(68, (.string ⟨List.toArray p⟩))] ?_
            refine iS 29 ?_
            refine Xe (op := .eql) (T := 9) (T' := 9) (x := (.tmp 67)) (y := (.tmp 68)) (a := a7) (b := p) (r := (.bool (a7 == p))) (d := (some 69)) (k := 28) K rfl K K rfl ?_
            refine iR 2 31 [(70, (.bool (a7 == p))), (71, (.bool (a7 == p)))] ?_
            refine In.guard (t := 71) (b := (a7 == p)) K (fun d0 => ?_) (fun d0 => ?_)
            ·have H := ct H d0
             refine iR 1 32 [(72, (pt j 0))] ?_
             obtain ⟨a8, i4, H⟩ := Qf H
             refine iS 33 ?_
             refine cF 24 #[(.tmp 72), (.const (.string ⟨List.toArray ([97, 110, 110] : List UInt8)⟩)), (.const (.string ⟨List.toArray ([122] : List UInt8)⟩)), (.const (.string ⟨List.toArray ([110] : List UInt8)⟩))] #[29, 9, 9, 9] 73 Tryz.call24 (Jd j (some ⟨g6, 0, none⟩) (List.length ([(([97, 110, 110] : List UInt8), 0, 0, ([] : List (Int × Int)), ([(([107] : List UInt8), ([115] : List UInt8), 5)] : List ((List UInt8) × (List UInt8) × Int)))] : List Qk)) m h.2.1 h.2.2.1 h.2.2.2.1 h.2.2.2.2.1 ([(([97, 110, 110] : List UInt8), 0, 0, (none, 0, ([] : List (Int × Int))), ((some ⟨g5, 0, none⟩), (List.length ([(([107] : List UInt8), ([115] : List UInt8), 5)] : List ((List UInt8) × (List UInt8) × Int))), ([(([107] : List UInt8), ([115] : List UInt8), 5)] : List ((List UInt8) × (List UInt8) × Int))))] : List Vo) h.2.2.2.2.2 ([97, 110, 110] : List UInt8) ([122] : List UInt8) ([110] : List UInt8) f6 (U8 a9 [4, 5] rfl rfl) (fun w hm => B6 (Vf (SP.still a9 (l := [4, 5]) (i := 0) rfl rfl rfl hm)) (N3 (X4 Ju (X4 Ju (X4 Ju (X4 (Rv (Qi (Qc .u32) (Qc .i64)) dT w) (Nc (Vf (SP.still a9 (l := [4, 5]) (i := 1) rfl rfl rfl hm))))))) Rw)) a8 i4) ?_
             rintro e f8 ⟨rfl, f9⟩
             refine ⟨_, rfl, ?_⟩
             have b0 : SP [] w0 f8 [Xu 44 Ux (some ⟨g6, 0, none⟩) (List.length ([(([97, 110, 110] : List UInt8), 0, 0, ([] : List (Int × Int)), ([(([107] : List UInt8), ([115] : List UInt8), 5)] : List ((List UInt8) × (List UInt8) × Int)))] : List Qk)) ([(([97, 110, 110] : List UInt8), 0, 0, (none, 0, ([] : List (Int × Int))), ((some ⟨g5, 0, none⟩), (List.length ([(([107] : List UInt8), ([115] : List UInt8), 5)] : List ((List UInt8) × (List UInt8) × Int))), ([(([107] : List UInt8), ([115] : List UInt8), 5)] : List ((List UInt8) × (List UInt8) × Int))))] : List Vo), Xu 48 (Qi Qy (Qi Qy (Qc .i64))) (some ⟨g5, 0, none⟩) (List.length ([(([107] : List UInt8), ([115] : List UInt8), 5)] : List ((List UInt8) × (List UInt8) × Int))) ([(([107] : List UInt8), ([115] : List UInt8), 5)] : List ((List UInt8) × (List UInt8) × Int)), rdE eU8 (some ⟨s, 0, none⟩) (List.length ([(115 : UInt8)] : List UInt8)) ([(115 : UInt8)] : List UInt8), Xu 9 Qy (some ⟨u, 0, none⟩) (List.length ([([97, 110, 110] : List UInt8), ([107] : List UInt8), ([110] : List UInt8)] : List (List UInt8))) ([([97, 110, 110] : List UInt8), ([107] : List UInt8), ([110] : List UInt8)] : List (List UInt8)), Q6 j 79 #[(.int .i64 h.2.1), (.int .i64 h.2.2.1), (.int .i64 h.2.2.2.1), (.int .i64 h.2.2.2.2.1), (.slice (some ⟨g6, 0, none⟩) (List.length ([(([97, 110, 110] : List UInt8), 0, 0, ([] : List (Int × Int)), ([(([107] : List UInt8), ([115] : List UInt8), 5)] : List ((List UInt8) × (List UInt8) × Int)))] : List Qk)) (List.length ([(([97, 110, 110] : List UInt8), 0, 0, ([] : List (Int × Int)), ([(([107] : List UInt8), ([115] : List UInt8), 5)] : List ((List UInt8) × (List UInt8) × Int)))] : List Qk))), (.map (some m))], Zv m h.2.2.2.2.2] := Xx a9 [4, 5] [0, 1, 2, 3] rfl rfl f9 rfl
             clear f9
             refine iS 34 ?_
             refine Xe (op := .eql) (T := 9) (T' := 9) (x := (.tmp 73)) (y := (.const (.string ⟨List.toArray ([] : List UInt8)⟩))) (a := a8) (b := ([] : List UInt8)) (r := (.bool (a8 == ([] : List UInt8)))) (d := (some 74)) (k := 33) K rfl K K rfl ?_
             refine iR 2 36 [(75, (.bool (a8 == ([] : List UInt8)))), (76, (.bool (a8 == ([] : List UInt8))))] ?_
             refine In.guard (t := 76) (b := (a8 == ([] : List UInt8))) K (fun d1 => ?_) (fun d1 => ?_)
             ·have H := ct H d1
              refine iR 1 37 [(77, (pt j 0))] ?_
              obtain ⟨b1, i5, H⟩ := Qf H
              refine iS 38 ?_
              refine cF 22 #[(.tmp 77), (.const (.string ⟨List.toArray ([97, 110, 110] : List UInt8)⟩)), (.const (.string ⟨List.toArray ([107] : List UInt8)⟩)), (.const (.int .i64 (0)))] #[29, 9, 9, 2] 78 Tryz.call22 (Jc j (some ⟨g6, 0, none⟩) (List.length ([(([97, 110, 110] : List UInt8), 0, 0, ([] : List (Int × Int)), ([(([107] : List UInt8), ([115] : List UInt8), 5)] : List ((List UInt8) × (List UInt8) × Int)))] : List Qk)) m h.2.1 h.2.2.1 h.2.2.2.1 h.2.2.2.2.1 ([(([97, 110, 110] : List UInt8), 0, 0, (none, 0, ([] : List (Int × Int))), ((some ⟨g5, 0, none⟩), (List.length ([(([107] : List UInt8), ([115] : List UInt8), 5)] : List ((List UInt8) × (List UInt8) × Int))), ([(([107] : List UInt8), ([115] : List UInt8), 5)] : List ((List UInt8) × (List UInt8) × Int))))] : List Vo) h.2.2.2.2.2 ([97, 110, 110] : List UInt8) ([107] : List UInt8) 0 f8 (U8 b0 [4, 5] rfl rfl) (fun w hm => B6 (Vf (SP.still b0 (l := [4, 5]) (i := 0) rfl rfl rfl hm)) (N3 (X4 Ju (X4 Ju (X4 Ju (X4 (Rv (Qi (Qc .u32) (Qc .i64)) dT w) (Nc (Vf (SP.still b0 (l := [4, 5]) (i := 1) rfl rfl rfl hm))))))) Rw)) b1 i5) ?_
              rintro e i6 ⟨rfl, g0⟩
              refine ⟨_, rfl, ?_⟩
              have i7 : SP [] w0 i6 [Xu 44 Ux (some ⟨g6, 0, none⟩) (List.length ([(([97, 110, 110] : List UInt8), 0, 0, ([] : List (Int × Int)), ([(([107] : List UInt8), ([115] : List UInt8), 5)] : List ((List UInt8) × (List UInt8) × Int)))] : List Qk)) ([(([97, 110, 110] : List UInt8), 0, 0, (none, 0, ([] : List (Int × Int))), ((some ⟨g5, 0, none⟩), (List.length ([(([107] : List UInt8), ([115] : List UInt8), 5)] : List ((List UInt8) × (List UInt8) × Int))), ([(([107] : List UInt8), ([115] : List UInt8), 5)] : List ((List UInt8) × (List UInt8) × Int))))] : List Vo), Xu 48 (Qi Qy (Qi Qy (Qc .i64))) (some ⟨g5, 0, none⟩) (List.length ([(([107] : List UInt8), ([115] : List UInt8), 5)] : List ((List UInt8) × (List UInt8) × Int))) ([(([107] : List UInt8), ([115] : List UInt8), 5)] : List ((List UInt8) × (List UInt8) × Int)), rdE eU8 (some ⟨s, 0, none⟩) (List.length ([(115 : UInt8)] : List UInt8)) ([(115 : UInt8)] : List UInt8), Xu 9 Qy (some ⟨u, 0, none⟩) (List.length ([([97, 110, 110] : List UInt8), ([107] : List UInt8), ([110] : List UInt8)] : List (List UInt8))) ([([97, 110, 110] : List UInt8), ([107] : List UInt8), ([110] : List UInt8)] : List (List UInt8)), Q6 j 79 #[(.int .i64 h.2.1), (.int .i64 h.2.2.1), (.int .i64 h.2.2.2.1), (.int .i64 h.2.2.2.2.1), (.slice (some ⟨g6, 0, none⟩) (List.length ([(([97, 110, 110] : List UInt8), 0, 0, ([] : List (Int × Int)), ([(([107] : List UInt8), ([115] : List UInt8), 5)] : List ((List UInt8) × (List UInt8) × Int)))] : List Qk)) (List.length ([(([97, 110, 110] : List UInt8), 0, 0, ([] : List (Int × Int)), ([(([107] : List UInt8), ([115] : List UInt8), 5)] : List ((List UInt8) × (List UInt8) × Int)))] : List Qk))), (.map (some m))], Zv m h.2.2.2.2.2] := Xx b0 [4, 5] [0, 1, 2, 3] rfl rfl g0 rfl
              clear g0
              refine iR 3 41 [(79, (.bool (!b1))), (80, (.bool (!b1))), (0, (.bool (!b1)))] ?_
              refine iF ?_
              exact ⟨(!b1), ⟨K, trivial⟩, SP.sel i7 [] rfl rfl, H⟩
             ·have H := cf H d1
              refine iR 5 41 [(77, undef), (78, undef), (79, undef), (80, (.bool false)), (0, (.bool false))] ?_
              refine iF ?_
              exact ⟨false, ⟨K, trivial⟩, SP.sel b0 [] rfl rfl, H⟩
            ·have H := cf H d0
             refine iR 10 41 [(72, undef), (73, undef), (74, undef), (75, (.bool false)), (76, (.bool false)), (77, undef), (78, undef), (79, undef), (80, (.bool false)), (0, (.bool false))] ?_
             refine iF ?_
             exact ⟨false, ⟨K, trivial⟩, SP.sel a9 [] rfl rfl, H⟩
           ·have H := cf H c9
            refine iR 16 41 [(66, undef), (67, undef), (68, undef), (69, undef), (70, (.bool false)), (71, (.bool false)), (72, undef), (73, undef), (74, undef), (75, (.bool false)), (76, (.bool false)), (77, undef), (78, undef), (79, undef), (80, (.bool false)), (0, (.bool false))] ?_
            refine iF ?_
            exact ⟨false, ⟨K, trivial⟩, SP.sel v [] rfl rfl, H⟩
          ·have H := cf H c8
           refine iR 20 41 [(62, undef), (63, undef), (64, (.bool false)), (65, (.bool false)), (66, undef), (67, undef), (68, undef), (69, undef), (70, (.bool false)), (71, (.bool false)), (72, undef), (73, undef), (74, undef), (75, (.bool false)), (76, (.bool false)), (77, undef), (78, undef), (79, undef), (80, (.bool false)), (0, (.bool false))] ?_
           refine iF ?_
           exact ⟨false, ⟨K, trivial⟩, SP.sel v [] rfl rfl, H⟩
         ·have H := cf H c7
          refine iR 24 41 [(58, undef), (59, undef), (60, (.bool false)), (61, (.bool false)), (62, undef), (63, undef), (64, (.bool false)), (65, (.bool false)), (66, undef), (67, undef), (68, undef), (69, undef), (70, (.bool false)), (71, (.bool false)), (72, undef), (73, undef), (74, undef), (75, (.bool false)), (76, (.bool false)), (77, undef), (78, undef), (79, undef), (80, (.bool false)), (0, (.bool false))] ?_
          refine iF ?_
          exact ⟨false, ⟨K, trivial⟩, SP.sel v [] rfl rfl, H⟩
        ·have H := cf H c6
         refine iR 27 41 [(55, undef), (56, (.bool false)), (57, (.bool false)), (58, undef), (59, undef), (60, (.bool false)), (61, (.bool false)), (62, undef), (63, undef), (64, (.bool false)), (65, (.bool false)), (66, undef), (67, undef), (68, undef), (69, undef), (70, (.bool false)), (71, (.bool false)), (72, undef), (73, undef), (74, undef), (75, (.bool false)), (76, (.bool false)), (77, undef), (78, undef), (79, undef), (80, (.bool false)), (0, (.bool false))] ?_
         refine iF ?_
         exact ⟨false, ⟨K, trivial⟩, SP.sel v [] rfl rfl, H⟩
       ·have H := cf H c5
        refine iR 30 41 [(52, undef), (53, (.bool false)), (54, (.bool false)), (55, undef), (56, (.bool false)), (57, (.bool false)), (58, undef), (59, undef), (60, (.bool false)), (61, (.bool false)), (62, undef), (63, undef), (64, (.bool false)), (65, (.bool false)), (66, undef), (67, undef), (68, undef), (69, undef), (70, (.bool false)), (71, (.bool false)), (72, undef), (73, undef), (74, undef), (75, (.bool false)), (76, (.bool false)), (77, undef), (78, undef), (79, undef), (80, (.bool false)), (0, (.bool false))] ?_
        refine iF ?_
        exact ⟨false, ⟨K, trivial⟩, SP.sel v [] rfl rfl, H⟩
      ·have H := cf H c4
       refine iR 34 41 [(48, undef), (49, undef), (50, (.bool false)), (51, (.bool false)), (52, undef), (53, (.bool false)), (54, (.bool false)), (55, undef), (56, (.bool false)), (57, (.bool false)), (58, undef), (59, undef), (60, (.bool false)), (61, (.bool false)), (62, undef), (63, undef), (64, (.bool false)), (65, (.bool false)), (66, undef), (67, undef), (68, undef), (69, undef), (70, (.bool false)), (71, (.bool false)), (72, undef), (73, undef), (74, undef), (75, (.bool false)), (76, (.bool false)), (77, undef), (78, undef), (79, undef), (80, (.bool false)), (0, (.bool false))] ?_
       refine iF ?_
       exact ⟨false, ⟨K, trivial⟩, SP.sel v [] rfl rfl, H⟩
     ·have H := cf H c3
      refine iR 38 41 [(44, undef), (45, undef), (46, (.bool false)), (47, (.bool false)), (48, undef), (49, undef), (50, (.bool false)), (51, (.bool false)), (52, undef), (53, (.bool false)), (54, (.bool false)), (55, undef), (56, (.bool false)), (57, (.bool false)), (58, undef), (59, undef), (60, (.bool false)), (61, (.bool false)), (62, undef), (63, undef), (64, (.bool false)), (65, (.bool false)), (66, undef), (67, undef), (68, undef), (69, undef), (70, (.bool false)), (71, (.bool false)), (72, undef), (73, undef), (74, undef), (75, (.bool false)), (76, (.bool false)), (77, undef), (78, undef), (79, undef), (80, (.bool false)), (0, (.bool false))] ?_
      refine iF ?_
      exact ⟨false, ⟨K, trivial⟩, SP.sel v [] rfl rfl, H⟩
    ·rintro ρ j7 ⟨a6, hk, i8, H⟩
     unfold Vi at H
     first | refine At.known [(0, (.bool a6))] hk ?_ | rw [← Va (l := [(0, (.bool a6))]) hk]
     refine At.ret K ?_
     refine ⟨(.bool a6), K, ?_⟩
     obtain rfl := Qm H
     exact ⟨rfl, SP.sel i8 [] rfl rfl⟩
end Go.Proofs.YtmgfanhcdfobhaaGreatDoor
namespace Go.Proofs.YtmgfanhcdfobhaaGreatDoor
abbrev headV : List Qk := [(([97, 110, 110] : List UInt8), 0, 0, ([] : List (Int × Int)), ([(([107] : List UInt8), ([115] : List UInt8), 5)] : List ((List UInt8) × (List UInt8) × Int)))]
theorem headV_q : ∀ t ∈ headV, TenQ t := by
  intro t ht
  have : t = (([97, 110, 110] : List UInt8), 0, 0, ([] : List (Int × Int)), ([(([107] : List UInt8), ([115] : List UInt8), 5)] : List ((List UInt8) × (List UInt8) × Int))) := by simpa [headV] using ht
  subst this
  refine ⟨by decide, by decide, by decide, (fun n hn => by cases hn), fun x hx => ?_⟩
  have : x = (([107] : List UInt8), ([115] : List UInt8), 5) := by simpa using hx
  subst this
  decide
theorem headVNew : Jb 9 9 9 9 headV = some (some (9, 9, 9, 9, [])) := by
  rw [pVNew 9 9 9 9 headV (by decide) headV_q, show En 9 9 9 9 headV = true by kernel_rfl]
  rfl
theorem headVNone : Jb 0 0 0 0 [] = some none := by
  rw [pVNew 0 0 0 0 [] (by decide) (fun t ht => by cases ht), show En 0 0 0 0 [] = false by kernel_rfl]
  rfl
theorem headVRest : Xl (9, 9, 9, 9, []) false = some true := by kernel_rfl
theorem optE_s {α β : Type} (x : α) (a : Option β) (f : α → Option β) : optE (some x) a f = f x := rfl
theorem optE_n {α β : Type} (a : Option β) (f : α → Option β) : optE none a f = a := rfl
theorem vaultHead : Yo = some true := by
  unfold Yo
  rw [show Ua = some () from rfl, Option.bind_some, headVNew, Option.bind_some, optE_s, headVNone, Option.bind_some, optE_n]
  exact headVRest
abbrev OpV := Int × Str × Str × Str × Str × Int
def OpVQ (o : OpV) : Prop := o.2.1.length ≤ 140737488355328 ∧ o.2.2.1.length ≤ 140737488355328 ∧ o.2.2.2.1.length ≤ 140737488355328 ∧ o.2.2.2.2.1.length ≤ 140737488355328
theorem opsV_loop (l : List OpV) (hl : l.length ≤ 140737488355328) (hq : ∀ o ∈ l, OpVQ o) : ∀ (d i f : Nat), d = min l.length 200 - i → i ≤ l.length → i ≤ 200 → d < f → ∃ b, V6 l f (i : Int) = some b ∧ (b = false → l.length ≤ 100) := by
  intro d
  induction d with
  | zero =>
    intro i f hd hi h3 hf
    obtain ⟨f, rfl⟩ : ∃ g, f = g + 1 := ⟨f - 1, by omega⟩
    show ∃ b, Zo (V6 l f) l (i : Int) = some b ∧ _
    unfold Zo Zx
    by_cases hlt : i < l.length
    · rw [show decide ((i : Int) < ((l.length : Nat) : Int)) = true from decide_eq_true (by omega), cond_true, show decide ((i : Int) < 200) = false from decide_eq_false (by omega), cond_false]
      exact ⟨_, rfl, fun h => by have := of_decide_eq_false h; omega⟩
    · rw [show decide ((i : Int) < ((l.length : Nat) : Int)) = false from decide_eq_false (by omega), cond_false, cond_false]
      exact ⟨_, rfl, fun h => by have := of_decide_eq_false h; omega⟩
  | succ d ih =>
    intro i f hd hi h3 hf
    obtain ⟨f, rfl⟩ : ∃ g, f = g + 1 := ⟨f - 1, by omega⟩
    have hlt : i < l.length := by omega
    show ∃ b, Zo (V6 l f) l (i : Int) = some b ∧ _
    unfold Zo Zx
    rw [show decide ((i : Int) < ((l.length : Nat) : Int)) = true from decide_eq_true (by omega), cond_true, show decide ((i : Int) < 200) = true from decide_eq_true (by omega), cond_true, Jv hlt, Option.bind_some, Option.bind_some, Option.bind_some, Option.bind_some]
    generalize decide (_ > (2000 : Int)) = g
    cases g with
    | true =>
      rw [cond_true]
      exact ⟨true, rfl, fun h => by cases h⟩
    | false =>
      rw [cond_false, show ((i : Int) + 1) = ((i + 1 : Nat) : Int) by omega, Gb (by omega)]
      exact ih (i + 1) f (by omega) (by omega) (by omega) (by omega)
theorem H5 (l : List OpV) (hl : l.length ≤ 140737488355328) (hq : ∀ o ∈ l, OpVQ o) : ∃ b, Je l = some b ∧ (b = false → l.length ≤ 100) :=
  opsV_loop l hl hq _ 0 Z0 rfl (by omega) (by omega) (by unfold Z0; omega)
theorem rev_get (l : List Qk) (M : Jr) (t k : Str) (x : Str × Str) : U7 (Hd l M t k) x = if (Hc l t k).2.2.2 = true ∧ (t, k) = x then U7 M (t, k) + 1 else U7 M x := by
  unfold Hd
  cases h : (Hc l t k).2.2.2 with
  | false => rw [cond_false, if_neg (by simp)]
  | true =>
    rw [cond_true, Cs]
    simp
def MB (n : Nat) (M : Jr) : Prop := ∀ x, 0 ≤ U7 M x ∧ U7 M x ≤ n
theorem mb_nil : MB 0 [] := fun x => by rw [mget_nil]; omega
theorem mb_rev {n : Nat} {M : Jr} (h : MB n M) (l : List Qk) (t k : Str) : MB (n + 1) (Hd l M t k) := by
  intro x
  rw [rev_get]
  have := h x
  have := h (t, k)
  split <;> omega
end Go.Proofs.YtmgfanhcdfobhaaGreatDoor
namespace Go.Proofs.YtmgfanhcdfobhaaGreatDoor
open Go.RowKit
def V2 (d : Int → Int → Int → Int → Jr → (List (List UInt8)) → Int → Option (Bool)) (a : Bool → Int → Option (Bool)) (b : Int) (c : Bool) : Option (Bool) :=
  (a c (IntKind.wrap .i64 (b + 2)))
def Ve (b : Int → Int → Int → Int → Jr → (List (List UInt8)) → Int → Option (Bool)) (l : Bool → Int → Option (Bool)) (c : (List (List UInt8))) (d : Int) (a : (Int × (List UInt8) × (List UInt8) × (List UInt8) × (List UInt8) × Int)) (e : Int) (f : Int) (g : Int) (h : Int) (i : Jr) (j : Bool) : Option (Bool) :=
  (cond j (some (false)) ((app c ([a.2.1, a.2.2.1] : List (List UInt8))).bind fun k => (b e f g h i k (IntKind.wrap .i64 (d + 1)))))
def Vm (d : Int → Int → Int → Int → Jr → (List (List UInt8)) → Int → Option (Bool)) (e : Bool → Int → Option (Bool)) (i : (List Qk)) (j : Int) (k : Int) (l : Int) (m : Int) (n : Jr) (f : (List (List UInt8))) (g : Int) (b : (Int × (List UInt8) × (List UInt8) × (List UInt8) × (List UInt8) × Int)) (o : ((List UInt8) × (List UInt8) × Int × Bool)) (h : Bool) (c : Int) : Option (Bool) :=
  (cond (decide ((IntKind.wrap .i64 (c + 1)) < ((List.length f : Nat) : Int))) (cond h ((idx f c).bind fun p => (cond (!(p == b.2.1)) (V2 d e c true) ((idx f (IntKind.wrap .i64 (c + 1))).bind fun q => (V2 d e c (!(q == b.2.2.1)))))) (V2 d e c false)) ((Zh j k l m i n b.2.1 b.2.2.1).bind fun a => (cond o.2.2.2 (Ve d e f g b a.2.1 a.2.2.1 a.2.2.2.1 a.2.2.2.2.1 a.2.2.2.2.2 (!(a.1 == h))) (Ve d e f g b a.2.1 a.2.2.1 a.2.2.2.1 a.2.2.2.2.1 a.2.2.2.2.2 (!(a.1 == false))))))
def Q3 (a : Int → Int → Int → Int → Jr → (List (List UInt8)) → Int → Option (Bool)) (b : (List Qk)) (c : Int) (d : Int) (e : Int) (g : Int) (h : Jr) (i : (List (List UInt8))) (j : Int) (k : (Int × (List UInt8) × (List UInt8) × (List UInt8) × (List UInt8) × Int)) (l : ((List UInt8) × (List UInt8) × Int × Bool)) : Nat → Bool → Int → Option (Bool)
  | 0, _, _ => none
  | f + 1, m, n => Vm a (Q3 a b c d e g h i j k l f) b c d e g h i j k l m n
def Vn (f : Int → Int → Int → Int → Jr → (List (List UInt8)) → Int → Option (Bool)) (g : Int) (h : Int) (i : Int) (j : Int) (d : (List Qk)) (e : (List (Int × (List UInt8) × (List UInt8) × (List UInt8) × (List UInt8) × Int))) (k : (Bool)) (l : Int) (m : Int) (n : Int) (o : Int) (p : Jr) (q : (List (List UInt8))) (b : Int) : Option (Bool) :=
  (cond (decide (b < ((List.length e : Nat) : Int))) ((idx e b).bind fun c => ((Jt g h i j d c.2.1).bind fun a => ((Y2 a.1 a.2.1 a.2.2.1 a.2.2.2.1 a.2.2.2.2.1 c.2.2.1).bind fun r => (Q3 f d l m n o p q b c r Z0 true 0)))) (some (k)))
def Qt (a : Int) (b : Int) (c : Int) (d : Int) (e : (List Qk)) (g : (List (Int × (List UInt8) × (List UInt8) × (List UInt8) × (List UInt8) × Int))) (h : (Bool)) : Nat → Int → Int → Int → Int → Jr → (List (List UInt8)) → Int → Option (Bool)
  | 0, _, _, _, _, _, _, _ => none
  | f + 1, i, j, k, l, m, n, o => Vn  (Qt a b c d e g h f) a b c d e g h i j k l m n o
def Vr (c : Int) (d : Int) (e : Int) (f : Int) (g : (List Qk)) (h : (List (Int × (List UInt8) × (List UInt8) × (List UInt8) × (List UInt8) × Int))) (b : (Bool)) (a : (Int × Int × Int × Int × Jr)) (i : Bool) : Option (Bool) :=
  (cond i (some (b)) (Qt c d e f g h b Z0 a.1 a.2.1 a.2.2.1 a.2.2.2.1 a.2.2.2.2 ([] : List (List UInt8)) 0))
def Xd (a : Int) (b : Int) (c : Int) (d : Int) (e : (List Qk)) (f : (List (Int × (List UInt8) × (List UInt8) × (List UInt8) × (List UInt8) × Int))) : Option (Bool) :=
  ((Yo ).bind fun g => ((Jb a b c d e).bind fun i => (optE i (some (g)) (fun h => ((Y3 a b c d e).bind fun j => (cond j (Vr a b c d e f g h true) ((Je f).bind fun k => (Vr a b c d e f g h k))))))))
set_option maxRecDepth 100000 in
set_option maxHeartbeats 4000000 in
theorem Ns (A6 : Option Addr) (c7 : Nat) (b4 : Option Addr) (b5 : Nat) (a7 : Int) (a8 : Int) (a9 : Int) (b0 : Int) (d9 : (List Vo)) (a1 : (List (Int × (List UInt8) × (List UInt8) × (List UInt8) × (List UInt8) × Int))) (w0 : World) (hL : Bd w0) (e1 : (dDS Ux Cv).ok w0 (A6, c7, d9)) (f5 : RdT (Qi (Qc .i64) (Qi Qy (Qi Qy (Qi Qy (Qi Qy (Qc .i64)))))) w0 b4 b5 a1) (r : (Bool)) (H : Xd a7 a8 a9 b0 (List.map stT d9) a1 = some r) :
  Calls Tryz.prog 8 #[(.agg #[(.int .i64 a7), (.int .i64 a8), (.int .i64 a9), (.int .i64 b0), (.slice A6 (List.length (List.map stT d9)) c7)]), (.slice b4 (List.length a1) b5)] w0 (fun e w' => e = .returned (.bool r) ∧ SP [] w0 w' []) := by
 unfold Xd at H
 refine Qv (n := 100) Tryz.func8 K K K ?_
 have k6 := Q1 [] w0
 refine aQ ?_
 refine aR ?_
 refine iS 1 ?_
 refine V5 (t := 24) (x := (.tmp 0)) (v := (.agg #[(.int .i64 a7), (.int .i64 a8), (.int .i64 a9), (.int .i64 b0), (.slice A6 (List.length (List.map stT d9)) c7)])) (d := (some 2)) (k := 0) K rfl K k6 ?_
 intro b2 k7 h2
 refine iR 1 2 [(4, (.bool false))] ?_
 refine iF ?_
 refine aQ ?_
 refine aR ?_
 obtain ⟨a2, k8, H⟩ := Qf H
 refine iS 1 ?_
 refine cF 15 #[] #[] 16 Tryz.call15 (Rt   k7 (Zw hL (SP.keeps h2)) a2 k8) ?_
 rintro e h3 ⟨rfl, h4⟩
 refine ⟨_, rfl, ?_⟩
 have d1 := SP.call h2 h4
 clear h4
 refine iR 1 2 [(5, (.bool a2))] ?_
 refine iF ?_
 refine aQ ?_
 refine aR ?_
 refine iS 1 ?_
 refine sL 24 2 b2 0 0 (.agg #[(.int .i64 a7), (.int .i64 a8), (.int .i64 a9), (.int .i64 b0), (.slice A6 (List.length (List.map stT d9)) c7)]) 17 d1 rfl ?_
 obtain ⟨k9, h5, H⟩ := Qf H
 rcases k9 with _ | c8
 ·have H := optN H
  refine iS 2 ?_
  refine cF 18 #[(.tmp 17)] #[24] 18 Tryz.call18 (Yd A6 c7 a7 a8 a9 b0 d9 h3 (Zw hL (SP.keeps d1)) (Dp.sp e1 d1) none h5) ?_
  rintro e q9 ⟨rfl, h6⟩
  refine ⟨_, rfl, ?_⟩
  have l0 := SP.call d1 h6
  clear h6
  refine iR 1 3 [(6, (.pointer none))] ?_
  refine iF ?_
  refine aQ ?_
  refine aQ ?_
  refine aR ?_
  refine iR 10 10 [(19, (.pointer none)), (20, (.bool true)), (21, (.bool true)), (22, undef), (23, undef), (24, (.bool true)), (25, (.bool true)), (26, undef), (27, undef), (28, (.bool true))] ?_
  refine iF ?_
  refine Zi K (o := (.tmp 28)) K (b := true) K (fun h7 => ?_) (fun h7 => ?_)
  rotate_left
  ·cases h7
  refine aQ ?_
  refine aR ?_
  refine iR 2 2 [(29, (.bool a2)), (4, (.bool a2))] ?_
  refine iF ?_
  refine At.ret K ?_
  refine ⟨(.bool a2), K, ?_⟩
  obtain rfl := Qm H
  exact ⟨rfl, SP.sel l0 [] rfl rfl⟩
 ·have H := optS H
  refine iS 2 ?_
  refine cF 18 #[(.tmp 17)] #[24] 18 Tryz.call18 (Yd A6 c7 a7 a8 a9 b0 d9 h3 (Zw hL (SP.keeps d1)) (Dp.sp e1 d1) (some c8) h5) ?_
  rintro e w32 ⟨b1, b8, rfl, h8⟩
  refine ⟨_, rfl, ?_⟩
  have f6 := SP.call d1 h8
  clear h8
  refine iR 1 3 [(6, (pt b1 0))] ?_
  refine iF ?_
  refine aQ ?_
  refine aQ ?_
  refine At.join (fun ρ w => ∃ (d3 : Bool), V8 ρ [(1, (.slice b4 (List.length a1) b5)), (2, (pt b2 0)), (5, (.bool a2)), (6, (pt b1 0)), (28, (.bool d3))] ∧ SP [] w0 w [Q6 b2 24 #[(.int .i64 a7), (.int .i64 a8), (.int .i64 a9), (.int .i64 b0), (.slice A6 (List.length (List.map stT d9)) c7)], Q6 b1 79 #[(.int .i64 c8.1), (.int .i64 c8.2.1), (.int .i64 c8.2.2.1), (.int .i64 c8.2.2.2.1), (.slice A6 (List.length (List.map stT d9)) c7), (.map (some b8))], Zv b8 c8.2.2.2.2] ∧ Vr a7 a8 a9 b0 (List.map stT d9) a1 a2 c8 d3 = some r) ?_ ?_
  ·refine aR ?_
   refine iR 3 3 [(19, (pt b1 0)), (20, (.bool false)), (21, (.bool false))] ?_
   refine iS 4 ?_
   refine sL 24 2 b2 0 0 (.agg #[(.int .i64 a7), (.int .i64 a8), (.int .i64 a9), (.int .i64 b0), (.slice A6 (List.length (List.map stT d9)) c7)]) 22 f6 rfl ?_
   obtain ⟨e4, l1, H⟩ := Qf H
   refine iS 5 ?_
   refine cF 16 #[(.tmp 22)] #[24] 23 Tryz.call16 (G4 A6 c7 a7 a8 a9 b0 d9 w32 (Dp.sp e1 f6) e4 l1) ?_
   rintro e l2 ⟨rfl, h9⟩
   refine ⟨_, rfl, ?_⟩
   have f7 := SP.call f6 h9
   clear h9
   refine iR 2 7 [(24, (.bool e4)), (25, (.bool e4))] ?_
   refine In.guard (t := 25) (b := e4) K (fun f8 => ?_) (fun f8 => ?_)
   ·have H := ct H f8
    refine iR 3 10 [(26, undef), (27, undef), (28, (.bool true))] ?_
    refine iF ?_
    exact ⟨true, ⟨K, K, K, K, K, trivial⟩, SP.sel f7 [0, 1, 2] rfl rfl, H⟩
   ·have H := cf H f8
    refine iR 1 8 [(26, (.slice b4 (List.length a1) b5))] ?_
    obtain ⟨f9, l3, H⟩ := Qf H
    refine iS 9 ?_
    refine cF 17 #[(.tmp 26)] #[25] 27 Tryz.call17 (G9 b4 b5 a1 l2 (RdT.sp f5 f7) f9 l3) ?_
    rintro e r0 ⟨rfl, i0⟩
    refine ⟨_, rfl, ?_⟩
    have l4 := SP.call f7 i0
    clear i0
    refine iR 1 10 [(28, (.bool f9))] ?_
    refine iF ?_
    exact ⟨f9, ⟨K, K, K, K, K, trivial⟩, SP.sel l4 [0, 1, 2] rfl rfl, H⟩
  ·rintro ρ r1 ⟨d3, hk, i1, H⟩
   unfold Vr at H
   first | refine At.known [(1, (.slice b4 (List.length a1) b5)), (2, (pt b2 0)), (5, (.bool a2)), (6, (pt b1 0)), (28, (.bool d3))] hk ?_ | rw [← Va (l := [(1, (.slice b4 (List.length a1) b5)), (2, (pt b2 0)), (5, (.bool a2)), (6, (pt b1 0)), (28, (.bool d3))]) hk]
   refine Zi K (o := (.tmp 28)) K (b := d3) K (fun g0 => ?_) (fun g0 => ?_)
   ·have H := ct H g0
    refine aQ ?_
    refine aR ?_
    refine iR 2 2 [(29, (.bool a2)), (4, (.bool a2))] ?_
    refine iF ?_
    refine At.ret K ?_
    refine ⟨(.bool a2), K, ?_⟩
    obtain rfl := Qm H
    exact ⟨rfl, SP.sel i1 [] rfl rfl⟩
   ·have H := cf H g0
    refine At.skip K ?_
    refine aQ ?_
    refine aR ?_
    refine iR 1 1 [(7, (.slice none (List.length ([] : List (List UInt8))) 0))] ?_
    refine iF ?_
    refine aQ ?_
    refine aQ ?_
    refine aR ?_
    refine iR 1 1 [(8, (.int .i64 0))] ?_
    refine iF ?_
    refine Zj K (id := 0) K ?_
    refine Jk K (fun c9 ρ w => ∃ (c0 : Int) (c1 : Int) (c2 : Int) (c3 : Int) (c4 : Jr) (h : (List (List UInt8))) (a4 : Int) (u : Option Addr) (a0 : Nat), V8 ρ [(1, (.slice b4 (List.length a1) b5)), (2, (pt b2 0)), (5, (.bool a2)), (6, (pt b1 0)), (7, (.slice u (List.length h) a0)), (8, (.int .i64 a4))] ∧ SP [] w0 w [Q6 b2 24 #[(.int .i64 a7), (.int .i64 a8), (.int .i64 a9), (.int .i64 b0), (.slice A6 (List.length (List.map stT d9)) c7)], Q6 b1 79 #[(.int .i64 c0), (.int .i64 c1), (.int .i64 c2), (.int .i64 c3), (.slice A6 (List.length (List.map stT d9)) c7), (.map (some b8))], Zv b8 c4, Xu 9 Qy u a0 h] ∧ Qt a7 a8 a9 b0 (List.map stT d9) a1 a2 c9 c0 c1 c2 c3 c4 h a4 = some r) (by rintro ρ w ⟨c0, c1, c2, c3, c4, h, a4, u, a0, hk, hs, H⟩; cases H) ?_ Z0 ?_
    ·rintro c9 ρ r2 ⟨c0, c1, c2, c3, c4, h, a4, u, a0, hk, e5, H⟩
     refine At.known [(1, (.slice b4 (List.length a1) b5)), (2, (pt b2 0)), (5, (.bool a2)), (6, (pt b1 0)), (7, (.slice u (List.length h) a0)), (8, (.int .i64 a4))] hk ?_
     replace H := (show Vn (Qt a7 a8 a9 b0 (List.map stT d9) a1 a2 c9) a7 a8 a9 b0 (List.map stT d9) a1 a2 c0 c1 c2 c3 c4 h a4 = some r from H)
     unfold Vn at H
     refine aQ ?_
     refine aQ ?_
     refine aR ?_
     refine iR 4 4 [(30, (.int .i64 a4)), (31, (.slice b4 (List.length a1) b5)), (32, (.int .i64 ((List.length a1 : Nat) : Int))), (33, (.bool (decide (a4 < ((List.length a1 : Nat) : Int)))))] ?_
     refine iF ?_
     refine Zi K (o := (.tmp 33)) K (b := (decide (a4 < ((List.length a1 : Nat) : Int)))) K (fun g1 => ?_) (fun g1 => ?_)
     ·have H := ct H g1
      refine At.skip K ?_
      refine aQ ?_
      refine Zj K (id := 1) K ?_
      refine aQ ?_
      refine aR ?_
      refine iR 2 2 [(36, (.slice b4 (List.length a1) b5)), (37, (.int .i64 a4))] ?_
      obtain ⟨f, i2, i3, l5, H⟩ := Qn H
      refine iS 3 ?_
      refine Vj (e := (Qi (Qc .i64) (Qi Qy (Qi Qy (Qi Qy (Qi Qy (Qc .i64))))))) (l := a1) (A := b4) (c := b5) (T := 25) (E := 34) (x := (.tmp 36)) (ix := (.tmp 37)) (ki := .i64) (iz := a4) (d := (some 38)) (k := 2) K rfl K K K K (RdT.sp f5 e5) i2 i3 ?_
      intro l6 l7 l8 r3 hc1979
      refine iS 4 ?_
      refine Qj.cells (t := 34) (x := (.tmp 38)) (b := l6) (off := (l7 + Int.toNat a4 * (Qi (Qc .i64) (Qi Qy (Qi Qy (Qi Qy (Qi Qy (Qc .i64)))))).sz)) (xs := [(.int .i64 f.1), (.string ⟨List.toArray f.2.1⟩), (.string ⟨List.toArray f.2.2.1⟩), (.string ⟨List.toArray f.2.2.2.1⟩), (.string ⟨List.toArray f.2.2.2.2.1⟩), (.int .i64 f.2.2.2.2.2)]) (d := (some 39)) (k := 3) K rfl K K K (Z2 (e := (Qi (Qc .i64) (Qi Qy (Qi Qy (Qi Qy (Qi Qy (Qc .i64))))))) (Qe (RdT.sp f5 e5) l8 i2 i3) l5 rfl) ?_
      refine iS 5 ?_
      refine Qj.alloc (t := 34) (z := (.agg #[(.int .i64 0), (.string ⟨List.toArray ([] : List UInt8)⟩), (.string ⟨List.toArray ([] : List UInt8)⟩), (.string ⟨List.toArray ([] : List UInt8)⟩), (.string ⟨List.toArray ([] : List UInt8)⟩), (.int .i64 0)])) (d := (some 9)) (k := 4) K rfl K e5 ?_
      intro q r4 l9
      refine iS 6 ?_
      refine Qj.store (t := 34) (x := (.tmp 9)) (y := (.tmp 39)) (g := q) (off := 0) (i := 4) (v := (.agg #[(.int .i64 f.1), (.string ⟨List.toArray f.2.1⟩), (.string ⟨List.toArray f.2.2.1⟩), (.string ⟨List.toArray f.2.2.2.1⟩), (.string ⟨List.toArray f.2.2.2.2.1⟩), (.int .i64 f.2.2.2.2.2)])) (cs' := #[(.int .i64 f.1), (.string ⟨List.toArray f.2.1⟩), (.string ⟨List.toArray f.2.2.1⟩), (.string ⟨List.toArray f.2.2.2.1⟩), (.string ⟨List.toArray f.2.2.2.2.1⟩), (.int .i64 f.2.2.2.2.2)]) (d := none) (k := 5) K rfl K K l9 rfl K ?_
      intro m0 e6
      refine iF ?_
      refine aQ ?_
      refine aR ?_
      refine iS 1 ?_
      refine sL 24 2 b2 0 0 (.agg #[(.int .i64 a7), (.int .i64 a8), (.int .i64 a9), (.int .i64 b0), (.slice A6 (List.length (List.map stT d9)) c7)]) 41 e6 rfl ?_
      refine iR 1 2 [(42, (pt q 1))] ?_
      refine iS 3 ?_
      refine sL 9 42 q 1 4 (.string ⟨List.toArray f.2.1⟩) 43 e6 rfl ?_
      obtain ⟨a3, m1, H⟩ := Qf H
      refine iS 4 ?_
      refine cF 28 #[(.tmp 41), (.tmp 43)] #[24, 9] 44 Tryz.call28 (Rk (R := fun w => Below w0.heap.size w0 w) A6 c7 a7 a8 a9 b0 d9 f.2.1 m0 (fun w hb => Dm e6 hb) (fun w hb => Dp.mono _ hb e1) a3 m1) ?_
      rintro e r5 ⟨d4, d5, d6, d7, rfl, m2, m3, i4⟩
      refine ⟨_, rfl, ?_⟩
      have m4 := SP.call e6 i4
      clear i4
      refine iR 3 7 [(40, (.tuple #[(.agg #[(.string ⟨List.toArray a3.1⟩), (.int .i64 a3.2.1), (.int .i64 a3.2.2.1), (.slice d4 (List.length a3.2.2.2.1) d5), (.slice d6 (List.length a3.2.2.2.2.1) d7)]), (.bool a3.2.2.2.2.2)])), (45, (.agg #[(.string ⟨List.toArray a3.1⟩), (.int .i64 a3.2.1), (.int .i64 a3.2.2.1), (.slice d4 (List.length a3.2.2.2.1) d5), (.slice d6 (List.length a3.2.2.2.2.1) d7)])), (46, (.bool a3.2.2.2.2.2))] ?_
      refine iS 8 ?_
      refine Qj.alloc (t := 44) (z := (.agg #[(.string ⟨List.toArray ([] : List UInt8)⟩), (.int .i64 0), (.int .i64 0), (.slice none (List.length ([] : List (Int × Int))) 0), (.slice none (List.length ([] : List ((List UInt8) × (List UInt8) × Int))) 0)])) (d := (some 10)) (k := 7) K rfl K m4 ?_
      intro i5 r6 m5
      refine iS 9 ?_
      refine Qj.store (t := 44) (x := (.tmp 10)) (y := (.tmp 45)) (g := i5) (off := 0) (i := 5) (v := (.agg #[(.string ⟨List.toArray a3.1⟩), (.int .i64 a3.2.1), (.int .i64 a3.2.2.1), (.slice d4 (List.length a3.2.2.2.1) d5), (.slice d6 (List.length a3.2.2.2.2.1) d7)])) (cs' := #[(.string ⟨List.toArray a3.1⟩), (.int .i64 a3.2.1), (.int .i64 a3.2.2.1), (.slice d4 (List.length a3.2.2.2.1) d5), (.slice d6 (List.length a3.2.2.2.2.1) d7)]) (d := none) (k := 8) K rfl K K m5 rfl K ?_
      intro m6 e2
      refine iR 1 10 [(11, (.bool a3.2.2.2.2.2))] ?_
      refine iF ?_
      refine aQ ?_
      refine aR ?_
      refine iS 1 ?_
      refine sL 44 10 i5 0 5 (.agg #[(.string ⟨List.toArray a3.1⟩), (.int .i64 a3.2.1), (.int .i64 a3.2.2.1), (.slice d4 (List.length a3.2.2.2.1) d5), (.slice d6 (List.length a3.2.2.2.2.1) d7)]) 48 e2 rfl ?_
      refine iR 1 2 [(49, (pt q 2))] ?_
      refine iS 3 ?_
      refine sL 9 49 q 2 4 (.string ⟨List.toArray f.2.2.1⟩) 50 e2 rfl ?_
      obtain ⟨a6, m7, H⟩ := Qf H
      refine iS 4 ?_
      refine cF 29 #[(.tmp 48), (.tmp 50)] #[44, 9] 51 Tryz.call29 (G3 d4 d5 d6 d7 a3.1 a3.2.1 a3.2.2.1 a3.2.2.2.1 a3.2.2.2.2.1 f.2.2.1 m6 (RdT.sp (m2 w0 (Below.refl _ _)) e2) (RdT.sp (m3 w0 (Below.refl _ _)) e2) a6 m7) ?_
      rintro e r7 ⟨rfl, i6⟩
      refine ⟨_, rfl, ?_⟩
      have m8 := SP.call e2 i6
      clear i6
      refine iR 3 7 [(47, (.tuple #[(.agg #[(.string ⟨List.toArray a6.1⟩), (.string ⟨List.toArray a6.2.1⟩), (.int .i64 a6.2.2.1)]), (.bool a6.2.2.2)])), (52, (.agg #[(.string ⟨List.toArray a6.1⟩), (.string ⟨List.toArray a6.2.1⟩), (.int .i64 a6.2.2.1)])), (53, (.bool a6.2.2.2))] ?_
      refine iS 8 ?_
      refine Qj.alloc (t := 48) (z := (.agg #[(.string ⟨List.toArray ([] : List UInt8)⟩), (.string ⟨List.toArray ([] : List UInt8)⟩), (.int .i64 0)])) (d := (some 12)) (k := 7) K rfl K m8 ?_
      intro m9 r8 n0
      refine iS 9 ?_
      refine Qj.store (t := 48) (x := (.tmp 12)) (y := (.tmp 52)) (g := m9) (off := 0) (i := 6) (v := (.agg #[(.string ⟨List.toArray a6.1⟩), (.string ⟨List.toArray a6.2.1⟩), (.int .i64 a6.2.2.1)])) (cs' := #[(.string ⟨List.toArray a6.1⟩), (.string ⟨List.toArray a6.2.1⟩), (.int .i64 a6.2.2.1)]) (d := none) (k := 8) K rfl K K n0 rfl K ?_
      intro r9 n1
      refine iR 1 10 [(13, (.bool a6.2.2.2))] ?_
      refine iF ?_
      refine aQ ?_
      refine aR ?_
      refine iR 1 1 [(14, (.bool true))] ?_
      refine iF ?_
      refine aQ ?_
      refine aQ ?_
      refine aR ?_
      refine iR 1 1 [(15, (.int .i64 0))] ?_
      refine iF ?_
      refine Zj K (id := 2) K ?_
      refine Jk K (fun e3 ρ w => ∃ (b3 : Bool) (p : Int), V8 ρ [(1, (.slice b4 (List.length a1) b5)), (2, (pt b2 0)), (5, (.bool a2)), (6, (pt b1 0)), (7, (.slice u (List.length h) a0)), (8, (.int .i64 a4)), (9, (pt q 0)), (13, (.bool a6.2.2.2)), (14, (.bool b3)), (15, (.int .i64 p))] ∧ SP [] w0 w [Q6 b2 24 #[(.int .i64 a7), (.int .i64 a8), (.int .i64 a9), (.int .i64 b0), (.slice A6 (List.length (List.map stT d9)) c7)], Q6 b1 79 #[(.int .i64 c0), (.int .i64 c1), (.int .i64 c2), (.int .i64 c3), (.slice A6 (List.length (List.map stT d9)) c7), (.map (some b8))], Zv b8 c4, Q6 q 34 #[(.int .i64 f.1), (.string ⟨List.toArray f.2.1⟩), (.string ⟨List.toArray f.2.2.1⟩), (.string ⟨List.toArray f.2.2.2.1⟩), (.string ⟨List.toArray f.2.2.2.2.1⟩), (.int .i64 f.2.2.2.2.2)], Xu 9 Qy u a0 h] ∧ Q3 (Qt a7 a8 a9 b0 (List.map stT d9) a1 a2 c9) (List.map stT d9) c0 c1 c2 c3 c4 h a4 f a6 e3 b3 p = some r) (by rintro ρ w ⟨b3, p, hk, hs, H⟩; cases H) ?_ Z0 ?_
      ·rintro e3 ρ n2 ⟨b3, p, hk, d0, H⟩
       refine At.known [(1, (.slice b4 (List.length a1) b5)), (2, (pt b2 0)), (5, (.bool a2)), (6, (pt b1 0)), (7, (.slice u (List.length h) a0)), (8, (.int .i64 a4)), (9, (pt q 0)), (13, (.bool a6.2.2.2)), (14, (.bool b3)), (15, (.int .i64 p))] hk ?_
       replace H := (show Vm (Qt a7 a8 a9 b0 (List.map stT d9) a1 a2 c9) (Q3 (Qt a7 a8 a9 b0 (List.map stT d9) a1 a2 c9) (List.map stT d9) c0 c1 c2 c3 c4 h a4 f a6 e3) (List.map stT d9) c0 c1 c2 c3 c4 h a4 f a6 b3 p = some r from H)
       unfold Vm at H
       refine aQ ?_
       refine aQ ?_
       refine aR ?_
       refine iR 5 5 [(54, (.int .i64 p)), (55, (.int .i64 (IntKind.wrap .i64 (p + 1)))), (56, (.slice u (List.length h) a0)), (57, (.int .i64 ((List.length h : Nat) : Int))), (58, (.bool (decide ((IntKind.wrap .i64 (p + 1)) < ((List.length h : Nat) : Int)))))] ?_
       refine iF ?_
       refine Zi K (o := (.tmp 58)) K (b := (decide ((IntKind.wrap .i64 (p + 1)) < ((List.length h : Nat) : Int)))) K (fun g2 => ?_) (fun g2 => ?_)
       ·have H := ct H g2
        refine At.skip K ?_
        refine aQ ?_
        refine Zj K (id := 3) K ?_
        refine At.join (fun ρ w => ∃ (d8 : Bool), V8 ρ [(1, (.slice b4 (List.length a1) b5)), (2, (pt b2 0)), (5, (.bool a2)), (6, (pt b1 0)), (7, (.slice u (List.length h) a0)), (8, (.int .i64 a4)), (9, (pt q 0)), (13, (.bool a6.2.2.2)), (14, (.bool d8)), (15, (.int .i64 p))] ∧ SP [] w0 w [Q6 b2 24 #[(.int .i64 a7), (.int .i64 a8), (.int .i64 a9), (.int .i64 b0), (.slice A6 (List.length (List.map stT d9)) c7)], Q6 b1 79 #[(.int .i64 c0), (.int .i64 c1), (.int .i64 c2), (.int .i64 c3), (.slice A6 (List.length (List.map stT d9)) c7), (.map (some b8))], Zv b8 c4, Q6 q 34 #[(.int .i64 f.1), (.string ⟨List.toArray f.2.1⟩), (.string ⟨List.toArray f.2.2.1⟩), (.string ⟨List.toArray f.2.2.2.1⟩), (.string ⟨List.toArray f.2.2.2.2.1⟩), (.int .i64 f.2.2.2.2.2)], Xu 9 Qy u a0 h] ∧ V2 (Qt a7 a8 a9 b0 (List.map stT d9) a1 a2 c9) (Q3 (Qt a7 a8 a9 b0 (List.map stT d9) a1 a2 c9) (List.map stT d9) c0 c1 c2 c3 c4 h a4 f a6 e3) p d8 = some r) ?_ ?_
        ·rcases Bool.eq_false_or_eq_true b3 with a5 | a5
         ·have H := ct H a5
          obtain ⟨b9, e7, e8, i7, H⟩ := Qn H
          rcases Bool.eq_false_or_eq_true (!(b9 == f.2.1)) with b6 | b6
          ·have H := ct H b6
           refine aG [GEq (.bool b3), GEq (.bool b3), GEq (.slice u (List.length h) a0), GEq (.int .i64 p), Vs u Qy.sz p, GEq (.string ⟨List.toArray b9⟩), GEq (pt q 1), GEq (.string ⟨List.toArray f.2.1⟩), GEq (.bool (!(b9 == f.2.1))), GEq (.bool (!(b9 == f.2.1))), GEq undef, GEq undef, GEq undef, GEq undef, GEq undef, GEq undef, GEq undef, GEq undef, GEq (.bool true), GEq (.bool true), GEq (.bool true)] [] (tG [] w0 [Q6 b2 24 #[(.int .i64 a7), (.int .i64 a8), (.int .i64 a9), (.int .i64 b0), (.slice A6 (List.length (List.map stT d9)) c7)], Q6 b1 79 #[(.int .i64 c0), (.int .i64 c1), (.int .i64 c2), (.int .i64 c3), (.slice A6 (List.length (List.map stT d9)) c7), (.map (some b8))], Zv b8 c4, Q6 q 34 #[(.int .i64 f.1), (.string ⟨List.toArray f.2.1⟩), (.string ⟨List.toArray f.2.2.1⟩), (.string ⟨List.toArray f.2.2.2.1⟩), (.string ⟨List.toArray f.2.2.2.2.1⟩), (.int .i64 f.2.2.2.2.2)], Xu 9 Qy u a0 h] [([], [])]) 21 0 ⟨trivial, SP.drew d0⟩ ?_ ?_
           iterate 21 refine And.intro ?_ ?_
           exact trivial
           ·exact oV (hC (hS 14 (.bool b3)) (h0)) (.bool b3)
           ·exact oV (hC (hA 0 61) (h0)) (.bool b3)
           ·exact oV (hC (hS 7 (.slice u (List.length h) a0)) (hC (hB 1 62 a5) (h0))) (.slice u (List.length h) a0)
           ·exact oV (hC (hS 15 (.int .i64 p)) (hC (hB 1 62 a5) (h0))) (.int .i64 p)
           ·refine oL 0 ?_
            ·rintro ρ' w' hs hah ⟨s0, n3⟩
             have g3 := hah 2 63 K
             have g4 := hah 3 64 K
             have c5 := hah 1 62 K
             refine kN [(63, (.slice u (List.length h) a0)), (64, (.int .i64 p)), (62, (.bool true))] ⟨g3, g4, (Eq.trans c5 (congrArg Value.bool a5)), trivial⟩ fun hkn => ?_
             refine Vj (e := Qy) (l := h) (A := u) (c := a0) (T := 53) (E := 9) (x := (.tmp 63)) (ix := (.tmp 64)) (ki := .i64) (iz := p) (d := (some 65)) (k := 4) K rfl K K K K (Vf (SP.get n3 (i := 4) rfl)) e7 e8 ?_
             intro n4 n5 n6 s1 hc2507
             exact ⟨rfl, _, Qa hkn, ⟨n4, n5, n6, rfl⟩⟩
           ·refine oL 0 ?_
            ·rintro ρ' w' hs hah ⟨s2, n7⟩
             obtain ⟨i8, i9, n8, g5⟩ := hah 4 65 K
             have c5 := hah 1 62 K
             refine kN [(65, (.pointer (some ⟨i8, (i9 + Int.toNat p * Qy.sz), none⟩))), (62, (.bool true))] ⟨g5, (Eq.trans c5 (congrArg Value.bool a5)), trivial⟩ fun hkn => ?_
             refine sC 9 65 i8 (i9 + Int.toNat p * Qy.sz) (.string ⟨List.toArray b9⟩) 66 (Qh (e := Qy) (Qe (Vf (SP.get n7 (i := 4) rfl)) n8 e7 e8) i7 (j := 0) rfl) ?_
             exact eK hkn
           ·exact oV (hC (hS 9 (pt q 0)) (hC (hB 1 62 a5) (h0))) (pt q 1)
           ·refine oL 0 ?_
            ·rintro ρ' w' hs hah ⟨s3, n9⟩
             have g6 := hah 6 67 K
             have c5 := hah 1 62 K
             refine kN [(67, (pt q 1)), (62, (.bool true))] ⟨g6, (Eq.trans c5 (congrArg Value.bool a5)), trivial⟩ fun hkn => ?_
             refine sL 9 67 q 1 3 (.string ⟨List.toArray f.2.1⟩) 68 n9 rfl ?_
             exact eK hkn
           ·refine oL 0 ?_
            ·rintro ρ' w' hs hah ⟨s4, s5⟩
             have g7 := hah 5 66 K
             have g8 := hah 7 68 K
             have c5 := hah 1 62 K
             refine kN [(66, (.string ⟨List.toArray b9⟩)), (68, (.string ⟨List.toArray f.2.1⟩)), (62, (.bool true))] ⟨g7, g8, (Eq.trans c5 (congrArg Value.bool a5)), trivial⟩ fun hkn => ?_
             refine Xe (op := .neq) (T := 9) (T' := 9) (x := (.tmp 66)) (y := (.tmp 68)) (a := b9) (b := f.2.1) (r := (.bool (!(b9 == f.2.1)))) (d := (some 69)) (k := 8) K rfl K K rfl ?_
             exact eK hkn
           ·exact oV (hC (hA 8 69) (hC (hB 1 62 a5) (h0))) (.bool (!(b9 == f.2.1)))
           ·exact oW (hC (hB 9 70 b6) (h0)) 71
           ·exact oW (hC (hB 9 70 b6) (h0)) 72
           ·exact oW (hC (hB 9 70 b6) (h0)) 73
           ·exact oW (hC (hB 9 70 b6) (h0)) 74
           ·exact oW (hC (hB 9 70 b6) (h0)) 75
           ·exact oW (hC (hB 9 70 b6) (h0)) 76
           ·exact oW (hC (hB 9 70 b6) (h0)) 77
           ·exact oW (hC (hB 9 70 b6) (h0)) 78
           ·exact oV (hC (hB 9 70 b6) (hC (hA 17 78) (hC (hB 1 62 a5) (h0)))) (.bool true)
           ·exact oV (hC (hB 1 62 a5) (hC (hA 18 79) (h0))) (.bool true)
           ·exact oV (hC (hA 19 80) (h0)) (.bool true)
           ·rintro ρ' w' hs hf ⟨s6, j0⟩
            refine Vh [(1, (.slice b4 (List.length a1) b5)), (2, (pt b2 0)), (5, (.bool a2)), (6, (pt b1 0)), (7, (.slice u (List.length h) a0)), (8, (.int .i64 a4)), (9, (pt q 0)), (13, (.bool a6.2.2.2)), (14, (.bool true)), (15, (.int .i64 p))] ⟨(hs 1 K).trans K, (hs 2 K).trans K, (hs 5 K).trans K, (hs 6 K).trans K, (hs 7 K).trans K, (hs 8 K).trans K, (hs 9 K).trans K, (hs 13 K).trans K, hf 20 14 K, (hs 15 K).trans K, trivial⟩ ?_
            obtain ⟨s7, o0⟩ : ∃ x, w' = x := ⟨_, rfl⟩
            rw [o0] at j0 ⊢
            exact ⟨true, ⟨K, K, K, K, K, K, K, K, K, K, trivial⟩, SP.sel j0 [0, 1, 2, 3, 4] rfl rfl, H⟩
          ·have H := cf H b6
           obtain ⟨c6, j1, j2, o1, H⟩ := Qn H
           refine aG [GEq (.bool b3), GEq (.bool b3), GEq (.slice u (List.length h) a0), GEq (.int .i64 p), Vs u Qy.sz p, GEq (.string ⟨List.toArray b9⟩), GEq (pt q 1), GEq (.string ⟨List.toArray f.2.1⟩), GEq (.bool (!(b9 == f.2.1))), GEq (.bool (!(b9 == f.2.1))), GEq (.slice u (List.length h) a0), GEq (.int .i64 p), GEq (.int .i64 (IntKind.wrap .i64 (p + 1))), Vs u Qy.sz (IntKind.wrap .i64 (p + 1)), GEq (.string ⟨List.toArray c6⟩), GEq (pt q 2), GEq (.string ⟨List.toArray f.2.2.1⟩), GEq (.bool (!(c6 == f.2.2.1))), GEq (.bool (!(c6 == f.2.2.1))), GEq (.bool (!(c6 == f.2.2.1))), GEq (.bool (!(c6 == f.2.2.1)))] [] (tG [] w0 [Q6 b2 24 #[(.int .i64 a7), (.int .i64 a8), (.int .i64 a9), (.int .i64 b0), (.slice A6 (List.length (List.map stT d9)) c7)], Q6 b1 79 #[(.int .i64 c0), (.int .i64 c1), (.int .i64 c2), (.int .i64 c3), (.slice A6 (List.length (List.map stT d9)) c7), (.map (some b8))], Zv b8 c4, Q6 q 34 #[(.int .i64 f.1), (.string ⟨List.toArray f.2.1⟩), (.string ⟨List.toArray f.2.2.1⟩), (.string ⟨List.toArray f.2.2.2.1⟩), (.string ⟨List.toArray f.2.2.2.2.1⟩), (.int .i64 f.2.2.2.2.2)], Xu 9 Qy u a0 h] [([], [])]) 21 0 ⟨trivial, SP.drew d0⟩ ?_ ?_
           iterate 21 refine And.intro ?_ ?_
           exact trivial
           ·exact oV (hC (hS 14 (.bool b3)) (h0)) (.bool b3)
           ·exact oV (hC (hA 0 61) (h0)) (.bool b3)
           ·exact oV (hC (hS 7 (.slice u (List.length h) a0)) (hC (hB 1 62 a5) (h0))) (.slice u (List.length h) a0)
           ·exact oV (hC (hS 15 (.int .i64 p)) (hC (hB 1 62 a5) (h0))) (.int .i64 p)
           ·refine oL 0 ?_
            ·rintro ρ' w' hs hah ⟨s8, o2⟩
             have g3 := hah 2 63 K
             have g4 := hah 3 64 K
             have c5 := hah 1 62 K
             refine kN [(63, (.slice u (List.length h) a0)), (64, (.int .i64 p)), (62, (.bool true))] ⟨g3, g4, (Eq.trans c5 (congrArg Value.bool a5)), trivial⟩ fun hkn => ?_
             refine Vj (e := Qy) (l := h) (A := u) (c := a0) (T := 53) (E := 9) (x := (.tmp 63)) (ix := (.tmp 64)) (ki := .i64) (iz := p) (d := (some 65)) (k := 4) K rfl K K K K (Vf (SP.get o2 (i := 4) rfl)) e7 e8 ?_
             intro o3 o4 o5 s9 hc2535
             exact ⟨rfl, _, Qa hkn, ⟨o3, o4, o5, rfl⟩⟩
           ·refine oL 0 ?_
            ·rintro ρ' w' hs hah ⟨t0, o6⟩
             obtain ⟨j3, j4, o7, g5⟩ := hah 4 65 K
             have c5 := hah 1 62 K
             refine kN [(65, (.pointer (some ⟨j3, (j4 + Int.toNat p * Qy.sz), none⟩))), (62, (.bool true))] ⟨g5, (Eq.trans c5 (congrArg Value.bool a5)), trivial⟩ fun hkn => ?_
             refine sC 9 65 j3 (j4 + Int.toNat p * Qy.sz) (.string ⟨List.toArray b9⟩) 66 (Qh (e := Qy) (Qe (Vf (SP.get o6 (i := 4) rfl)) o7 e7 e8) i7 (j := 0) rfl) ?_
             exact eK hkn
           ·exact oV (hC (hS 9 (pt q 0)) (hC (hB 1 62 a5) (h0))) (pt q 1)
           ·refine oL 0 ?_
            ·rintro ρ' w' hs hah ⟨t1, o8⟩
             have g6 := hah 6 67 K
             have c5 := hah 1 62 K
             refine kN [(67, (pt q 1)), (62, (.bool true))] ⟨g6, (Eq.trans c5 (congrArg Value.bool a5)), trivial⟩ fun hkn => ?_
             refine sL 9 67 q 1 3 (.string ⟨List.toArray f.2.1⟩) 68 o8 rfl ?_
             exact eK hkn
           ·refine oL 0 ?_
            ·rintro ρ' w' hs hah ⟨t2, t3⟩
             have g7 := hah 5 66 K
             have g8 := hah 7 68 K
             have c5 := hah 1 62 K
             refine kN [(66, (.string ⟨List.toArray b9⟩)), (68, (.string ⟨List.toArray f.2.1⟩)), (62, (.bool true))] ⟨g7, g8, (Eq.trans c5 (congrArg Value.bool a5)), trivial⟩ fun hkn => ?_
             refine Xe (op := .neq) (T := 9) (T' := 9) (x := (.tmp 66)) (y := (.tmp 68)) (a := b9) (b := f.2.1) (r := (.bool (!(b9 == f.2.1)))) (d := (some 69)) (k := 8) K rfl K K rfl ?_
             exact eK hkn
           ·exact oV (hC (hA 8 69) (hC (hB 1 62 a5) (h0))) (.bool (!(b9 == f.2.1)))
           ·exact oV (hC (hS 7 (.slice u (List.length h) a0)) (hC (hB 9 70 b6) (h0))) (.slice u (List.length h) a0)
           ·exact oV (hC (hS 15 (.int .i64 p)) (hC (hB 9 70 b6) (h0))) (.int .i64 p)
           ·exact oV (hC (hA 11 72) (hC (hB 9 70 b6) (h0))) (.int .i64 (IntKind.wrap .i64 (p + 1)))
           ·refine oL 0 ?_
            ·rintro ρ' w' hs hah ⟨t4, o9⟩
             have p0 := hah 10 71 K
             have p1 := hah 12 73 K
             have d2 := hah 9 70 K
             refine kN [(71, (.slice u (List.length h) a0)), (73, (.int .i64 (IntKind.wrap .i64 (p + 1)))), (70, (.bool false))] ⟨p0, p1, (Eq.trans d2 (congrArg Value.bool b6)), trivial⟩ fun hkn => ?_
             refine Vj (e := Qy) (l := h) (A := u) (c := a0) (T := 53) (E := 9) (x := (.tmp 71)) (ix := (.tmp 73)) (ki := .i64) (iz := (IntKind.wrap .i64 (p + 1))) (d := (some 74)) (k := 13) K rfl K K K K (Vf (SP.get o9 (i := 4) rfl)) j1 j2 ?_
             intro p2 p3 p4 t5 hc2551
             exact ⟨rfl, _, Qa hkn, ⟨p2, p3, p4, rfl⟩⟩
           ·refine oL 0 ?_
            ·rintro ρ' w' hs hah ⟨t6, p5⟩
             obtain ⟨j5, j6, p6, p7⟩ := hah 13 74 K
             have d2 := hah 9 70 K
             refine kN [(74, (.pointer (some ⟨j5, (j6 + Int.toNat (IntKind.wrap .i64 (p + 1)) * Qy.sz), none⟩))), (70, (.bool false))] ⟨p7, (Eq.trans d2 (congrArg Value.bool b6)), trivial⟩ fun hkn => ?_
             refine sC 9 74 j5 (j6 + Int.toNat (IntKind.wrap .i64 (p + 1)) * Qy.sz) (.string ⟨List.toArray c6⟩) 75 (Qh (e := Qy) (Qe (Vf (SP.get p5 (i := 4) rfl)) p6 j1 j2) o1 (j := 0) rfl) ?_
             exact eK hkn
           ·exact oV (hC (hS 9 (pt q 0)) (hC (hB 9 70 b6) (h0))) (pt q 2)
           ·refine oL 0 ?_
            ·rintro ρ' w' hs hah ⟨t7, p8⟩
             have p9 := hah 15 76 K
             have d2 := hah 9 70 K
             refine kN [(76, (pt q 2)), (70, (.bool false))] ⟨p9, (Eq.trans d2 (congrArg Value.bool b6)), trivial⟩ fun hkn => ?_
             refine sL 9 76 q 2 3 (.string ⟨List.toArray f.2.2.1⟩) 77 p8 rfl ?_
             exact eK hkn
           ·refine oL 0 ?_
            ·rintro ρ' w' hs hah ⟨t8, t9⟩
             have q0 := hah 14 75 K
             have q1 := hah 16 77 K
             have d2 := hah 9 70 K
             refine kN [(75, (.string ⟨List.toArray c6⟩)), (77, (.string ⟨List.toArray f.2.2.1⟩)), (70, (.bool false))] ⟨q0, q1, (Eq.trans d2 (congrArg Value.bool b6)), trivial⟩ fun hkn => ?_
             refine Xe (op := .neq) (T := 9) (T' := 9) (x := (.tmp 75)) (y := (.tmp 77)) (a := c6) (b := f.2.2.1) (r := (.bool (!(c6 == f.2.2.1)))) (d := (some 78)) (k := 17) K rfl K K rfl ?_
             exact eK hkn
           ·exact oV (hC (hB 9 70 b6) (hC (hA 17 78) (hC (hB 1 62 a5) (h0)))) (.bool (!(c6 == f.2.2.1)))
           ·exact oV (hC (hB 1 62 a5) (hC (hA 18 79) (h0))) (.bool (!(c6 == f.2.2.1)))
           ·exact oV (hC (hA 19 80) (h0)) (.bool (!(c6 == f.2.2.1)))
           ·rintro ρ' w' hs hf ⟨u0, j7⟩
            refine Vh [(1, (.slice b4 (List.length a1) b5)), (2, (pt b2 0)), (5, (.bool a2)), (6, (pt b1 0)), (7, (.slice u (List.length h) a0)), (8, (.int .i64 a4)), (9, (pt q 0)), (13, (.bool a6.2.2.2)), (14, (.bool (!(c6 == f.2.2.1)))), (15, (.int .i64 p))] ⟨(hs 1 K).trans K, (hs 2 K).trans K, (hs 5 K).trans K, (hs 6 K).trans K, (hs 7 K).trans K, (hs 8 K).trans K, (hs 9 K).trans K, (hs 13 K).trans K, hf 20 14 K, (hs 15 K).trans K, trivial⟩ ?_
            obtain ⟨u1, q2⟩ : ∃ x, w' = x := ⟨_, rfl⟩
            rw [q2] at j7 ⊢
            exact ⟨(!(c6 == f.2.2.1)), ⟨K, K, K, K, K, K, K, K, K, K, trivial⟩, SP.sel j7 [0, 1, 2, 3, 4] rfl rfl, H⟩
         ·have H := cf H a5
          refine aG [GEq (.bool b3), GEq (.bool b3), GEq undef, GEq undef, GEq undef, GEq undef, GEq undef, GEq undef, GEq undef, GEq undef, GEq undef, GEq undef, GEq undef, GEq undef, GEq undef, GEq undef, GEq undef, GEq undef, GEq undef, GEq (.bool false), GEq (.bool false)] [] (tG [] w0 [Q6 b2 24 #[(.int .i64 a7), (.int .i64 a8), (.int .i64 a9), (.int .i64 b0), (.slice A6 (List.length (List.map stT d9)) c7)], Q6 b1 79 #[(.int .i64 c0), (.int .i64 c1), (.int .i64 c2), (.int .i64 c3), (.slice A6 (List.length (List.map stT d9)) c7), (.map (some b8))], Zv b8 c4, Q6 q 34 #[(.int .i64 f.1), (.string ⟨List.toArray f.2.1⟩), (.string ⟨List.toArray f.2.2.1⟩), (.string ⟨List.toArray f.2.2.2.1⟩), (.string ⟨List.toArray f.2.2.2.2.1⟩), (.int .i64 f.2.2.2.2.2)], Xu 9 Qy u a0 h] [([], [])]) 21 0 ⟨trivial, SP.drew d0⟩ ?_ ?_
          iterate 21 refine And.intro ?_ ?_
          exact trivial
          ·exact oV (hC (hS 14 (.bool b3)) (h0)) (.bool b3)
          ·exact oV (hC (hA 0 61) (h0)) (.bool b3)
          ·exact oW (hC (hB 1 62 a5) (h0)) 63
          ·exact oW (hC (hB 1 62 a5) (h0)) 64
          ·exact oW (hC (hB 1 62 a5) (h0)) 65
          ·exact oW (hC (hB 1 62 a5) (h0)) 66
          ·exact oW (hC (hB 1 62 a5) (h0)) 67
          ·exact oW (hC (hB 1 62 a5) (h0)) 68
          ·exact oW (hC (hB 1 62 a5) (h0)) 69
          ·exact oW (hC (hB 1 62 a5) (h0)) 70
          ·exact oW (hC (hA 9 70) (h0)) 71
          ·exact oW (hC (hA 9 70) (h0)) 72
          ·exact oW (hC (hA 9 70) (h0)) 73
          ·exact oW (hC (hA 9 70) (h0)) 74
          ·exact oW (hC (hA 9 70) (h0)) 75
          ·exact oW (hC (hA 9 70) (h0)) 76
          ·exact oW (hC (hA 9 70) (h0)) 77
          ·exact oW (hC (hA 9 70) (h0)) 78
          ·exact oW (hC (hB 1 62 a5) (h0)) 79
          ·exact oV (hC (hB 1 62 a5) (hC (hA 18 79) (h0))) (.bool false)
          ·exact oV (hC (hA 19 80) (h0)) (.bool false)
          ·rintro ρ' w' hs hf ⟨u2, j8⟩
           refine Vh [(1, (.slice b4 (List.length a1) b5)), (2, (pt b2 0)), (5, (.bool a2)), (6, (pt b1 0)), (7, (.slice u (List.length h) a0)), (8, (.int .i64 a4)), (9, (pt q 0)), (13, (.bool a6.2.2.2)), (14, (.bool false)), (15, (.int .i64 p))] ⟨(hs 1 K).trans K, (hs 2 K).trans K, (hs 5 K).trans K, (hs 6 K).trans K, (hs 7 K).trans K, (hs 8 K).trans K, (hs 9 K).trans K, (hs 13 K).trans K, hf 20 14 K, (hs 15 K).trans K, trivial⟩ ?_
           obtain ⟨u3, q3⟩ : ∃ x, w' = x := ⟨_, rfl⟩
           rw [q3] at j8 ⊢
           exact ⟨false, ⟨K, K, K, K, K, K, K, K, K, K, trivial⟩, SP.sel j8 [0, 1, 2, 3, 4] rfl rfl, H⟩
        ·rintro ρ u4 ⟨d8, hk, q4, H⟩
         unfold V2 at H
         first | refine At.known [(1, (.slice b4 (List.length a1) b5)), (2, (pt b2 0)), (5, (.bool a2)), (6, (pt b1 0)), (7, (.slice u (List.length h) a0)), (8, (.int .i64 a4)), (9, (pt q 0)), (13, (.bool a6.2.2.2)), (14, (.bool d8)), (15, (.int .i64 p))] hk ?_ | rw [← Va (l := [(1, (.slice b4 (List.length a1) b5)), (2, (pt b2 0)), (5, (.bool a2)), (6, (pt b1 0)), (7, (.slice u (List.length h) a0)), (8, (.int .i64 a4)), (9, (pt q 0)), (13, (.bool a6.2.2.2)), (14, (.bool d8)), (15, (.int .i64 p))]) hk]
         refine aR ?_
         refine iR 3 3 [(59, (.int .i64 p)), (60, (.int .i64 (IntKind.wrap .i64 (p + 2)))), (15, (.int .i64 (IntKind.wrap .i64 (p + 2))))] ?_
         refine iF ?_
         exact ⟨d8, (IntKind.wrap .i64 (p + 2)), ⟨K, K, K, K, K, K, K, K, K, K, trivial⟩, SP.sel q4 [0, 1, 2, 3, 4] rfl rfl, H⟩
       ·have H := cf H g2
        refine At.exit K (id := 2) K ?_
        refine aQ ?_
        refine aQ ?_
        refine At.join (fun ρ w => ∃ (e9 : Int) (f0 : Int) (f1 : Int) (f2 : Int) (f3 : Jr) (e0 : Bool), V8 ρ [(1, (.slice b4 (List.length a1) b5)), (2, (pt b2 0)), (5, (.bool a2)), (6, (pt b1 0)), (7, (.slice u (List.length h) a0)), (8, (.int .i64 a4)), (9, (pt q 0)), (91, (.bool e0))] ∧ SP [] w0 w [Q6 b2 24 #[(.int .i64 a7), (.int .i64 a8), (.int .i64 a9), (.int .i64 b0), (.slice A6 (List.length (List.map stT d9)) c7)], Q6 b1 79 #[(.int .i64 e9), (.int .i64 f0), (.int .i64 f1), (.int .i64 f2), (.slice A6 (List.length (List.map stT d9)) c7), (.map (some b8))], Zv b8 f3, Q6 q 34 #[(.int .i64 f.1), (.string ⟨List.toArray f.2.1⟩), (.string ⟨List.toArray f.2.2.1⟩), (.string ⟨List.toArray f.2.2.2.1⟩), (.string ⟨List.toArray f.2.2.2.2.1⟩), (.int .i64 f.2.2.2.2.2)], Xu 9 Qy u a0 h] ∧ Ve (Qt a7 a8 a9 b0 (List.map stT d9) a1 a2 c9) (Q3 (Qt a7 a8 a9 b0 (List.map stT d9) a1 a2 c9) (List.map stT d9) c0 c1 c2 c3 c4 h a4 f a6 e3) h a4 f e9 f0 f1 f2 f3 e0 = some r) ?_ ?_
        ·refine aR ?_
         refine iR 2 2 [(81, (pt b1 0)), (82, (pt q 1))] ?_
         refine iS 3 ?_
         refine sL 9 82 q 1 3 (.string ⟨List.toArray f.2.1⟩) 83 d0 rfl ?_
         refine iR 1 4 [(84, (pt q 2))] ?_
         refine iS 5 ?_
         refine sL 9 84 q 2 3 (.string ⟨List.toArray f.2.2.1⟩) 85 d0 rfl ?_
         obtain ⟨b7, q5, H⟩ := Qf H
         refine iS 6 ?_
         refine cF 20 #[(.tmp 81), (.tmp 83), (.tmp 85)] #[29, 9, 9] 86 Tryz.call20 (Yr b1 A6 c7 b8 c0 c1 c2 c3 d9 c4 f.2.1 f.2.2.1 n2 (U8 d0 [1, 2] rfl rfl) (fun w hm => Dp.mono _ (Fu d0 (l := [1, 2]) rfl hm) e1) b7 q5) ?_
         rintro e q6 ⟨rfl, j9⟩
         refine ⟨_, rfl, ?_⟩
         have k1 : SP [] w0 q6 [Q6 b2 24 #[(.int .i64 a7), (.int .i64 a8), (.int .i64 a9), (.int .i64 b0), (.slice A6 (List.length (List.map stT d9)) c7)], Q6 q 34 #[(.int .i64 f.1), (.string ⟨List.toArray f.2.1⟩), (.string ⟨List.toArray f.2.2.1⟩), (.string ⟨List.toArray f.2.2.2.1⟩), (.string ⟨List.toArray f.2.2.2.2.1⟩), (.int .i64 f.2.2.2.2.2)], Xu 9 Qy u a0 h, Q6 b1 79 #[(.int .i64 b7.2.1), (.int .i64 b7.2.2.1), (.int .i64 b7.2.2.2.1), (.int .i64 b7.2.2.2.2.1), (.slice A6 (List.length (List.map stT d9)) c7), (.map (some b8))], Zv b8 b7.2.2.2.2.2] := Xx d0 [1, 2] [0, 3, 4] rfl rfl j9 rfl
         clear j9
         refine iR 2 8 [(87, (.bool a6.2.2.2)), (88, (.bool a6.2.2.2))] ?_
         refine In.guard (t := 88) (b := a6.2.2.2) K (fun g9 => ?_) (fun g9 => ?_)
         ·have H := ct H g9
          refine iR 3 11 [(89, (.bool b3)), (90, (.bool b3)), (91, (.bool (!(b7.1 == b3))))] ?_
          refine iF ?_
          exact ⟨b7.2.1, b7.2.2.1, b7.2.2.2.1, b7.2.2.2.2.1, b7.2.2.2.2.2, (!(b7.1 == b3)), ⟨K, K, K, K, K, K, K, K, trivial⟩, SP.sel k1 [0, 3, 4, 1, 2] rfl rfl, H⟩
         ·have H := cf H g9
          refine iR 3 11 [(89, undef), (90, (.bool false)), (91, (.bool (!(b7.1 == false))))] ?_
          refine iF ?_
          exact ⟨b7.2.1, b7.2.2.1, b7.2.2.2.1, b7.2.2.2.2.1, b7.2.2.2.2.2, (!(b7.1 == false)), ⟨K, K, K, K, K, K, K, K, trivial⟩, SP.sel k1 [0, 3, 4, 1, 2] rfl rfl, H⟩
        ·rintro ρ u5 ⟨e9, f0, f1, f2, f3, e0, hk, f4, H⟩
         unfold Ve at H
         first | refine At.known [(1, (.slice b4 (List.length a1) b5)), (2, (pt b2 0)), (5, (.bool a2)), (6, (pt b1 0)), (7, (.slice u (List.length h) a0)), (8, (.int .i64 a4)), (9, (pt q 0)), (91, (.bool e0))] hk ?_ | rw [← Va (l := [(1, (.slice b4 (List.length a1) b5)), (2, (pt b2 0)), (5, (.bool a2)), (6, (pt b1 0)), (7, (.slice u (List.length h) a0)), (8, (.int .i64 a4)), (9, (pt q 0)), (91, (.bool e0))]) hk]
         refine Zi K (o := (.tmp 91)) K (b := e0) K (fun h1 => ?_) (fun h1 => ?_)
         ·have H := ct H h1
          refine aQ ?_
          refine aR ?_
          refine iR 1 1 [(4, (.bool false))] ?_
          refine iF ?_
          refine At.ret K ?_
          refine ⟨(.bool false), K, ?_⟩
          obtain rfl := Qm H
          exact ⟨rfl, SP.sel f4 [] rfl rfl⟩
         ·have H := cf H h1
          refine At.skip K ?_
          refine aR ?_
          refine iR 2 2 [(92, (.slice u (List.length h) a0)), (93, (pt q 1))] ?_
          refine iS 3 ?_
          refine sL 9 93 q 1 3 (.string ⟨List.toArray f.2.1⟩) 94 f4 rfl ?_
          refine iR 1 4 [(95, (pt q 2))] ?_
          refine iS 5 ?_
          refine sL 9 95 q 2 3 (.string ⟨List.toArray f.2.2.1⟩) 96 f4 rfl ?_
          refine iS 6 ?_
          refine V1 (e := Qy) (T := 53) (E := 9) (len := 2) (parts := #[(0, (.tmp 94)), (1, (.tmp 96))]) (cs := #[(.string ⟨List.toArray f.2.1⟩), (.string ⟨List.toArray f.2.2.1⟩)]) ([f.2.1, f.2.2.1] : List (List UInt8)) (d := (some 97)) (k := 5) K rfl (fun _ => K) f4 rfl rfl rfl rfl ?_
          intro q7 u6 k2
          obtain ⟨hl2589, H⟩ := Xw H
          obtain ⟨k3, hyl2590⟩ : ∃ y, h ++ ([f.2.1, f.2.2.1] : List (List UInt8)) = y := ⟨_, rfl⟩
          rw [hyl2590] at H
          refine iS 7 ?_
          refine Qj.append (e := Qy) (l := h) (m := ([f.2.1, f.2.2.1] : List (List UInt8))) (A := u) (c := a0) (T := 53) (TX := 53) (E := 9) (b := 16) (s := (.tmp 92)) (x := (.tmp 97)) (i := 4) (vx := (.slice (some ⟨q7, 0, none⟩) (List.length ([f.2.1, f.2.2.1] : List (List UInt8))) (List.length ([f.2.1, f.2.2.1] : List (List UInt8))))) (d := (some 98)) (k := 6) K rfl K K K K rfl k2 rfl (Uw (E := 9) K (Vf (SP.get k2 (i := 5) rfl))) hl2589 ?_
          rw [hyl2590]
          intro k4 k5 u7 q8
          refine iR 1 8 [(7, (.slice k4 (List.length k3) k5))] ?_
          refine iF ?_
          refine aR ?_
          refine iR 3 3 [(34, (.int .i64 a4)), (35, (.int .i64 (IntKind.wrap .i64 (a4 + 1)))), (8, (.int .i64 (IntKind.wrap .i64 (a4 + 1))))] ?_
          refine iF ?_
          exact ⟨e9, f0, f1, f2, f3, k3, (IntKind.wrap .i64 (a4 + 1)), k4, k5, ⟨K, K, K, K, K, K, trivial⟩, SP.sel q8 [0, 1, 2, 4] rfl rfl, H⟩
      ·exact ⟨true, 0, ⟨K, K, K, K, K, K, K, K, K, K, trivial⟩, SP.sel n1 [0, 1, 2, 4, 3] rfl rfl, H⟩
     ·have H := cf H g1
      refine At.exit K (id := 0) K ?_
      refine aQ ?_
      refine aR ?_
      refine iR 2 2 [(99, (.bool a2)), (4, (.bool a2))] ?_
      refine iF ?_
      refine At.ret K ?_
      refine ⟨(.bool a2), K, ?_⟩
      obtain rfl := Qm H
      exact ⟨rfl, SP.sel e5 [] rfl rfl⟩
    ·exact ⟨c8.1, c8.2.1, c8.2.2.1, c8.2.2.2.1, c8.2.2.2.2, ([] : List (List UInt8)), 0, none, 0, ⟨K, K, K, K, K, K, trivial⟩, SP.sel (Gf i1 9 Qy) [0, 1, 2, 3] rfl rfl, H⟩
end Go.Proofs.YtmgfanhcdfobhaaGreatDoor
namespace Go.Proofs.YtmgfanhcdfobhaaGreatDoor
theorem Hq (ps : List (Str × Str)) (a b t k : Str) : inP (ps ++ [(a, b)]) t k = (inP ps t k || ((a == t) && (b == k))) := by unfold inP; rw [List.any_append]; simp
def Rel (l : List Qk) (M : Jr) (ps : List (Str × Str)) : Prop := ∀ t k, (Hc l t k).2.2.2 = true → (U7 M (t, k) == 0) = !(inP ps t k)
theorem H6 (r23 : Int → Int → Int → Int → Jr → List Str → Int → Option Bool) (w g i0 e : Int) {l : List Qk} (hv : VC l) (M : Jr) (ps : List (Str × Str)) (hps : ps.length ≤ 1000000) (at' : Int) (x : OpV) (z : Str × Str × Int × Bool) (R : Option Bool)
    (hR : ∀ b : Bool, b = !(inP ps x.2.1 x.2.2.1) → (Zh w g i0 e l M x.2.1 x.2.2.1).bind (fun y => cond z.2.2.2 (Ve r23 (fun _ _ => none) (gf ps) at' x y.2.1 y.2.2.1 y.2.2.2.1 y.2.2.2.2.1 y.2.2.2.2.2 (!(y.1 == b))) (Ve r23 (fun _ _ => none) (gf ps) at' x y.2.1 y.2.2.1 y.2.2.2.1 y.2.2.2.2.1 y.2.2.2.2.2 (!(y.1 == false)))) = R) :
    ∀ (d j f : Nat) (b : Bool), d = ps.length - j → j ≤ ps.length → d < f → b = !(inP (ps.take j) x.2.1 x.2.2.1) → Q3 r23 l w g i0 e M (gf ps) at' x z f b ((2 * j : Nat) : Int) = R := by
  intro d
  induction d with
  | zero =>
    intro j f b hd hj hf hb
    obtain ⟨f, rfl⟩ : ∃ g, f = g + 1 := ⟨f - 1, by omega⟩
    show Vm r23 (Q3 r23 l w g i0 e M (gf ps) at' x z f) l w g i0 e M (gf ps) at' x z b ((2 * j : Nat) : Int) = _
    unfold Vm
    rw [show (((2 * j : Nat) : Int) + 1) = ((2 * j + 1 : Nat) : Int) by omega, Gb (by omega), Hp, show decide (((2 * j + 1 : Nat) : Int) < ((2 * ps.length : Nat) : Int)) = false from decide_eq_false (by omega), cond_false]
    rw [List.take_of_length_le (by omega)] at hb
    exact hR b hb
  | succ d ih =>
    intro j f b hd hj hf hb
    obtain ⟨f, rfl⟩ : ∃ g, f = g + 1 := ⟨f - 1, by omega⟩
    have hlt : j < ps.length := by omega
    obtain ⟨g1, g2⟩ := gf_get ps j hlt
    have ht : ps.take (j + 1) = ps.take j ++ [(ps[j].1, ps[j].2)] := by rw [List.take_add_one, List.getElem?_eq_getElem hlt]; rfl
    have next : ∀ b', b' = !(inP (ps.take j) x.2.1 x.2.2.1 || ((ps[j].1 == x.2.1) && (ps[j].2 == x.2.2.1))) → Q3 r23 l w g i0 e M (gf ps) at' x z f b' ((2 * (j + 1) : Nat) : Int) = R := by
      intro b' hb'
      refine ih (j + 1) f b' (by omega) (by omega) (by omega) ?_
      rw [ht, Hq]
      exact hb'
    show Vm r23 (Q3 r23 l w g i0 e M (gf ps) at' x z f) l w g i0 e M (gf ps) at' x z b ((2 * j : Nat) : Int) = _
    unfold Vm V2
    rw [show (((2 * j : Nat) : Int) + 1) = ((2 * j + 1 : Nat) : Int) by omega, Gb (by omega), Hp, show decide (((2 * j + 1 : Nat) : Int) < ((2 * ps.length : Nat) : Int)) = true from decide_eq_true (by omega), cond_true, Cl, g1, Option.bind_some, Cl, g2, Option.bind_some,
      show (((2 * j : Nat) : Int) + 2) = ((2 * (j + 1) : Nat) : Int) by omega, Gb (by omega)]
    cases b with
    | false =>
      rw [cond_false]
      refine next false ?_
      have : inP (ps.take j) x.2.1 x.2.2.1 = true := by simpa using hb
      rw [this]; rfl
    | true =>
      have : inP (ps.take j) x.2.1 x.2.2.1 = false := by simpa using hb
      rw [this] at next
      rw [cond_true]
      cases h1 : (ps[j].1 == x.2.1) with
      | false => rw [show (!false) = true from rfl, cond_true]; exact next true (by rw [h1]; rfl)
      | true => rw [show (!true) = false from rfl, cond_false]; exact next _ (by rw [h1]; rfl)
theorem rel_next {l : List Qk} {M : Jr} {ps : List (Str × Str)} {n : Nat} (h : Rel l M ps) (hM : MB n M) (a b : Str) : Rel l (Hd l M a b) (ps ++ [(a, b)]) := by
  intro t k htk
  rw [Hq, rev_get]
  have h0 := hM (a, b)
  by_cases e : (a, b) = (t, k)
  · injection e with e1 e2
    subst e1; subst e2
    rw [if_pos ⟨htk, rfl⟩, beq_self_eq_true, beq_self_eq_true]
    simp
    omega
  · rw [if_neg (fun h => e h.2), h t k htk]
    have : ((a == t) && (b == k)) = false := by
      rw [Bool.eq_false_iff]
      intro h2
      simp only [Bool.and_eq_true, beq_iff_eq] at h2
      exact e (by rw [h2.1, h2.2])
    rw [this, Bool.or_false]
theorem Fi (w g i0 e : Int) {l : List Qk} (hv : VC l) (ops : List OpV) (hops : ops.length ≤ 100) :
    ∀ (d i f : Nat) (M : Jr) (ps : List (Str × Str)), d = ops.length - i → i ≤ ops.length → d < f → MB i M → ps.length = i → Rel l M ps → Qt w g i0 e l ops true f w g i0 e M (gf ps) (i : Int) = some true := by
  intro d
  induction d with
  | zero =>
    intro i f M ps hd hi hf hM hp hr
    obtain ⟨f, rfl⟩ : ∃ g, f = g + 1 := ⟨f - 1, by omega⟩
    show Vn (Qt w g i0 e l ops true f) w g i0 e l ops true w g i0 e M (gf ps) (i : Int) = _
    unfold Vn
    rw [show decide ((i : Int) < ((ops.length : Nat) : Int)) = false from decide_eq_false (by omega), cond_false]
  | succ d ih =>
    intro i f M ps hd hi hf hM hp hr
    obtain ⟨f, rfl⟩ : ∃ g, f = g + 1 := ⟨f - 1, by omega⟩
    have hlt : i < ops.length := by omega
    show Vn (Qt w g i0 e l ops true f) w g i0 e l ops true w g i0 e M (gf ps) (i : Int) = _
    generalize hR : Qt w g i0 e l ops true f = R at *
    unfold Vn
    rw [show decide ((i : Int) < ((ops.length : Nat) : Int)) = true from decide_eq_true (by omega), cond_true, Jv hlt, Option.bind_some]
    generalize ops[i] = x
    rw [rFind _ _ _ _ _ _ hv.len, Option.bind_some, rTok _ _ _ _ _ _ (Ec hv _), Option.bind_some, show tokL (B9 l x.2.1).2.2.2.2.1 x.2.2.1 = Hc l x.2.1 x.2.2.1 from rfl]
    have := H6 R w g i0 e hv M ps (by omega) (i : Int) x (Hc l x.2.1 x.2.2.1) (some true) (fun b hb => by
      rw [pVRevoke hv _ _ _ _ _ _ _ (by have := hM (x.2.1, x.2.2.1); omega), Option.bind_some]
      have hgo : Ve R (fun _ _ => none) (gf ps) (i : Int) x w g i0 e (Hd l M x.2.1 x.2.2.1) false = some true := by
        unfold Ve
        rw [cond_false, Hi (by rw [Hp]; simp; omega), Option.bind_some, gf_snoc, show ((i : Int) + 1) = ((i + 1 : Nat) : Int) by omega, Gb (by omega), ← hR]
        exact ih (i + 1) f _ _ (by omega) (by omega) (by omega) (mb_rev hM l _ _) (by simp; omega) (rel_next hr hM _ _)
      unfold vRevB
      cases hx : (Hc l x.2.1 x.2.2.1).2.2.2 with
      | false => exact hgo
      | true =>
        rw [cond_true, hb, hr _ _ hx, Bool.true_and, beq_self_eq_true]
        exact hgo) ps.length 0 Z0 true (by omega) (by omega) (by unfold Z0; omega) rfl
    exact this
theorem Bl (w g i0 e : Int) (l : List Qk) (ops : List OpV) (hl : l.length ≤ 140737488355328) (hq : ∀ t ∈ l, TenQ t) (hops : ops.length ≤ 140737488355328) (hoq : ∀ o ∈ ops, OpVQ o) : Xd w g i0 e l ops = some true := by
  unfold Xd
  obtain ⟨c, hc, hc'⟩ := cfg_great w g i0 e l hl hq
  obtain ⟨b, hb, hb'⟩ := H5 ops hops hoq
  rw [vaultHead, Option.bind_some, pVNew w g i0 e l hl hq, Option.bind_some]
  cases hk : En w g i0 e l with
  | false => rfl
  | true =>
    rw [cond_true, optE_s, hc, Option.bind_some]
    have hup : Vr w g i0 e l ops true (w, g, i0, e, []) true = some true := by unfold Vr; rw [cond_true]
    cases c with
    | true => rw [cond_true]; exact hup
    | false =>
      obtain ⟨s1, s2⟩ := hc' rfl
      have hv := vc_of hk (by omega) hq s2
      rw [cond_false, hb, Option.bind_some]
      cases b with
      | true => exact hup
      | false =>
        unfold Vr
        rw [cond_false]
        have := Fi w g i0 e hv ops (hb' rfl) ops.length 0 Z0 [] [] (by omega) (by omega) (by have := hb' rfl; unfold Z0; omega) mb_nil rfl (fun t k _ => rfl)
        rw [show ((0 : Nat) : Int) = 0 from rfl] at this
        exact this
end Go.Proofs.YtmgfanhcdfobhaaGreatDoor
namespace Go.Proofs.YtmgfanhcdfobhaaGreatDoor
open Go.RowKit Go.ChangeShapes Go.WideShapes Go.Deep
theorem own : ownKnob Tryz.prog.godebug = none := by kernel_rfl
theorem laidOut : laidOutB Tryz.prog = true := by kernel_rfl
section
variable {H : Type} {enc : TypeId × Value → H} {W : World} {spare : Nat → Bool} {held : Bool} {base b0 : Nat} {r : Reach}
end
end Go.Proofs.YtmgfanhcdfobhaaGreatDoor
namespace Go.Proofs.YtmgfanhcdfobhaaGreatDoor
open Go.RowKit Go.ChangeShapes Go.WideShapes Go.Deep
section
variable {H : Type} {enc : TypeId × Value → H} {P : Program} {W : World}
def Rds (enc : TypeId × Value → H) (P : Program) (W : World) (t : TypeId) {α : Type} (e : Enc α) (Q : Nat → α → Prop) : Prop :=
  ∀ (Z0 : Nat) (cs : List Value) (x : DataW H × List MemPlace), DataW.trod enc P W 0 (fun _ => true) true Z0 t cs = some x → ∃ a, cs = e.enc a ∧ ∀ r, (x.1.weights P t).all (· ≤ r) = true → Q r a
def RdsFs (enc : TypeId × Value → H) (P : Program) (W : World) (o : Nat) (fs : List (TypeId × Nat)) {α : Type} (e : Enc α) (Q : Nat → α → Prop) : Prop :=
  ∀ (Z0 : Nat) (cs : List Value) (xs : List (DataW H × List MemPlace)), xs.length = fs.length → (∀ (i : Nat) f, fs[i]? = some f → DataW.trod enc P W 0 (fun _ => true) true Z0 f.1 ((cs.drop f.2).take (P.cellsOf f.1)) = xs[i]?) →
    ∃ a, (cs.drop o).take e.sz = e.enc a ∧ ∀ r, (DataW.weightsEach P (fs.map (·.1)) (xs.map (·.1))).all (· ≤ r) = true → Q r a
theorem Gn {t : TypeId} {k : IntKind} (ht : P.underlying t = some (.int k)) : Rds enc P W t (Qc k) (fun _ n => (Lit.int k n).wf = true) := by
  intro Z0 cs x h
  obtain ⟨n, rfl, rfl, hw⟩ := DataW.trod_int ht h
  exact ⟨n, rfl, fun _ _ => hw⟩
theorem D5 {t : TypeId} (ht : P.underlying t = some .string) : Rds enc P W t Qy (fun r s => s.length ≤ r) := by
  intro Z0 cs x h
  obtain ⟨s, rfl, rfl, hs⟩ := DataW.trod_string ht h
  refine ⟨s.data.toList, rfl, fun r hr => ?_⟩
  simpa [DataW.weights] using hr
theorem Fj {t : TypeId} {o : Nat} {α : Type} {e : Enc α} {Q : Nat → α → Prop} (h : Rds enc P W t e Q) (hc : P.cellsOf t = e.sz) : RdsFs enc P W o [(t, o)] e Q := by
  intro Z0 cs xs hl hf
  match xs, hl with
  | [x], _ =>
    have := hf 0 (t, o) rfl
    obtain ⟨a, ha, hq⟩ := h Z0 _ _ this
    rw [hc] at ha
    refine ⟨a, ha, fun r hr => hq r ?_⟩
    simpa [DataW.weightsEach] using hr
theorem Uh {t : TypeId} {o : Nat} {fs : List (TypeId × Nat)} {α β : Type} {e : Enc α} {e' : Enc β} {Q : Nat → α → Prop} {Q' : Nat → β → Prop} (h : Rds enc P W t e Q) (hc : P.cellsOf t = e.sz) (hr : RdsFs enc P W (o + e.sz) fs e' Q') :
    RdsFs enc P W o ((t, o) :: fs) (Qi e e') (fun r a => Q r a.1 ∧ Q' r a.2) := by
  intro Z0 cs xs hl hf
  match xs, hl with
  | x :: xs, hl =>
    have := hf 0 (t, o) rfl
    obtain ⟨a, ha, hq⟩ := h Z0 _ _ this
    obtain ⟨b, hb, hq'⟩ := hr Z0 cs xs (by simpa using hl) (fun i f hi => by have := hf (i + 1) f (by simpa using hi); simpa using this)
    refine ⟨(a, b), ?_, fun r hw => ?_⟩
    · show (cs.drop o).take (e.sz + e'.sz) = e.enc a ++ e'.enc b
      rw [hc] at ha
      rw [← ha, ← hb, List.take_add, List.drop_drop]
    · simp only [List.map_cons, DataW.weightsEach, List.all_append, Bool.and_eq_true] at hw
      exact ⟨hq r hw.1, hq' r hw.2⟩
theorem Ra {t : TypeId} {l : List (TypeId × Nat)} {α : Type} {e : Enc α} {Q : Nat → α → Prop} (hl : (match P.underlying t with | some (.struct fs) => some (fs.toList.map (fun f => (f.type, f.offset))) | _ => none) = some l) (hc : P.cellsOf t = e.sz)
    (hr : RdsFs enc P W 0 l e Q) : Rds enc P W t e Q := by
  intro Z0 cs x hx
  split at hl
  · rename_i fs hs
    simp only [Option.some.injEq] at hl
    subst hl
    obtain ⟨xs, n, _, rfl, hlen, hxs, hg⟩ := DataW.trod_struct hs hx
    obtain ⟨a, ha, hq⟩ := hr n cs xs (by simpa using hxs) (fun i f hi => by
      rw [List.getElem?_map, Option.map_eq_some_iff] at hi
      obtain ⟨f', hf', rfl⟩ := hi
      exact hg i f' (by simpa using hf'))
    rw [List.drop_zero, List.take_of_length_le (by omega)] at ha
    refine ⟨a, ha, fun r hw => hq r ?_⟩
    simp only [DataW.weights, hs] at hw
    simpa [List.map_map, Function.comp_def] using hw
  · cases hl
theorem Du {t : TypeId} {n : Nat} : ∀ {ds : List (DataW H)} {d : DataW H}, d ∈ ds → n ∈ d.weights P t → n ∈ DataW.weightsAll P t ds
  | d0 :: ds, d, hd, hn => by
    simp only [DataW.weightsAll, List.mem_append]
    rcases List.mem_cons.1 hd with rfl | h
    · exact .inl hn
    · exact .inr (Du h hn)
theorem rds_row {t te : TypeId} {α : Type} {e : Enc α} {Q : Nat → α → Prop} (ht : P.underlying t = some (.slice te)) (h : Rds enc P W te e Q) (hc : P.cellsOf te = e.sz) (h0 : 0 < e.sz) {Z0 : Nat} {cs : List Value} {x : DataW H × List MemPlace}
    (hx : DataW.trod enc P W 0 (fun _ => true) true Z0 t cs = some x) :
    ∃ (A : Option Addr) (c : Nat) (l : List α), cs = [.slice A l.length c] ∧ RdT e W A c l ∧ ∀ r, (x.1.weights P t).all (· ≤ r) = true → l.length * P.bytesOf te ≤ r ∧ ∀ a ∈ l, Q r a := by
  rcases DataW.trod_slice ht hx with ⟨rfl, rfl⟩ | ⟨a, len, cap, elems, rest, n, _, rfl, rfl, _, hl, hm, hlen, hel, _, _⟩
  · exact ⟨none, 0, [], rfl, RdT.nil _ W, fun r _ => ⟨by simp, fun a ha => by cases ha⟩⟩
  · have each : ∀ i, i ≤ len → ∃ l : List α, l.length = i ∧ ∀ j (hj : j < l.length), W.cells? 0 (a.add (j * P.cellsOf te)) (P.cellsOf te) = some (e.enc l[j]) ∧ ∀ y, elems[j]? = some y → ∀ r, (y.1.weights P te).all (· ≤ r) = true → Q r l[j] := by
      intro i
      induction i with
      | zero => exact fun _ => ⟨[], rfl, fun j hj => by simp at hj⟩
      | succ i ih =>
        intro hi
        obtain ⟨l, hll, hlg⟩ := ih (by omega)
        have := hel i (by omega)
        rw [List.getElem?_eq_getElem (by omega), Option.bind_eq_some_iff] at this
        obtain ⟨cs', h1, h2⟩ := this
        obtain ⟨b, rfl, hb⟩ := h n cs' _ h2
        refine ⟨l ++ [b], by simp [hll], fun j hj => ?_⟩
        by_cases hji : j < l.length
        · rw [List.getElem_append_left hji]
          exact hlg j hji
        · obtain rfl : j = i := by simp at hj; omega
          subst hll
          rw [List.getElem_concat_length rfl]
          refine ⟨h1, fun y hy => ?_⟩
          rw [List.getElem?_eq_getElem (by omega), Option.some.injEq] at hy
          subst hy
          exact hb
    obtain ⟨l, hll, hlg⟩ := each len (Nat.le_refl _)
    subst hll
    refine ⟨some a, cap, l, rfl, ⟨by rw [Vl], hl, hm, fun hn => ?_⟩, fun r hw => ?_⟩
    · have cell : ∀ j (hj : j < l.length) k, k < e.sz → W.cell? ((a.add (j * e.sz)).add k) = (e.enc l[j])[k]? := by
        intro j hj k hk
        have := (hlg j hj).1
        rw [hc] at this
        exact (World.cells?_some this).2.2 k hk
      have c0 := cell 0 hn 0 h0
      rw [Nat.zero_mul, List.getElem?_eq_getElem (by rw [e.len]; exact h0)] at c0
      obtain ⟨b, off, spot⟩ := a
      obtain rfl : spot = none := by simpa [Addr.add] using World.cell?_spot c0
      have hadd : ∀ i j : Nat, ((⟨b, off, none⟩ : Addr).add i).add j = ⟨b, off + (i + j), none⟩ := by
        intro i j
        unfold Addr.add
        by_cases hi : i = 0 <;> by_cases hj : j = 0 <;> simp [hi, hj, Nat.add_assoc]
      rw [hadd] at c0
      refine ⟨b, off, rfl, block_lt_of_cell c0, fun j u hu => ?_⟩
      have hlen2 := (List.getElem?_eq_some_iff.1 hu).1
      rw [Vl] at hlen2
      have hq : j / e.sz < l.length := Nat.div_lt_of_lt_mul (by rw [Nat.mul_comm]; exact hlen2)
      have hk : j % e.sz < e.sz := Nat.mod_lt _ h0
      have hj : j = j / e.sz * e.sz + j % e.sz := by rw [Nat.mul_comm]; exact (Nat.div_add_mod j e.sz).symm
      have hce := cell (j / e.sz) hq (j % e.sz) hk
      rw [hadd, ← hj] at hce
      rw [hce]
      have hgt := Rc e (l := l) (i := j / e.sz) (x := l[j / e.sz]) (List.getElem?_eq_getElem hq) (j := j % e.sz) (u := (e.enc l[j / e.sz])[j % e.sz]'(by rw [e.len]; exact hk)) (List.getElem?_eq_getElem _)
      rw [← hj, hu] at hgt
      rw [List.getElem?_eq_getElem (by rw [e.len]; exact hk), ← hgt]
    · simp only [DataW.weights, ht, List.all_cons, Bool.and_eq_true, decide_eq_true_eq, List.all_append] at hw
      refine ⟨Nat.le_trans (Nat.mul_le_mul_right _ (by simp; omega)) hw.1, fun b hb => ?_⟩
      obtain ⟨j, hj, rfl⟩ := List.mem_iff_getElem.1 hb
      refine (hlg j hj).2 _ (List.getElem?_eq_getElem (by omega)) r ?_
      rw [List.all_eq_true] at hw ⊢
      intro m hm'
      exact hw.2.1 m (Du (List.mem_map.2 ⟨_, List.getElem_mem (by omega), rfl⟩) hm')
variable {r0 : Reach} {b0 : Nat}
theorem open_agg {t : TypeId} {fs : Array Field} {α : Type} {e : Enc α} {Q : Nat → α → Prop} (hs : P.underlying t = some (.struct fs)) (h : Rds enc P W t e Q) {v : Value} {d : DataW H} {p : List MemPlace} (hv : Value.okWide P W r0 b0 t v)
    (hd : DataW.Trod enc P W 0 (fun _ => true) true t v d p) (hr : ∀ n ∈ d.weights P t, n ≤ reachBytes) : ∃ a, v = .agg ⟨e.enc a⟩ ∧ Q reachBytes a := by
  obtain ⟨cs, rfl, hsz⟩ := okWide_struct hs hv
  obtain ⟨Z0, hf⟩ := hd
  obtain ⟨a, ha, hq⟩ := h Z0 _ _ hf
  refine ⟨a, ?_, hq _ (by rw [List.all_eq_true]; intro n hn; exact decide_eq_true (hr n hn))⟩
  simp only [Value.cells] at ha
  rw [← ha]
theorem open_row {t te : TypeId} {α : Type} {e : Enc α} {Q : Nat → α → Prop} (ht : P.underlying t = some (.slice te)) (h : Rds enc P W te e Q) (hc : P.cellsOf te = e.sz) (h0 : 0 < e.sz) {v : Value} {d : DataW H} {p : List MemPlace} (hv : Value.okWide P W r0 b0 t v)
    (hd : DataW.Trod enc P W 0 (fun _ => true) true t v d p) (hr : ∀ n ∈ d.weights P t, n ≤ reachBytes) : ∃ (A : Option Addr) (c : Nat) (l : List α), v = .slice A l.length c ∧ RdT e W A c l ∧ l.length * P.bytesOf te ≤ reachBytes ∧ ∀ a ∈ l, Q reachBytes a := by
  obtain ⟨A, n, c, rfl⟩ := okWide_slice ht hv
  obtain ⟨Z0, hf⟩ := hd
  obtain ⟨A', c', l, hl, hrd, hq⟩ := rds_row ht h hc h0 hf
  simp [Value.cells] at hl
  obtain ⟨rfl, rfl, rfl⟩ := hl
  have := hq reachBytes (by rw [List.all_eq_true]; intro n hn; exact decide_eq_true (hr n hn))
  exact ⟨A, c, l, rfl, hrd, this.1, this.2⟩
end
end Go.Proofs.YtmgfanhcdfobhaaGreatDoor
namespace Go.Proofs.YtmgfanhcdfobhaaGreatDoor
theorem reachM : reachBytes ≤ 140737488355328 := by decide
section
variable {H : Type} {enc : TypeId × Value → H} {P : Program} {W : World}
theorem rds_ds {t te : TypeId} {α : Type} {e : Enc α} {Q : Nat → α → Prop} (p : Dp α) (ht : P.underlying t = some (.slice te)) (h : Rds enc P W te e Q) (hc : P.cellsOf te = e.sz) (h0 : 0 < e.sz) (hb : Nat.ble 1 (P.bytesOf te) = true) (hp : ∀ r a, Q r a → p.ok W a) :
    Rds enc P W t (eDS e) (fun r x => (dDS e p).ok W x ∧ x.2.2.length ≤ r ∧ ∀ a ∈ x.2.2, Q r a) := by
  intro Z0 cs x hx
  obtain ⟨A, c, l, rfl, hr, hq⟩ := rds_row ht h hc h0 hx
  refine ⟨(A, c, l), rfl, fun r hw => ?_⟩
  obtain ⟨h1, h2⟩ := hq r hw
  exact ⟨⟨hr, fun y hy => hp r y (h2 y hy)⟩, Nat.le_trans (Nat.le_mul_of_pos_right _ (Nat.le_of_ble_eq_true hb)) h1, h2⟩
def NetQ (r : Nat) (n : Int × Int) : Prop := (Lit.int .u32 n.1).wf = true ∧ (Lit.int .i64 n.2).wf = true
def TokQ (r : Nat) (x : List UInt8 × List UInt8 × Int) : Prop := x.1.length ≤ r ∧ x.2.1.length ≤ r ∧ (Lit.int .i64 x.2.2).wf = true
def TenDQ (W : World) (r : Nat) (y : Vo) : Prop := y.1.length ≤ r ∧ (Lit.int .i64 y.2.1).wf = true ∧ (Lit.int .i64 y.2.2.1).wf = true ∧
  ((dDS eNet dT).ok W y.2.2.2.1 ∧ y.2.2.2.1.2.2.length ≤ r ∧ ∀ n ∈ y.2.2.2.1.2.2, NetQ r n) ∧ ((dDS eTok dT).ok W y.2.2.2.2 ∧ y.2.2.2.2.2.2.length ≤ r ∧ ∀ x ∈ y.2.2.2.2.2.2, TokQ r x)
def CfgQ (W : World) (r : Nat) (c : Int × Int × Int × Int × DS Vo) : Prop := (Lit.int .i64 c.1).wf = true ∧ (Lit.int .i64 c.2.1).wf = true ∧ (Lit.int .i64 c.2.2.1).wf = true ∧ (Lit.int .i64 c.2.2.2.1).wf = true ∧
  ((dDS Ux Cv).ok W c.2.2.2.2 ∧ c.2.2.2.2.2.2.length ≤ r ∧ ∀ y ∈ c.2.2.2.2.2.2, TenDQ W r y)
set_option maxRecDepth 100000 in
theorem net_rds : Rds enc Tryz.prog W 113 eNet NetQ :=
  Ra (l := [(111, 0), (3, 1)]) (by kernel_rfl) (by kernel_rfl) (Uh (Gn Tryz.underlying111) (by kernel_rfl) (Fj (Gn Tryz.underlying3) (by kernel_rfl)))
set_option maxRecDepth 100000 in
theorem tok_rds : Rds enc Tryz.prog W 48 eTok TokQ :=
  Ra (l := [(9, 0), (9, 1), (2, 2)]) (by kernel_rfl) (by kernel_rfl) (Uh (D5 Tryz.underlying9) (by kernel_rfl) (Uh (D5 Tryz.underlying9) (by kernel_rfl) (Fj (Gn Tryz.underlying2) (by kernel_rfl))))
set_option maxRecDepth 100000 in
theorem ten_rds : Rds enc Tryz.prog W 44 Ux (TenDQ W) :=
  Ra (l := [(9, 0), (3, 1), (3, 2), (41, 3), (42, 4)]) (by kernel_rfl) (by kernel_rfl)
    (Uh (D5 Tryz.underlying9) (by kernel_rfl) (Uh (Gn Tryz.underlying3) (by kernel_rfl) (Uh (Gn Tryz.underlying3) (by kernel_rfl)
      (Uh (rds_ds dT Tryz.underlying41 net_rds (by kernel_rfl) (by decide) (by kernel_rfl) (fun _ _ _ => trivial)) (by kernel_rfl) (Fj (rds_ds dT Tryz.underlying42 tok_rds (by kernel_rfl) (by decide) (by kernel_rfl) (fun _ _ _ => trivial)) (by kernel_rfl))))))
set_option maxRecDepth 100000 in
theorem cfg_rds : Rds enc Tryz.prog W 24 (Qi (Qc .i64) (Qi (Qc .i64) (Qi (Qc .i64) (Qi (Qc .i64) (eDS Ux))))) (CfgQ W) :=
  Ra (l := [(2, 0), (2, 1), (2, 2), (2, 3), (22, 4)]) (by kernel_rfl) (by kernel_rfl)
    (Uh (Gn Tryz.underlying2) (by kernel_rfl) (Uh (Gn Tryz.underlying2) (by kernel_rfl) (Uh (Gn Tryz.underlying2) (by kernel_rfl) (Uh (Gn Tryz.underlying2) (by kernel_rfl)
      (Fj (rds_ds Cv Tryz.underlying22 ten_rds (by kernel_rfl) (by decide) (by kernel_rfl) (fun _ _ h => ⟨trivial, trivial, trivial, h.2.2.2.1.1, h.2.2.2.2.1⟩)) (by kernel_rfl))))))
set_option maxRecDepth 100000 in
theorem open_cfg {r0 : Reach} {b0 : Nat} {v : Value} {d : DataW H} {p : List MemPlace} (hv : Value.okWide Tryz.prog W r0 b0 24 v) (hd : DataW.Trod enc Tryz.prog W 0 (fun _ => true) true 24 v d p) (hr : ∀ n ∈ d.weights Tryz.prog 24, n ≤ reachBytes) :
    ∃ (a b c e : Int) (A : Option Addr) (k : Nat) (l : List Vo), v = .agg #[.int .i64 a, .int .i64 b, .int .i64 c, .int .i64 e, .slice A (List.length (List.map stT l)) k] ∧ CfgQ W reachBytes (a, b, c, e, A, k, l) := by
  obtain ⟨⟨a, b, c, e, A, k, l⟩, rfl, q⟩ := open_agg Tryz.underlying24 cfg_rds hv hd hr
  refine ⟨a, b, c, e, A, k, l, ?_, q⟩
  rw [List.length_map]
  rfl
theorem cfg_q {W : World} {a b c d : Int} {A : Option Addr} {k : Nat} {x : List Vo} (h : CfgQ W reachBytes (a, b, c, d, A, k, x)) : (List.map stT x).length ≤ 140737488355328 ∧ ∀ t ∈ List.map stT x, TenQ t := by
  have hM := reachM
  obtain ⟨_, _, _, _, _, h1, h2⟩ := h
  refine ⟨by rw [List.length_map]; exact Nat.le_trans h1 hM, fun t ht => ?_⟩
  obtain ⟨y, hy, rfl⟩ := List.mem_map.1 ht
  obtain ⟨q1, q2, q3, ⟨_, q4, q5⟩, _, q6, q7⟩ := h2 y hy
  refine ⟨Nat.le_trans q1 hM, Nat.le_trans q4 hM, Nat.le_trans q6 hM, fun n hn => ?_, fun z hz => ⟨Nat.le_trans (q7 z hz).1 hM, Nat.le_trans (q7 z hz).2.1 hM⟩⟩
  have := (q5 n hn).1
  simp [Lit.wf, IntKind.min, IntKind.max, IntKind.signed, IntKind.bits] at this
  omega
end
end Go.Proofs.YtmgfanhcdfobhaaGreatDoor
namespace Go.Proofs.YtmgfanhcdfobhaaGreatDoor
def OpVW (r : Nat) (o : OpV) : Prop := (Lit.int .i64 o.1).wf = true ∧ o.2.1.length ≤ r ∧ o.2.2.1.length ≤ r ∧ o.2.2.2.1.length ≤ r ∧ o.2.2.2.2.1.length ≤ r ∧ (Lit.int .i64 o.2.2.2.2.2).wf = true
section
variable {H : Type} {enc : TypeId × Value → H} {W : World}
set_option maxRecDepth 100000 in
theorem opv_rds : Rds enc Tryz.prog W 34 (Qi (Qc .i64) (Qi Qy (Qi Qy (Qi Qy (Qi Qy (Qc .i64)))))) OpVW :=
  Ra (l := [(3, 0), (9, 1), (9, 2), (9, 3), (9, 4), (2, 5)]) (by kernel_rfl) (by kernel_rfl)
    (Uh (Gn Tryz.underlying3) (by kernel_rfl) (Uh (D5 Tryz.underlying9) (by kernel_rfl) (Uh (D5 Tryz.underlying9) (by kernel_rfl) (Uh (D5 Tryz.underlying9) (by kernel_rfl)
      (Uh (D5 Tryz.underlying9) (by kernel_rfl) (Fj (Gn Tryz.underlying2) (by kernel_rfl)))))))
theorem opv_q {l : List OpV} (hl : l.length ≤ reachBytes) (h : ∀ o ∈ l, OpVW reachBytes o) : l.length ≤ 140737488355328 ∧ ∀ o ∈ l, OpVQ o := by
  have hM := reachM
  refine ⟨Nat.le_trans hl hM, fun o ho => ?_⟩
  obtain ⟨q1, q2, q3, q4, q5, q6⟩ := h o ho
  exact ⟨Nat.le_trans q2 hM, Nat.le_trans q3 hM, Nat.le_trans q4 hM, Nat.le_trans q5 hM⟩
end
end Go.Proofs.YtmgfanhcdfobhaaGreatDoor
namespace Go.Proofs.YtmgfanhcdfobhaaGreatDoor
open Go.RowKit
abbrev Hr : List (String × DataW Unit) := [("math/bits.deBruijn32tab", Rows.laid_math_bits_deBruijn32tab), ("math/bits.deBruijn64tab", Rows.laid_math_bits_deBruijn64tab), ("internal/strconv.uint64pow10", Rows.laid_internal_strconv_uint64pow10)
  , ("unicode/utf8.acceptRanges", Rows.laid_unicode_utf8_acceptRanges), ("unicode/utf8.first", Rows.laid_unicode_utf8_first)
  ]
theorem gTab : Tryz.prog.globalNamed Db = some 0 := by kernel_rfl
theorem gTabType : (Tryz.prog.globals[0]?).map (·.type) = some 183 := by kernel_rfl
theorem cellsTab : Tryz.prog.cellsOf 183 = 20 := by kernel_rfl
theorem cellsU64 : Tryz.prog.cellsOf 153 = 1 := by kernel_rfl
theorem laid_of {W : World} (h : laidMetH Tryz.prog Hr W) : Bd W := by
  have h1 := h.filter (fun x => x.1 == Db)
  have e : Hr.filter (fun x => x.1 == Db) = [(Db, Lib.tabData .u64 Lib.pow10Tab)] := by kernel_rfl
  rw [e] at h1
  have ht : Lib.TabIs Tryz.prog W Db .u64 Lib.pow10Tab := Lib.tabIs_of_head (rest := []) gTab gTabType Tryz.underlying183 Tryz.underlying153 cellsU64 cellsTab h1
  refine ⟨ht, fun g hg => ?_⟩
  obtain rfl := Option.some.inj (gTab.symm.trans hg)
  have := ht.cell gTab 0 (by decide)
  exact block_lt_of_cell this
def cells1 : DataW Unit → List Value
  | .lit (.int k z) => [.int k z]
  | .lit (.bool b) => [.bool b]
  | _ => []
def cells2 : DataW Unit → List Value
  | .agg l => l.flatMap cells1
  | d => cells1 d
def cells3 : DataW Unit → List Value
  | .agg l => l.flatMap cells2
  | d => cells2 d
def Bm (d : DataW Unit) : Obj → Obj
  | .cells _ t frozen => .cells (cells3 d).toArray t frozen
  | o => o
noncomputable def Cu (os : Os) : World :=
  { World.holding Tryz.prog os ⟨#[], #[], []⟩ with heap := ((((World.holding Tryz.prog os ⟨#[], #[], []⟩).heap.modify 4 (Bm Rows.laid_math_bits_deBruijn32tab)).modify 5 (Bm Rows.laid_math_bits_deBruijn64tab)).modify 0 (Bm Rows.laid_internal_strconv_uint64pow10)
    |>.modify 2 (Bm Rows.laid_unicode_utf8_acceptRanges) |>.modify 1 (Bm Rows.laid_unicode_utf8_first)
    ) }
end Go.Proofs.YtmgfanhcdfobhaaGreatDoor
namespace Go.Proofs.YtmgfanhcdfobhaaGreatDoor
open Go.ChangeShapes Go.WideShapes Go.ChangeAt Go.RowKit
open Go.ChangeMaps (open_string shut_string)
set_option maxRecDepth 100000 in
theorem Di (H : Type) (enc : TypeId × Value → H) (W : World) (base : Nat) (args : Array Value) (ds gs : List (DataW H)) (before : List MemPlace) (vt : List TypeId)
    (hval : ∀ (j : Nat) t v, Tryz.f8.params[j]? = some t → args[j]? = some v → Value.okWide Tryz.prog W .any base t v)
    (hW : DataW.Whole enc Tryz.prog Tryz.f8.params.toList Rows.vaultRevokesSpec.vars false W args.toList ds gs before) (hL : laidMetH Tryz.prog Rows.vaultRevokesRow.laid W)
    (hZ : (DataW.weightsEach Tryz.prog (Tryz.f8.params.toList ++ vt) (ds ++ gs)).all (· ≤ reachBytes) = true) :
    Calls Tryz.prog 8 args W fun e W' => ∃ v, e = .returned v ∧ Rows.vaultRevokesSpec.post enc Tryz.prog Tryz.f8 false true false false W args v W' := by
  have hW' := hW
  obtain ⟨p, q, hA0, hV, rfl, hfz, hnd⟩ := hW
  have hA : DataW.TrodAll enc Tryz.prog W 0 (fun _ => true) true Tryz.f8.params.toList args.toList ds p := hA0
  rw [Tryz.params8] at hA hval hZ
  obtain ⟨v0, vs0, d0, ds0, p0, q0, hargs, rfl, rfl, h0, r0⟩ := trodAll_cons hA
  obtain ⟨v1, vs1, d1, ds1, p1, q1, rfl, rfl, rfl, h1, r1⟩ := trodAll_cons r0
  obtain ⟨rfl, rfl, rfl⟩ := trodAll_nil r1
  obtain rfl : args = #[v0, v1] := by cases args; simp_all
  obtain ⟨rfl, rfl⟩ := trodVars_none hV
  have wz : ∀ (j : Nat) t d, _ → _ → ∀ n ∈ DataW.weights Tryz.prog t d, n ≤ reachBytes := fun j t d ht hd n hn => of_decide_eq_true (List.all_eq_true.1 hZ n (DataW.weights_mem_each (j := j) ht hd n hn))
  have k0 := h0
  have lt0 : ∀ x ∈ p0, x.block < W.heap.size := by obtain ⟨m, hm⟩ := k0; exact DataW.trod_lt m _ _ _ hm
  have k1 := h1
  have lt1 : ∀ x ∈ p1, x.block < W.heap.size := by obtain ⟨m, hm⟩ := k1; exact DataW.trod_lt m _ _ _ hm
  obtain ⟨a0_0, a0_1, a0_2, a0_3, A0_, c0_, l0_, rfl, q0_⟩ := open_cfg (hval 0 24 v0 rfl rfl) h0 (wz 0 24 d0 rfl rfl)
  obtain ⟨A1_, c1_, l1_, rfl, hr1_, hb1_, hq1_⟩ := open_row Tryz.underlying25 opv_rds (by kernel_rfl) (by decide) (hval 1 25 v1 rfl rfl) h1 (wz 1 25 d1 rfl rfl)
  have hl1_ : l1_.length ≤ reachBytes := Nat.le_trans (Nat.le_mul_of_pos_right _ (of_decide_eq_true (by kernel_rfl))) hb1_
  clear hA0
  refine (Ns A0_ c0_ A1_ c1_ a0_0 a0_1 a0_2 a0_3 l0_ l1_ W (laid_of hL) q0_.2.2.2.2.1 hr1_ true (Bl _ _ _ _ _ _ (cfg_q q0_).1 (cfg_q q0_).2 (opv_q hl1_ hq1_).1 (opv_q hl1_ hq1_).2)).mono fun e W' ⟨he, bel0⟩ => ?_
  have bel := SP.keeps bel0
  subst he
  exact ⟨_, rfl, _, _, _, [], _, [], hW', trodAll_mk1 (shut_bool Tryz.underlying4 _), (trodAll_cons_mk (Below.trod laidOut (by kernel_rfl) (of_decide_eq_true (by kernel_rfl)) k0 bel lt0) (trodAll_cons_mk (Below.trod laidOut (by kernel_rfl) (of_decide_eq_true (by kernel_rfl)) k1 bel lt1) trodAll_mk0)), rfl, bel.frame _, fun h => by cases h⟩
theorem Dj (os : Os) : laidMet Tryz.prog Rows.vaultRevokesRow.laid ((Cu os).forCall (fun _ _ => 0) ⟨#[], #[.agg #[.int .i64 0, .int .i64 0, .int .i64 0, .int .i64 0, .slice none 0 0], .slice none 0 0], []⟩).memory :=
  laidMet_of_run' 8 (by kernel_rfl) (by kernel_rfl)
theorem Bn (os : Os) {H : Type} (enc : TypeId × Value → H) : ∃ places, DataW.whole enc Tryz.prog ((Cu os).forCall (fun _ _ => 0) ⟨#[], #[.agg #[.int .i64 0, .int .i64 0, .int .i64 0, .int .i64 0, .slice none 0 0], .slice none 0 0], []⟩).memory Tryz.f8.params.toList Rows.vaultRevokesSpec.vars false [.agg #[.int .i64 0, .int .i64 0, .int .i64 0, .int .i64 0, .slice none 0 0], .slice none 0 0] 8 = some ([.agg [.lit (.int .i64 0), .lit (.int .i64 0), .lit (.int .i64 0), .lit (.int .i64 0), .nil], .nil], [], places) :=
  ⟨[], by kernel_rfl⟩
set_option maxRecDepth 100000 in
theorem D6 (os : Os) (started : os.Started) (H : Type) (enc : TypeId × Value → H) (F : Stop.Interp) :
    ReturnsInHanded {} Tryz.checked os 8 .any ((OpenSpec.ofChange Rows.vaultRevokesSpec).preRow enc Tryz.prog Tryz.f8 Rows.vaultRevokesRow.domain false Rows.vaultRevokesRow.laid) (((OpenSpec.ofChange Rows.vaultRevokesSpec).at F).post enc Tryz.prog Tryz.f8 false true false false) := by
  obtain ⟨places, hx⟩ := Bn os enc
  refine returnsInHanded_of_row (C := Tryz.checked) (s := OpenSpec.ofChange Rows.vaultRevokesSpec) own started (by kernel_rfl) Tryz.func8
    (witness_row_at (enc := enc) (C := Tryz.checked) false (Cu os) #[.agg #[.int .i64 0, .int .i64 0, .int .i64 0, .int .i64 0, .slice none 0 0], .slice none 0 0] rfl (by kernel_rfl) (by kernel_rfl) (by kernel_rfl)
      (OpenSpec.preRow_of_cond 8 hx (by kernel_rfl) (fun k hk => by cases hk) (by kernel_rfl) (Dj os))) ?_
  intro W base args ds gs before hval hW _ _ hZ hL _ _
  exact Di H enc W base args ds gs before _ hval hW hL hZ
theorem By : Rows.VaultRevokesSaid :=
  OpenClaim.holds_of_cond 8 Tryz.f8 rfl rfl rfl rfl rfl rfl rfl ⟨rfl, rfl, rfl, rfl, rfl⟩ rfl rfl rfl rfl rfl (by kernel_rfl) Tryz.func8 (by kernel_rfl)
    (of_decide_eq_true (by kernel_rfl)) (by unfold Func.isWrapper; first | (rw [if_pos (by decide +kernel)]; kernel_rfl) | (rw [if_neg (by decide +kernel)]; exact ⟨rfl, rfl⟩))
    (fun os started H enc _ F => by rw [OpenClaim.pre_eq_preRow]; exact D6 os started H enc F)
theorem R5 (f : FuncId) (fn : Func) (hf : Tryz.pinned.checked.prog.funcNamed Rows.vaultRevokesRow.func = some f) (hfn : Tryz.pinned.checked.prog.funcs[f]? = some fn) :
    false = Tryz.pinned.checked.prog.looks [] ∧ ∀ (j : Nat) t, fn.params[j]? = some t → Tryz.pinned.checked.prog.wantsStandIn t = false := by
  obtain rfl : f = 8 := Option.some.inj ((show Tryz.prog.funcNamed Rows.vaultRevokesRow.func = some 8 by kernel_rfl).symm.trans hf) |>.symm
  obtain rfl : fn = Tryz.f8 := (Option.some.inj (Tryz.func8.symm.trans hfn)).symm
  refine ⟨by kernel_rfl, fun j t ht => ?_⟩
  have ha : (Tryz.f8.params.toList.all fun t => !Tryz.prog.wantsStandIn t) = true := by kernel_rfl
  rw [List.all_eq_true] at ha
  have := ha t (by rw [← Array.getElem?_toList] at ht; exact List.mem_of_getElem? ht)
  have h2 : Tryz.prog.wantsStandIn t = false := by simpa using this
  exact h2
theorem vaultRevokes_card : Rows.VaultRevokesCardSaid :=
  Claim7.holds_tied_plain_at .later [] _ _ _ _ By (fun _ h => by cases h) (by kernel_rfl) (fun _ h => by cases h) vaultRevokes_row_tie rfl ⟨rfl, rfl⟩ (by kernel_rfl) rfl R5 (by kernel_rfl)
#print axioms vaultRevokes_card
end Go.Proofs.YtmgfanhcdfobhaaGreatDoor
