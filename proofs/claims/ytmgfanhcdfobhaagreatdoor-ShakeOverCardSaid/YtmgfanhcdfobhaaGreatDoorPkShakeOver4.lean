import Derived.Test.YtmgfanhcdfobhaaGreatDoorPkShakeOver3
set_option linter.unusedSimpArgs false
set_option linter.unusedVariables false
set_option linter.unusedSectionVars false
namespace Go.Proofs.YtmgfanhcdfobhaaGreatDoor
open Go.RowKit
def J9 (a : Int) (b : Int) (c : Int) (d : Int) (e : (List Qg)) : Option (Option (Int × Int × Int × Int × U1)) :=
  ((J2 a b c d e).bind fun f => (cond (!f) (some none) (some (some (a, b, c, d, ([] : U1))))))
set_option maxRecDepth 100000 in
set_option maxHeartbeats 4000000 in
theorem J6 (A6 : Option Addr) (c7 : Nat) (a : Int) (c : Int) (f : Int) (g : Int) (d9 : (List Vi)) (w0 : World) (hL : Db w0) (y : (dDS Ul Bu).ok w0 (A6, c7, d9)) (r : (Option (Int × Int × Int × Int × U1))) (H : J9 a c f g (List.map stT d9) = some r) :
  Calls Tryz.prog 18 #[(.agg #[(.int .i64 a), (.int .i64 c), (.int .i64 f), (.int .i64 g), (.slice A6 (List.length (List.map stT d9)) c7)])] w0 (fun e w' => match r with | none => e = .returned (.pointer none) ∧ SP [] w0 w' [] | some o => ∃ (q : Nat) (s : Nat), e = .returned (pt q 0) ∧ SP [] w0 w' [Qj q 79 #[(.int .i64 o.1), (.int .i64 o.2.1), (.int .i64 o.2.2.1), (.int .i64 o.2.2.2.1), (.slice A6 (List.length (List.map stT d9)) c7), (.map (some s))], Qz s o.2.2.2.2]) := by
 unfold J9 at H
 refine Qw (n := 10) Tryz.func18 K K K ?_
 have z := Q8 [] w0
 refine aQ ?_
 refine aR ?_
 refine iS 1 ?_
 refine Vz (t := 24) (x := (.tmp 0)) (v := (.agg #[(.int .i64 a), (.int .i64 c), (.int .i64 f), (.int .i64 g), (.slice A6 (List.length (List.map stT d9)) c7)])) (d := (some 1)) (k := 0) K rfl K z ?_
 intro u w32 h
 refine iR 1 2 [(2, (.pointer none))] ?_
 refine iF ?_
 refine aQ ?_
 refine aQ ?_
 refine aR ?_
 refine iS 1 ?_
 refine sL 24 1 u 0 0 (.agg #[(.int .i64 a), (.int .i64 c), (.int .i64 f), (.int .i64 g), (.slice A6 (List.length (List.map stT d9)) c7)]) 3 h rfl ?_
 obtain ⟨i, a0, H⟩ := Qf H
 refine iS 2 ?_
 refine cF 43 #[(.tmp 3)] #[24] 4 Tryz.call43 (Rz A6 c7 a c f g d9 w32 (Z6 hL (SP.keeps h)) (Dp.sp y h) i a0) ?_
 rintro e a3 ⟨rfl, w⟩
 refine ⟨_, rfl, ?_⟩
 have j := SP.call h w
 clear w
 refine iR 1 3 [(5, (.bool (!i)))] ?_
 refine iF ?_
 refine Zu K (o := (.tmp 5)) K (b := (!i)) K (fun l => ?_) (fun l => ?_)
 ·have H := ct H l
  refine aQ ?_
  refine aR ?_
  refine iR 1 1 [(2, (.pointer none))] ?_
  refine iF ?_
  refine At.ret K ?_
  refine ⟨(.pointer none), K, ?_⟩
  obtain rfl := Qi H
  exact ⟨rfl, SP.sel j [] rfl rfl⟩
 ·have H := cf H l
  refine At.skip K ?_
  refine aQ ?_
  refine aR ?_
  refine iS 1 ?_
  refine sL 24 1 u 0 0 (.agg #[(.int .i64 a), (.int .i64 c), (.int .i64 f), (.int .i64 g), (.slice A6 (List.length (List.map stT d9)) c7)]) 6 j rfl ?_
  refine iS 2 ?_
  refine Hb (T := 77) (dst := (some 7)) (o := 1) K rfl j ?_
  intro m a4 a1
  refine iR 1 3 [(8, (.agg #[(.int .i64 a), (.int .i64 c), (.int .i64 f), (.int .i64 g), (.slice A6 (List.length (List.map stT d9)) c7), (.map (some m))]))] ?_
  refine iS 4 ?_
  refine Vz (t := 79) (x := (.tmp 8)) (v := (.agg #[(.int .i64 a), (.int .i64 c), (.int .i64 f), (.int .i64 g), (.slice A6 (List.length (List.map stT d9)) c7), (.map (some m))])) (d := (some 9)) (k := 3) K rfl K a1 ?_
  intro p a5 a2
  refine iR 1 5 [(2, (pt p 0))] ?_
  refine iF ?_
  refine At.ret K ?_
  refine ⟨(pt p 0), K, ?_⟩
  obtain rfl := Qi H
  exact ⟨p, m, rfl, SP.sel a2 [2,1] rfl rfl⟩
def Z5 (a : Bool) : Option (Bool) :=
  (some (a))
def Yo (f : (List UInt8)) (g : (List UInt8)) (c : Int) (q5 : Int) (q6 : Int) (q7 : Int) (q8 : Int) (q9 : (List Qg)) (d : U1) (a : (List UInt8)) (b : (List UInt8)) (e : Int) (h : Bool) : Option (Bool) :=
  ((chk (Nat.ble (List.length a) 140737488355328 && Nat.ble (List.length b) 140737488355328)).bind fun _ => (cond ((Fc d (a, b)) == 0) (Z5 (decide (e < c))) (Z5 false)))
set_option maxRecDepth 100000 in
set_option maxHeartbeats 4000000 in
theorem Ns {S : List Nat} (g4 : Nat) (a3 : Option Addr) (a4 : Nat) (f : Nat) (q : Nat) (s : Nat) (u : Nat) (a0 : Nat) (z : Nat) (a5 : (List UInt8)) (a6 : (List UInt8)) (j : Int) (q5 : Int) (q6 : Int) (q7 : Int) (q8 : Int) (a1 : (List Vi)) (c : U1) (a : (List UInt8)) (b : (List UInt8)) (h : Int) (a7 : Bool) (w0 : World) (hO : SP S w0 w0 [Qj g4 79 #[(.int .i64 q5), (.int .i64 q6), (.int .i64 q7), (.int .i64 q8), (.slice a3 (List.length (List.map stT a1)) a4), (.map (some f))], Qz f c, Qj q 29 #[(pt g4 0)], Qj s 9 #[(.string ⟨List.toArray a⟩)], Qj u 9 #[(.string ⟨List.toArray b⟩)], Qj a0 2 #[(.int .i64 h)], Qj z 4 #[(.bool a7)]]) (d5 : ∀ w, Mod S w0 w → (dDS Ul Bu).ok w (a3, a4, a1)) (r : (Bool)) (H : Yo a5 a6 j q5 q6 q7 q8 (List.map stT a1) c a b h a7 = some r) :
  Calls Tryz.prog 49 #[(.agg #[(.string ⟨List.toArray a5⟩), (.string ⟨List.toArray a6⟩), (.int .i64 j)]), (pt q 0), (pt s 0), (pt u 0), (pt a0 0), (pt z 0)] w0 (fun e w' => e = .returned (.tuple #[]) ∧ SP S w0 w' [Qj g4 79 #[(.int .i64 q5), (.int .i64 q6), (.int .i64 q7), (.int .i64 q8), (.slice a3 (List.length (List.map stT a1)) a4), (.map (some f))], Qz f c, Qj q 29 #[(pt g4 0)], Qj s 9 #[(.string ⟨List.toArray a⟩)], Qj u 9 #[(.string ⟨List.toArray b⟩)], Qj a0 2 #[(.int .i64 h)], Qj z 4 #[(.bool r)]]) := by
 unfold Yo at H
 refine Qw (n := 22) Tryz.func49 K K K ?_
 have b4 := hO
 refine aQ ?_
 refine aR ?_
 refine iS 1 ?_
 refine Vz (t := 48) (x := (.tmp 0)) (v := (.agg #[(.string ⟨List.toArray a5⟩), (.string ⟨List.toArray a6⟩), (.int .i64 j)])) (d := (some 6)) (k := 0) K rfl K b4 ?_
 intro a2 d6 b1
 refine iF ?_
 refine At.join (fun ρ w => ∃ (a9 : Bool), Zo ρ [] ∧ SP S w0 w [Qj g4 79 #[(.int .i64 q5), (.int .i64 q6), (.int .i64 q7), (.int .i64 q8), (.slice a3 (List.length (List.map stT a1)) a4), (.map (some f))], Qz f c, Qj q 29 #[(pt g4 0)], Qj s 9 #[(.string ⟨List.toArray a⟩)], Qj u 9 #[(.string ⟨List.toArray b⟩)], Qj a0 2 #[(.int .i64 h)], Qj z 4 #[(.bool a9)]] ∧ Z5 a9 = some r) ?_ ?_
 ·obtain ⟨a8, H⟩ := Z0 H
  rcases Bool.eq_false_or_eq_true ((Fc c (a, b)) == 0) with p | p
  ·have H := ct H p
   refine aG [GEq (pt g4 0), GEq (pt g4 0), GEq (pt g4 5), GEq (.map (some f)), GEq (.string ⟨List.toArray a⟩), GEq (.string ⟨List.toArray b⟩), GEq (.agg (Qc Q5 ([a, b] : List (List UInt8))).toArray), GEq (.int .i64 (Fc c (a, b))), GEq (.bool ((Fc c (a, b)) == 0)), GEq (.bool ((Fc c (a, b)) == 0)), GEq (.int .i64 h), GEq (pt a2 2), GEq (.int .i64 j), GEq (.bool (decide (h < j))), GEq (.bool (decide (h < j))), Ck] [15] [sG [] [] S w0 [Qj g4 79 #[(.int .i64 q5), (.int .i64 q6), (.int .i64 q7), (.int .i64 q8), (.slice a3 (List.length (List.map stT a1)) a4), (.map (some f))], Qz f c, Qj q 29 #[(pt g4 0)], Qj s 9 #[(.string ⟨List.toArray a⟩)], Qj u 9 #[(.string ⟨List.toArray b⟩)], Qj a0 2 #[(.int .i64 h)], Qj z 4 #[(.bool a7)], Qj a2 48 #[(.string ⟨List.toArray a5⟩), (.string ⟨List.toArray a6⟩), (.int .i64 j)]], sG [15] [undef] S w0 [Qj g4 79 #[(.int .i64 q5), (.int .i64 q6), (.int .i64 q7), (.int .i64 q8), (.slice a3 (List.length (List.map stT a1)) a4), (.map (some f))], Qz f c, Qj q 29 #[(pt g4 0)], Qj s 9 #[(.string ⟨List.toArray a⟩)], Qj u 9 #[(.string ⟨List.toArray b⟩)], Qj a0 2 #[(.int .i64 h)], Qj z 4 #[(.bool (decide (h < j)))], Qj a2 48 #[(.string ⟨List.toArray a5⟩), (.string ⟨List.toArray a6⟩), (.int .i64 j)]]] 16 1 ⟨trivial, SP.drew b1⟩ ?_ ?_
   iterate 16 refine And.intro ?_ ?_
   exact trivial
   ·refine oL 0 ?_
    ·rintro ρ' w' hs hah ⟨d7, b5⟩
     refine kM (kc (kS hs 1 (pt q 0)) k0) fun hkn => ?_
     refine sL 29 1 q 0 2 (pt g4 0) 7 b5 rfl ?_
     exact eK hkn
   ·exact oV (hC (hA 0 7) (h0)) (pt g4 0)
   ·exact oV (hC (hA 1 8) (h0)) (pt g4 5)
   ·refine oL 0 ?_
    ·rintro ρ' w' hs hah ⟨d8, b6⟩
     refine kM (kc (kA hah 2 9) k0) fun hkn => ?_
     refine sL 77 9 g4 5 0 (.map (some f)) 10 b6 rfl ?_
     exact eK hkn
   ·refine oL 0 ?_
    ·rintro ρ' w' hs hah ⟨d9, b7⟩
     refine kM (kc (kS hs 2 (pt s 0)) k0) fun hkn => ?_
     refine sL 9 2 s 0 3 (.string ⟨List.toArray a⟩) 11 b7 rfl ?_
     exact eK hkn
   ·refine oL 0 ?_
    ·rintro ρ' w' hs hah ⟨e0, b8⟩
     refine kM (kc (kS hs 3 (pt u 0)) k0) fun hkn => ?_
     refine sL 9 3 u 0 4 (.string ⟨List.toArray b⟩) 12 b8 rfl ?_
     exact eK hkn
   ·exact oV (hC (hA 4 11) (hC (hA 5 12) (h0))) (.agg (Qc Q5 ([a, b] : List (List UInt8))).toArray)
   ·refine oL 0 ?_
    ·rintro ρ' w' hs hah ⟨e1, b9⟩
     refine kM (kc (kA hah 3 10) (kc (kA hah 6 13) k0)) fun hkn => ?_
     refine Ct (T := 77) (kt := 83) (et := 3) (m := f) (L := c) (k := (a, b)) (x := (.tmp 10)) (ix := (.tmp 13)) (dst := (some 14)) (o := 7) K rfl K K K Hr (fun _ => rfl) (SP.get b9 (i := 1) rfl) (chk2 a8).1 (chk2 a8).2 ?_
     exact eK hkn
   ·exact oV (hC (hA 7 14) (h0)) (.bool ((Fc c (a, b)) == 0))
   ·exact oV (hC (hA 8 15) (h0)) (.bool ((Fc c (a, b)) == 0))
   ·refine oL 0 ?_
    ·rintro ρ' w' hs hah ⟨e2, c0⟩
     have e4 : ρ' 4 = (pt a0 0) := (hs 4 K).trans K
     have b0 := hah 9 16 K
     refine kN [(4, (pt a0 0)), (16, (.bool true))] ⟨e4, (Eq.trans b0 (congrArg Value.bool p)), trivial⟩ fun hkn => ?_
     refine sL 2 4 a0 0 5 (.int .i64 h) 17 c0 rfl ?_
     exact eK hkn
   ·exact oV (hC (hS 6 (pt a2 0)) (hC (hB 9 16 p) (h0))) (pt a2 2)
   ·refine oL 0 ?_
    ·rintro ρ' w' hs hah ⟨e3, c1⟩
     have c2 := hah 11 18 K
     have b0 := hah 9 16 K
     refine kN [(18, (pt a2 2)), (16, (.bool true))] ⟨c2, (Eq.trans b0 (congrArg Value.bool p)), trivial⟩ fun hkn => ?_
     refine sL 2 18 a2 2 7 (.int .i64 j) 19 c1 rfl ?_
     exact eK hkn
   ·exact oV (hC (hA 10 17) (hC (hA 12 19) (hC (hB 9 16 p) (h0)))) (.bool (decide (h < j)))
   ·exact oV (hC (hB 9 16 p) (hC (hA 13 20) (h0))) (.bool (decide (h < j)))
   ·refine oH 0 1 ?_
    ·rintro ρ' w' hs hah ⟨e5, c3⟩
     refine kM (kc (kS hs 5 (pt z 0)) (kc (kA hah 14 21) k0)) fun hkn => ?_
     refine Qn.store (t := 4) (x := (.tmp 5)) (y := (.tmp 21)) (g := z) (off := 0) (i := 6) (v := (.bool (decide (h < j)))) (cs' := #[(.bool (decide (h < j)))]) (d := none) (k := 15) K rfl K K c3 rfl K ?_
     intro e6 c4
     refine ⟨_, Qa hkn, trivial, ?_⟩
     exact (And.intro (And.intro rfl (trivial)) (c4))
   ·rintro ρ' w' hs hf ⟨⟨e7, -⟩, b2⟩
    refine Q1 [] trivial ?_
    obtain ⟨e8, c5⟩ : ∃ x, w' = x := ⟨_, rfl⟩
    rw [c5] at b2 ⊢
    exact ⟨(decide (h < j)), trivial, SP.sel b2 [0, 1, 2, 3, 4, 5, 6] rfl rfl, H⟩
  ·have H := cf H p
   refine aG [GEq (pt g4 0), GEq (pt g4 0), GEq (pt g4 5), GEq (.map (some f)), GEq (.string ⟨List.toArray a⟩), GEq (.string ⟨List.toArray b⟩), GEq (.agg (Qc Q5 ([a, b] : List (List UInt8))).toArray), GEq (.int .i64 (Fc c (a, b))), GEq (.bool ((Fc c (a, b)) == 0)), GEq (.bool ((Fc c (a, b)) == 0)), GEq undef, GEq undef, GEq undef, GEq undef, GEq (.bool false), Ck] [15] [sG [] [] S w0 [Qj g4 79 #[(.int .i64 q5), (.int .i64 q6), (.int .i64 q7), (.int .i64 q8), (.slice a3 (List.length (List.map stT a1)) a4), (.map (some f))], Qz f c, Qj q 29 #[(pt g4 0)], Qj s 9 #[(.string ⟨List.toArray a⟩)], Qj u 9 #[(.string ⟨List.toArray b⟩)], Qj a0 2 #[(.int .i64 h)], Qj z 4 #[(.bool a7)], Qj a2 48 #[(.string ⟨List.toArray a5⟩), (.string ⟨List.toArray a6⟩), (.int .i64 j)]], sG [15] [undef] S w0 [Qj g4 79 #[(.int .i64 q5), (.int .i64 q6), (.int .i64 q7), (.int .i64 q8), (.slice a3 (List.length (List.map stT a1)) a4), (.map (some f))], Qz f c, Qj q 29 #[(pt g4 0)], Qj s 9 #[(.string ⟨List.toArray a⟩)], Qj u 9 #[(.string ⟨List.toArray b⟩)], Qj a0 2 #[(.int .i64 h)], Qj z 4 #[(.bool false)], Qj a2 48 #[(.string ⟨List.toArray a5⟩), (.string ⟨List.toArray a6⟩), (.int .i64 j)]]] 16 1 ⟨trivial, SP.drew b1⟩ ?_ ?_
   iterate 16 refine And.intro ?_ ?_
   exact trivial
   ·refine oL 0 ?_
    ·rintro ρ' w' hs hah ⟨e9, c6⟩
     refine kM (kc (kS hs 1 (pt q 0)) k0) fun hkn => ?_
     refine sL 29 1 q 0 2 (pt g4 0) 7 c6 rfl ?_
     exact eK hkn
   ·exact oV (hC (hA 0 7) (h0)) (pt g4 0)
   ·exact oV (hC (hA 1 8) (h0)) (pt g4 5)
   ·refine oL 0 ?_
    ·rintro ρ' w' hs hah ⟨f0, c7⟩
     refine kM (kc (kA hah 2 9) k0) fun hkn => ?_
     refine sL 77 9 g4 5 0 (.map (some f)) 10 c7 rfl ?_
     exact eK hkn
   ·refine oL 0 ?_
    ·rintro ρ' w' hs hah ⟨f1, c8⟩
     refine kM (kc (kS hs 2 (pt s 0)) k0) fun hkn => ?_
     refine sL 9 2 s 0 3 (.string ⟨List.toArray a⟩) 11 c8 rfl ?_
     exact eK hkn
   ·refine oL 0 ?_
    ·rintro ρ' w' hs hah ⟨f2, c9⟩
     refine kM (kc (kS hs 3 (pt u 0)) k0) fun hkn => ?_
     refine sL 9 3 u 0 4 (.string ⟨List.toArray b⟩) 12 c9 rfl ?_
     exact eK hkn
   ·exact oV (hC (hA 4 11) (hC (hA 5 12) (h0))) (.agg (Qc Q5 ([a, b] : List (List UInt8))).toArray)
   ·refine oL 0 ?_
    ·rintro ρ' w' hs hah ⟨f3, d0⟩
     refine kM (kc (kA hah 3 10) (kc (kA hah 6 13) k0)) fun hkn => ?_
     refine Ct (T := 77) (kt := 83) (et := 3) (m := f) (L := c) (k := (a, b)) (x := (.tmp 10)) (ix := (.tmp 13)) (dst := (some 14)) (o := 7) K rfl K K K Hr (fun _ => rfl) (SP.get d0 (i := 1) rfl) (chk2 a8).1 (chk2 a8).2 ?_
     exact eK hkn
   ·exact oV (hC (hA 7 14) (h0)) (.bool ((Fc c (a, b)) == 0))
   ·exact oV (hC (hA 8 15) (h0)) (.bool ((Fc c (a, b)) == 0))
   ·exact oW (hC (hB 9 16 p) (h0)) 17
   ·exact oW (hC (hB 9 16 p) (h0)) 18
   ·exact oW (hC (hB 9 16 p) (h0)) 19
   ·exact oW (hC (hB 9 16 p) (h0)) 20
   ·exact oV (hC (hB 9 16 p) (hC (hA 13 20) (h0))) (.bool false)
   ·refine oH 0 1 ?_
    ·rintro ρ' w' hs hah ⟨f4, d1⟩
     refine kM (kc (kS hs 5 (pt z 0)) (kc (kA hah 14 21) k0)) fun hkn => ?_
     refine Qn.store (t := 4) (x := (.tmp 5)) (y := (.tmp 21)) (g := z) (off := 0) (i := 6) (v := (.bool false)) (cs' := #[(.bool false)]) (d := none) (k := 15) K rfl K K d1 rfl K ?_
     intro f5 d2
     refine ⟨_, Qa hkn, trivial, ?_⟩
     exact (And.intro (And.intro rfl (trivial)) (d2))
   ·rintro ρ' w' hs hf ⟨⟨f6, -⟩, b3⟩
    refine Q1 [] trivial ?_
    obtain ⟨f7, d3⟩ : ∃ x, w' = x := ⟨_, rfl⟩
    rw [d3] at b3 ⊢
    exact ⟨false, trivial, SP.sel b3 [0, 1, 2, 3, 4, 5, 6] rfl rfl, H⟩
 ·rintro ρ f8 ⟨a9, hk, d4, H⟩
  unfold Z5 at H
  first | refine At.known [] hk ?_ | rw [← Vd (l := []) hk]
  refine ⟨(.tuple #[]), K, ?_⟩
  obtain rfl := Qi H
  exact ⟨rfl, SP.sel d4 [0,1,2,3,4,5,6] rfl rfl⟩
def Yp (c : (List UInt8)) (a : (List UInt8)) (d : Int) (q5 : (List UInt8)) (q7 : (List UInt8)) (q9 : (List UInt8)) (e : (List UInt8)) : Option ((List UInt8)) :=
  ((chk (Nat.ble (List.length a) 281474976710656)).bind fun _ => ((Gm a ([q5, q7, q9] : List (List UInt8))).bind fun b => (some (b))))
set_option maxRecDepth 100000 in
set_option maxHeartbeats 4000000 in
theorem Nt {S : List Nat} (g4 : Nat) (g6 : Nat) (g8 : Nat) (b : Nat) (c : (List UInt8)) (a : (List UInt8)) (f : Int) (q5 : (List UInt8)) (q7 : (List UInt8)) (q9 : (List UInt8)) (j : (List UInt8)) (w0 : World) (hO : SP S w0 w0 [Qj g4 9 #[(.string ⟨List.toArray q5⟩)], Qj g6 9 #[(.string ⟨List.toArray q7⟩)], Qj g8 9 #[(.string ⟨List.toArray q9⟩)], Qj b 9 #[(.string ⟨List.toArray j⟩)]])  (r : ((List UInt8))) (H : Yp c a f q5 q7 q9 j = some r) :
  Calls Tryz.prog 50 #[(.agg #[(.string ⟨List.toArray c⟩), (.string ⟨List.toArray a⟩), (.int .i64 f)]), (pt g4 0), (pt g6 0), (pt g8 0), (pt b 0)] w0 (fun e w' => e = .returned (.tuple #[]) ∧ SP S w0 w' [Qj g4 9 #[(.string ⟨List.toArray q5⟩)], Qj g6 9 #[(.string ⟨List.toArray q7⟩)], Qj g8 9 #[(.string ⟨List.toArray q9⟩)], Qj b 9 #[(.string ⟨List.toArray r⟩)]]) := by
 unfold Yp at H
 refine Qw (n := 14) Tryz.func50 K K K ?_
 have a0 := hO
 refine aQ ?_
 refine aR ?_
 refine iS 1 ?_
 refine Vz (t := 48) (x := (.tmp 0)) (v := (.agg #[(.string ⟨List.toArray c⟩), (.string ⟨List.toArray a⟩), (.int .i64 f)])) (d := (some 5)) (k := 0) K rfl K a0 ?_
 intro m a8 q
 refine iF ?_
 refine aR ?_
 refine iR 1 1 [(6, (pt m 1))] ?_
 refine iS 2 ?_
 refine sL 9 6 m 1 4 (.string ⟨List.toArray a⟩) 7 q rfl ?_
 obtain ⟨a1, H⟩ := Z0 H
 refine iS 3 ?_
 refine G0 (S' := 9) (T := 52) (E := 5) (x := (.tmp 7)) (l := a) (d := (some 8)) (k := 2) K rfl K K K K (G1 a1) q ?_
 intro s u a2 w _
 have h : SP S w0 a2 [Qj g4 9 #[(.string ⟨List.toArray q5⟩)], Qj g6 9 #[(.string ⟨List.toArray q7⟩)], Qj g8 9 #[(.string ⟨List.toArray q9⟩)], Qj b 9 #[(.string ⟨List.toArray j⟩)], Qj m 48 #[(.string ⟨List.toArray c⟩), (.string ⟨List.toArray a⟩), (.int .i64 f)], rdE eU8 (some ⟨s, 0, none⟩) u a] := w
 clear w
 refine iS 4 ?_
 refine sL 9 1 g4 0 0 (.string ⟨List.toArray q5⟩) 9 h rfl ?_
 refine iS 5 ?_
 refine sL 9 2 g6 0 1 (.string ⟨List.toArray q7⟩) 10 h rfl ?_
 refine iS 6 ?_
 refine sL 9 3 g8 0 2 (.string ⟨List.toArray q9⟩) 11 h rfl ?_
 refine iS 7 ?_
 refine Jm (e := Q5) (T := 53) (E := 9) (len := 3) (parts := #[(0, (.tmp 9)), (1, (.tmp 10)), (2, (.tmp 11))]) (cs := #[(.string ⟨List.toArray q5⟩), (.string ⟨List.toArray q7⟩), (.string ⟨List.toArray q9⟩)]) ([q5, q7, q9] : List (List UInt8)) (d := (some 12)) (k := 6) K rfl (fun _ => K) h rfl rfl rfl rfl ?_
 intro a3 a4 o
 obtain ⟨p, a5, H⟩ := Qf H
 refine iS 8 ?_
 refine cF 51 #[(.tmp 8), (.tmp 12)] #[52, 53] 13 Tryz.call51 (Bc (some ⟨s, 0, none⟩) u (some ⟨a3, 0, none⟩) (List.length ([q5, q7, q9] : List (List UInt8))) a ([q5, q7, q9] : List (List UInt8)) a4 (rdE_rd (SP.get o (i := 5) rfl)) (Zd (SP.get o (i := 6) rfl)) p a5) ?_
 rintro e a9 ⟨rfl, z⟩
 refine ⟨_, rfl, ?_⟩
 have a6 := SP.call o z
 clear z
 refine iS 9 ?_
 refine Qn.store (t := 9) (x := (.tmp 4)) (y := (.tmp 13)) (g := b) (off := 0) (i := 3) (v := (.string ⟨List.toArray p⟩)) (cs' := #[(.string ⟨List.toArray p⟩)]) (d := none) (k := 8) K rfl K K a6 rfl K ?_
 intro b0 a7
 refine iF ?_
 refine ⟨(.tuple #[]), K, ?_⟩
 obtain rfl := Qi H
 exact ⟨rfl, SP.sel a7 [0,1,2,3] rfl rfl⟩
def Vt (a : Bool) : Option (Bool) :=
  (some (a))
def Zf (q2 : Int) (q3 : Int) (q4 : Int) (q5 : Int) (q6 : (List Qg)) (d : U1) (e : (List UInt8)) (f : (List UInt8)) (g : (List UInt8)) (h : (List UInt8)) (i : Int) (c : Bool) : Option (Bool) :=
  ((Jp q2 q3 q4 q5 q6 e).bind fun a => ((Ja a.1 a.2.1 a.2.2.1 a.2.2.2.1 a.2.2.2.2.1 f).bind fun b => (cond b.2.2.2 ((Yo b.1 b.2.1 b.2.2.1 q2 q3 q4 q5 q6 d g h i c).bind fun j => (Vt j)) (Vt c))))
set_option maxRecDepth 100000 in
set_option maxHeartbeats 4000000 in
theorem Ju {S : List Nat} (g1 : Nat) (A7 : Option Addr) (c8 : Nat) (h : Nat) (m : Nat) (p : Nat) (q : Nat) (s : Nat) (u : Nat) (q2 : Int) (q3 : Int) (q4 : Int) (q5 : Int) (j : (List Vi)) (a4 : U1) (a9 : (List UInt8)) (b0 : (List UInt8)) (a5 : (List UInt8)) (a6 : (List UInt8)) (a7 : Int) (b1 : Bool) (w0 : World) (hO : SP S w0 w0 [Qj g1 79 #[(.int .i64 q2), (.int .i64 q3), (.int .i64 q4), (.int .i64 q5), (.slice A7 (List.length (List.map stT j)) c8), (.map (some h))], Qz h a4, Qj m 29 #[(pt g1 0)], Qj p 9 #[(.string ⟨List.toArray a5⟩)], Qj q 9 #[(.string ⟨List.toArray a6⟩)], Qj s 2 #[(.int .i64 a7)], Qj u 4 #[(.bool b1)]]) (c0 : ∀ w, Mod S w0 w → (dDS Ul Bu).ok w (A7, c8, j)) (r : (Bool)) (H : Zf q2 q3 q4 q5 (List.map stT j) a4 a9 b0 a5 a6 a7 b1 = some r) :
  Calls Tryz.prog 45 #[(pt g1 0), (.string ⟨List.toArray a9⟩), (.string ⟨List.toArray b0⟩), (.func (.func 49) #[] #[(pt m 0), (pt p 0), (pt q 0), (pt s 0), (pt u 0)])] w0 (fun e w' => e = .returned (.tuple #[]) ∧ SP S w0 w' [Qj g1 79 #[(.int .i64 q2), (.int .i64 q3), (.int .i64 q4), (.int .i64 q5), (.slice A7 (List.length (List.map stT j)) c8), (.map (some h))], Qz h a4, Qj m 29 #[(pt g1 0)], Qj p 9 #[(.string ⟨List.toArray a5⟩)], Qj q 9 #[(.string ⟨List.toArray a6⟩)], Qj s 2 #[(.int .i64 a7)], Qj u 4 #[(.bool r)]]) := by
 unfold Zf at H
 refine Qw (n := 31) Tryz.func45 K K K ?_
 have b3 := hO
 refine aQ ?_
 refine aR ?_
 refine iR 3 3 [(13, (pt g1 0)), (14, (pt g1 0)), (15, (pt g1 0))] ?_
 refine iS 4 ?_
 refine sL 24 15 g1 0 0 (.agg #[(.int .i64 q2), (.int .i64 q3), (.int .i64 q4), (.int .i64 q5), (.slice A7 (List.length (List.map stT j)) c8)]) 16 b3 rfl ?_
 refine iR 1 5 [(17, (.string ⟨List.toArray a9⟩))] ?_
 obtain ⟨a, c4, H⟩ := Qf H
 refine iS 6 ?_
 refine cF 67 #[(.tmp 16), (.tmp 17)] #[24, 9] 18 Tryz.call67 (Nq (R := fun w => Mod S w0 w) A7 c8 q2 q3 q4 q5 j a9 w0 (fun w hb => Hk b3 hb) c0 a c4) ?_
 rintro e d8 ⟨a0, a1, a2, a3, rfl, c5, c6, c1⟩
 refine ⟨_, rfl, ?_⟩
 have c7 := SP.call b3 c1
 clear c1
 refine iR 3 9 [(12, (.tuple #[(.agg #[(.string ⟨List.toArray a.1⟩), (.int .i64 a.2.1), (.int .i64 a.2.2.1), (.slice a0 (List.length a.2.2.2.1) a1), (.slice a2 (List.length a.2.2.2.2.1) a3)]), (.bool a.2.2.2.2.2)])), (19, (.agg #[(.string ⟨List.toArray a.1⟩), (.int .i64 a.2.1), (.int .i64 a.2.2.1), (.slice a0 (List.length a.2.2.2.1) a1), (.slice a2 (List.length a.2.2.2.2.1) a3)])), (20, (.bool a.2.2.2.2.2))] ?_
 refine iS 10 ?_
 refine Qn.alloc (t := 44) (z := (.agg #[(.string ⟨List.toArray ([] : List UInt8)⟩), (.int .i64 0), (.int .i64 0), (.slice none (List.length ([] : List (Int × Int))) 0), (.slice none (List.length ([] : List ((List UInt8) × (List UInt8) × Int))) 0)])) (d := (some 8)) (k := 9) K rfl K c7 ?_
 intro b4 d9 c9
 refine iS 11 ?_
 refine Qn.store (t := 44) (x := (.tmp 8)) (y := (.tmp 19)) (g := b4) (off := 0) (i := 7) (v := (.agg #[(.string ⟨List.toArray a.1⟩), (.int .i64 a.2.1), (.int .i64 a.2.2.1), (.slice a0 (List.length a.2.2.2.1) a1), (.slice a2 (List.length a.2.2.2.2.1) a3)])) (cs' := #[(.string ⟨List.toArray a.1⟩), (.int .i64 a.2.1), (.int .i64 a.2.2.1), (.slice a0 (List.length a.2.2.2.1) a1), (.slice a2 (List.length a.2.2.2.2.1) a3)]) (d := none) (k := 10) K rfl K K c9 rfl K ?_
 intro b5 b2
 refine iR 1 12 [(9, (.bool a.2.2.2.2.2))] ?_
 refine iF ?_
 refine aQ ?_
 refine aR ?_
 refine iS 1 ?_
 refine sL 44 8 b4 0 7 (.agg #[(.string ⟨List.toArray a.1⟩), (.int .i64 a.2.1), (.int .i64 a.2.2.1), (.slice a0 (List.length a.2.2.2.1) a1), (.slice a2 (List.length a.2.2.2.2.1) a3)]) 22 b2 rfl ?_
 refine iR 1 2 [(23, (.string ⟨List.toArray b0⟩))] ?_
 obtain ⟨c, d0, H⟩ := Qf H
 refine iS 3 ?_
 refine cF 68 #[(.tmp 22), (.tmp 23)] #[44, 9] 24 Tryz.call68 (Nk a0 a1 a2 a3 a.1 a.2.1 a.2.2.1 a.2.2.2.1 a.2.2.2.2.1 b0 b5 (c5 b5 (SP.mod b2)) (c6 b5 (SP.mod b2)) c d0) ?_
 rintro e e0 ⟨rfl, c2⟩
 refine ⟨_, rfl, ?_⟩
 have d1 := SP.call b2 c2
 clear c2
 refine iR 3 6 [(21, (.tuple #[(.agg #[(.string ⟨List.toArray c.1⟩), (.string ⟨List.toArray c.2.1⟩), (.int .i64 c.2.2.1)]), (.bool c.2.2.2)])), (25, (.agg #[(.string ⟨List.toArray c.1⟩), (.string ⟨List.toArray c.2.1⟩), (.int .i64 c.2.2.1)])), (26, (.bool c.2.2.2))] ?_
 refine iS 7 ?_
 refine Qn.alloc (t := 48) (z := (.agg #[(.string ⟨List.toArray ([] : List UInt8)⟩), (.string ⟨List.toArray ([] : List UInt8)⟩), (.int .i64 0)])) (d := (some 10)) (k := 6) K rfl K d1 ?_
 intro b6 e1 d2
 refine iS 8 ?_
 refine Qn.store (t := 48) (x := (.tmp 10)) (y := (.tmp 25)) (g := b6) (off := 0) (i := 8) (v := (.agg #[(.string ⟨List.toArray c.1⟩), (.string ⟨List.toArray c.2.1⟩), (.int .i64 c.2.2.1)])) (cs' := #[(.string ⟨List.toArray c.1⟩), (.string ⟨List.toArray c.2.1⟩), (.int .i64 c.2.2.1)]) (d := none) (k := 7) K rfl K K d2 rfl K ?_
 intro d3 a8
 refine iR 1 9 [(11, (.bool c.2.2.2))] ?_
 refine iF ?_
 refine aQ ?_
 refine aR ?_
 refine iR 1 1 [(27, (.bool c.2.2.2))] ?_
 refine iF ?_
 refine At.join (fun ρ w => ∃ (b7 : Bool), Zo ρ [] ∧ SP S w0 w [Qj g1 79 #[(.int .i64 q2), (.int .i64 q3), (.int .i64 q4), (.int .i64 q5), (.slice A7 (List.length (List.map stT j)) c8), (.map (some h))], Qz h a4, Qj m 29 #[(pt g1 0)], Qj p 9 #[(.string ⟨List.toArray a5⟩)], Qj q 9 #[(.string ⟨List.toArray a6⟩)], Qj s 2 #[(.int .i64 a7)], Qj u 4 #[(.bool b7)]] ∧ Vt b7 = some r) ?_ ?_
 ·refine Zu K (o := (.tmp 27)) K (b := c.2.2.2) K (fun b8 => ?_) (fun b8 => ?_)
  ·have H := ct H b8
   refine aR ?_
   refine iR 1 1 [(28, (.func (.func 49) #[] #[(pt m 0), (pt p 0), (pt q 0), (pt s 0), (pt u 0)]))] ?_
   refine iS 2 ?_
   refine sL 48 10 b6 0 8 (.agg #[(.string ⟨List.toArray c.1⟩), (.string ⟨List.toArray c.2.1⟩), (.int .i64 c.2.2.1)]) 29 a8 rfl ?_
   obtain ⟨b9, d4, H⟩ := Qf H
   refine iS 3 ?_
   refine Xf (f := 49) (fo := (.tmp 28)) (xs := #[(.tmp 29)]) (tys := #[48]) (first := #[]) (captured := #[(pt m 0), (pt p 0), (pt q 0), (pt s 0), (pt u 0)]) (d := (some 30)) (k := 2) K rfl K K Tryz.call49 (Ns g1 A7 c8 h m p q s u c.1 c.2.1 c.2.2.1 q2 q3 q4 q5 j a4 a5 a6 a7 b1 d3 (Ze a8 [0, 1, 2, 3, 4, 5, 6] rfl rfl) (fun w hm => c0 w (SP.through a8 (l := [0, 1, 2, 3, 4, 5, 6]) rfl hm)) b9 d4) ?_
   rintro e d5 ⟨rfl, c3⟩
   refine ⟨_, rfl, ?_⟩
   have d6 : SP S w0 d5 [Qj b4 44 #[(.string ⟨List.toArray a.1⟩), (.int .i64 a.2.1), (.int .i64 a.2.2.1), (.slice a0 (List.length a.2.2.2.1) a1), (.slice a2 (List.length a.2.2.2.2.1) a3)], Qj b6 48 #[(.string ⟨List.toArray c.1⟩), (.string ⟨List.toArray c.2.1⟩), (.int .i64 c.2.2.1)], Qj g1 79 #[(.int .i64 q2), (.int .i64 q3), (.int .i64 q4), (.int .i64 q5), (.slice A7 (List.length (List.map stT j)) c8), (.map (some h))], Qz h a4, Qj m 29 #[(pt g1 0)], Qj p 9 #[(.string ⟨List.toArray a5⟩)], Qj q 9 #[(.string ⟨List.toArray a6⟩)], Qj s 2 #[(.int .i64 a7)], Qj u 4 #[(.bool b9)]] := Va a8 [0, 1, 2, 3, 4, 5, 6] [7, 8] rfl rfl c3 rfl
   clear c3
   refine iF ?_
   exact ⟨b9, trivial, SP.sel d6 [2, 3, 4, 5, 6, 7, 8] rfl rfl, H⟩
  ·have H := cf H b8
   refine At.skip K ?_
   exact ⟨b1, trivial, SP.sel a8 [0, 1, 2, 3, 4, 5, 6] rfl rfl, H⟩
 ·rintro ρ e2 ⟨b7, hk, d7, H⟩
  unfold Vt at H
  first | refine At.known [] hk ?_ | rw [← Vd (l := []) hk]
  refine ⟨(.tuple #[]), K, ?_⟩
  obtain rfl := Qi H
  exact ⟨rfl, SP.sel d7 [0,1,2,3,4,5,6] rfl rfl⟩
def Vu (a : (List UInt8)) : Option ((List UInt8)) :=
  (some (a))
def Zg (q2 : Int) (q3 : Int) (q4 : Int) (q5 : Int) (q6 : (List Qg)) (j : U1) (d : (List UInt8)) (e : (List UInt8)) (f : (List UInt8)) (g : (List UInt8)) (h : (List UInt8)) (c : (List UInt8)) : Option ((List UInt8)) :=
  ((Jp q2 q3 q4 q5 q6 d).bind fun a => ((Ja a.1 a.2.1 a.2.2.1 a.2.2.2.1 a.2.2.2.2.1 e).bind fun b => (cond b.2.2.2 ((Yp b.1 b.2.1 b.2.2.1 f g h c).bind fun i => (Vu i)) (Vu c))))
set_option maxRecDepth 100000 in
set_option maxHeartbeats 4000000 in
theorem Jv {S : List Nat} (g1 : Nat) (A7 : Option Addr) (c8 : Nat) (h : Nat) (j : Nat) (m : Nat) (p : Nat) (q : Nat) (q2 : Int) (q3 : Int) (q4 : Int) (q5 : Int) (s : (List Vi)) (a6 : U1) (a7 : (List UInt8)) (a8 : (List UInt8)) (a3 : (List UInt8)) (a4 : (List UInt8)) (a5 : (List UInt8)) (a9 : (List UInt8)) (w0 : World) (hO : SP S w0 w0 [Qj g1 79 #[(.int .i64 q2), (.int .i64 q3), (.int .i64 q4), (.int .i64 q5), (.slice A7 (List.length (List.map stT s)) c8), (.map (some h))], Qz h a6, Qj j 9 #[(.string ⟨List.toArray a3⟩)], Qj m 9 #[(.string ⟨List.toArray a4⟩)], Qj p 9 #[(.string ⟨List.toArray a5⟩)], Qj q 9 #[(.string ⟨List.toArray a9⟩)]]) (c2 : ∀ w, Mod S w0 w → (dDS Ul Bu).ok w (A7, c8, s)) (r : ((List UInt8))) (H : Zg q2 q3 q4 q5 (List.map stT s) a6 a7 a8 a3 a4 a5 a9 = some r) :
  Calls Tryz.prog 45 #[(pt g1 0), (.string ⟨List.toArray a7⟩), (.string ⟨List.toArray a8⟩), (.func (.func 50) #[] #[(pt j 0), (pt m 0), (pt p 0), (pt q 0)])] w0 (fun e w' => e = .returned (.tuple #[]) ∧ SP S w0 w' [Qj g1 79 #[(.int .i64 q2), (.int .i64 q3), (.int .i64 q4), (.int .i64 q5), (.slice A7 (List.length (List.map stT s)) c8), (.map (some h))], Qz h a6, Qj j 9 #[(.string ⟨List.toArray a3⟩)], Qj m 9 #[(.string ⟨List.toArray a4⟩)], Qj p 9 #[(.string ⟨List.toArray a5⟩)], Qj q 9 #[(.string ⟨List.toArray r⟩)]]) := by
 unfold Zg at H
 refine Qw (n := 31) Tryz.func45 K K K ?_
 have b2 := hO
 refine aQ ?_
 refine aR ?_
 refine iR 3 3 [(13, (pt g1 0)), (14, (pt g1 0)), (15, (pt g1 0))] ?_
 refine iS 4 ?_
 refine sL 24 15 g1 0 0 (.agg #[(.int .i64 q2), (.int .i64 q3), (.int .i64 q4), (.int .i64 q5), (.slice A7 (List.length (List.map stT s)) c8)]) 16 b2 rfl ?_
 refine iR 1 5 [(17, (.string ⟨List.toArray a7⟩))] ?_
 obtain ⟨a, c3, H⟩ := Qf H
 refine iS 6 ?_
 refine cF 67 #[(.tmp 16), (.tmp 17)] #[24, 9] 18 Tryz.call67 (Nq (R := fun w => Mod S w0 w) A7 c8 q2 q3 q4 q5 s a7 w0 (fun w hb => Hk b2 hb) c2 a c3) ?_
 rintro e d7 ⟨u, a0, a1, a2, rfl, c4, c5, b9⟩
 refine ⟨_, rfl, ?_⟩
 have c6 := SP.call b2 b9
 clear b9
 refine iR 3 9 [(12, (.tuple #[(.agg #[(.string ⟨List.toArray a.1⟩), (.int .i64 a.2.1), (.int .i64 a.2.2.1), (.slice u (List.length a.2.2.2.1) a0), (.slice a1 (List.length a.2.2.2.2.1) a2)]), (.bool a.2.2.2.2.2)])), (19, (.agg #[(.string ⟨List.toArray a.1⟩), (.int .i64 a.2.1), (.int .i64 a.2.2.1), (.slice u (List.length a.2.2.2.1) a0), (.slice a1 (List.length a.2.2.2.2.1) a2)])), (20, (.bool a.2.2.2.2.2))] ?_
 refine iS 10 ?_
 refine Qn.alloc (t := 44) (z := (.agg #[(.string ⟨List.toArray ([] : List UInt8)⟩), (.int .i64 0), (.int .i64 0), (.slice none (List.length ([] : List (Int × Int))) 0), (.slice none (List.length ([] : List ((List UInt8) × (List UInt8) × Int))) 0)])) (d := (some 8)) (k := 9) K rfl K c6 ?_
 intro b3 d8 c7
 refine iS 11 ?_
 refine Qn.store (t := 44) (x := (.tmp 8)) (y := (.tmp 19)) (g := b3) (off := 0) (i := 6) (v := (.agg #[(.string ⟨List.toArray a.1⟩), (.int .i64 a.2.1), (.int .i64 a.2.2.1), (.slice u (List.length a.2.2.2.1) a0), (.slice a1 (List.length a.2.2.2.2.1) a2)])) (cs' := #[(.string ⟨List.toArray a.1⟩), (.int .i64 a.2.1), (.int .i64 a.2.2.1), (.slice u (List.length a.2.2.2.1) a0), (.slice a1 (List.length a.2.2.2.2.1) a2)]) (d := none) (k := 10) K rfl K K c7 rfl K ?_
 intro b4 b0
 refine iR 1 12 [(9, (.bool a.2.2.2.2.2))] ?_
 refine iF ?_
 refine aQ ?_
 refine aR ?_
 refine iS 1 ?_
 refine sL 44 8 b3 0 6 (.agg #[(.string ⟨List.toArray a.1⟩), (.int .i64 a.2.1), (.int .i64 a.2.2.1), (.slice u (List.length a.2.2.2.1) a0), (.slice a1 (List.length a.2.2.2.2.1) a2)]) 22 b0 rfl ?_
 refine iR 1 2 [(23, (.string ⟨List.toArray a8⟩))] ?_
 obtain ⟨c, c9, H⟩ := Qf H
 refine iS 3 ?_
 refine cF 68 #[(.tmp 22), (.tmp 23)] #[44, 9] 24 Tryz.call68 (Nk u a0 a1 a2 a.1 a.2.1 a.2.2.1 a.2.2.2.1 a.2.2.2.2.1 a8 b4 (c4 b4 (SP.mod b0)) (c5 b4 (SP.mod b0)) c c9) ?_
 rintro e d9 ⟨rfl, c0⟩
 refine ⟨_, rfl, ?_⟩
 have d0 := SP.call b0 c0
 clear c0
 refine iR 3 6 [(21, (.tuple #[(.agg #[(.string ⟨List.toArray c.1⟩), (.string ⟨List.toArray c.2.1⟩), (.int .i64 c.2.2.1)]), (.bool c.2.2.2)])), (25, (.agg #[(.string ⟨List.toArray c.1⟩), (.string ⟨List.toArray c.2.1⟩), (.int .i64 c.2.2.1)])), (26, (.bool c.2.2.2))] ?_
 refine iS 7 ?_
 refine Qn.alloc (t := 48) (z := (.agg #[(.string ⟨List.toArray ([] : List UInt8)⟩), (.string ⟨List.toArray ([] : List UInt8)⟩), (.int .i64 0)])) (d := (some 10)) (k := 6) K rfl K d0 ?_
 intro b5 e0 d1
 refine iS 8 ?_
 refine Qn.store (t := 48) (x := (.tmp 10)) (y := (.tmp 25)) (g := b5) (off := 0) (i := 7) (v := (.agg #[(.string ⟨List.toArray c.1⟩), (.string ⟨List.toArray c.2.1⟩), (.int .i64 c.2.2.1)])) (cs' := #[(.string ⟨List.toArray c.1⟩), (.string ⟨List.toArray c.2.1⟩), (.int .i64 c.2.2.1)]) (d := none) (k := 7) K rfl K K d1 rfl K ?_
 intro d2 b1
 refine iR 1 9 [(11, (.bool c.2.2.2))] ?_
 refine iF ?_
 refine aQ ?_
 refine aR ?_
 refine iR 1 1 [(27, (.bool c.2.2.2))] ?_
 refine iF ?_
 refine At.join (fun ρ w => ∃ (b6 : (List UInt8)), Zo ρ [] ∧ SP S w0 w [Qj g1 79 #[(.int .i64 q2), (.int .i64 q3), (.int .i64 q4), (.int .i64 q5), (.slice A7 (List.length (List.map stT s)) c8), (.map (some h))], Qz h a6, Qj j 9 #[(.string ⟨List.toArray a3⟩)], Qj m 9 #[(.string ⟨List.toArray a4⟩)], Qj p 9 #[(.string ⟨List.toArray a5⟩)], Qj q 9 #[(.string ⟨List.toArray b6⟩)]] ∧ Vu b6 = some r) ?_ ?_
 ·refine Zu K (o := (.tmp 27)) K (b := c.2.2.2) K (fun b7 => ?_) (fun b7 => ?_)
  ·have H := ct H b7
   refine aR ?_
   refine iR 1 1 [(28, (.func (.func 50) #[] #[(pt j 0), (pt m 0), (pt p 0), (pt q 0)]))] ?_
   refine iS 2 ?_
   refine sL 48 10 b5 0 7 (.agg #[(.string ⟨List.toArray c.1⟩), (.string ⟨List.toArray c.2.1⟩), (.int .i64 c.2.2.1)]) 29 b1 rfl ?_
   obtain ⟨b8, d3, H⟩ := Qf H
   refine iS 3 ?_
   refine Xf (f := 50) (fo := (.tmp 28)) (xs := #[(.tmp 29)]) (tys := #[48]) (first := #[]) (captured := #[(pt j 0), (pt m 0), (pt p 0), (pt q 0)]) (d := (some 30)) (k := 2) K rfl K K Tryz.call50 (Nt j m p q c.1 c.2.1 c.2.2.1 a3 a4 a5 a9 d2 (Ze b1 [2, 3, 4, 5] rfl rfl) b8 d3) ?_
   rintro e d4 ⟨rfl, c1⟩
   refine ⟨_, rfl, ?_⟩
   have d5 : SP S w0 d4 [Qj g1 79 #[(.int .i64 q2), (.int .i64 q3), (.int .i64 q4), (.int .i64 q5), (.slice A7 (List.length (List.map stT s)) c8), (.map (some h))], Qz h a6, Qj b3 44 #[(.string ⟨List.toArray a.1⟩), (.int .i64 a.2.1), (.int .i64 a.2.2.1), (.slice u (List.length a.2.2.2.1) a0), (.slice a1 (List.length a.2.2.2.2.1) a2)], Qj b5 48 #[(.string ⟨List.toArray c.1⟩), (.string ⟨List.toArray c.2.1⟩), (.int .i64 c.2.2.1)], Qj j 9 #[(.string ⟨List.toArray a3⟩)], Qj m 9 #[(.string ⟨List.toArray a4⟩)], Qj p 9 #[(.string ⟨List.toArray a5⟩)], Qj q 9 #[(.string ⟨List.toArray b8⟩)]] := Va b1 [2, 3, 4, 5] [0, 1, 6, 7] rfl rfl c1 rfl
   clear c1
   refine iF ?_
   exact ⟨b8, trivial, SP.sel d5 [0, 1, 4, 5, 6, 7] rfl rfl, H⟩
  ·have H := cf H b7
   refine At.skip K ?_
   exact ⟨a9, trivial, SP.sel b1 [0, 1, 2, 3, 4, 5] rfl rfl, H⟩
 ·rintro ρ e1 ⟨b6, hk, d6, H⟩
  unfold Vu at H
  first | refine At.known [] hk ?_ | rw [← Vd (l := []) hk]
  refine ⟨(.tuple #[]), K, ?_⟩
  obtain rfl := Qi H
  exact ⟨rfl, SP.sel d6 [0,1,2,3,4,5] rfl rfl⟩
def Yg (q2 : Int) (q3 : Int) (q4 : Int) (q5 : Int) (q6 : (List Qg)) (c : U1) (a : (List UInt8)) (b : (List UInt8)) (d : Int) : Option (Bool) :=
  ((Zf q2 q3 q4 q5 q6 c a b a b d false).bind fun e => (some (e)))
set_option maxRecDepth 100000 in
set_option maxHeartbeats 4000000 in
theorem Gp {S : List Nat} (g1 : Nat) (A7 : Option Addr) (c8 : Nat) (a : Nat) (q2 : Int) (q3 : Int) (q4 : Int) (q5 : Int) (f : (List Vi)) (j : U1) (b : (List UInt8)) (c : (List UInt8)) (m : Int) (w0 : World) (hO : SP S w0 w0 [Qj g1 79 #[(.int .i64 q2), (.int .i64 q3), (.int .i64 q4), (.int .i64 q5), (.slice A7 (List.length (List.map stT f)) c8), (.map (some a))], Qz a j]) (a3 : ∀ w, Mod S w0 w → (dDS Ul Bu).ok w (A7, c8, f)) (r : (Bool)) (H : Yg q2 q3 q4 q5 (List.map stT f) j b c m = some r) :
  Calls Tryz.prog 22 #[(pt g1 0), (.string ⟨List.toArray b⟩), (.string ⟨List.toArray c⟩), (.int .i64 m)] w0 (fun e w' => e = .returned (.bool r) ∧ SP S w0 w' [Qj g1 79 #[(.int .i64 q2), (.int .i64 q3), (.int .i64 q4), (.int .i64 q5), (.slice A7 (List.length (List.map stT f)) c8), (.map (some a))], Qz a j]) := by
 unfold Yg at H
 refine Qw (n := 16) Tryz.func22 K K K ?_
 have a4 := hO
 refine aQ ?_
 refine aR ?_
 refine iS 1 ?_
 refine Vz (t := 29) (x := (.tmp 0)) (v := (pt g1 0)) (d := (some 4)) (k := 0) K rfl K a4 ?_
 intro q b3 a5
 refine iS 2 ?_
 refine Vz (t := 9) (x := (.tmp 1)) (v := (.string ⟨List.toArray b⟩)) (d := (some 5)) (k := 1) K rfl K a5 ?_
 intro s b4 a6
 refine iS 3 ?_
 refine Vz (t := 9) (x := (.tmp 2)) (v := (.string ⟨List.toArray c⟩)) (d := (some 6)) (k := 2) K rfl K a6 ?_
 intro u b5 a7
 refine iS 4 ?_
 refine Vz (t := 2) (x := (.tmp 3)) (v := (.int .i64 m)) (d := (some 7)) (k := 3) K rfl K a7 ?_
 intro a0 b6 a8
 refine iR 1 5 [(8, (.bool false))] ?_
 refine iF ?_
 refine aQ ?_
 refine aR ?_
 refine iS 1 ?_
 refine Qn.alloc (t := 4) (z := (.bool false)) (d := (some 9)) (k := 0) K rfl K a8 ?_
 intro o b7 a9
 refine iS 2 ?_
 refine Qn.store (t := 4) (x := (.tmp 9)) (y := (.const (.bool false))) (g := o) (off := 0) (i := 6) (v := (.bool false)) (cs' := #[(.bool false)]) (d := none) (k := 1) K rfl K K a9 rfl K ?_
 intro b0 h
 refine iF ?_
 refine aQ ?_
 refine aR ?_
 refine iS 1 ?_
 refine sL 29 4 q 0 2 (pt g1 0) 10 h rfl ?_
 refine iS 2 ?_
 refine sL 9 5 s 0 3 (.string ⟨List.toArray b⟩) 11 h rfl ?_
 refine iS 3 ?_
 refine sL 9 6 u 0 4 (.string ⟨List.toArray c⟩) 12 h rfl ?_
 refine iR 1 4 [(13, (.func (.func 49) #[] #[(pt q 0), (pt s 0), (pt u 0), (pt a0 0), (pt o 0)]))] ?_
 obtain ⟨p, b1, H⟩ := Qf H
 refine iS 5 ?_
 refine cF 45 #[(.tmp 10), (.tmp 11), (.tmp 12), (.tmp 13)] #[29, 9, 9, 84] 14 Tryz.call45 (Ju g1 A7 c8 a q s u a0 o q2 q3 q4 q5 f j b c b c m false b0 (Ze h [0, 1, 2, 3, 4, 5, 6] rfl rfl) (fun w hm => a3 w (SP.through h (l := [0, 1, 2, 3, 4, 5, 6]) rfl hm)) p b1) ?_
 rintro e b2 ⟨rfl, a1⟩
 refine ⟨_, rfl, ?_⟩
 have a2 : SP S w0 b2 [Qj g1 79 #[(.int .i64 q2), (.int .i64 q3), (.int .i64 q4), (.int .i64 q5), (.slice A7 (List.length (List.map stT f)) c8), (.map (some a))], Qz a j, Qj q 29 #[(pt g1 0)], Qj s 9 #[(.string ⟨List.toArray b⟩)], Qj u 9 #[(.string ⟨List.toArray c⟩)], Qj a0 2 #[(.int .i64 m)], Qj o 4 #[(.bool p)]] := Va h [0, 1, 2, 3, 4, 5, 6] [] rfl rfl a1 rfl
 clear a1
 refine iF ?_
 refine aQ ?_
 refine aR ?_
 refine iS 1 ?_
 refine sL 4 9 o 0 6 (.bool p) 15 a2 rfl ?_
 refine iR 1 2 [(8, (.bool p))] ?_
 refine iF ?_
 refine At.ret K ?_
 refine ⟨(.bool p), K, ?_⟩
 obtain rfl := Qi H
 exact ⟨rfl, SP.sel a2 [0,1] rfl rfl⟩
def Xl (q2 : Int) (q3 : Int) (q4 : Int) (q5 : Int) (q6 : (List Qg)) (c : U1) (a : (List UInt8)) (b : (List UInt8)) (d : (List UInt8)) : Option ((List UInt8)) :=
  ((Zg q2 q3 q4 q5 q6 c a b a b d ([] : List UInt8)).bind fun e => (some (e)))
set_option maxRecDepth 100000 in
set_option maxHeartbeats 4000000 in
theorem Uj {S : List Nat} (g1 : Nat) (A7 : Option Addr) (c8 : Nat) (a : Nat) (q2 : Int) (q3 : Int) (q4 : Int) (q5 : Int) (f : (List Vi)) (h : U1) (b : (List UInt8)) (c : (List UInt8)) (j : (List UInt8)) (w0 : World) (hO : SP S w0 w0 [Qj g1 79 #[(.int .i64 q2), (.int .i64 q3), (.int .i64 q4), (.int .i64 q5), (.slice A7 (List.length (List.map stT f)) c8), (.map (some a))], Qz a h]) (a2 : ∀ w, Mod S w0 w → (dDS Ul Bu).ok w (A7, c8, f)) (r : ((List UInt8))) (H : Xl q2 q3 q4 q5 (List.map stT f) h b c j = some r) :
  Calls Tryz.prog 24 #[(pt g1 0), (.string ⟨List.toArray b⟩), (.string ⟨List.toArray c⟩), (.string ⟨List.toArray j⟩)] w0 (fun e w' => e = .returned (.string ⟨List.toArray r⟩) ∧ SP S w0 w' [Qj g1 79 #[(.int .i64 q2), (.int .i64 q3), (.int .i64 q4), (.int .i64 q5), (.slice A7 (List.length (List.map stT f)) c8), (.map (some a))], Qz a h]) := by
 unfold Xl at H
 refine Qw (n := 16) Tryz.func24 K K K ?_
 have a3 := hO
 refine aQ ?_
 refine aR ?_
 refine iS 1 ?_
 refine Vz (t := 9) (x := (.tmp 1)) (v := (.string ⟨List.toArray b⟩)) (d := (some 5)) (k := 0) K rfl K a3 ?_
 intro q b1 a4
 refine iS 2 ?_
 refine Vz (t := 9) (x := (.tmp 2)) (v := (.string ⟨List.toArray c⟩)) (d := (some 6)) (k := 1) K rfl K a4 ?_
 intro s b2 a5
 refine iS 3 ?_
 refine Vz (t := 9) (x := (.tmp 3)) (v := (.string ⟨List.toArray j⟩)) (d := (some 7)) (k := 2) K rfl K a5 ?_
 intro u b3 a6
 refine iR 1 4 [(8, (.string ⟨List.toArray ([] : List UInt8)⟩))] ?_
 refine iF ?_
 refine aQ ?_
 refine aR ?_
 refine iS 1 ?_
 refine Qn.alloc (t := 9) (z := (.string ⟨List.toArray ([] : List UInt8)⟩)) (d := (some 9)) (k := 0) K rfl K a6 ?_
 intro m b4 a7
 refine iS 2 ?_
 refine Qn.store (t := 9) (x := (.tmp 9)) (y := (.const (.string ⟨List.toArray ([] : List UInt8)⟩))) (g := m) (off := 0) (i := 5) (v := (.string ⟨List.toArray ([] : List UInt8)⟩)) (cs' := #[(.string ⟨List.toArray ([] : List UInt8)⟩)]) (d := none) (k := 1) K rfl K K a7 rfl K ?_
 intro a8 o
 refine iF ?_
 refine aQ ?_
 refine aR ?_
 refine iR 1 1 [(10, (pt g1 0))] ?_
 refine iS 2 ?_
 refine sL 9 5 q 0 2 (.string ⟨List.toArray b⟩) 11 o rfl ?_
 refine iS 3 ?_
 refine sL 9 6 s 0 3 (.string ⟨List.toArray c⟩) 12 o rfl ?_
 refine iR 1 4 [(13, (.func (.func 50) #[] #[(pt q 0), (pt s 0), (pt u 0), (pt m 0)]))] ?_
 obtain ⟨p, a9, H⟩ := Qf H
 refine iS 5 ?_
 refine cF 45 #[(.tmp 10), (.tmp 11), (.tmp 12), (.tmp 13)] #[29, 9, 9, 84] 14 Tryz.call45 (Jv g1 A7 c8 a q s u m q2 q3 q4 q5 f h b c b c j ([] : List UInt8) a8 (Ze o [0, 1, 2, 3, 4, 5] rfl rfl) (fun w hm => a2 w (SP.through o (l := [0, 1, 2, 3, 4, 5]) rfl hm)) p a9) ?_
 rintro e b0 ⟨rfl, a0⟩
 refine ⟨_, rfl, ?_⟩
 have a1 : SP S w0 b0 [Qj g1 79 #[(.int .i64 q2), (.int .i64 q3), (.int .i64 q4), (.int .i64 q5), (.slice A7 (List.length (List.map stT f)) c8), (.map (some a))], Qz a h, Qj q 9 #[(.string ⟨List.toArray b⟩)], Qj s 9 #[(.string ⟨List.toArray c⟩)], Qj u 9 #[(.string ⟨List.toArray j⟩)], Qj m 9 #[(.string ⟨List.toArray p⟩)]] := Va o [0, 1, 2, 3, 4, 5] [] rfl rfl a0 rfl
 clear a0
 refine iF ?_
 refine aQ ?_
 refine aR ?_
 refine iS 1 ?_
 refine sL 9 9 m 0 5 (.string ⟨List.toArray p⟩) 15 a1 rfl ?_
 refine iR 1 2 [(8, (.string ⟨List.toArray p⟩))] ?_
 refine iF ?_
 refine At.ret K ?_
 refine ⟨(.string ⟨List.toArray p⟩), K, ?_⟩
 obtain rfl := Qi H
 exact ⟨rfl, SP.sel a1 [0,1] rfl rfl⟩
def Z9 (a : Bool) : Option (Int) :=
  (cond a (some (101)) (some (0)))
def X7 (q2 : Int) (q3 : Int) (q4 : Int) (q5 : Int) (q6 : (List Qg)) (b : U1) (c : (List UInt8)) (d : (List UInt8)) (f : (List UInt8)) (e : (List UInt8)) (g : Int) : Option (Int) :=
  ((Yg q2 q3 q4 q5 q6 b c d g).bind fun h => (cond (!h) (some (3)) ((Xl q2 q3 q4 q5 q6 b c d f).bind fun a => (cond (a == ([] : List UInt8)) (Z9 true) ((chk (Nat.ble (List.length a) 281474976710656)).bind fun _ => ((chk (Nat.ble (List.length e) 281474976710656)).bind fun _ => ((N3 a e).bind fun i => (Z9 (!i)))))))))
set_option maxRecDepth 100000 in
set_option maxHeartbeats 4000000 in
theorem N4 {S : List Nat} (g1 : Nat) (A7 : Option Addr) (c8 : Nat) (c : Nat) (q2 : Int) (q3 : Int) (q4 : Int) (q5 : Int) (g : (List Vi)) (h : U1) (j : (List UInt8)) (m : (List UInt8)) (s : (List UInt8)) (p : (List UInt8)) (u : Int) (w0 : World) (hO : SP S w0 w0 [Qj g1 79 #[(.int .i64 q2), (.int .i64 q3), (.int .i64 q4), (.int .i64 q5), (.slice A7 (List.length (List.map stT g)) c8), (.map (some c))], Qz c h]) (a8 : ∀ w, Mod S w0 w → (dDS Ul Bu).ok w (A7, c8, g)) (r : (Int)) (H : X7 q2 q3 q4 q5 (List.map stT g) h j m s p u = some r) :
  Calls Tryz.prog 26 #[(pt g1 0), (.string ⟨List.toArray j⟩), (.string ⟨List.toArray m⟩), (.string ⟨List.toArray s⟩), (.string ⟨List.toArray p⟩), (.int .i64 u)] w0 (fun e w' => e = .returned (.int .i64 r) ∧ SP S w0 w' [Qj g1 79 #[(.int .i64 q2), (.int .i64 q3), (.int .i64 q4), (.int .i64 q5), (.slice A7 (List.length (List.map stT g)) c8), (.map (some c))], Qz c h]) := by
 unfold X7 at H
 refine Qw (n := 35) Tryz.func26 K K K ?_
 have a0 := hO
 refine aQ ?_
 refine aR ?_
 refine iR 1 1 [(12, (.int .i64 0))] ?_
 refine iF ?_
 refine aQ ?_
 refine aQ ?_
 refine aR ?_
 refine iR 4 4 [(14, (pt g1 0)), (15, (.string ⟨List.toArray j⟩)), (16, (.string ⟨List.toArray m⟩)), (17, (.int .i64 u))] ?_
 obtain ⟨a1, c0, H⟩ := Qf H
 refine iS 5 ?_
 refine cF 22 #[(.tmp 14), (.tmp 15), (.tmp 16), (.tmp 17)] #[29, 9, 9, 2] 18 Tryz.call22 (Gp g1 A7 c8 c q2 q3 q4 q5 g h j m u w0 (Ze a0 [0, 1] rfl rfl) (fun w hm => a8 w (SP.through a0 (l := [0, 1]) rfl hm)) a1 c0) ?_
 rintro e a9 ⟨rfl, b0⟩
 refine ⟨_, rfl, ?_⟩
 have v : SP S w0 a9 [Qj g1 79 #[(.int .i64 q2), (.int .i64 q3), (.int .i64 q4), (.int .i64 q5), (.slice A7 (List.length (List.map stT g)) c8), (.map (some c))], Qz c h] := Va a0 [0, 1] [] rfl rfl b0 rfl
 clear b0
 refine iR 1 6 [(19, (.bool (!a1)))] ?_
 refine iF ?_
 refine Zu K (o := (.tmp 19)) K (b := (!a1)) K (fun a2 => ?_) (fun a2 => ?_)
 ·have H := ct H a2
  refine aQ ?_
  refine aR ?_
  refine iR 1 1 [(12, (.int .i64 3))] ?_
  refine iF ?_
  refine At.ret K ?_
  refine ⟨(.int .i64 3), K, ?_⟩
  obtain rfl := Qi H
  exact ⟨rfl, SP.sel v [0,1] rfl rfl⟩
 ·have H := cf H a2
  refine At.skip K ?_
  refine aQ ?_
  refine aQ ?_
  refine aR ?_
  refine iR 4 4 [(20, (pt g1 0)), (21, (.string ⟨List.toArray j⟩)), (22, (.string ⟨List.toArray m⟩)), (23, (.string ⟨List.toArray s⟩))] ?_
  obtain ⟨f, c1, H⟩ := Qf H
  refine iS 5 ?_
  refine cF 24 #[(.tmp 20), (.tmp 21), (.tmp 22), (.tmp 23)] #[29, 9, 9, 9] 24 Tryz.call24 (Uj g1 A7 c8 c q2 q3 q4 q5 g h j m s a9 (Ze v [0, 1] rfl rfl) (fun w hm => a8 w (SP.through v (l := [0, 1]) rfl hm)) f c1) ?_
  rintro e c2 ⟨rfl, b1⟩
  refine ⟨_, rfl, ?_⟩
  have b2 : SP S w0 c2 [Qj g1 79 #[(.int .i64 q2), (.int .i64 q3), (.int .i64 q4), (.int .i64 q5), (.slice A7 (List.length (List.map stT g)) c8), (.map (some c))], Qz c h] := Va v [0, 1] [] rfl rfl b1 rfl
  clear b1
  refine iR 1 6 [(13, (.string ⟨List.toArray f⟩))] ?_
  refine iF ?_
  refine aQ ?_
  refine At.join (fun ρ w => ∃ (q : Bool), Zo ρ [(34, (.bool q))] ∧ SP S w0 w [Qj g1 79 #[(.int .i64 q2), (.int .i64 q3), (.int .i64 q4), (.int .i64 q5), (.slice A7 (List.length (List.map stT g)) c8), (.map (some c))], Qz c h] ∧ Z9 q = some r) ?_ ?_
  ·refine aR ?_
   refine iR 1 1 [(25, (.string ⟨List.toArray f⟩))] ?_
   refine iS 2 ?_
   refine Jl (op := .eql) (T := 9) (T' := 9) (x := (.tmp 25)) (y := (.const (.string ⟨List.toArray ([] : List UInt8)⟩))) (a := f) (b := ([] : List UInt8)) (r := (.bool (f == ([] : List UInt8)))) (d := (some 26)) (k := 1) K rfl K K rfl ?_
   refine iR 1 3 [(27, (.bool (f == ([] : List UInt8))))] ?_
   refine In.guard (t := 27) (b := (f == ([] : List UInt8))) K (fun a3 => ?_) (fun a3 => ?_)
   ·have H := ct H a3
    refine iR 7 10 [(28, undef), (29, undef), (30, undef), (31, undef), (32, undef), (33, undef), (34, (.bool true))] ?_
    refine iF ?_
    exact ⟨true, ⟨K, trivial⟩, SP.sel b2 [0, 1] rfl rfl, H⟩
   ·have H := cf H a3
    refine iR 1 4 [(28, (.string ⟨List.toArray f⟩))] ?_
    obtain ⟨c3, H⟩ := Z0 H
    refine iS 5 ?_
    refine G0 (S' := 9) (T := 52) (E := 5) (x := (.tmp 28)) (l := f) (d := (some 29)) (k := 4) K rfl K K K K (G1 c3) b2 ?_
    intro a4 a5 c4 b3 _
    have c5 : SP S w0 c4 [Qj g1 79 #[(.int .i64 q2), (.int .i64 q3), (.int .i64 q4), (.int .i64 q5), (.slice A7 (List.length (List.map stT g)) c8), (.map (some c))], Qz c h, rdE eU8 (some ⟨a4, 0, none⟩) a5 f] := b3
    clear b3
    refine iR 1 6 [(30, (.string ⟨List.toArray p⟩))] ?_
    obtain ⟨c6, H⟩ := Z0 H
    refine iS 7 ?_
    refine G0 (S' := 9) (T := 52) (E := 5) (x := (.tmp 30)) (l := p) (d := (some 31)) (k := 6) K rfl K K K K (G1 c6) c5 ?_
    intro b4 b5 b6 b7 _
    have a6 : SP S w0 b6 [Qj g1 79 #[(.int .i64 q2), (.int .i64 q3), (.int .i64 q4), (.int .i64 q5), (.slice A7 (List.length (List.map stT g)) c8), (.map (some c))], Qz c h, rdE eU8 (some ⟨a4, 0, none⟩) a5 f, rdE eU8 (some ⟨b4, 0, none⟩) b5 p] := b7
    clear b7
    obtain ⟨z, c7, H⟩ := Qf H
    refine iS 8 ?_
    refine cF 52 #[(.tmp 29), (.tmp 31)] #[52, 52] 32 Tryz.call52 (B5 (some ⟨a4, 0, none⟩) a5 (some ⟨b4, 0, none⟩) b5 f p b6 (rdE_rd (SP.get a6 (i := 2) rfl)) (rdE_rd (SP.get a6 (i := 3) rfl)) z c7) ?_
    rintro e d0 ⟨rfl, b8⟩
    refine ⟨_, rfl, ?_⟩
    have c9 := SP.call a6 b8
    clear b8
    refine iR 2 10 [(33, (.bool (!z))), (34, (.bool (!z)))] ?_
    refine iF ?_
    exact ⟨(!z), ⟨K, trivial⟩, SP.sel c9 [0, 1] rfl rfl, H⟩
  ·rintro ρ d1 ⟨q, hk, b9, H⟩
   unfold Z9 at H
   first | refine At.known [(34, (.bool q))] hk ?_ | rw [← Vd (l := [(34, (.bool q))]) hk]
   refine Zu K (o := (.tmp 34)) K (b := q) K (fun a7 => ?_) (fun a7 => ?_)
   ·have H := ct H a7
    refine aQ ?_
    refine aR ?_
    refine iR 1 1 [(12, (.int .i64 101))] ?_
    refine iF ?_
    refine At.ret K ?_
    refine ⟨(.int .i64 101), K, ?_⟩
    obtain rfl := Qi H
    exact ⟨rfl, SP.sel b9 [0,1] rfl rfl⟩
   ·have H := cf H a7
    refine At.skip K ?_
    refine aQ ?_
    refine aR ?_
    refine iR 1 1 [(12, (.int .i64 0))] ?_
    refine iF ?_
    refine At.ret K ?_
    refine ⟨(.int .i64 0), K, ?_⟩
    obtain rfl := Qi H
    exact ⟨rfl, SP.sel b9 [0,1] rfl rfl⟩
end Go.Proofs.YtmgfanhcdfobhaaGreatDoor
namespace Go.Proofs.YtmgfanhcdfobhaaGreatDoor
theorem fx_step {α : Type} {P : α → Bool} {l : List α} {i : Nat} (hi : i < l.length) (hn : (l.take i).any P = false) (hx : P l[i] = true) : l.findIdx? P = some i := by
  rw [List.findIdx?_eq_some_iff_getElem]
  refine ⟨hi, hx, fun j hj => ?_⟩
  rw [List.any_eq_false] at hn
  have := hn l[j] (by rw [List.mem_take_iff_getElem]; exact ⟨j, by omega, rfl⟩)
  simpa using this
theorem fx_none {α : Type} {P : α → Bool} {l : List α} (hn : l.any P = false) : l.findIdx? P = none := by
  rw [List.findIdx?_eq_none_iff]
  intro x hx
  rw [List.any_eq_false] at hn
  simpa using hn x hx
theorem fx_more {α : Type} {P : α → Bool} {l : List α} {i : Nat} (hi : i < l.length) (hn : (l.take i).any P = false) (hx : P l[i] = false) : (l.take (i + 1)).any P = false := by
  rw [List.take_add_one, List.getElem?_eq_getElem hi, List.any_append, hn]
  simp [hx]
def ixI (o : Option Nat) : Int := match o with | some i => (i : Int) | none => -1
theorem Id (l : List Qg) (P : Qg → Bool) (p : Str → Int → Int → List H0 → List Bg → Option Bool) (hp : ∀ x : Qg, p x.1 x.2.1 x.2.2.1 x.2.2.2.1 x.2.2.2.2 = some (P x)) (hl : l.length ≤ 140737488355328) :
    ∀ (d i f : Nat), d = l.length - i → i ≤ l.length → d < f → (l.take i).any P = false → Ql l p f (i : Int) = some (ixI (l.findIdx? P)) := by
  intro d
  induction d with
  | zero =>
    intro i f hd hi hf hn
    obtain ⟨f, rfl⟩ : ∃ g, f = g + 1 := ⟨f - 1, by omega⟩
    show Qp (Ql l p f) l p (i : Int) = _
    unfold Qp
    rw [List.take_of_length_le (by omega)] at hn
    rw [show decide ((i : Int) < ((l.length : Nat) : Int)) = false from decide_eq_false (by omega), cond_false, fx_none hn]
    rfl
  | succ d ih =>
    intro i f hd hi hf hn
    obtain ⟨f, rfl⟩ : ∃ g, f = g + 1 := ⟨f - 1, by omega⟩
    have hlt : i < l.length := by omega
    show Qp (Ql l p f) l p (i : Int) = _
    unfold Qp
    rw [show decide ((i : Int) < ((l.length : Nat) : Int)) = true from decide_eq_true (by omega), cond_true, Jc hlt, Option.bind_some, hp, Option.bind_some]
    cases hx : P l[i] with
    | true => rw [cond_true, fx_step hlt hn hx]; rfl
    | false =>
      rw [cond_false, show ((i : Int) + 1) = ((i + 1 : Nat) : Int) by omega, Xy (by omega)]
      exact ih (i + 1) f (by omega) (by omega) (by omega) (fx_more hlt hn hx)
theorem Ie (l : List Bg) (P : Bg → Bool) (p : Str → Str → Int → Option Bool) (hp : ∀ x : Bg, p x.1 x.2.1 x.2.2 = some (P x)) (hl : l.length ≤ 140737488355328) :
    ∀ (d i f : Nat), d = l.length - i → i ≤ l.length → d < f → (l.take i).any P = false → Qo l p f (i : Int) = some (ixI (l.findIdx? P)) := by
  intro d
  induction d with
  | zero =>
    intro i f hd hi hf hn
    obtain ⟨f, rfl⟩ : ∃ g, f = g + 1 := ⟨f - 1, by omega⟩
    show Qq (Qo l p f) l p (i : Int) = _
    unfold Qq
    rw [List.take_of_length_le (by omega)] at hn
    rw [show decide ((i : Int) < ((l.length : Nat) : Int)) = false from decide_eq_false (by omega), cond_false, fx_none hn]
    rfl
  | succ d ih =>
    intro i f hd hi hf hn
    obtain ⟨f, rfl⟩ : ∃ g, f = g + 1 := ⟨f - 1, by omega⟩
    have hlt : i < l.length := by omega
    show Qq (Qo l p f) l p (i : Int) = _
    unfold Qq
    rw [show decide ((i : Int) < ((l.length : Nat) : Int)) = true from decide_eq_true (by omega), cond_true, Jc hlt, Option.bind_some, hp, Option.bind_some]
    cases hx : P l[i] with
    | true => rw [cond_true, fx_step hlt hn hx]; rfl
    | false =>
      rw [cond_false, show ((i : Int) + 1) = ((i + 1 : Nat) : Int) by omega, Xy (by omega)]
      exact ih (i + 1) f (by omega) (by omega) (by omega) (fx_more hlt hn hx)
theorem pl_lt' {l : List Qg} {nm : Str} {k : Nat} (h : pl l nm = some k) : k < l.length := (List.findIdx?_eq_some_iff_getElem.1 h).1
theorem lFind (w g i e : Int) (l : List Qg) (nm : Str) (hl : l.length ≤ 140737488355328) : Jp w g i e l nm = some (E3 l nm) := by
  have h := Id l (fun x => x.1 == nm) (fun y0 y1 y2 y3 y4 => Jk y0 y1 y2 y3 y4 nm) (fun x => rfl) hl l.length 0 Z1 (by omega) (by omega) (by unfold Z1; omega) rfl
  unfold Jp Q6
  rw [show ((0 : Nat) : Int) = 0 from rfl] at h
  rw [h, Option.bind_some]
  unfold E3
  show _ = some (match pl l nm with | some k => _ | none => _)
  rw [show l.findIdx? (fun x => x.1 == nm) = pl l nm from rfl]
  cases hp : pl l nm with
  | none => rfl
  | some k =>
    have hk := pl_lt' hp
    have hg : l.getD k E2 = l[k] := by simp [List.getD, hk]
    rw [show decide (ixI (some k) < 0) = false from decide_eq_false (by show ¬ ((k : Nat) : Int) < 0; omega), cond_false]
    show (idx l ((k : Nat) : Int)).bind _ = _
    rw [Jc hk, Option.bind_some]
    simp only [hg]
def tix (l : List Bg) (nm : Str) : Option Nat := l.findIdx? (fun x => x.1 == nm)
def dTok0 : Bg := ([], [], 0)
def tokL (l : List Bg) (nm : Str) : Str × Str × Int × Bool := match tix l nm with
  | some k => ((l.getD k dTok0).1, (l.getD k dTok0).2.1, (l.getD k dTok0).2.2, true)
  | none => ([], [], 0, false)
theorem tix_lt {l : List Bg} {nm : Str} {k : Nat} (h : tix l nm = some k) : k < l.length := (List.findIdx?_eq_some_iff_getElem.1 h).1
theorem lTok (n : Str) (a b : Int) (ns : List H0) (l : List Bg) (nm : Str) (hl : l.length ≤ 140737488355328) : Ja n a b ns l nm = some (tokL l nm) := by
  have h := Ie l (fun x => x.1 == nm) (fun y0 y1 y2 => Y8 y0 y1 y2 nm) (fun x => rfl) hl l.length 0 Z1 (by omega) (by omega) (by unfold Z1; omega) rfl
  unfold Ja Vb
  rw [show ((0 : Nat) : Int) = 0 from rfl] at h
  rw [h, Option.bind_some]
  unfold tokL
  rw [show l.findIdx? (fun x => x.1 == nm) = tix l nm from rfl]
  cases hp : tix l nm with
  | none => rfl
  | some k =>
    have hk := tix_lt hp
    have hg : l.getD k dTok0 = l[k] := by simp [List.getD, hk]
    rw [show decide (ixI (some k) < 0) = false from decide_eq_false (by show ¬ ((k : Nat) : Int) < 0; omega), cond_false]
    show (idx l ((k : Nat) : Int)).bind _ = _
    rw [Jc hk, Option.bind_some]
    simp only [hg]
theorem Hs (a : Nat) (h : a < 256) : (BitVec.ofInt (IntKind.bits .u8) (a : Int)).toNat = a := by
  show (BitVec.ofInt 8 (a : Int)).toNat = a
  rw [BitVec.ofInt_natCast, BitVec.toNat_ofNat]
  exact Nat.mod_eq_of_lt (by omega)
theorem bOr8 (a b : Nat) (ha : a < 256) (hb : b < 256) : bOr .u8 (a : Int) (b : Int) = ((a ||| b : Nat) : Int) := by
  unfold bOr
  rw [BitVec.toNat_or, Hs a ha, Hs b hb, wrap8]
  have : a ||| b < 2 ^ 8 := Nat.or_lt_two_pow (by omega) (by omega)
  omega
theorem bXor8 (a b : Nat) (ha : a < 256) (hb : b < 256) : Xx .u8 (a : Int) (b : Int) = ((a ^^^ b : Nat) : Int) := by
  unfold Xx
  rw [BitVec.toNat_xor, Hs a ha, Hs b hb, wrap8]
  have : a ^^^ b < 2 ^ 8 := Nat.xor_lt_two_pow (by omega) (by omega)
  omega
theorem or_zero {a b : Nat} : a ||| b = 0 ↔ a = 0 ∧ b = 0 := by
  constructor
  · intro h
    exact ⟨Nat.le_zero.1 (h ▸ Nat.left_le_or), Nat.le_zero.1 (h ▸ Nat.right_le_or)⟩
  · rintro ⟨rfl, rfl⟩; rfl
theorem xor_zero {a b : Nat} : a ^^^ b = 0 ↔ a = b := by
  constructor
  · intro h
    have : a ^^^ b ^^^ b = 0 ^^^ b := by rw [h]
    rwa [Nat.xor_assoc, Nat.xor_self, Nat.xor_zero, Nat.zero_xor] at this
  · rintro rfl; exact Nat.xor_self a
theorem Hc (v x y : UInt8) : (Dq (bOr .u8 ((v.toNat : Nat) : Int) (Xx .u8 ((x.toNat : Nat) : Int) ((y.toNat : Nat) : Int))) = 0) ↔ (v = 0 ∧ x = y) := by
  have hv := v.toNat_lt
  have hx := x.toNat_lt
  have hy := y.toNat_lt
  have hxy : x.toNat ^^^ y.toNat < 2 ^ 8 := Nat.xor_lt_two_pow (by omega) (by omega)
  rw [bXor8 _ _ (by omega) (by omega), bOr8 _ _ (by omega) (by omega), Hh]
  have hor : v.toNat ||| (x.toNat ^^^ y.toNat) < 2 ^ 8 := Nat.or_lt_two_pow (by omega) (by omega)
  constructor
  · intro h
    have h2 := congrArg UInt8.toNat h
    rw [UInt8.toNat_ofNat', Nat.mod_eq_of_lt (by omega)] at h2
    obtain ⟨a, b⟩ := or_zero.1 h2
    exact ⟨UInt8.toNat_inj.1 a, UInt8.toNat_inj.1 (xor_zero.1 b)⟩
  · rintro ⟨rfl, rfl⟩
    rw [Nat.xor_self]
    rfl
theorem same_loop (p q : Str) (hlen : p.length = q.length) (hl : p.length ≤ 140737488355328) : ∀ (d i f : Nat) (v : UInt8), d = p.length - i → i ≤ p.length → d < f → (v = 0 ↔ p.take i = q.take i) → Y0 p q f v (i : Int) = some (p == q) := by
  intro d
  induction d with
  | zero =>
    intro i f v hd hi hf hv
    obtain ⟨f, rfl⟩ : ∃ g, f = g + 1 := ⟨f - 1, by omega⟩
    show Yz (Y0 p q f) p q v (i : Int) = _
    unfold Yz
    rw [List.take_of_length_le (by omega), List.take_of_length_le (by omega)] at hv
    rw [show decide ((i : Int) < ((p.length : Nat) : Int)) = false from decide_eq_false (by omega), cond_false]
    congr 1
    rw [Bool.eq_iff_iff, beq_iff_eq, beq_iff_eq, ← hv]
    constructor
    · intro h
      exact UInt8.toNat_inj.1 (by show v.toNat = 0; omega)
    · rintro rfl; rfl
  | succ d ih =>
    intro i f v hd hi hf hv
    obtain ⟨f, rfl⟩ : ∃ g, f = g + 1 := ⟨f - 1, by omega⟩
    have hlt : i < p.length := by omega
    have hlt2 : i < q.length := by omega
    show Yz (Y0 p q f) p q v (i : Int) = _
    unfold Yz
    rw [show decide ((i : Int) < ((p.length : Nat) : Int)) = true from decide_eq_true (by omega), cond_true, Jc hlt, Option.bind_some, Jc hlt2, Option.bind_some, show ((i : Int) + 1) = ((i + 1 : Nat) : Int) by omega, Xy (by omega)]
    refine ih (i + 1) f _ (by omega) (by omega) (by omega) ?_
    rw [Hc, hv, List.take_add_one, List.take_add_one, List.getElem?_eq_getElem hlt, List.getElem?_eq_getElem hlt2]
    constructor
    · rintro ⟨h1, h2⟩; rw [h1, h2]
    · intro h
      have := List.append_inj h (by simp; omega)
      exact ⟨this.1, by simpa using this.2⟩
theorem lSame (p q : Str) (hl : p.length ≤ 140737488355328) : N3 p q = some (p == q) := by
  unfold N3
  by_cases h : p.length = q.length
  · rw [h, bne_self_eq_false, cond_false]
    exact same_loop p q h hl p.length 0 Z1 0 (by omega) (by omega) (by unfold Z1; omega) (by simp)
  · rw [show ((((List.length p : Nat) : Int)) != ((List.length q : Nat) : Int)) = true by rw [bne_iff_ne]; omega, cond_true]
    congr 1
    symm
    rw [beq_eq_false_iff_ne]
    rintro rfl
    exact h rfl
structure VC (l : List Qg) : Prop where
  len : l.length ≤ 9000
  q : ∀ t ∈ l, TenQ t
  s : ∀ t ∈ l, TenS t
  o : ∀ t ∈ l, E0 t = true
def Hd (l : List Qg) (t k : Str) : Str × Str × Int × Bool := tokL (E3 l t).2.2.2.2.1 k
def vGood (l : List Qg) (M : U1) (t k : Str) (now : Int) : Bool := (Hd l t k).2.2.2 && ((Fc M (t, k) == 0) && decide (now < (Hd l t k).2.2.1))
def Ed (l : List Qg) (t k n : Str) : Str := cond (Hd l t k).2.2.2 (D7 (Hd l t k).2.1 [t, k, n]) []
def Ro (l : List Qg) (M : U1) (t k n p : Str) (now : Int) : Int := cond (vGood l M t k now) (cond (Ed l t k n == []) 101 (cond (p == Ed l t k n) 0 101)) 3
section
variable {l : List Qg} (hv : VC l)
include hv
theorem Cu (t : Str) : (E3 l t).2.2.2.2.1.length ≤ 9000 := by
  unfold E3
  cases hp : pl l t with
  | none => simp
  | some k =>
    have hk := pl_lt' hp
    have hg : l.getD k E2 = l[k] := by simp [List.getD, hk]
    simp only [hg]
    exact (hv.s _ (List.getElem_mem hk)).2.2.1
theorem vtok_ok {t k : Str} (h : (Hd l t k).2.2.2 = true) : (Hd l t k).2.1.length ≤ 32 ∧ 0 ≤ (Hd l t k).2.2.1 ∧ (Hd l t k).2.2.1 ≤ 1099511627776 ∧ t.length ≤ 20 ∧ k.length ≤ 20 := by
  unfold Hd at h ⊢
  unfold E3 at h ⊢
  cases hp : pl l t with
  | none =>
    rw [hp] at h
    simp [tokL, tix] at h
  | some i =>
    have hi := pl_lt' hp
    have hg : l.getD i E2 = l[i] := by simp [List.getD, hi]
    rw [hp] at h
    simp only [hg] at h ⊢
    have ho := hv.o _ (List.getElem_mem hi)
    have hname : l[i].1 = t := by
      have := (List.findIdx?_eq_some_iff_getElem.1 hp).2.1
      simpa using this
    unfold E0 at ho
    simp only [Bool.and_eq_true, List.all_eq_true] at ho
    have hn := ho.2.1.1
    unfold Bt at hn
    simp only [Bool.and_eq_true, decide_eq_true_eq] at hn
    unfold tokL at h ⊢
    cases hp2 : tix l[i].2.2.2.2 k with
    | none => rw [hp2] at h; cases h
    | some j =>
      have hj := tix_lt hp2
      have hg2 : l[i].2.2.2.2.getD j dTok0 = l[i].2.2.2.2[j] := by simp [List.getD, hj]
      simp only [hg2]
      have hk := ho.1.2 _ (List.getElem_mem hj)
      have hname2 : l[i].2.2.2.2[j].1 = k := by
        have := (List.findIdx?_eq_some_iff_getElem.1 hp2).2.1
        simpa using this
      unfold H1 Bt at hk
      simp only [Bool.and_eq_true, decide_eq_true_eq] at hk
      rw [hname2] at hk
      rw [hname] at hn
      exact ⟨hk.2.1.2, hk.2.2.1, hk.2.2.2, hn.1.1.1.2, hk.1.1.1.1.2⟩
variable (w g i e : Int) (M : U1) (t k : Str)
theorem pVGood (now : Int) : Yg w g i e l M t k now = some (vGood l M t k now) := by
  unfold Yg Zf Vt
  rw [lFind _ _ _ _ _ _ (by have := hv.len; omega), Option.bind_some, lTok _ _ _ _ _ _ (by have := Cu hv t; omega), Option.bind_some]
  rw [show tokL (E3 l t).2.2.2.2.1 k = Hd l t k from rfl]
  unfold vGood
  cases h : (Hd l t k).2.2.2 with
  | false => rfl
  | true =>
    obtain ⟨_, _, _, h1, h2⟩ := vtok_ok hv h
    rw [cond_true]
    unfold Yo Z5
    rw [show (Nat.ble t.length 140737488355328 && Nat.ble k.length 140737488355328) = true by simp; omega]
    simp only [chk, Option.bind_some]
    cases (Fc M (t, k) == 0) <;> rfl
theorem pVWant (n : Str) : Xl w g i e l M t k n = some (Ed l t k n) := by
  unfold Xl Zg Vu
  rw [lFind _ _ _ _ _ _ (by have := hv.len; omega), Option.bind_some, lTok _ _ _ _ _ _ (by have := Cu hv t; omega), Option.bind_some]
  rw [show tokL (E3 l t).2.2.2.2.1 k = Hd l t k from rfl]
  unfold Ed
  cases h : (Hd l t k).2.2.2 with
  | false => rfl
  | true =>
    obtain ⟨h1, _⟩ := vtok_ok hv h
    rw [cond_true, cond_true]
    unfold Yp
    rw [show Nat.ble (Hd l t k).2.1.length 281474976710656 = true by simp; omega]
    simp only [chk, Option.bind_some]
    rw [Ib _ (by omega) _ (by simp)]
    rfl
omit hv in
theorem vWant_len (n : Str) : (Ed l t k n).length ≤ 64 := by
  unfold Ed
  cases (Hd l t k).2.2.2 with
  | false => simp
  | true =>
    rw [cond_true]
    by_cases h : ∀ x ∈ [t, k, n], x.length ≤ 255
    · rw [Ec h]; omega
    · unfold D7
      rw [if_neg (by simpa [List.all_eq_true] using h)]
      simp
omit hv in
theorem beq_sym (a b : Str) : (a == b) = (b == a) := by rw [Bool.eq_iff_iff, beq_iff_eq, beq_iff_eq]; exact eq_comm
theorem pVCheck (n p : Str) (hp : p.length ≤ 140737488355328) (now : Int) : X7 w g i e l M t k n p now = some (Ro l M t k n p now) := by
  unfold X7 Z9 Ro
  rw [pVGood hv, Option.bind_some, pVWant hv, Option.bind_some]
  have hw := vWant_len (l := l) t k n
  cases vGood l M t k now with
  | false => rfl
  | true =>
    rw [show (!true) = false from rfl, cond_false, cond_true]
    cases h : (Ed l t k n == []) with
    | true => rfl
    | false =>
      rw [cond_false, cond_false, show Nat.ble (Ed l t k n).length 281474976710656 = true by simp; omega, show Nat.ble p.length 281474976710656 = true by simp; omega]
      simp only [chk, Option.bind_some]
      rw [lSame _ _ (by omega), Option.bind_some, beq_sym p]
      cases (Ed l t k n == p) <;> rfl
end
theorem pVNew (w g i e : Int) (l : List Qg) (hl : l.length ≤ 140737488355328) (hq : ∀ t ∈ l, TenQ t) : J9 w g i e l = some (cond (E1 w g i e l) (some (w, g, i, e, [])) none) := by
  unfold J9
  rw [lCfg w g i e l hl hq, Option.bind_some]
  cases E1 w g i e l <;> rfl
theorem vc_of {w g i e : Int} {l : List Qg} (hk : E1 w g i e l = true) (hl : l.length ≤ 9000) (hq : ∀ t ∈ l, TenQ t) (hs : ∀ t ∈ l, TenS t) : VC l := by
  refine ⟨hl, hq, hs, ?_⟩
  unfold E1 at hk
  simp only [Bool.and_eq_true, List.all_eq_true] at hk
  exact hk.2.2.1
end Go.Proofs.YtmgfanhcdfobhaaGreatDoor
namespace Go.Proofs.YtmgfanhcdfobhaaGreatDoor
abbrev headV : List Qg := [(([97, 110, 110] : List UInt8), 0, 0, ([] : List (Int × Int)), ([(([107] : List UInt8), ([115] : List UInt8), 5)] : List ((List UInt8) × (List UInt8) × Int)))]
theorem headV_q : ∀ t ∈ headV, TenQ t := by
  intro t ht
  have : t = (([97, 110, 110] : List UInt8), 0, 0, ([] : List (Int × Int)), ([(([107] : List UInt8), ([115] : List UInt8), 5)] : List ((List UInt8) × (List UInt8) × Int))) := by simpa [headV] using ht
  subst this
  refine ⟨by decide, by decide, by decide, (fun n hn => by cases hn), fun x hx => ?_⟩
  have : x = (([107] : List UInt8), ([115] : List UInt8), 5) := by simpa using hx
  subst this
  decide
theorem headVNew : J9 9 9 9 9 headV = some (some (9, 9, 9, 9, [])) := by
  rw [pVNew 9 9 9 9 headV (by decide) headV_q, show E1 9 9 9 9 headV = true by kernel_rfl]
  rfl
theorem optE_s {α β : Type} (x : α) (a : Option β) (f : α → Option β) : optE (some x) a f = f x := rfl
end Go.Proofs.YtmgfanhcdfobhaaGreatDoor
namespace Go.Proofs.YtmgfanhcdfobhaaGreatDoor
def Q4 (c : Int) (g : Nat) : Value := cond (c == 1) (.func (.func 57) #[pt g 0] #[]) (cond (c == 2) (.func (.func 75) #[pt g 0] #[]) .nilFunc)
def B6 (c : Int) : Bool := cond (c == 1) false (cond (c == 2) false true)
theorem stepV_1 {c : Int} {g : Nat} (h : (c == 1) = true) : Q4 c g = .func (.func 57) #[pt g 0] #[] := by unfold Q4; rw [h]; rfl
theorem stepV_2 {c : Int} {g : Nat} (h1 : (c == 1) = false) (h : (c == 2) = true) : Q4 c g = .func (.func 75) #[pt g 0] #[] := by unfold Q4; rw [h1, h]; rfl
end Go.Proofs.YtmgfanhcdfobhaaGreatDoor
namespace Go.Proofs.YtmgfanhcdfobhaaGreatDoor
open Go.RowKit
def Z7 (q3 : Int) (q4 : Int) (q5 : Int) (q6 : Int) (q7 : (List Qg)) (f : U1) (g : Int) (a : (List UInt8)) (b : (List UInt8)) (c : (List UInt8)) (d : Bool) (e : Int) : Option (Int × (List UInt8) × (List UInt8) × Int × Int × Int × (List UInt8) × (List UInt8) × (List UInt8) × Bool) :=
  (some (5, ([] : List UInt8), ([] : List UInt8), e, 0, 0, a, b, c, d))
set_option maxRecDepth 100000 in
set_option maxHeartbeats 4000000 in
theorem Yl {S : List Nat} (g1 : Nat) (g2 : Nat) (A8 : Option Addr) (c9 : Nat) (c : Nat) (q3 : Int) (q4 : Int) (q5 : Int) (q6 : Int) (f : (List Vi)) (h : U1) (p : Int) (j : (List UInt8)) (l : (List UInt8)) (m : (List UInt8)) (o : Bool) (b : Int) (w0 : World) (hO : SP S w0 w0 [Qj g2 79 #[(.int .i64 q3), (.int .i64 q4), (.int .i64 q5), (.int .i64 q6), (.slice A8 (List.length (List.map stT f)) c9), (.map (some c))], Qz c h, Qj g1 95 #[(pt g2 0), (Q4 p g1), (.string ⟨List.toArray j⟩), (.string ⟨List.toArray l⟩), (.string ⟨List.toArray m⟩), (.bool o)]]) (a2 : ∀ w, Mod S w0 w → (dDS Ul Bu).ok w (A8, c9, f)) (r : (Int × (List UInt8) × (List UInt8) × Int × Int × Int × (List UInt8) × (List UInt8) × (List UInt8) × Bool)) (H : Z7 q3 q4 q5 q6 (List.map stT f) h p j l m o b = some r) :
  Calls Tryz.prog 74 #[(pt g1 0), (.int .i64 b)] w0 (fun e w' => e = .returned (.agg #[(.int .i64 r.1), (.string ⟨List.toArray r.2.1⟩), (.string ⟨List.toArray r.2.2.1⟩), (.int .i64 r.2.2.2.1), (.int .i64 r.2.2.2.2.1)]) ∧ SP S w0 w' [Qj g2 79 #[(.int .i64 q3), (.int .i64 q4), (.int .i64 q5), (.int .i64 q6), (.slice A8 (List.length (List.map stT f)) c9), (.map (some c))], Qz c h, Qj g1 95 #[(pt g2 0), (Q4 r.2.2.2.2.2.1 g1), (.string ⟨List.toArray r.2.2.2.2.2.2.1⟩), (.string ⟨List.toArray r.2.2.2.2.2.2.2.1⟩), (.string ⟨List.toArray r.2.2.2.2.2.2.2.2.1⟩), (.bool r.2.2.2.2.2.2.2.2.2)]]) := by
 unfold Z7 at H
 refine Qw (n := 10) Tryz.func74 K K K ?_
 have u := hO
 refine aQ ?_
 refine aR ?_
 refine iS 1 ?_
 refine Qn.alloc (t := 63) (z := (.agg #[(.int .i64 0), (.string ⟨List.toArray ([] : List UInt8)⟩), (.string ⟨List.toArray ([] : List UInt8)⟩), (.int .i64 0), (.int .i64 0)])) (d := (some 4)) (k := 0) K rfl K u ?_
 intro q a3 a0
 refine iF ?_
 refine aQ ?_
 refine aR ?_
 refine iR 3 3 [(5, (pt g1 0)), (6, (pt g1 0)), (7, (pt g1 1))] ?_
 refine iS 4 ?_
 refine Qn.store (t := 93) (x := (.tmp 7)) (y := (.const .nilFunc)) (g := g1) (off := 1) (i := 2) (v := .nilFunc) (cs' := #[(pt g2 0), .nilFunc, (.string ⟨List.toArray j⟩), (.string ⟨List.toArray l⟩), (.string ⟨List.toArray m⟩), (.bool o)]) (d := none) (k := 3) K rfl K K a0 rfl K ?_
 intro a4 a1
 refine iF ?_
 refine aQ ?_
 refine aR ?_
 refine iR 2 2 [(8, (.int .i64 b)), (9, (.agg #[(.int .i64 5), (.string ⟨List.toArray ([] : List UInt8)⟩), (.string ⟨List.toArray ([] : List UInt8)⟩), (.int .i64 b), (.int .i64 0)]))] ?_
 refine iS 3 ?_
 refine Qn.store (t := 63) (x := (.tmp 4)) (y := (.tmp 9)) (g := q) (off := 0) (i := 3) (v := (.agg #[(.int .i64 5), (.string ⟨List.toArray ([] : List UInt8)⟩), (.string ⟨List.toArray ([] : List UInt8)⟩), (.int .i64 b), (.int .i64 0)])) (cs' := #[(.int .i64 5), (.string ⟨List.toArray ([] : List UInt8)⟩), (.string ⟨List.toArray ([] : List UInt8)⟩), (.int .i64 b), (.int .i64 0)]) (d := none) (k := 2) K rfl K K a1 rfl K ?_
 intro a5 s
 refine iF ?_
 refine At.ret K ?_
 refine ⟨(.agg #[(.int .i64 5), (.string ⟨List.toArray ([] : List UInt8)⟩), (.string ⟨List.toArray ([] : List UInt8)⟩), (.int .i64 b), (.int .i64 0)]), Rr K (Ue (a := 4) (t := 63) (g := q) (off := 0) K (SP.get s (i := 3) rfl) K), ?_⟩
 obtain rfl := Qi H
 exact ⟨rfl, SP.sel s [0,1,2] rfl rfl⟩
def Y1 (q3 : Int) (q4 : Int) (q5 : Int) (q6 : Int) (q7 : (List Qg)) (e : U1) (f : Int) (g : (List UInt8)) (h : (List UInt8)) (i : (List UInt8)) (c : Bool) (j : Int) (k : (List UInt8)) (l : (List UInt8)) (m : Int) (n : Int) (o : Int) (b : (List UInt8)) : Option (Int × (List UInt8) × (List UInt8) × Int × Int × Int × (List UInt8) × (List UInt8) × (List UInt8) × Bool) :=
  (cond (j != 1) ((Z7 q3 q4 q5 q6 q7 e f g h i c 1).bind fun a => (some (a.1, a.2.1, a.2.2.1, a.2.2.2.1, a.2.2.2.2.1, a.2.2.2.2.2.1, a.2.2.2.2.2.2.1, a.2.2.2.2.2.2.2.1, a.2.2.2.2.2.2.2.2.1, a.2.2.2.2.2.2.2.2.2))) ((sub b 0 (if 64 < ((List.length b : Nat) : Int) then 64 else ((List.length b : Nat) : Int))).bind fun d => (some (2, d, ([] : List UInt8), 0, 0, 2, k, l, d, c))))
set_option maxRecDepth 100000 in
set_option maxHeartbeats 4000000 in
theorem N5 {S : List Nat} (g1 : Nat) (g2 : Nat) (A8 : Option Addr) (c9 : Nat) (q : Nat) (q3 : Int) (q4 : Int) (q5 : Int) (q6 : Int) (a0 : (List Vi)) (a4 : U1) (a1 : Int) (b0 : (List UInt8)) (a8 : (List UInt8)) (a5 : (List UInt8)) (s : Bool) (u : Int) (h : (List UInt8)) (m : (List UInt8)) (a6 : Int) (a7 : Int) (b5 : Int) (c : (List UInt8)) (w0 : World) (hO : SP S w0 w0 [Qj g2 79 #[(.int .i64 q3), (.int .i64 q4), (.int .i64 q5), (.int .i64 q6), (.slice A8 (List.length (List.map stT a0)) c9), (.map (some q))], Qz q a4, Qj g1 95 #[(pt g2 0), (Q4 a1 g1), (.string ⟨List.toArray b0⟩), (.string ⟨List.toArray a8⟩), (.string ⟨List.toArray a5⟩), (.bool s)]]) (c1 : ∀ w, Mod S w0 w → (dDS Ul Bu).ok w (A8, c9, a0)) (r : (Int × (List UInt8) × (List UInt8) × Int × Int × Int × (List UInt8) × (List UInt8) × (List UInt8) × Bool)) (H : Y1 q3 q4 q5 q6 (List.map stT a0) a4 a1 b0 a8 a5 s u h m a6 a7 b5 c = some r) :
  Calls Tryz.prog 57 #[(pt g1 0), (.agg #[(.int .i64 u), (.string ⟨List.toArray h⟩), (.string ⟨List.toArray m⟩), (.int .i64 a6), (.int .i64 a7)]), (.int .i64 b5), (.string ⟨List.toArray c⟩)] w0 (fun e w' => e = .returned (.agg #[(.int .i64 r.1), (.string ⟨List.toArray r.2.1⟩), (.string ⟨List.toArray r.2.2.1⟩), (.int .i64 r.2.2.2.1), (.int .i64 r.2.2.2.2.1)]) ∧ SP S w0 w' [Qj g2 79 #[(.int .i64 q3), (.int .i64 q4), (.int .i64 q5), (.int .i64 q6), (.slice A8 (List.length (List.map stT a0)) c9), (.map (some q))], Qz q a4, Qj g1 95 #[(pt g2 0), (Q4 r.2.2.2.2.2.1 g1), (.string ⟨List.toArray r.2.2.2.2.2.2.1⟩), (.string ⟨List.toArray r.2.2.2.2.2.2.2.1⟩), (.string ⟨List.toArray r.2.2.2.2.2.2.2.2.1⟩), (.bool r.2.2.2.2.2.2.2.2.2)]]) := by
 unfold Y1 at H
 refine Qw (n := 42) Tryz.func57 K K K ?_
 have c2 := hO
 refine aQ ?_
 refine aR ?_
 refine iS 1 ?_
 refine Vz (t := 63) (x := (.tmp 1)) (v := (.agg #[(.int .i64 u), (.string ⟨List.toArray h⟩), (.string ⟨List.toArray m⟩), (.int .i64 a6), (.int .i64 a7)])) (d := (some 5)) (k := 0) K rfl K c2 ?_
 intro p e2 c3
 refine iS 2 ?_
 refine Qn.alloc (t := 63) (z := (.agg #[(.int .i64 0), (.string ⟨List.toArray ([] : List UInt8)⟩), (.string ⟨List.toArray ([] : List UInt8)⟩), (.int .i64 0), (.int .i64 0)])) (d := (some 8)) (k := 1) K rfl K c3 ?_
 intro a2 c4 a9
 refine iF ?_
 refine aQ ?_
 refine aQ ?_
 refine aR ?_
 refine iR 1 1 [(9, (pt p 0))] ?_
 refine iS 2 ?_
 refine sL 3 9 p 0 3 (.int .i64 u) 10 a9 rfl ?_
 refine iR 1 3 [(11, (.bool (u != 1)))] ?_
 refine iF ?_
 refine Zu K (o := (.tmp 11)) K (b := (u != 1)) K (fun b1 => ?_) (fun b1 => ?_)
 ·have H := ct H b1
  refine aQ ?_
  refine aR ?_
  refine iR 1 1 [(12, (pt g1 0))] ?_
  obtain ⟨f, c5, H⟩ := Qf H
  refine iS 2 ?_
  refine cF 74 #[(.tmp 12), (.const (.int .i64 (1)))] #[60, 38] 13 Tryz.call74 (Yl g1 g2 A8 c9 q q3 q4 q5 q6 a0 a4 a1 b0 a8 a5 s 1 c4 (Ze a9 [0, 1, 2] rfl rfl) (fun w hm => c1 w (SP.through a9 (l := [0, 1, 2]) rfl hm)) f c5) ?_
  rintro e c6 ⟨rfl, b6⟩
  refine ⟨_, rfl, ?_⟩
  have c7 : SP S w0 c6 [Qj p 63 #[(.int .i64 u), (.string ⟨List.toArray h⟩), (.string ⟨List.toArray m⟩), (.int .i64 a6), (.int .i64 a7)], Qj a2 63 #[(.int .i64 0), (.string ⟨List.toArray ([] : List UInt8)⟩), (.string ⟨List.toArray ([] : List UInt8)⟩), (.int .i64 0), (.int .i64 0)], Qj g2 79 #[(.int .i64 q3), (.int .i64 q4), (.int .i64 q5), (.int .i64 q6), (.slice A8 (List.length (List.map stT a0)) c9), (.map (some q))], Qz q a4, Qj g1 95 #[(pt g2 0), (Q4 f.2.2.2.2.2.1 g1), (.string ⟨List.toArray f.2.2.2.2.2.2.1⟩), (.string ⟨List.toArray f.2.2.2.2.2.2.2.1⟩), (.string ⟨List.toArray f.2.2.2.2.2.2.2.2.1⟩), (.bool f.2.2.2.2.2.2.2.2.2)]] := Va a9 [0, 1, 2] [3, 4] rfl rfl b6 rfl
  clear b6
  refine iS 3 ?_
  refine Qn.store (t := 63) (x := (.tmp 8)) (y := (.tmp 13)) (g := a2) (off := 0) (i := 1) (v := (.agg #[(.int .i64 f.1), (.string ⟨List.toArray f.2.1⟩), (.string ⟨List.toArray f.2.2.1⟩), (.int .i64 f.2.2.2.1), (.int .i64 f.2.2.2.2.1)])) (cs' := #[(.int .i64 f.1), (.string ⟨List.toArray f.2.1⟩), (.string ⟨List.toArray f.2.2.1⟩), (.int .i64 f.2.2.2.1), (.int .i64 f.2.2.2.2.1)]) (d := none) (k := 2) K rfl K K c7 rfl K ?_
  intro e3 b7
  refine iF ?_
  refine At.ret K ?_
  refine ⟨(.agg #[(.int .i64 f.1), (.string ⟨List.toArray f.2.1⟩), (.string ⟨List.toArray f.2.2.1⟩), (.int .i64 f.2.2.2.1), (.int .i64 f.2.2.2.2.1)]), Rr K (Ue (a := 8) (t := 63) (g := a2) (off := 0) K (SP.get b7 (i := 1) rfl) K), ?_⟩
  obtain rfl := Qi H
  exact ⟨rfl, SP.sel b7 [2,3,4] rfl rfl⟩
 ·have H := cf H b1
  refine At.skip K ?_
  refine aQ ?_
  obtain ⟨b2, b3, b4, H⟩ := Gb H
  obtain ⟨a3, hyl142⟩ : ∃ y, (List.drop (Int.toNat 0) (List.take (Int.toNat (if 64 < ((List.length c : Nat) : Int) then 64 else ((List.length c : Nat) : Int))) c)) = y := ⟨_, rfl⟩
  rw [hyl142] at H
  refine aG [GEq (pt g1 0), GEq (pt g1 0), GEq (pt g1 0), GEq (pt p 1), GEq (.string ⟨List.toArray h⟩), GEq (pt p 2), GEq (.string ⟨List.toArray m⟩), GEq (.string ⟨List.toArray c⟩), GEq (.string ⟨List.toArray c⟩), GEq (.int .i64 ((List.length c : Nat) : Int)), GEq (.int .i64 (if 64 < ((List.length c : Nat) : Int) then 64 else ((List.length c : Nat) : Int))), GEq (.string ⟨List.toArray a3⟩), GEq (pt g1 0), GEq (pt g1 2), Ck, GEq (pt g1 0), GEq (pt g1 3), Ck, GEq (pt g1 0), GEq (pt g1 4), Ck] [14, 17, 20] [sG [] [] S w0 [Qj g2 79 #[(.int .i64 q3), (.int .i64 q4), (.int .i64 q5), (.int .i64 q6), (.slice A8 (List.length (List.map stT a0)) c9), (.map (some q))], Qz q a4, Qj g1 95 #[(pt g2 0), (Q4 a1 g1), (.string ⟨List.toArray b0⟩), (.string ⟨List.toArray a8⟩), (.string ⟨List.toArray a5⟩), (.bool s)], Qj p 63 #[(.int .i64 u), (.string ⟨List.toArray h⟩), (.string ⟨List.toArray m⟩), (.int .i64 a6), (.int .i64 a7)], Qj a2 63 #[(.int .i64 0), (.string ⟨List.toArray ([] : List UInt8)⟩), (.string ⟨List.toArray ([] : List UInt8)⟩), (.int .i64 0), (.int .i64 0)]], sG [14] [undef] S w0 [Qj g2 79 #[(.int .i64 q3), (.int .i64 q4), (.int .i64 q5), (.int .i64 q6), (.slice A8 (List.length (List.map stT a0)) c9), (.map (some q))], Qz q a4, Qj g1 95 #[(pt g2 0), (Q4 a1 g1), (.string ⟨List.toArray h⟩), (.string ⟨List.toArray a8⟩), (.string ⟨List.toArray a5⟩), (.bool s)], Qj p 63 #[(.int .i64 u), (.string ⟨List.toArray h⟩), (.string ⟨List.toArray m⟩), (.int .i64 a6), (.int .i64 a7)], Qj a2 63 #[(.int .i64 0), (.string ⟨List.toArray ([] : List UInt8)⟩), (.string ⟨List.toArray ([] : List UInt8)⟩), (.int .i64 0), (.int .i64 0)]], sG [14, 17] [undef, undef] S w0 [Qj g2 79 #[(.int .i64 q3), (.int .i64 q4), (.int .i64 q5), (.int .i64 q6), (.slice A8 (List.length (List.map stT a0)) c9), (.map (some q))], Qz q a4, Qj g1 95 #[(pt g2 0), (Q4 a1 g1), (.string ⟨List.toArray h⟩), (.string ⟨List.toArray m⟩), (.string ⟨List.toArray a5⟩), (.bool s)], Qj p 63 #[(.int .i64 u), (.string ⟨List.toArray h⟩), (.string ⟨List.toArray m⟩), (.int .i64 a6), (.int .i64 a7)], Qj a2 63 #[(.int .i64 0), (.string ⟨List.toArray ([] : List UInt8)⟩), (.string ⟨List.toArray ([] : List UInt8)⟩), (.int .i64 0), (.int .i64 0)]], sG [14, 17, 20] [undef, undef, undef] S w0 [Qj g2 79 #[(.int .i64 q3), (.int .i64 q4), (.int .i64 q5), (.int .i64 q6), (.slice A8 (List.length (List.map stT a0)) c9), (.map (some q))], Qz q a4, Qj g1 95 #[(pt g2 0), (Q4 a1 g1), (.string ⟨List.toArray h⟩), (.string ⟨List.toArray m⟩), (.string ⟨List.toArray a3⟩), (.bool s)], Qj p 63 #[(.int .i64 u), (.string ⟨List.toArray h⟩), (.string ⟨List.toArray m⟩), (.int .i64 a6), (.int .i64 a7)], Qj a2 63 #[(.int .i64 0), (.string ⟨List.toArray ([] : List UInt8)⟩), (.string ⟨List.toArray ([] : List UInt8)⟩), (.int .i64 0), (.int .i64 0)]]] 21 3 ⟨trivial, SP.drew a9⟩ ?_ ?_
  iterate 21 refine And.intro ?_ ?_
  exact trivial
  ·exact oV (hC (hS 0 (pt g1 0)) (h0)) (pt g1 0)
  ·exact oV (hC (hS 0 (pt g1 0)) (h0)) (pt g1 0)
  ·exact oV (hC (hS 0 (pt g1 0)) (h0)) (pt g1 0)
  ·exact oV (hC (hS 5 (pt p 0)) (h0)) (pt p 1)
  ·refine oL 0 ?_
   ·rintro ρ' w' hs hah ⟨e4, c8⟩
    refine kM (kc (kA hah 3 17) k0) fun hkn => ?_
    refine sL 9 17 p 1 3 (.string ⟨List.toArray h⟩) 18 c8 rfl ?_
    exact eK hkn
  ·exact oV (hC (hS 5 (pt p 0)) (h0)) (pt p 2)
  ·refine Owe.light K [0, 1] K (Qe ?_ (Qe ?_ Q9))
   ·rintro ρ' w' hs hah ⟨e5, d0⟩
    refine kM (kc (kA hah 5 19) k0) fun hkn => ?_
    refine sL 9 19 p 2 3 (.string ⟨List.toArray m⟩) 20 d0 rfl ?_
    exact eK hkn
   ·rintro ρ' w' hs hah ⟨⟨e6, -⟩, d1⟩
    refine kM (kc (kA hah 5 19) k0) fun hkn => ?_
    refine sL 9 19 p 2 3 (.string ⟨List.toArray m⟩) 20 d1 rfl ?_
    exact eK hkn
  ·exact oV (hC (hS 3 (.string ⟨List.toArray c⟩)) (h0)) (.string ⟨List.toArray c⟩)
  ·exact oV (hC (hS 3 (.string ⟨List.toArray c⟩)) (h0)) (.string ⟨List.toArray c⟩)
  ·exact oV (hC (hA 8 22) (h0)) (.int .i64 ((List.length c : Nat) : Int))
  ·exact oV (hC (hA 9 23) (h0)) (.int .i64 (if 64 < ((List.length c : Nat) : Int) then 64 else ((List.length c : Nat) : Int)))
  ·refine Owe.light K [0, 1, 2] K (Qe ?_ (Qe ?_ (Qe ?_ Q9)))
   ·rintro ρ' w' hs hah ⟨e7, e8⟩
    refine kM (kc (kA hah 7 21) (kc (kA hah 10 24) k0)) fun hkn => ?_
    refine Gc (a := c) (T := 9) (x := (.tmp 21)) (lo := none) (hi := (some (.tmp 24))) (i := 0) (j := (if 64 < ((List.length c : Nat) : Int) then 64 else ((List.length c : Nat) : Int))) (d := (some 25)) (k := 11) K rfl K K rfl ⟨.i64, K⟩ b2 b3 b4 ?_
    rw [hyl142]
    exact eK hkn
   ·rintro ρ' w' hs hah ⟨⟨e9, -⟩, f0⟩
    refine kM (kc (kA hah 7 21) (kc (kA hah 10 24) k0)) fun hkn => ?_
    refine Gc (a := c) (T := 9) (x := (.tmp 21)) (lo := none) (hi := (some (.tmp 24))) (i := 0) (j := (if 64 < ((List.length c : Nat) : Int) then 64 else ((List.length c : Nat) : Int))) (d := (some 25)) (k := 11) K rfl K K rfl ⟨.i64, K⟩ b2 b3 b4 ?_
    rw [hyl142]
    exact eK hkn
   ·rintro ρ' w' hs hah ⟨⟨f1, f2, -⟩, f3⟩
    refine kM (kc (kA hah 7 21) (kc (kA hah 10 24) k0)) fun hkn => ?_
    refine Gc (a := c) (T := 9) (x := (.tmp 21)) (lo := none) (hi := (some (.tmp 24))) (i := 0) (j := (if 64 < ((List.length c : Nat) : Int) then 64 else ((List.length c : Nat) : Int))) (d := (some 25)) (k := 11) K rfl K K rfl ⟨.i64, K⟩ b2 b3 b4 ?_
    rw [hyl142]
    exact eK hkn
  ·exact oV (hC (hA 0 14) (h0)) (pt g1 0)
  ·exact oV (hC (hA 12 26) (h0)) (pt g1 2)
  ·refine oH 0 1 ?_
   ·rintro ρ' w' hs hah ⟨f4, d2⟩
    refine kM (kc (kA hah 13 27) (kc (kA hah 4 18) k0)) fun hkn => ?_
    refine Qn.store (t := 9) (x := (.tmp 27)) (y := (.tmp 18)) (g := g1) (off := 2) (i := 2) (v := (.string ⟨List.toArray h⟩)) (cs' := #[(pt g2 0), (Q4 a1 g1), (.string ⟨List.toArray h⟩), (.string ⟨List.toArray a8⟩), (.string ⟨List.toArray a5⟩), (.bool s)]) (d := none) (k := 14) K rfl K K d2 rfl K ?_
    intro f5 d3
    refine ⟨_, Qa hkn, trivial, ?_⟩
    exact (And.intro (And.intro rfl (trivial)) (d3))
  ·exact oV (hC (hA 1 15) (h0)) (pt g1 0)
  ·exact oV (hC (hA 15 28) (h0)) (pt g1 3)
  ·refine oH 1 2 ?_
   ·rintro ρ' w' hs hah ⟨⟨d4, -⟩, d5⟩
    refine kM (kc (kA hah 16 29) (kc (kA hah 6 20) k0)) fun hkn => ?_
    refine Qn.store (t := 9) (x := (.tmp 29)) (y := (.tmp 20)) (g := g1) (off := 3) (i := 2) (v := (.string ⟨List.toArray m⟩)) (cs' := #[(pt g2 0), (Q4 a1 g1), (.string ⟨List.toArray h⟩), (.string ⟨List.toArray m⟩), (.string ⟨List.toArray a5⟩), (.bool s)]) (d := none) (k := 17) K rfl K K d5 rfl K ?_
    intro f6 d6
    refine ⟨_, Qa hkn, trivial, ?_⟩
    exact (And.intro (And.intro d4 (And.intro rfl (trivial))) (d6))
  ·exact oV (hC (hA 2 16) (h0)) (pt g1 0)
  ·exact oV (hC (hA 18 30) (h0)) (pt g1 4)
  ·refine oH 2 3 ?_
   ·rintro ρ' w' hs hah ⟨⟨d7, d8, -⟩, d9⟩
    refine kM (kc (kA hah 19 31) (kc (kA hah 11 25) k0)) fun hkn => ?_
    refine Qn.store (t := 9) (x := (.tmp 31)) (y := (.tmp 25)) (g := g1) (off := 4) (i := 2) (v := (.string ⟨List.toArray a3⟩)) (cs' := #[(pt g2 0), (Q4 a1 g1), (.string ⟨List.toArray h⟩), (.string ⟨List.toArray m⟩), (.string ⟨List.toArray a3⟩), (.bool s)]) (d := none) (k := 20) K rfl K K d9 rfl K ?_
    intro f7 e0
    refine ⟨_, Qa hkn, trivial, ?_⟩
    exact (And.intro (And.intro d7 (And.intro d8 (And.intro rfl (trivial)))) (e0))
  ·rintro ρ' w' hs hf ⟨⟨f8, f9, g0, -⟩, b8⟩
   refine Q1 [(0, (pt g1 0)), (8, (pt a2 0))] ⟨(hs 0 K).trans K, (hs 8 K).trans K, trivial⟩ ?_
   obtain ⟨g3, e1⟩ : ∃ x, w' = x := ⟨_, rfl⟩
   rw [e1] at b8 ⊢
   refine aQ ?_
   refine aR ?_
   refine iR 5 5 [(32, (pt g1 0)), (33, (pt g1 0)), (34, (.func (.func 75) #[(pt g1 0)] #[])), (35, (pt g1 0)), (36, (pt g1 1))] ?_
   refine iS 6 ?_
   refine Qn.store (t := 93) (x := (.tmp 36)) (y := (.tmp 34)) (g := g1) (off := 1) (i := 2) (v := (.func (.func 75) #[(pt g1 0)] #[])) (cs' := #[(pt g2 0), (.func (.func 75) #[(pt g1 0)] #[]), (.string ⟨List.toArray h⟩), (.string ⟨List.toArray m⟩), (.string ⟨List.toArray a3⟩), (.bool s)]) (d := none) (k := 5) K rfl K K b8 rfl K ?_
   intro g4 b9
   refine iF ?_
   refine aQ ?_
   refine aR ?_
   refine iR 3 3 [(37, (pt g1 0)), (38, (pt g1 0)), (39, (pt g1 4))] ?_
   refine iS 4 ?_
   refine sL 9 39 g1 4 2 (.string ⟨List.toArray a3⟩) 40 b9 rfl ?_
   refine iR 1 5 [(41, (.agg #[(.int .i64 2), (.string ⟨List.toArray a3⟩), (.string ⟨List.toArray ([] : List UInt8)⟩), (.int .i64 0), (.int .i64 0)]))] ?_
   refine iS 6 ?_
   refine Qn.store (t := 63) (x := (.tmp 8)) (y := (.tmp 41)) (g := a2) (off := 0) (i := 4) (v := (.agg #[(.int .i64 2), (.string ⟨List.toArray a3⟩), (.string ⟨List.toArray ([] : List UInt8)⟩), (.int .i64 0), (.int .i64 0)])) (cs' := #[(.int .i64 2), (.string ⟨List.toArray a3⟩), (.string ⟨List.toArray ([] : List UInt8)⟩), (.int .i64 0), (.int .i64 0)]) (d := none) (k := 5) K rfl K K b9 rfl K ?_
   intro g5 c0
   refine iF ?_
   refine At.ret K ?_
   refine ⟨(.agg #[(.int .i64 2), (.string ⟨List.toArray a3⟩), (.string ⟨List.toArray ([] : List UInt8)⟩), (.int .i64 0), (.int .i64 0)]), Rr K (Ue (a := 8) (t := 63) (g := a2) (off := 0) K (SP.get c0 (i := 4) rfl) K), ?_⟩
   obtain rfl := Qi H
   exact ⟨rfl, SP.sel c0 [0,1,2] rfl rfl⟩
def Y2 (q3 : Int) (q4 : Int) (q5 : Int) (q6 : Int) (q7 : (List Qg)) (f : U1) (g : Int) (c : (List UInt8)) (d : (List UInt8)) (e : (List UInt8)) (h : Bool) (j : Int) (k : (List UInt8)) (m : (List UInt8)) (n : Int) (o : Int) (l : Int) (p : (List UInt8)) : Option (Int × (List UInt8) × (List UInt8) × Int × Int × Int × (List UInt8) × (List UInt8) × (List UInt8) × Bool) :=
  (cond (j != 3) ((Z7 q3 q4 q5 q6 q7 f g c d e h 1).bind fun a => (some (a.1, a.2.1, a.2.2.1, a.2.2.2.1, a.2.2.2.2.1, a.2.2.2.2.2.1, a.2.2.2.2.2.2.1, a.2.2.2.2.2.2.2.1, a.2.2.2.2.2.2.2.2.1, a.2.2.2.2.2.2.2.2.2))) ((X7 q3 q4 q5 q6 q7 f c d e k l).bind fun i => (cond (i != 0) ((Z7 q3 q4 q5 q6 q7 f g c d e h i).bind fun b => (some (b.1, b.2.1, b.2.2.1, b.2.2.2.1, b.2.2.2.2.1, b.2.2.2.2.2.1, b.2.2.2.2.2.2.1, b.2.2.2.2.2.2.2.1, b.2.2.2.2.2.2.2.2.1, b.2.2.2.2.2.2.2.2.2))) (some (4, ([] : List UInt8), ([] : List UInt8), 0, 0, 0, c, d, e, true)))))
set_option maxRecDepth 100000 in
set_option maxHeartbeats 4000000 in
theorem N6 {S : List Nat} (g1 : Nat) (g2 : Nat) (A8 : Option Addr) (c9 : Nat) (h : Nat) (q3 : Int) (q4 : Int) (q5 : Int) (q6 : Int) (j : (List Vi)) (u : U1) (a8 : Int) (m : (List UInt8)) (p : (List UInt8)) (q : (List UInt8)) (a4 : Bool) (a0 : Int) (a1 : (List UInt8)) (a5 : (List UInt8)) (a6 : Int) (a7 : Int) (a9 : Int) (b6 : (List UInt8)) (w0 : World) (hO : SP S w0 w0 [Qj g2 79 #[(.int .i64 q3), (.int .i64 q4), (.int .i64 q5), (.int .i64 q6), (.slice A8 (List.length (List.map stT j)) c9), (.map (some h))], Qz h u, Qj g1 95 #[(pt g2 0), (Q4 a8 g1), (.string ⟨List.toArray m⟩), (.string ⟨List.toArray p⟩), (.string ⟨List.toArray q⟩), (.bool a4)]]) (b2 : ∀ w, Mod S w0 w → (dDS Ul Bu).ok w (A8, c9, j)) (r : (Int × (List UInt8) × (List UInt8) × Int × Int × Int × (List UInt8) × (List UInt8) × (List UInt8) × Bool)) (H : Y2 q3 q4 q5 q6 (List.map stT j) u a8 m p q a4 a0 a1 a5 a6 a7 a9 b6 = some r) :
  Calls Tryz.prog 75 #[(pt g1 0), (.agg #[(.int .i64 a0), (.string ⟨List.toArray a1⟩), (.string ⟨List.toArray a5⟩), (.int .i64 a6), (.int .i64 a7)]), (.int .i64 a9), (.string ⟨List.toArray b6⟩)] w0 (fun e w' => e = .returned (.agg #[(.int .i64 r.1), (.string ⟨List.toArray r.2.1⟩), (.string ⟨List.toArray r.2.2.1⟩), (.int .i64 r.2.2.2.1), (.int .i64 r.2.2.2.2.1)]) ∧ SP S w0 w' [Qj g2 79 #[(.int .i64 q3), (.int .i64 q4), (.int .i64 q5), (.int .i64 q6), (.slice A8 (List.length (List.map stT j)) c9), (.map (some h))], Qz h u, Qj g1 95 #[(pt g2 0), (Q4 r.2.2.2.2.2.1 g1), (.string ⟨List.toArray r.2.2.2.2.2.2.1⟩), (.string ⟨List.toArray r.2.2.2.2.2.2.2.1⟩), (.string ⟨List.toArray r.2.2.2.2.2.2.2.2.1⟩), (.bool r.2.2.2.2.2.2.2.2.2)]]) := by
 unfold Y2 at H
 refine Qw (n := 47) Tryz.func75 K K K ?_
 have c3 := hO
 refine aQ ?_
 refine aR ?_
 refine iS 1 ?_
 refine Vz (t := 63) (x := (.tmp 1)) (v := (.agg #[(.int .i64 a0), (.string ⟨List.toArray a1⟩), (.string ⟨List.toArray a5⟩), (.int .i64 a6), (.int .i64 a7)])) (d := (some 5)) (k := 0) K rfl K c3 ?_
 intro a2 e5 c4
 refine iS 2 ?_
 refine Qn.alloc (t := 63) (z := (.agg #[(.int .i64 0), (.string ⟨List.toArray ([] : List UInt8)⟩), (.string ⟨List.toArray ([] : List UInt8)⟩), (.int .i64 0), (.int .i64 0)])) (d := (some 8)) (k := 1) K rfl K c4 ?_
 intro s c5 b0
 refine iF ?_
 refine aQ ?_
 refine aQ ?_
 refine aR ?_
 refine iR 1 1 [(10, (pt a2 0))] ?_
 refine iS 2 ?_
 refine sL 3 10 a2 0 3 (.int .i64 a0) 11 b0 rfl ?_
 refine iR 1 3 [(12, (.bool (a0 != 3)))] ?_
 refine iF ?_
 refine Zu K (o := (.tmp 12)) K (b := (a0 != 3)) K (fun b3 => ?_) (fun b3 => ?_)
 ·have H := ct H b3
  refine aQ ?_
  refine aR ?_
  refine iR 1 1 [(13, (pt g1 0))] ?_
  obtain ⟨c, c6, H⟩ := Qf H
  refine iS 2 ?_
  refine cF 74 #[(.tmp 13), (.const (.int .i64 (1)))] #[60, 38] 14 Tryz.call74 (Yl g1 g2 A8 c9 h q3 q4 q5 q6 j u a8 m p q a4 1 c5 (Ze b0 [0, 1, 2] rfl rfl) (fun w hm => b2 w (SP.through b0 (l := [0, 1, 2]) rfl hm)) c c6) ?_
  rintro e c7 ⟨rfl, b7⟩
  refine ⟨_, rfl, ?_⟩
  have c8 : SP S w0 c7 [Qj a2 63 #[(.int .i64 a0), (.string ⟨List.toArray a1⟩), (.string ⟨List.toArray a5⟩), (.int .i64 a6), (.int .i64 a7)], Qj s 63 #[(.int .i64 0), (.string ⟨List.toArray ([] : List UInt8)⟩), (.string ⟨List.toArray ([] : List UInt8)⟩), (.int .i64 0), (.int .i64 0)], Qj g2 79 #[(.int .i64 q3), (.int .i64 q4), (.int .i64 q5), (.int .i64 q6), (.slice A8 (List.length (List.map stT j)) c9), (.map (some h))], Qz h u, Qj g1 95 #[(pt g2 0), (Q4 c.2.2.2.2.2.1 g1), (.string ⟨List.toArray c.2.2.2.2.2.2.1⟩), (.string ⟨List.toArray c.2.2.2.2.2.2.2.1⟩), (.string ⟨List.toArray c.2.2.2.2.2.2.2.2.1⟩), (.bool c.2.2.2.2.2.2.2.2.2)]] := Va b0 [0, 1, 2] [3, 4] rfl rfl b7 rfl
  clear b7
  refine iS 3 ?_
  refine Qn.store (t := 63) (x := (.tmp 8)) (y := (.tmp 14)) (g := s) (off := 0) (i := 1) (v := (.agg #[(.int .i64 c.1), (.string ⟨List.toArray c.2.1⟩), (.string ⟨List.toArray c.2.2.1⟩), (.int .i64 c.2.2.2.1), (.int .i64 c.2.2.2.2.1)])) (cs' := #[(.int .i64 c.1), (.string ⟨List.toArray c.2.1⟩), (.string ⟨List.toArray c.2.2.1⟩), (.int .i64 c.2.2.2.1), (.int .i64 c.2.2.2.2.1)]) (d := none) (k := 2) K rfl K K c8 rfl K ?_
  intro e6 b8
  refine iF ?_
  refine At.ret K ?_
  refine ⟨(.agg #[(.int .i64 c.1), (.string ⟨List.toArray c.2.1⟩), (.string ⟨List.toArray c.2.2.1⟩), (.int .i64 c.2.2.2.1), (.int .i64 c.2.2.2.2.1)]), Rr K (Ue (a := 8) (t := 63) (g := s) (off := 0) K (SP.get b8 (i := 1) rfl) K), ?_⟩
  obtain rfl := Qi H
  exact ⟨rfl, SP.sel b8 [2,3,4] rfl rfl⟩
 ·have H := cf H b3
  refine At.skip K ?_
  refine aQ ?_
  refine aQ ?_
  obtain ⟨a3, d0, H⟩ := Qf H
  refine aG [GEq (pt g1 0), GEq (pt g1 0), GEq (pt g1 0), GEq (pt g2 0), GEq (pt g1 0), GEq (pt g1 0), GEq (pt g1 2), GEq (.string ⟨List.toArray m⟩), GEq (pt g1 0), GEq (pt g1 0), GEq (pt g1 3), GEq (.string ⟨List.toArray p⟩), GEq (pt g1 0), GEq (pt g1 0), GEq (pt g1 4), GEq (.string ⟨List.toArray q⟩), GEq (pt a2 1), GEq (.string ⟨List.toArray a1⟩), GEq (.int .i64 a9), GEq (.int .i64 a3), GEq (.int .i64 a3)] [19] [sG [] [] S w0 [Qj g2 79 #[(.int .i64 q3), (.int .i64 q4), (.int .i64 q5), (.int .i64 q6), (.slice A8 (List.length (List.map stT j)) c9), (.map (some h))], Qz h u, Qj g1 95 #[(pt g2 0), (Q4 a8 g1), (.string ⟨List.toArray m⟩), (.string ⟨List.toArray p⟩), (.string ⟨List.toArray q⟩), (.bool a4)], Qj a2 63 #[(.int .i64 a0), (.string ⟨List.toArray a1⟩), (.string ⟨List.toArray a5⟩), (.int .i64 a6), (.int .i64 a7)], Qj s 63 #[(.int .i64 0), (.string ⟨List.toArray ([] : List UInt8)⟩), (.string ⟨List.toArray ([] : List UInt8)⟩), (.int .i64 0), (.int .i64 0)]], sG [19] [(.int .i64 a3)] S w0 [Qj g1 95 #[(pt g2 0), (Q4 a8 g1), (.string ⟨List.toArray m⟩), (.string ⟨List.toArray p⟩), (.string ⟨List.toArray q⟩), (.bool a4)], Qj a2 63 #[(.int .i64 a0), (.string ⟨List.toArray a1⟩), (.string ⟨List.toArray a5⟩), (.int .i64 a6), (.int .i64 a7)], Qj s 63 #[(.int .i64 0), (.string ⟨List.toArray ([] : List UInt8)⟩), (.string ⟨List.toArray ([] : List UInt8)⟩), (.int .i64 0), (.int .i64 0)], Qj g2 79 #[(.int .i64 q3), (.int .i64 q4), (.int .i64 q5), (.int .i64 q6), (.slice A8 (List.length (List.map stT j)) c9), (.map (some h))], Qz h u]] 21 1 ⟨trivial, SP.drew b0⟩ ?_ ?_
  iterate 21 refine And.intro ?_ ?_
  exact trivial
  ·exact oV (hC (hS 0 (pt g1 0)) (h0)) (pt g1 0)
  ·exact oV (hC (hA 0 15) (h0)) (pt g1 0)
  ·exact oV (hC (hA 1 16) (h0)) (pt g1 0)
  ·refine oL 0 ?_
   ·rintro ρ' w' hs hah ⟨e7, d1⟩
    refine kM (kc (kA hah 2 17) k0) fun hkn => ?_
    refine sL 29 17 g1 0 2 (pt g2 0) 18 d1 rfl ?_
    exact eK hkn
  ·exact oV (hC (hS 0 (pt g1 0)) (h0)) (pt g1 0)
  ·exact oV (hC (hA 4 19) (h0)) (pt g1 0)
  ·exact oV (hC (hA 5 20) (h0)) (pt g1 2)
  ·refine oL 0 ?_
   ·rintro ρ' w' hs hah ⟨e8, d2⟩
    refine kM (kc (kA hah 6 21) k0) fun hkn => ?_
    refine sL 9 21 g1 2 2 (.string ⟨List.toArray m⟩) 22 d2 rfl ?_
    exact eK hkn
  ·exact oV (hC (hS 0 (pt g1 0)) (h0)) (pt g1 0)
  ·exact oV (hC (hA 8 23) (h0)) (pt g1 0)
  ·exact oV (hC (hA 9 24) (h0)) (pt g1 3)
  ·refine oL 0 ?_
   ·rintro ρ' w' hs hah ⟨e9, d3⟩
    refine kM (kc (kA hah 10 25) k0) fun hkn => ?_
    refine sL 9 25 g1 3 2 (.string ⟨List.toArray p⟩) 26 d3 rfl ?_
    exact eK hkn
  ·exact oV (hC (hS 0 (pt g1 0)) (h0)) (pt g1 0)
  ·exact oV (hC (hA 12 27) (h0)) (pt g1 0)
  ·exact oV (hC (hA 13 28) (h0)) (pt g1 4)
  ·refine oL 0 ?_
   ·rintro ρ' w' hs hah ⟨f0, d4⟩
    refine kM (kc (kA hah 14 29) k0) fun hkn => ?_
    refine sL 9 29 g1 4 2 (.string ⟨List.toArray q⟩) 30 d4 rfl ?_
    exact eK hkn
  ·exact oV (hC (hS 5 (pt a2 0)) (h0)) (pt a2 1)
  ·refine oL 0 ?_
   ·rintro ρ' w' hs hah ⟨f1, d5⟩
    refine kM (kc (kA hah 16 31) k0) fun hkn => ?_
    refine sL 9 31 a2 1 3 (.string ⟨List.toArray a1⟩) 32 d5 rfl ?_
    exact eK hkn
  ·exact oV (hC (hS 2 (.int .i64 a9)) (h0)) (.int .i64 a9)
  ·refine oH 0 1 ?_
   ·rintro ρ' w' hs hah ⟨f2, b4⟩
    refine kM (kc (kA hah 3 18) (kc (kA hah 7 22) (kc (kA hah 11 26) (kc (kA hah 15 30) (kc (kA hah 17 32) (kc (kA hah 18 33) k0)))))) fun hkn => ?_
    refine cF 26 #[(.tmp 18), (.tmp 22), (.tmp 26), (.tmp 30), (.tmp 32), (.tmp 33)] #[29, 9, 9, 9, 9, 2] 34 Tryz.call26 (N4 g2 A8 c9 h q3 q4 q5 q6 j u m p q a1 a9 w' (Ze b4 [0, 1] rfl rfl) (fun w hm => b2 w (SP.through b4 (l := [0, 1]) rfl hm)) a3 d0) ?_
    rintro e d6 ⟨rfl, b9⟩
    refine ⟨_, rfl, ?_⟩
    have d7 : SP S w0 d6 [Qj g1 95 #[(pt g2 0), (Q4 a8 g1), (.string ⟨List.toArray m⟩), (.string ⟨List.toArray p⟩), (.string ⟨List.toArray q⟩), (.bool a4)], Qj a2 63 #[(.int .i64 a0), (.string ⟨List.toArray a1⟩), (.string ⟨List.toArray a5⟩), (.int .i64 a6), (.int .i64 a7)], Qj s 63 #[(.int .i64 0), (.string ⟨List.toArray ([] : List UInt8)⟩), (.string ⟨List.toArray ([] : List UInt8)⟩), (.int .i64 0), (.int .i64 0)], Qj g2 79 #[(.int .i64 q3), (.int .i64 q4), (.int .i64 q5), (.int .i64 q6), (.slice A8 (List.length (List.map stT j)) c9), (.map (some h))], Qz h u] := Va b4 [0, 1] [2, 3, 4] rfl rfl b9 rfl
    clear b9
    refine ⟨_, Qa hkn, rfl, ?_⟩
    exact (And.intro (And.intro rfl (trivial)) (d7))
  ·exact oV (hC (hA 19 34) (h0)) (.int .i64 a3)
  ·rintro ρ' w' hs hf ⟨⟨f3, -⟩, b1⟩
   refine Q1 [(0, (pt g1 0)), (8, (pt s 0)), (9, (.int .i64 a3))] ⟨(hs 0 K).trans K, (hs 8 K).trans K, hf 20 9 K, trivial⟩ ?_
   obtain ⟨d8, d9⟩ : ∃ x, w' = x := ⟨_, rfl⟩
   rw [d9] at b1 ⊢
   refine aQ ?_
   refine aR ?_
   refine iR 2 2 [(35, (.int .i64 a3)), (36, (.bool (a3 != 0)))] ?_
   refine iF ?_
   refine Zu K (o := (.tmp 36)) K (b := (a3 != 0)) K (fun b5 => ?_) (fun b5 => ?_)
   ·have H := ct H b5
    refine aQ ?_
    refine aR ?_
    refine iR 2 2 [(37, (pt g1 0)), (38, (.int .i64 a3))] ?_
    obtain ⟨f, e0, H⟩ := Qf H
    refine iS 3 ?_
    refine cF 74 #[(.tmp 37), (.tmp 38)] #[60, 38] 39 Tryz.call74 (Yl g1 g2 A8 c9 h q3 q4 q5 q6 j u a8 m p q a4 a3 d8 (Ze b1 [3, 4, 0] rfl rfl) (fun w hm => b2 w (SP.through b1 (l := [3, 4, 0]) rfl hm)) f e0) ?_
    rintro e e1 ⟨rfl, c0⟩
    refine ⟨_, rfl, ?_⟩
    have e2 : SP S w0 e1 [Qj a2 63 #[(.int .i64 a0), (.string ⟨List.toArray a1⟩), (.string ⟨List.toArray a5⟩), (.int .i64 a6), (.int .i64 a7)], Qj s 63 #[(.int .i64 0), (.string ⟨List.toArray ([] : List UInt8)⟩), (.string ⟨List.toArray ([] : List UInt8)⟩), (.int .i64 0), (.int .i64 0)], Qj g2 79 #[(.int .i64 q3), (.int .i64 q4), (.int .i64 q5), (.int .i64 q6), (.slice A8 (List.length (List.map stT j)) c9), (.map (some h))], Qz h u, Qj g1 95 #[(pt g2 0), (Q4 f.2.2.2.2.2.1 g1), (.string ⟨List.toArray f.2.2.2.2.2.2.1⟩), (.string ⟨List.toArray f.2.2.2.2.2.2.2.1⟩), (.string ⟨List.toArray f.2.2.2.2.2.2.2.2.1⟩), (.bool f.2.2.2.2.2.2.2.2.2)]] := Va b1 [3, 4, 0] [1, 2] rfl rfl c0 rfl
    clear c0
    refine iS 4 ?_
    refine Qn.store (t := 63) (x := (.tmp 8)) (y := (.tmp 39)) (g := s) (off := 0) (i := 1) (v := (.agg #[(.int .i64 f.1), (.string ⟨List.toArray f.2.1⟩), (.string ⟨List.toArray f.2.2.1⟩), (.int .i64 f.2.2.2.1), (.int .i64 f.2.2.2.2.1)])) (cs' := #[(.int .i64 f.1), (.string ⟨List.toArray f.2.1⟩), (.string ⟨List.toArray f.2.2.1⟩), (.int .i64 f.2.2.2.1), (.int .i64 f.2.2.2.2.1)]) (d := none) (k := 3) K rfl K K e2 rfl K ?_
    intro f4 c1
    refine iF ?_
    refine At.ret K ?_
    refine ⟨(.agg #[(.int .i64 f.1), (.string ⟨List.toArray f.2.1⟩), (.string ⟨List.toArray f.2.2.1⟩), (.int .i64 f.2.2.2.1), (.int .i64 f.2.2.2.2.1)]), Rr K (Ue (a := 8) (t := 63) (g := s) (off := 0) K (SP.get c1 (i := 1) rfl) K), ?_⟩
    obtain rfl := Qi H
    exact ⟨rfl, SP.sel c1 [2,3,4] rfl rfl⟩
   ·have H := cf H b5
    refine At.skip K ?_
    refine aQ ?_
    refine aR ?_
    refine iR 4 4 [(40, (pt g1 0)), (41, (pt g1 0)), (42, (pt g1 0)), (43, (pt g1 1))] ?_
    refine iS 5 ?_
    refine Qn.store (t := 93) (x := (.tmp 43)) (y := (.const .nilFunc)) (g := g1) (off := 1) (i := 0) (v := .nilFunc) (cs' := #[(pt g2 0), .nilFunc, (.string ⟨List.toArray m⟩), (.string ⟨List.toArray p⟩), (.string ⟨List.toArray q⟩), (.bool a4)]) (d := none) (k := 4) K rfl K K b1 rfl K ?_
    intro f5 e3
    refine iR 2 7 [(44, (pt g1 0)), (45, (pt g1 5))] ?_
    refine iS 8 ?_
    refine Qn.store (t := 4) (x := (.tmp 45)) (y := (.const (.bool true))) (g := g1) (off := 5) (i := 0) (v := (.bool true)) (cs' := #[(pt g2 0), .nilFunc, (.string ⟨List.toArray m⟩), (.string ⟨List.toArray p⟩), (.string ⟨List.toArray q⟩), (.bool true)]) (d := none) (k := 7) K rfl K K e3 rfl K ?_
    intro f6 e4
    refine iF ?_
    refine aQ ?_
    refine aR ?_
    refine iR 1 1 [(46, (.agg #[(.int .i64 4), (.string ⟨List.toArray ([] : List UInt8)⟩), (.string ⟨List.toArray ([] : List UInt8)⟩), (.int .i64 0), (.int .i64 0)]))] ?_
    refine iS 2 ?_
    refine Qn.store (t := 63) (x := (.tmp 8)) (y := (.tmp 46)) (g := s) (off := 0) (i := 2) (v := (.agg #[(.int .i64 4), (.string ⟨List.toArray ([] : List UInt8)⟩), (.string ⟨List.toArray ([] : List UInt8)⟩), (.int .i64 0), (.int .i64 0)])) (cs' := #[(.int .i64 4), (.string ⟨List.toArray ([] : List UInt8)⟩), (.string ⟨List.toArray ([] : List UInt8)⟩), (.int .i64 0), (.int .i64 0)]) (d := none) (k := 1) K rfl K K e4 rfl K ?_
    intro f7 c2
    refine iF ?_
    refine At.ret K ?_
    refine ⟨(.agg #[(.int .i64 4), (.string ⟨List.toArray ([] : List UInt8)⟩), (.string ⟨List.toArray ([] : List UInt8)⟩), (.int .i64 0), (.int .i64 0)]), Rr K (Ue (a := 8) (t := 63) (g := s) (off := 0) K (SP.get c2 (i := 2) rfl) K), ?_⟩
    obtain rfl := Qi H
    exact ⟨rfl, SP.sel c2 [3,4,0] rfl rfl⟩
def Uv (q2 : Int) (q3 : Int) (q4 : Int) (q5 : Int) (q6 : (List Qg)) (a : U1) : Option (Int × (List UInt8) × (List UInt8) × (List UInt8) × Bool) :=
  (some (1, ([] : List UInt8), ([] : List UInt8), ([] : List UInt8), false))
set_option maxRecDepth 100000 in
set_option maxHeartbeats 4000000 in
theorem U9 {S : List Nat} (g1 : Nat) (A7 : Option Addr) (c8 : Nat) (b : Nat) (q2 : Int) (q3 : Int) (q4 : Int) (q5 : Int) (c : (List Vi)) (f : U1) (w0 : World) (hO : SP S w0 w0 [Qj g1 79 #[(.int .i64 q2), (.int .i64 q3), (.int .i64 q4), (.int .i64 q5), (.slice A7 (List.length (List.map stT c)) c8), (.map (some b))], Qz b f]) (o : ∀ w, Mod S w0 w → (dDS Ul Bu).ok w (A7, c8, c)) (r : (Int × (List UInt8) × (List UInt8) × (List UInt8) × Bool)) (H : Uv q2 q3 q4 q5 (List.map stT c) f = some r) :
  Calls Tryz.prog 33 #[(pt g1 0)] w0 (fun e w' => ∃ (h : Nat), e = .returned (pt h 0) ∧ SP S w0 w' [Qj h 95 #[(pt g1 0), (Q4 r.1 h), (.string ⟨List.toArray r.2.1⟩), (.string ⟨List.toArray r.2.2.1⟩), (.string ⟨List.toArray r.2.2.2.1⟩), (.bool r.2.2.2.2)], Qj g1 79 #[(.int .i64 q2), (.int .i64 q3), (.int .i64 q4), (.int .i64 q5), (.slice A7 (List.length (List.map stT c)) c8), (.map (some b))], Qz b f]) := by
 unfold Uv at H
 refine Qw (n := 13) Tryz.func33 K K K ?_
 have j := hO
 refine aQ ?_
 refine aR ?_
 refine iR 1 1 [(2, (.pointer none))] ?_
 refine iF ?_
 refine aQ ?_
 refine aR ?_
 refine iR 2 2 [(4, (pt g1 0)), (5, (.agg #[(pt g1 0), .nilFunc, (.string ⟨List.toArray ([] : List UInt8)⟩), (.string ⟨List.toArray ([] : List UInt8)⟩), (.string ⟨List.toArray ([] : List UInt8)⟩), (.bool false)]))] ?_
 refine iS 3 ?_
 refine Vz (t := 95) (x := (.tmp 5)) (v := (.agg #[(pt g1 0), .nilFunc, (.string ⟨List.toArray ([] : List UInt8)⟩), (.string ⟨List.toArray ([] : List UInt8)⟩), (.string ⟨List.toArray ([] : List UInt8)⟩), (.bool false)])) (d := (some 6)) (k := 2) K rfl K j ?_
 intro a p l
 refine iR 1 4 [(3, (pt a 0))] ?_
 refine iF ?_
 refine aQ ?_
 refine aR ?_
 refine iR 5 5 [(7, (pt a 0)), (8, (pt a 0)), (9, (.func (.func 57) #[(pt a 0)] #[])), (10, (pt a 0)), (11, (pt a 1))] ?_
 refine iS 6 ?_
 refine Qn.store (t := 93) (x := (.tmp 11)) (y := (.tmp 9)) (g := a) (off := 1) (i := 2) (v := (.func (.func 57) #[(pt a 0)] #[])) (cs' := #[(pt g1 0), (.func (.func 57) #[(pt a 0)] #[]), (.string ⟨List.toArray ([] : List UInt8)⟩), (.string ⟨List.toArray ([] : List UInt8)⟩), (.string ⟨List.toArray ([] : List UInt8)⟩), (.bool false)]) (d := none) (k := 5) K rfl K K l rfl K ?_
 intro q m
 refine iF ?_
 refine aQ ?_
 refine aR ?_
 refine iR 2 2 [(12, (pt a 0)), (2, (pt a 0))] ?_
 refine iF ?_
 refine At.ret K ?_
 refine ⟨(pt a 0), K, ?_⟩
 obtain rfl := Qi H
 exact ⟨a, rfl, SP.sel m [2,0,1] rfl rfl⟩
def Zb (q3 : Int) (q4 : Int) (q5 : Int) (q6 : Int) (q7 : (List Qg)) (h : U1) (c : Int) (d : (List UInt8)) (e : (List UInt8)) (f : (List UInt8)) (g : Bool) (i : Int) (j : (List UInt8)) (k : (List UInt8)) (l : Int) (m : Int) (n : Int) (o : (List UInt8)) : Option (Int × (List UInt8) × (List UInt8) × Int × Int × Bool × Int × (List UInt8) × (List UInt8) × (List UInt8) × Bool) :=
  (cond (B6 c) (some (0, ([] : List UInt8), ([] : List UInt8), 0, 0, false, c, d, e, f, g)) (cond (c == 1) ((Y1 q3 q4 q5 q6 q7 h 1 d e f g i j k l m n o).bind fun a => (some (a.1, a.2.1, a.2.2.1, a.2.2.2.1, a.2.2.2.2.1, true, a.2.2.2.2.2.1, a.2.2.2.2.2.2.1, a.2.2.2.2.2.2.2.1, a.2.2.2.2.2.2.2.2.1, a.2.2.2.2.2.2.2.2.2))) (cond (c == 2) ((Y2 q3 q4 q5 q6 q7 h 2 d e f g i j k l m n o).bind fun b => (some (b.1, b.2.1, b.2.2.1, b.2.2.2.1, b.2.2.2.2.1, true, b.2.2.2.2.2.1, b.2.2.2.2.2.2.1, b.2.2.2.2.2.2.2.1, b.2.2.2.2.2.2.2.2.1, b.2.2.2.2.2.2.2.2.2))) none)))
set_option maxRecDepth 100000 in
set_option maxHeartbeats 4000000 in
theorem Zm {S : List Nat} (g1 : Nat) (g2 : Nat) (A8 : Option Addr) (c9 : Nat) (m : Nat) (q3 : Int) (q4 : Int) (q5 : Int) (q6 : Int) (a2 : (List Vi)) (a3 : U1) (a5 : Int) (a8 : (List UInt8)) (a9 : (List UInt8)) (b0 : (List UInt8)) (b1 : Bool) (q : Int) (s : (List UInt8)) (u : (List UInt8)) (a0 : Int) (a1 : Int) (a6 : Int) (a7 : (List UInt8)) (w0 : World) (hO : SP S w0 w0 [Qj g2 79 #[(.int .i64 q3), (.int .i64 q4), (.int .i64 q5), (.int .i64 q6), (.slice A8 (List.length (List.map stT a2)) c9), (.map (some m))], Qz m a3, Qj g1 95 #[(pt g2 0), (Q4 a5 g1), (.string ⟨List.toArray a8⟩), (.string ⟨List.toArray a9⟩), (.string ⟨List.toArray b0⟩), (.bool b1)]]) (c0 : ∀ w, Mod S w0 w → (dDS Ul Bu).ok w (A8, c9, a2)) (r : (Int × (List UInt8) × (List UInt8) × Int × Int × Bool × Int × (List UInt8) × (List UInt8) × (List UInt8) × Bool)) (H : Zb q3 q4 q5 q6 (List.map stT a2) a3 a5 a8 a9 b0 b1 q s u a0 a1 a6 a7 = some r) :
  Calls Tryz.prog 34 #[(pt g1 0), (.agg #[(.int .i64 q), (.string ⟨List.toArray s⟩), (.string ⟨List.toArray u⟩), (.int .i64 a0), (.int .i64 a1)]), (.int .i64 a6), (.string ⟨List.toArray a7⟩)] w0 (fun e w' => e = .returned (.tuple #[(.agg #[(.int .i64 r.1), (.string ⟨List.toArray r.2.1⟩), (.string ⟨List.toArray r.2.2.1⟩), (.int .i64 r.2.2.2.1), (.int .i64 r.2.2.2.2.1)]), (.bool r.2.2.2.2.2.1)]) ∧ SP S w0 w' [Qj g2 79 #[(.int .i64 q3), (.int .i64 q4), (.int .i64 q5), (.int .i64 q6), (.slice A8 (List.length (List.map stT a2)) c9), (.map (some m))], Qz m a3, Qj g1 95 #[(pt g2 0), (Q4 r.2.2.2.2.2.2.1 g1), (.string ⟨List.toArray r.2.2.2.2.2.2.2.1⟩), (.string ⟨List.toArray r.2.2.2.2.2.2.2.2.1⟩), (.string ⟨List.toArray r.2.2.2.2.2.2.2.2.2.1⟩), (.bool r.2.2.2.2.2.2.2.2.2.2)]]) := by
 unfold Zb at H
 refine Qw (n := 24) Tryz.func34 K K K ?_
 have c7 := hO
 refine aQ ?_
 refine aR ?_
 refine iS 1 ?_
 refine Vz (t := 63) (x := (.tmp 1)) (v := (.agg #[(.int .i64 q), (.string ⟨List.toArray s⟩), (.string ⟨List.toArray u⟩), (.int .i64 a0), (.int .i64 a1)])) (d := (some 5)) (k := 0) K rfl K c7 ?_
 intro a4 e8 c8
 refine iS 2 ?_
 refine Qn.alloc (t := 63) (z := (.agg #[(.int .i64 0), (.string ⟨List.toArray ([] : List UInt8)⟩), (.string ⟨List.toArray ([] : List UInt8)⟩), (.int .i64 0), (.int .i64 0)])) (d := (some 8)) (k := 1) K rfl K c8 ?_
 intro p c1 b3
 refine iR 1 3 [(9, (.bool false))] ?_
 refine iF ?_
 refine aQ ?_
 refine aQ ?_
 refine aR ?_
 refine iR 3 3 [(10, (pt g1 0)), (11, (pt g1 0)), (12, (pt g1 1))] ?_
 refine iS 4 ?_
 refine sL 93 12 g1 1 2 (Q4 a5 g1) 13 b3 rfl ?_
 refine iS 5 ?_
 refine Uy (op := .eql) (T := 93) (T' := 93) (x := (.tmp 13)) (y := (.const .nilFunc)) (vx := (Q4 a5 g1)) (vy := .nilFunc) (v := (.bool (B6 a5))) (d := (some 14)) (k := 4) K rfl K K (by clear H; intro w; unfold Q4 B6; cases (a5 == 1) <;> cases (a5 == 2) <;> kernel_rfl) ?_
 refine iF ?_
 refine Zu K (o := (.tmp 14)) K (b := (B6 a5)) K (fun b5 => ?_) (fun b5 => ?_)
 ·have H := ct H b5
  refine aQ ?_
  refine aR ?_
  refine iR 1 1 [(15, (.agg #[(.int .i64 0), (.string ⟨List.toArray ([] : List UInt8)⟩), (.string ⟨List.toArray ([] : List UInt8)⟩), (.int .i64 0), (.int .i64 0)]))] ?_
  refine iS 2 ?_
  refine Qn.store (t := 63) (x := (.tmp 8)) (y := (.tmp 15)) (g := p) (off := 0) (i := 4) (v := (.agg #[(.int .i64 0), (.string ⟨List.toArray ([] : List UInt8)⟩), (.string ⟨List.toArray ([] : List UInt8)⟩), (.int .i64 0), (.int .i64 0)])) (cs' := #[(.int .i64 0), (.string ⟨List.toArray ([] : List UInt8)⟩), (.string ⟨List.toArray ([] : List UInt8)⟩), (.int .i64 0), (.int .i64 0)]) (d := none) (k := 1) K rfl K K b3 rfl K ?_
  intro e9 c2
  refine iR 1 3 [(9, (.bool false))] ?_
  refine iF ?_
  refine At.ret K ?_
  refine ⟨(.tuple #[(.agg #[(.int .i64 0), (.string ⟨List.toArray ([] : List UInt8)⟩), (.string ⟨List.toArray ([] : List UInt8)⟩), (.int .i64 0), (.int .i64 0)]), (.bool false)]), Fo K (Ue (a := 8) (t := 63) (g := p) (off := 0) K (SP.get c2 (i := 4) rfl) K) (Br (t := 9) K), ?_⟩
  obtain rfl := Qi H
  exact ⟨rfl, SP.sel c2 [0,1,2] rfl rfl⟩
 ·have H := cf H b5
  refine At.skip K ?_
  refine aQ ?_
  rcases Bool.eq_false_or_eq_true (a5 == 1) with b2 | b2
  ·have H := ct H b2
   have d0 : SP S w0 c1 [Qj g2 79 #[(.int .i64 q3), (.int .i64 q4), (.int .i64 q5), (.int .i64 q6), (.slice A8 (List.length (List.map stT a2)) c9), (.map (some m))], Qz m a3, Qj g1 95 #[(pt g2 0), (.func (.func 57) #[(pt g1 0)] #[]), (.string ⟨List.toArray a8⟩), (.string ⟨List.toArray a9⟩), (.string ⟨List.toArray b0⟩), (.bool b1)], Qj a4 63 #[(.int .i64 q), (.string ⟨List.toArray s⟩), (.string ⟨List.toArray u⟩), (.int .i64 a0), (.int .i64 a1)], Qj p 63 #[(.int .i64 0), (.string ⟨List.toArray ([] : List UInt8)⟩), (.string ⟨List.toArray ([] : List UInt8)⟩), (.int .i64 0), (.int .i64 0)]] := by have h := b3; rw [stepV_1 b2] at h; exact h
   obtain ⟨c, d1, H⟩ := Qf H
   refine aG [GEq (pt g1 0), GEq (pt g1 0), GEq (pt g1 1), GEq (.func (.func 57) #[(pt g1 0)] #[]), GEq (.agg #[(.int .i64 q), (.string ⟨List.toArray s⟩), (.string ⟨List.toArray u⟩), (.int .i64 a0), (.int .i64 a1)]), GEq (.int .i64 a6), GEq (.string ⟨List.toArray a7⟩), GEq (.agg #[(.int .i64 c.1), (.string ⟨List.toArray c.2.1⟩), (.string ⟨List.toArray c.2.2.1⟩), (.int .i64 c.2.2.2.1), (.int .i64 c.2.2.2.2.1)]), Ck, GEq (.bool true)] [7, 8] [sG [] [] S w0 [Qj g2 79 #[(.int .i64 q3), (.int .i64 q4), (.int .i64 q5), (.int .i64 q6), (.slice A8 (List.length (List.map stT a2)) c9), (.map (some m))], Qz m a3, Qj g1 95 #[(pt g2 0), (.func (.func 57) #[(pt g1 0)] #[]), (.string ⟨List.toArray a8⟩), (.string ⟨List.toArray a9⟩), (.string ⟨List.toArray b0⟩), (.bool b1)], Qj a4 63 #[(.int .i64 q), (.string ⟨List.toArray s⟩), (.string ⟨List.toArray u⟩), (.int .i64 a0), (.int .i64 a1)], Qj p 63 #[(.int .i64 0), (.string ⟨List.toArray ([] : List UInt8)⟩), (.string ⟨List.toArray ([] : List UInt8)⟩), (.int .i64 0), (.int .i64 0)]], sG [7] [(.agg #[(.int .i64 c.1), (.string ⟨List.toArray c.2.1⟩), (.string ⟨List.toArray c.2.2.1⟩), (.int .i64 c.2.2.2.1), (.int .i64 c.2.2.2.2.1)])] S w0 [Qj a4 63 #[(.int .i64 q), (.string ⟨List.toArray s⟩), (.string ⟨List.toArray u⟩), (.int .i64 a0), (.int .i64 a1)], Qj p 63 #[(.int .i64 0), (.string ⟨List.toArray ([] : List UInt8)⟩), (.string ⟨List.toArray ([] : List UInt8)⟩), (.int .i64 0), (.int .i64 0)], Qj g2 79 #[(.int .i64 q3), (.int .i64 q4), (.int .i64 q5), (.int .i64 q6), (.slice A8 (List.length (List.map stT a2)) c9), (.map (some m))], Qz m a3, Qj g1 95 #[(pt g2 0), (Q4 c.2.2.2.2.2.1 g1), (.string ⟨List.toArray c.2.2.2.2.2.2.1⟩), (.string ⟨List.toArray c.2.2.2.2.2.2.2.1⟩), (.string ⟨List.toArray c.2.2.2.2.2.2.2.2.1⟩), (.bool c.2.2.2.2.2.2.2.2.2)]], sG [7, 8] [(.agg #[(.int .i64 c.1), (.string ⟨List.toArray c.2.1⟩), (.string ⟨List.toArray c.2.2.1⟩), (.int .i64 c.2.2.2.1), (.int .i64 c.2.2.2.2.1)]), undef] S w0 [Qj a4 63 #[(.int .i64 q), (.string ⟨List.toArray s⟩), (.string ⟨List.toArray u⟩), (.int .i64 a0), (.int .i64 a1)], Qj p 63 #[(.int .i64 c.1), (.string ⟨List.toArray c.2.1⟩), (.string ⟨List.toArray c.2.2.1⟩), (.int .i64 c.2.2.2.1), (.int .i64 c.2.2.2.2.1)], Qj g2 79 #[(.int .i64 q3), (.int .i64 q4), (.int .i64 q5), (.int .i64 q6), (.slice A8 (List.length (List.map stT a2)) c9), (.map (some m))], Qz m a3, Qj g1 95 #[(pt g2 0), (Q4 c.2.2.2.2.2.1 g1), (.string ⟨List.toArray c.2.2.2.2.2.2.1⟩), (.string ⟨List.toArray c.2.2.2.2.2.2.2.1⟩), (.string ⟨List.toArray c.2.2.2.2.2.2.2.2.1⟩), (.bool c.2.2.2.2.2.2.2.2.2)]]] 10 2 ⟨trivial, SP.drew d0⟩ ?_ ?_
   iterate 10 refine And.intro ?_ ?_
   exact trivial
   ·exact oV (hC (hS 0 (pt g1 0)) (h0)) (pt g1 0)
   ·exact oV (hC (hA 0 16) (h0)) (pt g1 0)
   ·exact oV (hC (hA 1 17) (h0)) (pt g1 1)
   ·refine oL 0 ?_
    ·rintro ρ' w' hs hah ⟨f0, d2⟩
     refine kM (kc (kA hah 2 18) k0) fun hkn => ?_
     refine sL 93 18 g1 1 2 (.func (.func 57) #[(pt g1 0)] #[]) 19 d2 rfl ?_
     exact eK hkn
   ·refine oL 0 ?_
    ·rintro ρ' w' hs hah ⟨f1, d3⟩
     refine kM (kc (kS hs 5 (pt a4 0)) k0) fun hkn => ?_
     refine sL 63 5 a4 0 3 (.agg #[(.int .i64 q), (.string ⟨List.toArray s⟩), (.string ⟨List.toArray u⟩), (.int .i64 a0), (.int .i64 a1)]) 20 d3 rfl ?_
     exact eK hkn
   ·exact oV (hC (hS 2 (.int .i64 a6)) (h0)) (.int .i64 a6)
   ·exact oV (hC (hS 3 (.string ⟨List.toArray a7⟩)) (h0)) (.string ⟨List.toArray a7⟩)
   ·refine oH 0 1 ?_
    ·rintro ρ' w' hs hah ⟨f2, b6⟩
     refine kM (kc (kA hah 3 19) (kc (kA hah 4 20) (kc (kA hah 5 21) (kc (kA hah 6 22) k0)))) fun hkn => ?_
     refine Xf (f := 57) (fo := (.tmp 19)) (xs := #[(.tmp 20), (.tmp 21), (.tmp 22)]) (tys := #[63, 2, 9]) (first := #[(pt g1 0)]) (captured := #[]) (d := (some 23)) (k := 7) K rfl K K Tryz.call57 (N5 g1 g2 A8 c9 m q3 q4 q5 q6 a2 a3 1 a8 a9 b0 b1 q s u a0 a1 a6 a7 w' (Ze b6 [0, 1, 2] rfl rfl) (fun w hm => c0 w (SP.through b6 (l := [0, 1, 2]) rfl hm)) c d1) ?_
     rintro e d4 ⟨rfl, c3⟩
     refine ⟨_, rfl, ?_⟩
     have d5 : SP S w0 d4 [Qj a4 63 #[(.int .i64 q), (.string ⟨List.toArray s⟩), (.string ⟨List.toArray u⟩), (.int .i64 a0), (.int .i64 a1)], Qj p 63 #[(.int .i64 0), (.string ⟨List.toArray ([] : List UInt8)⟩), (.string ⟨List.toArray ([] : List UInt8)⟩), (.int .i64 0), (.int .i64 0)], Qj g2 79 #[(.int .i64 q3), (.int .i64 q4), (.int .i64 q5), (.int .i64 q6), (.slice A8 (List.length (List.map stT a2)) c9), (.map (some m))], Qz m a3, Qj g1 95 #[(pt g2 0), (Q4 c.2.2.2.2.2.1 g1), (.string ⟨List.toArray c.2.2.2.2.2.2.1⟩), (.string ⟨List.toArray c.2.2.2.2.2.2.2.1⟩), (.string ⟨List.toArray c.2.2.2.2.2.2.2.2.1⟩), (.bool c.2.2.2.2.2.2.2.2.2)]] := Va b6 [0, 1, 2] [3, 4] rfl rfl c3 rfl
     clear c3
     refine ⟨_, Qa hkn, rfl, ?_⟩
     exact (And.intro (And.intro rfl (trivial)) (d5))
   ·refine oH 1 2 ?_
    ·rintro ρ' w' hs hah ⟨⟨c4, -⟩, d6⟩
     refine kN [(8, (pt p 0)), (23, (.agg #[(.int .i64 c.1), (.string ⟨List.toArray c.2.1⟩), (.string ⟨List.toArray c.2.2.1⟩), (.int .i64 c.2.2.2.1), (.int .i64 c.2.2.2.2.1)]))] ⟨(hs 8 K).trans K, (Yi (h := 7) K).symm.trans c4, trivial⟩ fun hkn => ?_
     refine Qn.store (t := 63) (x := (.tmp 8)) (y := (.tmp 23)) (g := p) (off := 0) (i := 1) (v := (.agg #[(.int .i64 c.1), (.string ⟨List.toArray c.2.1⟩), (.string ⟨List.toArray c.2.2.1⟩), (.int .i64 c.2.2.2.1), (.int .i64 c.2.2.2.2.1)])) (cs' := #[(.int .i64 c.1), (.string ⟨List.toArray c.2.1⟩), (.string ⟨List.toArray c.2.2.1⟩), (.int .i64 c.2.2.2.1), (.int .i64 c.2.2.2.2.1)]) (d := none) (k := 8) K rfl K K d6 rfl K ?_
     intro f3 d7
     refine ⟨_, Qa hkn, trivial, ?_⟩
     exact (And.intro (And.intro c4 (And.intro rfl (trivial))) (d7))
   ·exact Owe.run K [] trivial (.bool true) (fun _ _ => K) rfl
   ·rintro ρ' w' hs hf ⟨⟨f4, f5, -⟩, b7⟩
    refine Q1 [(8, (pt p 0)), (9, (.bool true))] ⟨(hs 8 K).trans K, hf 9 9 K, trivial⟩ ?_
    obtain ⟨f6, d8⟩ : ∃ x, w' = x := ⟨_, rfl⟩
    rw [d8] at b7 ⊢
    refine At.ret K ?_
    refine ⟨(.tuple #[(.agg #[(.int .i64 c.1), (.string ⟨List.toArray c.2.1⟩), (.string ⟨List.toArray c.2.2.1⟩), (.int .i64 c.2.2.2.1), (.int .i64 c.2.2.2.2.1)]), (.bool true)]), Fo K (Ue (a := 8) (t := 63) (g := p) (off := 0) K (SP.get b7 (i := 1) rfl) K) (Br (t := 9) K), ?_⟩
    obtain rfl := Qi H
    exact ⟨rfl, SP.sel b7 [2,3,4] rfl rfl⟩
  ·have H := cf H b2
   rcases Bool.eq_false_or_eq_true (a5 == 2) with b4 | b4
   ·have H := ct H b4
    have d9 : SP S w0 c1 [Qj g2 79 #[(.int .i64 q3), (.int .i64 q4), (.int .i64 q5), (.int .i64 q6), (.slice A8 (List.length (List.map stT a2)) c9), (.map (some m))], Qz m a3, Qj g1 95 #[(pt g2 0), (.func (.func 75) #[(pt g1 0)] #[]), (.string ⟨List.toArray a8⟩), (.string ⟨List.toArray a9⟩), (.string ⟨List.toArray b0⟩), (.bool b1)], Qj a4 63 #[(.int .i64 q), (.string ⟨List.toArray s⟩), (.string ⟨List.toArray u⟩), (.int .i64 a0), (.int .i64 a1)], Qj p 63 #[(.int .i64 0), (.string ⟨List.toArray ([] : List UInt8)⟩), (.string ⟨List.toArray ([] : List UInt8)⟩), (.int .i64 0), (.int .i64 0)]] := by have h := b3; rw [stepV_2 b2 b4] at h; exact h
    obtain ⟨j, e0, H⟩ := Qf H
    refine aG [GEq (pt g1 0), GEq (pt g1 0), GEq (pt g1 1), GEq (.func (.func 75) #[(pt g1 0)] #[]), GEq (.agg #[(.int .i64 q), (.string ⟨List.toArray s⟩), (.string ⟨List.toArray u⟩), (.int .i64 a0), (.int .i64 a1)]), GEq (.int .i64 a6), GEq (.string ⟨List.toArray a7⟩), GEq (.agg #[(.int .i64 j.1), (.string ⟨List.toArray j.2.1⟩), (.string ⟨List.toArray j.2.2.1⟩), (.int .i64 j.2.2.2.1), (.int .i64 j.2.2.2.2.1)]), Ck, GEq (.bool true)] [7, 8] [sG [] [] S w0 [Qj g2 79 #[(.int .i64 q3), (.int .i64 q4), (.int .i64 q5), (.int .i64 q6), (.slice A8 (List.length (List.map stT a2)) c9), (.map (some m))], Qz m a3, Qj g1 95 #[(pt g2 0), (.func (.func 75) #[(pt g1 0)] #[]), (.string ⟨List.toArray a8⟩), (.string ⟨List.toArray a9⟩), (.string ⟨List.toArray b0⟩), (.bool b1)], Qj a4 63 #[(.int .i64 q), (.string ⟨List.toArray s⟩), (.string ⟨List.toArray u⟩), (.int .i64 a0), (.int .i64 a1)], Qj p 63 #[(.int .i64 0), (.string ⟨List.toArray ([] : List UInt8)⟩), (.string ⟨List.toArray ([] : List UInt8)⟩), (.int .i64 0), (.int .i64 0)]], sG [7] [(.agg #[(.int .i64 j.1), (.string ⟨List.toArray j.2.1⟩), (.string ⟨List.toArray j.2.2.1⟩), (.int .i64 j.2.2.2.1), (.int .i64 j.2.2.2.2.1)])] S w0 [Qj a4 63 #[(.int .i64 q), (.string ⟨List.toArray s⟩), (.string ⟨List.toArray u⟩), (.int .i64 a0), (.int .i64 a1)], Qj p 63 #[(.int .i64 0), (.string ⟨List.toArray ([] : List UInt8)⟩), (.string ⟨List.toArray ([] : List UInt8)⟩), (.int .i64 0), (.int .i64 0)], Qj g2 79 #[(.int .i64 q3), (.int .i64 q4), (.int .i64 q5), (.int .i64 q6), (.slice A8 (List.length (List.map stT a2)) c9), (.map (some m))], Qz m a3, Qj g1 95 #[(pt g2 0), (Q4 j.2.2.2.2.2.1 g1), (.string ⟨List.toArray j.2.2.2.2.2.2.1⟩), (.string ⟨List.toArray j.2.2.2.2.2.2.2.1⟩), (.string ⟨List.toArray j.2.2.2.2.2.2.2.2.1⟩), (.bool j.2.2.2.2.2.2.2.2.2)]], sG [7, 8] [(.agg #[(.int .i64 j.1), (.string ⟨List.toArray j.2.1⟩), (.string ⟨List.toArray j.2.2.1⟩), (.int .i64 j.2.2.2.1), (.int .i64 j.2.2.2.2.1)]), undef] S w0 [Qj a4 63 #[(.int .i64 q), (.string ⟨List.toArray s⟩), (.string ⟨List.toArray u⟩), (.int .i64 a0), (.int .i64 a1)], Qj p 63 #[(.int .i64 j.1), (.string ⟨List.toArray j.2.1⟩), (.string ⟨List.toArray j.2.2.1⟩), (.int .i64 j.2.2.2.1), (.int .i64 j.2.2.2.2.1)], Qj g2 79 #[(.int .i64 q3), (.int .i64 q4), (.int .i64 q5), (.int .i64 q6), (.slice A8 (List.length (List.map stT a2)) c9), (.map (some m))], Qz m a3, Qj g1 95 #[(pt g2 0), (Q4 j.2.2.2.2.2.1 g1), (.string ⟨List.toArray j.2.2.2.2.2.2.1⟩), (.string ⟨List.toArray j.2.2.2.2.2.2.2.1⟩), (.string ⟨List.toArray j.2.2.2.2.2.2.2.2.1⟩), (.bool j.2.2.2.2.2.2.2.2.2)]]] 10 2 ⟨trivial, SP.drew d9⟩ ?_ ?_
    iterate 10 refine And.intro ?_ ?_
    exact trivial
    ·exact oV (hC (hS 0 (pt g1 0)) (h0)) (pt g1 0)
    ·exact oV (hC (hA 0 16) (h0)) (pt g1 0)
    ·exact oV (hC (hA 1 17) (h0)) (pt g1 1)
    ·refine oL 0 ?_
     ·rintro ρ' w' hs hah ⟨f7, e1⟩
      refine kM (kc (kA hah 2 18) k0) fun hkn => ?_
      refine sL 93 18 g1 1 2 (.func (.func 75) #[(pt g1 0)] #[]) 19 e1 rfl ?_
      exact eK hkn
    ·refine oL 0 ?_
     ·rintro ρ' w' hs hah ⟨f8, e2⟩
      refine kM (kc (kS hs 5 (pt a4 0)) k0) fun hkn => ?_
      refine sL 63 5 a4 0 3 (.agg #[(.int .i64 q), (.string ⟨List.toArray s⟩), (.string ⟨List.toArray u⟩), (.int .i64 a0), (.int .i64 a1)]) 20 e2 rfl ?_
      exact eK hkn
    ·exact oV (hC (hS 2 (.int .i64 a6)) (h0)) (.int .i64 a6)
    ·exact oV (hC (hS 3 (.string ⟨List.toArray a7⟩)) (h0)) (.string ⟨List.toArray a7⟩)
    ·refine oH 0 1 ?_
     ·rintro ρ' w' hs hah ⟨f9, b8⟩
      refine kM (kc (kA hah 3 19) (kc (kA hah 4 20) (kc (kA hah 5 21) (kc (kA hah 6 22) k0)))) fun hkn => ?_
      refine Xf (f := 75) (fo := (.tmp 19)) (xs := #[(.tmp 20), (.tmp 21), (.tmp 22)]) (tys := #[63, 2, 9]) (first := #[(pt g1 0)]) (captured := #[]) (d := (some 23)) (k := 7) K rfl K K Tryz.call75 (N6 g1 g2 A8 c9 m q3 q4 q5 q6 a2 a3 2 a8 a9 b0 b1 q s u a0 a1 a6 a7 w' (Ze b8 [0, 1, 2] rfl rfl) (fun w hm => c0 w (SP.through b8 (l := [0, 1, 2]) rfl hm)) j e0) ?_
      rintro e e3 ⟨rfl, c5⟩
      refine ⟨_, rfl, ?_⟩
      have e4 : SP S w0 e3 [Qj a4 63 #[(.int .i64 q), (.string ⟨List.toArray s⟩), (.string ⟨List.toArray u⟩), (.int .i64 a0), (.int .i64 a1)], Qj p 63 #[(.int .i64 0), (.string ⟨List.toArray ([] : List UInt8)⟩), (.string ⟨List.toArray ([] : List UInt8)⟩), (.int .i64 0), (.int .i64 0)], Qj g2 79 #[(.int .i64 q3), (.int .i64 q4), (.int .i64 q5), (.int .i64 q6), (.slice A8 (List.length (List.map stT a2)) c9), (.map (some m))], Qz m a3, Qj g1 95 #[(pt g2 0), (Q4 j.2.2.2.2.2.1 g1), (.string ⟨List.toArray j.2.2.2.2.2.2.1⟩), (.string ⟨List.toArray j.2.2.2.2.2.2.2.1⟩), (.string ⟨List.toArray j.2.2.2.2.2.2.2.2.1⟩), (.bool j.2.2.2.2.2.2.2.2.2)]] := Va b8 [0, 1, 2] [3, 4] rfl rfl c5 rfl
      clear c5
      refine ⟨_, Qa hkn, rfl, ?_⟩
      exact (And.intro (And.intro rfl (trivial)) (e4))
    ·refine oH 1 2 ?_
     ·rintro ρ' w' hs hah ⟨⟨c6, -⟩, e5⟩
      refine kN [(8, (pt p 0)), (23, (.agg #[(.int .i64 j.1), (.string ⟨List.toArray j.2.1⟩), (.string ⟨List.toArray j.2.2.1⟩), (.int .i64 j.2.2.2.1), (.int .i64 j.2.2.2.2.1)]))] ⟨(hs 8 K).trans K, (Yi (h := 7) K).symm.trans c6, trivial⟩ fun hkn => ?_
      refine Qn.store (t := 63) (x := (.tmp 8)) (y := (.tmp 23)) (g := p) (off := 0) (i := 1) (v := (.agg #[(.int .i64 j.1), (.string ⟨List.toArray j.2.1⟩), (.string ⟨List.toArray j.2.2.1⟩), (.int .i64 j.2.2.2.1), (.int .i64 j.2.2.2.2.1)])) (cs' := #[(.int .i64 j.1), (.string ⟨List.toArray j.2.1⟩), (.string ⟨List.toArray j.2.2.1⟩), (.int .i64 j.2.2.2.1), (.int .i64 j.2.2.2.2.1)]) (d := none) (k := 8) K rfl K K e5 rfl K ?_
      intro g0 e6
      refine ⟨_, Qa hkn, trivial, ?_⟩
      exact (And.intro (And.intro c6 (And.intro rfl (trivial))) (e6))
    ·exact Owe.run K [] trivial (.bool true) (fun _ _ => K) rfl
    ·rintro ρ' w' hs hf ⟨⟨g3, g4, -⟩, b9⟩
     refine Q1 [(8, (pt p 0)), (9, (.bool true))] ⟨(hs 8 K).trans K, hf 9 9 K, trivial⟩ ?_
     obtain ⟨g5, e7⟩ : ∃ x, w' = x := ⟨_, rfl⟩
     rw [e7] at b9 ⊢
     refine At.ret K ?_
     refine ⟨(.tuple #[(.agg #[(.int .i64 j.1), (.string ⟨List.toArray j.2.1⟩), (.string ⟨List.toArray j.2.2.1⟩), (.int .i64 j.2.2.2.1), (.int .i64 j.2.2.2.2.1)]), (.bool true)]), Fo K (Ue (a := 8) (t := 63) (g := p) (off := 0) K (SP.get b9 (i := 1) rfl) K) (Br (t := 9) K), ?_⟩
     obtain rfl := Qi H
     exact ⟨rfl, SP.sel b9 [2,3,4] rfl rfl⟩
   ·have H := cf H b4
    cases H
def Jq (q3 : Int) (q4 : Int) (q5 : Int) (q6 : Int) (q7 : (List Qg)) (c : U1) (d : Int) (a : (List UInt8)) (e : (List UInt8)) (f : (List UInt8)) (b : Bool) : Option ((List UInt8) × Bool) :=
  (cond (!b) (some (([] : List UInt8), false)) (some (a, true)))
set_option maxRecDepth 100000 in
set_option maxHeartbeats 4000000 in
theorem Un {S : List Nat} (g1 : Nat) (g2 : Nat) (A8 : Option Addr) (c9 : Nat) (d : Nat) (q3 : Int) (q4 : Int) (q5 : Int) (q6 : Int) (f : (List Vi)) (h : U1) (i : Int) (a : (List UInt8)) (j : (List UInt8)) (k : (List UInt8)) (c : Bool) (w0 : World) (hO : SP S w0 w0 [Qj g2 79 #[(.int .i64 q3), (.int .i64 q4), (.int .i64 q5), (.int .i64 q6), (.slice A8 (List.length (List.map stT f)) c9), (.map (some d))], Qz d h, Qj g1 95 #[(pt g2 0), (Q4 i g1), (.string ⟨List.toArray a⟩), (.string ⟨List.toArray j⟩), (.string ⟨List.toArray k⟩), (.bool c)]]) (m : ∀ w, Mod S w0 w → (dDS Ul Bu).ok w (A8, c9, f)) (r : ((List UInt8) × Bool)) (H : Jq q3 q4 q5 q6 (List.map stT f) h i a j k c = some r) :
  Calls Tryz.prog 35 #[(pt g1 0)] w0 (fun e w' => e = .returned (.tuple #[(.string ⟨List.toArray r.1⟩), (.bool r.2)]) ∧ SP S w0 w' [Qj g2 79 #[(.int .i64 q3), (.int .i64 q4), (.int .i64 q5), (.int .i64 q6), (.slice A8 (List.length (List.map stT f)) c9), (.map (some d))], Qz d h, Qj g1 95 #[(pt g2 0), (Q4 i g1), (.string ⟨List.toArray a⟩), (.string ⟨List.toArray j⟩), (.string ⟨List.toArray k⟩), (.bool c)]]) := by
 unfold Jq at H
 refine Qw (n := 13) Tryz.func35 K K K ?_
 have g := hO
 refine aQ ?_
 refine aR ?_
 refine iR 2 2 [(2, (.string ⟨List.toArray ([] : List UInt8)⟩)), (3, (.bool false))] ?_
 refine iF ?_
 refine aQ ?_
 refine aQ ?_
 refine aR ?_
 refine iR 3 3 [(4, (pt g1 0)), (5, (pt g1 0)), (6, (pt g1 5))] ?_
 refine iS 4 ?_
 refine sL 4 6 g1 5 2 (.bool c) 7 g rfl ?_
 refine iR 1 5 [(8, (.bool (!c)))] ?_
 refine iF ?_
 refine Zu K (o := (.tmp 8)) K (b := (!c)) K (fun l => ?_) (fun l => ?_)
 ·have H := ct H l
  refine aQ ?_
  refine aR ?_
  refine iR 2 2 [(2, (.string ⟨List.toArray ([] : List UInt8)⟩)), (3, (.bool false))] ?_
  refine iF ?_
  refine At.ret K ?_
  refine ⟨(.tuple #[(.string ⟨List.toArray ([] : List UInt8)⟩), (.bool false)]), K, ?_⟩
  obtain rfl := Qi H
  exact ⟨rfl, SP.sel g [0,1,2] rfl rfl⟩
 ·have H := cf H l
  refine At.skip K ?_
  refine aQ ?_
  refine aR ?_
  refine iR 3 3 [(9, (pt g1 0)), (10, (pt g1 0)), (11, (pt g1 2))] ?_
  refine iS 4 ?_
  refine sL 9 11 g1 2 2 (.string ⟨List.toArray a⟩) 12 g rfl ?_
  refine iR 2 6 [(2, (.string ⟨List.toArray a⟩)), (3, (.bool true))] ?_
  refine iF ?_
  refine At.ret K ?_
  refine ⟨(.tuple #[(.string ⟨List.toArray a⟩), (.bool true)]), K, ?_⟩
  obtain rfl := Qi H
  exact ⟨rfl, SP.sel g [0,1,2] rfl rfl⟩
def Zc (q3 : Int) (q4 : Int) (q5 : Int) (q6 : Int) (q7 : (List Qg)) (b : U1) (a : Int) (c : (List UInt8)) (d : (List UInt8)) (e : (List UInt8)) (f : Bool) : Option (Bool) :=
  (some ((B6 a)))
set_option maxRecDepth 100000 in
set_option maxHeartbeats 4000000 in
theorem Qm {S : List Nat} (g1 : Nat) (g2 : Nat) (A8 : Option Addr) (c9 : Nat) (b : Nat) (q3 : Int) (q4 : Int) (q5 : Int) (q6 : Int) (c : (List Vi)) (f : U1) (a : Int) (g : (List UInt8)) (h : (List UInt8)) (i : (List UInt8)) (j : Bool) (w0 : World) (hO : SP S w0 w0 [Qj g2 79 #[(.int .i64 q3), (.int .i64 q4), (.int .i64 q5), (.int .i64 q6), (.slice A8 (List.length (List.map stT c)) c9), (.map (some b))], Qz b f, Qj g1 95 #[(pt g2 0), (Q4 a g1), (.string ⟨List.toArray g⟩), (.string ⟨List.toArray h⟩), (.string ⟨List.toArray i⟩), (.bool j)]]) (m : ∀ w, Mod S w0 w → (dDS Ul Bu).ok w (A8, c9, c)) (r : (Bool)) (H : Zc q3 q4 q5 q6 (List.map stT c) f a g h i j = some r) :
  Calls Tryz.prog 36 #[(pt g1 0)] w0 (fun e w' => e = .returned (.bool r) ∧ SP S w0 w' [Qj g2 79 #[(.int .i64 q3), (.int .i64 q4), (.int .i64 q5), (.int .i64 q6), (.slice A8 (List.length (List.map stT c)) c9), (.map (some b))], Qz b f, Qj g1 95 #[(pt g2 0), (Q4 a g1), (.string ⟨List.toArray g⟩), (.string ⟨List.toArray h⟩), (.string ⟨List.toArray i⟩), (.bool j)]]) := by
 unfold Zc at H
 refine Qw (n := 8) Tryz.func36 K K K ?_
 have l := hO
 refine aQ ?_
 refine aR ?_
 refine iR 1 1 [(2, (.bool false))] ?_
 refine iF ?_
 refine aQ ?_
 refine aR ?_
 refine iR 3 3 [(3, (pt g1 0)), (4, (pt g1 0)), (5, (pt g1 1))] ?_
 refine iS 4 ?_
 refine sL 93 5 g1 1 2 (Q4 a g1) 6 l rfl ?_
 refine iS 5 ?_
 refine Uy (op := .eql) (T := 93) (T' := 93) (x := (.tmp 6)) (y := (.const .nilFunc)) (vx := (Q4 a g1)) (vy := .nilFunc) (v := (.bool (B6 a))) (d := (some 7)) (k := 4) K rfl K K (by clear H; intro w; unfold Q4 B6; cases (a == 1) <;> cases (a == 2) <;> kernel_rfl) ?_
 refine iR 1 6 [(2, (.bool (B6 a)))] ?_
 refine iF ?_
 refine At.ret K ?_
 refine ⟨(.bool (B6 a)), K, ?_⟩
 obtain rfl := Qi H
 exact ⟨rfl, SP.sel l [0,1,2] rfl rfl⟩
end Go.Proofs.YtmgfanhcdfobhaaGreatDoor
namespace Go.Proofs.YtmgfanhcdfobhaaGreatDoor
theorem cut64 (p : Str) (h : p.length ≤ 140737488355328) : sub p 0 (if 64 < ((List.length p : Nat) : Int) then 64 else ((List.length p : Nat) : Int)) = some (p.take 64) := by
  by_cases h2 : 64 < ((List.length p : Nat) : Int)
  · rw [if_pos h2]
    have := C3 p (i := 0) (j := 64) (by omega) (by omega)
    simpa using this
  · rw [if_neg h2]
    have := C3 p (i := 0) (j := p.length) (by omega) (by omega)
    rw [List.take_of_length_le (by omega : p.length ≤ 64)]
    simpa using this
def Ee (l : List Qg) (M : U1) (c : Int) (t k n : Str) (kn : Bool) (kind : Int) (A B : Str) (now : Int) (nonce : Str) : Int × Str × Str × Int × Int × Bool × Int × Str × Str × Str × Bool :=
  cond (c == 1) (cond (kind == 1) (2, nonce.take 64, [], 0, 0, true, 2, A, B, nonce.take 64, kn) (5, [], [], 1, 0, true, 0, t, k, n, kn))
  (cond (c == 2) (cond (kind == 3) (cond (Ro l M t k n A now == 0) (4, [], [], 0, 0, true, 0, t, k, n, true) (5, [], [], Ro l M t k n A now, 0, true, 0, t, k, n, kn)) (5, [], [], 1, 0, true, 0, t, k, n, kn))
  (0, [], [], 0, 0, false, c, t, k, n, kn))
theorem pHear {l : List Qg} (hv : VC l) (w g i e : Int) (M : U1) (c : Int) (t k n : Str) (kn : Bool) (kind : Int) (A B : Str) (N m now : Int) (nonce : Str) (hA : A.length ≤ 140737488355328) (hn : nonce.length ≤ 140737488355328) :
    Zb w g i e l M c t k n kn kind A B N m now nonce = some (Ee l M c t k n kn kind A B now nonce) := by
  unfold Zb Y1 Y2 Z7 B6 Ee
  cases h1 : (c == 1) with
  | true =>
    rw [cond_true, cond_false, cond_true, cond_true, cut64 nonce hn]
    cases hk : (kind == 1) with
    | true => rw [show (kind != 1) = false by rw [bne, hk]; rfl]; rfl
    | false => rw [show (kind != 1) = true by rw [bne, hk]; rfl]; rfl
  | false =>
    cases h2 : (c == 2) with
    | true =>
      rw [cond_false, cond_true, cond_false, cond_false, cond_true, cond_false, cond_true]
      cases hk : (kind == 3) with
      | false => rw [show (kind != 3) = true by rw [bne, hk]; rfl]; rfl
      | true =>
        rw [show (kind != 3) = false by rw [bne, hk]; rfl, cond_false, pVCheck hv _ _ _ _ _ _ _ _ _ hA, Option.bind_some]
        cases he : (Ro l M t k n A now == 0) with
        | true => rw [show (Ro l M t k n A now != 0) = false by rw [bne, he]; rfl]; rfl
        | false => rw [show (Ro l M t k n A now != 0) = true by rw [bne, he]; rfl]; rfl
    | false => rfl
def SI (c : Int) (kn : Bool) : Prop := (c = 0 ∨ c = 1 ∨ c = 2) ∧ (kn = true → c = 0)
theorem hear_inv (l : List Qg) (M : U1) {c : Int} (t k n : Str) {kn : Bool} (kind : Int) (A B : Str) (now : Int) (nonce : Str) (h : SI c kn) :
    SI (Ee l M c t k n kn kind A B now nonce).2.2.2.2.2.2.1 (Ee l M c t k n kn kind A B now nonce).2.2.2.2.2.2.2.2.2.2 := by
  obtain ⟨h1, h2⟩ := h
  unfold Ee SI
  rcases h1 with rfl | rfl | rfl
  · exact ⟨.inl rfl, fun _ => rfl⟩
  · have hk : kn = false := by
      cases kn with
      | false => rfl
      | true => exact absurd (h2 rfl) (by decide)
    subst hk
    cases (kind == 1) with
    | true => exact ⟨.inr (.inr rfl), fun h => by cases h⟩
    | false => exact ⟨.inl rfl, fun h => by cases h⟩
  · cases (kind == 3) with
    | false => exact ⟨.inl rfl, fun _ => rfl⟩
    | true => cases (Ro l M t k n A now == 0) <;> exact ⟨.inl rfl, fun _ => rfl⟩
end Go.Proofs.YtmgfanhcdfobhaaGreatDoor
namespace Go.Proofs.YtmgfanhcdfobhaaGreatDoor
open Go.RowKit
def Y3 (c : Int) (a : (List UInt8)) (b : (List UInt8)) (d : Int) (e : Int) : Option (Bool) :=
  (some ((decide ((IntKind.wrap .i64 (((List.length a : Nat) : Int) + ((List.length b : Nat) : Int))) > 9000))))
set_option maxRecDepth 100000 in
set_option maxHeartbeats 4000000 in
theorem N7  (c : Int) (a : (List UInt8)) (b : (List UInt8)) (f : Int) (g : Int) (w0 : World)  (r : (Bool)) (H : Y3 c a b f g = some r) :
  Calls Tryz.prog 37 #[(.agg #[(.int .i64 c), (.string ⟨List.toArray a⟩), (.string ⟨List.toArray b⟩), (.int .i64 f), (.int .i64 g)])] w0 (fun e w' => e = .returned (.bool r) ∧ SP [] w0 w' []) := by
 unfold Y3 at H
 refine Qw (n := 11) Tryz.func37 K K K ?_
 have i := Q8 [] w0
 refine aQ ?_
 refine aR ?_
 refine iS 1 ?_
 refine Vz (t := 63) (x := (.tmp 0)) (v := (.agg #[(.int .i64 c), (.string ⟨List.toArray a⟩), (.string ⟨List.toArray b⟩), (.int .i64 f), (.int .i64 g)])) (d := (some 1)) (k := 0) K rfl K i ?_
 intro g6 w7 h
 refine iR 1 2 [(2, (.bool false))] ?_
 refine iF ?_
 refine aQ ?_
 refine aR ?_
 refine iR 1 1 [(3, (pt g6 1))] ?_
 refine iS 2 ?_
 refine sL 9 3 g6 1 0 (.string ⟨List.toArray a⟩) 4 h rfl ?_
 refine iR 2 4 [(5, (.int .i64 ((List.length a : Nat) : Int))), (6, (pt g6 2))] ?_
 refine iS 5 ?_
 refine sL 9 6 g6 2 0 (.string ⟨List.toArray b⟩) 7 h rfl ?_
 refine iR 4 9 [(8, (.int .i64 ((List.length b : Nat) : Int))), (9, (.int .i64 (IntKind.wrap .i64 (((List.length a : Nat) : Int) + ((List.length b : Nat) : Int))))), (10, (.bool (decide ((IntKind.wrap .i64 (((List.length a : Nat) : Int) + ((List.length b : Nat) : Int))) > 9000)))), (2, (.bool (decide ((IntKind.wrap .i64 (((List.length a : Nat) : Int) + ((List.length b : Nat) : Int))) > 9000))))] ?_
 refine iF ?_
 refine At.ret K ?_
 refine ⟨(.bool (decide ((IntKind.wrap .i64 (((List.length a : Nat) : Int) + ((List.length b : Nat) : Int))) > 9000))), K, ?_⟩
 obtain rfl := Qi H
 exact ⟨rfl, SP.sel h [] rfl rfl⟩
end Go.Proofs.YtmgfanhcdfobhaaGreatDoor
namespace Go.Proofs.YtmgfanhcdfobhaaGreatDoor
open Go.RowKit
def Jr  : Option Unit :=
  (some ())
set_option maxRecDepth 100000 in
set_option maxHeartbeats 4000000 in
theorem Gx   (w0 : World)  (r : Unit) (H : Jr  = some r) :
  Calls Tryz.prog 56 #[] w0 (fun e w' => ∃ (g7 : Nat) (b : Nat), e = .returned (.agg #[(.int .i64 9), (.int .i64 9), (.int .i64 9), (.int .i64 9), (.slice (some ⟨b, 0, none⟩) (List.length ([(([97, 110, 110] : List UInt8), 0, 0, ([] : List (Int × Int)), ([(([107] : List UInt8), ([115] : List UInt8), 5)] : List ((List UInt8) × (List UInt8) × Int)))] : List Qg)) (List.length ([(([97, 110, 110] : List UInt8), 0, 0, ([] : List (Int × Int)), ([(([107] : List UInt8), ([115] : List UInt8), 5)] : List ((List UInt8) × (List UInt8) × Int)))] : List Qg)))]) ∧ SP [] w0 w' [U8 48 (Qb Q5 (Qb Q5 (Qd .i64))) (some ⟨g7, 0, none⟩) (List.length ([(([107] : List UInt8), ([115] : List UInt8), 5)] : List ((List UInt8) × (List UInt8) × Int))) ([(([107] : List UInt8), ([115] : List UInt8), 5)] : List ((List UInt8) × (List UInt8) × Int)), U8 44 Ul (some ⟨b, 0, none⟩) (List.length ([(([97, 110, 110] : List UInt8), 0, 0, ([] : List (Int × Int)), ([(([107] : List UInt8), ([115] : List UInt8), 5)] : List ((List UInt8) × (List UInt8) × Int)))] : List Qg)) ([(([97, 110, 110] : List UInt8), 0, 0, (none, 0, ([] : List (Int × Int))), ((some ⟨g7, 0, none⟩), (List.length ([(([107] : List UInt8), ([115] : List UInt8), 5)] : List ((List UInt8) × (List UInt8) × Int))), ([(([107] : List UInt8), ([115] : List UInt8), 5)] : List ((List UInt8) × (List UInt8) × Int))))] : List Vi)]) := by
 unfold Jr at H
 refine Qw (n := 6) Tryz.func56 K K K ?_
 have f := Q8 [] w0
 refine aQ ?_
 refine aR ?_
 refine iS 1 ?_
 refine Qn.alloc (t := 24) (z := (.agg #[(.int .i64 0), (.int .i64 0), (.int .i64 0), (.int .i64 0), (.slice none (List.length ([] : List Qg)) 0)])) (d := (some 0)) (k := 0) K rfl K f ?_
 intro g3 w4 h
 refine iF ?_
 refine aQ ?_
 refine aR ?_
 refine iR 1 1 [(1, (.agg #[(.string ⟨List.toArray ([107] : List UInt8)⟩), (.string ⟨List.toArray ([115] : List UInt8)⟩), (.int .i64 5)]))] ?_
 refine iS 2 ?_
 refine Jm (e := (Qb Q5 (Qb Q5 (Qd .i64)))) (T := 42) (E := 48) (len := 1) (parts := #[(0, (.tmp 1))]) (cs := #[(.string ⟨List.toArray ([107] : List UInt8)⟩), (.string ⟨List.toArray ([115] : List UInt8)⟩), (.int .i64 5)]) ([(([107] : List UInt8), ([115] : List UInt8), 5)] : List ((List UInt8) × (List UInt8) × Int)) (d := (some 2)) (k := 1) K rfl (fun _ => K) h rfl rfl rfl rfl ?_
 intro g7 w8 j
 refine iR 1 3 [(3, (.agg #[(.string ⟨List.toArray ([97, 110, 110] : List UInt8)⟩), (.int .i64 0), (.int .i64 0), (.slice none (List.length ([] : List (Int × Int))) 0), (.slice (some ⟨g7, 0, none⟩) (List.length ([(([107] : List UInt8), ([115] : List UInt8), 5)] : List ((List UInt8) × (List UInt8) × Int))) (List.length ([(([107] : List UInt8), ([115] : List UInt8), 5)] : List ((List UInt8) × (List UInt8) × Int))))]))] ?_
 refine iS 4 ?_
 refine Jm (e := Ul) (T := 22) (E := 44) (len := 1) (parts := #[(0, (.tmp 3))]) (cs := #[(.string ⟨List.toArray ([97, 110, 110] : List UInt8)⟩), (.int .i64 0), (.int .i64 0), (.slice none (List.length ([] : List (Int × Int))) 0), (.slice (some ⟨g7, 0, none⟩) (List.length ([(([107] : List UInt8), ([115] : List UInt8), 5)] : List ((List UInt8) × (List UInt8) × Int))) (List.length ([(([107] : List UInt8), ([115] : List UInt8), 5)] : List ((List UInt8) × (List UInt8) × Int))))]) ([(([97, 110, 110] : List UInt8), 0, 0, (none, 0, ([] : List (Int × Int))), ((some ⟨g7, 0, none⟩), (List.length ([(([107] : List UInt8), ([115] : List UInt8), 5)] : List ((List UInt8) × (List UInt8) × Int))), ([(([107] : List UInt8), ([115] : List UInt8), 5)] : List ((List UInt8) × (List UInt8) × Int))))] : List Vi) (d := (some 4)) (k := 3) K rfl (fun _ => K) j rfl rfl rfl rfl ?_
 intro b m l
 refine iR 1 5 [(5, (.agg #[(.int .i64 9), (.int .i64 9), (.int .i64 9), (.int .i64 9), (.slice (some ⟨b, 0, none⟩) (List.length ([(([97, 110, 110] : List UInt8), 0, 0, ([] : List (Int × Int)), ([(([107] : List UInt8), ([115] : List UInt8), 5)] : List ((List UInt8) × (List UInt8) × Int)))] : List Qg)) (List.length ([(([97, 110, 110] : List UInt8), 0, 0, ([] : List (Int × Int)), ([(([107] : List UInt8), ([115] : List UInt8), 5)] : List ((List UInt8) × (List UInt8) × Int)))] : List Qg)))]))] ?_
 refine iS 6 ?_
 refine Qn.store (t := 24) (x := (.tmp 0)) (y := (.tmp 5)) (g := g3) (off := 0) (i := 0) (v := (.agg #[(.int .i64 9), (.int .i64 9), (.int .i64 9), (.int .i64 9), (.slice (some ⟨b, 0, none⟩) (List.length ([(([97, 110, 110] : List UInt8), 0, 0, ([] : List (Int × Int)), ([(([107] : List UInt8), ([115] : List UInt8), 5)] : List ((List UInt8) × (List UInt8) × Int)))] : List Qg)) (List.length ([(([97, 110, 110] : List UInt8), 0, 0, ([] : List (Int × Int)), ([(([107] : List UInt8), ([115] : List UInt8), 5)] : List ((List UInt8) × (List UInt8) × Int)))] : List Qg)))])) (cs' := #[(.int .i64 9), (.int .i64 9), (.int .i64 9), (.int .i64 9), (.slice (some ⟨b, 0, none⟩) (List.length ([(([97, 110, 110] : List UInt8), 0, 0, ([] : List (Int × Int)), ([(([107] : List UInt8), ([115] : List UInt8), 5)] : List ((List UInt8) × (List UInt8) × Int)))] : List Qg)) (List.length ([(([97, 110, 110] : List UInt8), 0, 0, ([] : List (Int × Int)), ([(([107] : List UInt8), ([115] : List UInt8), 5)] : List ((List UInt8) × (List UInt8) × Int)))] : List Qg)))]) (d := none) (k := 5) K rfl K K l rfl K ?_
 intro o c
 refine iF ?_
 refine At.ret K ?_
 refine ⟨(.agg #[(.int .i64 9), (.int .i64 9), (.int .i64 9), (.int .i64 9), (.slice (some ⟨b, 0, none⟩) (List.length ([(([97, 110, 110] : List UInt8), 0, 0, ([] : List (Int × Int)), ([(([107] : List UInt8), ([115] : List UInt8), 5)] : List ((List UInt8) × (List UInt8) × Int)))] : List Qg)) (List.length ([(([97, 110, 110] : List UInt8), 0, 0, ([] : List (Int × Int)), ([(([107] : List UInt8), ([115] : List UInt8), 5)] : List ((List UInt8) × (List UInt8) × Int)))] : List Qg)))]), Rr K (Ue (a := 0) (t := 24) (g := g3) (off := 0) K (SP.get c (i := 0) rfl) K), ?_⟩
 exact ⟨g7, b, rfl, SP.sel c [1, 2] rfl rfl⟩
def Zq (a : Int → Option (Bool)) (b : Int) (c : Bool) : Option (Bool) :=
  (cond c (some (true)) (a (IntKind.wrap .i64 (b + 1))))
def Zr (c : Int → Option (Bool)) (p1 : (List (Int × Int × (List UInt8) × (List UInt8) × Int × Int × Int × (List UInt8)))) (b : Int) (d : Bool) : Option (Bool) :=
  (cond d ((idx p1 b).bind fun a => ((Y3 a.2.1 a.2.2.1 a.2.2.2.1 a.2.2.2.2.1 a.2.2.2.2.2.1).bind fun e => (cond e (Zq c b true) ((idx p1 b).bind fun f => (Zq c b (decide (((List.length f.2.2.2.2.2.2.2 : Nat) : Int) > 2000))))))) (some ((decide (((List.length p1 : Nat) : Int) > 40)))))
def Za (b : Int → Option (Bool)) (p1 : (List (Int × Int × (List UInt8) × (List UInt8) × Int × Int × Int × (List UInt8)))) (a : Int) : Option (Bool) :=
  (cond (decide (a < ((List.length p1 : Nat) : Int))) (Zr b p1 a (decide (a < 60))) (Zr b p1 a false))
def Vj (p1 : (List (Int × Int × (List UInt8) × (List UInt8) × Int × Int × Int × (List UInt8)))) : Nat → Int → Option (Bool)
  | 0, _ => none
  | f + 1, a => Za  (Vj p1 f) p1 a
def Y4 (p1 : (List (Int × Int × (List UInt8) × (List UInt8) × Int × Int × Int × (List UInt8)))) : Option (Bool) :=
  (Vj p1 Z1 0)
set_option maxRecDepth 100000 in
set_option maxHeartbeats 4000000 in
theorem N8 (A2 : Option Addr) (c3 : Nat) (p1 : (List (Int × Int × (List UInt8) × (List UInt8) × Int × Int × Int × (List UInt8)))) (w0 : World) (m : RdT (Qb (Qd .i64) (Qb (Qd .i64) (Qb Q5 (Qb Q5 (Qb (Qd .i64) (Qb (Qd .i64) (Qb (Qd .i64) Q5))))))) w0 A2 c3 p1) (r : (Bool)) (H : Y4 p1 = some r) :
  Calls Tryz.prog 32 #[(.slice A2 (List.length p1) c3)] w0 (fun e w' => e = .returned (.bool r) ∧ SP [] w0 w' []) := by
 unfold Y4 at H
 refine Qw (n := 32) Tryz.func32 K K K ?_
 have b1 := Q8 [] w0
 refine aQ ?_
 refine aR ?_
 refine iR 1 1 [(2, (.bool false))] ?_
 refine iF ?_
 refine aQ ?_
 refine aQ ?_
 refine aR ?_
 refine iR 1 1 [(3, (.int .i64 0))] ?_
 refine iF ?_
 refine X4 K (id := 0) K ?_
 refine Nh K (fun f5 ρ w => ∃ (a : Int), Zo ρ [(0, (.slice A2 (List.length p1) c3)), (3, (.int .i64 a))] ∧ SP [] w0 w [] ∧ Vj p1 f5 a = some r) (by rintro ρ w ⟨a, hk, hs, H⟩; cases H) ?_ Z1 ?_
 ·rintro f5 ρ b8 ⟨a, hk, a0, H⟩
  refine At.known [(0, (.slice A2 (List.length p1) c3)), (3, (.int .i64 a))] hk ?_
  replace H := (show Za (Vj p1 f5) p1 a = some r from H)
  unfold Za at H
  refine aQ ?_
  refine aQ ?_
  refine At.join (fun ρ w => ∃ (g : Bool), Zo ρ [(0, (.slice A2 (List.length p1) c3)), (3, (.int .i64 a)), (11, (.bool g))] ∧ SP [] w0 w [] ∧ Zr (Vj p1 f5) p1 a g = some r) ?_ ?_
  ·refine aR ?_
   refine iR 5 5 [(4, (.int .i64 a)), (5, (.slice A2 (List.length p1) c3)), (6, (.int .i64 ((List.length p1 : Nat) : Int))), (7, (.bool (decide (a < ((List.length p1 : Nat) : Int))))), (8, (.bool (decide (a < ((List.length p1 : Nat) : Int)))))] ?_
   refine In.guard (t := 8) (b := (decide (a < ((List.length p1 : Nat) : Int)))) K (fun s => ?_) (fun s => ?_)
   ·have H := ct H s
    refine iR 3 8 [(9, (.int .i64 a)), (10, (.bool (decide (a < 60)))), (11, (.bool (decide (a < 60))))] ?_
    refine iF ?_
    exact ⟨(decide (a < 60)), ⟨K, K, K, trivial⟩, SP.sel a0 [] rfl rfl, H⟩
   ·have H := cf H s
    refine iR 3 8 [(9, undef), (10, undef), (11, (.bool false))] ?_
    refine iF ?_
    exact ⟨false, ⟨K, K, K, trivial⟩, SP.sel a0 [] rfl rfl, H⟩
  ·rintro ρ b2 ⟨g, hk, p, H⟩
   unfold Zr at H
   first | refine At.known [(0, (.slice A2 (List.length p1) c3)), (3, (.int .i64 a)), (11, (.bool g))] hk ?_ | rw [← Vd (l := [(0, (.slice A2 (List.length p1) c3)), (3, (.int .i64 a)), (11, (.bool g))]) hk]
   refine Zu K (o := (.tmp 11)) K (b := g) K (fun u => ?_) (fun u => ?_)
   ·have H := ct H u
    refine At.skip K ?_
    refine aQ ?_
    refine X4 K (id := 1) K ?_
    refine aQ ?_
    refine At.join (fun ρ w => ∃ (h : Bool), Zo ρ [(0, (.slice A2 (List.length p1) c3)), (3, (.int .i64 a)), (28, (.bool h))] ∧ SP [] w0 w [] ∧ Zq (Vj p1 f5) a h = some r) ?_ ?_
    ·refine aR ?_
     refine iR 2 2 [(14, (.slice A2 (List.length p1) c3)), (15, (.int .i64 a))] ?_
     obtain ⟨f, a1, a2, b3, H⟩ := Q0 H
     refine iS 3 ?_
     refine V5 (e := (Qb (Qd .i64) (Qb (Qd .i64) (Qb Q5 (Qb Q5 (Qb (Qd .i64) (Qb (Qd .i64) (Qb (Qd .i64) Q5)))))))) (l := p1) (A := A2) (c := c3) (T := 58) (E := 67) (x := (.tmp 14)) (ix := (.tmp 15)) (ki := .i64) (iz := a) (d := (some 16)) (k := 2) K rfl K K K K (RdT.sp m p) a1 a2 ?_
     intro a3 a4 b4 b9 hc169
     refine iR 1 4 [(17, (.pointer (some ⟨a3, (a4 + Int.toNat a * (Qb (Qd .i64) (Qb (Qd .i64) (Qb Q5 (Qb Q5 (Qb (Qd .i64) (Qb (Qd .i64) (Qb (Qd .i64) Q5))))))).sz + 1), none⟩)))] ?_
     refine iS 5 ?_
     refine Qn.cells (t := 63) (x := (.tmp 17)) (b := a3) (off := (a4 + Int.toNat a * (Qb (Qd .i64) (Qb (Qd .i64) (Qb Q5 (Qb Q5 (Qb (Qd .i64) (Qb (Qd .i64) (Qb (Qd .i64) Q5))))))).sz + 1)) (xs := [(.int .i64 f.2.1), (.string ⟨List.toArray f.2.2.1⟩), (.string ⟨List.toArray f.2.2.2.1⟩), (.int .i64 f.2.2.2.2.1), (.int .i64 f.2.2.2.2.2.1)]) (d := (some 18)) (k := 4) K rfl K K K (Rs (e := (Qb (Qd .i64) (Qb (Qd .i64) (Qb Q5 (Qb Q5 (Qb (Qd .i64) (Qb (Qd .i64) (Qb (Qd .i64) Q5)))))))) (Qr (RdT.sp m p) b4 a1 a2) b3 (j := 1) rfl) ?_
     obtain ⟨v, b5, H⟩ := Qf H
     refine iS 6 ?_
     refine cF 37 #[(.tmp 18)] #[63] 19 Tryz.call37 (N7  f.2.1 f.2.2.1 f.2.2.2.1 f.2.2.2.2.1 f.2.2.2.2.2.1 b2  v b5) ?_
     rintro e c0 ⟨rfl, a5⟩
     refine ⟨_, rfl, ?_⟩
     have q := SP.call p a5
     clear a5
     refine iR 1 7 [(20, (.bool v))] ?_
     refine In.guard (t := 20) (b := v) K (fun y => ?_) (fun y => ?_)
     ·have H := ct H y
      refine iR 8 15 [(21, undef), (22, undef), (23, undef), (24, undef), (25, undef), (26, undef), (27, undef), (28, (.bool true))] ?_
      refine iF ?_
      exact ⟨true, ⟨K, K, K, trivial⟩, SP.sel q [] rfl rfl, H⟩
     ·have H := cf H y
      refine iR 2 9 [(21, (.slice A2 (List.length p1) c3)), (22, (.int .i64 a))] ?_
      obtain ⟨i, a6, a7, b6, H⟩ := Q0 H
      refine iS 10 ?_
      refine V5 (e := (Qb (Qd .i64) (Qb (Qd .i64) (Qb Q5 (Qb Q5 (Qb (Qd .i64) (Qb (Qd .i64) (Qb (Qd .i64) Q5)))))))) (l := p1) (A := A2) (c := c3) (T := 58) (E := 67) (x := (.tmp 21)) (ix := (.tmp 22)) (ki := .i64) (iz := a) (d := (some 23)) (k := 9) K rfl K K K K (RdT.sp m q) a6 a7 ?_
      intro a8 a9 b7 c1 hc185
      refine iR 1 11 [(24, (.pointer (some ⟨a8, (a9 + Int.toNat a * (Qb (Qd .i64) (Qb (Qd .i64) (Qb Q5 (Qb Q5 (Qb (Qd .i64) (Qb (Qd .i64) (Qb (Qd .i64) Q5))))))).sz + 7), none⟩)))] ?_
      refine iS 12 ?_
      refine sC 9 24 a8 (a9 + Int.toNat a * (Qb (Qd .i64) (Qb (Qd .i64) (Qb Q5 (Qb Q5 (Qb (Qd .i64) (Qb (Qd .i64) (Qb (Qd .i64) Q5))))))).sz + 7) (.string ⟨List.toArray i.2.2.2.2.2.2.2⟩) 25 (Qx (e := (Qb (Qd .i64) (Qb (Qd .i64) (Qb Q5 (Qb Q5 (Qb (Qd .i64) (Qb (Qd .i64) (Qb (Qd .i64) Q5)))))))) (Qr (RdT.sp m q) b7 a6 a7) b6 (j := 7) rfl) ?_
      refine iR 3 15 [(26, (.int .i64 ((List.length i.2.2.2.2.2.2.2 : Nat) : Int))), (27, (.bool (decide (((List.length i.2.2.2.2.2.2.2 : Nat) : Int) > 2000)))), (28, (.bool (decide (((List.length i.2.2.2.2.2.2.2 : Nat) : Int) > 2000))))] ?_
      refine iF ?_
      exact ⟨(decide (((List.length i.2.2.2.2.2.2.2 : Nat) : Int) > 2000)), ⟨K, K, K, trivial⟩, SP.sel q [] rfl rfl, H⟩
    ·rintro ρ c2 ⟨h, hk, b0, H⟩
     unfold Zq at H
     first | refine At.known [(0, (.slice A2 (List.length p1) c3)), (3, (.int .i64 a)), (28, (.bool h))] hk ?_ | rw [← Vd (l := [(0, (.slice A2 (List.length p1) c3)), (3, (.int .i64 a)), (28, (.bool h))]) hk]
     refine Zu K (o := (.tmp 28)) K (b := h) K (fun z => ?_) (fun z => ?_)
     ·have H := ct H z
      refine aQ ?_
      refine aR ?_
      refine iR 1 1 [(2, (.bool true))] ?_
      refine iF ?_
      refine At.ret K ?_
      refine ⟨(.bool true), K, ?_⟩
      obtain rfl := Qi H
      exact ⟨rfl, SP.sel b0 [] rfl rfl⟩
     ·have H := cf H z
      refine At.skip K ?_
      refine aR ?_
      refine iR 3 3 [(12, (.int .i64 a)), (13, (.int .i64 (IntKind.wrap .i64 (a + 1)))), (3, (.int .i64 (IntKind.wrap .i64 (a + 1))))] ?_
      refine iF ?_
      exact ⟨(IntKind.wrap .i64 (a + 1)), ⟨K, K, trivial⟩, SP.sel b0 [] rfl rfl, H⟩
   ·have H := cf H u
    refine At.exit K (id := 0) K ?_
    refine aQ ?_
    refine aR ?_
    refine iR 4 4 [(29, (.slice A2 (List.length p1) c3)), (30, (.int .i64 ((List.length p1 : Nat) : Int))), (31, (.bool (decide (((List.length p1 : Nat) : Int) > 40)))), (2, (.bool (decide (((List.length p1 : Nat) : Int) > 40))))] ?_
    refine iF ?_
    refine At.ret K ?_
    refine ⟨(.bool (decide (((List.length p1 : Nat) : Int) > 40))), K, ?_⟩
    obtain rfl := Qi H
    exact ⟨rfl, SP.sel p [] rfl rfl⟩
 ·exact ⟨0, ⟨K, K, trivial⟩, SP.sel b1 [] rfl rfl, H⟩
def Q7 (a : Bool) : Option (Bool) :=
  (some (a))
def Yh  : Option (Bool) :=
  ((Jr ).bind fun z1 => ((J9 9 9 9 9 ([(([97, 110, 110] : List UInt8), 0, 0, ([] : List (Int × Int)), ([(([107] : List UInt8), ([115] : List UInt8), 5)] : List ((List UInt8) × (List UInt8) × Int)))] : List Qg)).bind fun z9 => (optE z9 (some (false)) (fun a => ((Uv a.1 a.2.1 a.2.2.1 a.2.2.2.1 ([(([97, 110, 110] : List UInt8), 0, 0, ([] : List (Int × Int)), ([(([107] : List UInt8), ([115] : List UInt8), 5)] : List ((List UInt8) × (List UInt8) × Int)))] : List Qg) a.2.2.2.2).bind fun f => ((Uv a.1 a.2.1 a.2.2.1 a.2.2.2.1 ([(([97, 110, 110] : List UInt8), 0, 0, ([] : List (Int × Int)), ([(([107] : List UInt8), ([115] : List UInt8), 5)] : List ((List UInt8) × (List UInt8) × Int)))] : List Qg) a.2.2.2.2).bind fun g => ((Zb a.1 a.2.1 a.2.2.1 a.2.2.2.1 ([(([97, 110, 110] : List UInt8), 0, 0, ([] : List (Int × Int)), ([(([107] : List UInt8), ([115] : List UInt8), 5)] : List ((List UInt8) × (List UInt8) × Int)))] : List Qg) a.2.2.2.2 f.1 f.2.1 f.2.2.1 f.2.2.2.1 f.2.2.2.2 1 ([97, 110, 110] : List UInt8) ([107] : List UInt8) 0 0 1 ([110] : List UInt8)).bind fun d => ((Xl a.1 a.2.1 a.2.2.1 a.2.2.2.1 ([(([97, 110, 110] : List UInt8), 0, 0, ([] : List (Int × Int)), ([(([107] : List UInt8), ([115] : List UInt8), 5)] : List ((List UInt8) × (List UInt8) × Int)))] : List Qg) a.2.2.2.2 ([97, 110, 110] : List UInt8) ([107] : List UInt8) ([110] : List UInt8)).bind fun i => ((Zb a.1 a.2.1 a.2.2.1 a.2.2.2.1 ([(([97, 110, 110] : List UInt8), 0, 0, ([] : List (Int × Int)), ([(([107] : List UInt8), ([115] : List UInt8), 5)] : List ((List UInt8) × (List UInt8) × Int)))] : List Qg) a.2.2.2.2 d.2.2.2.2.2.2.1 d.2.2.2.2.2.2.2.1 d.2.2.2.2.2.2.2.2.1 d.2.2.2.2.2.2.2.2.2.1 d.2.2.2.2.2.2.2.2.2.2 3 i ([] : List UInt8) 0 0 2 ([109] : List UInt8)).bind fun c => ((Jq a.1 a.2.1 a.2.2.1 a.2.2.2.1 ([(([97, 110, 110] : List UInt8), 0, 0, ([] : List (Int × Int)), ([(([107] : List UInt8), ([115] : List UInt8), 5)] : List ((List UInt8) × (List UInt8) × Int)))] : List Qg) a.2.2.2.2 c.2.2.2.2.2.2.1 c.2.2.2.2.2.2.2.1 c.2.2.2.2.2.2.2.2.1 c.2.2.2.2.2.2.2.2.2.1 c.2.2.2.2.2.2.2.2.2.2).bind fun h => ((Zb a.1 a.2.1 a.2.2.1 a.2.2.2.1 ([(([97, 110, 110] : List UInt8), 0, 0, ([] : List (Int × Int)), ([(([107] : List UInt8), ([115] : List UInt8), 5)] : List ((List UInt8) × (List UInt8) × Int)))] : List Qg) a.2.2.2.2 c.2.2.2.2.2.2.1 c.2.2.2.2.2.2.2.1 c.2.2.2.2.2.2.2.2.1 c.2.2.2.2.2.2.2.2.2.1 c.2.2.2.2.2.2.2.2.2.2 13 ([] : List UInt8) ([] : List UInt8) 0 0 3 ([] : List UInt8)).bind fun e => ((Zb a.1 a.2.1 a.2.2.1 a.2.2.2.1 ([(([97, 110, 110] : List UInt8), 0, 0, ([] : List (Int × Int)), ([(([107] : List UInt8), ([115] : List UInt8), 5)] : List ((List UInt8) × (List UInt8) × Int)))] : List Qg) a.2.2.2.2 g.1 g.2.1 g.2.2.1 g.2.2.2.1 g.2.2.2.2 3 ([] : List UInt8) ([] : List UInt8) 0 0 1 ([110] : List UInt8)).bind fun b => ((Jq a.1 a.2.1 a.2.2.1 a.2.2.2.1 ([(([97, 110, 110] : List UInt8), 0, 0, ([] : List (Int × Int)), ([(([107] : List UInt8), ([115] : List UInt8), 5)] : List ((List UInt8) × (List UInt8) × Int)))] : List Qg) a.2.2.2.2 b.2.2.2.2.2.2.1 b.2.2.2.2.2.2.2.1 b.2.2.2.2.2.2.2.2.1 b.2.2.2.2.2.2.2.2.2.1 b.2.2.2.2.2.2.2.2.2.2).bind fun j => (cond ((d.1 == 2) && ((d.2.1 == ([110] : List UInt8)) && ((d.2.2.1 == ([] : List UInt8)) && ((d.2.2.2.1 == 0) && (d.2.2.2.2.1 == 0))))) (cond d.2.2.2.2.2.1 (cond (c.1 == 4) (cond c.2.2.2.2.2.1 (cond (h.1 == ([97, 110, 110] : List UInt8)) (cond h.2 (cond (!e.2.2.2.2.2.1) (cond ((b.1 == 5) && ((b.2.1 == ([] : List UInt8)) && ((b.2.2.1 == ([] : List UInt8)) && ((b.2.2.2.1 == 1) && (b.2.2.2.2.1 == 0))))) (cond (!j.2) ((Zc a.1 a.2.1 a.2.2.1 a.2.2.2.1 ([(([97, 110, 110] : List UInt8), 0, 0, ([] : List (Int × Int)), ([(([107] : List UInt8), ([115] : List UInt8), 5)] : List ((List UInt8) × (List UInt8) × Int)))] : List Qg) a.2.2.2.2 e.2.2.2.2.2.2.1 e.2.2.2.2.2.2.2.1 e.2.2.2.2.2.2.2.2.1 e.2.2.2.2.2.2.2.2.2.1 e.2.2.2.2.2.2.2.2.2.2).bind fun k => (cond k ((Zc a.1 a.2.1 a.2.2.1 a.2.2.2.1 ([(([97, 110, 110] : List UInt8), 0, 0, ([] : List (Int × Int)), ([(([107] : List UInt8), ([115] : List UInt8), 5)] : List ((List UInt8) × (List UInt8) × Int)))] : List Qg) a.2.2.2.2 b.2.2.2.2.2.2.1 b.2.2.2.2.2.2.2.1 b.2.2.2.2.2.2.2.2.1 b.2.2.2.2.2.2.2.2.2.1 b.2.2.2.2.2.2.2.2.2.2).bind fun l => (Q7 l)) (Q7 false))) (Q7 false)) (Q7 false)) (Q7 false)) (Q7 false)) (Q7 false)) (Q7 false)) (Q7 false)) (Q7 false)) (Q7 false)))))))))))))))
set_option maxRecDepth 100000 in
set_option maxHeartbeats 4000000 in
theorem Gq   (w0 : World) (hL : Db w0)  (r : (Bool)) (H : Yh  = some r) :
  Calls Tryz.prog 31 #[] w0 (fun e w' => e = .returned (.bool r) ∧ SP [] w0 w' []) := by
 unfold Yh at H
 refine Qw (n := 108) Tryz.func31 K K K ?_
 have f8 := Q8 [] w0
 refine aQ ?_
 refine aR ?_
 refine iR 1 1 [(0, (.bool false))] ?_
 refine iF ?_
 refine aQ ?_
 refine aR ?_
 obtain ⟨z1, f9, H⟩ := Qf H
 refine iS 1 ?_
 refine cF 56 #[] #[] 16 Tryz.call56 (Gx   w0  z1 f9) ?_
 rintro e w3 ⟨g5, g6, rfl, d4⟩
 refine ⟨_, rfl, ?_⟩
 have a7 := SP.call f8 d4
 clear d4
 obtain ⟨z9, d5, H⟩ := Qf H
 rcases z9 with _ | c
 ·have H := optN H
  refine iS 2 ?_
  refine cF 18 #[(.tmp 16)] #[24] 17 Tryz.call18 (J6 (some ⟨g6, 0, none⟩) (List.length ([(([97, 110, 110] : List UInt8), 0, 0, ([] : List (Int × Int)), ([(([107] : List UInt8), ([115] : List UInt8), 5)] : List ((List UInt8) × (List UInt8) × Int)))] : List Qg)) 9 9 9 9 ([(([97, 110, 110] : List UInt8), 0, 0, (none, 0, ([] : List (Int × Int))), ((some ⟨g5, 0, none⟩), (List.length ([(([107] : List UInt8), ([115] : List UInt8), 5)] : List ((List UInt8) × (List UInt8) × Int))), ([(([107] : List UInt8), ([115] : List UInt8), 5)] : List ((List UInt8) × (List UInt8) × Int))))] : List Vi) w3 (Z6 hL (SP.keeps a7)) (Dt (Zd (SP.get a7 (i := 1) rfl)) (Ur (Xe Yv (Xe Yv (Xe Yv (Xe (J7 (RdT.nil (Qb (Qd .u32) (Qd .i64)) w3)) (J7 (Zd (SP.get a7 (i := 0) rfl))))))) Ny)) none d5) ?_
  rintro e j5 ⟨rfl, d6⟩
  refine ⟨_, rfl, ?_⟩
  have g0 := SP.call a7 d6
  clear d6
  refine iR 1 3 [(1, (.pointer none))] ?_
  refine iF ?_
  refine aQ ?_
  refine aQ ?_
  refine aR ?_
  refine iR 2 2 [(18, (.pointer none)), (19, (.bool true))] ?_
  refine iF ?_
  refine Zu K (o := (.tmp 19)) K (b := true) K (fun d7 => ?_) (fun d7 => ?_)
  rotate_left
  ·cases d7
  refine aQ ?_
  refine aR ?_
  refine iR 1 1 [(0, (.bool false))] ?_
  refine iF ?_
  refine At.ret K ?_
  refine ⟨(.bool false), K, ?_⟩
  obtain rfl := Qi H
  exact ⟨rfl, SP.sel g0 [] rfl rfl⟩
 ·have H := optS H
  refine iS 2 ?_
  refine cF 18 #[(.tmp 16)] #[24] 17 Tryz.call18 (J6 (some ⟨g6, 0, none⟩) (List.length ([(([97, 110, 110] : List UInt8), 0, 0, ([] : List (Int × Int)), ([(([107] : List UInt8), ([115] : List UInt8), 5)] : List ((List UInt8) × (List UInt8) × Int)))] : List Qg)) 9 9 9 9 ([(([97, 110, 110] : List UInt8), 0, 0, (none, 0, ([] : List (Int × Int))), ((some ⟨g5, 0, none⟩), (List.length ([(([107] : List UInt8), ([115] : List UInt8), 5)] : List ((List UInt8) × (List UInt8) × Int))), ([(([107] : List UInt8), ([115] : List UInt8), 5)] : List ((List UInt8) × (List UInt8) × Int))))] : List Vi) w3 (Z6 hL (SP.keeps a7)) (Dt (Zd (SP.get a7 (i := 1) rfl)) (Ur (Xe Yv (Xe Yv (Xe Yv (Xe (J7 (RdT.nil (Qb (Qd .u32) (Qd .i64)) w3)) (J7 (Zd (SP.get a7 (i := 0) rfl))))))) Ny)) (some c) d5) ?_
  rintro e g1 ⟨p, u, rfl, d8⟩
  refine ⟨_, rfl, ?_⟩
  have b2 := SP.call a7 d8
  clear d8
  refine iR 1 3 [(1, (pt p 0))] ?_
  refine iF ?_
  refine aQ ?_
  refine aQ ?_
  refine aR ?_
  refine iR 2 2 [(18, (pt p 0)), (19, (.bool false))] ?_
  refine iF ?_
  refine Zu K (o := (.tmp 19)) K (b := false) K (fun d9 => ?_) (fun d9 => ?_)
  ·cases d9
  refine At.skip K ?_
  refine aQ ?_
  refine aR ?_
  refine iR 1 1 [(20, (pt p 0))] ?_
  obtain ⟨a2, g2, H⟩ := Qf H
  refine iS 2 ?_
  refine cF 33 #[(.tmp 20)] #[29] 21 Tryz.call33 (U9 p (some ⟨g6, 0, none⟩) (List.length ([(([97, 110, 110] : List UInt8), 0, 0, ([] : List (Int × Int)), ([(([107] : List UInt8), ([115] : List UInt8), 5)] : List ((List UInt8) × (List UInt8) × Int)))] : List Qg)) u c.1 c.2.1 c.2.2.1 c.2.2.2.1 ([(([97, 110, 110] : List UInt8), 0, 0, (none, 0, ([] : List (Int × Int))), ((some ⟨g5, 0, none⟩), (List.length ([(([107] : List UInt8), ([115] : List UInt8), 5)] : List ((List UInt8) × (List UInt8) × Int))), ([(([107] : List UInt8), ([115] : List UInt8), 5)] : List ((List UInt8) × (List UInt8) × Int))))] : List Vi) c.2.2.2.2 g1 (Ze b2 [2, 3] rfl rfl) (fun w hm => Dt (Zd (SP.still b2 (l := [2, 3]) (i := 1) rfl rfl rfl hm)) (Ur (Xe Yv (Xe Yv (Xe Yv (Xe (G4 (Qb (Qd .u32) (Qd .i64)) dT w) (J7 (Zd (SP.still b2 (l := [2, 3]) (i := 0) rfl rfl rfl hm))))))) Ny)) a2 g2) ?_
  rintro e e0 ⟨s, rfl, e1⟩
  refine ⟨_, rfl, ?_⟩
  have b3 : SP [] w0 e0 [U8 48 (Qb Q5 (Qb Q5 (Qd .i64))) (some ⟨g5, 0, none⟩) (List.length ([(([107] : List UInt8), ([115] : List UInt8), 5)] : List ((List UInt8) × (List UInt8) × Int))) ([(([107] : List UInt8), ([115] : List UInt8), 5)] : List ((List UInt8) × (List UInt8) × Int)), U8 44 Ul (some ⟨g6, 0, none⟩) (List.length ([(([97, 110, 110] : List UInt8), 0, 0, ([] : List (Int × Int)), ([(([107] : List UInt8), ([115] : List UInt8), 5)] : List ((List UInt8) × (List UInt8) × Int)))] : List Qg)) ([(([97, 110, 110] : List UInt8), 0, 0, (none, 0, ([] : List (Int × Int))), ((some ⟨g5, 0, none⟩), (List.length ([(([107] : List UInt8), ([115] : List UInt8), 5)] : List ((List UInt8) × (List UInt8) × Int))), ([(([107] : List UInt8), ([115] : List UInt8), 5)] : List ((List UInt8) × (List UInt8) × Int))))] : List Vi), Qj s 95 #[(pt p 0), (Q4 a2.1 s), (.string ⟨List.toArray a2.2.1⟩), (.string ⟨List.toArray a2.2.2.1⟩), (.string ⟨List.toArray a2.2.2.2.1⟩), (.bool a2.2.2.2.2)], Qj p 79 #[(.int .i64 c.1), (.int .i64 c.2.1), (.int .i64 c.2.2.1), (.int .i64 c.2.2.2.1), (.slice (some ⟨g6, 0, none⟩) (List.length ([(([97, 110, 110] : List UInt8), 0, 0, ([] : List (Int × Int)), ([(([107] : List UInt8), ([115] : List UInt8), 5)] : List ((List UInt8) × (List UInt8) × Int)))] : List Qg)) (List.length ([(([97, 110, 110] : List UInt8), 0, 0, ([] : List (Int × Int)), ([(([107] : List UInt8), ([115] : List UInt8), 5)] : List ((List UInt8) × (List UInt8) × Int)))] : List Qg))), (.map (some u))], Qz u c.2.2.2.2] := Va b2 [2, 3] [0, 1] rfl rfl e1 rfl
  clear e1
  refine iR 1 3 [(2, (pt s 0))] ?_
  refine iF ?_
  refine aQ ?_
  refine aR ?_
  refine iR 1 1 [(22, (pt p 0))] ?_
  obtain ⟨q, g3, H⟩ := Qf H
  refine iS 2 ?_
  refine cF 33 #[(.tmp 22)] #[29] 23 Tryz.call33 (U9 p (some ⟨g6, 0, none⟩) (List.length ([(([97, 110, 110] : List UInt8), 0, 0, ([] : List (Int × Int)), ([(([107] : List UInt8), ([115] : List UInt8), 5)] : List ((List UInt8) × (List UInt8) × Int)))] : List Qg)) u c.1 c.2.1 c.2.2.1 c.2.2.2.1 ([(([97, 110, 110] : List UInt8), 0, 0, (none, 0, ([] : List (Int × Int))), ((some ⟨g5, 0, none⟩), (List.length ([(([107] : List UInt8), ([115] : List UInt8), 5)] : List ((List UInt8) × (List UInt8) × Int))), ([(([107] : List UInt8), ([115] : List UInt8), 5)] : List ((List UInt8) × (List UInt8) × Int))))] : List Vi) c.2.2.2.2 e0 (Ze b3 [3, 4] rfl rfl) (fun w hm => Dt (Zd (SP.still b3 (l := [3, 4]) (i := 1) rfl rfl rfl hm)) (Ur (Xe Yv (Xe Yv (Xe Yv (Xe (G4 (Qb (Qd .u32) (Qd .i64)) dT w) (J7 (Zd (SP.still b3 (l := [3, 4]) (i := 0) rfl rfl rfl hm))))))) Ny)) q g3) ?_
  rintro e e2 ⟨a0, rfl, e3⟩
  refine ⟨_, rfl, ?_⟩
  have b4 : SP [] w0 e2 [U8 48 (Qb Q5 (Qb Q5 (Qd .i64))) (some ⟨g5, 0, none⟩) (List.length ([(([107] : List UInt8), ([115] : List UInt8), 5)] : List ((List UInt8) × (List UInt8) × Int))) ([(([107] : List UInt8), ([115] : List UInt8), 5)] : List ((List UInt8) × (List UInt8) × Int)), U8 44 Ul (some ⟨g6, 0, none⟩) (List.length ([(([97, 110, 110] : List UInt8), 0, 0, ([] : List (Int × Int)), ([(([107] : List UInt8), ([115] : List UInt8), 5)] : List ((List UInt8) × (List UInt8) × Int)))] : List Qg)) ([(([97, 110, 110] : List UInt8), 0, 0, (none, 0, ([] : List (Int × Int))), ((some ⟨g5, 0, none⟩), (List.length ([(([107] : List UInt8), ([115] : List UInt8), 5)] : List ((List UInt8) × (List UInt8) × Int))), ([(([107] : List UInt8), ([115] : List UInt8), 5)] : List ((List UInt8) × (List UInt8) × Int))))] : List Vi), Qj s 95 #[(pt p 0), (Q4 a2.1 s), (.string ⟨List.toArray a2.2.1⟩), (.string ⟨List.toArray a2.2.2.1⟩), (.string ⟨List.toArray a2.2.2.2.1⟩), (.bool a2.2.2.2.2)], Qj a0 95 #[(pt p 0), (Q4 q.1 a0), (.string ⟨List.toArray q.2.1⟩), (.string ⟨List.toArray q.2.2.1⟩), (.string ⟨List.toArray q.2.2.2.1⟩), (.bool q.2.2.2.2)], Qj p 79 #[(.int .i64 c.1), (.int .i64 c.2.1), (.int .i64 c.2.2.1), (.int .i64 c.2.2.2.1), (.slice (some ⟨g6, 0, none⟩) (List.length ([(([97, 110, 110] : List UInt8), 0, 0, ([] : List (Int × Int)), ([(([107] : List UInt8), ([115] : List UInt8), 5)] : List ((List UInt8) × (List UInt8) × Int)))] : List Qg)) (List.length ([(([97, 110, 110] : List UInt8), 0, 0, ([] : List (Int × Int)), ([(([107] : List UInt8), ([115] : List UInt8), 5)] : List ((List UInt8) × (List UInt8) × Int)))] : List Qg))), (.map (some u))], Qz u c.2.2.2.2] := Va b3 [3, 4] [0, 1, 2] rfl rfl e3 rfl
  clear e3
  refine iR 1 3 [(3, (pt a0 0))] ?_
  refine iF ?_
  refine aQ ?_
  refine aQ ?_
  refine aR ?_
  refine iR 6 6 [(24, (pt s 0)), (25, (.bool false)), (26, (.bool false)), (27, (pt a0 0)), (28, (.bool false)), (29, (.bool false))] ?_
  refine iF ?_
  refine Zu K (o := (.tmp 29)) K (b := false) K (fun e4 => ?_) (fun e4 => ?_)
  ·cases e4
  refine At.skip K ?_
  refine aQ ?_
  refine aR ?_
  refine iR 2 2 [(31, (pt s 0)), (32, (.agg #[(.int .i64 1), (.string ⟨List.toArray ([97, 110, 110] : List UInt8)⟩), (.string ⟨List.toArray ([107] : List UInt8)⟩), (.int .i64 0), (.int .i64 0)]))] ?_
  obtain ⟨f, g4, H⟩ := Qf H
  refine iS 3 ?_
  refine cF 34 #[(.tmp 31), (.tmp 32), (.const (.int .i64 (1))), (.const (.string ⟨List.toArray ([110] : List UInt8)⟩))] #[60, 63, 2, 9] 33 Tryz.call34 (Zm s p (some ⟨g6, 0, none⟩) (List.length ([(([97, 110, 110] : List UInt8), 0, 0, ([] : List (Int × Int)), ([(([107] : List UInt8), ([115] : List UInt8), 5)] : List ((List UInt8) × (List UInt8) × Int)))] : List Qg)) u c.1 c.2.1 c.2.2.1 c.2.2.2.1 ([(([97, 110, 110] : List UInt8), 0, 0, (none, 0, ([] : List (Int × Int))), ((some ⟨g5, 0, none⟩), (List.length ([(([107] : List UInt8), ([115] : List UInt8), 5)] : List ((List UInt8) × (List UInt8) × Int))), ([(([107] : List UInt8), ([115] : List UInt8), 5)] : List ((List UInt8) × (List UInt8) × Int))))] : List Vi) c.2.2.2.2 a2.1 a2.2.1 a2.2.2.1 a2.2.2.2.1 a2.2.2.2.2 1 ([97, 110, 110] : List UInt8) ([107] : List UInt8) 0 0 1 ([110] : List UInt8) e2 (Ze b4 [4, 5, 2] rfl rfl) (fun w hm => Dt (Zd (SP.still b4 (l := [4, 5, 2]) (i := 1) rfl rfl rfl hm)) (Ur (Xe Yv (Xe Yv (Xe Yv (Xe (G4 (Qb (Qd .u32) (Qd .i64)) dT w) (J7 (Zd (SP.still b4 (l := [4, 5, 2]) (i := 0) rfl rfl rfl hm))))))) Ny)) f g4) ?_
  rintro e g7 ⟨rfl, e5⟩
  refine ⟨_, rfl, ?_⟩
  have g8 : SP [] w0 g7 [U8 48 (Qb Q5 (Qb Q5 (Qd .i64))) (some ⟨g5, 0, none⟩) (List.length ([(([107] : List UInt8), ([115] : List UInt8), 5)] : List ((List UInt8) × (List UInt8) × Int))) ([(([107] : List UInt8), ([115] : List UInt8), 5)] : List ((List UInt8) × (List UInt8) × Int)), U8 44 Ul (some ⟨g6, 0, none⟩) (List.length ([(([97, 110, 110] : List UInt8), 0, 0, ([] : List (Int × Int)), ([(([107] : List UInt8), ([115] : List UInt8), 5)] : List ((List UInt8) × (List UInt8) × Int)))] : List Qg)) ([(([97, 110, 110] : List UInt8), 0, 0, (none, 0, ([] : List (Int × Int))), ((some ⟨g5, 0, none⟩), (List.length ([(([107] : List UInt8), ([115] : List UInt8), 5)] : List ((List UInt8) × (List UInt8) × Int))), ([(([107] : List UInt8), ([115] : List UInt8), 5)] : List ((List UInt8) × (List UInt8) × Int))))] : List Vi), Qj a0 95 #[(pt p 0), (Q4 q.1 a0), (.string ⟨List.toArray q.2.1⟩), (.string ⟨List.toArray q.2.2.1⟩), (.string ⟨List.toArray q.2.2.2.1⟩), (.bool q.2.2.2.2)], Qj p 79 #[(.int .i64 c.1), (.int .i64 c.2.1), (.int .i64 c.2.2.1), (.int .i64 c.2.2.2.1), (.slice (some ⟨g6, 0, none⟩) (List.length ([(([97, 110, 110] : List UInt8), 0, 0, ([] : List (Int × Int)), ([(([107] : List UInt8), ([115] : List UInt8), 5)] : List ((List UInt8) × (List UInt8) × Int)))] : List Qg)) (List.length ([(([97, 110, 110] : List UInt8), 0, 0, ([] : List (Int × Int)), ([(([107] : List UInt8), ([115] : List UInt8), 5)] : List ((List UInt8) × (List UInt8) × Int)))] : List Qg))), (.map (some u))], Qz u c.2.2.2.2, Qj s 95 #[(pt p 0), (Q4 f.2.2.2.2.2.2.1 s), (.string ⟨List.toArray f.2.2.2.2.2.2.2.1⟩), (.string ⟨List.toArray f.2.2.2.2.2.2.2.2.1⟩), (.string ⟨List.toArray f.2.2.2.2.2.2.2.2.2.1⟩), (.bool f.2.2.2.2.2.2.2.2.2.2)]] := Va b4 [4, 5, 2] [0, 1, 3] rfl rfl e5 rfl
  clear e5
  refine iR 3 6 [(30, (.tuple #[(.agg #[(.int .i64 f.1), (.string ⟨List.toArray f.2.1⟩), (.string ⟨List.toArray f.2.2.1⟩), (.int .i64 f.2.2.2.1), (.int .i64 f.2.2.2.2.1)]), (.bool f.2.2.2.2.2.1)])), (34, (.agg #[(.int .i64 f.1), (.string ⟨List.toArray f.2.1⟩), (.string ⟨List.toArray f.2.2.1⟩), (.int .i64 f.2.2.2.1), (.int .i64 f.2.2.2.2.1)])), (35, (.bool f.2.2.2.2.2.1))] ?_
  refine iS 7 ?_
  refine Qn.alloc (t := 63) (z := (.agg #[(.int .i64 0), (.string ⟨List.toArray ([] : List UInt8)⟩), (.string ⟨List.toArray ([] : List UInt8)⟩), (.int .i64 0), (.int .i64 0)])) (d := (some 4)) (k := 6) K rfl K g8 ?_
  intro a5 j6 g9
  refine iS 8 ?_
  refine Qn.store (t := 63) (x := (.tmp 4)) (y := (.tmp 34)) (g := a5) (off := 0) (i := 6) (v := (.agg #[(.int .i64 f.1), (.string ⟨List.toArray f.2.1⟩), (.string ⟨List.toArray f.2.2.1⟩), (.int .i64 f.2.2.2.1), (.int .i64 f.2.2.2.2.1)])) (cs' := #[(.int .i64 f.1), (.string ⟨List.toArray f.2.1⟩), (.string ⟨List.toArray f.2.2.1⟩), (.int .i64 f.2.2.2.1), (.int .i64 f.2.2.2.2.1)]) (d := none) (k := 7) K rfl K K g9 rfl K ?_
  intro h1 b5
  refine iR 1 9 [(5, (.bool f.2.2.2.2.2.1))] ?_
  refine iF ?_
  refine aQ ?_
  refine aR ?_
  refine iR 2 2 [(37, (pt s 0)), (38, (pt p 0))] ?_
  obtain ⟨c3, h2, H⟩ := Qf H
  refine iS 3 ?_
  refine cF 24 #[(.tmp 38), (.const (.string ⟨List.toArray ([97, 110, 110] : List UInt8)⟩)), (.const (.string ⟨List.toArray ([107] : List UInt8)⟩)), (.const (.string ⟨List.toArray ([110] : List UInt8)⟩))] #[29, 9, 9, 9] 39 Tryz.call24 (Uj p (some ⟨g6, 0, none⟩) (List.length ([(([97, 110, 110] : List UInt8), 0, 0, ([] : List (Int × Int)), ([(([107] : List UInt8), ([115] : List UInt8), 5)] : List ((List UInt8) × (List UInt8) × Int)))] : List Qg)) u c.1 c.2.1 c.2.2.1 c.2.2.2.1 ([(([97, 110, 110] : List UInt8), 0, 0, (none, 0, ([] : List (Int × Int))), ((some ⟨g5, 0, none⟩), (List.length ([(([107] : List UInt8), ([115] : List UInt8), 5)] : List ((List UInt8) × (List UInt8) × Int))), ([(([107] : List UInt8), ([115] : List UInt8), 5)] : List ((List UInt8) × (List UInt8) × Int))))] : List Vi) c.2.2.2.2 ([97, 110, 110] : List UInt8) ([107] : List UInt8) ([110] : List UInt8) h1 (Ze b5 [3, 4] rfl rfl) (fun w hm => Dt (Zd (SP.still b5 (l := [3, 4]) (i := 1) rfl rfl rfl hm)) (Ur (Xe Yv (Xe Yv (Xe Yv (Xe (G4 (Qb (Qd .u32) (Qd .i64)) dT w) (J7 (Zd (SP.still b5 (l := [3, 4]) (i := 0) rfl rfl rfl hm))))))) Ny)) c3 h2) ?_
  rintro e e6 ⟨rfl, e7⟩
  refine ⟨_, rfl, ?_⟩
  have b6 : SP [] w0 e6 [U8 48 (Qb Q5 (Qb Q5 (Qd .i64))) (some ⟨g5, 0, none⟩) (List.length ([(([107] : List UInt8), ([115] : List UInt8), 5)] : List ((List UInt8) × (List UInt8) × Int))) ([(([107] : List UInt8), ([115] : List UInt8), 5)] : List ((List UInt8) × (List UInt8) × Int)), U8 44 Ul (some ⟨g6, 0, none⟩) (List.length ([(([97, 110, 110] : List UInt8), 0, 0, ([] : List (Int × Int)), ([(([107] : List UInt8), ([115] : List UInt8), 5)] : List ((List UInt8) × (List UInt8) × Int)))] : List Qg)) ([(([97, 110, 110] : List UInt8), 0, 0, (none, 0, ([] : List (Int × Int))), ((some ⟨g5, 0, none⟩), (List.length ([(([107] : List UInt8), ([115] : List UInt8), 5)] : List ((List UInt8) × (List UInt8) × Int))), ([(([107] : List UInt8), ([115] : List UInt8), 5)] : List ((List UInt8) × (List UInt8) × Int))))] : List Vi), Qj a0 95 #[(pt p 0), (Q4 q.1 a0), (.string ⟨List.toArray q.2.1⟩), (.string ⟨List.toArray q.2.2.1⟩), (.string ⟨List.toArray q.2.2.2.1⟩), (.bool q.2.2.2.2)], Qj s 95 #[(pt p 0), (Q4 f.2.2.2.2.2.2.1 s), (.string ⟨List.toArray f.2.2.2.2.2.2.2.1⟩), (.string ⟨List.toArray f.2.2.2.2.2.2.2.2.1⟩), (.string ⟨List.toArray f.2.2.2.2.2.2.2.2.2.1⟩), (.bool f.2.2.2.2.2.2.2.2.2.2)], Qj a5 63 #[(.int .i64 f.1), (.string ⟨List.toArray f.2.1⟩), (.string ⟨List.toArray f.2.2.1⟩), (.int .i64 f.2.2.2.1), (.int .i64 f.2.2.2.2.1)], Qj p 79 #[(.int .i64 c.1), (.int .i64 c.2.1), (.int .i64 c.2.2.1), (.int .i64 c.2.2.2.1), (.slice (some ⟨g6, 0, none⟩) (List.length ([(([97, 110, 110] : List UInt8), 0, 0, ([] : List (Int × Int)), ([(([107] : List UInt8), ([115] : List UInt8), 5)] : List ((List UInt8) × (List UInt8) × Int)))] : List Qg)) (List.length ([(([97, 110, 110] : List UInt8), 0, 0, ([] : List (Int × Int)), ([(([107] : List UInt8), ([115] : List UInt8), 5)] : List ((List UInt8) × (List UInt8) × Int)))] : List Qg))), (.map (some u))], Qz u c.2.2.2.2] := Va b5 [3, 4] [0, 1, 2, 5, 6] rfl rfl e7 rfl
  clear e7
  refine iR 1 4 [(40, (.agg #[(.int .i64 3), (.string ⟨List.toArray c3⟩), (.string ⟨List.toArray ([] : List UInt8)⟩), (.int .i64 0), (.int .i64 0)]))] ?_
  obtain ⟨j, h3, H⟩ := Qf H
  refine iS 5 ?_
  refine cF 34 #[(.tmp 37), (.tmp 40), (.const (.int .i64 (2))), (.const (.string ⟨List.toArray ([109] : List UInt8)⟩))] #[60, 63, 2, 9] 41 Tryz.call34 (Zm s p (some ⟨g6, 0, none⟩) (List.length ([(([97, 110, 110] : List UInt8), 0, 0, ([] : List (Int × Int)), ([(([107] : List UInt8), ([115] : List UInt8), 5)] : List ((List UInt8) × (List UInt8) × Int)))] : List Qg)) u c.1 c.2.1 c.2.2.1 c.2.2.2.1 ([(([97, 110, 110] : List UInt8), 0, 0, (none, 0, ([] : List (Int × Int))), ((some ⟨g5, 0, none⟩), (List.length ([(([107] : List UInt8), ([115] : List UInt8), 5)] : List ((List UInt8) × (List UInt8) × Int))), ([(([107] : List UInt8), ([115] : List UInt8), 5)] : List ((List UInt8) × (List UInt8) × Int))))] : List Vi) c.2.2.2.2 f.2.2.2.2.2.2.1 f.2.2.2.2.2.2.2.1 f.2.2.2.2.2.2.2.2.1 f.2.2.2.2.2.2.2.2.2.1 f.2.2.2.2.2.2.2.2.2.2 3 c3 ([] : List UInt8) 0 0 2 ([109] : List UInt8) e6 (Ze b6 [5, 6, 3] rfl rfl) (fun w hm => Dt (Zd (SP.still b6 (l := [5, 6, 3]) (i := 1) rfl rfl rfl hm)) (Ur (Xe Yv (Xe Yv (Xe Yv (Xe (G4 (Qb (Qd .u32) (Qd .i64)) dT w) (J7 (Zd (SP.still b6 (l := [5, 6, 3]) (i := 0) rfl rfl rfl hm))))))) Ny)) j h3) ?_
  rintro e h4 ⟨rfl, e8⟩
  refine ⟨_, rfl, ?_⟩
  have h5 : SP [] w0 h4 [U8 48 (Qb Q5 (Qb Q5 (Qd .i64))) (some ⟨g5, 0, none⟩) (List.length ([(([107] : List UInt8), ([115] : List UInt8), 5)] : List ((List UInt8) × (List UInt8) × Int))) ([(([107] : List UInt8), ([115] : List UInt8), 5)] : List ((List UInt8) × (List UInt8) × Int)), U8 44 Ul (some ⟨g6, 0, none⟩) (List.length ([(([97, 110, 110] : List UInt8), 0, 0, ([] : List (Int × Int)), ([(([107] : List UInt8), ([115] : List UInt8), 5)] : List ((List UInt8) × (List UInt8) × Int)))] : List Qg)) ([(([97, 110, 110] : List UInt8), 0, 0, (none, 0, ([] : List (Int × Int))), ((some ⟨g5, 0, none⟩), (List.length ([(([107] : List UInt8), ([115] : List UInt8), 5)] : List ((List UInt8) × (List UInt8) × Int))), ([(([107] : List UInt8), ([115] : List UInt8), 5)] : List ((List UInt8) × (List UInt8) × Int))))] : List Vi), Qj a0 95 #[(pt p 0), (Q4 q.1 a0), (.string ⟨List.toArray q.2.1⟩), (.string ⟨List.toArray q.2.2.1⟩), (.string ⟨List.toArray q.2.2.2.1⟩), (.bool q.2.2.2.2)], Qj a5 63 #[(.int .i64 f.1), (.string ⟨List.toArray f.2.1⟩), (.string ⟨List.toArray f.2.2.1⟩), (.int .i64 f.2.2.2.1), (.int .i64 f.2.2.2.2.1)], Qj p 79 #[(.int .i64 c.1), (.int .i64 c.2.1), (.int .i64 c.2.2.1), (.int .i64 c.2.2.2.1), (.slice (some ⟨g6, 0, none⟩) (List.length ([(([97, 110, 110] : List UInt8), 0, 0, ([] : List (Int × Int)), ([(([107] : List UInt8), ([115] : List UInt8), 5)] : List ((List UInt8) × (List UInt8) × Int)))] : List Qg)) (List.length ([(([97, 110, 110] : List UInt8), 0, 0, ([] : List (Int × Int)), ([(([107] : List UInt8), ([115] : List UInt8), 5)] : List ((List UInt8) × (List UInt8) × Int)))] : List Qg))), (.map (some u))], Qz u c.2.2.2.2, Qj s 95 #[(pt p 0), (Q4 j.2.2.2.2.2.2.1 s), (.string ⟨List.toArray j.2.2.2.2.2.2.2.1⟩), (.string ⟨List.toArray j.2.2.2.2.2.2.2.2.1⟩), (.string ⟨List.toArray j.2.2.2.2.2.2.2.2.2.1⟩), (.bool j.2.2.2.2.2.2.2.2.2.2)]] := Va b6 [5, 6, 3] [0, 1, 2, 4] rfl rfl e8 rfl
  clear e8
  refine iR 3 8 [(36, (.tuple #[(.agg #[(.int .i64 j.1), (.string ⟨List.toArray j.2.1⟩), (.string ⟨List.toArray j.2.2.1⟩), (.int .i64 j.2.2.2.1), (.int .i64 j.2.2.2.2.1)]), (.bool j.2.2.2.2.2.1)])), (42, (.agg #[(.int .i64 j.1), (.string ⟨List.toArray j.2.1⟩), (.string ⟨List.toArray j.2.2.1⟩), (.int .i64 j.2.2.2.1), (.int .i64 j.2.2.2.2.1)])), (43, (.bool j.2.2.2.2.2.1))] ?_
  refine iS 9 ?_
  refine Qn.alloc (t := 63) (z := (.agg #[(.int .i64 0), (.string ⟨List.toArray ([] : List UInt8)⟩), (.string ⟨List.toArray ([] : List UInt8)⟩), (.int .i64 0), (.int .i64 0)])) (d := (some 6)) (k := 8) K rfl K h5 ?_
  intro a6 j7 h6
  refine iS 10 ?_
  refine Qn.store (t := 63) (x := (.tmp 6)) (y := (.tmp 42)) (g := a6) (off := 0) (i := 7) (v := (.agg #[(.int .i64 j.1), (.string ⟨List.toArray j.2.1⟩), (.string ⟨List.toArray j.2.2.1⟩), (.int .i64 j.2.2.2.1), (.int .i64 j.2.2.2.2.1)])) (cs' := #[(.int .i64 j.1), (.string ⟨List.toArray j.2.1⟩), (.string ⟨List.toArray j.2.2.1⟩), (.int .i64 j.2.2.2.1), (.int .i64 j.2.2.2.2.1)]) (d := none) (k := 9) K rfl K K h6 rfl K ?_
  intro h7 b7
  refine iR 1 11 [(7, (.bool j.2.2.2.2.2.1))] ?_
  refine iF ?_
  refine aQ ?_
  refine aR ?_
  refine iR 1 1 [(45, (pt s 0))] ?_
  obtain ⟨a1, h8, H⟩ := Qf H
  refine iS 2 ?_
  refine cF 35 #[(.tmp 45)] #[60] 46 Tryz.call35 (Un s p (some ⟨g6, 0, none⟩) (List.length ([(([97, 110, 110] : List UInt8), 0, 0, ([] : List (Int × Int)), ([(([107] : List UInt8), ([115] : List UInt8), 5)] : List ((List UInt8) × (List UInt8) × Int)))] : List Qg)) u c.1 c.2.1 c.2.2.1 c.2.2.2.1 ([(([97, 110, 110] : List UInt8), 0, 0, (none, 0, ([] : List (Int × Int))), ((some ⟨g5, 0, none⟩), (List.length ([(([107] : List UInt8), ([115] : List UInt8), 5)] : List ((List UInt8) × (List UInt8) × Int))), ([(([107] : List UInt8), ([115] : List UInt8), 5)] : List ((List UInt8) × (List UInt8) × Int))))] : List Vi) c.2.2.2.2 j.2.2.2.2.2.2.1 j.2.2.2.2.2.2.2.1 j.2.2.2.2.2.2.2.2.1 j.2.2.2.2.2.2.2.2.2.1 j.2.2.2.2.2.2.2.2.2.2 h7 (Ze b7 [4, 5, 6] rfl rfl) (fun w hm => Dt (Zd (SP.still b7 (l := [4, 5, 6]) (i := 1) rfl rfl rfl hm)) (Ur (Xe Yv (Xe Yv (Xe Yv (Xe (G4 (Qb (Qd .u32) (Qd .i64)) dT w) (J7 (Zd (SP.still b7 (l := [4, 5, 6]) (i := 0) rfl rfl rfl hm))))))) Ny)) a1 h8) ?_
  rintro e e9 ⟨rfl, f0⟩
  refine ⟨_, rfl, ?_⟩
  have b8 : SP [] w0 e9 [U8 48 (Qb Q5 (Qb Q5 (Qd .i64))) (some ⟨g5, 0, none⟩) (List.length ([(([107] : List UInt8), ([115] : List UInt8), 5)] : List ((List UInt8) × (List UInt8) × Int))) ([(([107] : List UInt8), ([115] : List UInt8), 5)] : List ((List UInt8) × (List UInt8) × Int)), U8 44 Ul (some ⟨g6, 0, none⟩) (List.length ([(([97, 110, 110] : List UInt8), 0, 0, ([] : List (Int × Int)), ([(([107] : List UInt8), ([115] : List UInt8), 5)] : List ((List UInt8) × (List UInt8) × Int)))] : List Qg)) ([(([97, 110, 110] : List UInt8), 0, 0, (none, 0, ([] : List (Int × Int))), ((some ⟨g5, 0, none⟩), (List.length ([(([107] : List UInt8), ([115] : List UInt8), 5)] : List ((List UInt8) × (List UInt8) × Int))), ([(([107] : List UInt8), ([115] : List UInt8), 5)] : List ((List UInt8) × (List UInt8) × Int))))] : List Vi), Qj a0 95 #[(pt p 0), (Q4 q.1 a0), (.string ⟨List.toArray q.2.1⟩), (.string ⟨List.toArray q.2.2.1⟩), (.string ⟨List.toArray q.2.2.2.1⟩), (.bool q.2.2.2.2)], Qj a5 63 #[(.int .i64 f.1), (.string ⟨List.toArray f.2.1⟩), (.string ⟨List.toArray f.2.2.1⟩), (.int .i64 f.2.2.2.1), (.int .i64 f.2.2.2.2.1)], Qj a6 63 #[(.int .i64 j.1), (.string ⟨List.toArray j.2.1⟩), (.string ⟨List.toArray j.2.2.1⟩), (.int .i64 j.2.2.2.1), (.int .i64 j.2.2.2.2.1)], Qj p 79 #[(.int .i64 c.1), (.int .i64 c.2.1), (.int .i64 c.2.2.1), (.int .i64 c.2.2.2.1), (.slice (some ⟨g6, 0, none⟩) (List.length ([(([97, 110, 110] : List UInt8), 0, 0, ([] : List (Int × Int)), ([(([107] : List UInt8), ([115] : List UInt8), 5)] : List ((List UInt8) × (List UInt8) × Int)))] : List Qg)) (List.length ([(([97, 110, 110] : List UInt8), 0, 0, ([] : List (Int × Int)), ([(([107] : List UInt8), ([115] : List UInt8), 5)] : List ((List UInt8) × (List UInt8) × Int)))] : List Qg))), (.map (some u))], Qz u c.2.2.2.2, Qj s 95 #[(pt p 0), (Q4 j.2.2.2.2.2.2.1 s), (.string ⟨List.toArray j.2.2.2.2.2.2.2.1⟩), (.string ⟨List.toArray j.2.2.2.2.2.2.2.2.1⟩), (.string ⟨List.toArray j.2.2.2.2.2.2.2.2.2.1⟩), (.bool j.2.2.2.2.2.2.2.2.2.2)]] := Va b7 [4, 5, 6] [0, 1, 2, 3, 7] rfl rfl f0 rfl
  clear f0
  refine iR 5 7 [(44, (.tuple #[(.string ⟨List.toArray a1.1⟩), (.bool a1.2)])), (47, (.string ⟨List.toArray a1.1⟩)), (48, (.bool a1.2)), (8, (.string ⟨List.toArray a1.1⟩)), (9, (.bool a1.2))] ?_
  refine iF ?_
  refine aQ ?_
  refine aR ?_
  refine iR 2 2 [(50, (pt s 0)), (51, (.agg #[(.int .i64 13), (.string ⟨List.toArray ([] : List UInt8)⟩), (.string ⟨List.toArray ([] : List UInt8)⟩), (.int .i64 0), (.int .i64 0)]))] ?_
  obtain ⟨m, h9, H⟩ := Qf H
  refine iS 3 ?_
  refine cF 34 #[(.tmp 50), (.tmp 51), (.const (.int .i64 (3))), (.const (.string ⟨List.toArray ([] : List UInt8)⟩))] #[60, 63, 2, 9] 52 Tryz.call34 (Zm s p (some ⟨g6, 0, none⟩) (List.length ([(([97, 110, 110] : List UInt8), 0, 0, ([] : List (Int × Int)), ([(([107] : List UInt8), ([115] : List UInt8), 5)] : List ((List UInt8) × (List UInt8) × Int)))] : List Qg)) u c.1 c.2.1 c.2.2.1 c.2.2.2.1 ([(([97, 110, 110] : List UInt8), 0, 0, (none, 0, ([] : List (Int × Int))), ((some ⟨g5, 0, none⟩), (List.length ([(([107] : List UInt8), ([115] : List UInt8), 5)] : List ((List UInt8) × (List UInt8) × Int))), ([(([107] : List UInt8), ([115] : List UInt8), 5)] : List ((List UInt8) × (List UInt8) × Int))))] : List Vi) c.2.2.2.2 j.2.2.2.2.2.2.1 j.2.2.2.2.2.2.2.1 j.2.2.2.2.2.2.2.2.1 j.2.2.2.2.2.2.2.2.2.1 j.2.2.2.2.2.2.2.2.2.2 13 ([] : List UInt8) ([] : List UInt8) 0 0 3 ([] : List UInt8) e9 (Ze b8 [5, 6, 7] rfl rfl) (fun w hm => Dt (Zd (SP.still b8 (l := [5, 6, 7]) (i := 1) rfl rfl rfl hm)) (Ur (Xe Yv (Xe Yv (Xe Yv (Xe (G4 (Qb (Qd .u32) (Qd .i64)) dT w) (J7 (Zd (SP.still b8 (l := [5, 6, 7]) (i := 0) rfl rfl rfl hm))))))) Ny)) m h9) ?_
  rintro e i0 ⟨rfl, f1⟩
  refine ⟨_, rfl, ?_⟩
  have i1 : SP [] w0 i0 [U8 48 (Qb Q5 (Qb Q5 (Qd .i64))) (some ⟨g5, 0, none⟩) (List.length ([(([107] : List UInt8), ([115] : List UInt8), 5)] : List ((List UInt8) × (List UInt8) × Int))) ([(([107] : List UInt8), ([115] : List UInt8), 5)] : List ((List UInt8) × (List UInt8) × Int)), U8 44 Ul (some ⟨g6, 0, none⟩) (List.length ([(([97, 110, 110] : List UInt8), 0, 0, ([] : List (Int × Int)), ([(([107] : List UInt8), ([115] : List UInt8), 5)] : List ((List UInt8) × (List UInt8) × Int)))] : List Qg)) ([(([97, 110, 110] : List UInt8), 0, 0, (none, 0, ([] : List (Int × Int))), ((some ⟨g5, 0, none⟩), (List.length ([(([107] : List UInt8), ([115] : List UInt8), 5)] : List ((List UInt8) × (List UInt8) × Int))), ([(([107] : List UInt8), ([115] : List UInt8), 5)] : List ((List UInt8) × (List UInt8) × Int))))] : List Vi), Qj a0 95 #[(pt p 0), (Q4 q.1 a0), (.string ⟨List.toArray q.2.1⟩), (.string ⟨List.toArray q.2.2.1⟩), (.string ⟨List.toArray q.2.2.2.1⟩), (.bool q.2.2.2.2)], Qj a5 63 #[(.int .i64 f.1), (.string ⟨List.toArray f.2.1⟩), (.string ⟨List.toArray f.2.2.1⟩), (.int .i64 f.2.2.2.1), (.int .i64 f.2.2.2.2.1)], Qj a6 63 #[(.int .i64 j.1), (.string ⟨List.toArray j.2.1⟩), (.string ⟨List.toArray j.2.2.1⟩), (.int .i64 j.2.2.2.1), (.int .i64 j.2.2.2.2.1)], Qj p 79 #[(.int .i64 c.1), (.int .i64 c.2.1), (.int .i64 c.2.2.1), (.int .i64 c.2.2.2.1), (.slice (some ⟨g6, 0, none⟩) (List.length ([(([97, 110, 110] : List UInt8), 0, 0, ([] : List (Int × Int)), ([(([107] : List UInt8), ([115] : List UInt8), 5)] : List ((List UInt8) × (List UInt8) × Int)))] : List Qg)) (List.length ([(([97, 110, 110] : List UInt8), 0, 0, ([] : List (Int × Int)), ([(([107] : List UInt8), ([115] : List UInt8), 5)] : List ((List UInt8) × (List UInt8) × Int)))] : List Qg))), (.map (some u))], Qz u c.2.2.2.2, Qj s 95 #[(pt p 0), (Q4 m.2.2.2.2.2.2.1 s), (.string ⟨List.toArray m.2.2.2.2.2.2.2.1⟩), (.string ⟨List.toArray m.2.2.2.2.2.2.2.2.1⟩), (.string ⟨List.toArray m.2.2.2.2.2.2.2.2.2.1⟩), (.bool m.2.2.2.2.2.2.2.2.2.2)]] := Va b8 [5, 6, 7] [0, 1, 2, 3, 4] rfl rfl f1 rfl
  clear f1
  refine iR 3 6 [(49, (.tuple #[(.agg #[(.int .i64 m.1), (.string ⟨List.toArray m.2.1⟩), (.string ⟨List.toArray m.2.2.1⟩), (.int .i64 m.2.2.2.1), (.int .i64 m.2.2.2.2.1)]), (.bool m.2.2.2.2.2.1)])), (53, (.agg #[(.int .i64 m.1), (.string ⟨List.toArray m.2.1⟩), (.string ⟨List.toArray m.2.2.1⟩), (.int .i64 m.2.2.2.1), (.int .i64 m.2.2.2.2.1)])), (54, (.bool m.2.2.2.2.2.1))] ?_
  refine iS 7 ?_
  refine Qn.alloc (t := 63) (z := (.agg #[(.int .i64 0), (.string ⟨List.toArray ([] : List UInt8)⟩), (.string ⟨List.toArray ([] : List UInt8)⟩), (.int .i64 0), (.int .i64 0)])) (d := (some 10)) (k := 6) K rfl K i1 ?_
  intro a9 j8 i2
  refine iS 8 ?_
  refine Qn.store (t := 63) (x := (.tmp 10)) (y := (.tmp 53)) (g := a9) (off := 0) (i := 8) (v := (.agg #[(.int .i64 m.1), (.string ⟨List.toArray m.2.1⟩), (.string ⟨List.toArray m.2.2.1⟩), (.int .i64 m.2.2.2.1), (.int .i64 m.2.2.2.2.1)])) (cs' := #[(.int .i64 m.1), (.string ⟨List.toArray m.2.1⟩), (.string ⟨List.toArray m.2.2.1⟩), (.int .i64 m.2.2.2.1), (.int .i64 m.2.2.2.2.1)]) (d := none) (k := 7) K rfl K K i2 rfl K ?_
  intro i3 b9
  refine iR 1 9 [(11, (.bool m.2.2.2.2.2.1))] ?_
  refine iF ?_
  refine aQ ?_
  refine aR ?_
  refine iR 2 2 [(56, (pt a0 0)), (57, (.agg #[(.int .i64 3), (.string ⟨List.toArray ([] : List UInt8)⟩), (.string ⟨List.toArray ([] : List UInt8)⟩), (.int .i64 0), (.int .i64 0)]))] ?_
  obtain ⟨h, i4, H⟩ := Qf H
  refine iS 3 ?_
  refine cF 34 #[(.tmp 56), (.tmp 57), (.const (.int .i64 (1))), (.const (.string ⟨List.toArray ([110] : List UInt8)⟩))] #[60, 63, 2, 9] 58 Tryz.call34 (Zm a0 p (some ⟨g6, 0, none⟩) (List.length ([(([97, 110, 110] : List UInt8), 0, 0, ([] : List (Int × Int)), ([(([107] : List UInt8), ([115] : List UInt8), 5)] : List ((List UInt8) × (List UInt8) × Int)))] : List Qg)) u c.1 c.2.1 c.2.2.1 c.2.2.2.1 ([(([97, 110, 110] : List UInt8), 0, 0, (none, 0, ([] : List (Int × Int))), ((some ⟨g5, 0, none⟩), (List.length ([(([107] : List UInt8), ([115] : List UInt8), 5)] : List ((List UInt8) × (List UInt8) × Int))), ([(([107] : List UInt8), ([115] : List UInt8), 5)] : List ((List UInt8) × (List UInt8) × Int))))] : List Vi) c.2.2.2.2 q.1 q.2.1 q.2.2.1 q.2.2.2.1 q.2.2.2.2 3 ([] : List UInt8) ([] : List UInt8) 0 0 1 ([110] : List UInt8) i3 (Ze b9 [5, 6, 2] rfl rfl) (fun w hm => Dt (Zd (SP.still b9 (l := [5, 6, 2]) (i := 1) rfl rfl rfl hm)) (Ur (Xe Yv (Xe Yv (Xe Yv (Xe (G4 (Qb (Qd .u32) (Qd .i64)) dT w) (J7 (Zd (SP.still b9 (l := [5, 6, 2]) (i := 0) rfl rfl rfl hm))))))) Ny)) h i4) ?_
  rintro e i5 ⟨rfl, f2⟩
  refine ⟨_, rfl, ?_⟩
  have i6 : SP [] w0 i5 [U8 48 (Qb Q5 (Qb Q5 (Qd .i64))) (some ⟨g5, 0, none⟩) (List.length ([(([107] : List UInt8), ([115] : List UInt8), 5)] : List ((List UInt8) × (List UInt8) × Int))) ([(([107] : List UInt8), ([115] : List UInt8), 5)] : List ((List UInt8) × (List UInt8) × Int)), U8 44 Ul (some ⟨g6, 0, none⟩) (List.length ([(([97, 110, 110] : List UInt8), 0, 0, ([] : List (Int × Int)), ([(([107] : List UInt8), ([115] : List UInt8), 5)] : List ((List UInt8) × (List UInt8) × Int)))] : List Qg)) ([(([97, 110, 110] : List UInt8), 0, 0, (none, 0, ([] : List (Int × Int))), ((some ⟨g5, 0, none⟩), (List.length ([(([107] : List UInt8), ([115] : List UInt8), 5)] : List ((List UInt8) × (List UInt8) × Int))), ([(([107] : List UInt8), ([115] : List UInt8), 5)] : List ((List UInt8) × (List UInt8) × Int))))] : List Vi), Qj a5 63 #[(.int .i64 f.1), (.string ⟨List.toArray f.2.1⟩), (.string ⟨List.toArray f.2.2.1⟩), (.int .i64 f.2.2.2.1), (.int .i64 f.2.2.2.2.1)], Qj a6 63 #[(.int .i64 j.1), (.string ⟨List.toArray j.2.1⟩), (.string ⟨List.toArray j.2.2.1⟩), (.int .i64 j.2.2.2.1), (.int .i64 j.2.2.2.2.1)], Qj s 95 #[(pt p 0), (Q4 m.2.2.2.2.2.2.1 s), (.string ⟨List.toArray m.2.2.2.2.2.2.2.1⟩), (.string ⟨List.toArray m.2.2.2.2.2.2.2.2.1⟩), (.string ⟨List.toArray m.2.2.2.2.2.2.2.2.2.1⟩), (.bool m.2.2.2.2.2.2.2.2.2.2)], Qj a9 63 #[(.int .i64 m.1), (.string ⟨List.toArray m.2.1⟩), (.string ⟨List.toArray m.2.2.1⟩), (.int .i64 m.2.2.2.1), (.int .i64 m.2.2.2.2.1)], Qj p 79 #[(.int .i64 c.1), (.int .i64 c.2.1), (.int .i64 c.2.2.1), (.int .i64 c.2.2.2.1), (.slice (some ⟨g6, 0, none⟩) (List.length ([(([97, 110, 110] : List UInt8), 0, 0, ([] : List (Int × Int)), ([(([107] : List UInt8), ([115] : List UInt8), 5)] : List ((List UInt8) × (List UInt8) × Int)))] : List Qg)) (List.length ([(([97, 110, 110] : List UInt8), 0, 0, ([] : List (Int × Int)), ([(([107] : List UInt8), ([115] : List UInt8), 5)] : List ((List UInt8) × (List UInt8) × Int)))] : List Qg))), (.map (some u))], Qz u c.2.2.2.2, Qj a0 95 #[(pt p 0), (Q4 h.2.2.2.2.2.2.1 a0), (.string ⟨List.toArray h.2.2.2.2.2.2.2.1⟩), (.string ⟨List.toArray h.2.2.2.2.2.2.2.2.1⟩), (.string ⟨List.toArray h.2.2.2.2.2.2.2.2.2.1⟩), (.bool h.2.2.2.2.2.2.2.2.2.2)]] := Va b9 [5, 6, 2] [0, 1, 3, 4, 7, 8] rfl rfl f2 rfl
  clear f2
  refine iR 3 6 [(55, (.tuple #[(.agg #[(.int .i64 h.1), (.string ⟨List.toArray h.2.1⟩), (.string ⟨List.toArray h.2.2.1⟩), (.int .i64 h.2.2.2.1), (.int .i64 h.2.2.2.2.1)]), (.bool h.2.2.2.2.2.1)])), (59, (.agg #[(.int .i64 h.1), (.string ⟨List.toArray h.2.1⟩), (.string ⟨List.toArray h.2.2.1⟩), (.int .i64 h.2.2.2.1), (.int .i64 h.2.2.2.2.1)])), (60, (.bool h.2.2.2.2.2.1))] ?_
  refine iS 7 ?_
  refine Qn.alloc (t := 63) (z := (.agg #[(.int .i64 0), (.string ⟨List.toArray ([] : List UInt8)⟩), (.string ⟨List.toArray ([] : List UInt8)⟩), (.int .i64 0), (.int .i64 0)])) (d := (some 12)) (k := 6) K rfl K i6 ?_
  intro b0 j9 i7
  refine iS 8 ?_
  refine Qn.store (t := 63) (x := (.tmp 12)) (y := (.tmp 59)) (g := b0) (off := 0) (i := 9) (v := (.agg #[(.int .i64 h.1), (.string ⟨List.toArray h.2.1⟩), (.string ⟨List.toArray h.2.2.1⟩), (.int .i64 h.2.2.2.1), (.int .i64 h.2.2.2.2.1)])) (cs' := #[(.int .i64 h.1), (.string ⟨List.toArray h.2.1⟩), (.string ⟨List.toArray h.2.2.1⟩), (.int .i64 h.2.2.2.1), (.int .i64 h.2.2.2.2.1)]) (d := none) (k := 7) K rfl K K i7 rfl K ?_
  intro i8 c0
  refine iR 1 9 [(13, (.bool h.2.2.2.2.2.1))] ?_
  refine iF ?_
  refine aQ ?_
  refine aR ?_
  refine iR 1 1 [(62, (pt a0 0))] ?_
  obtain ⟨a4, i9, H⟩ := Qf H
  refine iS 2 ?_
  refine cF 35 #[(.tmp 62)] #[60] 63 Tryz.call35 (Un a0 p (some ⟨g6, 0, none⟩) (List.length ([(([97, 110, 110] : List UInt8), 0, 0, ([] : List (Int × Int)), ([(([107] : List UInt8), ([115] : List UInt8), 5)] : List ((List UInt8) × (List UInt8) × Int)))] : List Qg)) u c.1 c.2.1 c.2.2.1 c.2.2.2.1 ([(([97, 110, 110] : List UInt8), 0, 0, (none, 0, ([] : List (Int × Int))), ((some ⟨g5, 0, none⟩), (List.length ([(([107] : List UInt8), ([115] : List UInt8), 5)] : List ((List UInt8) × (List UInt8) × Int))), ([(([107] : List UInt8), ([115] : List UInt8), 5)] : List ((List UInt8) × (List UInt8) × Int))))] : List Vi) c.2.2.2.2 h.2.2.2.2.2.2.1 h.2.2.2.2.2.2.2.1 h.2.2.2.2.2.2.2.2.1 h.2.2.2.2.2.2.2.2.2.1 h.2.2.2.2.2.2.2.2.2.2 i8 (Ze c0 [6, 7, 8] rfl rfl) (fun w hm => Dt (Zd (SP.still c0 (l := [6, 7, 8]) (i := 1) rfl rfl rfl hm)) (Ur (Xe Yv (Xe Yv (Xe Yv (Xe (G4 (Qb (Qd .u32) (Qd .i64)) dT w) (J7 (Zd (SP.still c0 (l := [6, 7, 8]) (i := 0) rfl rfl rfl hm))))))) Ny)) a4 i9) ?_
  rintro e f3 ⟨rfl, f4⟩
  refine ⟨_, rfl, ?_⟩
  have a3 : SP [] w0 f3 [U8 48 (Qb Q5 (Qb Q5 (Qd .i64))) (some ⟨g5, 0, none⟩) (List.length ([(([107] : List UInt8), ([115] : List UInt8), 5)] : List ((List UInt8) × (List UInt8) × Int))) ([(([107] : List UInt8), ([115] : List UInt8), 5)] : List ((List UInt8) × (List UInt8) × Int)), U8 44 Ul (some ⟨g6, 0, none⟩) (List.length ([(([97, 110, 110] : List UInt8), 0, 0, ([] : List (Int × Int)), ([(([107] : List UInt8), ([115] : List UInt8), 5)] : List ((List UInt8) × (List UInt8) × Int)))] : List Qg)) ([(([97, 110, 110] : List UInt8), 0, 0, (none, 0, ([] : List (Int × Int))), ((some ⟨g5, 0, none⟩), (List.length ([(([107] : List UInt8), ([115] : List UInt8), 5)] : List ((List UInt8) × (List UInt8) × Int))), ([(([107] : List UInt8), ([115] : List UInt8), 5)] : List ((List UInt8) × (List UInt8) × Int))))] : List Vi), Qj a5 63 #[(.int .i64 f.1), (.string ⟨List.toArray f.2.1⟩), (.string ⟨List.toArray f.2.2.1⟩), (.int .i64 f.2.2.2.1), (.int .i64 f.2.2.2.2.1)], Qj a6 63 #[(.int .i64 j.1), (.string ⟨List.toArray j.2.1⟩), (.string ⟨List.toArray j.2.2.1⟩), (.int .i64 j.2.2.2.1), (.int .i64 j.2.2.2.2.1)], Qj s 95 #[(pt p 0), (Q4 m.2.2.2.2.2.2.1 s), (.string ⟨List.toArray m.2.2.2.2.2.2.2.1⟩), (.string ⟨List.toArray m.2.2.2.2.2.2.2.2.1⟩), (.string ⟨List.toArray m.2.2.2.2.2.2.2.2.2.1⟩), (.bool m.2.2.2.2.2.2.2.2.2.2)], Qj a9 63 #[(.int .i64 m.1), (.string ⟨List.toArray m.2.1⟩), (.string ⟨List.toArray m.2.2.1⟩), (.int .i64 m.2.2.2.1), (.int .i64 m.2.2.2.2.1)], Qj b0 63 #[(.int .i64 h.1), (.string ⟨List.toArray h.2.1⟩), (.string ⟨List.toArray h.2.2.1⟩), (.int .i64 h.2.2.2.1), (.int .i64 h.2.2.2.2.1)], Qj p 79 #[(.int .i64 c.1), (.int .i64 c.2.1), (.int .i64 c.2.2.1), (.int .i64 c.2.2.2.1), (.slice (some ⟨g6, 0, none⟩) (List.length ([(([97, 110, 110] : List UInt8), 0, 0, ([] : List (Int × Int)), ([(([107] : List UInt8), ([115] : List UInt8), 5)] : List ((List UInt8) × (List UInt8) × Int)))] : List Qg)) (List.length ([(([97, 110, 110] : List UInt8), 0, 0, ([] : List (Int × Int)), ([(([107] : List UInt8), ([115] : List UInt8), 5)] : List ((List UInt8) × (List UInt8) × Int)))] : List Qg))), (.map (some u))], Qz u c.2.2.2.2, Qj a0 95 #[(pt p 0), (Q4 h.2.2.2.2.2.2.1 a0), (.string ⟨List.toArray h.2.2.2.2.2.2.2.1⟩), (.string ⟨List.toArray h.2.2.2.2.2.2.2.2.1⟩), (.string ⟨List.toArray h.2.2.2.2.2.2.2.2.2.1⟩), (.bool h.2.2.2.2.2.2.2.2.2.2)]] := Va c0 [6, 7, 8] [0, 1, 2, 3, 4, 5, 9] rfl rfl f4 rfl
  clear f4
  refine iR 5 7 [(61, (.tuple #[(.string ⟨List.toArray a4.1⟩), (.bool a4.2)])), (64, (.string ⟨List.toArray a4.1⟩)), (65, (.bool a4.2)), (14, (.string ⟨List.toArray a4.1⟩)), (15, (.bool a4.2))] ?_
  refine iF ?_
  refine aQ ?_
  refine At.join (fun ρ w => ∃ (a8 : Bool), Zo ρ [(0, (.bool a8))] ∧ SP [] w0 w [] ∧ Q7 a8 = some r) ?_ ?_
  ·refine aR ?_
   refine iS 1 ?_
   refine sL 63 4 a5 0 2 (.agg #[(.int .i64 f.1), (.string ⟨List.toArray f.2.1⟩), (.string ⟨List.toArray f.2.2.1⟩), (.int .i64 f.2.2.2.1), (.int .i64 f.2.2.2.2.1)]) 66 a3 rfl ?_
   refine iR 1 2 [(67, (.agg #[(.int .i64 2), (.string ⟨List.toArray ([110] : List UInt8)⟩), (.string ⟨List.toArray ([] : List UInt8)⟩), (.int .i64 0), (.int .i64 0)]))] ?_
   refine iS 3 ?_
   refine Uy (op := .eql) (T := 63) (T' := 63) (x := (.tmp 66)) (y := (.tmp 67)) (vx := (.agg #[(.int .i64 f.1), (.string ⟨List.toArray f.2.1⟩), (.string ⟨List.toArray f.2.2.1⟩), (.int .i64 f.2.2.2.1), (.int .i64 f.2.2.2.2.1)])) (vy := (.agg #[(.int .i64 2), (.string ⟨List.toArray ([110] : List UInt8)⟩), (.string ⟨List.toArray ([] : List UInt8)⟩), (.int .i64 0), (.int .i64 0)])) (v := (.bool ((f.1 == 2) && ((f.2.1 == ([110] : List UInt8)) && ((f.2.2.1 == ([] : List UInt8)) && ((f.2.2.2.1 == 0) && (f.2.2.2.2.1 == 0))))))) (d := (some 68)) (k := 2) K rfl K K (by clear H; intro w; simp only [Jt]; go_simp; simp only [Ub, Jg, U4, Jt, Bool.and_true] <;> simp only [Bool.not_and]) ?_
   refine iR 1 4 [(69, (.bool ((f.1 == 2) && ((f.2.1 == ([110] : List UInt8)) && ((f.2.2.1 == ([] : List UInt8)) && ((f.2.2.2.1 == 0) && (f.2.2.2.2.1 == 0)))))))] ?_
   refine In.guard (t := 69) (b := ((f.1 == 2) && ((f.2.1 == ([110] : List UInt8)) && ((f.2.2.1 == ([] : List UInt8)) && ((f.2.2.2.1 == 0) && (f.2.2.2.2.1 == 0)))))) K (fun c4 => ?_) (fun c4 => ?_)
   ·have H := ct H c4
    refine iR 3 7 [(70, (.bool f.2.2.2.2.2.1)), (71, (.bool f.2.2.2.2.2.1)), (72, (.bool f.2.2.2.2.2.1))] ?_
    refine In.guard (t := 72) (b := f.2.2.2.2.2.1) K (fun c5 => ?_) (fun c5 => ?_)
    ·have H := ct H c5
     refine iR 1 8 [(73, (pt a6 0))] ?_
     refine iS 9 ?_
     refine sL 3 73 a6 0 3 (.int .i64 j.1) 74 a3 rfl ?_
     refine iR 3 12 [(75, (.bool (j.1 == 4))), (76, (.bool (j.1 == 4))), (77, (.bool (j.1 == 4)))] ?_
     refine In.guard (t := 77) (b := (j.1 == 4)) K (fun c6 => ?_) (fun c6 => ?_)
     ·have H := ct H c6
      refine iR 3 15 [(78, (.bool j.2.2.2.2.2.1)), (79, (.bool j.2.2.2.2.2.1)), (80, (.bool j.2.2.2.2.2.1))] ?_
      refine In.guard (t := 80) (b := j.2.2.2.2.2.1) K (fun c7 => ?_) (fun c7 => ?_)
      ·have H := ct H c7
       refine iR 1 16 [(81, (.string ⟨List.toArray a1.1⟩))] ?_
       refine iS 17 ?_
       refine Jl (op := .eql) (T := 9) (T' := 9) (x := (.tmp 81)) (y := (.const (.string ⟨List.toArray ([97, 110, 110] : List UInt8)⟩))) (a := a1.1) (b := ([97, 110, 110] : List UInt8)) (r := (.bool (a1.1 == ([97, 110, 110] : List UInt8)))) (d := (some 82)) (k := 16) K rfl K K rfl ?_
       refine iR 2 19 [(83, (.bool (a1.1 == ([97, 110, 110] : List UInt8)))), (84, (.bool (a1.1 == ([97, 110, 110] : List UInt8))))] ?_
       refine In.guard (t := 84) (b := (a1.1 == ([97, 110, 110] : List UInt8))) K (fun c8 => ?_) (fun c8 => ?_)
       ·have H := ct H c8
        refine iR 3 22 [(85, (.bool a1.2)), (86, (.bool a1.2)), (87, (.bool a1.2))] ?_
        refine In.guard (t := 87) (b := a1.2) K (fun c9 => ?_) (fun c9 => ?_)
        ·have H := ct H c9
         refine iR 4 26 [(88, (.bool m.2.2.2.2.2.1)), (89, (.bool (!m.2.2.2.2.2.1))), (90, (.bool (!m.2.2.2.2.2.1))), (91, (.bool (!m.2.2.2.2.2.1)))] ?_
         refine In.guard (t := 91) (b := (!m.2.2.2.2.2.1)) K (fun d0 => ?_) (fun d0 => ?_)
         ·have H := ct H d0
          refine iS 27 ?_
          refine sL 63 12 b0 0 6 (.agg #[(.int .i64 h.1), (.string ⟨List.toArray h.2.1⟩), (.string ⟨List.toArray h.2.2.1⟩), (.int .i64 h.2.2.2.1), (.int .i64 h.2.2.2.2.1)]) 92 a3 rfl ?_
          refine iR 1 28 [(93, (.agg #[(.int .i64 5), (.string ⟨List.toArray ([] : List UInt8)⟩), (.string ⟨List.toArray ([] : List UInt8)⟩), (.int .i64 1), (.int .i64 0)]))] ?_
          refine iS 29 ?_
          refine Uy (op := .eql) (T := 63) (T' := 63) (x := (.tmp 92)) (y := (.tmp 93)) (vx := (.agg #[(.int .i64 h.1), (.string ⟨List.toArray h.2.1⟩), (.string ⟨List.toArray h.2.2.1⟩), (.int .i64 h.2.2.2.1), (.int .i64 h.2.2.2.2.1)])) (vy := (.agg #[(.int .i64 5), (.string ⟨List.toArray ([] : List UInt8)⟩), (.string ⟨List.toArray ([] : List UInt8)⟩), (.int .i64 1), (.int .i64 0)])) (v := (.bool ((h.1 == 5) && ((h.2.1 == ([] : List UInt8)) && ((h.2.2.1 == ([] : List UInt8)) && ((h.2.2.2.1 == 1) && (h.2.2.2.2.1 == 0))))))) (d := (some 94)) (k := 28) K rfl K K (by clear H; intro w; simp only [Jt]; go_simp; simp only [Ub, Jg, U4, Jt, Bool.and_true] <;> simp only [Bool.not_and]) ?_
          refine iR 2 31 [(95, (.bool ((h.1 == 5) && ((h.2.1 == ([] : List UInt8)) && ((h.2.2.1 == ([] : List UInt8)) && ((h.2.2.2.1 == 1) && (h.2.2.2.2.1 == 0))))))), (96, (.bool ((h.1 == 5) && ((h.2.1 == ([] : List UInt8)) && ((h.2.2.1 == ([] : List UInt8)) && ((h.2.2.2.1 == 1) && (h.2.2.2.2.1 == 0)))))))] ?_
          refine In.guard (t := 96) (b := ((h.1 == 5) && ((h.2.1 == ([] : List UInt8)) && ((h.2.2.1 == ([] : List UInt8)) && ((h.2.2.2.1 == 1) && (h.2.2.2.2.1 == 0)))))) K (fun d1 => ?_) (fun d1 => ?_)
          ·have H := ct H d1
           refine iR 4 35 [(97, (.bool a4.2)), (98, (.bool (!a4.2))), (99, (.bool (!a4.2))), (100, (.bool (!a4.2)))] ?_
           refine In.guard (t := 100) (b := (!a4.2)) K (fun d2 => ?_) (fun d2 => ?_)
           ·have H := ct H d2
            refine iR 1 36 [(101, (pt s 0))] ?_
            obtain ⟨c1, j0, H⟩ := Qf H
            refine iS 37 ?_
            refine cF 36 #[(.tmp 101)] #[60] 102 Tryz.call36 (Qm s p (some ⟨g6, 0, none⟩) (List.length ([(([97, 110, 110] : List UInt8), 0, 0, ([] : List (Int × Int)), ([(([107] : List UInt8), ([115] : List UInt8), 5)] : List ((List UInt8) × (List UInt8) × Int)))] : List Qg)) u c.1 c.2.1 c.2.2.1 c.2.2.2.1 ([(([97, 110, 110] : List UInt8), 0, 0, (none, 0, ([] : List (Int × Int))), ((some ⟨g5, 0, none⟩), (List.length ([(([107] : List UInt8), ([115] : List UInt8), 5)] : List ((List UInt8) × (List UInt8) × Int))), ([(([107] : List UInt8), ([115] : List UInt8), 5)] : List ((List UInt8) × (List UInt8) × Int))))] : List Vi) c.2.2.2.2 m.2.2.2.2.2.2.1 m.2.2.2.2.2.2.2.1 m.2.2.2.2.2.2.2.2.1 m.2.2.2.2.2.2.2.2.2.1 m.2.2.2.2.2.2.2.2.2.2 f3 (Ze a3 [7, 8, 4] rfl rfl) (fun w hm => Dt (Zd (SP.still a3 (l := [7, 8, 4]) (i := 1) rfl rfl rfl hm)) (Ur (Xe Yv (Xe Yv (Xe Yv (Xe (G4 (Qb (Qd .u32) (Qd .i64)) dT w) (J7 (Zd (SP.still a3 (l := [7, 8, 4]) (i := 0) rfl rfl rfl hm))))))) Ny)) c1 j0) ?_
            rintro e f5 ⟨rfl, f6⟩
            refine ⟨_, rfl, ?_⟩
            have b1 : SP [] w0 f5 [U8 48 (Qb Q5 (Qb Q5 (Qd .i64))) (some ⟨g5, 0, none⟩) (List.length ([(([107] : List UInt8), ([115] : List UInt8), 5)] : List ((List UInt8) × (List UInt8) × Int))) ([(([107] : List UInt8), ([115] : List UInt8), 5)] : List ((List UInt8) × (List UInt8) × Int)), U8 44 Ul (some ⟨g6, 0, none⟩) (List.length ([(([97, 110, 110] : List UInt8), 0, 0, ([] : List (Int × Int)), ([(([107] : List UInt8), ([115] : List UInt8), 5)] : List ((List UInt8) × (List UInt8) × Int)))] : List Qg)) ([(([97, 110, 110] : List UInt8), 0, 0, (none, 0, ([] : List (Int × Int))), ((some ⟨g5, 0, none⟩), (List.length ([(([107] : List UInt8), ([115] : List UInt8), 5)] : List ((List UInt8) × (List UInt8) × Int))), ([(([107] : List UInt8), ([115] : List UInt8), 5)] : List ((List UInt8) × (List UInt8) × Int))))] : List Vi), Qj a5 63 #[(.int .i64 f.1), (.string ⟨List.toArray f.2.1⟩), (.string ⟨List.toArray f.2.2.1⟩), (.int .i64 f.2.2.2.1), (.int .i64 f.2.2.2.2.1)], Qj a6 63 #[(.int .i64 j.1), (.string ⟨List.toArray j.2.1⟩), (.string ⟨List.toArray j.2.2.1⟩), (.int .i64 j.2.2.2.1), (.int .i64 j.2.2.2.2.1)], Qj a9 63 #[(.int .i64 m.1), (.string ⟨List.toArray m.2.1⟩), (.string ⟨List.toArray m.2.2.1⟩), (.int .i64 m.2.2.2.1), (.int .i64 m.2.2.2.2.1)], Qj b0 63 #[(.int .i64 h.1), (.string ⟨List.toArray h.2.1⟩), (.string ⟨List.toArray h.2.2.1⟩), (.int .i64 h.2.2.2.1), (.int .i64 h.2.2.2.2.1)], Qj a0 95 #[(pt p 0), (Q4 h.2.2.2.2.2.2.1 a0), (.string ⟨List.toArray h.2.2.2.2.2.2.2.1⟩), (.string ⟨List.toArray h.2.2.2.2.2.2.2.2.1⟩), (.string ⟨List.toArray h.2.2.2.2.2.2.2.2.2.1⟩), (.bool h.2.2.2.2.2.2.2.2.2.2)], Qj p 79 #[(.int .i64 c.1), (.int .i64 c.2.1), (.int .i64 c.2.2.1), (.int .i64 c.2.2.2.1), (.slice (some ⟨g6, 0, none⟩) (List.length ([(([97, 110, 110] : List UInt8), 0, 0, ([] : List (Int × Int)), ([(([107] : List UInt8), ([115] : List UInt8), 5)] : List ((List UInt8) × (List UInt8) × Int)))] : List Qg)) (List.length ([(([97, 110, 110] : List UInt8), 0, 0, ([] : List (Int × Int)), ([(([107] : List UInt8), ([115] : List UInt8), 5)] : List ((List UInt8) × (List UInt8) × Int)))] : List Qg))), (.map (some u))], Qz u c.2.2.2.2, Qj s 95 #[(pt p 0), (Q4 m.2.2.2.2.2.2.1 s), (.string ⟨List.toArray m.2.2.2.2.2.2.2.1⟩), (.string ⟨List.toArray m.2.2.2.2.2.2.2.2.1⟩), (.string ⟨List.toArray m.2.2.2.2.2.2.2.2.2.1⟩), (.bool m.2.2.2.2.2.2.2.2.2.2)]] := Va a3 [7, 8, 4] [0, 1, 2, 3, 5, 6, 9] rfl rfl f6 rfl
            clear f6
            refine iR 2 39 [(103, (.bool c1)), (104, (.bool c1))] ?_
            refine In.guard (t := 104) (b := c1) K (fun d3 => ?_) (fun d3 => ?_)
            ·have H := ct H d3
             refine iR 1 40 [(105, (pt a0 0))] ?_
             obtain ⟨c2, j1, H⟩ := Qf H
             refine iS 41 ?_
             refine cF 36 #[(.tmp 105)] #[60] 106 Tryz.call36 (Qm a0 p (some ⟨g6, 0, none⟩) (List.length ([(([97, 110, 110] : List UInt8), 0, 0, ([] : List (Int × Int)), ([(([107] : List UInt8), ([115] : List UInt8), 5)] : List ((List UInt8) × (List UInt8) × Int)))] : List Qg)) u c.1 c.2.1 c.2.2.1 c.2.2.2.1 ([(([97, 110, 110] : List UInt8), 0, 0, (none, 0, ([] : List (Int × Int))), ((some ⟨g5, 0, none⟩), (List.length ([(([107] : List UInt8), ([115] : List UInt8), 5)] : List ((List UInt8) × (List UInt8) × Int))), ([(([107] : List UInt8), ([115] : List UInt8), 5)] : List ((List UInt8) × (List UInt8) × Int))))] : List Vi) c.2.2.2.2 h.2.2.2.2.2.2.1 h.2.2.2.2.2.2.2.1 h.2.2.2.2.2.2.2.2.1 h.2.2.2.2.2.2.2.2.2.1 h.2.2.2.2.2.2.2.2.2.2 f5 (Ze b1 [7, 8, 6] rfl rfl) (fun w hm => Dt (Zd (SP.still b1 (l := [7, 8, 6]) (i := 1) rfl rfl rfl hm)) (Ur (Xe Yv (Xe Yv (Xe Yv (Xe (G4 (Qb (Qd .u32) (Qd .i64)) dT w) (J7 (Zd (SP.still b1 (l := [7, 8, 6]) (i := 0) rfl rfl rfl hm))))))) Ny)) c2 j1) ?_
             rintro e j2 ⟨rfl, f7⟩
             refine ⟨_, rfl, ?_⟩
             have j3 : SP [] w0 j2 [U8 48 (Qb Q5 (Qb Q5 (Qd .i64))) (some ⟨g5, 0, none⟩) (List.length ([(([107] : List UInt8), ([115] : List UInt8), 5)] : List ((List UInt8) × (List UInt8) × Int))) ([(([107] : List UInt8), ([115] : List UInt8), 5)] : List ((List UInt8) × (List UInt8) × Int)), U8 44 Ul (some ⟨g6, 0, none⟩) (List.length ([(([97, 110, 110] : List UInt8), 0, 0, ([] : List (Int × Int)), ([(([107] : List UInt8), ([115] : List UInt8), 5)] : List ((List UInt8) × (List UInt8) × Int)))] : List Qg)) ([(([97, 110, 110] : List UInt8), 0, 0, (none, 0, ([] : List (Int × Int))), ((some ⟨g5, 0, none⟩), (List.length ([(([107] : List UInt8), ([115] : List UInt8), 5)] : List ((List UInt8) × (List UInt8) × Int))), ([(([107] : List UInt8), ([115] : List UInt8), 5)] : List ((List UInt8) × (List UInt8) × Int))))] : List Vi), Qj a5 63 #[(.int .i64 f.1), (.string ⟨List.toArray f.2.1⟩), (.string ⟨List.toArray f.2.2.1⟩), (.int .i64 f.2.2.2.1), (.int .i64 f.2.2.2.2.1)], Qj a6 63 #[(.int .i64 j.1), (.string ⟨List.toArray j.2.1⟩), (.string ⟨List.toArray j.2.2.1⟩), (.int .i64 j.2.2.2.1), (.int .i64 j.2.2.2.2.1)], Qj a9 63 #[(.int .i64 m.1), (.string ⟨List.toArray m.2.1⟩), (.string ⟨List.toArray m.2.2.1⟩), (.int .i64 m.2.2.2.1), (.int .i64 m.2.2.2.2.1)], Qj b0 63 #[(.int .i64 h.1), (.string ⟨List.toArray h.2.1⟩), (.string ⟨List.toArray h.2.2.1⟩), (.int .i64 h.2.2.2.1), (.int .i64 h.2.2.2.2.1)], Qj s 95 #[(pt p 0), (Q4 m.2.2.2.2.2.2.1 s), (.string ⟨List.toArray m.2.2.2.2.2.2.2.1⟩), (.string ⟨List.toArray m.2.2.2.2.2.2.2.2.1⟩), (.string ⟨List.toArray m.2.2.2.2.2.2.2.2.2.1⟩), (.bool m.2.2.2.2.2.2.2.2.2.2)], Qj p 79 #[(.int .i64 c.1), (.int .i64 c.2.1), (.int .i64 c.2.2.1), (.int .i64 c.2.2.2.1), (.slice (some ⟨g6, 0, none⟩) (List.length ([(([97, 110, 110] : List UInt8), 0, 0, ([] : List (Int × Int)), ([(([107] : List UInt8), ([115] : List UInt8), 5)] : List ((List UInt8) × (List UInt8) × Int)))] : List Qg)) (List.length ([(([97, 110, 110] : List UInt8), 0, 0, ([] : List (Int × Int)), ([(([107] : List UInt8), ([115] : List UInt8), 5)] : List ((List UInt8) × (List UInt8) × Int)))] : List Qg))), (.map (some u))], Qz u c.2.2.2.2, Qj a0 95 #[(pt p 0), (Q4 h.2.2.2.2.2.2.1 a0), (.string ⟨List.toArray h.2.2.2.2.2.2.2.1⟩), (.string ⟨List.toArray h.2.2.2.2.2.2.2.2.1⟩), (.string ⟨List.toArray h.2.2.2.2.2.2.2.2.2.1⟩), (.bool h.2.2.2.2.2.2.2.2.2.2)]] := Va b1 [7, 8, 6] [0, 1, 2, 3, 4, 5, 9] rfl rfl f7 rfl
             clear f7
             refine iR 2 43 [(107, (.bool c2)), (0, (.bool c2))] ?_
             refine iF ?_
             exact ⟨c2, ⟨K, trivial⟩, SP.sel j3 [] rfl rfl, H⟩
            ·have H := cf H d3
             refine iR 4 43 [(105, undef), (106, undef), (107, (.bool false)), (0, (.bool false))] ?_
             refine iF ?_
             exact ⟨false, ⟨K, trivial⟩, SP.sel b1 [] rfl rfl, H⟩
           ·have H := cf H d2
            refine iR 8 43 [(101, undef), (102, undef), (103, (.bool false)), (104, (.bool false)), (105, undef), (106, undef), (107, (.bool false)), (0, (.bool false))] ?_
            refine iF ?_
            exact ⟨false, ⟨K, trivial⟩, SP.sel a3 [] rfl rfl, H⟩
          ·have H := cf H d1
           refine iR 12 43 [(97, undef), (98, undef), (99, (.bool false)), (100, (.bool false)), (101, undef), (102, undef), (103, (.bool false)), (104, (.bool false)), (105, undef), (106, undef), (107, (.bool false)), (0, (.bool false))] ?_
           refine iF ?_
           exact ⟨false, ⟨K, trivial⟩, SP.sel a3 [] rfl rfl, H⟩
         ·have H := cf H d0
          refine iR 17 43 [(92, undef), (93, undef), (94, undef), (95, (.bool false)), (96, (.bool false)), (97, undef), (98, undef), (99, (.bool false)), (100, (.bool false)), (101, undef), (102, undef), (103, (.bool false)), (104, (.bool false)), (105, undef), (106, undef), (107, (.bool false)), (0, (.bool false))] ?_
          refine iF ?_
          exact ⟨false, ⟨K, trivial⟩, SP.sel a3 [] rfl rfl, H⟩
        ·have H := cf H c9
         refine iR 21 43 [(88, undef), (89, undef), (90, (.bool false)), (91, (.bool false)), (92, undef), (93, undef), (94, undef), (95, (.bool false)), (96, (.bool false)), (97, undef), (98, undef), (99, (.bool false)), (100, (.bool false)), (101, undef), (102, undef), (103, (.bool false)), (104, (.bool false)), (105, undef), (106, undef), (107, (.bool false)), (0, (.bool false))] ?_
         refine iF ?_
         exact ⟨false, ⟨K, trivial⟩, SP.sel a3 [] rfl rfl, H⟩
       ·have H := cf H c8
        refine iR 24 43 [(85, undef), (86, (.bool false)), (87, (.bool false)), (88, undef), (89, undef), (90, (.bool false)), (91, (.bool false)), (92, undef), (93, undef), (94, undef), (95, (.bool false)), (96, (.bool false)), (97, undef), (98, undef), (99, (.bool false)), (100, (.bool false)), (101, undef), (102, undef), (103, (.bool false)), (104, (.bool false)), (105, undef), (106, undef), (107, (.bool false)), (0, (.bool false))] ?_
        refine iF ?_
        exact ⟨false, ⟨K, trivial⟩, SP.sel a3 [] rfl rfl, H⟩
      ·have H := cf H c7
       refine iR 28 43 [(81, undef), (82, undef), (83, (.bool false)), (84, (.bool false)), (85, undef), (86, (.bool false)), (87, (.bool false)), (88, undef), (89, undef), (90, (.bool false)), (91, (.bool false)), (92, undef), (93, undef), (94, undef), (95, (.bool false)), (96, (.bool false)), (97, undef), (98, undef), (99, (.bool false)), (100, (.bool false)), (101, undef), (102, undef), (103, (.bool false)), (104, (.bool false)), (105, undef), (106, undef), (107, (.bool false)), (0, (.bool false))] ?_
       refine iF ?_
       exact ⟨false, ⟨K, trivial⟩, SP.sel a3 [] rfl rfl, H⟩
     ·have H := cf H c6
      refine iR 31 43 [(78, undef), (79, (.bool false)), (80, (.bool false)), (81, undef), (82, undef), (83, (.bool false)), (84, (.bool false)), (85, undef), (86, (.bool false)), (87, (.bool false)), (88, undef), (89, undef), (90, (.bool false)), (91, (.bool false)), (92, undef), (93, undef), (94, undef), (95, (.bool false)), (96, (.bool false)), (97, undef), (98, undef), (99, (.bool false)), (100, (.bool false)), (101, undef), (102, undef), (103, (.bool false)), (104, (.bool false)), (105, undef), (106, undef), (107, (.bool false)), (0, (.bool false))] ?_
      refine iF ?_
      exact ⟨false, ⟨K, trivial⟩, SP.sel a3 [] rfl rfl, H⟩
    ·have H := cf H c5
     refine iR 36 43 [(73, undef), (74, undef), (75, undef), (76, (.bool false)), (77, (.bool false)), (78, undef), (79, (.bool false)), (80, (.bool false)), (81, undef), (82, undef), (83, (.bool false)), (84, (.bool false)), (85, undef), (86, (.bool false)), (87, (.bool false)), (88, undef), (89, undef), (90, (.bool false)), (91, (.bool false)), (92, undef), (93, undef), (94, undef), (95, (.bool false)), (96, (.bool false)), (97, undef), (98, undef), (99, (.bool false)), (100, (.bool false)), (101, undef), (102, undef), (103, (.bool false)), (104, (.bool false)), (105, undef), (106, undef), (107, (.bool false)), (0, (.bool false))] ?_
     refine iF ?_
     exact ⟨false, ⟨K, trivial⟩, SP.sel a3 [] rfl rfl, H⟩
   ·have H := cf H c4
    refine iR 39 43 [(70, undef), (71, (.bool false)), (72, (.bool false)), (73, undef), (74, undef), (75, undef), (76, (.bool false)), (77, (.bool false)), (78, undef), (79, (.bool false)), (80, (.bool false)), (81, undef), (82, undef), (83, (.bool false)), (84, (.bool false)), (85, undef), (86, (.bool false)), (87, (.bool false)), (88, undef), (89, undef), (90, (.bool false)), (91, (.bool false)), (92, undef), (93, undef), (94, undef), (95, (.bool false)), (96, (.bool false)), (97, undef), (98, undef), (99, (.bool false)), (100, (.bool false)), (101, undef), (102, undef), (103, (.bool false)), (104, (.bool false)), (105, undef), (106, undef), (107, (.bool false)), (0, (.bool false))] ?_
    refine iF ?_
    exact ⟨false, ⟨K, trivial⟩, SP.sel a3 [] rfl rfl, H⟩
  ·rintro ρ k1 ⟨a8, hk, j4, H⟩
   unfold Q7 at H
   first | refine At.known [(0, (.bool a8))] hk ?_ | rw [← Vd (l := [(0, (.bool a8))]) hk]
   refine At.ret K ?_
   refine ⟨(.bool a8), K, ?_⟩
   obtain rfl := Qi H
   exact ⟨rfl, SP.sel j4 [] rfl rfl⟩
end Go.Proofs.YtmgfanhcdfobhaaGreatDoor
namespace Go.Proofs.YtmgfanhcdfobhaaGreatDoor
theorem shakeHead : Yh = some true := by
  unfold Yh
  rw [show Jr = some () from rfl, Option.bind_some, headVNew, Option.bind_some, optE_s]
  kernel_rfl
abbrev OpK := Int × Int × Str × Str × Int × Int × Int × Str
def OpKQ (o : OpK) : Prop := o.2.2.1.length ≤ 140737488355328 ∧ o.2.2.2.1.length ≤ 140737488355328 ∧ o.2.2.2.2.2.2.2.length ≤ 140737488355328
theorem opsK_loop (l : List OpK) (hl : l.length ≤ 140737488355328) : ∀ (d i f : Nat), d = min l.length 60 - i → i ≤ l.length → i ≤ 60 → d < f → ∃ b, Vj l f (i : Int) = some b ∧ (b = false → l.length ≤ 40) := by
  intro d
  induction d with
  | zero =>
    intro i f hd hi h3 hf
    obtain ⟨f, rfl⟩ : ∃ g, f = g + 1 := ⟨f - 1, by omega⟩
    show ∃ b, Za (Vj l f) l (i : Int) = some b ∧ _
    unfold Za Zr
    by_cases hlt : i < l.length
    · rw [show decide ((i : Int) < ((l.length : Nat) : Int)) = true from decide_eq_true (by omega), cond_true, show decide ((i : Int) < 60) = false from decide_eq_false (by omega), cond_false]
      exact ⟨_, rfl, fun h => by have := of_decide_eq_false h; omega⟩
    · rw [show decide ((i : Int) < ((l.length : Nat) : Int)) = false from decide_eq_false (by omega), cond_false, cond_false]
      exact ⟨_, rfl, fun h => by have := of_decide_eq_false h; omega⟩
  | succ d ih =>
    intro i f hd hi h3 hf
    obtain ⟨f, rfl⟩ : ∃ g, f = g + 1 := ⟨f - 1, by omega⟩
    have hlt : i < l.length := by omega
    show ∃ b, Za (Vj l f) l (i : Int) = some b ∧ _
    have hk : ∀ v, ∃ b, Zq (Vj l f) (i : Int) v = some b ∧ (b = false → l.length ≤ 40) := by
      intro v
      unfold Zq
      cases v with
      | true => exact ⟨true, rfl, fun h => by cases h⟩
      | false =>
        rw [cond_false, show ((i : Int) + 1) = ((i + 1 : Nat) : Int) by omega, Xy (by omega)]
        exact ih (i + 1) f (by omega) (by omega) (by omega) (by omega)
    unfold Za Zr Y3
    rw [show decide ((i : Int) < ((l.length : Nat) : Int)) = true from decide_eq_true (by omega), cond_true, show decide ((i : Int) < 60) = true from decide_eq_true (by omega), cond_true, Jc hlt, Option.bind_some, Option.bind_some, Option.bind_some]
    generalize decide (_ > (9000 : Int)) = g
    cases g with
    | true => rw [cond_true]; exact hk true
    | false => rw [cond_false]; exact hk _
theorem If (l : List OpK) (hl : l.length ≤ 140737488355328) : ∃ b, Y4 l = some b ∧ (b = false → l.length ≤ 40) :=
  opsK_loop l hl _ 0 Z1 rfl (by omega) (by omega) (by unfold Z1; omega)
theorem over_p (w g i e : Int) (l : List Qg) (M : U1) (c : Int) (t k n : Str) (kn : Bool) : Zc w g i e l M c t k n kn = some (B6 c) := rfl
end Go.Proofs.YtmgfanhcdfobhaaGreatDoor
