import Derived.Test.YtmgfanhcdfobhaaGreatDoorPkShakeSays3
set_option linter.unusedSimpArgs false
set_option linter.unusedVariables false
set_option linter.unusedSectionVars false
namespace Go.Proofs.YtmgfanhcdfobhaaGreatDoor
open Go.RowKit
def Jy (a : Int) (b : Int) (c : Int) (d : Int) (e : (List Qd)) : Option (Option (Int × Int × Int × Int × Us)) :=
  ((Jr a b c d e).bind fun f => (cond (!f) (some none) (some (some (a, b, c, d, ([] : Us))))))
set_option maxRecDepth 100000 in
set_option maxHeartbeats 4000000 in
theorem Jv (A6 : Option Addr) (c7 : Nat) (a : Int) (c : Int) (f : Int) (g : Int) (d9 : (List Q8)) (w0 : World) (hL : Rz w0) (y : (dDS J9 Bj).ok w0 (A6, c7, d9)) (r : (Option (Int × Int × Int × Int × Us))) (H : Jy a c f g (List.map stT d9) = some r) :
  Calls Tryz.prog 18 #[(.agg #[(.int .i64 a), (.int .i64 c), (.int .i64 f), (.int .i64 g), (.slice A6 (List.length (List.map stT d9)) c7)])] w0 (fun e w' => match r with | none => e = .returned (.pointer none) ∧ SP [] w0 w' [] | some o => ∃ (q : Nat) (s : Nat), e = .returned (pt q 0) ∧ SP [] w0 w' [Qo q 79 #[(.int .i64 o.1), (.int .i64 o.2.1), (.int .i64 o.2.2.1), (.int .i64 o.2.2.2.1), (.slice A6 (List.length (List.map stT d9)) c7), (.map (some s))], Vq s o.2.2.2.2]) := by
 unfold Jy at H
 refine Qt (n := 10) Tryz.func18 K K K ?_
 have z := Q1 [] w0
 refine aQ ?_
 refine aR ?_
 refine iS 1 ?_
 refine Vo (t := 24) (x := (.tmp 0)) (v := (.agg #[(.int .i64 a), (.int .i64 c), (.int .i64 f), (.int .i64 g), (.slice A6 (List.length (List.map stT d9)) c7)])) (d := (some 1)) (k := 0) K rfl K z ?_
 intro u w32 h
 refine iR 1 2 [(2, (.pointer none))] ?_
 refine iF ?_
 refine aQ ?_
 refine aQ ?_
 refine aR ?_
 refine iS 1 ?_
 refine sL 24 1 u 0 0 (.agg #[(.int .i64 a), (.int .i64 c), (.int .i64 f), (.int .i64 g), (.slice A6 (List.length (List.map stT d9)) c7)]) 3 h rfl ?_
 obtain ⟨i, a0, H⟩ := Qc H
 refine iS 2 ?_
 refine cF 43 #[(.tmp 3)] #[24] 4 Tryz.call43 (Rn A6 c7 a c f g d9 w32 (Zs hL (SP.keeps h)) (Dp.sp y h) i a0) ?_
 rintro e a3 ⟨rfl, w⟩
 refine ⟨_, rfl, ?_⟩
 have j := SP.call h w
 clear w
 refine iR 1 3 [(5, (.bool (!i)))] ?_
 refine iF ?_
 refine Zu K (o := (.tmp 5)) K (b := (!i)) K (fun l => ?_) (fun l => ?_)
 ·have H := ct H l
  refine aQ ?_
  refine aR ?_
  refine iR 1 1 [(2, (.pointer none))] ?_
  refine iF ?_
  refine At.ret K ?_
  refine ⟨(.pointer none), K, ?_⟩
  obtain rfl := Qf H
  exact ⟨rfl, SP.sel j [] rfl rfl⟩
 ·have H := cf H l
  refine At.skip K ?_
  refine aQ ?_
  refine aR ?_
  refine iS 1 ?_
  refine sL 24 1 u 0 0 (.agg #[(.int .i64 a), (.int .i64 c), (.int .i64 f), (.int .i64 g), (.slice A6 (List.length (List.map stT d9)) c7)]) 6 j rfl ?_
  refine iS 2 ?_
  refine F1 (T := 77) (dst := (some 7)) (o := 1) K rfl j ?_
  intro m a4 a1
  refine iR 1 3 [(8, (.agg #[(.int .i64 a), (.int .i64 c), (.int .i64 f), (.int .i64 g), (.slice A6 (List.length (List.map stT d9)) c7), (.map (some m))]))] ?_
  refine iS 4 ?_
  refine Vo (t := 79) (x := (.tmp 8)) (v := (.agg #[(.int .i64 a), (.int .i64 c), (.int .i64 f), (.int .i64 g), (.slice A6 (List.length (List.map stT d9)) c7), (.map (some m))])) (d := (some 9)) (k := 3) K rfl K a1 ?_
  intro p a5 a2
  refine iR 1 5 [(2, (pt p 0))] ?_
  refine iF ?_
  refine At.ret K ?_
  refine ⟨(pt p 0), K, ?_⟩
  obtain rfl := Qf H
  exact ⟨p, m, rfl, SP.sel a2 [2,1] rfl rfl⟩
def Zq (a : Bool) : Option (Bool) :=
  (some (a))
def Ye (f : (List UInt8)) (g : (List UInt8)) (c : Int) (q5 : Int) (q6 : Int) (q7 : Int) (q8 : Int) (q9 : (List Qd)) (d : Us) (a : (List UInt8)) (b : (List UInt8)) (e : Int) (h : Bool) : Option (Bool) :=
  ((chk (Nat.ble (List.length a) 140737488355328 && Nat.ble (List.length b) 140737488355328)).bind fun _ => (cond ((E1 d (a, b)) == 0) (Zq (decide (e < c))) (Zq false)))
set_option maxRecDepth 100000 in
set_option maxHeartbeats 4000000 in
theorem Nh {S : List Nat} (g4 : Nat) (a3 : Option Addr) (a4 : Nat) (f : Nat) (q : Nat) (s : Nat) (u : Nat) (a0 : Nat) (z : Nat) (a5 : (List UInt8)) (a6 : (List UInt8)) (j : Int) (q5 : Int) (q6 : Int) (q7 : Int) (q8 : Int) (a1 : (List Q8)) (c : Us) (a : (List UInt8)) (b : (List UInt8)) (h : Int) (a7 : Bool) (w0 : World) (hO : SP S w0 w0 [Qo g4 79 #[(.int .i64 q5), (.int .i64 q6), (.int .i64 q7), (.int .i64 q8), (.slice a3 (List.length (List.map stT a1)) a4), (.map (some f))], Vq f c, Qo q 29 #[(pt g4 0)], Qo s 9 #[(.string ⟨List.toArray a⟩)], Qo u 9 #[(.string ⟨List.toArray b⟩)], Qo a0 2 #[(.int .i64 h)], Qo z 4 #[(.bool a7)]]) (d5 : ∀ w, Mod S w0 w → (dDS J9 Bj).ok w (a3, a4, a1)) (r : (Bool)) (H : Ye a5 a6 j q5 q6 q7 q8 (List.map stT a1) c a b h a7 = some r) :
  Calls Tryz.prog 49 #[(.agg #[(.string ⟨List.toArray a5⟩), (.string ⟨List.toArray a6⟩), (.int .i64 j)]), (pt q 0), (pt s 0), (pt u 0), (pt a0 0), (pt z 0)] w0 (fun e w' => e = .returned (.tuple #[]) ∧ SP S w0 w' [Qo g4 79 #[(.int .i64 q5), (.int .i64 q6), (.int .i64 q7), (.int .i64 q8), (.slice a3 (List.length (List.map stT a1)) a4), (.map (some f))], Vq f c, Qo q 29 #[(pt g4 0)], Qo s 9 #[(.string ⟨List.toArray a⟩)], Qo u 9 #[(.string ⟨List.toArray b⟩)], Qo a0 2 #[(.int .i64 h)], Qo z 4 #[(.bool r)]]) := by
 unfold Ye at H
 refine Qt (n := 22) Tryz.func49 K K K ?_
 have b4 := hO
 refine aQ ?_
 refine aR ?_
 refine iS 1 ?_
 refine Vo (t := 48) (x := (.tmp 0)) (v := (.agg #[(.string ⟨List.toArray a5⟩), (.string ⟨List.toArray a6⟩), (.int .i64 j)])) (d := (some 6)) (k := 0) K rfl K b4 ?_
 intro a2 d6 b1
 refine iF ?_
 refine At.join (fun ρ w => ∃ (a9 : Bool), Zg ρ [] ∧ SP S w0 w [Qo g4 79 #[(.int .i64 q5), (.int .i64 q6), (.int .i64 q7), (.int .i64 q8), (.slice a3 (List.length (List.map stT a1)) a4), (.map (some f))], Vq f c, Qo q 29 #[(pt g4 0)], Qo s 9 #[(.string ⟨List.toArray a⟩)], Qo u 9 #[(.string ⟨List.toArray b⟩)], Qo a0 2 #[(.int .i64 h)], Qo z 4 #[(.bool a9)]] ∧ Zq a9 = some r) ?_ ?_
 ·obtain ⟨a8, H⟩ := Zm H
  rcases Bool.eq_false_or_eq_true ((E1 c (a, b)) == 0) with p | p
  ·have H := ct H p
   refine aG [GEq (pt g4 0), GEq (pt g4 0), GEq (pt g4 5), GEq (.map (some f)), GEq (.string ⟨List.toArray a⟩), GEq (.string ⟨List.toArray b⟩), GEq (.agg (Qa Zc ([a, b] : List (List UInt8))).toArray), GEq (.int .i64 (E1 c (a, b))), GEq (.bool ((E1 c (a, b)) == 0)), GEq (.bool ((E1 c (a, b)) == 0)), GEq (.int .i64 h), GEq (pt a2 2), GEq (.int .i64 j), GEq (.bool (decide (h < j))), GEq (.bool (decide (h < j))), C3] [15] [sG [] [] S w0 [Qo g4 79 #[(.int .i64 q5), (.int .i64 q6), (.int .i64 q7), (.int .i64 q8), (.slice a3 (List.length (List.map stT a1)) a4), (.map (some f))], Vq f c, Qo q 29 #[(pt g4 0)], Qo s 9 #[(.string ⟨List.toArray a⟩)], Qo u 9 #[(.string ⟨List.toArray b⟩)], Qo a0 2 #[(.int .i64 h)], Qo z 4 #[(.bool a7)], Qo a2 48 #[(.string ⟨List.toArray a5⟩), (.string ⟨List.toArray a6⟩), (.int .i64 j)]], sG [15] [undef] S w0 [Qo g4 79 #[(.int .i64 q5), (.int .i64 q6), (.int .i64 q7), (.int .i64 q8), (.slice a3 (List.length (List.map stT a1)) a4), (.map (some f))], Vq f c, Qo q 29 #[(pt g4 0)], Qo s 9 #[(.string ⟨List.toArray a⟩)], Qo u 9 #[(.string ⟨List.toArray b⟩)], Qo a0 2 #[(.int .i64 h)], Qo z 4 #[(.bool (decide (h < j)))], Qo a2 48 #[(.string ⟨List.toArray a5⟩), (.string ⟨List.toArray a6⟩), (.int .i64 j)]]] 16 1 ⟨trivial, SP.drew b1⟩ ?_ ?_
   iterate 16 refine And.intro ?_ ?_
   exact trivial
   ·refine oL 0 ?_
    ·rintro ρ' w' hs hah ⟨d7, b5⟩
     refine kM (kc (kS hs 1 (pt q 0)) k0) fun hkn => ?_
     refine sL 29 1 q 0 2 (pt g4 0) 7 b5 rfl ?_
     exact eK hkn
   ·exact oV (hC (hA 0 7) (h0)) (pt g4 0)
   ·exact oV (hC (hA 1 8) (h0)) (pt g4 5)
   ·refine oL 0 ?_
    ·rintro ρ' w' hs hah ⟨d8, b6⟩
     refine kM (kc (kA hah 2 9) k0) fun hkn => ?_
     refine sL 77 9 g4 5 0 (.map (some f)) 10 b6 rfl ?_
     exact eK hkn
   ·refine oL 0 ?_
    ·rintro ρ' w' hs hah ⟨d9, b7⟩
     refine kM (kc (kS hs 2 (pt s 0)) k0) fun hkn => ?_
     refine sL 9 2 s 0 3 (.string ⟨List.toArray a⟩) 11 b7 rfl ?_
     exact eK hkn
   ·refine oL 0 ?_
    ·rintro ρ' w' hs hah ⟨e0, b8⟩
     refine kM (kc (kS hs 3 (pt u 0)) k0) fun hkn => ?_
     refine sL 9 3 u 0 4 (.string ⟨List.toArray b⟩) 12 b8 rfl ?_
     exact eK hkn
   ·exact oV (hC (hA 4 11) (hC (hA 5 12) (h0))) (.agg (Qa Zc ([a, b] : List (List UInt8))).toArray)
   ·refine oL 0 ?_
    ·rintro ρ' w' hs hah ⟨e1, b9⟩
     refine kM (kc (kA hah 3 10) (kc (kA hah 6 13) k0)) fun hkn => ?_
     refine Ci (T := 77) (kt := 83) (et := 3) (m := f) (L := c) (k := (a, b)) (x := (.tmp 10)) (ix := (.tmp 13)) (dst := (some 14)) (o := 7) K rfl K K K Hh (fun _ => rfl) (SP.get b9 (i := 1) rfl) (chk2 a8).1 (chk2 a8).2 ?_
     exact eK hkn
   ·exact oV (hC (hA 7 14) (h0)) (.bool ((E1 c (a, b)) == 0))
   ·exact oV (hC (hA 8 15) (h0)) (.bool ((E1 c (a, b)) == 0))
   ·refine oL 0 ?_
    ·rintro ρ' w' hs hah ⟨e2, c0⟩
     have e4 : ρ' 4 = (pt a0 0) := (hs 4 K).trans K
     have b0 := hah 9 16 K
     refine kN [(4, (pt a0 0)), (16, (.bool true))] ⟨e4, (Eq.trans b0 (congrArg Value.bool p)), trivial⟩ fun hkn => ?_
     refine sL 2 4 a0 0 5 (.int .i64 h) 17 c0 rfl ?_
     exact eK hkn
   ·exact oV (hC (hS 6 (pt a2 0)) (hC (hB 9 16 p) (h0))) (pt a2 2)
   ·refine oL 0 ?_
    ·rintro ρ' w' hs hah ⟨e3, c1⟩
     have c2 := hah 11 18 K
     have b0 := hah 9 16 K
     refine kN [(18, (pt a2 2)), (16, (.bool true))] ⟨c2, (Eq.trans b0 (congrArg Value.bool p)), trivial⟩ fun hkn => ?_
     refine sL 2 18 a2 2 7 (.int .i64 j) 19 c1 rfl ?_
     exact eK hkn
   ·exact oV (hC (hA 10 17) (hC (hA 12 19) (hC (hB 9 16 p) (h0)))) (.bool (decide (h < j)))
   ·exact oV (hC (hB 9 16 p) (hC (hA 13 20) (h0))) (.bool (decide (h < j)))
   ·refine oH 0 1 ?_
    ·rintro ρ' w' hs hah ⟨e5, c3⟩
     refine kM (kc (kS hs 5 (pt z 0)) (kc (kA hah 14 21) k0)) fun hkn => ?_
     refine Qj.store (t := 4) (x := (.tmp 5)) (y := (.tmp 21)) (g := z) (off := 0) (i := 6) (v := (.bool (decide (h < j)))) (cs' := #[(.bool (decide (h < j)))]) (d := none) (k := 15) K rfl K K c3 rfl K ?_
     intro e6 c4
     refine ⟨_, Qb hkn, trivial, ?_⟩
     exact (And.intro (And.intro rfl (trivial)) (c4))
   ·rintro ρ' w' hs hf ⟨⟨e7, -⟩, b2⟩
    refine Vj [] trivial ?_
    obtain ⟨e8, c5⟩ : ∃ x, w' = x := ⟨_, rfl⟩
    rw [c5] at b2 ⊢
    exact ⟨(decide (h < j)), trivial, SP.sel b2 [0, 1, 2, 3, 4, 5, 6] rfl rfl, H⟩
  ·have H := cf H p
   refine aG [GEq (pt g4 0), GEq (pt g4 0), GEq (pt g4 5), GEq (.map (some f)), GEq (.string ⟨List.toArray a⟩), GEq (.string ⟨List.toArray b⟩), GEq (.agg (Qa Zc ([a, b] : List (List UInt8))).toArray), GEq (.int .i64 (E1 c (a, b))), GEq (.bool ((E1 c (a, b)) == 0)), GEq (.bool ((E1 c (a, b)) == 0)), GEq undef, GEq undef, GEq undef, GEq undef, GEq (.bool false), C3] [15] [sG [] [] S w0 [Qo g4 79 #[(.int .i64 q5), (.int .i64 q6), (.int .i64 q7), (.int .i64 q8), (.slice a3 (List.length (List.map stT a1)) a4), (.map (some f))], Vq f c, Qo q 29 #[(pt g4 0)], Qo s 9 #[(.string ⟨List.toArray a⟩)], Qo u 9 #[(.string ⟨List.toArray b⟩)], Qo a0 2 #[(.int .i64 h)], Qo z 4 #[(.bool a7)], Qo a2 48 #[(.string ⟨List.toArray a5⟩), (.string ⟨List.toArray a6⟩), (.int .i64 j)]], sG [15] [undef] S w0 [Qo g4 79 #[(.int .i64 q5), (.int .i64 q6), (.int .i64 q7), (.int .i64 q8), (.slice a3 (List.length (List.map stT a1)) a4), (.map (some f))], Vq f c, Qo q 29 #[(pt g4 0)], Qo s 9 #[(.string ⟨List.toArray a⟩)], Qo u 9 #[(.string ⟨List.toArray b⟩)], Qo a0 2 #[(.int .i64 h)], Qo z 4 #[(.bool false)], Qo a2 48 #[(.string ⟨List.toArray a5⟩), (.string ⟨List.toArray a6⟩), (.int .i64 j)]]] 16 1 ⟨trivial, SP.drew b1⟩ ?_ ?_
   iterate 16 refine And.intro ?_ ?_
   exact trivial
   ·refine oL 0 ?_
    ·rintro ρ' w' hs hah ⟨e9, c6⟩
     refine kM (kc (kS hs 1 (pt q 0)) k0) fun hkn => ?_
     refine sL 29 1 q 0 2 (pt g4 0) 7 c6 rfl ?_
     exact eK hkn
   ·exact oV (hC (hA 0 7) (h0)) (pt g4 0)
   ·exact oV (hC (hA 1 8) (h0)) (pt g4 5)
   ·refine oL 0 ?_
    ·rintro ρ' w' hs hah ⟨f0, c7⟩
     refine kM (kc (kA hah 2 9) k0) fun hkn => ?_
     refine sL 77 9 g4 5 0 (.map (some f)) 10 c7 rfl ?_
     exact eK hkn
   ·refine oL 0 ?_
    ·rintro ρ' w' hs hah ⟨f1, c8⟩
     refine kM (kc (kS hs 2 (pt s 0)) k0) fun hkn => ?_
     refine sL 9 2 s 0 3 (.string ⟨List.toArray a⟩) 11 c8 rfl ?_
     exact eK hkn
   ·refine oL 0 ?_
    ·rintro ρ' w' hs hah ⟨f2, c9⟩
     refine kM (kc (kS hs 3 (pt u 0)) k0) fun hkn => ?_
     refine sL 9 3 u 0 4 (.string ⟨List.toArray b⟩) 12 c9 rfl ?_
     exact eK hkn
   ·exact oV (hC (hA 4 11) (hC (hA 5 12) (h0))) (.agg (Qa Zc ([a, b] : List (List UInt8))).toArray)
   ·refine oL 0 ?_
    ·rintro ρ' w' hs hah ⟨f3, d0⟩
     refine kM (kc (kA hah 3 10) (kc (kA hah 6 13) k0)) fun hkn => ?_
     refine Ci (T := 77) (kt := 83) (et := 3) (m := f) (L := c) (k := (a, b)) (x := (.tmp 10)) (ix := (.tmp 13)) (dst := (some 14)) (o := 7) K rfl K K K Hh (fun _ => rfl) (SP.get d0 (i := 1) rfl) (chk2 a8).1 (chk2 a8).2 ?_
     exact eK hkn
   ·exact oV (hC (hA 7 14) (h0)) (.bool ((E1 c (a, b)) == 0))
   ·exact oV (hC (hA 8 15) (h0)) (.bool ((E1 c (a, b)) == 0))
   ·exact oW (hC (hB 9 16 p) (h0)) 17
   ·exact oW (hC (hB 9 16 p) (h0)) 18
   ·exact oW (hC (hB 9 16 p) (h0)) 19
   ·exact oW (hC (hB 9 16 p) (h0)) 20
   ·exact oV (hC (hB 9 16 p) (hC (hA 13 20) (h0))) (.bool false)
   ·refine oH 0 1 ?_
    ·rintro ρ' w' hs hah ⟨f4, d1⟩
     refine kM (kc (kS hs 5 (pt z 0)) (kc (kA hah 14 21) k0)) fun hkn => ?_
     refine Qj.store (t := 4) (x := (.tmp 5)) (y := (.tmp 21)) (g := z) (off := 0) (i := 6) (v := (.bool false)) (cs' := #[(.bool false)]) (d := none) (k := 15) K rfl K K d1 rfl K ?_
     intro f5 d2
     refine ⟨_, Qb hkn, trivial, ?_⟩
     exact (And.intro (And.intro rfl (trivial)) (d2))
   ·rintro ρ' w' hs hf ⟨⟨f6, -⟩, b3⟩
    refine Vj [] trivial ?_
    obtain ⟨f7, d3⟩ : ∃ x, w' = x := ⟨_, rfl⟩
    rw [d3] at b3 ⊢
    exact ⟨false, trivial, SP.sel b3 [0, 1, 2, 3, 4, 5, 6] rfl rfl, H⟩
 ·rintro ρ f8 ⟨a9, hk, d4, H⟩
  unfold Zq at H
  first | refine At.known [] hk ?_ | rw [← Q9 (l := []) hk]
  refine ⟨(.tuple #[]), K, ?_⟩
  obtain rfl := Qf H
  exact ⟨rfl, SP.sel d4 [0,1,2,3,4,5,6] rfl rfl⟩
def Yf (c : (List UInt8)) (a : (List UInt8)) (d : Int) (q5 : (List UInt8)) (q7 : (List UInt8)) (q9 : (List UInt8)) (e : (List UInt8)) : Option ((List UInt8)) :=
  ((chk (Nat.ble (List.length a) 281474976710656)).bind fun _ => ((Gb a ([q5, q7, q9] : List (List UInt8))).bind fun b => (some (b))))
set_option maxRecDepth 100000 in
set_option maxHeartbeats 4000000 in
theorem Ni {S : List Nat} (g4 : Nat) (g6 : Nat) (g8 : Nat) (b : Nat) (c : (List UInt8)) (a : (List UInt8)) (f : Int) (q5 : (List UInt8)) (q7 : (List UInt8)) (q9 : (List UInt8)) (j : (List UInt8)) (w0 : World) (hO : SP S w0 w0 [Qo g4 9 #[(.string ⟨List.toArray q5⟩)], Qo g6 9 #[(.string ⟨List.toArray q7⟩)], Qo g8 9 #[(.string ⟨List.toArray q9⟩)], Qo b 9 #[(.string ⟨List.toArray j⟩)]])  (r : ((List UInt8))) (H : Yf c a f q5 q7 q9 j = some r) :
  Calls Tryz.prog 50 #[(.agg #[(.string ⟨List.toArray c⟩), (.string ⟨List.toArray a⟩), (.int .i64 f)]), (pt g4 0), (pt g6 0), (pt g8 0), (pt b 0)] w0 (fun e w' => e = .returned (.tuple #[]) ∧ SP S w0 w' [Qo g4 9 #[(.string ⟨List.toArray q5⟩)], Qo g6 9 #[(.string ⟨List.toArray q7⟩)], Qo g8 9 #[(.string ⟨List.toArray q9⟩)], Qo b 9 #[(.string ⟨List.toArray r⟩)]]) := by
 unfold Yf at H
 refine Qt (n := 14) Tryz.func50 K K K ?_
 have a0 := hO
 refine aQ ?_
 refine aR ?_
 refine iS 1 ?_
 refine Vo (t := 48) (x := (.tmp 0)) (v := (.agg #[(.string ⟨List.toArray c⟩), (.string ⟨List.toArray a⟩), (.int .i64 f)])) (d := (some 5)) (k := 0) K rfl K a0 ?_
 intro m a8 q
 refine iF ?_
 refine aR ?_
 refine iR 1 1 [(6, (pt m 1))] ?_
 refine iS 2 ?_
 refine sL 9 6 m 1 4 (.string ⟨List.toArray a⟩) 7 q rfl ?_
 obtain ⟨a1, H⟩ := Zm H
 refine iS 3 ?_
 refine Gq (S' := 9) (T := 52) (E := 5) (x := (.tmp 7)) (l := a) (d := (some 8)) (k := 2) K rfl K K K K (Gr a1) q ?_
 intro s u a2 w _
 have h : SP S w0 a2 [Qo g4 9 #[(.string ⟨List.toArray q5⟩)], Qo g6 9 #[(.string ⟨List.toArray q7⟩)], Qo g8 9 #[(.string ⟨List.toArray q9⟩)], Qo b 9 #[(.string ⟨List.toArray j⟩)], Qo m 48 #[(.string ⟨List.toArray c⟩), (.string ⟨List.toArray a⟩), (.int .i64 f)], rdE eU8 (some ⟨s, 0, none⟩) u a] := w
 clear w
 refine iS 4 ?_
 refine sL 9 1 g4 0 0 (.string ⟨List.toArray q5⟩) 9 h rfl ?_
 refine iS 5 ?_
 refine sL 9 2 g6 0 1 (.string ⟨List.toArray q7⟩) 10 h rfl ?_
 refine iS 6 ?_
 refine sL 9 3 g8 0 2 (.string ⟨List.toArray q9⟩) 11 h rfl ?_
 refine iS 7 ?_
 refine Jc (e := Zc) (T := 53) (E := 9) (len := 3) (parts := #[(0, (.tmp 9)), (1, (.tmp 10)), (2, (.tmp 11))]) (cs := #[(.string ⟨List.toArray q5⟩), (.string ⟨List.toArray q7⟩), (.string ⟨List.toArray q9⟩)]) ([q5, q7, q9] : List (List UInt8)) (d := (some 12)) (k := 6) K rfl (fun _ => K) h rfl rfl rfl rfl ?_
 intro a3 a4 o
 obtain ⟨p, a5, H⟩ := Qc H
 refine iS 8 ?_
 refine cF 51 #[(.tmp 8), (.tmp 12)] #[52, 53] 13 Tryz.call51 (D0 (some ⟨s, 0, none⟩) u (some ⟨a3, 0, none⟩) (List.length ([q5, q7, q9] : List (List UInt8))) a ([q5, q7, q9] : List (List UInt8)) a4 (rdE_rd (SP.get o (i := 5) rfl)) (V1 (SP.get o (i := 6) rfl)) p a5) ?_
 rintro e a9 ⟨rfl, z⟩
 refine ⟨_, rfl, ?_⟩
 have a6 := SP.call o z
 clear z
 refine iS 9 ?_
 refine Qj.store (t := 9) (x := (.tmp 4)) (y := (.tmp 13)) (g := b) (off := 0) (i := 3) (v := (.string ⟨List.toArray p⟩)) (cs' := #[(.string ⟨List.toArray p⟩)]) (d := none) (k := 8) K rfl K K a6 rfl K ?_
 intro b0 a7
 refine iF ?_
 refine ⟨(.tuple #[]), K, ?_⟩
 obtain rfl := Qf H
 exact ⟨rfl, SP.sel a7 [0,1,2,3] rfl rfl⟩
def Vk (a : Bool) : Option (Bool) :=
  (some (a))
def V3 (q2 : Int) (q3 : Int) (q4 : Int) (q5 : Int) (q6 : (List Qd)) (d : Us) (e : (List UInt8)) (f : (List UInt8)) (g : (List UInt8)) (h : (List UInt8)) (i : Int) (c : Bool) : Option (Bool) :=
  ((Jf q2 q3 q4 q5 q6 e).bind fun a => ((Y2 a.1 a.2.1 a.2.2.1 a.2.2.2.1 a.2.2.2.2.1 f).bind fun b => (cond b.2.2.2 ((Ye b.1 b.2.1 b.2.2.1 q2 q3 q4 q5 q6 d g h i c).bind fun j => (Vk j)) (Vk c))))
set_option maxRecDepth 100000 in
set_option maxHeartbeats 4000000 in
theorem Jj {S : List Nat} (g1 : Nat) (A7 : Option Addr) (c8 : Nat) (h : Nat) (m : Nat) (p : Nat) (q : Nat) (s : Nat) (u : Nat) (q2 : Int) (q3 : Int) (q4 : Int) (q5 : Int) (j : (List Q8)) (a4 : Us) (a9 : (List UInt8)) (b0 : (List UInt8)) (a5 : (List UInt8)) (a6 : (List UInt8)) (a7 : Int) (b1 : Bool) (w0 : World) (hO : SP S w0 w0 [Qo g1 79 #[(.int .i64 q2), (.int .i64 q3), (.int .i64 q4), (.int .i64 q5), (.slice A7 (List.length (List.map stT j)) c8), (.map (some h))], Vq h a4, Qo m 29 #[(pt g1 0)], Qo p 9 #[(.string ⟨List.toArray a5⟩)], Qo q 9 #[(.string ⟨List.toArray a6⟩)], Qo s 2 #[(.int .i64 a7)], Qo u 4 #[(.bool b1)]]) (c0 : ∀ w, Mod S w0 w → (dDS J9 Bj).ok w (A7, c8, j)) (r : (Bool)) (H : V3 q2 q3 q4 q5 (List.map stT j) a4 a9 b0 a5 a6 a7 b1 = some r) :
  Calls Tryz.prog 45 #[(pt g1 0), (.string ⟨List.toArray a9⟩), (.string ⟨List.toArray b0⟩), (.func (.func 49) #[] #[(pt m 0), (pt p 0), (pt q 0), (pt s 0), (pt u 0)])] w0 (fun e w' => e = .returned (.tuple #[]) ∧ SP S w0 w' [Qo g1 79 #[(.int .i64 q2), (.int .i64 q3), (.int .i64 q4), (.int .i64 q5), (.slice A7 (List.length (List.map stT j)) c8), (.map (some h))], Vq h a4, Qo m 29 #[(pt g1 0)], Qo p 9 #[(.string ⟨List.toArray a5⟩)], Qo q 9 #[(.string ⟨List.toArray a6⟩)], Qo s 2 #[(.int .i64 a7)], Qo u 4 #[(.bool r)]]) := by
 unfold V3 at H
 refine Qt (n := 31) Tryz.func45 K K K ?_
 have b3 := hO
 refine aQ ?_
 refine aR ?_
 refine iR 3 3 [(13, (pt g1 0)), (14, (pt g1 0)), (15, (pt g1 0))] ?_
 refine iS 4 ?_
 refine sL 24 15 g1 0 0 (.agg #[(.int .i64 q2), (.int .i64 q3), (.int .i64 q4), (.int .i64 q5), (.slice A7 (List.length (List.map stT j)) c8)]) 16 b3 rfl ?_
 refine iR 1 5 [(17, (.string ⟨List.toArray a9⟩))] ?_
 obtain ⟨a, c4, H⟩ := Qc H
 refine iS 6 ?_
 refine cF 67 #[(.tmp 16), (.tmp 17)] #[24, 9] 18 Tryz.call67 (Nd (R := fun w => Mod S w0 w) A7 c8 q2 q3 q4 q5 j a9 w0 (fun w hb => Ha b3 hb) c0 a c4) ?_
 rintro e d8 ⟨a0, a1, a2, a3, rfl, c5, c6, c1⟩
 refine ⟨_, rfl, ?_⟩
 have c7 := SP.call b3 c1
 clear c1
 refine iR 3 9 [(12, (.tuple #[(.agg #[(.string ⟨List.toArray a.1⟩), (.int .i64 a.2.1), (.int .i64 a.2.2.1), (.slice a0 (List.length a.2.2.2.1) a1), (.slice a2 (List.length a.2.2.2.2.1) a3)]), (.bool a.2.2.2.2.2)])), (19, (.agg #[(.string ⟨List.toArray a.1⟩), (.int .i64 a.2.1), (.int .i64 a.2.2.1), (.slice a0 (List.length a.2.2.2.1) a1), (.slice a2 (List.length a.2.2.2.2.1) a3)])), (20, (.bool a.2.2.2.2.2))] ?_
 refine iS 10 ?_
 refine Qj.alloc (t := 44) (z := (.agg #[(.string ⟨List.toArray ([] : List UInt8)⟩), (.int .i64 0), (.int .i64 0), (.slice none (List.length ([] : List (Int × Int))) 0), (.slice none (List.length ([] : List ((List UInt8) × (List UInt8) × Int))) 0)])) (d := (some 8)) (k := 9) K rfl K c7 ?_
 intro b4 d9 c9
 refine iS 11 ?_
 refine Qj.store (t := 44) (x := (.tmp 8)) (y := (.tmp 19)) (g := b4) (off := 0) (i := 7) (v := (.agg #[(.string ⟨List.toArray a.1⟩), (.int .i64 a.2.1), (.int .i64 a.2.2.1), (.slice a0 (List.length a.2.2.2.1) a1), (.slice a2 (List.length a.2.2.2.2.1) a3)])) (cs' := #[(.string ⟨List.toArray a.1⟩), (.int .i64 a.2.1), (.int .i64 a.2.2.1), (.slice a0 (List.length a.2.2.2.1) a1), (.slice a2 (List.length a.2.2.2.2.1) a3)]) (d := none) (k := 10) K rfl K K c9 rfl K ?_
 intro b5 b2
 refine iR 1 12 [(9, (.bool a.2.2.2.2.2))] ?_
 refine iF ?_
 refine aQ ?_
 refine aR ?_
 refine iS 1 ?_
 refine sL 44 8 b4 0 7 (.agg #[(.string ⟨List.toArray a.1⟩), (.int .i64 a.2.1), (.int .i64 a.2.2.1), (.slice a0 (List.length a.2.2.2.1) a1), (.slice a2 (List.length a.2.2.2.2.1) a3)]) 22 b2 rfl ?_
 refine iR 1 2 [(23, (.string ⟨List.toArray b0⟩))] ?_
 obtain ⟨c, d0, H⟩ := Qc H
 refine iS 3 ?_
 refine cF 68 #[(.tmp 22), (.tmp 23)] #[44, 9] 24 Tryz.call68 (U6 a0 a1 a2 a3 a.1 a.2.1 a.2.2.1 a.2.2.2.1 a.2.2.2.2.1 b0 b5 (c5 b5 (SP.mod b2)) (c6 b5 (SP.mod b2)) c d0) ?_
 rintro e e0 ⟨rfl, c2⟩
 refine ⟨_, rfl, ?_⟩
 have d1 := SP.call b2 c2
 clear c2
 refine iR 3 6 [(21, (.tuple #[(.agg #[(.string ⟨List.toArray c.1⟩), (.string ⟨List.toArray c.2.1⟩), (.int .i64 c.2.2.1)]), (.bool c.2.2.2)])), (25, (.agg #[(.string ⟨List.toArray c.1⟩), (.string ⟨List.toArray c.2.1⟩), (.int .i64 c.2.2.1)])), (26, (.bool c.2.2.2))] ?_
 refine iS 7 ?_
 refine Qj.alloc (t := 48) (z := (.agg #[(.string ⟨List.toArray ([] : List UInt8)⟩), (.string ⟨List.toArray ([] : List UInt8)⟩), (.int .i64 0)])) (d := (some 10)) (k := 6) K rfl K d1 ?_
 intro b6 e1 d2
 refine iS 8 ?_
 refine Qj.store (t := 48) (x := (.tmp 10)) (y := (.tmp 25)) (g := b6) (off := 0) (i := 8) (v := (.agg #[(.string ⟨List.toArray c.1⟩), (.string ⟨List.toArray c.2.1⟩), (.int .i64 c.2.2.1)])) (cs' := #[(.string ⟨List.toArray c.1⟩), (.string ⟨List.toArray c.2.1⟩), (.int .i64 c.2.2.1)]) (d := none) (k := 7) K rfl K K d2 rfl K ?_
 intro d3 a8
 refine iR 1 9 [(11, (.bool c.2.2.2))] ?_
 refine iF ?_
 refine aQ ?_
 refine aR ?_
 refine iR 1 1 [(27, (.bool c.2.2.2))] ?_
 refine iF ?_
 refine At.join (fun ρ w => ∃ (b7 : Bool), Zg ρ [] ∧ SP S w0 w [Qo g1 79 #[(.int .i64 q2), (.int .i64 q3), (.int .i64 q4), (.int .i64 q5), (.slice A7 (List.length (List.map stT j)) c8), (.map (some h))], Vq h a4, Qo m 29 #[(pt g1 0)], Qo p 9 #[(.string ⟨List.toArray a5⟩)], Qo q 9 #[(.string ⟨List.toArray a6⟩)], Qo s 2 #[(.int .i64 a7)], Qo u 4 #[(.bool b7)]] ∧ Vk b7 = some r) ?_ ?_
 ·refine Zu K (o := (.tmp 27)) K (b := c.2.2.2) K (fun b8 => ?_) (fun b8 => ?_)
  ·have H := ct H b8
   refine aR ?_
   refine iR 1 1 [(28, (.func (.func 49) #[] #[(pt m 0), (pt p 0), (pt q 0), (pt s 0), (pt u 0)]))] ?_
   refine iS 2 ?_
   refine sL 48 10 b6 0 8 (.agg #[(.string ⟨List.toArray c.1⟩), (.string ⟨List.toArray c.2.1⟩), (.int .i64 c.2.2.1)]) 29 a8 rfl ?_
   obtain ⟨b9, d4, H⟩ := Qc H
   refine iS 3 ?_
   refine Z5 (f := 49) (fo := (.tmp 28)) (xs := #[(.tmp 29)]) (tys := #[48]) (first := #[]) (captured := #[(pt m 0), (pt p 0), (pt q 0), (pt s 0), (pt u 0)]) (d := (some 30)) (k := 2) K rfl K K Tryz.call49 (Nh g1 A7 c8 h m p q s u c.1 c.2.1 c.2.2.1 q2 q3 q4 q5 j a4 a5 a6 a7 b1 d3 (Yg a8 [0, 1, 2, 3, 4, 5, 6] rfl rfl) (fun w hm => c0 w (SP.through a8 (l := [0, 1, 2, 3, 4, 5, 6]) rfl hm)) b9 d4) ?_
   rintro e d5 ⟨rfl, c3⟩
   refine ⟨_, rfl, ?_⟩
   have d6 : SP S w0 d5 [Qo b4 44 #[(.string ⟨List.toArray a.1⟩), (.int .i64 a.2.1), (.int .i64 a.2.2.1), (.slice a0 (List.length a.2.2.2.1) a1), (.slice a2 (List.length a.2.2.2.2.1) a3)], Qo b6 48 #[(.string ⟨List.toArray c.1⟩), (.string ⟨List.toArray c.2.1⟩), (.int .i64 c.2.2.1)], Qo g1 79 #[(.int .i64 q2), (.int .i64 q3), (.int .i64 q4), (.int .i64 q5), (.slice A7 (List.length (List.map stT j)) c8), (.map (some h))], Vq h a4, Qo m 29 #[(pt g1 0)], Qo p 9 #[(.string ⟨List.toArray a5⟩)], Qo q 9 #[(.string ⟨List.toArray a6⟩)], Qo s 2 #[(.int .i64 a7)], Qo u 4 #[(.bool b9)]] := V7 a8 [0, 1, 2, 3, 4, 5, 6] [7, 8] rfl rfl c3 rfl
   clear c3
   refine iF ?_
   exact ⟨b9, trivial, SP.sel d6 [2, 3, 4, 5, 6, 7, 8] rfl rfl, H⟩
  ·have H := cf H b8
   refine At.skip K ?_
   exact ⟨b1, trivial, SP.sel a8 [0, 1, 2, 3, 4, 5, 6] rfl rfl, H⟩
 ·rintro ρ e2 ⟨b7, hk, d7, H⟩
  unfold Vk at H
  first | refine At.known [] hk ?_ | rw [← Q9 (l := []) hk]
  refine ⟨(.tuple #[]), K, ?_⟩
  obtain rfl := Qf H
  exact ⟨rfl, SP.sel d7 [0,1,2,3,4,5,6] rfl rfl⟩
def Vl (a : (List UInt8)) : Option ((List UInt8)) :=
  (some (a))
def V4 (q2 : Int) (q3 : Int) (q4 : Int) (q5 : Int) (q6 : (List Qd)) (j : Us) (d : (List UInt8)) (e : (List UInt8)) (f : (List UInt8)) (g : (List UInt8)) (h : (List UInt8)) (c : (List UInt8)) : Option ((List UInt8)) :=
  ((Jf q2 q3 q4 q5 q6 d).bind fun a => ((Y2 a.1 a.2.1 a.2.2.1 a.2.2.2.1 a.2.2.2.2.1 e).bind fun b => (cond b.2.2.2 ((Yf b.1 b.2.1 b.2.2.1 f g h c).bind fun i => (Vl i)) (Vl c))))
set_option maxRecDepth 100000 in
set_option maxHeartbeats 4000000 in
theorem Jk {S : List Nat} (g1 : Nat) (A7 : Option Addr) (c8 : Nat) (h : Nat) (j : Nat) (m : Nat) (p : Nat) (q : Nat) (q2 : Int) (q3 : Int) (q4 : Int) (q5 : Int) (s : (List Q8)) (a6 : Us) (a7 : (List UInt8)) (a8 : (List UInt8)) (a3 : (List UInt8)) (a4 : (List UInt8)) (a5 : (List UInt8)) (a9 : (List UInt8)) (w0 : World) (hO : SP S w0 w0 [Qo g1 79 #[(.int .i64 q2), (.int .i64 q3), (.int .i64 q4), (.int .i64 q5), (.slice A7 (List.length (List.map stT s)) c8), (.map (some h))], Vq h a6, Qo j 9 #[(.string ⟨List.toArray a3⟩)], Qo m 9 #[(.string ⟨List.toArray a4⟩)], Qo p 9 #[(.string ⟨List.toArray a5⟩)], Qo q 9 #[(.string ⟨List.toArray a9⟩)]]) (c2 : ∀ w, Mod S w0 w → (dDS J9 Bj).ok w (A7, c8, s)) (r : ((List UInt8))) (H : V4 q2 q3 q4 q5 (List.map stT s) a6 a7 a8 a3 a4 a5 a9 = some r) :
  Calls Tryz.prog 45 #[(pt g1 0), (.string ⟨List.toArray a7⟩), (.string ⟨List.toArray a8⟩), (.func (.func 50) #[] #[(pt j 0), (pt m 0), (pt p 0), (pt q 0)])] w0 (fun e w' => e = .returned (.tuple #[]) ∧ SP S w0 w' [Qo g1 79 #[(.int .i64 q2), (.int .i64 q3), (.int .i64 q4), (.int .i64 q5), (.slice A7 (List.length (List.map stT s)) c8), (.map (some h))], Vq h a6, Qo j 9 #[(.string ⟨List.toArray a3⟩)], Qo m 9 #[(.string ⟨List.toArray a4⟩)], Qo p 9 #[(.string ⟨List.toArray a5⟩)], Qo q 9 #[(.string ⟨List.toArray r⟩)]]) := by
 unfold V4 at H
 refine Qt (n := 31) Tryz.func45 K K K ?_
 have b2 := hO
 refine aQ ?_
 refine aR ?_
 refine iR 3 3 [(13, (pt g1 0)), (14, (pt g1 0)), (15, (pt g1 0))] ?_
 refine iS 4 ?_
 refine sL 24 15 g1 0 0 (.agg #[(.int .i64 q2), (.int .i64 q3), (.int .i64 q4), (.int .i64 q5), (.slice A7 (List.length (List.map stT s)) c8)]) 16 b2 rfl ?_
 refine iR 1 5 [(17, (.string ⟨List.toArray a7⟩))] ?_
 obtain ⟨a, c3, H⟩ := Qc H
 refine iS 6 ?_
 refine cF 67 #[(.tmp 16), (.tmp 17)] #[24, 9] 18 Tryz.call67 (Nd (R := fun w => Mod S w0 w) A7 c8 q2 q3 q4 q5 s a7 w0 (fun w hb => Ha b2 hb) c2 a c3) ?_
 rintro e d7 ⟨u, a0, a1, a2, rfl, c4, c5, b9⟩
 refine ⟨_, rfl, ?_⟩
 have c6 := SP.call b2 b9
 clear b9
 refine iR 3 9 [(12, (.tuple #[(.agg #[(.string ⟨List.toArray a.1⟩), (.int .i64 a.2.1), (.int .i64 a.2.2.1), (.slice u (List.length a.2.2.2.1) a0), (.slice a1 (List.length a.2.2.2.2.1) a2)]), (.bool a.2.2.2.2.2)])), (19, (.agg #[(.string ⟨List.toArray a.1⟩), (.int .i64 a.2.1), (.int .i64 a.2.2.1), (.slice u (List.length a.2.2.2.1) a0), (.slice a1 (List.length a.2.2.2.2.1) a2)])), (20, (.bool a.2.2.2.2.2))] ?_
 refine iS 10 ?_
 refine Qj.alloc (t := 44) (z := (.agg #[(.string ⟨List.toArray ([] : List UInt8)⟩), (.int .i64 0), (.int .i64 0), (.slice none (List.length ([] : List (Int × Int))) 0), (.slice none (List.length ([] : List ((List UInt8) × (List UInt8) × Int))) 0)])) (d := (some 8)) (k := 9) K rfl K c6 ?_
 intro b3 d8 c7
 refine iS 11 ?_
 refine Qj.store (t := 44) (x := (.tmp 8)) (y := (.tmp 19)) (g := b3) (off := 0) (i := 6) (v := (.agg #[(.string ⟨List.toArray a.1⟩), (.int .i64 a.2.1), (.int .i64 a.2.2.1), (.slice u (List.length a.2.2.2.1) a0), (.slice a1 (List.length a.2.2.2.2.1) a2)])) (cs' := #[(.string ⟨List.toArray a.1⟩), (.int .i64 a.2.1), (.int .i64 a.2.2.1), (.slice u (List.length a.2.2.2.1) a0), (.slice a1 (List.length a.2.2.2.2.1) a2)]) (d := none) (k := 10) K rfl K K c7 rfl K ?_
 intro b4 b0
 refine iR 1 12 [(9, (.bool a.2.2.2.2.2))] ?_
 refine iF ?_
 refine aQ ?_
 refine aR ?_
 refine iS 1 ?_
 refine sL 44 8 b3 0 6 (.agg #[(.string ⟨List.toArray a.1⟩), (.int .i64 a.2.1), (.int .i64 a.2.2.1), (.slice u (List.length a.2.2.2.1) a0), (.slice a1 (List.length a.2.2.2.2.1) a2)]) 22 b0 rfl ?_
 refine iR 1 2 [(23, (.string ⟨List.toArray a8⟩))] ?_
 obtain ⟨c, c9, H⟩ := Qc H
 refine iS 3 ?_
 refine cF 68 #[(.tmp 22), (.tmp 23)] #[44, 9] 24 Tryz.call68 (U6 u a0 a1 a2 a.1 a.2.1 a.2.2.1 a.2.2.2.1 a.2.2.2.2.1 a8 b4 (c4 b4 (SP.mod b0)) (c5 b4 (SP.mod b0)) c c9) ?_
 rintro e d9 ⟨rfl, c0⟩
 refine ⟨_, rfl, ?_⟩
 have d0 := SP.call b0 c0
 clear c0
 refine iR 3 6 [(21, (.tuple #[(.agg #[(.string ⟨List.toArray c.1⟩), (.string ⟨List.toArray c.2.1⟩), (.int .i64 c.2.2.1)]), (.bool c.2.2.2)])), (25, (.agg #[(.string ⟨List.toArray c.1⟩), (.string ⟨List.toArray c.2.1⟩), (.int .i64 c.2.2.1)])), (26, (.bool c.2.2.2))] ?_
 refine iS 7 ?_
 refine Qj.alloc (t := 48) (z := (.agg #[(.string ⟨List.toArray ([] : List UInt8)⟩), (.string ⟨List.toArray ([] : List UInt8)⟩), (.int .i64 0)])) (d := (some 10)) (k := 6) K rfl K d0 ?_
 intro b5 e0 d1
 refine iS 8 ?_
 refine Qj.store (t := 48) (x := (.tmp 10)) (y := (.tmp 25)) (g := b5) (off := 0) (i := 7) (v := (.agg #[(.string ⟨List.toArray c.1⟩), (.string ⟨List.toArray c.2.1⟩), (.int .i64 c.2.2.1)])) (cs' := #[(.string ⟨List.toArray c.1⟩), (.string ⟨List.toArray c.2.1⟩), (.int .i64 c.2.2.1)]) (d := none) (k := 7) K rfl K K d1 rfl K ?_
 intro d2 b1
 refine iR 1 9 [(11, (.bool c.2.2.2))] ?_
 refine iF ?_
 refine aQ ?_
 refine aR ?_
 refine iR 1 1 [(27, (.bool c.2.2.2))] ?_
 refine iF ?_
 refine At.join (fun ρ w => ∃ (b6 : (List UInt8)), Zg ρ [] ∧ SP S w0 w [Qo g1 79 #[(.int .i64 q2), (.int .i64 q3), (.int .i64 q4), (.int .i64 q5), (.slice A7 (List.length (List.map stT s)) c8), (.map (some h))], Vq h a6, Qo j 9 #[(.string ⟨List.toArray a3⟩)], Qo m 9 #[(.string ⟨List.toArray a4⟩)], Qo p 9 #[(.string ⟨List.toArray a5⟩)], Qo q 9 #[(.string ⟨List.toArray b6⟩)]] ∧ Vl b6 = some r) ?_ ?_
 ·refine Zu K (o := (.tmp 27)) K (b := c.2.2.2) K (fun b7 => ?_) (fun b7 => ?_)
  ·have H := ct H b7
   refine aR ?_
   refine iR 1 1 [(28, (.func (.func 50) #[] #[(pt j 0), (pt m 0), (pt p 0), (pt q 0)]))] ?_
   refine iS 2 ?_
   refine sL 48 10 b5 0 7 (.agg #[(.string ⟨List.toArray c.1⟩), (.string ⟨List.toArray c.2.1⟩), (.int .i64 c.2.2.1)]) 29 b1 rfl ?_
   obtain ⟨b8, d3, H⟩ := Qc H
   refine iS 3 ?_
   refine Z5 (f := 50) (fo := (.tmp 28)) (xs := #[(.tmp 29)]) (tys := #[48]) (first := #[]) (captured := #[(pt j 0), (pt m 0), (pt p 0), (pt q 0)]) (d := (some 30)) (k := 2) K rfl K K Tryz.call50 (Ni j m p q c.1 c.2.1 c.2.2.1 a3 a4 a5 a9 d2 (Yg b1 [2, 3, 4, 5] rfl rfl) b8 d3) ?_
   rintro e d4 ⟨rfl, c1⟩
   refine ⟨_, rfl, ?_⟩
   have d5 : SP S w0 d4 [Qo g1 79 #[(.int .i64 q2), (.int .i64 q3), (.int .i64 q4), (.int .i64 q5), (.slice A7 (List.length (List.map stT s)) c8), (.map (some h))], Vq h a6, Qo b3 44 #[(.string ⟨List.toArray a.1⟩), (.int .i64 a.2.1), (.int .i64 a.2.2.1), (.slice u (List.length a.2.2.2.1) a0), (.slice a1 (List.length a.2.2.2.2.1) a2)], Qo b5 48 #[(.string ⟨List.toArray c.1⟩), (.string ⟨List.toArray c.2.1⟩), (.int .i64 c.2.2.1)], Qo j 9 #[(.string ⟨List.toArray a3⟩)], Qo m 9 #[(.string ⟨List.toArray a4⟩)], Qo p 9 #[(.string ⟨List.toArray a5⟩)], Qo q 9 #[(.string ⟨List.toArray b8⟩)]] := V7 b1 [2, 3, 4, 5] [0, 1, 6, 7] rfl rfl c1 rfl
   clear c1
   refine iF ?_
   exact ⟨b8, trivial, SP.sel d5 [0, 1, 4, 5, 6, 7] rfl rfl, H⟩
  ·have H := cf H b7
   refine At.skip K ?_
   exact ⟨a9, trivial, SP.sel b1 [0, 1, 2, 3, 4, 5] rfl rfl, H⟩
 ·rintro ρ e1 ⟨b6, hk, d6, H⟩
  unfold Vl at H
  first | refine At.known [] hk ?_ | rw [← Q9 (l := []) hk]
  refine ⟨(.tuple #[]), K, ?_⟩
  obtain rfl := Qf H
  exact ⟨rfl, SP.sel d6 [0,1,2,3,4,5] rfl rfl⟩
def X6 (q2 : Int) (q3 : Int) (q4 : Int) (q5 : Int) (q6 : (List Qd)) (c : Us) (a : (List UInt8)) (b : (List UInt8)) (d : Int) : Option (Bool) :=
  ((V3 q2 q3 q4 q5 q6 c a b a b d false).bind fun e => (some (e)))
set_option maxRecDepth 100000 in
set_option maxHeartbeats 4000000 in
theorem Gd {S : List Nat} (g1 : Nat) (A7 : Option Addr) (c8 : Nat) (a : Nat) (q2 : Int) (q3 : Int) (q4 : Int) (q5 : Int) (f : (List Q8)) (j : Us) (b : (List UInt8)) (c : (List UInt8)) (m : Int) (w0 : World) (hO : SP S w0 w0 [Qo g1 79 #[(.int .i64 q2), (.int .i64 q3), (.int .i64 q4), (.int .i64 q5), (.slice A7 (List.length (List.map stT f)) c8), (.map (some a))], Vq a j]) (a3 : ∀ w, Mod S w0 w → (dDS J9 Bj).ok w (A7, c8, f)) (r : (Bool)) (H : X6 q2 q3 q4 q5 (List.map stT f) j b c m = some r) :
  Calls Tryz.prog 22 #[(pt g1 0), (.string ⟨List.toArray b⟩), (.string ⟨List.toArray c⟩), (.int .i64 m)] w0 (fun e w' => e = .returned (.bool r) ∧ SP S w0 w' [Qo g1 79 #[(.int .i64 q2), (.int .i64 q3), (.int .i64 q4), (.int .i64 q5), (.slice A7 (List.length (List.map stT f)) c8), (.map (some a))], Vq a j]) := by
 unfold X6 at H
 refine Qt (n := 16) Tryz.func22 K K K ?_
 have a4 := hO
 refine aQ ?_
 refine aR ?_
 refine iS 1 ?_
 refine Vo (t := 29) (x := (.tmp 0)) (v := (pt g1 0)) (d := (some 4)) (k := 0) K rfl K a4 ?_
 intro q b3 a5
 refine iS 2 ?_
 refine Vo (t := 9) (x := (.tmp 1)) (v := (.string ⟨List.toArray b⟩)) (d := (some 5)) (k := 1) K rfl K a5 ?_
 intro s b4 a6
 refine iS 3 ?_
 refine Vo (t := 9) (x := (.tmp 2)) (v := (.string ⟨List.toArray c⟩)) (d := (some 6)) (k := 2) K rfl K a6 ?_
 intro u b5 a7
 refine iS 4 ?_
 refine Vo (t := 2) (x := (.tmp 3)) (v := (.int .i64 m)) (d := (some 7)) (k := 3) K rfl K a7 ?_
 intro a0 b6 a8
 refine iR 1 5 [(8, (.bool false))] ?_
 refine iF ?_
 refine aQ ?_
 refine aR ?_
 refine iS 1 ?_
 refine Qj.alloc (t := 4) (z := (.bool false)) (d := (some 9)) (k := 0) K rfl K a8 ?_
 intro o b7 a9
 refine iS 2 ?_
 refine Qj.store (t := 4) (x := (.tmp 9)) (y := (.const (.bool false))) (g := o) (off := 0) (i := 6) (v := (.bool false)) (cs' := #[(.bool false)]) (d := none) (k := 1) K rfl K K a9 rfl K ?_
 intro b0 h
 refine iF ?_
 refine aQ ?_
 refine aR ?_
 refine iS 1 ?_
 refine sL 29 4 q 0 2 (pt g1 0) 10 h rfl ?_
 refine iS 2 ?_
 refine sL 9 5 s 0 3 (.string ⟨List.toArray b⟩) 11 h rfl ?_
 refine iS 3 ?_
 refine sL 9 6 u 0 4 (.string ⟨List.toArray c⟩) 12 h rfl ?_
 refine iR 1 4 [(13, (.func (.func 49) #[] #[(pt q 0), (pt s 0), (pt u 0), (pt a0 0), (pt o 0)]))] ?_
 obtain ⟨p, b1, H⟩ := Qc H
 refine iS 5 ?_
 refine cF 45 #[(.tmp 10), (.tmp 11), (.tmp 12), (.tmp 13)] #[29, 9, 9, 84] 14 Tryz.call45 (Jj g1 A7 c8 a q s u a0 o q2 q3 q4 q5 f j b c b c m false b0 (Yg h [0, 1, 2, 3, 4, 5, 6] rfl rfl) (fun w hm => a3 w (SP.through h (l := [0, 1, 2, 3, 4, 5, 6]) rfl hm)) p b1) ?_
 rintro e b2 ⟨rfl, a1⟩
 refine ⟨_, rfl, ?_⟩
 have a2 : SP S w0 b2 [Qo g1 79 #[(.int .i64 q2), (.int .i64 q3), (.int .i64 q4), (.int .i64 q5), (.slice A7 (List.length (List.map stT f)) c8), (.map (some a))], Vq a j, Qo q 29 #[(pt g1 0)], Qo s 9 #[(.string ⟨List.toArray b⟩)], Qo u 9 #[(.string ⟨List.toArray c⟩)], Qo a0 2 #[(.int .i64 m)], Qo o 4 #[(.bool p)]] := V7 h [0, 1, 2, 3, 4, 5, 6] [] rfl rfl a1 rfl
 clear a1
 refine iF ?_
 refine aQ ?_
 refine aR ?_
 refine iS 1 ?_
 refine sL 4 9 o 0 6 (.bool p) 15 a2 rfl ?_
 refine iR 1 2 [(8, (.bool p))] ?_
 refine iF ?_
 refine At.ret K ?_
 refine ⟨(.bool p), K, ?_⟩
 obtain rfl := Qf H
 exact ⟨rfl, SP.sel a2 [0,1] rfl rfl⟩
def Xa (q2 : Int) (q3 : Int) (q4 : Int) (q5 : Int) (q6 : (List Qd)) (c : Us) (a : (List UInt8)) (b : (List UInt8)) (d : (List UInt8)) : Option ((List UInt8)) :=
  ((V4 q2 q3 q4 q5 q6 c a b a b d ([] : List UInt8)).bind fun e => (some (e)))
set_option maxRecDepth 100000 in
set_option maxHeartbeats 4000000 in
theorem J8 {S : List Nat} (g1 : Nat) (A7 : Option Addr) (c8 : Nat) (a : Nat) (q2 : Int) (q3 : Int) (q4 : Int) (q5 : Int) (f : (List Q8)) (h : Us) (b : (List UInt8)) (c : (List UInt8)) (j : (List UInt8)) (w0 : World) (hO : SP S w0 w0 [Qo g1 79 #[(.int .i64 q2), (.int .i64 q3), (.int .i64 q4), (.int .i64 q5), (.slice A7 (List.length (List.map stT f)) c8), (.map (some a))], Vq a h]) (a2 : ∀ w, Mod S w0 w → (dDS J9 Bj).ok w (A7, c8, f)) (r : ((List UInt8))) (H : Xa q2 q3 q4 q5 (List.map stT f) h b c j = some r) :
  Calls Tryz.prog 24 #[(pt g1 0), (.string ⟨List.toArray b⟩), (.string ⟨List.toArray c⟩), (.string ⟨List.toArray j⟩)] w0 (fun e w' => e = .returned (.string ⟨List.toArray r⟩) ∧ SP S w0 w' [Qo g1 79 #[(.int .i64 q2), (.int .i64 q3), (.int .i64 q4), (.int .i64 q5), (.slice A7 (List.length (List.map stT f)) c8), (.map (some a))], Vq a h]) := by
 unfold Xa at H
 refine Qt (n := 16) Tryz.func24 K K K ?_
 have a3 := hO
 refine aQ ?_
 refine aR ?_
 refine iS 1 ?_
 refine Vo (t := 9) (x := (.tmp 1)) (v := (.string ⟨List.toArray b⟩)) (d := (some 5)) (k := 0) K rfl K a3 ?_
 intro q b1 a4
 refine iS 2 ?_
 refine Vo (t := 9) (x := (.tmp 2)) (v := (.string ⟨List.toArray c⟩)) (d := (some 6)) (k := 1) K rfl K a4 ?_
 intro s b2 a5
 refine iS 3 ?_
 refine Vo (t := 9) (x := (.tmp 3)) (v := (.string ⟨List.toArray j⟩)) (d := (some 7)) (k := 2) K rfl K a5 ?_
 intro u b3 a6
 refine iR 1 4 [(8, (.string ⟨List.toArray ([] : List UInt8)⟩))] ?_
 refine iF ?_
 refine aQ ?_
 refine aR ?_
 refine iS 1 ?_
 refine Qj.alloc (t := 9) (z := (.string ⟨List.toArray ([] : List UInt8)⟩)) (d := (some 9)) (k := 0) K rfl K a6 ?_
 intro m b4 a7
 refine iS 2 ?_
 refine Qj.store (t := 9) (x := (.tmp 9)) (y := (.const (.string ⟨List.toArray ([] : List UInt8)⟩))) (g := m) (off := 0) (i := 5) (v := (.string ⟨List.toArray ([] : List UInt8)⟩)) (cs' := #[(.string ⟨List.toArray ([] : List UInt8)⟩)]) (d := none) (k := 1) K rfl K K a7 rfl K ?_
 intro a8 o
 refine iF ?_
 refine aQ ?_
 refine aR ?_
 refine iR 1 1 [(10, (pt g1 0))] ?_
 refine iS 2 ?_
 refine sL 9 5 q 0 2 (.string ⟨List.toArray b⟩) 11 o rfl ?_
 refine iS 3 ?_
 refine sL 9 6 s 0 3 (.string ⟨List.toArray c⟩) 12 o rfl ?_
 refine iR 1 4 [(13, (.func (.func 50) #[] #[(pt q 0), (pt s 0), (pt u 0), (pt m 0)]))] ?_
 obtain ⟨p, a9, H⟩ := Qc H
 refine iS 5 ?_
 refine cF 45 #[(.tmp 10), (.tmp 11), (.tmp 12), (.tmp 13)] #[29, 9, 9, 84] 14 Tryz.call45 (Jk g1 A7 c8 a q s u m q2 q3 q4 q5 f h b c b c j ([] : List UInt8) a8 (Yg o [0, 1, 2, 3, 4, 5] rfl rfl) (fun w hm => a2 w (SP.through o (l := [0, 1, 2, 3, 4, 5]) rfl hm)) p a9) ?_
 rintro e b0 ⟨rfl, a0⟩
 refine ⟨_, rfl, ?_⟩
 have a1 : SP S w0 b0 [Qo g1 79 #[(.int .i64 q2), (.int .i64 q3), (.int .i64 q4), (.int .i64 q5), (.slice A7 (List.length (List.map stT f)) c8), (.map (some a))], Vq a h, Qo q 9 #[(.string ⟨List.toArray b⟩)], Qo s 9 #[(.string ⟨List.toArray c⟩)], Qo u 9 #[(.string ⟨List.toArray j⟩)], Qo m 9 #[(.string ⟨List.toArray p⟩)]] := V7 o [0, 1, 2, 3, 4, 5] [] rfl rfl a0 rfl
 clear a0
 refine iF ?_
 refine aQ ?_
 refine aR ?_
 refine iS 1 ?_
 refine sL 9 9 m 0 5 (.string ⟨List.toArray p⟩) 15 a1 rfl ?_
 refine iR 1 2 [(8, (.string ⟨List.toArray p⟩))] ?_
 refine iF ?_
 refine At.ret K ?_
 refine ⟨(.string ⟨List.toArray p⟩), K, ?_⟩
 obtain rfl := Qf H
 exact ⟨rfl, SP.sel a1 [0,1] rfl rfl⟩
def Zx (a : Bool) : Option (Int) :=
  (cond a (some (101)) (some (0)))
def Xx (q2 : Int) (q3 : Int) (q4 : Int) (q5 : Int) (q6 : (List Qd)) (b : Us) (c : (List UInt8)) (d : (List UInt8)) (f : (List UInt8)) (e : (List UInt8)) (g : Int) : Option (Int) :=
  ((X6 q2 q3 q4 q5 q6 b c d g).bind fun h => (cond (!h) (some (3)) ((Xa q2 q3 q4 q5 q6 b c d f).bind fun a => (cond (a == ([] : List UInt8)) (Zx true) ((chk (Nat.ble (List.length a) 281474976710656)).bind fun _ => ((chk (Nat.ble (List.length e) 281474976710656)).bind fun _ => ((Nt a e).bind fun i => (Zx (!i)))))))))
set_option maxRecDepth 100000 in
set_option maxHeartbeats 4000000 in
theorem Nu {S : List Nat} (g1 : Nat) (A7 : Option Addr) (c8 : Nat) (c : Nat) (q2 : Int) (q3 : Int) (q4 : Int) (q5 : Int) (g : (List Q8)) (h : Us) (j : (List UInt8)) (m : (List UInt8)) (s : (List UInt8)) (p : (List UInt8)) (u : Int) (w0 : World) (hO : SP S w0 w0 [Qo g1 79 #[(.int .i64 q2), (.int .i64 q3), (.int .i64 q4), (.int .i64 q5), (.slice A7 (List.length (List.map stT g)) c8), (.map (some c))], Vq c h]) (a8 : ∀ w, Mod S w0 w → (dDS J9 Bj).ok w (A7, c8, g)) (r : (Int)) (H : Xx q2 q3 q4 q5 (List.map stT g) h j m s p u = some r) :
  Calls Tryz.prog 26 #[(pt g1 0), (.string ⟨List.toArray j⟩), (.string ⟨List.toArray m⟩), (.string ⟨List.toArray s⟩), (.string ⟨List.toArray p⟩), (.int .i64 u)] w0 (fun e w' => e = .returned (.int .i64 r) ∧ SP S w0 w' [Qo g1 79 #[(.int .i64 q2), (.int .i64 q3), (.int .i64 q4), (.int .i64 q5), (.slice A7 (List.length (List.map stT g)) c8), (.map (some c))], Vq c h]) := by
 unfold Xx at H
 refine Qt (n := 35) Tryz.func26 K K K ?_
 have a0 := hO
 refine aQ ?_
 refine aR ?_
 refine iR 1 1 [(12, (.int .i64 0))] ?_
 refine iF ?_
 refine aQ ?_
 refine aQ ?_
 refine aR ?_
 refine iR 4 4 [(14, (pt g1 0)), (15, (.string ⟨List.toArray j⟩)), (16, (.string ⟨List.toArray m⟩)), (17, (.int .i64 u))] ?_
 obtain ⟨a1, c0, H⟩ := Qc H
 refine iS 5 ?_
 refine cF 22 #[(.tmp 14), (.tmp 15), (.tmp 16), (.tmp 17)] #[29, 9, 9, 2] 18 Tryz.call22 (Gd g1 A7 c8 c q2 q3 q4 q5 g h j m u w0 (Yg a0 [0, 1] rfl rfl) (fun w hm => a8 w (SP.through a0 (l := [0, 1]) rfl hm)) a1 c0) ?_
 rintro e a9 ⟨rfl, b0⟩
 refine ⟨_, rfl, ?_⟩
 have v : SP S w0 a9 [Qo g1 79 #[(.int .i64 q2), (.int .i64 q3), (.int .i64 q4), (.int .i64 q5), (.slice A7 (List.length (List.map stT g)) c8), (.map (some c))], Vq c h] := V7 a0 [0, 1] [] rfl rfl b0 rfl
 clear b0
 refine iR 1 6 [(19, (.bool (!a1)))] ?_
 refine iF ?_
 refine Zu K (o := (.tmp 19)) K (b := (!a1)) K (fun a2 => ?_) (fun a2 => ?_)
 ·have H := ct H a2
  refine aQ ?_
  refine aR ?_
  refine iR 1 1 [(12, (.int .i64 3))] ?_
  refine iF ?_
  refine At.ret K ?_
  refine ⟨(.int .i64 3), K, ?_⟩
  obtain rfl := Qf H
  exact ⟨rfl, SP.sel v [0,1] rfl rfl⟩
 ·have H := cf H a2
  refine At.skip K ?_
  refine aQ ?_
  refine aQ ?_
  refine aR ?_
  refine iR 4 4 [(20, (pt g1 0)), (21, (.string ⟨List.toArray j⟩)), (22, (.string ⟨List.toArray m⟩)), (23, (.string ⟨List.toArray s⟩))] ?_
  obtain ⟨f, c1, H⟩ := Qc H
  refine iS 5 ?_
  refine cF 24 #[(.tmp 20), (.tmp 21), (.tmp 22), (.tmp 23)] #[29, 9, 9, 9] 24 Tryz.call24 (J8 g1 A7 c8 c q2 q3 q4 q5 g h j m s a9 (Yg v [0, 1] rfl rfl) (fun w hm => a8 w (SP.through v (l := [0, 1]) rfl hm)) f c1) ?_
  rintro e c2 ⟨rfl, b1⟩
  refine ⟨_, rfl, ?_⟩
  have b2 : SP S w0 c2 [Qo g1 79 #[(.int .i64 q2), (.int .i64 q3), (.int .i64 q4), (.int .i64 q5), (.slice A7 (List.length (List.map stT g)) c8), (.map (some c))], Vq c h] := V7 v [0, 1] [] rfl rfl b1 rfl
  clear b1
  refine iR 1 6 [(13, (.string ⟨List.toArray f⟩))] ?_
  refine iF ?_
  refine aQ ?_
  refine At.join (fun ρ w => ∃ (q : Bool), Zg ρ [(34, (.bool q))] ∧ SP S w0 w [Qo g1 79 #[(.int .i64 q2), (.int .i64 q3), (.int .i64 q4), (.int .i64 q5), (.slice A7 (List.length (List.map stT g)) c8), (.map (some c))], Vq c h] ∧ Zx q = some r) ?_ ?_
  ·refine aR ?_
   refine iR 1 1 [(25, (.string ⟨List.toArray f⟩))] ?_
   refine iS 2 ?_
   refine Jb (op := .eql) (T := 9) (T' := 9) (x := (.tmp 25)) (y := (.const (.string ⟨List.toArray ([] : List UInt8)⟩))) (a := f) (b := ([] : List UInt8)) (r := (.bool (f == ([] : List UInt8)))) (d := (some 26)) (k := 1) K rfl K K rfl ?_
   refine iR 1 3 [(27, (.bool (f == ([] : List UInt8))))] ?_
   refine In.guard (t := 27) (b := (f == ([] : List UInt8))) K (fun a3 => ?_) (fun a3 => ?_)
   ·have H := ct H a3
    refine iR 7 10 [(28, undef), (29, undef), (30, undef), (31, undef), (32, undef), (33, undef), (34, (.bool true))] ?_
    refine iF ?_
    exact ⟨true, ⟨K, trivial⟩, SP.sel b2 [0, 1] rfl rfl, H⟩
   ·have H := cf H a3
    refine iR 1 4 [(28, (.string ⟨List.toArray f⟩))] ?_
    obtain ⟨c3, H⟩ := Zm H
    refine iS 5 ?_
    refine Gq (S' := 9) (T := 52) (E := 5) (x := (.tmp 28)) (l := f) (d := (some 29)) (k := 4) K rfl K K K K (Gr c3) b2 ?_
    intro a4 a5 c4 b3 _
    have c5 : SP S w0 c4 [Qo g1 79 #[(.int .i64 q2), (.int .i64 q3), (.int .i64 q4), (.int .i64 q5), (.slice A7 (List.length (List.map stT g)) c8), (.map (some c))], Vq c h, rdE eU8 (some ⟨a4, 0, none⟩) a5 f] := b3
    clear b3
    refine iR 1 6 [(30, (.string ⟨List.toArray p⟩))] ?_
    obtain ⟨c6, H⟩ := Zm H
    refine iS 7 ?_
    refine Gq (S' := 9) (T := 52) (E := 5) (x := (.tmp 30)) (l := p) (d := (some 31)) (k := 6) K rfl K K K K (Gr c6) c5 ?_
    intro b4 b5 b6 b7 _
    have a6 : SP S w0 b6 [Qo g1 79 #[(.int .i64 q2), (.int .i64 q3), (.int .i64 q4), (.int .i64 q5), (.slice A7 (List.length (List.map stT g)) c8), (.map (some c))], Vq c h, rdE eU8 (some ⟨a4, 0, none⟩) a5 f, rdE eU8 (some ⟨b4, 0, none⟩) b5 p] := b7
    clear b7
    obtain ⟨z, c7, H⟩ := Qc H
    refine iS 8 ?_
    refine cF 52 #[(.tmp 29), (.tmp 31)] #[52, 52] 32 Tryz.call52 (Bu (some ⟨a4, 0, none⟩) a5 (some ⟨b4, 0, none⟩) b5 f p b6 (rdE_rd (SP.get a6 (i := 2) rfl)) (rdE_rd (SP.get a6 (i := 3) rfl)) z c7) ?_
    rintro e d0 ⟨rfl, b8⟩
    refine ⟨_, rfl, ?_⟩
    have c9 := SP.call a6 b8
    clear b8
    refine iR 2 10 [(33, (.bool (!z))), (34, (.bool (!z)))] ?_
    refine iF ?_
    exact ⟨(!z), ⟨K, trivial⟩, SP.sel c9 [0, 1] rfl rfl, H⟩
  ·rintro ρ d1 ⟨q, hk, b9, H⟩
   unfold Zx at H
   first | refine At.known [(34, (.bool q))] hk ?_ | rw [← Q9 (l := [(34, (.bool q))]) hk]
   refine Zu K (o := (.tmp 34)) K (b := q) K (fun a7 => ?_) (fun a7 => ?_)
   ·have H := ct H a7
    refine aQ ?_
    refine aR ?_
    refine iR 1 1 [(12, (.int .i64 101))] ?_
    refine iF ?_
    refine At.ret K ?_
    refine ⟨(.int .i64 101), K, ?_⟩
    obtain rfl := Qf H
    exact ⟨rfl, SP.sel b9 [0,1] rfl rfl⟩
   ·have H := cf H a7
    refine At.skip K ?_
    refine aQ ?_
    refine aR ?_
    refine iR 1 1 [(12, (.int .i64 0))] ?_
    refine iF ?_
    refine At.ret K ?_
    refine ⟨(.int .i64 0), K, ?_⟩
    obtain rfl := Qf H
    exact ⟨rfl, SP.sel b9 [0,1] rfl rfl⟩
end Go.Proofs.YtmgfanhcdfobhaaGreatDoor
namespace Go.Proofs.YtmgfanhcdfobhaaGreatDoor
theorem fx_step {α : Type} {P : α → Bool} {l : List α} {i : Nat} (hi : i < l.length) (hn : (l.take i).any P = false) (hx : P l[i] = true) : l.findIdx? P = some i := by
  rw [List.findIdx?_eq_some_iff_getElem]
  refine ⟨hi, hx, fun j hj => ?_⟩
  rw [List.any_eq_false] at hn
  have := hn l[j] (by rw [List.mem_take_iff_getElem]; exact ⟨j, by omega, rfl⟩)
  simpa using this
theorem fx_none {α : Type} {P : α → Bool} {l : List α} (hn : l.any P = false) : l.findIdx? P = none := by
  rw [List.findIdx?_eq_none_iff]
  intro x hx
  rw [List.any_eq_false] at hn
  simpa using hn x hx
theorem fx_more {α : Type} {P : α → Bool} {l : List α} {i : Nat} (hi : i < l.length) (hn : (l.take i).any P = false) (hx : P l[i] = false) : (l.take (i + 1)).any P = false := by
  rw [List.take_add_one, List.getElem?_eq_getElem hi, List.any_append, hn]
  simp [hx]
def ixI (o : Option Nat) : Int := match o with | some i => (i : Int) | none => -1
theorem H4 (l : List Qd) (P : Qd → Bool) (p : Str → Int → Int → List Hr → List D5 → Option Bool) (hp : ∀ x : Qd, p x.1 x.2.1 x.2.2.1 x.2.2.2.1 x.2.2.2.2 = some (P x)) (hl : l.length ≤ 140737488355328) :
    ∀ (d i f : Nat), d = l.length - i → i ≤ l.length → d < f → (l.take i).any P = false → Qg l p f (i : Int) = some (ixI (l.findIdx? P)) := by
  intro d
  induction d with
  | zero =>
    intro i f hd hi hf hn
    obtain ⟨f, rfl⟩ : ∃ g, f = g + 1 := ⟨f - 1, by omega⟩
    show Qk (Qg l p f) l p (i : Int) = _
    unfold Qk
    rw [List.take_of_length_le (by omega)] at hn
    rw [show decide ((i : Int) < ((l.length : Nat) : Int)) = false from decide_eq_false (by omega), cond_false, fx_none hn]
    rfl
  | succ d ih =>
    intro i f hd hi hf hn
    obtain ⟨f, rfl⟩ : ∃ g, f = g + 1 := ⟨f - 1, by omega⟩
    have hlt : i < l.length := by omega
    show Qk (Qg l p f) l p (i : Int) = _
    unfold Qk
    rw [show decide ((i : Int) < ((l.length : Nat) : Int)) = true from decide_eq_true (by omega), cond_true, Ji hlt, Option.bind_some, hp, Option.bind_some]
    cases hx : P l[i] with
    | true => rw [cond_true, fx_step hlt hn hx]; rfl
    | false =>
      rw [cond_false, show ((i : Int) + 1) = ((i + 1 : Nat) : Int) by omega, Xu (by omega)]
      exact ih (i + 1) f (by omega) (by omega) (by omega) (fx_more hlt hn hx)
theorem H5 (l : List D5) (P : D5 → Bool) (p : Str → Str → Int → Option Bool) (hp : ∀ x : D5, p x.1 x.2.1 x.2.2 = some (P x)) (hl : l.length ≤ 140737488355328) :
    ∀ (d i f : Nat), d = l.length - i → i ≤ l.length → d < f → (l.take i).any P = false → Qi l p f (i : Int) = some (ixI (l.findIdx? P)) := by
  intro d
  induction d with
  | zero =>
    intro i f hd hi hf hn
    obtain ⟨f, rfl⟩ : ∃ g, f = g + 1 := ⟨f - 1, by omega⟩
    show Qm (Qi l p f) l p (i : Int) = _
    unfold Qm
    rw [List.take_of_length_le (by omega)] at hn
    rw [show decide ((i : Int) < ((l.length : Nat) : Int)) = false from decide_eq_false (by omega), cond_false, fx_none hn]
    rfl
  | succ d ih =>
    intro i f hd hi hf hn
    obtain ⟨f, rfl⟩ : ∃ g, f = g + 1 := ⟨f - 1, by omega⟩
    have hlt : i < l.length := by omega
    show Qm (Qi l p f) l p (i : Int) = _
    unfold Qm
    rw [show decide ((i : Int) < ((l.length : Nat) : Int)) = true from decide_eq_true (by omega), cond_true, Ji hlt, Option.bind_some, hp, Option.bind_some]
    cases hx : P l[i] with
    | true => rw [cond_true, fx_step hlt hn hx]; rfl
    | false =>
      rw [cond_false, show ((i : Int) + 1) = ((i + 1 : Nat) : Int) by omega, Xu (by omega)]
      exact ih (i + 1) f (by omega) (by omega) (by omega) (fx_more hlt hn hx)
theorem pl_lt' {l : List Qd} {nm : Str} {k : Nat} (h : pl l nm = some k) : k < l.length := (List.findIdx?_eq_some_iff_getElem.1 h).1
theorem lFind (w g i e : Int) (l : List Qd) (nm : Str) (hl : l.length ≤ 140737488355328) : Jf w g i e l nm = some (Es l nm) := by
  have h := H4 l (fun x => x.1 == nm) (fun y0 y1 y2 y3 y4 => Ja y0 y1 y2 y3 y4 nm) (fun x => rfl) hl l.length 0 Zw (by omega) (by omega) (by unfold Zw; omega) rfl
  unfold Jf Qz
  rw [show ((0 : Nat) : Int) = 0 from rfl] at h
  rw [h, Option.bind_some]
  unfold Es
  show _ = some (match pl l nm with | some k => _ | none => _)
  rw [show l.findIdx? (fun x => x.1 == nm) = pl l nm from rfl]
  cases hp : pl l nm with
  | none => rfl
  | some k =>
    have hk := pl_lt' hp
    have hg : l.getD k Er = l[k] := by simp [List.getD, hk]
    rw [show decide (ixI (some k) < 0) = false from decide_eq_false (by show ¬ ((k : Nat) : Int) < 0; omega), cond_false]
    show (idx l ((k : Nat) : Int)).bind _ = _
    rw [Ji hk, Option.bind_some]
    simp only [hg]
def tix (l : List D5) (nm : Str) : Option Nat := l.findIdx? (fun x => x.1 == nm)
def dTok0 : D5 := ([], [], 0)
def tokL (l : List D5) (nm : Str) : Str × Str × Int × Bool := match tix l nm with
  | some k => ((l.getD k dTok0).1, (l.getD k dTok0).2.1, (l.getD k dTok0).2.2, true)
  | none => ([], [], 0, false)
theorem tix_lt {l : List D5} {nm : Str} {k : Nat} (h : tix l nm = some k) : k < l.length := (List.findIdx?_eq_some_iff_getElem.1 h).1
theorem lTok (n : Str) (a b : Int) (ns : List Hr) (l : List D5) (nm : Str) (hl : l.length ≤ 140737488355328) : Y2 n a b ns l nm = some (tokL l nm) := by
  have h := H5 l (fun x => x.1 == nm) (fun y0 y1 y2 => Y0 y0 y1 y2 nm) (fun x => rfl) hl l.length 0 Zw (by omega) (by omega) (by unfold Zw; omega) rfl
  unfold Y2 Q2
  rw [show ((0 : Nat) : Int) = 0 from rfl] at h
  rw [h, Option.bind_some]
  unfold tokL
  rw [show l.findIdx? (fun x => x.1 == nm) = tix l nm from rfl]
  cases hp : tix l nm with
  | none => rfl
  | some k =>
    have hk := tix_lt hp
    have hg : l.getD k dTok0 = l[k] := by simp [List.getD, hk]
    rw [show decide (ixI (some k) < 0) = false from decide_eq_false (by show ¬ ((k : Nat) : Int) < 0; omega), cond_false]
    show (idx l ((k : Nat) : Int)).bind _ = _
    rw [Ji hk, Option.bind_some]
    simp only [hg]
theorem Hi (a : Nat) (h : a < 256) : (BitVec.ofInt (IntKind.bits .u8) (a : Int)).toNat = a := by
  show (BitVec.ofInt 8 (a : Int)).toNat = a
  rw [BitVec.ofInt_natCast, BitVec.toNat_ofNat]
  exact Nat.mod_eq_of_lt (by omega)
theorem bOr8 (a b : Nat) (ha : a < 256) (hb : b < 256) : bOr .u8 (a : Int) (b : Int) = ((a ||| b : Nat) : Int) := by
  unfold bOr
  rw [BitVec.toNat_or, Hi a ha, Hi b hb, wrap8]
  have : a ||| b < 2 ^ 8 := Nat.or_lt_two_pow (by omega) (by omega)
  omega
theorem bXor8 (a b : Nat) (ha : a < 256) (hb : b < 256) : Xn .u8 (a : Int) (b : Int) = ((a ^^^ b : Nat) : Int) := by
  unfold Xn
  rw [BitVec.toNat_xor, Hi a ha, Hi b hb, wrap8]
  have : a ^^^ b < 2 ^ 8 := Nat.xor_lt_two_pow (by omega) (by omega)
  omega
theorem or_zero {a b : Nat} : a ||| b = 0 ↔ a = 0 ∧ b = 0 := by
  constructor
  · intro h
    exact ⟨Nat.le_zero.1 (h ▸ Nat.left_le_or), Nat.le_zero.1 (h ▸ Nat.right_le_or)⟩
  · rintro ⟨rfl, rfl⟩; rfl
theorem xor_zero {a b : Nat} : a ^^^ b = 0 ↔ a = b := by
  constructor
  · intro h
    have : a ^^^ b ^^^ b = 0 ^^^ b := by rw [h]
    rwa [Nat.xor_assoc, Nat.xor_self, Nat.xor_zero, Nat.zero_xor] at this
  · rintro rfl; exact Nat.xor_self a
theorem F2 (v x y : UInt8) : (De (bOr .u8 ((v.toNat : Nat) : Int) (Xn .u8 ((x.toNat : Nat) : Int) ((y.toNat : Nat) : Int))) = 0) ↔ (v = 0 ∧ x = y) := by
  have hv := v.toNat_lt
  have hx := x.toNat_lt
  have hy := y.toNat_lt
  have hxy : x.toNat ^^^ y.toNat < 2 ^ 8 := Nat.xor_lt_two_pow (by omega) (by omega)
  rw [bXor8 _ _ (by omega) (by omega), bOr8 _ _ (by omega) (by omega), F7]
  have hor : v.toNat ||| (x.toNat ^^^ y.toNat) < 2 ^ 8 := Nat.or_lt_two_pow (by omega) (by omega)
  constructor
  · intro h
    have h2 := congrArg UInt8.toNat h
    rw [UInt8.toNat_ofNat', Nat.mod_eq_of_lt (by omega)] at h2
    obtain ⟨a, b⟩ := or_zero.1 h2
    exact ⟨UInt8.toNat_inj.1 a, UInt8.toNat_inj.1 (xor_zero.1 b)⟩
  · rintro ⟨rfl, rfl⟩
    rw [Nat.xor_self]
    rfl
theorem same_loop (p q : Str) (hlen : p.length = q.length) (hl : p.length ≤ 140737488355328) : ∀ (d i f : Nat) (v : UInt8), d = p.length - i → i ≤ p.length → d < f → (v = 0 ↔ p.take i = q.take i) → Ys p q f v (i : Int) = some (p == q) := by
  intro d
  induction d with
  | zero =>
    intro i f v hd hi hf hv
    obtain ⟨f, rfl⟩ : ∃ g, f = g + 1 := ⟨f - 1, by omega⟩
    show Yr (Ys p q f) p q v (i : Int) = _
    unfold Yr
    rw [List.take_of_length_le (by omega), List.take_of_length_le (by omega)] at hv
    rw [show decide ((i : Int) < ((p.length : Nat) : Int)) = false from decide_eq_false (by omega), cond_false]
    congr 1
    rw [Bool.eq_iff_iff, beq_iff_eq, beq_iff_eq, ← hv]
    constructor
    · intro h
      exact UInt8.toNat_inj.1 (by show v.toNat = 0; omega)
    · rintro rfl; rfl
  | succ d ih =>
    intro i f v hd hi hf hv
    obtain ⟨f, rfl⟩ : ∃ g, f = g + 1 := ⟨f - 1, by omega⟩
    have hlt : i < p.length := by omega
    have hlt2 : i < q.length := by omega
    show Yr (Ys p q f) p q v (i : Int) = _
    unfold Yr
    rw [show decide ((i : Int) < ((p.length : Nat) : Int)) = true from decide_eq_true (by omega), cond_true, Ji hlt, Option.bind_some, Ji hlt2, Option.bind_some, show ((i : Int) + 1) = ((i + 1 : Nat) : Int) by omega, Xu (by omega)]
    refine ih (i + 1) f _ (by omega) (by omega) (by omega) ?_
    rw [F2, hv, List.take_add_one, List.take_add_one, List.getElem?_eq_getElem hlt, List.getElem?_eq_getElem hlt2]
    constructor
    · rintro ⟨h1, h2⟩; rw [h1, h2]
    · intro h
      have := List.append_inj h (by simp; omega)
      exact ⟨this.1, by simpa using this.2⟩
theorem lSame (p q : Str) (hl : p.length ≤ 140737488355328) : Nt p q = some (p == q) := by
  unfold Nt
  by_cases h : p.length = q.length
  · rw [h, bne_self_eq_false, cond_false]
    exact same_loop p q h hl p.length 0 Zw 0 (by omega) (by omega) (by unfold Zw; omega) (by simp)
  · rw [show ((((List.length p : Nat) : Int)) != ((List.length q : Nat) : Int)) = true by rw [bne_iff_ne]; omega, cond_true]
    congr 1
    symm
    rw [beq_eq_false_iff_ne]
    rintro rfl
    exact h rfl
structure VC (l : List Qd) : Prop where
  len : l.length ≤ 9000
  q : ∀ t ∈ l, TenQ t
  s : ∀ t ∈ l, TenS t
  o : ∀ t ∈ l, Eo t = true
def F3 (l : List Qd) (t k : Str) : Str × Str × Int × Bool := tokL (Es l t).2.2.2.2.1 k
def vGood (l : List Qd) (M : Us) (t k : Str) (now : Int) : Bool := (F3 l t k).2.2.2 && ((E1 M (t, k) == 0) && decide (now < (F3 l t k).2.2.1))
def C1 (l : List Qd) (t k n : Str) : Str := cond (F3 l t k).2.2.2 (Dv (F3 l t k).2.1 [t, k, n]) []
def Bv (l : List Qd) (M : Us) (t k n p : Str) (now : Int) : Int := cond (vGood l M t k now) (cond (C1 l t k n == []) 101 (cond (p == C1 l t k n) 0 101)) 3
section
variable {l : List Qd} (hv : VC l)
include hv
theorem Cj (t : Str) : (Es l t).2.2.2.2.1.length ≤ 9000 := by
  unfold Es
  cases hp : pl l t with
  | none => simp
  | some k =>
    have hk := pl_lt' hp
    have hg : l.getD k Er = l[k] := by simp [List.getD, hk]
    simp only [hg]
    exact (hv.s _ (List.getElem_mem hk)).2.2.1
theorem vtok_ok {t k : Str} (h : (F3 l t k).2.2.2 = true) : (F3 l t k).2.1.length ≤ 32 ∧ 0 ≤ (F3 l t k).2.2.1 ∧ (F3 l t k).2.2.1 ≤ 1099511627776 ∧ t.length ≤ 20 ∧ k.length ≤ 20 := by
  unfold F3 at h ⊢
  unfold Es at h ⊢
  cases hp : pl l t with
  | none =>
    rw [hp] at h
    simp [tokL, tix] at h
  | some i =>
    have hi := pl_lt' hp
    have hg : l.getD i Er = l[i] := by simp [List.getD, hi]
    rw [hp] at h
    simp only [hg] at h ⊢
    have ho := hv.o _ (List.getElem_mem hi)
    have hname : l[i].1 = t := by
      have := (List.findIdx?_eq_some_iff_getElem.1 hp).2.1
      simpa using this
    unfold Eo at ho
    simp only [Bool.and_eq_true, List.all_eq_true] at ho
    have hn := ho.2.1.1
    unfold Bi at hn
    simp only [Bool.and_eq_true, decide_eq_true_eq] at hn
    unfold tokL at h ⊢
    cases hp2 : tix l[i].2.2.2.2 k with
    | none => rw [hp2] at h; cases h
    | some j =>
      have hj := tix_lt hp2
      have hg2 : l[i].2.2.2.2.getD j dTok0 = l[i].2.2.2.2[j] := by simp [List.getD, hj]
      simp only [hg2]
      have hk := ho.1.2 _ (List.getElem_mem hj)
      have hname2 : l[i].2.2.2.2[j].1 = k := by
        have := (List.findIdx?_eq_some_iff_getElem.1 hp2).2.1
        simpa using this
      unfold Hs Bi at hk
      simp only [Bool.and_eq_true, decide_eq_true_eq] at hk
      rw [hname2] at hk
      rw [hname] at hn
      exact ⟨hk.2.1.2, hk.2.2.1, hk.2.2.2, hn.1.1.1.2, hk.1.1.1.1.2⟩
variable (w g i e : Int) (M : Us) (t k : Str)
theorem pVGood (now : Int) : X6 w g i e l M t k now = some (vGood l M t k now) := by
  unfold X6 V3 Vk
  rw [lFind _ _ _ _ _ _ (by have := hv.len; omega), Option.bind_some, lTok _ _ _ _ _ _ (by have := Cj hv t; omega), Option.bind_some]
  rw [show tokL (Es l t).2.2.2.2.1 k = F3 l t k from rfl]
  unfold vGood
  cases h : (F3 l t k).2.2.2 with
  | false => rfl
  | true =>
    obtain ⟨_, _, _, h1, h2⟩ := vtok_ok hv h
    rw [cond_true]
    unfold Ye Zq
    rw [show (Nat.ble t.length 140737488355328 && Nat.ble k.length 140737488355328) = true by simp; omega]
    simp only [chk, Option.bind_some]
    cases (E1 M (t, k) == 0) <;> rfl
theorem pVWant (n : Str) : Xa w g i e l M t k n = some (C1 l t k n) := by
  unfold Xa V4 Vl
  rw [lFind _ _ _ _ _ _ (by have := hv.len; omega), Option.bind_some, lTok _ _ _ _ _ _ (by have := Cj hv t; omega), Option.bind_some]
  rw [show tokL (Es l t).2.2.2.2.1 k = F3 l t k from rfl]
  unfold C1
  cases h : (F3 l t k).2.2.2 with
  | false => rfl
  | true =>
    obtain ⟨h1, _⟩ := vtok_ok hv h
    rw [cond_true, cond_true]
    unfold Yf
    rw [show Nat.ble (F3 l t k).2.1.length 281474976710656 = true by simp; omega]
    simp only [chk, Option.bind_some]
    rw [H2 _ (by omega) _ (by simp)]
    rfl
omit hv in
theorem vWant_len (n : Str) : (C1 l t k n).length ≤ 64 := by
  unfold C1
  cases (F3 l t k).2.2.2 with
  | false => simp
  | true =>
    rw [cond_true]
    by_cases h : ∀ x ∈ [t, k, n], x.length ≤ 255
    · rw [C0 h]; omega
    · unfold Dv
      rw [if_neg (by simpa [List.all_eq_true] using h)]
      simp
omit hv in
theorem beq_sym (a b : Str) : (a == b) = (b == a) := by rw [Bool.eq_iff_iff, beq_iff_eq, beq_iff_eq]; exact eq_comm
theorem pVCheck (n p : Str) (hp : p.length ≤ 140737488355328) (now : Int) : Xx w g i e l M t k n p now = some (Bv l M t k n p now) := by
  unfold Xx Zx Bv
  rw [pVGood hv, Option.bind_some, pVWant hv, Option.bind_some]
  have hw := vWant_len (l := l) t k n
  cases vGood l M t k now with
  | false => rfl
  | true =>
    rw [show (!true) = false from rfl, cond_false, cond_true]
    cases h : (C1 l t k n == []) with
    | true => rfl
    | false =>
      rw [cond_false, cond_false, show Nat.ble (C1 l t k n).length 281474976710656 = true by simp; omega, show Nat.ble p.length 281474976710656 = true by simp; omega]
      simp only [chk, Option.bind_some]
      rw [lSame _ _ (by omega), Option.bind_some, beq_sym p]
      cases (C1 l t k n == p) <;> rfl
end
theorem pVNew (w g i e : Int) (l : List Qd) (hl : l.length ≤ 140737488355328) (hq : ∀ t ∈ l, TenQ t) : Jy w g i e l = some (cond (Ep w g i e l) (some (w, g, i, e, [])) none) := by
  unfold Jy
  rw [lCfg w g i e l hl hq, Option.bind_some]
  cases Ep w g i e l <;> rfl
theorem vc_of {w g i e : Int} {l : List Qd} (hk : Ep w g i e l = true) (hl : l.length ≤ 9000) (hq : ∀ t ∈ l, TenQ t) (hs : ∀ t ∈ l, TenS t) : VC l := by
  refine ⟨hl, hq, hs, ?_⟩
  unfold Ep at hk
  simp only [Bool.and_eq_true, List.all_eq_true] at hk
  exact hk.2.2.1
end Go.Proofs.YtmgfanhcdfobhaaGreatDoor
namespace Go.Proofs.YtmgfanhcdfobhaaGreatDoor
abbrev headV : List Qd := [(([97, 110, 110] : List UInt8), 0, 0, ([] : List (Int × Int)), ([(([107] : List UInt8), ([115] : List UInt8), 5)] : List ((List UInt8) × (List UInt8) × Int)))]
theorem headV_q : ∀ t ∈ headV, TenQ t := by
  intro t ht
  have : t = (([97, 110, 110] : List UInt8), 0, 0, ([] : List (Int × Int)), ([(([107] : List UInt8), ([115] : List UInt8), 5)] : List ((List UInt8) × (List UInt8) × Int))) := by simpa [headV] using ht
  subst this
  refine ⟨by decide, by decide, by decide, (fun n hn => by cases hn), fun x hx => ?_⟩
  have : x = (([107] : List UInt8), ([115] : List UInt8), 5) := by simpa using hx
  subst this
  decide
theorem headVNew : Jy 9 9 9 9 headV = some (some (9, 9, 9, 9, [])) := by
  rw [pVNew 9 9 9 9 headV (by decide) headV_q, show Ep 9 9 9 9 headV = true by kernel_rfl]
  rfl
theorem optE_s {α β : Type} (x : α) (a : Option β) (f : α → Option β) : optE (some x) a f = f x := rfl
end Go.Proofs.YtmgfanhcdfobhaaGreatDoor
namespace Go.Proofs.YtmgfanhcdfobhaaGreatDoor
def V2 (c : Int) (g : Nat) : Value := cond (c == 1) (.func (.func 57) #[pt g 0] #[]) (cond (c == 2) (.func (.func 75) #[pt g 0] #[]) .nilFunc)
def D1 (c : Int) : Bool := cond (c == 1) false (cond (c == 2) false true)
theorem stepV_1 {c : Int} {g : Nat} (h : (c == 1) = true) : V2 c g = .func (.func 57) #[pt g 0] #[] := by unfold V2; rw [h]; rfl
theorem stepV_2 {c : Int} {g : Nat} (h1 : (c == 1) = false) (h : (c == 2) = true) : V2 c g = .func (.func 75) #[pt g 0] #[] := by unfold V2; rw [h1, h]; rfl
end Go.Proofs.YtmgfanhcdfobhaaGreatDoor
namespace Go.Proofs.YtmgfanhcdfobhaaGreatDoor
open Go.RowKit
def Zt (q3 : Int) (q4 : Int) (q5 : Int) (q6 : Int) (q7 : (List Qd)) (f : Us) (g : Int) (a : (List UInt8)) (b : (List UInt8)) (c : (List UInt8)) (d : Bool) (e : Int) : Option (Int × (List UInt8) × (List UInt8) × Int × Int × Int × (List UInt8) × (List UInt8) × (List UInt8) × Bool) :=
  (some (5, ([] : List UInt8), ([] : List UInt8), e, 0, 0, a, b, c, d))
set_option maxRecDepth 100000 in
set_option maxHeartbeats 4000000 in
theorem Yb {S : List Nat} (g1 : Nat) (g2 : Nat) (A8 : Option Addr) (c9 : Nat) (c : Nat) (q3 : Int) (q4 : Int) (q5 : Int) (q6 : Int) (f : (List Q8)) (h : Us) (p : Int) (j : (List UInt8)) (l : (List UInt8)) (m : (List UInt8)) (o : Bool) (b : Int) (w0 : World) (hO : SP S w0 w0 [Qo g2 79 #[(.int .i64 q3), (.int .i64 q4), (.int .i64 q5), (.int .i64 q6), (.slice A8 (List.length (List.map stT f)) c9), (.map (some c))], Vq c h, Qo g1 95 #[(pt g2 0), (V2 p g1), (.string ⟨List.toArray j⟩), (.string ⟨List.toArray l⟩), (.string ⟨List.toArray m⟩), (.bool o)]]) (a2 : ∀ w, Mod S w0 w → (dDS J9 Bj).ok w (A8, c9, f)) (r : (Int × (List UInt8) × (List UInt8) × Int × Int × Int × (List UInt8) × (List UInt8) × (List UInt8) × Bool)) (H : Zt q3 q4 q5 q6 (List.map stT f) h p j l m o b = some r) :
  Calls Tryz.prog 74 #[(pt g1 0), (.int .i64 b)] w0 (fun e w' => e = .returned (.agg #[(.int .i64 r.1), (.string ⟨List.toArray r.2.1⟩), (.string ⟨List.toArray r.2.2.1⟩), (.int .i64 r.2.2.2.1), (.int .i64 r.2.2.2.2.1)]) ∧ SP S w0 w' [Qo g2 79 #[(.int .i64 q3), (.int .i64 q4), (.int .i64 q5), (.int .i64 q6), (.slice A8 (List.length (List.map stT f)) c9), (.map (some c))], Vq c h, Qo g1 95 #[(pt g2 0), (V2 r.2.2.2.2.2.1 g1), (.string ⟨List.toArray r.2.2.2.2.2.2.1⟩), (.string ⟨List.toArray r.2.2.2.2.2.2.2.1⟩), (.string ⟨List.toArray r.2.2.2.2.2.2.2.2.1⟩), (.bool r.2.2.2.2.2.2.2.2.2)]]) := by
 unfold Zt at H
 refine Qt (n := 10) Tryz.func74 K K K ?_
 have u := hO
 refine aQ ?_
 refine aR ?_
 refine iS 1 ?_
 refine Qj.alloc (t := 63) (z := (.agg #[(.int .i64 0), (.string ⟨List.toArray ([] : List UInt8)⟩), (.string ⟨List.toArray ([] : List UInt8)⟩), (.int .i64 0), (.int .i64 0)])) (d := (some 4)) (k := 0) K rfl K u ?_
 intro q a3 a0
 refine iF ?_
 refine aQ ?_
 refine aR ?_
 refine iR 3 3 [(5, (pt g1 0)), (6, (pt g1 0)), (7, (pt g1 1))] ?_
 refine iS 4 ?_
 refine Qj.store (t := 93) (x := (.tmp 7)) (y := (.const .nilFunc)) (g := g1) (off := 1) (i := 2) (v := .nilFunc) (cs' := #[(pt g2 0), .nilFunc, (.string ⟨List.toArray j⟩), (.string ⟨List.toArray l⟩), (.string ⟨List.toArray m⟩), (.bool o)]) (d := none) (k := 3) K rfl K K a0 rfl K ?_
 intro a4 a1
 refine iF ?_
 refine aQ ?_
 refine aR ?_
 refine iR 2 2 [(8, (.int .i64 b)), (9, (.agg #[(.int .i64 5), (.string ⟨List.toArray ([] : List UInt8)⟩), (.string ⟨List.toArray ([] : List UInt8)⟩), (.int .i64 b), (.int .i64 0)]))] ?_
 refine iS 3 ?_
 refine Qj.store (t := 63) (x := (.tmp 4)) (y := (.tmp 9)) (g := q) (off := 0) (i := 3) (v := (.agg #[(.int .i64 5), (.string ⟨List.toArray ([] : List UInt8)⟩), (.string ⟨List.toArray ([] : List UInt8)⟩), (.int .i64 b), (.int .i64 0)])) (cs' := #[(.int .i64 5), (.string ⟨List.toArray ([] : List UInt8)⟩), (.string ⟨List.toArray ([] : List UInt8)⟩), (.int .i64 b), (.int .i64 0)]) (d := none) (k := 2) K rfl K K a1 rfl K ?_
 intro a5 s
 refine iF ?_
 refine At.ret K ?_
 refine ⟨(.agg #[(.int .i64 5), (.string ⟨List.toArray ([] : List UInt8)⟩), (.string ⟨List.toArray ([] : List UInt8)⟩), (.int .i64 b), (.int .i64 0)]), Rf K (J3 (a := 4) (t := 63) (g := q) (off := 0) K (SP.get s (i := 3) rfl) K), ?_⟩
 obtain rfl := Qf H
 exact ⟨rfl, SP.sel s [0,1,2] rfl rfl⟩
def Yt (q3 : Int) (q4 : Int) (q5 : Int) (q6 : Int) (q7 : (List Qd)) (e : Us) (f : Int) (g : (List UInt8)) (h : (List UInt8)) (i : (List UInt8)) (c : Bool) (j : Int) (k : (List UInt8)) (l : (List UInt8)) (m : Int) (n : Int) (o : Int) (b : (List UInt8)) : Option (Int × (List UInt8) × (List UInt8) × Int × Int × Int × (List UInt8) × (List UInt8) × (List UInt8) × Bool) :=
  (cond (j != 1) ((Zt q3 q4 q5 q6 q7 e f g h i c 1).bind fun a => (some (a.1, a.2.1, a.2.2.1, a.2.2.2.1, a.2.2.2.2.1, a.2.2.2.2.2.1, a.2.2.2.2.2.2.1, a.2.2.2.2.2.2.2.1, a.2.2.2.2.2.2.2.2.1, a.2.2.2.2.2.2.2.2.2))) ((sub b 0 (if 64 < ((List.length b : Nat) : Int) then 64 else ((List.length b : Nat) : Int))).bind fun d => (some (2, d, ([] : List UInt8), 0, 0, 2, k, l, d, c))))
set_option maxRecDepth 100000 in
set_option maxHeartbeats 4000000 in
theorem Nv {S : List Nat} (g1 : Nat) (g2 : Nat) (A8 : Option Addr) (c9 : Nat) (q : Nat) (q3 : Int) (q4 : Int) (q5 : Int) (q6 : Int) (a0 : (List Q8)) (a4 : Us) (a1 : Int) (b0 : (List UInt8)) (a8 : (List UInt8)) (a5 : (List UInt8)) (s : Bool) (u : Int) (h : (List UInt8)) (m : (List UInt8)) (a6 : Int) (a7 : Int) (b5 : Int) (c : (List UInt8)) (w0 : World) (hO : SP S w0 w0 [Qo g2 79 #[(.int .i64 q3), (.int .i64 q4), (.int .i64 q5), (.int .i64 q6), (.slice A8 (List.length (List.map stT a0)) c9), (.map (some q))], Vq q a4, Qo g1 95 #[(pt g2 0), (V2 a1 g1), (.string ⟨List.toArray b0⟩), (.string ⟨List.toArray a8⟩), (.string ⟨List.toArray a5⟩), (.bool s)]]) (c1 : ∀ w, Mod S w0 w → (dDS J9 Bj).ok w (A8, c9, a0)) (r : (Int × (List UInt8) × (List UInt8) × Int × Int × Int × (List UInt8) × (List UInt8) × (List UInt8) × Bool)) (H : Yt q3 q4 q5 q6 (List.map stT a0) a4 a1 b0 a8 a5 s u h m a6 a7 b5 c = some r) :
  Calls Tryz.prog 57 #[(pt g1 0), (.agg #[(.int .i64 u), (.string ⟨List.toArray h⟩), (.string ⟨List.toArray m⟩), (.int .i64 a6), (.int .i64 a7)]), (.int .i64 b5), (.string ⟨List.toArray c⟩)] w0 (fun e w' => e = .returned (.agg #[(.int .i64 r.1), (.string ⟨List.toArray r.2.1⟩), (.string ⟨List.toArray r.2.2.1⟩), (.int .i64 r.2.2.2.1), (.int .i64 r.2.2.2.2.1)]) ∧ SP S w0 w' [Qo g2 79 #[(.int .i64 q3), (.int .i64 q4), (.int .i64 q5), (.int .i64 q6), (.slice A8 (List.length (List.map stT a0)) c9), (.map (some q))], Vq q a4, Qo g1 95 #[(pt g2 0), (V2 r.2.2.2.2.2.1 g1), (.string ⟨List.toArray r.2.2.2.2.2.2.1⟩), (.string ⟨List.toArray r.2.2.2.2.2.2.2.1⟩), (.string ⟨List.toArray r.2.2.2.2.2.2.2.2.1⟩), (.bool r.2.2.2.2.2.2.2.2.2)]]) := by
 unfold Yt at H
 refine Qt (n := 42) Tryz.func57 K K K ?_
 have c2 := hO
 refine aQ ?_
 refine aR ?_
 refine iS 1 ?_
 refine Vo (t := 63) (x := (.tmp 1)) (v := (.agg #[(.int .i64 u), (.string ⟨List.toArray h⟩), (.string ⟨List.toArray m⟩), (.int .i64 a6), (.int .i64 a7)])) (d := (some 5)) (k := 0) K rfl K c2 ?_
 intro p e2 c3
 refine iS 2 ?_
 refine Qj.alloc (t := 63) (z := (.agg #[(.int .i64 0), (.string ⟨List.toArray ([] : List UInt8)⟩), (.string ⟨List.toArray ([] : List UInt8)⟩), (.int .i64 0), (.int .i64 0)])) (d := (some 8)) (k := 1) K rfl K c3 ?_
 intro a2 c4 a9
 refine iF ?_
 refine aQ ?_
 refine aQ ?_
 refine aR ?_
 refine iR 1 1 [(9, (pt p 0))] ?_
 refine iS 2 ?_
 refine sL 3 9 p 0 3 (.int .i64 u) 10 a9 rfl ?_
 refine iR 1 3 [(11, (.bool (u != 1)))] ?_
 refine iF ?_
 refine Zu K (o := (.tmp 11)) K (b := (u != 1)) K (fun b1 => ?_) (fun b1 => ?_)
 ·have H := ct H b1
  refine aQ ?_
  refine aR ?_
  refine iR 1 1 [(12, (pt g1 0))] ?_
  obtain ⟨f, c5, H⟩ := Qc H
  refine iS 2 ?_
  refine cF 74 #[(.tmp 12), (.const (.int .i64 (1)))] #[60, 38] 13 Tryz.call74 (Yb g1 g2 A8 c9 q q3 q4 q5 q6 a0 a4 a1 b0 a8 a5 s 1 c4 (Yg a9 [0, 1, 2] rfl rfl) (fun w hm => c1 w (SP.through a9 (l := [0, 1, 2]) rfl hm)) f c5) ?_
  rintro e c6 ⟨rfl, b6⟩
  refine ⟨_, rfl, ?_⟩
  have c7 : SP S w0 c6 [Qo p 63 #[(.int .i64 u), (.string ⟨List.toArray h⟩), (.string ⟨List.toArray m⟩), (.int .i64 a6), (.int .i64 a7)], Qo a2 63 #[(.int .i64 0), (.string ⟨List.toArray ([] : List UInt8)⟩), (.string ⟨List.toArray ([] : List UInt8)⟩), (.int .i64 0), (.int .i64 0)], Qo g2 79 #[(.int .i64 q3), (.int .i64 q4), (.int .i64 q5), (.int .i64 q6), (.slice A8 (List.length (List.map stT a0)) c9), (.map (some q))], Vq q a4, Qo g1 95 #[(pt g2 0), (V2 f.2.2.2.2.2.1 g1), (.string ⟨List.toArray f.2.2.2.2.2.2.1⟩), (.string ⟨List.toArray f.2.2.2.2.2.2.2.1⟩), (.string ⟨List.toArray f.2.2.2.2.2.2.2.2.1⟩), (.bool f.2.2.2.2.2.2.2.2.2)]] := V7 a9 [0, 1, 2] [3, 4] rfl rfl b6 rfl
  clear b6
  refine iS 3 ?_
  refine Qj.store (t := 63) (x := (.tmp 8)) (y := (.tmp 13)) (g := a2) (off := 0) (i := 1) (v := (.agg #[(.int .i64 f.1), (.string ⟨List.toArray f.2.1⟩), (.string ⟨List.toArray f.2.2.1⟩), (.int .i64 f.2.2.2.1), (.int .i64 f.2.2.2.2.1)])) (cs' := #[(.int .i64 f.1), (.string ⟨List.toArray f.2.1⟩), (.string ⟨List.toArray f.2.2.1⟩), (.int .i64 f.2.2.2.1), (.int .i64 f.2.2.2.2.1)]) (d := none) (k := 2) K rfl K K c7 rfl K ?_
  intro e3 b7
  refine iF ?_
  refine At.ret K ?_
  refine ⟨(.agg #[(.int .i64 f.1), (.string ⟨List.toArray f.2.1⟩), (.string ⟨List.toArray f.2.2.1⟩), (.int .i64 f.2.2.2.1), (.int .i64 f.2.2.2.2.1)]), Rf K (J3 (a := 8) (t := 63) (g := a2) (off := 0) K (SP.get b7 (i := 1) rfl) K), ?_⟩
  obtain rfl := Qf H
  exact ⟨rfl, SP.sel b7 [2,3,4] rfl rfl⟩
 ·have H := cf H b1
  refine At.skip K ?_
  refine aQ ?_
  obtain ⟨b2, b3, b4, H⟩ := U8 H
  obtain ⟨a3, hyl142⟩ : ∃ y, (List.drop (Int.toNat 0) (List.take (Int.toNat (if 64 < ((List.length c : Nat) : Int) then 64 else ((List.length c : Nat) : Int))) c)) = y := ⟨_, rfl⟩
  rw [hyl142] at H
  refine aG [GEq (pt g1 0), GEq (pt g1 0), GEq (pt g1 0), GEq (pt p 1), GEq (.string ⟨List.toArray h⟩), GEq (pt p 2), GEq (.string ⟨List.toArray m⟩), GEq (.string ⟨List.toArray c⟩), GEq (.string ⟨List.toArray c⟩), GEq (.int .i64 ((List.length c : Nat) : Int)), GEq (.int .i64 (if 64 < ((List.length c : Nat) : Int) then 64 else ((List.length c : Nat) : Int))), GEq (.string ⟨List.toArray a3⟩), GEq (pt g1 0), GEq (pt g1 2), C3, GEq (pt g1 0), GEq (pt g1 3), C3, GEq (pt g1 0), GEq (pt g1 4), C3] [14, 17, 20] [sG [] [] S w0 [Qo g2 79 #[(.int .i64 q3), (.int .i64 q4), (.int .i64 q5), (.int .i64 q6), (.slice A8 (List.length (List.map stT a0)) c9), (.map (some q))], Vq q a4, Qo g1 95 #[(pt g2 0), (V2 a1 g1), (.string ⟨List.toArray b0⟩), (.string ⟨List.toArray a8⟩), (.string ⟨List.toArray a5⟩), (.bool s)], Qo p 63 #[(.int .i64 u), (.string ⟨List.toArray h⟩), (.string ⟨List.toArray m⟩), (.int .i64 a6), (.int .i64 a7)], Qo a2 63 #[(.int .i64 0), (.string ⟨List.toArray ([] : List UInt8)⟩), (.string ⟨List.toArray ([] : List UInt8)⟩), (.int .i64 0), (.int .i64 0)]], sG [14] [undef] S w0 [Qo g2 79 #[(.int .i64 q3), (.int .i64 q4), (.int .i64 q5), (.int .i64 q6), (.slice A8 (List.length (List.map stT a0)) c9), (.map (some q))], Vq q a4, Qo g1 95 #[(pt g2 0), (V2 a1 g1), (.string ⟨List.toArray h⟩), (.string ⟨List.toArray a8⟩), (.string ⟨List.toArray a5⟩), (.bool s)], Qo p 63 #[(.int .i64 u), (.string ⟨List.toArray h⟩), (.string ⟨List.toArray m⟩), (.int .i64 a6), (.int .i64 a7)], Qo a2 63 #[(.int .i64 0), (.string ⟨List.toArray ([] : List UInt8)⟩), (.string ⟨List.toArray ([] : List UInt8)⟩), (.int .i64 0), (.int .i64 0)]], sG [14, 17] [undef, undef] S w0 [Qo g2 79 #[(.int .i64 q3), (.int .i64 q4), (.int .i64 q5), (.int .i64 q6), (.slice A8 (List.length (List.map stT a0)) c9), (.map (some q))], Vq q a4, Qo g1 95 #[(pt g2 0), (V2 a1 g1), (.string ⟨List.toArray h⟩), (.string ⟨List.toArray m⟩), (.string ⟨List.toArray a5⟩), (.bool s)], Qo p 63 #[(.int .i64 u), (.string ⟨List.toArray h⟩), (.string ⟨List.toArray m⟩), (.int .i64 a6), (.int .i64 a7)], Qo a2 63 #[(.int .i64 0), (.string ⟨List.toArray ([] : List UInt8)⟩), (.string ⟨List.toArray ([] : List UInt8)⟩), (.int .i64 0), (.int .i64 0)]], sG [14, 17, 20] [undef, undef, undef] S w0 [Qo g2 79 #[(.int .i64 q3), (.int .i64 q4), (.int .i64 q5), (.int .i64 q6), (.slice A8 (List.length (List.map stT a0)) c9), (.map (some q))], Vq q a4, Qo g1 95 #[(pt g2 0), (V2 a1 g1), (.string ⟨List.toArray h⟩), (.string ⟨List.toArray m⟩), (.string ⟨List.toArray a3⟩), (.bool s)], Qo p 63 #[(.int .i64 u), (.string ⟨List.toArray h⟩), (.string ⟨List.toArray m⟩), (.int .i64 a6), (.int .i64 a7)], Qo a2 63 #[(.int .i64 0), (.string ⟨List.toArray ([] : List UInt8)⟩), (.string ⟨List.toArray ([] : List UInt8)⟩), (.int .i64 0), (.int .i64 0)]]] 21 3 ⟨trivial, SP.drew a9⟩ ?_ ?_
  iterate 21 refine And.intro ?_ ?_
  exact trivial
  ·exact oV (hC (hS 0 (pt g1 0)) (h0)) (pt g1 0)
  ·exact oV (hC (hS 0 (pt g1 0)) (h0)) (pt g1 0)
  ·exact oV (hC (hS 0 (pt g1 0)) (h0)) (pt g1 0)
  ·exact oV (hC (hS 5 (pt p 0)) (h0)) (pt p 1)
  ·refine oL 0 ?_
   ·rintro ρ' w' hs hah ⟨e4, c8⟩
    refine kM (kc (kA hah 3 17) k0) fun hkn => ?_
    refine sL 9 17 p 1 3 (.string ⟨List.toArray h⟩) 18 c8 rfl ?_
    exact eK hkn
  ·exact oV (hC (hS 5 (pt p 0)) (h0)) (pt p 2)
  ·refine Owe.light K [0, 1] K (Ql ?_ (Ql ?_ Vu))
   ·rintro ρ' w' hs hah ⟨e5, d0⟩
    refine kM (kc (kA hah 5 19) k0) fun hkn => ?_
    refine sL 9 19 p 2 3 (.string ⟨List.toArray m⟩) 20 d0 rfl ?_
    exact eK hkn
   ·rintro ρ' w' hs hah ⟨⟨e6, -⟩, d1⟩
    refine kM (kc (kA hah 5 19) k0) fun hkn => ?_
    refine sL 9 19 p 2 3 (.string ⟨List.toArray m⟩) 20 d1 rfl ?_
    exact eK hkn
  ·exact oV (hC (hS 3 (.string ⟨List.toArray c⟩)) (h0)) (.string ⟨List.toArray c⟩)
  ·exact oV (hC (hS 3 (.string ⟨List.toArray c⟩)) (h0)) (.string ⟨List.toArray c⟩)
  ·exact oV (hC (hA 8 22) (h0)) (.int .i64 ((List.length c : Nat) : Int))
  ·exact oV (hC (hA 9 23) (h0)) (.int .i64 (if 64 < ((List.length c : Nat) : Int) then 64 else ((List.length c : Nat) : Int)))
  ·refine Owe.light K [0, 1, 2] K (Ql ?_ (Ql ?_ (Ql ?_ Vu)))
   ·rintro ρ' w' hs hah ⟨e7, e8⟩
    refine kM (kc (kA hah 7 21) (kc (kA hah 10 24) k0)) fun hkn => ?_
    refine Ux (a := c) (T := 9) (x := (.tmp 21)) (lo := none) (hi := (some (.tmp 24))) (i := 0) (j := (if 64 < ((List.length c : Nat) : Int) then 64 else ((List.length c : Nat) : Int))) (d := (some 25)) (k := 11) K rfl K K rfl ⟨.i64, K⟩ b2 b3 b4 ?_
    rw [hyl142]
    exact eK hkn
   ·rintro ρ' w' hs hah ⟨⟨e9, -⟩, f0⟩
    refine kM (kc (kA hah 7 21) (kc (kA hah 10 24) k0)) fun hkn => ?_
    refine Ux (a := c) (T := 9) (x := (.tmp 21)) (lo := none) (hi := (some (.tmp 24))) (i := 0) (j := (if 64 < ((List.length c : Nat) : Int) then 64 else ((List.length c : Nat) : Int))) (d := (some 25)) (k := 11) K rfl K K rfl ⟨.i64, K⟩ b2 b3 b4 ?_
    rw [hyl142]
    exact eK hkn
   ·rintro ρ' w' hs hah ⟨⟨f1, f2, -⟩, f3⟩
    refine kM (kc (kA hah 7 21) (kc (kA hah 10 24) k0)) fun hkn => ?_
    refine Ux (a := c) (T := 9) (x := (.tmp 21)) (lo := none) (hi := (some (.tmp 24))) (i := 0) (j := (if 64 < ((List.length c : Nat) : Int) then 64 else ((List.length c : Nat) : Int))) (d := (some 25)) (k := 11) K rfl K K rfl ⟨.i64, K⟩ b2 b3 b4 ?_
    rw [hyl142]
    exact eK hkn
  ·exact oV (hC (hA 0 14) (h0)) (pt g1 0)
  ·exact oV (hC (hA 12 26) (h0)) (pt g1 2)
  ·refine oH 0 1 ?_
   ·rintro ρ' w' hs hah ⟨f4, d2⟩
    refine kM (kc (kA hah 13 27) (kc (kA hah 4 18) k0)) fun hkn => ?_
    refine Qj.store (t := 9) (x := (.tmp 27)) (y := (.tmp 18)) (g := g1) (off := 2) (i := 2) (v := (.string ⟨List.toArray h⟩)) (cs' := #[(pt g2 0), (V2 a1 g1), (.string ⟨List.toArray h⟩), (.string ⟨List.toArray a8⟩), (.string ⟨List.toArray a5⟩), (.bool s)]) (d := none) (k := 14) K rfl K K d2 rfl K ?_
    intro f5 d3
    refine ⟨_, Qb hkn, trivial, ?_⟩
    exact (And.intro (And.intro rfl (trivial)) (d3))
  ·exact oV (hC (hA 1 15) (h0)) (pt g1 0)
  ·exact oV (hC (hA 15 28) (h0)) (pt g1 3)
  ·refine oH 1 2 ?_
   ·rintro ρ' w' hs hah ⟨⟨d4, -⟩, d5⟩
    refine kM (kc (kA hah 16 29) (kc (kA hah 6 20) k0)) fun hkn => ?_
    refine Qj.store (t := 9) (x := (.tmp 29)) (y := (.tmp 20)) (g := g1) (off := 3) (i := 2) (v := (.string ⟨List.toArray m⟩)) (cs' := #[(pt g2 0), (V2 a1 g1), (.string ⟨List.toArray h⟩), (.string ⟨List.toArray m⟩), (.string ⟨List.toArray a5⟩), (.bool s)]) (d := none) (k := 17) K rfl K K d5 rfl K ?_
    intro f6 d6
    refine ⟨_, Qb hkn, trivial, ?_⟩
    exact (And.intro (And.intro d4 (And.intro rfl (trivial))) (d6))
  ·exact oV (hC (hA 2 16) (h0)) (pt g1 0)
  ·exact oV (hC (hA 18 30) (h0)) (pt g1 4)
  ·refine oH 2 3 ?_
   ·rintro ρ' w' hs hah ⟨⟨d7, d8, -⟩, d9⟩
    refine kM (kc (kA hah 19 31) (kc (kA hah 11 25) k0)) fun hkn => ?_
    refine Qj.store (t := 9) (x := (.tmp 31)) (y := (.tmp 25)) (g := g1) (off := 4) (i := 2) (v := (.string ⟨List.toArray a3⟩)) (cs' := #[(pt g2 0), (V2 a1 g1), (.string ⟨List.toArray h⟩), (.string ⟨List.toArray m⟩), (.string ⟨List.toArray a3⟩), (.bool s)]) (d := none) (k := 20) K rfl K K d9 rfl K ?_
    intro f7 e0
    refine ⟨_, Qb hkn, trivial, ?_⟩
    exact (And.intro (And.intro d7 (And.intro d8 (And.intro rfl (trivial)))) (e0))
  ·rintro ρ' w' hs hf ⟨⟨f8, f9, g0, -⟩, b8⟩
   refine Vj [(0, (pt g1 0)), (8, (pt a2 0))] ⟨(hs 0 K).trans K, (hs 8 K).trans K, trivial⟩ ?_
   obtain ⟨g3, e1⟩ : ∃ x, w' = x := ⟨_, rfl⟩
   rw [e1] at b8 ⊢
   refine aQ ?_
   refine aR ?_
   refine iR 5 5 [(32, (pt g1 0)), (33, (pt g1 0)), (34, (.func (.func 75) #[(pt g1 0)] #[])), (35, (pt g1 0)), (36, (pt g1 1))] ?_
   refine iS 6 ?_
   refine Qj.store (t := 93) (x := (.tmp 36)) (y := (.tmp 34)) (g := g1) (off := 1) (i := 2) (v := (.func (.func 75) #[(pt g1 0)] #[])) (cs' := #[(pt g2 0), (.func (.func 75) #[(pt g1 0)] #[]), (.string ⟨List.toArray h⟩), (.string ⟨List.toArray m⟩), (.string ⟨List.toArray a3⟩), (.bool s)]) (d := none) (k := 5) K rfl K K b8 rfl K ?_
   intro g4 b9
   refine iF ?_
   refine aQ ?_
   refine aR ?_
   refine iR 3 3 [(37, (pt g1 0)), (38, (pt g1 0)), (39, (pt g1 4))] ?_
   refine iS 4 ?_
   refine sL 9 39 g1 4 2 (.string ⟨List.toArray a3⟩) 40 b9 rfl ?_
   refine iR 1 5 [(41, (.agg #[(.int .i64 2), (.string ⟨List.toArray a3⟩), (.string ⟨List.toArray ([] : List UInt8)⟩), (.int .i64 0), (.int .i64 0)]))] ?_
   refine iS 6 ?_
   refine Qj.store (t := 63) (x := (.tmp 8)) (y := (.tmp 41)) (g := a2) (off := 0) (i := 4) (v := (.agg #[(.int .i64 2), (.string ⟨List.toArray a3⟩), (.string ⟨List.toArray ([] : List UInt8)⟩), (.int .i64 0), (.int .i64 0)])) (cs' := #[(.int .i64 2), (.string ⟨List.toArray a3⟩), (.string ⟨List.toArray ([] : List UInt8)⟩), (.int .i64 0), (.int .i64 0)]) (d := none) (k := 5) K rfl K K b9 rfl K ?_
   intro g5 c0
   refine iF ?_
   refine At.ret K ?_
   refine ⟨(.agg #[(.int .i64 2), (.string ⟨List.toArray a3⟩), (.string ⟨List.toArray ([] : List UInt8)⟩), (.int .i64 0), (.int .i64 0)]), Rf K (J3 (a := 8) (t := 63) (g := a2) (off := 0) K (SP.get c0 (i := 4) rfl) K), ?_⟩
   obtain rfl := Qf H
   exact ⟨rfl, SP.sel c0 [0,1,2] rfl rfl⟩
def Yu (q3 : Int) (q4 : Int) (q5 : Int) (q6 : Int) (q7 : (List Qd)) (f : Us) (g : Int) (c : (List UInt8)) (d : (List UInt8)) (e : (List UInt8)) (h : Bool) (j : Int) (k : (List UInt8)) (m : (List UInt8)) (n : Int) (o : Int) (l : Int) (p : (List UInt8)) : Option (Int × (List UInt8) × (List UInt8) × Int × Int × Int × (List UInt8) × (List UInt8) × (List UInt8) × Bool) :=
  (cond (j != 3) ((Zt q3 q4 q5 q6 q7 f g c d e h 1).bind fun a => (some (a.1, a.2.1, a.2.2.1, a.2.2.2.1, a.2.2.2.2.1, a.2.2.2.2.2.1, a.2.2.2.2.2.2.1, a.2.2.2.2.2.2.2.1, a.2.2.2.2.2.2.2.2.1, a.2.2.2.2.2.2.2.2.2))) ((Xx q3 q4 q5 q6 q7 f c d e k l).bind fun i => (cond (i != 0) ((Zt q3 q4 q5 q6 q7 f g c d e h i).bind fun b => (some (b.1, b.2.1, b.2.2.1, b.2.2.2.1, b.2.2.2.2.1, b.2.2.2.2.2.1, b.2.2.2.2.2.2.1, b.2.2.2.2.2.2.2.1, b.2.2.2.2.2.2.2.2.1, b.2.2.2.2.2.2.2.2.2))) (some (4, ([] : List UInt8), ([] : List UInt8), 0, 0, 0, c, d, e, true)))))
set_option maxRecDepth 100000 in
set_option maxHeartbeats 4000000 in
theorem Nw {S : List Nat} (g1 : Nat) (g2 : Nat) (A8 : Option Addr) (c9 : Nat) (h : Nat) (q3 : Int) (q4 : Int) (q5 : Int) (q6 : Int) (j : (List Q8)) (u : Us) (a8 : Int) (m : (List UInt8)) (p : (List UInt8)) (q : (List UInt8)) (a4 : Bool) (a0 : Int) (a1 : (List UInt8)) (a5 : (List UInt8)) (a6 : Int) (a7 : Int) (a9 : Int) (b6 : (List UInt8)) (w0 : World) (hO : SP S w0 w0 [Qo g2 79 #[(.int .i64 q3), (.int .i64 q4), (.int .i64 q5), (.int .i64 q6), (.slice A8 (List.length (List.map stT j)) c9), (.map (some h))], Vq h u, Qo g1 95 #[(pt g2 0), (V2 a8 g1), (.string ⟨List.toArray m⟩), (.string ⟨List.toArray p⟩), (.string ⟨List.toArray q⟩), (.bool a4)]]) (b2 : ∀ w, Mod S w0 w → (dDS J9 Bj).ok w (A8, c9, j)) (r : (Int × (List UInt8) × (List UInt8) × Int × Int × Int × (List UInt8) × (List UInt8) × (List UInt8) × Bool)) (H : Yu q3 q4 q5 q6 (List.map stT j) u a8 m p q a4 a0 a1 a5 a6 a7 a9 b6 = some r) :
  Calls Tryz.prog 75 #[(pt g1 0), (.agg #[(.int .i64 a0), (.string ⟨List.toArray a1⟩), (.string ⟨List.toArray a5⟩), (.int .i64 a6), (.int .i64 a7)]), (.int .i64 a9), (.string ⟨List.toArray b6⟩)] w0 (fun e w' => e = .returned (.agg #[(.int .i64 r.1), (.string ⟨List.toArray r.2.1⟩), (.string ⟨List.toArray r.2.2.1⟩), (.int .i64 r.2.2.2.1), (.int .i64 r.2.2.2.2.1)]) ∧ SP S w0 w' [Qo g2 79 #[(.int .i64 q3), (.int .i64 q4), (.int .i64 q5), (.int .i64 q6), (.slice A8 (List.length (List.map stT j)) c9), (.map (some h))], Vq h u, Qo g1 95 #[(pt g2 0), (V2 r.2.2.2.2.2.1 g1), (.string ⟨List.toArray r.2.2.2.2.2.2.1⟩), (.string ⟨List.toArray r.2.2.2.2.2.2.2.1⟩), (.string ⟨List.toArray r.2.2.2.2.2.2.2.2.1⟩), (.bool r.2.2.2.2.2.2.2.2.2)]]) := by
 unfold Yu at H
 refine Qt (n := 47) Tryz.func75 K K K ?_
 have c3 := hO
 refine aQ ?_
 refine aR ?_
 refine iS 1 ?_
 refine Vo (t := 63) (x := (.tmp 1)) (v := (.agg #[(.int .i64 a0), (.string ⟨List.toArray a1⟩), (.string ⟨List.toArray a5⟩), (.int .i64 a6), (.int .i64 a7)])) (d := (some 5)) (k := 0) K rfl K c3 ?_
 intro a2 e5 c4
 refine iS 2 ?_
 refine Qj.alloc (t := 63) (z := (.agg #[(.int .i64 0), (.string ⟨List.toArray ([] : List UInt8)⟩), (.string ⟨List.toArray ([] : List UInt8)⟩), (.int .i64 0), (.int .i64 0)])) (d := (some 8)) (k := 1) K rfl K c4 ?_
 intro s c5 b0
 refine iF ?_
 refine aQ ?_
 refine aQ ?_
 refine aR ?_
 refine iR 1 1 [(10, (pt a2 0))] ?_
 refine iS 2 ?_
 refine sL 3 10 a2 0 3 (.int .i64 a0) 11 b0 rfl ?_
 refine iR 1 3 [(12, (.bool (a0 != 3)))] ?_
 refine iF ?_
 refine Zu K (o := (.tmp 12)) K (b := (a0 != 3)) K (fun b3 => ?_) (fun b3 => ?_)
 ·have H := ct H b3
  refine aQ ?_
  refine aR ?_
  refine iR 1 1 [(13, (pt g1 0))] ?_
  obtain ⟨c, c6, H⟩ := Qc H
  refine iS 2 ?_
  refine cF 74 #[(.tmp 13), (.const (.int .i64 (1)))] #[60, 38] 14 Tryz.call74 (Yb g1 g2 A8 c9 h q3 q4 q5 q6 j u a8 m p q a4 1 c5 (Yg b0 [0, 1, 2] rfl rfl) (fun w hm => b2 w (SP.through b0 (l := [0, 1, 2]) rfl hm)) c c6) ?_
  rintro e c7 ⟨rfl, b7⟩
  refine ⟨_, rfl, ?_⟩
  have c8 : SP S w0 c7 [Qo a2 63 #[(.int .i64 a0), (.string ⟨List.toArray a1⟩), (.string ⟨List.toArray a5⟩), (.int .i64 a6), (.int .i64 a7)], Qo s 63 #[(.int .i64 0), (.string ⟨List.toArray ([] : List UInt8)⟩), (.string ⟨List.toArray ([] : List UInt8)⟩), (.int .i64 0), (.int .i64 0)], Qo g2 79 #[(.int .i64 q3), (.int .i64 q4), (.int .i64 q5), (.int .i64 q6), (.slice A8 (List.length (List.map stT j)) c9), (.map (some h))], Vq h u, Qo g1 95 #[(pt g2 0), (V2 c.2.2.2.2.2.1 g1), (.string ⟨List.toArray c.2.2.2.2.2.2.1⟩), (.string ⟨List.toArray c.2.2.2.2.2.2.2.1⟩), (.string ⟨List.toArray c.2.2.2.2.2.2.2.2.1⟩), (.bool c.2.2.2.2.2.2.2.2.2)]] := V7 b0 [0, 1, 2] [3, 4] rfl rfl b7 rfl
  clear b7
  refine iS 3 ?_
  refine Qj.store (t := 63) (x := (.tmp 8)) (y := (.tmp 14)) (g := s) (off := 0) (i := 1) (v := (.agg #[(.int .i64 c.1), (.string ⟨List.toArray c.2.1⟩), (.string ⟨List.toArray c.2.2.1⟩), (.int .i64 c.2.2.2.1), (.int .i64 c.2.2.2.2.1)])) (cs' := #[(.int .i64 c.1), (.string ⟨List.toArray c.2.1⟩), (.string ⟨List.toArray c.2.2.1⟩), (.int .i64 c.2.2.2.1), (.int .i64 c.2.2.2.2.1)]) (d := none) (k := 2) K rfl K K c8 rfl K ?_
  intro e6 b8
  refine iF ?_
  refine At.ret K ?_
  refine ⟨(.agg #[(.int .i64 c.1), (.string ⟨List.toArray c.2.1⟩), (.string ⟨List.toArray c.2.2.1⟩), (.int .i64 c.2.2.2.1), (.int .i64 c.2.2.2.2.1)]), Rf K (J3 (a := 8) (t := 63) (g := s) (off := 0) K (SP.get b8 (i := 1) rfl) K), ?_⟩
  obtain rfl := Qf H
  exact ⟨rfl, SP.sel b8 [2,3,4] rfl rfl⟩
 ·have H := cf H b3
  refine At.skip K ?_
  refine aQ ?_
  refine aQ ?_
  obtain ⟨a3, d0, H⟩ := Qc H
  refine aG [GEq (pt g1 0), GEq (pt g1 0), GEq (pt g1 0), GEq (pt g2 0), GEq (pt g1 0), GEq (pt g1 0), GEq (pt g1 2), GEq (.string ⟨List.toArray m⟩), GEq (pt g1 0), GEq (pt g1 0), GEq (pt g1 3), GEq (.string ⟨List.toArray p⟩), GEq (pt g1 0), GEq (pt g1 0), GEq (pt g1 4), GEq (.string ⟨List.toArray q⟩), GEq (pt a2 1), GEq (.string ⟨List.toArray a1⟩), GEq (.int .i64 a9), GEq (.int .i64 a3), GEq (.int .i64 a3)] [19] [sG [] [] S w0 [Qo g2 79 #[(.int .i64 q3), (.int .i64 q4), (.int .i64 q5), (.int .i64 q6), (.slice A8 (List.length (List.map stT j)) c9), (.map (some h))], Vq h u, Qo g1 95 #[(pt g2 0), (V2 a8 g1), (.string ⟨List.toArray m⟩), (.string ⟨List.toArray p⟩), (.string ⟨List.toArray q⟩), (.bool a4)], Qo a2 63 #[(.int .i64 a0), (.string ⟨List.toArray a1⟩), (.string ⟨List.toArray a5⟩), (.int .i64 a6), (.int .i64 a7)], Qo s 63 #[(.int .i64 0), (.string ⟨List.toArray ([] : List UInt8)⟩), (.string ⟨List.toArray ([] : List UInt8)⟩), (.int .i64 0), (.int .i64 0)]], sG [19] [(.int .i64 a3)] S w0 [Qo g1 95 #[(pt g2 0), (V2 a8 g1), (.string ⟨List.toArray m⟩), (.string ⟨List.toArray p⟩), (.string ⟨List.toArray q⟩), (.bool a4)], Qo a2 63 #[(.int .i64 a0), (.string ⟨List.toArray a1⟩), (.string ⟨List.toArray a5⟩), (.int .i64 a6), (.int .i64 a7)], Qo s 63 #[(.int .i64 0), (.string ⟨List.toArray ([] : List UInt8)⟩), (.string ⟨List.toArray ([] : List UInt8)⟩), (.int .i64 0), (.int .i64 0)], Qo g2 79 #[(.int .i64 q3), (.int .i64 q4), (.int .i64 q5), (.int .i64 q6), (.slice A8 (List.length (List.map stT j)) c9), (.map (some h))], Vq h u]] 21 1 ⟨trivial, SP.drew b0⟩ ?_ ?_
  iterate 21 refine And.intro ?_ ?_
  exact trivial
  ·exact oV (hC (hS 0 (pt g1 0)) (h0)) (pt g1 0)
  ·exact oV (hC (hA 0 15) (h0)) (pt g1 0)
  ·exact oV (hC (hA 1 16) (h0)) (pt g1 0)
  ·refine oL 0 ?_
   ·rintro ρ' w' hs hah ⟨e7, d1⟩
    refine kM (kc (kA hah 2 17) k0) fun hkn => ?_
    refine sL 29 17 g1 0 2 (pt g2 0) 18 d1 rfl ?_
    exact eK hkn
  ·exact oV (hC (hS 0 (pt g1 0)) (h0)) (pt g1 0)
  ·exact oV (hC (hA 4 19) (h0)) (pt g1 0)
  ·exact oV (hC (hA 5 20) (h0)) (pt g1 2)
  ·refine oL 0 ?_
   ·rintro ρ' w' hs hah ⟨e8, d2⟩
    refine kM (kc (kA hah 6 21) k0) fun hkn => ?_
    refine sL 9 21 g1 2 2 (.string ⟨List.toArray m⟩) 22 d2 rfl ?_
    exact eK hkn
  ·exact oV (hC (hS 0 (pt g1 0)) (h0)) (pt g1 0)
  ·exact oV (hC (hA 8 23) (h0)) (pt g1 0)
  ·exact oV (hC (hA 9 24) (h0)) (pt g1 3)
  ·refine oL 0 ?_
   ·rintro ρ' w' hs hah ⟨e9, d3⟩
    refine kM (kc (kA hah 10 25) k0) fun hkn => ?_
    refine sL 9 25 g1 3 2 (.string ⟨List.toArray p⟩) 26 d3 rfl ?_
    exact eK hkn
  ·exact oV (hC (hS 0 (pt g1 0)) (h0)) (pt g1 0)
  ·exact oV (hC (hA 12 27) (h0)) (pt g1 0)
  ·exact oV (hC (hA 13 28) (h0)) (pt g1 4)
  ·refine oL 0 ?_
   ·rintro ρ' w' hs hah ⟨f0, d4⟩
    refine kM (kc (kA hah 14 29) k0) fun hkn => ?_
    refine sL 9 29 g1 4 2 (.string ⟨List.toArray q⟩) 30 d4 rfl ?_
    exact eK hkn
  ·exact oV (hC (hS 5 (pt a2 0)) (h0)) (pt a2 1)
  ·refine oL 0 ?_
   ·rintro ρ' w' hs hah ⟨f1, d5⟩
    refine kM (kc (kA hah 16 31) k0) fun hkn => ?_
    refine sL 9 31 a2 1 3 (.string ⟨List.toArray a1⟩) 32 d5 rfl ?_
    exact eK hkn
  ·exact oV (hC (hS 2 (.int .i64 a9)) (h0)) (.int .i64 a9)
  ·refine oH 0 1 ?_
   ·rintro ρ' w' hs hah ⟨f2, b4⟩
    refine kM (kc (kA hah 3 18) (kc (kA hah 7 22) (kc (kA hah 11 26) (kc (kA hah 15 30) (kc (kA hah 17 32) (kc (kA hah 18 33) k0)))))) fun hkn => ?_
    refine cF 26 #[(.tmp 18), (.tmp 22), (.tmp 26), (.tmp 30), (.tmp 32), (.tmp 33)] #[29, 9, 9, 9, 9, 2] 34 Tryz.call26 (Nu g2 A8 c9 h q3 q4 q5 q6 j u m p q a1 a9 w' (Yg b4 [0, 1] rfl rfl) (fun w hm => b2 w (SP.through b4 (l := [0, 1]) rfl hm)) a3 d0) ?_
    rintro e d6 ⟨rfl, b9⟩
    refine ⟨_, rfl, ?_⟩
    have d7 : SP S w0 d6 [Qo g1 95 #[(pt g2 0), (V2 a8 g1), (.string ⟨List.toArray m⟩), (.string ⟨List.toArray p⟩), (.string ⟨List.toArray q⟩), (.bool a4)], Qo a2 63 #[(.int .i64 a0), (.string ⟨List.toArray a1⟩), (.string ⟨List.toArray a5⟩), (.int .i64 a6), (.int .i64 a7)], Qo s 63 #[(.int .i64 0), (.string ⟨List.toArray ([] : List UInt8)⟩), (.string ⟨List.toArray ([] : List UInt8)⟩), (.int .i64 0), (.int .i64 0)], Qo g2 79 #[(.int .i64 q3), (.int .i64 q4), (.int .i64 q5), (.int .i64 q6), (.slice A8 (List.length (List.map stT j)) c9), (.map (some h))], Vq h u] := V7 b4 [0, 1] [2, 3, 4] rfl rfl b9 rfl
    clear b9
    refine ⟨_, Qb hkn, rfl, ?_⟩
    exact (And.intro (And.intro rfl (trivial)) (d7))
  ·exact oV (hC (hA 19 34) (h0)) (.int .i64 a3)
  ·rintro ρ' w' hs hf ⟨⟨f3, -⟩, b1⟩
   refine Vj [(0, (pt g1 0)), (8, (pt s 0)), (9, (.int .i64 a3))] ⟨(hs 0 K).trans K, (hs 8 K).trans K, hf 20 9 K, trivial⟩ ?_
   obtain ⟨d8, d9⟩ : ∃ x, w' = x := ⟨_, rfl⟩
   rw [d9] at b1 ⊢
   refine aQ ?_
   refine aR ?_
   refine iR 2 2 [(35, (.int .i64 a3)), (36, (.bool (a3 != 0)))] ?_
   refine iF ?_
   refine Zu K (o := (.tmp 36)) K (b := (a3 != 0)) K (fun b5 => ?_) (fun b5 => ?_)
   ·have H := ct H b5
    refine aQ ?_
    refine aR ?_
    refine iR 2 2 [(37, (pt g1 0)), (38, (.int .i64 a3))] ?_
    obtain ⟨f, e0, H⟩ := Qc H
    refine iS 3 ?_
    refine cF 74 #[(.tmp 37), (.tmp 38)] #[60, 38] 39 Tryz.call74 (Yb g1 g2 A8 c9 h q3 q4 q5 q6 j u a8 m p q a4 a3 d8 (Yg b1 [3, 4, 0] rfl rfl) (fun w hm => b2 w (SP.through b1 (l := [3, 4, 0]) rfl hm)) f e0) ?_
    rintro e e1 ⟨rfl, c0⟩
    refine ⟨_, rfl, ?_⟩
    have e2 : SP S w0 e1 [Qo a2 63 #[(.int .i64 a0), (.string ⟨List.toArray a1⟩), (.string ⟨List.toArray a5⟩), (.int .i64 a6), (.int .i64 a7)], Qo s 63 #[(.int .i64 0), (.string ⟨List.toArray ([] : List UInt8)⟩), (.string ⟨List.toArray ([] : List UInt8)⟩), (.int .i64 0), (.int .i64 0)], Qo g2 79 #[(.int .i64 q3), (.int .i64 q4), (.int .i64 q5), (.int .i64 q6), (.slice A8 (List.length (List.map stT j)) c9), (.map (some h))], Vq h u, Qo g1 95 #[(pt g2 0), (V2 f.2.2.2.2.2.1 g1), (.string ⟨List.toArray f.2.2.2.2.2.2.1⟩), (.string ⟨List.toArray f.2.2.2.2.2.2.2.1⟩), (.string ⟨List.toArray f.2.2.2.2.2.2.2.2.1⟩), (.bool f.2.2.2.2.2.2.2.2.2)]] := V7 b1 [3, 4, 0] [1, 2] rfl rfl c0 rfl
    clear c0
    refine iS 4 ?_
    refine Qj.store (t := 63) (x := (.tmp 8)) (y := (.tmp 39)) (g := s) (off := 0) (i := 1) (v := (.agg #[(.int .i64 f.1), (.string ⟨List.toArray f.2.1⟩), (.string ⟨List.toArray f.2.2.1⟩), (.int .i64 f.2.2.2.1), (.int .i64 f.2.2.2.2.1)])) (cs' := #[(.int .i64 f.1), (.string ⟨List.toArray f.2.1⟩), (.string ⟨List.toArray f.2.2.1⟩), (.int .i64 f.2.2.2.1), (.int .i64 f.2.2.2.2.1)]) (d := none) (k := 3) K rfl K K e2 rfl K ?_
    intro f4 c1
    refine iF ?_
    refine At.ret K ?_
    refine ⟨(.agg #[(.int .i64 f.1), (.string ⟨List.toArray f.2.1⟩), (.string ⟨List.toArray f.2.2.1⟩), (.int .i64 f.2.2.2.1), (.int .i64 f.2.2.2.2.1)]), Rf K (J3 (a := 8) (t := 63) (g := s) (off := 0) K (SP.get c1 (i := 1) rfl) K), ?_⟩
    obtain rfl := Qf H
    exact ⟨rfl, SP.sel c1 [2,3,4] rfl rfl⟩
   ·have H := cf H b5
    refine At.skip K ?_
    refine aQ ?_
    refine aR ?_
    refine iR 4 4 [(40, (pt g1 0)), (41, (pt g1 0)), (42, (pt g1 0)), (43, (pt g1 1))] ?_
    refine iS 5 ?_
    refine Qj.store (t := 93) (x := (.tmp 43)) (y := (.const .nilFunc)) (g := g1) (off := 1) (i := 0) (v := .nilFunc) (cs' := #[(pt g2 0), .nilFunc, (.string ⟨List.toArray m⟩), (.string ⟨List.toArray p⟩), (.string ⟨List.toArray q⟩), (.bool a4)]) (d := none) (k := 4) K rfl K K b1 rfl K ?_
    intro f5 e3
    refine iR 2 7 [(44, (pt g1 0)), (45, (pt g1 5))] ?_
    refine iS 8 ?_
    refine Qj.store (t := 4) (x := (.tmp 45)) (y := (.const (.bool true))) (g := g1) (off := 5) (i := 0) (v := (.bool true)) (cs' := #[(pt g2 0), .nilFunc, (.string ⟨List.toArray m⟩), (.string ⟨List.toArray p⟩), (.string ⟨List.toArray q⟩), (.bool true)]) (d := none) (k := 7) K rfl K K e3 rfl K ?_
    intro f6 e4
    refine iF ?_
    refine aQ ?_
    refine aR ?_
    refine iR 1 1 [(46, (.agg #[(.int .i64 4), (.string ⟨List.toArray ([] : List UInt8)⟩), (.string ⟨List.toArray ([] : List UInt8)⟩), (.int .i64 0), (.int .i64 0)]))] ?_
    refine iS 2 ?_
    refine Qj.store (t := 63) (x := (.tmp 8)) (y := (.tmp 46)) (g := s) (off := 0) (i := 2) (v := (.agg #[(.int .i64 4), (.string ⟨List.toArray ([] : List UInt8)⟩), (.string ⟨List.toArray ([] : List UInt8)⟩), (.int .i64 0), (.int .i64 0)])) (cs' := #[(.int .i64 4), (.string ⟨List.toArray ([] : List UInt8)⟩), (.string ⟨List.toArray ([] : List UInt8)⟩), (.int .i64 0), (.int .i64 0)]) (d := none) (k := 1) K rfl K K e4 rfl K ?_
    intro f7 c2
    refine iF ?_
    refine At.ret K ?_
    refine ⟨(.agg #[(.int .i64 4), (.string ⟨List.toArray ([] : List UInt8)⟩), (.string ⟨List.toArray ([] : List UInt8)⟩), (.int .i64 0), (.int .i64 0)]), Rf K (J3 (a := 8) (t := 63) (g := s) (off := 0) K (SP.get c2 (i := 2) rfl) K), ?_⟩
    obtain rfl := Qf H
    exact ⟨rfl, SP.sel c2 [3,4,0] rfl rfl⟩
def Ui (q2 : Int) (q3 : Int) (q4 : Int) (q5 : Int) (q6 : (List Qd)) (a : Us) : Option (Int × (List UInt8) × (List UInt8) × (List UInt8) × Bool) :=
  (some (1, ([] : List UInt8), ([] : List UInt8), ([] : List UInt8), false))
set_option maxRecDepth 100000 in
set_option maxHeartbeats 4000000 in
theorem Uu {S : List Nat} (g1 : Nat) (A7 : Option Addr) (c8 : Nat) (b : Nat) (q2 : Int) (q3 : Int) (q4 : Int) (q5 : Int) (c : (List Q8)) (f : Us) (w0 : World) (hO : SP S w0 w0 [Qo g1 79 #[(.int .i64 q2), (.int .i64 q3), (.int .i64 q4), (.int .i64 q5), (.slice A7 (List.length (List.map stT c)) c8), (.map (some b))], Vq b f]) (o : ∀ w, Mod S w0 w → (dDS J9 Bj).ok w (A7, c8, c)) (r : (Int × (List UInt8) × (List UInt8) × (List UInt8) × Bool)) (H : Ui q2 q3 q4 q5 (List.map stT c) f = some r) :
  Calls Tryz.prog 33 #[(pt g1 0)] w0 (fun e w' => ∃ (h : Nat), e = .returned (pt h 0) ∧ SP S w0 w' [Qo h 95 #[(pt g1 0), (V2 r.1 h), (.string ⟨List.toArray r.2.1⟩), (.string ⟨List.toArray r.2.2.1⟩), (.string ⟨List.toArray r.2.2.2.1⟩), (.bool r.2.2.2.2)], Qo g1 79 #[(.int .i64 q2), (.int .i64 q3), (.int .i64 q4), (.int .i64 q5), (.slice A7 (List.length (List.map stT c)) c8), (.map (some b))], Vq b f]) := by
 unfold Ui at H
 refine Qt (n := 13) Tryz.func33 K K K ?_
 have j := hO
 refine aQ ?_
 refine aR ?_
 refine iR 1 1 [(2, (.pointer none))] ?_
 refine iF ?_
 refine aQ ?_
 refine aR ?_
 refine iR 2 2 [(4, (pt g1 0)), (5, (.agg #[(pt g1 0), .nilFunc, (.string ⟨List.toArray ([] : List UInt8)⟩), (.string ⟨List.toArray ([] : List UInt8)⟩), (.string ⟨List.toArray ([] : List UInt8)⟩), (.bool false)]))] ?_
 refine iS 3 ?_
 refine Vo (t := 95) (x := (.tmp 5)) (v := (.agg #[(pt g1 0), .nilFunc, (.string ⟨List.toArray ([] : List UInt8)⟩), (.string ⟨List.toArray ([] : List UInt8)⟩), (.string ⟨List.toArray ([] : List UInt8)⟩), (.bool false)])) (d := (some 6)) (k := 2) K rfl K j ?_
 intro a p l
 refine iR 1 4 [(3, (pt a 0))] ?_
 refine iF ?_
 refine aQ ?_
 refine aR ?_
 refine iR 5 5 [(7, (pt a 0)), (8, (pt a 0)), (9, (.func (.func 57) #[(pt a 0)] #[])), (10, (pt a 0)), (11, (pt a 1))] ?_
 refine iS 6 ?_
 refine Qj.store (t := 93) (x := (.tmp 11)) (y := (.tmp 9)) (g := a) (off := 1) (i := 2) (v := (.func (.func 57) #[(pt a 0)] #[])) (cs' := #[(pt g1 0), (.func (.func 57) #[(pt a 0)] #[]), (.string ⟨List.toArray ([] : List UInt8)⟩), (.string ⟨List.toArray ([] : List UInt8)⟩), (.string ⟨List.toArray ([] : List UInt8)⟩), (.bool false)]) (d := none) (k := 5) K rfl K K l rfl K ?_
 intro q m
 refine iF ?_
 refine aQ ?_
 refine aR ?_
 refine iR 2 2 [(12, (pt a 0)), (2, (pt a 0))] ?_
 refine iF ?_
 refine At.ret K ?_
 refine ⟨(pt a 0), K, ?_⟩
 obtain rfl := Qf H
 exact ⟨a, rfl, SP.sel m [2,0,1] rfl rfl⟩
def V0 (q3 : Int) (q4 : Int) (q5 : Int) (q6 : Int) (q7 : (List Qd)) (h : Us) (c : Int) (d : (List UInt8)) (e : (List UInt8)) (f : (List UInt8)) (g : Bool) (i : Int) (j : (List UInt8)) (k : (List UInt8)) (l : Int) (m : Int) (n : Int) (o : (List UInt8)) : Option (Int × (List UInt8) × (List UInt8) × Int × Int × Bool × Int × (List UInt8) × (List UInt8) × (List UInt8) × Bool) :=
  (cond (D1 c) (some (0, ([] : List UInt8), ([] : List UInt8), 0, 0, false, c, d, e, f, g)) (cond (c == 1) ((Yt q3 q4 q5 q6 q7 h 1 d e f g i j k l m n o).bind fun a => (some (a.1, a.2.1, a.2.2.1, a.2.2.2.1, a.2.2.2.2.1, true, a.2.2.2.2.2.1, a.2.2.2.2.2.2.1, a.2.2.2.2.2.2.2.1, a.2.2.2.2.2.2.2.2.1, a.2.2.2.2.2.2.2.2.2))) (cond (c == 2) ((Yu q3 q4 q5 q6 q7 h 2 d e f g i j k l m n o).bind fun b => (some (b.1, b.2.1, b.2.2.1, b.2.2.2.1, b.2.2.2.2.1, true, b.2.2.2.2.2.1, b.2.2.2.2.2.2.1, b.2.2.2.2.2.2.2.1, b.2.2.2.2.2.2.2.2.1, b.2.2.2.2.2.2.2.2.2))) none)))
set_option maxRecDepth 100000 in
set_option maxHeartbeats 4000000 in
theorem Zr {S : List Nat} (g1 : Nat) (g2 : Nat) (A8 : Option Addr) (c9 : Nat) (m : Nat) (q3 : Int) (q4 : Int) (q5 : Int) (q6 : Int) (a2 : (List Q8)) (a3 : Us) (a5 : Int) (a8 : (List UInt8)) (a9 : (List UInt8)) (b0 : (List UInt8)) (b1 : Bool) (q : Int) (s : (List UInt8)) (u : (List UInt8)) (a0 : Int) (a1 : Int) (a6 : Int) (a7 : (List UInt8)) (w0 : World) (hO : SP S w0 w0 [Qo g2 79 #[(.int .i64 q3), (.int .i64 q4), (.int .i64 q5), (.int .i64 q6), (.slice A8 (List.length (List.map stT a2)) c9), (.map (some m))], Vq m a3, Qo g1 95 #[(pt g2 0), (V2 a5 g1), (.string ⟨List.toArray a8⟩), (.string ⟨List.toArray a9⟩), (.string ⟨List.toArray b0⟩), (.bool b1)]]) (c0 : ∀ w, Mod S w0 w → (dDS J9 Bj).ok w (A8, c9, a2)) (r : (Int × (List UInt8) × (List UInt8) × Int × Int × Bool × Int × (List UInt8) × (List UInt8) × (List UInt8) × Bool)) (H : V0 q3 q4 q5 q6 (List.map stT a2) a3 a5 a8 a9 b0 b1 q s u a0 a1 a6 a7 = some r) :
  Calls Tryz.prog 34 #[(pt g1 0), (.agg #[(.int .i64 q), (.string ⟨List.toArray s⟩), (.string ⟨List.toArray u⟩), (.int .i64 a0), (.int .i64 a1)]), (.int .i64 a6), (.string ⟨List.toArray a7⟩)] w0 (fun e w' => e = .returned (.tuple #[(.agg #[(.int .i64 r.1), (.string ⟨List.toArray r.2.1⟩), (.string ⟨List.toArray r.2.2.1⟩), (.int .i64 r.2.2.2.1), (.int .i64 r.2.2.2.2.1)]), (.bool r.2.2.2.2.2.1)]) ∧ SP S w0 w' [Qo g2 79 #[(.int .i64 q3), (.int .i64 q4), (.int .i64 q5), (.int .i64 q6), (.slice A8 (List.length (List.map stT a2)) c9), (.map (some m))], Vq m a3, Qo g1 95 #[(pt g2 0), (V2 r.2.2.2.2.2.2.1 g1), (.string ⟨List.toArray r.2.2.2.2.2.2.2.1⟩), (.string ⟨List.toArray r.2.2.2.2.2.2.2.2.1⟩), (.string ⟨List.toArray r.2.2.2.2.2.2.2.2.2.1⟩), (.bool r.2.2.2.2.2.2.2.2.2.2)]]) := by
 unfold V0 at H
 refine Qt (n := 24) Tryz.func34 K K K ?_
 have c7 := hO
 refine aQ ?_
 refine aR ?_
 refine iS 1 ?_
 refine Vo (t := 63) (x := (.tmp 1)) (v := (.agg #[(.int .i64 q), (.string ⟨List.toArray s⟩), (.string ⟨List.toArray u⟩), (.int .i64 a0), (.int .i64 a1)])) (d := (some 5)) (k := 0) K rfl K c7 ?_
 intro a4 e8 c8
 refine iS 2 ?_
 refine Qj.alloc (t := 63) (z := (.agg #[(.int .i64 0), (.string ⟨List.toArray ([] : List UInt8)⟩), (.string ⟨List.toArray ([] : List UInt8)⟩), (.int .i64 0), (.int .i64 0)])) (d := (some 8)) (k := 1) K rfl K c8 ?_
 intro p c1 b3
 refine iR 1 3 [(9, (.bool false))] ?_
 refine iF ?_
 refine aQ ?_
 refine aQ ?_
 refine aR ?_
 refine iR 3 3 [(10, (pt g1 0)), (11, (pt g1 0)), (12, (pt g1 1))] ?_
 refine iS 4 ?_
 refine sL 93 12 g1 1 2 (V2 a5 g1) 13 b3 rfl ?_
 refine iS 5 ?_
 refine N3 (op := .eql) (T := 93) (T' := 93) (x := (.tmp 13)) (y := (.const .nilFunc)) (vx := (V2 a5 g1)) (vy := .nilFunc) (v := (.bool (D1 a5))) (d := (some 14)) (k := 4) K rfl K K (by clear H; intro w; unfold V2 D1; cases (a5 == 1) <;> cases (a5 == 2) <;> kernel_rfl) ?_
 refine iF ?_
 refine Zu K (o := (.tmp 14)) K (b := (D1 a5)) K (fun b5 => ?_) (fun b5 => ?_)
 ·have H := ct H b5
  refine aQ ?_
  refine aR ?_
  refine iR 1 1 [(15, (.agg #[(.int .i64 0), (.string ⟨List.toArray ([] : List UInt8)⟩), (.string ⟨List.toArray ([] : List UInt8)⟩), (.int .i64 0), (.int .i64 0)]))] ?_
  refine iS 2 ?_
  refine Qj.store (t := 63) (x := (.tmp 8)) (y := (.tmp 15)) (g := p) (off := 0) (i := 4) (v := (.agg #[(.int .i64 0), (.string ⟨List.toArray ([] : List UInt8)⟩), (.string ⟨List.toArray ([] : List UInt8)⟩), (.int .i64 0), (.int .i64 0)])) (cs' := #[(.int .i64 0), (.string ⟨List.toArray ([] : List UInt8)⟩), (.string ⟨List.toArray ([] : List UInt8)⟩), (.int .i64 0), (.int .i64 0)]) (d := none) (k := 1) K rfl K K b3 rfl K ?_
  intro e9 c2
  refine iR 1 3 [(9, (.bool false))] ?_
  refine iF ?_
  refine At.ret K ?_
  refine ⟨(.tuple #[(.agg #[(.int .i64 0), (.string ⟨List.toArray ([] : List UInt8)⟩), (.string ⟨List.toArray ([] : List UInt8)⟩), (.int .i64 0), (.int .i64 0)]), (.bool false)]), Fe K (J3 (a := 8) (t := 63) (g := p) (off := 0) K (SP.get c2 (i := 4) rfl) K) (Bg (t := 9) K), ?_⟩
  obtain rfl := Qf H
  exact ⟨rfl, SP.sel c2 [0,1,2] rfl rfl⟩
 ·have H := cf H b5
  refine At.skip K ?_
  refine aQ ?_
  rcases Bool.eq_false_or_eq_true (a5 == 1) with b2 | b2
  ·have H := ct H b2
   have d0 : SP S w0 c1 [Qo g2 79 #[(.int .i64 q3), (.int .i64 q4), (.int .i64 q5), (.int .i64 q6), (.slice A8 (List.length (List.map stT a2)) c9), (.map (some m))], Vq m a3, Qo g1 95 #[(pt g2 0), (.func (.func 57) #[(pt g1 0)] #[]), (.string ⟨List.toArray a8⟩), (.string ⟨List.toArray a9⟩), (.string ⟨List.toArray b0⟩), (.bool b1)], Qo a4 63 #[(.int .i64 q), (.string ⟨List.toArray s⟩), (.string ⟨List.toArray u⟩), (.int .i64 a0), (.int .i64 a1)], Qo p 63 #[(.int .i64 0), (.string ⟨List.toArray ([] : List UInt8)⟩), (.string ⟨List.toArray ([] : List UInt8)⟩), (.int .i64 0), (.int .i64 0)]] := by have h := b3; rw [stepV_1 b2] at h; exact h
   obtain ⟨c, d1, H⟩ := Qc H
   refine aG [GEq (pt g1 0), GEq (pt g1 0), GEq (pt g1 1), GEq (.func (.func 57) #[(pt g1 0)] #[]), GEq (.agg #[(.int .i64 q), (.string ⟨List.toArray s⟩), (.string ⟨List.toArray u⟩), (.int .i64 a0), (.int .i64 a1)]), GEq (.int .i64 a6), GEq (.string ⟨List.toArray a7⟩), GEq (.agg #[(.int .i64 c.1), (.string ⟨List.toArray c.2.1⟩), (.string ⟨List.toArray c.2.2.1⟩), (.int .i64 c.2.2.2.1), (.int .i64 c.2.2.2.2.1)]), C3, GEq (.bool true)] [7, 8] [sG [] [] S w0 [Qo g2 79 #[(.int .i64 q3), (.int .i64 q4), (.int .i64 q5), (.int .i64 q6), (.slice A8 (List.length (List.map stT a2)) c9), (.map (some m))], Vq m a3, Qo g1 95 #[(pt g2 0), (.func (.func 57) #[(pt g1 0)] #[]), (.string ⟨List.toArray a8⟩), (.string ⟨List.toArray a9⟩), (.string ⟨List.toArray b0⟩), (.bool b1)], Qo a4 63 #[(.int .i64 q), (.string ⟨List.toArray s⟩), (.string ⟨List.toArray u⟩), (.int .i64 a0), (.int .i64 a1)], Qo p 63 #[(.int .i64 0), (.string ⟨List.toArray ([] : List UInt8)⟩), (.string ⟨List.toArray ([] : List UInt8)⟩), (.int .i64 0), (.int .i64 0)]], sG [7] [(.agg #[(.int .i64 c.1), (.string ⟨List.toArray c.2.1⟩), (.string ⟨List.toArray c.2.2.1⟩), (.int .i64 c.2.2.2.1), (.int .i64 c.2.2.2.2.1)])] S w0 [Qo a4 63 #[(.int .i64 q), (.string ⟨List.toArray s⟩), (.string ⟨List.toArray u⟩), (.int .i64 a0), (.int .i64 a1)], Qo p 63 #[(.int .i64 0), (.string ⟨List.toArray ([] : List UInt8)⟩), (.string ⟨List.toArray ([] : List UInt8)⟩), (.int .i64 0), (.int .i64 0)], Qo g2 79 #[(.int .i64 q3), (.int .i64 q4), (.int .i64 q5), (.int .i64 q6), (.slice A8 (List.length (List.map stT a2)) c9), (.map (some m))], Vq m a3, Qo g1 95 #[(pt g2 0), (V2 c.2.2.2.2.2.1 g1), (.string ⟨List.toArray c.2.2.2.2.2.2.1⟩), (.string ⟨List.toArray c.2.2.2.2.2.2.2.1⟩), (.string ⟨List.toArray c.2.2.2.2.2.2.2.2.1⟩), (.bool c.2.2.2.2.2.2.2.2.2)]], sG [7, 8] [(.agg #[(.int .i64 c.1), (.string ⟨List.toArray c.2.1⟩), (.string ⟨List.toArray c.2.2.1⟩), (.int .i64 c.2.2.2.1), (.int .i64 c.2.2.2.2.1)]), undef] S w0 [Qo a4 63 #[(.int .i64 q), (.string ⟨List.toArray s⟩), (.string ⟨List.toArray u⟩), (.int .i64 a0), (.int .i64 a1)], Qo p 63 #[(.int .i64 c.1), (.string ⟨List.toArray c.2.1⟩), (.string ⟨List.toArray c.2.2.1⟩), (.int .i64 c.2.2.2.1), (.int .i64 c.2.2.2.2.1)], Qo g2 79 #[(.int .i64 q3), (.int .i64 q4), (.int .i64 q5), (.int .i64 q6), (.slice A8 (List.length (List.map stT a2)) c9), (.map (some m))], Vq m a3, Qo g1 95 #[(pt g2 0), (V2 c.2.2.2.2.2.1 g1), (.string ⟨List.toArray c.2.2.2.2.2.2.1⟩), (.string ⟨List.toArray c.2.2.2.2.2.2.2.1⟩), (.string ⟨List.toArray c.2.2.2.2.2.2.2.2.1⟩), (.bool c.2.2.2.2.2.2.2.2.2)]]] 10 2 ⟨trivial, SP.drew d0⟩ ?_ ?_
   iterate 10 refine And.intro ?_ ?_
   exact trivial
   ·exact oV (hC (hS 0 (pt g1 0)) (h0)) (pt g1 0)
   ·exact oV (hC (hA 0 16) (h0)) (pt g1 0)
   ·exact oV (hC (hA 1 17) (h0)) (pt g1 1)
   ·refine oL 0 ?_
    ·rintro ρ' w' hs hah ⟨f0, d2⟩
     refine kM (kc (kA hah 2 18) k0) fun hkn => ?_
     refine sL 93 18 g1 1 2 (.func (.func 57) #[(pt g1 0)] #[]) 19 d2 rfl ?_
     exact eK hkn
   ·refine oL 0 ?_
    ·rintro ρ' w' hs hah ⟨f1, d3⟩
     refine kM (kc (kS hs 5 (pt a4 0)) k0) fun hkn => ?_
     refine sL 63 5 a4 0 3 (.agg #[(.int .i64 q), (.string ⟨List.toArray s⟩), (.string ⟨List.toArray u⟩), (.int .i64 a0), (.int .i64 a1)]) 20 d3 rfl ?_
     exact eK hkn
   ·exact oV (hC (hS 2 (.int .i64 a6)) (h0)) (.int .i64 a6)
   ·exact oV (hC (hS 3 (.string ⟨List.toArray a7⟩)) (h0)) (.string ⟨List.toArray a7⟩)
   ·refine oH 0 1 ?_
    ·rintro ρ' w' hs hah ⟨f2, b6⟩
     refine kM (kc (kA hah 3 19) (kc (kA hah 4 20) (kc (kA hah 5 21) (kc (kA hah 6 22) k0)))) fun hkn => ?_
     refine Z5 (f := 57) (fo := (.tmp 19)) (xs := #[(.tmp 20), (.tmp 21), (.tmp 22)]) (tys := #[63, 2, 9]) (first := #[(pt g1 0)]) (captured := #[]) (d := (some 23)) (k := 7) K rfl K K Tryz.call57 (Nv g1 g2 A8 c9 m q3 q4 q5 q6 a2 a3 1 a8 a9 b0 b1 q s u a0 a1 a6 a7 w' (Yg b6 [0, 1, 2] rfl rfl) (fun w hm => c0 w (SP.through b6 (l := [0, 1, 2]) rfl hm)) c d1) ?_
     rintro e d4 ⟨rfl, c3⟩
     refine ⟨_, rfl, ?_⟩
     have d5 : SP S w0 d4 [Qo a4 63 #[(.int .i64 q), (.string ⟨List.toArray s⟩), (.string ⟨List.toArray u⟩), (.int .i64 a0), (.int .i64 a1)], Qo p 63 #[(.int .i64 0), (.string ⟨List.toArray ([] : List UInt8)⟩), (.string ⟨List.toArray ([] : List UInt8)⟩), (.int .i64 0), (.int .i64 0)], Qo g2 79 #[(.int .i64 q3), (.int .i64 q4), (.int .i64 q5), (.int .i64 q6), (.slice A8 (List.length (List.map stT a2)) c9), (.map (some m))], Vq m a3, Qo g1 95 #[(pt g2 0), (V2 c.2.2.2.2.2.1 g1), (.string ⟨List.toArray c.2.2.2.2.2.2.1⟩), (.string ⟨List.toArray c.2.2.2.2.2.2.2.1⟩), (.string ⟨List.toArray c.2.2.2.2.2.2.2.2.1⟩), (.bool c.2.2.2.2.2.2.2.2.2)]] := V7 b6 [0, 1, 2] [3, 4] rfl rfl c3 rfl
     clear c3
     refine ⟨_, Qb hkn, rfl, ?_⟩
     exact (And.intro (And.intro rfl (trivial)) (d5))
   ·refine oH 1 2 ?_
    ·rintro ρ' w' hs hah ⟨⟨c4, -⟩, d6⟩
     refine kN [(8, (pt p 0)), (23, (.agg #[(.int .i64 c.1), (.string ⟨List.toArray c.2.1⟩), (.string ⟨List.toArray c.2.2.1⟩), (.int .i64 c.2.2.2.1), (.int .i64 c.2.2.2.2.1)]))] ⟨(hs 8 K).trans K, (Yl (h := 7) K).symm.trans c4, trivial⟩ fun hkn => ?_
     refine Qj.store (t := 63) (x := (.tmp 8)) (y := (.tmp 23)) (g := p) (off := 0) (i := 1) (v := (.agg #[(.int .i64 c.1), (.string ⟨List.toArray c.2.1⟩), (.string ⟨List.toArray c.2.2.1⟩), (.int .i64 c.2.2.2.1), (.int .i64 c.2.2.2.2.1)])) (cs' := #[(.int .i64 c.1), (.string ⟨List.toArray c.2.1⟩), (.string ⟨List.toArray c.2.2.1⟩), (.int .i64 c.2.2.2.1), (.int .i64 c.2.2.2.2.1)]) (d := none) (k := 8) K rfl K K d6 rfl K ?_
     intro f3 d7
     refine ⟨_, Qb hkn, trivial, ?_⟩
     exact (And.intro (And.intro c4 (And.intro rfl (trivial))) (d7))
   ·exact Owe.run K [] trivial (.bool true) (fun _ _ => K) rfl
   ·rintro ρ' w' hs hf ⟨⟨f4, f5, -⟩, b7⟩
    refine Vj [(8, (pt p 0)), (9, (.bool true))] ⟨(hs 8 K).trans K, hf 9 9 K, trivial⟩ ?_
    obtain ⟨f6, d8⟩ : ∃ x, w' = x := ⟨_, rfl⟩
    rw [d8] at b7 ⊢
    refine At.ret K ?_
    refine ⟨(.tuple #[(.agg #[(.int .i64 c.1), (.string ⟨List.toArray c.2.1⟩), (.string ⟨List.toArray c.2.2.1⟩), (.int .i64 c.2.2.2.1), (.int .i64 c.2.2.2.2.1)]), (.bool true)]), Fe K (J3 (a := 8) (t := 63) (g := p) (off := 0) K (SP.get b7 (i := 1) rfl) K) (Bg (t := 9) K), ?_⟩
    obtain rfl := Qf H
    exact ⟨rfl, SP.sel b7 [2,3,4] rfl rfl⟩
  ·have H := cf H b2
   rcases Bool.eq_false_or_eq_true (a5 == 2) with b4 | b4
   ·have H := ct H b4
    have d9 : SP S w0 c1 [Qo g2 79 #[(.int .i64 q3), (.int .i64 q4), (.int .i64 q5), (.int .i64 q6), (.slice A8 (List.length (List.map stT a2)) c9), (.map (some m))], Vq m a3, Qo g1 95 #[(pt g2 0), (.func (.func 75) #[(pt g1 0)] #[]), (.string ⟨List.toArray a8⟩), (.string ⟨List.toArray a9⟩), (.string ⟨List.toArray b0⟩), (.bool b1)], Qo a4 63 #[(.int .i64 q), (.string ⟨List.toArray s⟩), (.string ⟨List.toArray u⟩), (.int .i64 a0), (.int .i64 a1)], Qo p 63 #[(.int .i64 0), (.string ⟨List.toArray ([] : List UInt8)⟩), (.string ⟨List.toArray ([] : List UInt8)⟩), (.int .i64 0), (.int .i64 0)]] := by have h := b3; rw [stepV_2 b2 b4] at h; exact h
    obtain ⟨j, e0, H⟩ := Qc H
    refine aG [GEq (pt g1 0), GEq (pt g1 0), GEq (pt g1 1), GEq (.func (.func 75) #[(pt g1 0)] #[]), GEq (.agg #[(.int .i64 q), (.string ⟨List.toArray s⟩), (.string ⟨List.toArray u⟩), (.int .i64 a0), (.int .i64 a1)]), GEq (.int .i64 a6), GEq (.string ⟨List.toArray a7⟩), GEq (.agg #[(.int .i64 j.1), (.string ⟨List.toArray j.2.1⟩), (.string ⟨List.toArray j.2.2.1⟩), (.int .i64 j.2.2.2.1), (.int .i64 j.2.2.2.2.1)]), C3, GEq (.bool true)] [7, 8] [sG [] [] S w0 [Qo g2 79 #[(.int .i64 q3), (.int .i64 q4), (.int .i64 q5), (.int .i64 q6), (.slice A8 (List.length (List.map stT a2)) c9), (.map (some m))], Vq m a3, Qo g1 95 #[(pt g2 0), (.func (.func 75) #[(pt g1 0)] #[]), (.string ⟨List.toArray a8⟩), (.string ⟨List.toArray a9⟩), (.string ⟨List.toArray b0⟩), (.bool b1)], Qo a4 63 #[(.int .i64 q), (.string ⟨List.toArray s⟩), (.string ⟨List.toArray u⟩), (.int .i64 a0), (.int .i64 a1)], Qo p 63 #[(.int .i64 0), (.string ⟨List.toArray ([] : List UInt8)⟩), (.string ⟨List.toArray ([] : List UInt8)⟩), (.int .i64 0), (.int .i64 0)]], sG [7] [(.agg #[(.int .i64 j.1), (.string ⟨List.toArray j.2.1⟩), (.string ⟨List.toArray j.2.2.1⟩), (.int .i64 j.2.2.2.1), (.int .i64 j.2.2.2.2.1)])] S w0 [Qo a4 63 #[(.int .i64 q), (.string ⟨List.toArray s⟩), (.string ⟨List.toArray u⟩), (.int .i64 a0), (.int .i64 a1)], Qo p 63 #[(.int .i64 0), (.string ⟨List.toArray ([] : List UInt8)⟩), (.string ⟨List.toArray ([] : List UInt8)⟩), (.int .i64 0), (.int .i64 0)], Qo g2 79 #[(.int .i64 q3), (.int .i64 q4), (.int .i64 q5), (.int .i64 q6), (.slice A8 (List.length (List.map stT a2)) c9), (.map (some m))], Vq m a3, Qo g1 95 #[(pt g2 0), (V2 j.2.2.2.2.2.1 g1), (.string ⟨List.toArray j.2.2.2.2.2.2.1⟩), (.string ⟨List.toArray j.2.2.2.2.2.2.2.1⟩), (.string ⟨List.toArray j.2.2.2.2.2.2.2.2.1⟩), (.bool j.2.2.2.2.2.2.2.2.2)]], sG [7, 8] [(.agg #[(.int .i64 j.1), (.string ⟨List.toArray j.2.1⟩), (.string ⟨List.toArray j.2.2.1⟩), (.int .i64 j.2.2.2.1), (.int .i64 j.2.2.2.2.1)]), undef] S w0 [Qo a4 63 #[(.int .i64 q), (.string ⟨List.toArray s⟩), (.string ⟨List.toArray u⟩), (.int .i64 a0), (.int .i64 a1)], Qo p 63 #[(.int .i64 j.1), (.string ⟨List.toArray j.2.1⟩), (.string ⟨List.toArray j.2.2.1⟩), (.int .i64 j.2.2.2.1), (.int .i64 j.2.2.2.2.1)], Qo g2 79 #[(.int .i64 q3), (.int .i64 q4), (.int .i64 q5), (.int .i64 q6), (.slice A8 (List.length (List.map stT a2)) c9), (.map (some m))], Vq m a3, Qo g1 95 #[(pt g2 0), (V2 j.2.2.2.2.2.1 g1), (.string ⟨List.toArray j.2.2.2.2.2.2.1⟩), (.string ⟨List.toArray j.2.2.2.2.2.2.2.1⟩), (.string ⟨List.toArray j.2.2.2.2.2.2.2.2.1⟩), (.bool j.2.2.2.2.2.2.2.2.2)]]] 10 2 ⟨trivial, SP.drew d9⟩ ?_ ?_
    iterate 10 refine And.intro ?_ ?_
    exact trivial
    ·exact oV (hC (hS 0 (pt g1 0)) (h0)) (pt g1 0)
    ·exact oV (hC (hA 0 16) (h0)) (pt g1 0)
    ·exact oV (hC (hA 1 17) (h0)) (pt g1 1)
    ·refine oL 0 ?_
     ·rintro ρ' w' hs hah ⟨f7, e1⟩
      refine kM (kc (kA hah 2 18) k0) fun hkn => ?_
      refine sL 93 18 g1 1 2 (.func (.func 75) #[(pt g1 0)] #[]) 19 e1 rfl ?_
      exact eK hkn
    ·refine oL 0 ?_
     ·rintro ρ' w' hs hah ⟨f8, e2⟩
      refine kM (kc (kS hs 5 (pt a4 0)) k0) fun hkn => ?_
      refine sL 63 5 a4 0 3 (.agg #[(.int .i64 q), (.string ⟨List.toArray s⟩), (.string ⟨List.toArray u⟩), (.int .i64 a0), (.int .i64 a1)]) 20 e2 rfl ?_
      exact eK hkn
    ·exact oV (hC (hS 2 (.int .i64 a6)) (h0)) (.int .i64 a6)
    ·exact oV (hC (hS 3 (.string ⟨List.toArray a7⟩)) (h0)) (.string ⟨List.toArray a7⟩)
    ·refine oH 0 1 ?_
     ·rintro ρ' w' hs hah ⟨f9, b8⟩
      refine kM (kc (kA hah 3 19) (kc (kA hah 4 20) (kc (kA hah 5 21) (kc (kA hah 6 22) k0)))) fun hkn => ?_
      refine Z5 (f := 75) (fo := (.tmp 19)) (xs := #[(.tmp 20), (.tmp 21), (.tmp 22)]) (tys := #[63, 2, 9]) (first := #[(pt g1 0)]) (captured := #[]) (d := (some 23)) (k := 7) K rfl K K Tryz.call75 (Nw g1 g2 A8 c9 m q3 q4 q5 q6 a2 a3 2 a8 a9 b0 b1 q s u a0 a1 a6 a7 w' (Yg b8 [0, 1, 2] rfl rfl) (fun w hm => c0 w (SP.through b8 (l := [0, 1, 2]) rfl hm)) j e0) ?_
      rintro e e3 ⟨rfl, c5⟩
      refine ⟨_, rfl, ?_⟩
      have e4 : SP S w0 e3 [Qo a4 63 #[(.int .i64 q), (.string ⟨List.toArray s⟩), (.string ⟨List.toArray u⟩), (.int .i64 a0), (.int .i64 a1)], Qo p 63 #[(.int .i64 0), (.string ⟨List.toArray ([] : List UInt8)⟩), (.string ⟨List.toArray ([] : List UInt8)⟩), (.int .i64 0), (.int .i64 0)], Qo g2 79 #[(.int .i64 q3), (.int .i64 q4), (.int .i64 q5), (.int .i64 q6), (.slice A8 (List.length (List.map stT a2)) c9), (.map (some m))], Vq m a3, Qo g1 95 #[(pt g2 0), (V2 j.2.2.2.2.2.1 g1), (.string ⟨List.toArray j.2.2.2.2.2.2.1⟩), (.string ⟨List.toArray j.2.2.2.2.2.2.2.1⟩), (.string ⟨List.toArray j.2.2.2.2.2.2.2.2.1⟩), (.bool j.2.2.2.2.2.2.2.2.2)]] := V7 b8 [0, 1, 2] [3, 4] rfl rfl c5 rfl
      clear c5
      refine ⟨_, Qb hkn, rfl, ?_⟩
      exact (And.intro (And.intro rfl (trivial)) (e4))
    ·refine oH 1 2 ?_
     ·rintro ρ' w' hs hah ⟨⟨c6, -⟩, e5⟩
      refine kN [(8, (pt p 0)), (23, (.agg #[(.int .i64 j.1), (.string ⟨List.toArray j.2.1⟩), (.string ⟨List.toArray j.2.2.1⟩), (.int .i64 j.2.2.2.1), (.int .i64 j.2.2.2.2.1)]))] ⟨(hs 8 K).trans K, (Yl (h := 7) K).symm.trans c6, trivial⟩ fun hkn => ?_
      refine Qj.store (t := 63) (x := (.tmp 8)) (y := (.tmp 23)) (g := p) (off := 0) (i := 1) (v := (.agg #[(.int .i64 j.1), (.string ⟨List.toArray j.2.1⟩), (.string ⟨List.toArray j.2.2.1⟩), (.int .i64 j.2.2.2.1), (.int .i64 j.2.2.2.2.1)])) (cs' := #[(.int .i64 j.1), (.string ⟨List.toArray j.2.1⟩), (.string ⟨List.toArray j.2.2.1⟩), (.int .i64 j.2.2.2.1), (.int .i64 j.2.2.2.2.1)]) (d := none) (k := 8) K rfl K K e5 rfl K ?_
      intro g0 e6
      refine ⟨_, Qb hkn, trivial, ?_⟩
      exact (And.intro (And.intro c6 (And.intro rfl (trivial))) (e6))
    ·exact Owe.run K [] trivial (.bool true) (fun _ _ => K) rfl
    ·rintro ρ' w' hs hf ⟨⟨g3, g4, -⟩, b9⟩
     refine Vj [(8, (pt p 0)), (9, (.bool true))] ⟨(hs 8 K).trans K, hf 9 9 K, trivial⟩ ?_
     obtain ⟨g5, e7⟩ : ∃ x, w' = x := ⟨_, rfl⟩
     rw [e7] at b9 ⊢
     refine At.ret K ?_
     refine ⟨(.tuple #[(.agg #[(.int .i64 j.1), (.string ⟨List.toArray j.2.1⟩), (.string ⟨List.toArray j.2.2.1⟩), (.int .i64 j.2.2.2.1), (.int .i64 j.2.2.2.2.1)]), (.bool true)]), Fe K (J3 (a := 8) (t := 63) (g := p) (off := 0) K (SP.get b9 (i := 1) rfl) K) (Bg (t := 9) K), ?_⟩
     obtain rfl := Qf H
     exact ⟨rfl, SP.sel b9 [2,3,4] rfl rfl⟩
   ·have H := cf H b4
    cases H
def Z1 (q3 : Int) (q4 : Int) (q5 : Int) (q6 : Int) (q7 : (List Qd)) (c : Us) (d : Int) (a : (List UInt8)) (e : (List UInt8)) (f : (List UInt8)) (b : Bool) : Option ((List UInt8) × Bool) :=
  (cond (!b) (some (([] : List UInt8), false)) (some (a, true)))
set_option maxRecDepth 100000 in
set_option maxHeartbeats 4000000 in
theorem Y4 {S : List Nat} (g1 : Nat) (g2 : Nat) (A8 : Option Addr) (c9 : Nat) (d : Nat) (q3 : Int) (q4 : Int) (q5 : Int) (q6 : Int) (f : (List Q8)) (h : Us) (i : Int) (a : (List UInt8)) (j : (List UInt8)) (k : (List UInt8)) (c : Bool) (w0 : World) (hO : SP S w0 w0 [Qo g2 79 #[(.int .i64 q3), (.int .i64 q4), (.int .i64 q5), (.int .i64 q6), (.slice A8 (List.length (List.map stT f)) c9), (.map (some d))], Vq d h, Qo g1 95 #[(pt g2 0), (V2 i g1), (.string ⟨List.toArray a⟩), (.string ⟨List.toArray j⟩), (.string ⟨List.toArray k⟩), (.bool c)]]) (m : ∀ w, Mod S w0 w → (dDS J9 Bj).ok w (A8, c9, f)) (r : ((List UInt8) × Bool)) (H : Z1 q3 q4 q5 q6 (List.map stT f) h i a j k c = some r) :
  Calls Tryz.prog 35 #[(pt g1 0)] w0 (fun e w' => e = .returned (.tuple #[(.string ⟨List.toArray r.1⟩), (.bool r.2)]) ∧ SP S w0 w' [Qo g2 79 #[(.int .i64 q3), (.int .i64 q4), (.int .i64 q5), (.int .i64 q6), (.slice A8 (List.length (List.map stT f)) c9), (.map (some d))], Vq d h, Qo g1 95 #[(pt g2 0), (V2 i g1), (.string ⟨List.toArray a⟩), (.string ⟨List.toArray j⟩), (.string ⟨List.toArray k⟩), (.bool c)]]) := by
 unfold Z1 at H
 refine Qt (n := 13) Tryz.func35 K K K ?_
 have g := hO
 refine aQ ?_
 refine aR ?_
 refine iR 2 2 [(2, (.string ⟨List.toArray ([] : List UInt8)⟩)), (3, (.bool false))] ?_
 refine iF ?_
 refine aQ ?_
 refine aQ ?_
 refine aR ?_
 refine iR 3 3 [(4, (pt g1 0)), (5, (pt g1 0)), (6, (pt g1 5))] ?_
 refine iS 4 ?_
 refine sL 4 6 g1 5 2 (.bool c) 7 g rfl ?_
 refine iR 1 5 [(8, (.bool (!c)))] ?_
 refine iF ?_
 refine Zu K (o := (.tmp 8)) K (b := (!c)) K (fun l => ?_) (fun l => ?_)
 ·have H := ct H l
  refine aQ ?_
  refine aR ?_
  refine iR 2 2 [(2, (.string ⟨List.toArray ([] : List UInt8)⟩)), (3, (.bool false))] ?_
  refine iF ?_
  refine At.ret K ?_
  refine ⟨(.tuple #[(.string ⟨List.toArray ([] : List UInt8)⟩), (.bool false)]), K, ?_⟩
  obtain rfl := Qf H
  exact ⟨rfl, SP.sel g [0,1,2] rfl rfl⟩
 ·have H := cf H l
  refine At.skip K ?_
  refine aQ ?_
  refine aR ?_
  refine iR 3 3 [(9, (pt g1 0)), (10, (pt g1 0)), (11, (pt g1 2))] ?_
  refine iS 4 ?_
  refine sL 9 11 g1 2 2 (.string ⟨List.toArray a⟩) 12 g rfl ?_
  refine iR 2 6 [(2, (.string ⟨List.toArray a⟩)), (3, (.bool true))] ?_
  refine iF ?_
  refine At.ret K ?_
  refine ⟨(.tuple #[(.string ⟨List.toArray a⟩), (.bool true)]), K, ?_⟩
  obtain rfl := Qf H
  exact ⟨rfl, SP.sel g [0,1,2] rfl rfl⟩
def Xb (q3 : Int) (q4 : Int) (q5 : Int) (q6 : Int) (q7 : (List Qd)) (b : Us) (a : Int) (c : (List UInt8)) (d : (List UInt8)) (e : (List UInt8)) (f : Bool) : Option (Bool) :=
  (some ((D1 a)))
set_option maxRecDepth 100000 in
set_option maxHeartbeats 4000000 in
theorem Yv {S : List Nat} (g1 : Nat) (g2 : Nat) (A8 : Option Addr) (c9 : Nat) (b : Nat) (q3 : Int) (q4 : Int) (q5 : Int) (q6 : Int) (c : (List Q8)) (f : Us) (a : Int) (g : (List UInt8)) (h : (List UInt8)) (i : (List UInt8)) (j : Bool) (w0 : World) (hO : SP S w0 w0 [Qo g2 79 #[(.int .i64 q3), (.int .i64 q4), (.int .i64 q5), (.int .i64 q6), (.slice A8 (List.length (List.map stT c)) c9), (.map (some b))], Vq b f, Qo g1 95 #[(pt g2 0), (V2 a g1), (.string ⟨List.toArray g⟩), (.string ⟨List.toArray h⟩), (.string ⟨List.toArray i⟩), (.bool j)]]) (m : ∀ w, Mod S w0 w → (dDS J9 Bj).ok w (A8, c9, c)) (r : (Bool)) (H : Xb q3 q4 q5 q6 (List.map stT c) f a g h i j = some r) :
  Calls Tryz.prog 36 #[(pt g1 0)] w0 (fun e w' => e = .returned (.bool r) ∧ SP S w0 w' [Qo g2 79 #[(.int .i64 q3), (.int .i64 q4), (.int .i64 q5), (.int .i64 q6), (.slice A8 (List.length (List.map stT c)) c9), (.map (some b))], Vq b f, Qo g1 95 #[(pt g2 0), (V2 a g1), (.string ⟨List.toArray g⟩), (.string ⟨List.toArray h⟩), (.string ⟨List.toArray i⟩), (.bool j)]]) := by
 unfold Xb at H
 refine Qt (n := 8) Tryz.func36 K K K ?_
 have l := hO
 refine aQ ?_
 refine aR ?_
 refine iR 1 1 [(2, (.bool false))] ?_
 refine iF ?_
 refine aQ ?_
 refine aR ?_
 refine iR 3 3 [(3, (pt g1 0)), (4, (pt g1 0)), (5, (pt g1 1))] ?_
 refine iS 4 ?_
 refine sL 93 5 g1 1 2 (V2 a g1) 6 l rfl ?_
 refine iS 5 ?_
 refine N3 (op := .eql) (T := 93) (T' := 93) (x := (.tmp 6)) (y := (.const .nilFunc)) (vx := (V2 a g1)) (vy := .nilFunc) (v := (.bool (D1 a))) (d := (some 7)) (k := 4) K rfl K K (by clear H; intro w; unfold V2 D1; cases (a == 1) <;> cases (a == 2) <;> kernel_rfl) ?_
 refine iR 1 6 [(2, (.bool (D1 a)))] ?_
 refine iF ?_
 refine At.ret K ?_
 refine ⟨(.bool (D1 a)), K, ?_⟩
 obtain rfl := Qf H
 exact ⟨rfl, SP.sel l [0,1,2] rfl rfl⟩
end Go.Proofs.YtmgfanhcdfobhaaGreatDoor
namespace Go.Proofs.YtmgfanhcdfobhaaGreatDoor
theorem cut64 (p : Str) (h : p.length ≤ 140737488355328) : sub p 0 (if 64 < ((List.length p : Nat) : Int) then 64 else ((List.length p : Nat) : Int)) = some (p.take 64) := by
  by_cases h2 : 64 < ((List.length p : Nat) : Int)
  · rw [if_pos h2]
    have := Cr p (i := 0) (j := 64) (by omega) (by omega)
    simpa using this
  · rw [if_neg h2]
    have := Cr p (i := 0) (j := p.length) (by omega) (by omega)
    rw [List.take_of_length_le (by omega : p.length ≤ 64)]
    simpa using this
def hearL (l : List Qd) (M : Us) (c : Int) (t k n : Str) (kn : Bool) (kind : Int) (A B : Str) (now : Int) (nonce : Str) : Int × Str × Str × Int × Int × Bool × Int × Str × Str × Str × Bool :=
  cond (c == 1) (cond (kind == 1) (2, nonce.take 64, [], 0, 0, true, 2, A, B, nonce.take 64, kn) (5, [], [], 1, 0, true, 0, t, k, n, kn))
  (cond (c == 2) (cond (kind == 3) (cond (Bv l M t k n A now == 0) (4, [], [], 0, 0, true, 0, t, k, n, true) (5, [], [], Bv l M t k n A now, 0, true, 0, t, k, n, kn)) (5, [], [], 1, 0, true, 0, t, k, n, kn))
  (0, [], [], 0, 0, false, c, t, k, n, kn))
theorem pHear {l : List Qd} (hv : VC l) (w g i e : Int) (M : Us) (c : Int) (t k n : Str) (kn : Bool) (kind : Int) (A B : Str) (N m now : Int) (nonce : Str) (hA : A.length ≤ 140737488355328) (hn : nonce.length ≤ 140737488355328) :
    V0 w g i e l M c t k n kn kind A B N m now nonce = some (hearL l M c t k n kn kind A B now nonce) := by
  unfold V0 Yt Yu Zt D1 hearL
  cases h1 : (c == 1) with
  | true =>
    rw [cond_true, cond_false, cond_true, cond_true, cut64 nonce hn]
    cases hk : (kind == 1) with
    | true => rw [show (kind != 1) = false by rw [bne, hk]; rfl]; rfl
    | false => rw [show (kind != 1) = true by rw [bne, hk]; rfl]; rfl
  | false =>
    cases h2 : (c == 2) with
    | true =>
      rw [cond_false, cond_true, cond_false, cond_false, cond_true, cond_false, cond_true]
      cases hk : (kind == 3) with
      | false => rw [show (kind != 3) = true by rw [bne, hk]; rfl]; rfl
      | true =>
        rw [show (kind != 3) = false by rw [bne, hk]; rfl, cond_false, pVCheck hv _ _ _ _ _ _ _ _ _ hA, Option.bind_some]
        cases he : (Bv l M t k n A now == 0) with
        | true => rw [show (Bv l M t k n A now != 0) = false by rw [bne, he]; rfl]; rfl
        | false => rw [show (Bv l M t k n A now != 0) = true by rw [bne, he]; rfl]; rfl
    | false => rfl
end Go.Proofs.YtmgfanhcdfobhaaGreatDoor
namespace Go.Proofs.YtmgfanhcdfobhaaGreatDoor
open Go.RowKit
def Yw (c : Int) (a : (List UInt8)) (b : (List UInt8)) (d : Int) (e : Int) : Option (Bool) :=
  (some ((decide ((IntKind.wrap .i64 (((List.length a : Nat) : Int) + ((List.length b : Nat) : Int))) > 9000))))
set_option maxRecDepth 100000 in
set_option maxHeartbeats 4000000 in
theorem Nx  (c : Int) (a : (List UInt8)) (b : (List UInt8)) (f : Int) (g : Int) (w0 : World)  (r : (Bool)) (H : Yw c a b f g = some r) :
  Calls Tryz.prog 37 #[(.agg #[(.int .i64 c), (.string ⟨List.toArray a⟩), (.string ⟨List.toArray b⟩), (.int .i64 f), (.int .i64 g)])] w0 (fun e w' => e = .returned (.bool r) ∧ SP [] w0 w' []) := by
 unfold Yw at H
 refine Qt (n := 11) Tryz.func37 K K K ?_
 have i := Q1 [] w0
 refine aQ ?_
 refine aR ?_
 refine iS 1 ?_
 refine Vo (t := 63) (x := (.tmp 0)) (v := (.agg #[(.int .i64 c), (.string ⟨List.toArray a⟩), (.string ⟨List.toArray b⟩), (.int .i64 f), (.int .i64 g)])) (d := (some 1)) (k := 0) K rfl K i ?_
 intro g6 w7 h
 refine iR 1 2 [(2, (.bool false))] ?_
 refine iF ?_
 refine aQ ?_
 refine aR ?_
 refine iR 1 1 [(3, (pt g6 1))] ?_
 refine iS 2 ?_
 refine sL 9 3 g6 1 0 (.string ⟨List.toArray a⟩) 4 h rfl ?_
 refine iR 2 4 [(5, (.int .i64 ((List.length a : Nat) : Int))), (6, (pt g6 2))] ?_
 refine iS 5 ?_
 refine sL 9 6 g6 2 0 (.string ⟨List.toArray b⟩) 7 h rfl ?_
 refine iR 4 9 [(8, (.int .i64 ((List.length b : Nat) : Int))), (9, (.int .i64 (IntKind.wrap .i64 (((List.length a : Nat) : Int) + ((List.length b : Nat) : Int))))), (10, (.bool (decide ((IntKind.wrap .i64 (((List.length a : Nat) : Int) + ((List.length b : Nat) : Int))) > 9000)))), (2, (.bool (decide ((IntKind.wrap .i64 (((List.length a : Nat) : Int) + ((List.length b : Nat) : Int))) > 9000))))] ?_
 refine iF ?_
 refine At.ret K ?_
 refine ⟨(.bool (decide ((IntKind.wrap .i64 (((List.length a : Nat) : Int) + ((List.length b : Nat) : Int))) > 9000))), K, ?_⟩
 obtain rfl := Qf H
 exact ⟨rfl, SP.sel h [] rfl rfl⟩
end Go.Proofs.YtmgfanhcdfobhaaGreatDoor
namespace Go.Proofs.YtmgfanhcdfobhaaGreatDoor
open Go.RowKit
def Jg  : Option Unit :=
  (some ())
set_option maxRecDepth 100000 in
set_option maxHeartbeats 4000000 in
theorem Gm   (w0 : World)  (r : Unit) (H : Jg  = some r) :
  Calls Tryz.prog 56 #[] w0 (fun e w' => ∃ (g7 : Nat) (b : Nat), e = .returned (.agg #[(.int .i64 9), (.int .i64 9), (.int .i64 9), (.int .i64 9), (.slice (some ⟨b, 0, none⟩) (List.length ([(([97, 110, 110] : List UInt8), 0, 0, ([] : List (Int × Int)), ([(([107] : List UInt8), ([115] : List UInt8), 5)] : List ((List UInt8) × (List UInt8) × Int)))] : List Qd)) (List.length ([(([97, 110, 110] : List UInt8), 0, 0, ([] : List (Int × Int)), ([(([107] : List UInt8), ([115] : List UInt8), 5)] : List ((List UInt8) × (List UInt8) × Int)))] : List Qd)))]) ∧ SP [] w0 w' [Ut 48 (Qu Zc (Qu Zc (Qh .i64))) (some ⟨g7, 0, none⟩) (List.length ([(([107] : List UInt8), ([115] : List UInt8), 5)] : List ((List UInt8) × (List UInt8) × Int))) ([(([107] : List UInt8), ([115] : List UInt8), 5)] : List ((List UInt8) × (List UInt8) × Int)), Ut 44 J9 (some ⟨b, 0, none⟩) (List.length ([(([97, 110, 110] : List UInt8), 0, 0, ([] : List (Int × Int)), ([(([107] : List UInt8), ([115] : List UInt8), 5)] : List ((List UInt8) × (List UInt8) × Int)))] : List Qd)) ([(([97, 110, 110] : List UInt8), 0, 0, (none, 0, ([] : List (Int × Int))), ((some ⟨g7, 0, none⟩), (List.length ([(([107] : List UInt8), ([115] : List UInt8), 5)] : List ((List UInt8) × (List UInt8) × Int))), ([(([107] : List UInt8), ([115] : List UInt8), 5)] : List ((List UInt8) × (List UInt8) × Int))))] : List Q8)]) := by
 unfold Jg at H
 refine Qt (n := 6) Tryz.func56 K K K ?_
 have f := Q1 [] w0
 refine aQ ?_
 refine aR ?_
 refine iS 1 ?_
 refine Qj.alloc (t := 24) (z := (.agg #[(.int .i64 0), (.int .i64 0), (.int .i64 0), (.int .i64 0), (.slice none (List.length ([] : List Qd)) 0)])) (d := (some 0)) (k := 0) K rfl K f ?_
 intro g3 w4 h
 refine iF ?_
 refine aQ ?_
 refine aR ?_
 refine iR 1 1 [(1, (.agg #[(.string ⟨List.toArray ([107] : List UInt8)⟩), (.string ⟨List.toArray ([115] : List UInt8)⟩), (.int .i64 5)]))] ?_
 refine iS 2 ?_
 refine Jc (e := (Qu Zc (Qu Zc (Qh .i64)))) (T := 42) (E := 48) (len := 1) (parts := #[(0, (.tmp 1))]) (cs := #[(.string ⟨List.toArray ([107] : List UInt8)⟩), (.string ⟨List.toArray ([115] : List UInt8)⟩), (.int .i64 5)]) ([(([107] : List UInt8), ([115] : List UInt8), 5)] : List ((List UInt8) × (List UInt8) × Int)) (d := (some 2)) (k := 1) K rfl (fun _ => K) h rfl rfl rfl rfl ?_
 intro g7 w8 j
 refine iR 1 3 [(3, (.agg #[(.string ⟨List.toArray ([97, 110, 110] : List UInt8)⟩), (.int .i64 0), (.int .i64 0), (.slice none (List.length ([] : List (Int × Int))) 0), (.slice (some ⟨g7, 0, none⟩) (List.length ([(([107] : List UInt8), ([115] : List UInt8), 5)] : List ((List UInt8) × (List UInt8) × Int))) (List.length ([(([107] : List UInt8), ([115] : List UInt8), 5)] : List ((List UInt8) × (List UInt8) × Int))))]))] ?_
 refine iS 4 ?_
 refine Jc (e := J9) (T := 22) (E := 44) (len := 1) (parts := #[(0, (.tmp 3))]) (cs := #[(.string ⟨List.toArray ([97, 110, 110] : List UInt8)⟩), (.int .i64 0), (.int .i64 0), (.slice none (List.length ([] : List (Int × Int))) 0), (.slice (some ⟨g7, 0, none⟩) (List.length ([(([107] : List UInt8), ([115] : List UInt8), 5)] : List ((List UInt8) × (List UInt8) × Int))) (List.length ([(([107] : List UInt8), ([115] : List UInt8), 5)] : List ((List UInt8) × (List UInt8) × Int))))]) ([(([97, 110, 110] : List UInt8), 0, 0, (none, 0, ([] : List (Int × Int))), ((some ⟨g7, 0, none⟩), (List.length ([(([107] : List UInt8), ([115] : List UInt8), 5)] : List ((List UInt8) × (List UInt8) × Int))), ([(([107] : List UInt8), ([115] : List UInt8), 5)] : List ((List UInt8) × (List UInt8) × Int))))] : List Q8) (d := (some 4)) (k := 3) K rfl (fun _ => K) j rfl rfl rfl rfl ?_
 intro b m l
 refine iR 1 5 [(5, (.agg #[(.int .i64 9), (.int .i64 9), (.int .i64 9), (.int .i64 9), (.slice (some ⟨b, 0, none⟩) (List.length ([(([97, 110, 110] : List UInt8), 0, 0, ([] : List (Int × Int)), ([(([107] : List UInt8), ([115] : List UInt8), 5)] : List ((List UInt8) × (List UInt8) × Int)))] : List Qd)) (List.length ([(([97, 110, 110] : List UInt8), 0, 0, ([] : List (Int × Int)), ([(([107] : List UInt8), ([115] : List UInt8), 5)] : List ((List UInt8) × (List UInt8) × Int)))] : List Qd)))]))] ?_
 refine iS 6 ?_
 refine Qj.store (t := 24) (x := (.tmp 0)) (y := (.tmp 5)) (g := g3) (off := 0) (i := 0) (v := (.agg #[(.int .i64 9), (.int .i64 9), (.int .i64 9), (.int .i64 9), (.slice (some ⟨b, 0, none⟩) (List.length ([(([97, 110, 110] : List UInt8), 0, 0, ([] : List (Int × Int)), ([(([107] : List UInt8), ([115] : List UInt8), 5)] : List ((List UInt8) × (List UInt8) × Int)))] : List Qd)) (List.length ([(([97, 110, 110] : List UInt8), 0, 0, ([] : List (Int × Int)), ([(([107] : List UInt8), ([115] : List UInt8), 5)] : List ((List UInt8) × (List UInt8) × Int)))] : List Qd)))])) (cs' := #[(.int .i64 9), (.int .i64 9), (.int .i64 9), (.int .i64 9), (.slice (some ⟨b, 0, none⟩) (List.length ([(([97, 110, 110] : List UInt8), 0, 0, ([] : List (Int × Int)), ([(([107] : List UInt8), ([115] : List UInt8), 5)] : List ((List UInt8) × (List UInt8) × Int)))] : List Qd)) (List.length ([(([97, 110, 110] : List UInt8), 0, 0, ([] : List (Int × Int)), ([(([107] : List UInt8), ([115] : List UInt8), 5)] : List ((List UInt8) × (List UInt8) × Int)))] : List Qd)))]) (d := none) (k := 5) K rfl K K l rfl K ?_
 intro o c
 refine iF ?_
 refine At.ret K ?_
 refine ⟨(.agg #[(.int .i64 9), (.int .i64 9), (.int .i64 9), (.int .i64 9), (.slice (some ⟨b, 0, none⟩) (List.length ([(([97, 110, 110] : List UInt8), 0, 0, ([] : List (Int × Int)), ([(([107] : List UInt8), ([115] : List UInt8), 5)] : List ((List UInt8) × (List UInt8) × Int)))] : List Qd)) (List.length ([(([97, 110, 110] : List UInt8), 0, 0, ([] : List (Int × Int)), ([(([107] : List UInt8), ([115] : List UInt8), 5)] : List ((List UInt8) × (List UInt8) × Int)))] : List Qd)))]), Rf K (J3 (a := 0) (t := 24) (g := g3) (off := 0) K (SP.get c (i := 0) rfl) K), ?_⟩
 exact ⟨g7, b, rfl, SP.sel c [1, 2] rfl rfl⟩
def Q0 (a : Bool) : Option (Bool) :=
  (some (a))
def X7  : Option (Bool) :=
  ((Jg ).bind fun z1 => ((Jy 9 9 9 9 ([(([97, 110, 110] : List UInt8), 0, 0, ([] : List (Int × Int)), ([(([107] : List UInt8), ([115] : List UInt8), 5)] : List ((List UInt8) × (List UInt8) × Int)))] : List Qd)).bind fun z9 => (optE z9 (some (false)) (fun a => ((Ui a.1 a.2.1 a.2.2.1 a.2.2.2.1 ([(([97, 110, 110] : List UInt8), 0, 0, ([] : List (Int × Int)), ([(([107] : List UInt8), ([115] : List UInt8), 5)] : List ((List UInt8) × (List UInt8) × Int)))] : List Qd) a.2.2.2.2).bind fun f => ((Ui a.1 a.2.1 a.2.2.1 a.2.2.2.1 ([(([97, 110, 110] : List UInt8), 0, 0, ([] : List (Int × Int)), ([(([107] : List UInt8), ([115] : List UInt8), 5)] : List ((List UInt8) × (List UInt8) × Int)))] : List Qd) a.2.2.2.2).bind fun g => ((V0 a.1 a.2.1 a.2.2.1 a.2.2.2.1 ([(([97, 110, 110] : List UInt8), 0, 0, ([] : List (Int × Int)), ([(([107] : List UInt8), ([115] : List UInt8), 5)] : List ((List UInt8) × (List UInt8) × Int)))] : List Qd) a.2.2.2.2 f.1 f.2.1 f.2.2.1 f.2.2.2.1 f.2.2.2.2 1 ([97, 110, 110] : List UInt8) ([107] : List UInt8) 0 0 1 ([110] : List UInt8)).bind fun d => ((Xa a.1 a.2.1 a.2.2.1 a.2.2.2.1 ([(([97, 110, 110] : List UInt8), 0, 0, ([] : List (Int × Int)), ([(([107] : List UInt8), ([115] : List UInt8), 5)] : List ((List UInt8) × (List UInt8) × Int)))] : List Qd) a.2.2.2.2 ([97, 110, 110] : List UInt8) ([107] : List UInt8) ([110] : List UInt8)).bind fun i => ((V0 a.1 a.2.1 a.2.2.1 a.2.2.2.1 ([(([97, 110, 110] : List UInt8), 0, 0, ([] : List (Int × Int)), ([(([107] : List UInt8), ([115] : List UInt8), 5)] : List ((List UInt8) × (List UInt8) × Int)))] : List Qd) a.2.2.2.2 d.2.2.2.2.2.2.1 d.2.2.2.2.2.2.2.1 d.2.2.2.2.2.2.2.2.1 d.2.2.2.2.2.2.2.2.2.1 d.2.2.2.2.2.2.2.2.2.2 3 i ([] : List UInt8) 0 0 2 ([109] : List UInt8)).bind fun c => ((Z1 a.1 a.2.1 a.2.2.1 a.2.2.2.1 ([(([97, 110, 110] : List UInt8), 0, 0, ([] : List (Int × Int)), ([(([107] : List UInt8), ([115] : List UInt8), 5)] : List ((List UInt8) × (List UInt8) × Int)))] : List Qd) a.2.2.2.2 c.2.2.2.2.2.2.1 c.2.2.2.2.2.2.2.1 c.2.2.2.2.2.2.2.2.1 c.2.2.2.2.2.2.2.2.2.1 c.2.2.2.2.2.2.2.2.2.2).bind fun h => ((V0 a.1 a.2.1 a.2.2.1 a.2.2.2.1 ([(([97, 110, 110] : List UInt8), 0, 0, ([] : List (Int × Int)), ([(([107] : List UInt8), ([115] : List UInt8), 5)] : List ((List UInt8) × (List UInt8) × Int)))] : List Qd) a.2.2.2.2 c.2.2.2.2.2.2.1 c.2.2.2.2.2.2.2.1 c.2.2.2.2.2.2.2.2.1 c.2.2.2.2.2.2.2.2.2.1 c.2.2.2.2.2.2.2.2.2.2 13 ([] : List UInt8) ([] : List UInt8) 0 0 3 ([] : List UInt8)).bind fun e => ((V0 a.1 a.2.1 a.2.2.1 a.2.2.2.1 ([(([97, 110, 110] : List UInt8), 0, 0, ([] : List (Int × Int)), ([(([107] : List UInt8), ([115] : List UInt8), 5)] : List ((List UInt8) × (List UInt8) × Int)))] : List Qd) a.2.2.2.2 g.1 g.2.1 g.2.2.1 g.2.2.2.1 g.2.2.2.2 3 ([] : List UInt8) ([] : List UInt8) 0 0 1 ([110] : List UInt8)).bind fun b => ((Z1 a.1 a.2.1 a.2.2.1 a.2.2.2.1 ([(([97, 110, 110] : List UInt8), 0, 0, ([] : List (Int × Int)), ([(([107] : List UInt8), ([115] : List UInt8), 5)] : List ((List UInt8) × (List UInt8) × Int)))] : List Qd) a.2.2.2.2 b.2.2.2.2.2.2.1 b.2.2.2.2.2.2.2.1 b.2.2.2.2.2.2.2.2.1 b.2.2.2.2.2.2.2.2.2.1 b.2.2.2.2.2.2.2.2.2.2).bind fun j => (cond ((d.1 == 2) && ((d.2.1 == ([110] : List UInt8)) && ((d.2.2.1 == ([] : List UInt8)) && ((d.2.2.2.1 == 0) && (d.2.2.2.2.1 == 0))))) (cond d.2.2.2.2.2.1 (cond (c.1 == 4) (cond c.2.2.2.2.2.1 (cond (h.1 == ([97, 110, 110] : List UInt8)) (cond h.2 (cond (!e.2.2.2.2.2.1) (cond ((b.1 == 5) && ((b.2.1 == ([] : List UInt8)) && ((b.2.2.1 == ([] : List UInt8)) && ((b.2.2.2.1 == 1) && (b.2.2.2.2.1 == 0))))) (cond (!j.2) ((Xb a.1 a.2.1 a.2.2.1 a.2.2.2.1 ([(([97, 110, 110] : List UInt8), 0, 0, ([] : List (Int × Int)), ([(([107] : List UInt8), ([115] : List UInt8), 5)] : List ((List UInt8) × (List UInt8) × Int)))] : List Qd) a.2.2.2.2 e.2.2.2.2.2.2.1 e.2.2.2.2.2.2.2.1 e.2.2.2.2.2.2.2.2.1 e.2.2.2.2.2.2.2.2.2.1 e.2.2.2.2.2.2.2.2.2.2).bind fun k => (cond k ((Xb a.1 a.2.1 a.2.2.1 a.2.2.2.1 ([(([97, 110, 110] : List UInt8), 0, 0, ([] : List (Int × Int)), ([(([107] : List UInt8), ([115] : List UInt8), 5)] : List ((List UInt8) × (List UInt8) × Int)))] : List Qd) a.2.2.2.2 b.2.2.2.2.2.2.1 b.2.2.2.2.2.2.2.1 b.2.2.2.2.2.2.2.2.1 b.2.2.2.2.2.2.2.2.2.1 b.2.2.2.2.2.2.2.2.2.2).bind fun l => (Q0 l)) (Q0 false))) (Q0 false)) (Q0 false)) (Q0 false)) (Q0 false)) (Q0 false)) (Q0 false)) (Q0 false)) (Q0 false)) (Q0 false)))))))))))))))
set_option maxRecDepth 100000 in
set_option maxHeartbeats 4000000 in
theorem Ge   (w0 : World) (hL : Rz w0)  (r : (Bool)) (H : X7  = some r) :
  Calls Tryz.prog 31 #[] w0 (fun e w' => e = .returned (.bool r) ∧ SP [] w0 w' []) := by
 unfold X7 at H
 refine Qt (n := 108) Tryz.func31 K K K ?_
 have f8 := Q1 [] w0
 refine aQ ?_
 refine aR ?_
 refine iR 1 1 [(0, (.bool false))] ?_
 refine iF ?_
 refine aQ ?_
 refine aR ?_
 obtain ⟨z1, f9, H⟩ := Qc H
 refine iS 1 ?_
 refine cF 56 #[] #[] 16 Tryz.call56 (Gm   w0  z1 f9) ?_
 rintro e w3 ⟨g5, g6, rfl, d4⟩
 refine ⟨_, rfl, ?_⟩
 have a7 := SP.call f8 d4
 clear d4
 obtain ⟨z9, d5, H⟩ := Qc H
 rcases z9 with _ | c
 ·have H := optN H
  refine iS 2 ?_
  refine cF 18 #[(.tmp 16)] #[24] 17 Tryz.call18 (Jv (some ⟨g6, 0, none⟩) (List.length ([(([97, 110, 110] : List UInt8), 0, 0, ([] : List (Int × Int)), ([(([107] : List UInt8), ([115] : List UInt8), 5)] : List ((List UInt8) × (List UInt8) × Int)))] : List Qd)) 9 9 9 9 ([(([97, 110, 110] : List UInt8), 0, 0, (none, 0, ([] : List (Int × Int))), ((some ⟨g5, 0, none⟩), (List.length ([(([107] : List UInt8), ([115] : List UInt8), 5)] : List ((List UInt8) × (List UInt8) × Int))), ([(([107] : List UInt8), ([115] : List UInt8), 5)] : List ((List UInt8) × (List UInt8) × Int))))] : List Q8) w3 (Zs hL (SP.keeps a7)) (Dh (V1 (SP.get a7 (i := 1) rfl)) (Ue (Z4 Yn (Z4 Yn (Z4 Yn (Z4 (Jw (RdT.nil (Qu (Qh .u32) (Qh .i64)) w3)) (Jw (V1 (SP.get a7 (i := 0) rfl))))))) No)) none d5) ?_
  rintro e j5 ⟨rfl, d6⟩
  refine ⟨_, rfl, ?_⟩
  have g0 := SP.call a7 d6
  clear d6
  refine iR 1 3 [(1, (.pointer none))] ?_
  refine iF ?_
  refine aQ ?_
  refine aQ ?_
  refine aR ?_
  refine iR 2 2 [(18, (.pointer none)), (19, (.bool true))] ?_
  refine iF ?_
  refine Zu K (o := (.tmp 19)) K (b := true) K (fun d7 => ?_) (fun d7 => ?_)
  rotate_left
  ·cases d7
  refine aQ ?_
  refine aR ?_
  refine iR 1 1 [(0, (.bool false))] ?_
  refine iF ?_
  refine At.ret K ?_
  refine ⟨(.bool false), K, ?_⟩
  obtain rfl := Qf H
  exact ⟨rfl, SP.sel g0 [] rfl rfl⟩
 ·have H := optS H
  refine iS 2 ?_
  refine cF 18 #[(.tmp 16)] #[24] 17 Tryz.call18 (Jv (some ⟨g6, 0, none⟩) (List.length ([(([97, 110, 110] : List UInt8), 0, 0, ([] : List (Int × Int)), ([(([107] : List UInt8), ([115] : List UInt8), 5)] : List ((List UInt8) × (List UInt8) × Int)))] : List Qd)) 9 9 9 9 ([(([97, 110, 110] : List UInt8), 0, 0, (none, 0, ([] : List (Int × Int))), ((some ⟨g5, 0, none⟩), (List.length ([(([107] : List UInt8), ([115] : List UInt8), 5)] : List ((List UInt8) × (List UInt8) × Int))), ([(([107] : List UInt8), ([115] : List UInt8), 5)] : List ((List UInt8) × (List UInt8) × Int))))] : List Q8) w3 (Zs hL (SP.keeps a7)) (Dh (V1 (SP.get a7 (i := 1) rfl)) (Ue (Z4 Yn (Z4 Yn (Z4 Yn (Z4 (Jw (RdT.nil (Qu (Qh .u32) (Qh .i64)) w3)) (Jw (V1 (SP.get a7 (i := 0) rfl))))))) No)) (some c) d5) ?_
  rintro e g1 ⟨p, u, rfl, d8⟩
  refine ⟨_, rfl, ?_⟩
  have b2 := SP.call a7 d8
  clear d8
  refine iR 1 3 [(1, (pt p 0))] ?_
  refine iF ?_
  refine aQ ?_
  refine aQ ?_
  refine aR ?_
  refine iR 2 2 [(18, (pt p 0)), (19, (.bool false))] ?_
  refine iF ?_
  refine Zu K (o := (.tmp 19)) K (b := false) K (fun d9 => ?_) (fun d9 => ?_)
  ·cases d9
  refine At.skip K ?_
  refine aQ ?_
  refine aR ?_
  refine iR 1 1 [(20, (pt p 0))] ?_
  obtain ⟨a2, g2, H⟩ := Qc H
  refine iS 2 ?_
  refine cF 33 #[(.tmp 20)] #[29] 21 Tryz.call33 (Uu p (some ⟨g6, 0, none⟩) (List.length ([(([97, 110, 110] : List UInt8), 0, 0, ([] : List (Int × Int)), ([(([107] : List UInt8), ([115] : List UInt8), 5)] : List ((List UInt8) × (List UInt8) × Int)))] : List Qd)) u c.1 c.2.1 c.2.2.1 c.2.2.2.1 ([(([97, 110, 110] : List UInt8), 0, 0, (none, 0, ([] : List (Int × Int))), ((some ⟨g5, 0, none⟩), (List.length ([(([107] : List UInt8), ([115] : List UInt8), 5)] : List ((List UInt8) × (List UInt8) × Int))), ([(([107] : List UInt8), ([115] : List UInt8), 5)] : List ((List UInt8) × (List UInt8) × Int))))] : List Q8) c.2.2.2.2 g1 (Yg b2 [2, 3] rfl rfl) (fun w hm => Dh (V1 (SP.still b2 (l := [2, 3]) (i := 1) rfl rfl rfl hm)) (Ue (Z4 Yn (Z4 Yn (Z4 Yn (Z4 (Gv (Qu (Qh .u32) (Qh .i64)) dT w) (Jw (V1 (SP.still b2 (l := [2, 3]) (i := 0) rfl rfl rfl hm))))))) No)) a2 g2) ?_
  rintro e e0 ⟨s, rfl, e1⟩
  refine ⟨_, rfl, ?_⟩
  have b3 : SP [] w0 e0 [Ut 48 (Qu Zc (Qu Zc (Qh .i64))) (some ⟨g5, 0, none⟩) (List.length ([(([107] : List UInt8), ([115] : List UInt8), 5)] : List ((List UInt8) × (List UInt8) × Int))) ([(([107] : List UInt8), ([115] : List UInt8), 5)] : List ((List UInt8) × (List UInt8) × Int)), Ut 44 J9 (some ⟨g6, 0, none⟩) (List.length ([(([97, 110, 110] : List UInt8), 0, 0, ([] : List (Int × Int)), ([(([107] : List UInt8), ([115] : List UInt8), 5)] : List ((List UInt8) × (List UInt8) × Int)))] : List Qd)) ([(([97, 110, 110] : List UInt8), 0, 0, (none, 0, ([] : List (Int × Int))), ((some ⟨g5, 0, none⟩), (List.length ([(([107] : List UInt8), ([115] : List UInt8), 5)] : List ((List UInt8) × (List UInt8) × Int))), ([(([107] : List UInt8), ([115] : List UInt8), 5)] : List ((List UInt8) × (List UInt8) × Int))))] : List Q8), Qo s 95 #[(pt p 0), (V2 a2.1 s), (.string ⟨List.toArray a2.2.1⟩), (.string ⟨List.toArray a2.2.2.1⟩), (.string ⟨List.toArray a2.2.2.2.1⟩), (.bool a2.2.2.2.2)], Qo p 79 #[(.int .i64 c.1), (.int .i64 c.2.1), (.int .i64 c.2.2.1), (.int .i64 c.2.2.2.1), (.slice (some ⟨g6, 0, none⟩) (List.length ([(([97, 110, 110] : List UInt8), 0, 0, ([] : List (Int × Int)), ([(([107] : List UInt8), ([115] : List UInt8), 5)] : List ((List UInt8) × (List UInt8) × Int)))] : List Qd)) (List.length ([(([97, 110, 110] : List UInt8), 0, 0, ([] : List (Int × Int)), ([(([107] : List UInt8), ([115] : List UInt8), 5)] : List ((List UInt8) × (List UInt8) × Int)))] : List Qd))), (.map (some u))], Vq u c.2.2.2.2] := V7 b2 [2, 3] [0, 1] rfl rfl e1 rfl
  clear e1
  refine iR 1 3 [(2, (pt s 0))] ?_
  refine iF ?_
  refine aQ ?_
  refine aR ?_
  refine iR 1 1 [(22, (pt p 0))] ?_
  obtain ⟨q, g3, H⟩ := Qc H
  refine iS 2 ?_
  refine cF 33 #[(.tmp 22)] #[29] 23 Tryz.call33 (Uu p (some ⟨g6, 0, none⟩) (List.length ([(([97, 110, 110] : List UInt8), 0, 0, ([] : List (Int × Int)), ([(([107] : List UInt8), ([115] : List UInt8), 5)] : List ((List UInt8) × (List UInt8) × Int)))] : List Qd)) u c.1 c.2.1 c.2.2.1 c.2.2.2.1 ([(([97, 110, 110] : List UInt8), 0, 0, (none, 0, ([] : List (Int × Int))), ((some ⟨g5, 0, none⟩), (List.length ([(([107] : List UInt8), ([115] : List UInt8), 5)] : List ((List UInt8) × (List UInt8) × Int))), ([(([107] : List UInt8), ([115] : List UInt8), 5)] : List ((List UInt8) × (List UInt8) × Int))))] : List Q8) c.2.2.2.2 e0 (Yg b3 [3, 4] rfl rfl) (fun w hm => Dh (V1 (SP.still b3 (l := [3, 4]) (i := 1) rfl rfl rfl hm)) (Ue (Z4 Yn (Z4 Yn (Z4 Yn (Z4 (Gv (Qu (Qh .u32) (Qh .i64)) dT w) (Jw (V1 (SP.still b3 (l := [3, 4]) (i := 0) rfl rfl rfl hm))))))) No)) q g3) ?_
  rintro e e2 ⟨a0, rfl, e3⟩
  refine ⟨_, rfl, ?_⟩
  have b4 : SP [] w0 e2 [Ut 48 (Qu Zc (Qu Zc (Qh .i64))) (some ⟨g5, 0, none⟩) (List.length ([(([107] : List UInt8), ([115] : List UInt8), 5)] : List ((List UInt8) × (List UInt8) × Int))) ([(([107] : List UInt8), ([115] : List UInt8), 5)] : List ((List UInt8) × (List UInt8) × Int)), Ut 44 J9 (some ⟨g6, 0, none⟩) (List.length ([(([97, 110, 110] : List UInt8), 0, 0, ([] : List (Int × Int)), ([(([107] : List UInt8), ([115] : List UInt8), 5)] : List ((List UInt8) × (List UInt8) × Int)))] : List Qd)) ([(([97, 110, 110] : List UInt8), 0, 0, (none, 0, ([] : List (Int × Int))), ((some ⟨g5, 0, none⟩), (List.length ([(([107] : List UInt8), ([115] : List UInt8), 5)] : List ((List UInt8) × (List UInt8) × Int))), ([(([107] : List UInt8), ([115] : List UInt8), 5)] : List ((List UInt8) × (List UInt8) × Int))))] : List Q8), Qo s 95 #[(pt p 0), (V2 a2.1 s), (.string ⟨List.toArray a2.2.1⟩), (.string ⟨List.toArray a2.2.2.1⟩), (.string ⟨List.toArray a2.2.2.2.1⟩), (.bool a2.2.2.2.2)], Qo a0 95 #[(pt p 0), (V2 q.1 a0), (.string ⟨List.toArray q.2.1⟩), (.string ⟨List.toArray q.2.2.1⟩), (.string ⟨List.toArray q.2.2.2.1⟩), (.bool q.2.2.2.2)], Qo p 79 #[(.int .i64 c.1), (.int .i64 c.2.1), (.int .i64 c.2.2.1), (.int .i64 c.2.2.2.1), (.slice (some ⟨g6, 0, none⟩) (List.length ([(([97, 110, 110] : List UInt8), 0, 0, ([] : List (Int × Int)), ([(([107] : List UInt8), ([115] : List UInt8), 5)] : List ((List UInt8) × (List UInt8) × Int)))] : List Qd)) (List.length ([(([97, 110, 110] : List UInt8), 0, 0, ([] : List (Int × Int)), ([(([107] : List UInt8), ([115] : List UInt8), 5)] : List ((List UInt8) × (List UInt8) × Int)))] : List Qd))), (.map (some u))], Vq u c.2.2.2.2] := V7 b3 [3, 4] [0, 1, 2] rfl rfl e3 rfl
  clear e3
  refine iR 1 3 [(3, (pt a0 0))] ?_
  refine iF ?_
  refine aQ ?_
  refine aQ ?_
  refine aR ?_
  refine iR 6 6 [(24, (pt s 0)), (25, (.bool false)), (26, (.bool false)), (27, (pt a0 0)), (28, (.bool false)), (29, (.bool false))] ?_
  refine iF ?_
  refine Zu K (o := (.tmp 29)) K (b := false) K (fun e4 => ?_) (fun e4 => ?_)
  ·cases e4
  refine At.skip K ?_
  refine aQ ?_
  refine aR ?_
  refine iR 2 2 [(31, (pt s 0)), (32, (.agg #[(.int .i64 1), (.string ⟨List.toArray ([97, 110, 110] : List UInt8)⟩), (.string ⟨List.toArray ([107] : List UInt8)⟩), (.int .i64 0), (.int .i64 0)]))] ?_
  obtain ⟨f, g4, H⟩ := Qc H
  refine iS 3 ?_
  refine cF 34 #[(.tmp 31), (.tmp 32), (.const (.int .i64 (1))), (.const (.string ⟨List.toArray ([110] : List UInt8)⟩))] #[60, 63, 2, 9] 33 Tryz.call34 (Zr s p (some ⟨g6, 0, none⟩) (List.length ([(([97, 110, 110] : List UInt8), 0, 0, ([] : List (Int × Int)), ([(([107] : List UInt8), ([115] : List UInt8), 5)] : List ((List UInt8) × (List UInt8) × Int)))] : List Qd)) u c.1 c.2.1 c.2.2.1 c.2.2.2.1 ([(([97, 110, 110] : List UInt8), 0, 0, (none, 0, ([] : List (Int × Int))), ((some ⟨g5, 0, none⟩), (List.length ([(([107] : List UInt8), ([115] : List UInt8), 5)] : List ((List UInt8) × (List UInt8) × Int))), ([(([107] : List UInt8), ([115] : List UInt8), 5)] : List ((List UInt8) × (List UInt8) × Int))))] : List Q8) c.2.2.2.2 a2.1 a2.2.1 a2.2.2.1 a2.2.2.2.1 a2.2.2.2.2 1 ([97, 110, 110] : List UInt8) ([107] : List UInt8) 0 0 1 ([110] : List UInt8) e2 (Yg b4 [4, 5, 2] rfl rfl) (fun w hm => Dh (V1 (SP.still b4 (l := [4, 5, 2]) (i := 1) rfl rfl rfl hm)) (Ue (Z4 Yn (Z4 Yn (Z4 Yn (Z4 (Gv (Qu (Qh .u32) (Qh .i64)) dT w) (Jw (V1 (SP.still b4 (l := [4, 5, 2]) (i := 0) rfl rfl rfl hm))))))) No)) f g4) ?_
  rintro e g7 ⟨rfl, e5⟩
  refine ⟨_, rfl, ?_⟩
  have g8 : SP [] w0 g7 [Ut 48 (Qu Zc (Qu Zc (Qh .i64))) (some ⟨g5, 0, none⟩) (List.length ([(([107] : List UInt8), ([115] : List UInt8), 5)] : List ((List UInt8) × (List UInt8) × Int))) ([(([107] : List UInt8), ([115] : List UInt8), 5)] : List ((List UInt8) × (List UInt8) × Int)), Ut 44 J9 (some ⟨g6, 0, none⟩) (List.length ([(([97, 110, 110] : List UInt8), 0, 0, ([] : List (Int × Int)), ([(([107] : List UInt8), ([115] : List UInt8), 5)] : List ((List UInt8) × (List UInt8) × Int)))] : List Qd)) ([(([97, 110, 110] : List UInt8), 0, 0, (none, 0, ([] : List (Int × Int))), ((some ⟨g5, 0, none⟩), (List.length ([(([107] : List UInt8), ([115] : List UInt8), 5)] : List ((List UInt8) × (List UInt8) × Int))), ([(([107] : List UInt8), ([115] : List UInt8), 5)] : List ((List UInt8) × (List UInt8) × Int))))] : List Q8), Qo a0 95 #[(pt p 0), (V2 q.1 a0), (.string ⟨List.toArray q.2.1⟩), (.string ⟨List.toArray q.2.2.1⟩), (.string ⟨List.toArray q.2.2.2.1⟩), (.bool q.2.2.2.2)], Qo p 79 #[(.int .i64 c.1), (.int .i64 c.2.1), (.int .i64 c.2.2.1), (.int .i64 c.2.2.2.1), (.slice (some ⟨g6, 0, none⟩) (List.length ([(([97, 110, 110] : List UInt8), 0, 0, ([] : List (Int × Int)), ([(([107] : List UInt8), ([115] : List UInt8), 5)] : List ((List UInt8) × (List UInt8) × Int)))] : List Qd)) (List.length ([(([97, 110, 110] : List UInt8), 0, 0, ([] : List (Int × Int)), ([(([107] : List UInt8), ([115] : List UInt8), 5)] : List ((List UInt8) × (List UInt8) × Int)))] : List Qd))), (.map (some u))], Vq u c.2.2.2.2, Qo s 95 #[(pt p 0), (V2 f.2.2.2.2.2.2.1 s), (.string ⟨List.toArray f.2.2.2.2.2.2.2.1⟩), (.string ⟨List.toArray f.2.2.2.2.2.2.2.2.1⟩), (.string ⟨List.toArray f.2.2.2.2.2.2.2.2.2.1⟩), (.bool f.2.2.2.2.2.2.2.2.2.2)]] := V7 b4 [4, 5, 2] [0, 1, 3] rfl rfl e5 rfl
  clear e5
  refine iR 3 6 [(30, (.tuple #[(.agg #[(.int .i64 f.1), (.string ⟨List.toArray f.2.1⟩), (.string ⟨List.toArray f.2.2.1⟩), (.int .i64 f.2.2.2.1), (.int .i64 f.2.2.2.2.1)]), (.bool f.2.2.2.2.2.1)])), (34, (.agg #[(.int .i64 f.1), (.string ⟨List.toArray f.2.1⟩), (.string ⟨List.toArray f.2.2.1⟩), (.int .i64 f.2.2.2.1), (.int .i64 f.2.2.2.2.1)])), (35, (.bool f.2.2.2.2.2.1))] ?_
  refine iS 7 ?_
  refine Qj.alloc (t := 63) (z := (.agg #[(.int .i64 0), (.string ⟨List.toArray ([] : List UInt8)⟩), (.string ⟨List.toArray ([] : List UInt8)⟩), (.int .i64 0), (.int .i64 0)])) (d := (some 4)) (k := 6) K rfl K g8 ?_
  intro a5 j6 g9
  refine iS 8 ?_
  refine Qj.store (t := 63) (x := (.tmp 4)) (y := (.tmp 34)) (g := a5) (off := 0) (i := 6) (v := (.agg #[(.int .i64 f.1), (.string ⟨List.toArray f.2.1⟩), (.string ⟨List.toArray f.2.2.1⟩), (.int .i64 f.2.2.2.1), (.int .i64 f.2.2.2.2.1)])) (cs' := #[(.int .i64 f.1), (.string ⟨List.toArray f.2.1⟩), (.string ⟨List.toArray f.2.2.1⟩), (.int .i64 f.2.2.2.1), (.int .i64 f.2.2.2.2.1)]) (d := none) (k := 7) K rfl K K g9 rfl K ?_
  intro h1 b5
  refine iR 1 9 [(5, (.bool f.2.2.2.2.2.1))] ?_
  refine iF ?_
  refine aQ ?_
  refine aR ?_
  refine iR 2 2 [(37, (pt s 0)), (38, (pt p 0))] ?_
  obtain ⟨c3, h2, H⟩ := Qc H
  refine iS 3 ?_
  refine cF 24 #[(.tmp 38), (.const (.string ⟨List.toArray ([97, 110, 110] : List UInt8)⟩)), (.const (.string ⟨List.toArray ([107] : List UInt8)⟩)), (.const (.string ⟨List.toArray ([110] : List UInt8)⟩))] #[29, 9, 9, 9] 39 Tryz.call24 (J8 p (some ⟨g6, 0, none⟩) (List.length ([(([97, 110, 110] : List UInt8), 0, 0, ([] : List (Int × Int)), ([(([107] : List UInt8), ([115] : List UInt8), 5)] : List ((List UInt8) × (List UInt8) × Int)))] : List Qd)) u c.1 c.2.1 c.2.2.1 c.2.2.2.1 ([(([97, 110, 110] : List UInt8), 0, 0, (none, 0, ([] : List (Int × Int))), ((some ⟨g5, 0, none⟩), (List.length ([(([107] : List UInt8), ([115] : List UInt8), 5)] : List ((List UInt8) × (List UInt8) × Int))), ([(([107] : List UInt8), ([115] : List UInt8), 5)] : List ((List UInt8) × (List UInt8) × Int))))] : List Q8) c.2.2.2.2 ([97, 110, 110] : List UInt8) ([107] : List UInt8) ([110] : List UInt8) h1 (Yg b5 [3, 4] rfl rfl) (fun w hm => Dh (V1 (SP.still b5 (l := [3, 4]) (i := 1) rfl rfl rfl hm)) (Ue (Z4 Yn (Z4 Yn (Z4 Yn (Z4 (Gv (Qu (Qh .u32) (Qh .i64)) dT w) (Jw (V1 (SP.still b5 (l := [3, 4]) (i := 0) rfl rfl rfl hm))))))) No)) c3 h2) ?_
  rintro e e6 ⟨rfl, e7⟩
  refine ⟨_, rfl, ?_⟩
  have b6 : SP [] w0 e6 [Ut 48 (Qu Zc (Qu Zc (Qh .i64))) (some ⟨g5, 0, none⟩) (List.length ([(([107] : List UInt8), ([115] : List UInt8), 5)] : List ((List UInt8) × (List UInt8) × Int))) ([(([107] : List UInt8), ([115] : List UInt8), 5)] : List ((List UInt8) × (List UInt8) × Int)), Ut 44 J9 (some ⟨g6, 0, none⟩) (List.length ([(([97, 110, 110] : List UInt8), 0, 0, ([] : List (Int × Int)), ([(([107] : List UInt8), ([115] : List UInt8), 5)] : List ((List UInt8) × (List UInt8) × Int)))] : List Qd)) ([(([97, 110, 110] : List UInt8), 0, 0, (none, 0, ([] : List (Int × Int))), ((some ⟨g5, 0, none⟩), (List.length ([(([107] : List UInt8), ([115] : List UInt8), 5)] : List ((List UInt8) × (List UInt8) × Int))), ([(([107] : List UInt8), ([115] : List UInt8), 5)] : List ((List UInt8) × (List UInt8) × Int))))] : List Q8), Qo a0 95 #[(pt p 0), (V2 q.1 a0), (.string ⟨List.toArray q.2.1⟩), (.string ⟨List.toArray q.2.2.1⟩), (.string ⟨List.toArray q.2.2.2.1⟩), (.bool q.2.2.2.2)], Qo s 95 #[(pt p 0), (V2 f.2.2.2.2.2.2.1 s), (.string ⟨List.toArray f.2.2.2.2.2.2.2.1⟩), (.string ⟨List.toArray f.2.2.2.2.2.2.2.2.1⟩), (.string ⟨List.toArray f.2.2.2.2.2.2.2.2.2.1⟩), (.bool f.2.2.2.2.2.2.2.2.2.2)], Qo a5 63 #[(.int .i64 f.1), (.string ⟨List.toArray f.2.1⟩), (.string ⟨List.toArray f.2.2.1⟩), (.int .i64 f.2.2.2.1), (.int .i64 f.2.2.2.2.1)], Qo p 79 #[(.int .i64 c.1), (.int .i64 c.2.1), (.int .i64 c.2.2.1), (.int .i64 c.2.2.2.1), (.slice (some ⟨g6, 0, none⟩) (List.length ([(([97, 110, 110] : List UInt8), 0, 0, ([] : List (Int × Int)), ([(([107] : List UInt8), ([115] : List UInt8), 5)] : List ((List UInt8) × (List UInt8) × Int)))] : List Qd)) (List.length ([(([97, 110, 110] : List UInt8), 0, 0, ([] : List (Int × Int)), ([(([107] : List UInt8), ([115] : List UInt8), 5)] : List ((List UInt8) × (List UInt8) × Int)))] : List Qd))), (.map (some u))], Vq u c.2.2.2.2] := V7 b5 [3, 4] [0, 1, 2, 5, 6] rfl rfl e7 rfl
  clear e7
  refine iR 1 4 [(40, (.agg #[(.int .i64 3), (.string ⟨List.toArray c3⟩), (.string ⟨List.toArray ([] : List UInt8)⟩), (.int .i64 0), (.int .i64 0)]))] ?_
  obtain ⟨j, h3, H⟩ := Qc H
  refine iS 5 ?_
  refine cF 34 #[(.tmp 37), (.tmp 40), (.const (.int .i64 (2))), (.const (.string ⟨List.toArray ([109] : List UInt8)⟩))] #[60, 63, 2, 9] 41 Tryz.call34 (Zr s p (some ⟨g6, 0, none⟩) (List.length ([(([97, 110, 110] : List UInt8), 0, 0, ([] : List (Int × Int)), ([(([107] : List UInt8), ([115] : List UInt8), 5)] : List ((List UInt8) × (List UInt8) × Int)))] : List Qd)) u c.1 c.2.1 c.2.2.1 c.2.2.2.1 ([(([97, 110, 110] : List UInt8), 0, 0, (none, 0, ([] : List (Int × Int))), ((some ⟨g5, 0, none⟩), (List.length ([(([107] : List UInt8), ([115] : List UInt8), 5)] : List ((List UInt8) × (List UInt8) × Int))), ([(([107] : List UInt8), ([115] : List UInt8), 5)] : List ((List UInt8) × (List UInt8) × Int))))] : List Q8) c.2.2.2.2 f.2.2.2.2.2.2.1 f.2.2.2.2.2.2.2.1 f.2.2.2.2.2.2.2.2.1 f.2.2.2.2.2.2.2.2.2.1 f.2.2.2.2.2.2.2.2.2.2 3 c3 ([] : List UInt8) 0 0 2 ([109] : List UInt8) e6 (Yg b6 [5, 6, 3] rfl rfl) (fun w hm => Dh (V1 (SP.still b6 (l := [5, 6, 3]) (i := 1) rfl rfl rfl hm)) (Ue (Z4 Yn (Z4 Yn (Z4 Yn (Z4 (Gv (Qu (Qh .u32) (Qh .i64)) dT w) (Jw (V1 (SP.still b6 (l := [5, 6, 3]) (i := 0) rfl rfl rfl hm))))))) No)) j h3) ?_
  rintro e h4 ⟨rfl, e8⟩
  refine ⟨_, rfl, ?_⟩
  have h5 : SP [] w0 h4 [Ut 48 (Qu Zc (Qu Zc (Qh .i64))) (some ⟨g5, 0, none⟩) (List.length ([(([107] : List UInt8), ([115] : List UInt8), 5)] : List ((List UInt8) × (List UInt8) × Int))) ([(([107] : List UInt8), ([115] : List UInt8), 5)] : List ((List UInt8) × (List UInt8) × Int)), Ut 44 J9 (some ⟨g6, 0, none⟩) (List.length ([(([97, 110, 110] : List UInt8), 0, 0, ([] : List (Int × Int)), ([(([107] : List UInt8), ([115] : List UInt8), 5)] : List ((List UInt8) × (List UInt8) × Int)))] : List Qd)) ([(([97, 110, 110] : List UInt8), 0, 0, (none, 0, ([] : List (Int × Int))), ((some ⟨g5, 0, none⟩), (List.length ([(([107] : List UInt8), ([115] : List UInt8), 5)] : List ((List UInt8) × (List UInt8) × Int))), ([(([107] : List UInt8), ([115] : List UInt8), 5)] : List ((List UInt8) × (List UInt8) × Int))))] : List Q8), Qo a0 95 #[(pt p 0), (V2 q.1 a0), (.string ⟨List.toArray q.2.1⟩), (.string ⟨List.toArray q.2.2.1⟩), (.string ⟨List.toArray q.2.2.2.1⟩), (.bool q.2.2.2.2)], Qo a5 63 #[(.int .i64 f.1), (.string ⟨List.toArray f.2.1⟩), (.string ⟨List.toArray f.2.2.1⟩), (.int .i64 f.2.2.2.1), (.int .i64 f.2.2.2.2.1)], Qo p 79 #[(.int .i64 c.1), (.int .i64 c.2.1), (.int .i64 c.2.2.1), (.int .i64 c.2.2.2.1), (.slice (some ⟨g6, 0, none⟩) (List.length ([(([97, 110, 110] : List UInt8), 0, 0, ([] : List (Int × Int)), ([(([107] : List UInt8), ([115] : List UInt8), 5)] : List ((List UInt8) × (List UInt8) × Int)))] : List Qd)) (List.length ([(([97, 110, 110] : List UInt8), 0, 0, ([] : List (Int × Int)), ([(([107] : List UInt8), ([115] : List UInt8), 5)] : List ((List UInt8) × (List UInt8) × Int)))] : List Qd))), (.map (some u))], Vq u c.2.2.2.2, Qo s 95 #[(pt p 0), (V2 j.2.2.2.2.2.2.1 s), (.string ⟨List.toArray j.2.2.2.2.2.2.2.1⟩), (.string ⟨List.toArray j.2.2.2.2.2.2.2.2.1⟩), (.string ⟨List.toArray j.2.2.2.2.2.2.2.2.2.1⟩), (.bool j.2.2.2.2.2.2.2.2.2.2)]] := V7 b6 [5, 6, 3] [0, 1, 2, 4] rfl rfl e8 rfl
  clear e8
  refine iR 3 8 [(36, (.tuple #[(.agg #[(.int .i64 j.1), (.string ⟨List.toArray j.2.1⟩), (.string ⟨List.toArray j.2.2.1⟩), (.int .i64 j.2.2.2.1), (.int .i64 j.2.2.2.2.1)]), (.bool j.2.2.2.2.2.1)])), (42, (.agg #[(.int .i64 j.1), (.string ⟨List.toArray j.2.1⟩), (.string ⟨List.toArray j.2.2.1⟩), (.int .i64 j.2.2.2.1), (.int .i64 j.2.2.2.2.1)])), (43, (.bool j.2.2.2.2.2.1))] ?_
  refine iS 9 ?_
  refine Qj.alloc (t := 63) (z := (.agg #[(.int .i64 0), (.string ⟨List.toArray ([] : List UInt8)⟩), (.string ⟨List.toArray ([] : List UInt8)⟩), (.int .i64 0), (.int .i64 0)])) (d := (some 6)) (k := 8) K rfl K h5 ?_
  intro a6 j7 h6
  refine iS 10 ?_
  refine Qj.store (t := 63) (x := (.tmp 6)) (y := (.tmp 42)) (g := a6) (off := 0) (i := 7) (v := (.agg #[(.int .i64 j.1), (.string ⟨List.toArray j.2.1⟩), (.string ⟨List.toArray j.2.2.1⟩), (.int .i64 j.2.2.2.1), (.int .i64 j.2.2.2.2.1)])) (cs' := #[(.int .i64 j.1), (.string ⟨List.toArray j.2.1⟩), (.string ⟨List.toArray j.2.2.1⟩), (.int .i64 j.2.2.2.1), (.int .i64 j.2.2.2.2.1)]) (d := none) (k := 9) K rfl K K h6 rfl K ?_
  intro h7 b7
  refine iR 1 11 [(7, (.bool j.2.2.2.2.2.1))] ?_
  refine iF ?_
  refine aQ ?_
  refine aR ?_
  refine iR 1 1 [(45, (pt s 0))] ?_
  obtain ⟨a1, h8, H⟩ := Qc H
  refine iS 2 ?_
  refine cF 35 #[(.tmp 45)] #[60] 46 Tryz.call35 (Y4 s p (some ⟨g6, 0, none⟩) (List.length ([(([97, 110, 110] : List UInt8), 0, 0, ([] : List (Int × Int)), ([(([107] : List UInt8), ([115] : List UInt8), 5)] : List ((List UInt8) × (List UInt8) × Int)))] : List Qd)) u c.1 c.2.1 c.2.2.1 c.2.2.2.1 ([(([97, 110, 110] : List UInt8), 0, 0, (none, 0, ([] : List (Int × Int))), ((some ⟨g5, 0, none⟩), (List.length ([(([107] : List UInt8), ([115] : List UInt8), 5)] : List ((List UInt8) × (List UInt8) × Int))), ([(([107] : List UInt8), ([115] : List UInt8), 5)] : List ((List UInt8) × (List UInt8) × Int))))] : List Q8) c.2.2.2.2 j.2.2.2.2.2.2.1 j.2.2.2.2.2.2.2.1 j.2.2.2.2.2.2.2.2.1 j.2.2.2.2.2.2.2.2.2.1 j.2.2.2.2.2.2.2.2.2.2 h7 (Yg b7 [4, 5, 6] rfl rfl) (fun w hm => Dh (V1 (SP.still b7 (l := [4, 5, 6]) (i := 1) rfl rfl rfl hm)) (Ue (Z4 Yn (Z4 Yn (Z4 Yn (Z4 (Gv (Qu (Qh .u32) (Qh .i64)) dT w) (Jw (V1 (SP.still b7 (l := [4, 5, 6]) (i := 0) rfl rfl rfl hm))))))) No)) a1 h8) ?_
  rintro e e9 ⟨rfl, f0⟩
  refine ⟨_, rfl, ?_⟩
  have b8 : SP [] w0 e9 [Ut 48 (Qu Zc (Qu Zc (Qh .i64))) (some ⟨g5, 0, none⟩) (List.length ([(([107] : List UInt8), ([115] : List UInt8), 5)] : List ((List UInt8) × (List UInt8) × Int))) ([(([107] : List UInt8), ([115] : List UInt8), 5)] : List ((List UInt8) × (List UInt8) × Int)), Ut 44 J9 (some ⟨g6, 0, none⟩) (List.length ([(([97, 110, 110] : List UInt8), 0, 0, ([] : List (Int × Int)), ([(([107] : List UInt8), ([115] : List UInt8), 5)] : List ((List UInt8) × (List UInt8) × Int)))] : List Qd)) ([(([97, 110, 110] : List UInt8), 0, 0, (none, 0, ([] : List (Int × Int))), ((some ⟨g5, 0, none⟩), (List.length ([(([107] : List UInt8), ([115] : List UInt8), 5)] : List ((List UInt8) × (List UInt8) × Int))), ([(([107] : List UInt8), ([115] : List UInt8), 5)] : List ((List UInt8) × (List UInt8) × Int))))] : List Q8), Qo a0 95 #[(pt p 0), (V2 q.1 a0), (.string ⟨List.toArray q.2.1⟩), (.string ⟨List.toArray q.2.2.1⟩), (.string ⟨List.toArray q.2.2.2.1⟩), (.bool q.2.2.2.2)], Qo a5 63 #[(.int .i64 f.1), (.string ⟨List.toArray f.2.1⟩), (.string ⟨List.toArray f.2.2.1⟩), (.int .i64 f.2.2.2.1), (.int .i64 f.2.2.2.2.1)], Qo a6 63 #[(.int .i64 j.1), (.string ⟨List.toArray j.2.1⟩), (.string ⟨List.toArray j.2.2.1⟩), (.int .i64 j.2.2.2.1), (.int .i64 j.2.2.2.2.1)], Qo p 79 #[(.int .i64 c.1), (.int .i64 c.2.1), (.int .i64 c.2.2.1), (.int .i64 c.2.2.2.1), (.slice (some ⟨g6, 0, none⟩) (List.length ([(([97, 110, 110] : List UInt8), 0, 0, ([] : List (Int × Int)), ([(([107] : List UInt8), ([115] : List UInt8), 5)] : List ((List UInt8) × (List UInt8) × Int)))] : List Qd)) (List.length ([(([97, 110, 110] : List UInt8), 0, 0, ([] : List (Int × Int)), ([(([107] : List UInt8), ([115] : List UInt8), 5)] : List ((List UInt8) × (List UInt8) × Int)))] : List Qd))), (.map (some u))], Vq u c.2.2.2.2, Qo s 95 #[(pt p 0), (V2 j.2.2.2.2.2.2.1 s), (.string ⟨List.toArray j.2.2.2.2.2.2.2.1⟩), (.string ⟨List.toArray j.2.2.2.2.2.2.2.2.1⟩), (.string ⟨List.toArray j.2.2.2.2.2.2.2.2.2.1⟩), (.bool j.2.2.2.2.2.2.2.2.2.2)]] := V7 b7 [4, 5, 6] [0, 1, 2, 3, 7] rfl rfl f0 rfl
  clear f0
  refine iR 5 7 [(44, (.tuple #[(.string ⟨List.toArray a1.1⟩), (.bool a1.2)])), (47, (.string ⟨List.toArray a1.1⟩)), (48, (.bool a1.2)), (8, (.string ⟨List.toArray a1.1⟩)), (9, (.bool a1.2))] ?_
  refine iF ?_
  refine aQ ?_
  refine aR ?_
  refine iR 2 2 [(50, (pt s 0)), (51, (.agg #[(.int .i64 13), (.string ⟨List.toArray ([] : List UInt8)⟩), (.string ⟨List.toArray ([] : List UInt8)⟩), (.int .i64 0), (.int .i64 0)]))] ?_
  obtain ⟨m, h9, H⟩ := Qc H
  refine iS 3 ?_
  refine cF 34 #[(.tmp 50), (.tmp 51), (.const (.int .i64 (3))), (.const (.string ⟨List.toArray ([] : List UInt8)⟩))] #[60, 63, 2, 9] 52 Tryz.call34 (Zr s p (some ⟨g6, 0, none⟩) (List.length ([(([97, 110, 110] : List UInt8), 0, 0, ([] : List (Int × Int)), ([(([107] : List UInt8), ([115] : List UInt8), 5)] : List ((List UInt8) × (List UInt8) × Int)))] : List Qd)) u c.1 c.2.1 c.2.2.1 c.2.2.2.1 ([(([97, 110, 110] : List UInt8), 0, 0, (none, 0, ([] : List (Int × Int))), ((some ⟨g5, 0, none⟩), (List.length ([(([107] : List UInt8), ([115] : List UInt8), 5)] : List ((List UInt8) × (List UInt8) × Int))), ([(([107] : List UInt8), ([115] : List UInt8), 5)] : List ((List UInt8) × (List UInt8) × Int))))] : List Q8) c.2.2.2.2 j.2.2.2.2.2.2.1 j.2.2.2.2.2.2.2.1 j.2.2.2.2.2.2.2.2.1 j.2.2.2.2.2.2.2.2.2.1 j.2.2.2.2.2.2.2.2.2.2 13 ([] : List UInt8) ([] : List UInt8) 0 0 3 ([] : List UInt8) e9 (Yg b8 [5, 6, 7] rfl rfl) (fun w hm => Dh (V1 (SP.still b8 (l := [5, 6, 7]) (i := 1) rfl rfl rfl hm)) (Ue (Z4 Yn (Z4 Yn (Z4 Yn (Z4 (Gv (Qu (Qh .u32) (Qh .i64)) dT w) (Jw (V1 (SP.still b8 (l := [5, 6, 7]) (i := 0) rfl rfl rfl hm))))))) No)) m h9) ?_
  rintro e i0 ⟨rfl, f1⟩
  refine ⟨_, rfl, ?_⟩
  have i1 : SP [] w0 i0 [Ut 48 (Qu Zc (Qu Zc (Qh .i64))) (some ⟨g5, 0, none⟩) (List.length ([(([107] : List UInt8), ([115] : List UInt8), 5)] : List ((List UInt8) × (List UInt8) × Int))) ([(([107] : List UInt8), ([115] : List UInt8), 5)] : List ((List UInt8) × (List UInt8) × Int)), Ut 44 J9 (some ⟨g6, 0, none⟩) (List.length ([(([97, 110, 110] : List UInt8), 0, 0, ([] : List (Int × Int)), ([(([107] : List UInt8), ([115] : List UInt8), 5)] : List ((List UInt8) × (List UInt8) × Int)))] : List Qd)) ([(([97, 110, 110] : List UInt8), 0, 0, (none, 0, ([] : List (Int × Int))), ((some ⟨g5, 0, none⟩), (List.length ([(([107] : List UInt8), ([115] : List UInt8), 5)] : List ((List UInt8) × (List UInt8) × Int))), ([(([107] : List UInt8), ([115] : List UInt8), 5)] : List ((List UInt8) × (List UInt8) × Int))))] : List Q8), Qo a0 95 #[(pt p 0), (V2 q.1 a0), (.string ⟨List.toArray q.2.1⟩), (.string ⟨List.toArray q.2.2.1⟩), (.string ⟨List.toArray q.2.2.2.1⟩), (.bool q.2.2.2.2)], Qo a5 63 #[(.int .i64 f.1), (.string ⟨List.toArray f.2.1⟩), (.string ⟨List.toArray f.2.2.1⟩), (.int .i64 f.2.2.2.1), (.int .i64 f.2.2.2.2.1)], Qo a6 63 #[(.int .i64 j.1), (.string ⟨List.toArray j.2.1⟩), (.string ⟨List.toArray j.2.2.1⟩), (.int .i64 j.2.2.2.1), (.int .i64 j.2.2.2.2.1)], Qo p 79 #[(.int .i64 c.1), (.int .i64 c.2.1), (.int .i64 c.2.2.1), (.int .i64 c.2.2.2.1), (.slice (some ⟨g6, 0, none⟩) (List.length ([(([97, 110, 110] : List UInt8), 0, 0, ([] : List (Int × Int)), ([(([107] : List UInt8), ([115] : List UInt8), 5)] : List ((List UInt8) × (List UInt8) × Int)))] : List Qd)) (List.length ([(([97, 110, 110] : List UInt8), 0, 0, ([] : List (Int × Int)), ([(([107] : List UInt8), ([115] : List UInt8), 5)] : List ((List UInt8) × (List UInt8) × Int)))] : List Qd))), (.map (some u))], Vq u c.2.2.2.2, Qo s 95 #[(pt p 0), (V2 m.2.2.2.2.2.2.1 s), (.string ⟨List.toArray m.2.2.2.2.2.2.2.1⟩), (.string ⟨List.toArray m.2.2.2.2.2.2.2.2.1⟩), (.string ⟨List.toArray m.2.2.2.2.2.2.2.2.2.1⟩), (.bool m.2.2.2.2.2.2.2.2.2.2)]] := V7 b8 [5, 6, 7] [0, 1, 2, 3, 4] rfl rfl f1 rfl
  clear f1
  refine iR 3 6 [(49, (.tuple #[(.agg #[(.int .i64 m.1), (.string ⟨List.toArray m.2.1⟩), (.string ⟨List.toArray m.2.2.1⟩), (.int .i64 m.2.2.2.1), (.int .i64 m.2.2.2.2.1)]), (.bool m.2.2.2.2.2.1)])), (53, (.agg #[(.int .i64 m.1), (.string ⟨List.toArray m.2.1⟩), (.string ⟨List.toArray m.2.2.1⟩), (.int .i64 m.2.2.2.1), (.int .i64 m.2.2.2.2.1)])), (54, (.bool m.2.2.2.2.2.1))] ?_
  refine iS 7 ?_
  refine Qj.alloc (t := 63) (z := (.agg #[(.int .i64 0), (.string ⟨List.toArray ([] : List UInt8)⟩), (.string ⟨List.toArray ([] : List UInt8)⟩), (.int .i64 0), (.int .i64 0)])) (d := (some 10)) (k := 6) K rfl K i1 ?_
  intro a9 j8 i2
  refine iS 8 ?_
  refine Qj.store (t := 63) (x := (.tmp 10)) (y := (.tmp 53)) (g := a9) (off := 0) (i := 8) (v := (.agg #[(.int .i64 m.1), (.string ⟨List.toArray m.2.1⟩), (.string ⟨List.toArray m.2.2.1⟩), (.int .i64 m.2.2.2.1), (.int .i64 m.2.2.2.2.1)])) (cs' := #[(.int .i64 m.1), (.string ⟨List.toArray m.2.1⟩), (.string ⟨List.toArray m.2.2.1⟩), (.int .i64 m.2.2.2.1), (.int .i64 m.2.2.2.2.1)]) (d := none) (k := 7) K rfl K K i2 rfl K ?_
  intro i3 b9
  refine iR 1 9 [(11, (.bool m.2.2.2.2.2.1))] ?_
  refine iF ?_
  refine aQ ?_
  refine aR ?_
  refine iR 2 2 [(56, (pt a0 0)), (57, (.agg #[(.int .i64 3), (.string ⟨List.toArray ([] : List UInt8)⟩), (.string ⟨List.toArray ([] : List UInt8)⟩), (.int .i64 0), (.int .i64 0)]))] ?_
  obtain ⟨h, i4, H⟩ := Qc H
  refine iS 3 ?_
  refine cF 34 #[(.tmp 56), (.tmp 57), (.const (.int .i64 (1))), (.const (.string ⟨List.toArray ([110] : List UInt8)⟩))] #[60, 63, 2, 9] 58 Tryz.call34 (Zr a0 p (some ⟨g6, 0, none⟩) (List.length ([(([97, 110, 110] : List UInt8), 0, 0, ([] : List (Int × Int)), ([(([107] : List UInt8), ([115] : List UInt8), 5)] : List ((List UInt8) × (List UInt8) × Int)))] : List Qd)) u c.1 c.2.1 c.2.2.1 c.2.2.2.1 ([(([97, 110, 110] : List UInt8), 0, 0, (none, 0, ([] : List (Int × Int))), ((some ⟨g5, 0, none⟩), (List.length ([(([107] : List UInt8), ([115] : List UInt8), 5)] : List ((List UInt8) × (List UInt8) × Int))), ([(([107] : List UInt8), ([115] : List UInt8), 5)] : List ((List UInt8) × (List UInt8) × Int))))] : List Q8) c.2.2.2.2 q.1 q.2.1 q.2.2.1 q.2.2.2.1 q.2.2.2.2 3 ([] : List UInt8) ([] : List UInt8) 0 0 1 ([110] : List UInt8) i3 (Yg b9 [5, 6, 2] rfl rfl) (fun w hm => Dh (V1 (SP.still b9 (l := [5, 6, 2]) (i := 1) rfl rfl rfl hm)) (Ue (Z4 Yn (Z4 Yn (Z4 Yn (Z4 (Gv (Qu (Qh .u32) (Qh .i64)) dT w) (Jw (V1 (SP.still b9 (l := [5, 6, 2]) (i := 0) rfl rfl rfl hm))))))) No)) h i4) ?_
  rintro e i5 ⟨rfl, f2⟩
  refine ⟨_, rfl, ?_⟩
  have i6 : SP [] w0 i5 [Ut 48 (Qu Zc (Qu Zc (Qh .i64))) (some ⟨g5, 0, none⟩) (List.length ([(([107] : List UInt8), ([115] : List UInt8), 5)] : List ((List UInt8) × (List UInt8) × Int))) ([(([107] : List UInt8), ([115] : List UInt8), 5)] : List ((List UInt8) × (List UInt8) × Int)), Ut 44 J9 (some ⟨g6, 0, none⟩) (List.length ([(([97, 110, 110] : List UInt8), 0, 0, ([] : List (Int × Int)), ([(([107] : List UInt8), ([115] : List UInt8), 5)] : List ((List UInt8) × (List UInt8) × Int)))] : List Qd)) ([(([97, 110, 110] : List UInt8), 0, 0, (none, 0, ([] : List (Int × Int))), ((some ⟨g5, 0, none⟩), (List.length ([(([107] : List UInt8), ([115] : List UInt8), 5)] : List ((List UInt8) × (List UInt8) × Int))), ([(([107] : List UInt8), ([115] : List UInt8), 5)] : List ((List UInt8) × (List UInt8) × Int))))] : List Q8), Qo a5 63 #[(.int .i64 f.1), (.string ⟨List.toArray f.2.1⟩), (.string ⟨List.toArray f.2.2.1⟩), (.int .i64 f.2.2.2.1), (.int .i64 f.2.2.2.2.1)], Qo a6 63 #[(.int .i64 j.1), (.string ⟨List.toArray j.2.1⟩), (.string ⟨List.toArray j.2.2.1⟩), (.int .i64 j.2.2.2.1), (.int .i64 j.2.2.2.2.1)], Qo s 95 #[(pt p 0), (V2 m.2.2.2.2.2.2.1 s), (.string ⟨List.toArray m.2.2.2.2.2.2.2.1⟩), (.string ⟨List.toArray m.2.2.2.2.2.2.2.2.1⟩), (.string ⟨List.toArray m.2.2.2.2.2.2.2.2.2.1⟩), (.bool m.2.2.2.2.2.2.2.2.2.2)], Qo a9 63 #[(.int .i64 m.1), (.string ⟨List.toArray m.2.1⟩), (.string ⟨List.toArray m.2.2.1⟩), (.int .i64 m.2.2.2.1), (.int .i64 m.2.2.2.2.1)], Qo p 79 #[(.int .i64 c.1), (.int .i64 c.2.1), (.int .i64 c.2.2.1), (.int .i64 c.2.2.2.1), (.slice (some ⟨g6, 0, none⟩) (List.length ([(([97, 110, 110] : List UInt8), 0, 0, ([] : List (Int × Int)), ([(([107] : List UInt8), ([115] : List UInt8), 5)] : List ((List UInt8) × (List UInt8) × Int)))] : List Qd)) (List.length ([(([97, 110, 110] : List UInt8), 0, 0, ([] : List (Int × Int)), ([(([107] : List UInt8), ([115] : List UInt8), 5)] : List ((List UInt8) × (List UInt8) × Int)))] : List Qd))), (.map (some u))], Vq u c.2.2.2.2, Qo a0 95 #[(pt p 0), (V2 h.2.2.2.2.2.2.1 a0), (.string ⟨List.toArray h.2.2.2.2.2.2.2.1⟩), (.string ⟨List.toArray h.2.2.2.2.2.2.2.2.1⟩), (.string ⟨List.toArray h.2.2.2.2.2.2.2.2.2.1⟩), (.bool h.2.2.2.2.2.2.2.2.2.2)]] := V7 b9 [5, 6, 2] [0, 1, 3, 4, 7, 8] rfl rfl f2 rfl
  clear f2
  refine iR 3 6 [(55, (.tuple #[(.agg #[(.int .i64 h.1), (.string ⟨List.toArray h.2.1⟩), (.string ⟨List.toArray h.2.2.1⟩), (.int .i64 h.2.2.2.1), (.int .i64 h.2.2.2.2.1)]), (.bool h.2.2.2.2.2.1)])), (59, (.agg #[(.int .i64 h.1), (.string ⟨List.toArray h.2.1⟩), (.string ⟨List.toArray h.2.2.1⟩), (.int .i64 h.2.2.2.1), (.int .i64 h.2.2.2.2.1)])), (60, (.bool h.2.2.2.2.2.1))] ?_
  refine iS 7 ?_
  refine Qj.alloc (t := 63) (z := (.agg #[(.int .i64 0), (.string ⟨List.toArray ([] : List UInt8)⟩), (.string ⟨List.toArray ([] : List UInt8)⟩), (.int .i64 0), (.int .i64 0)])) (d := (some 12)) (k := 6) K rfl K i6 ?_
  intro b0 j9 i7
  refine iS 8 ?_
  refine Qj.store (t := 63) (x := (.tmp 12)) (y := (.tmp 59)) (g := b0) (off := 0) (i := 9) (v := (.agg #[(.int .i64 h.1), (.string ⟨List.toArray h.2.1⟩), (.string ⟨List.toArray h.2.2.1⟩), (.int .i64 h.2.2.2.1), (.int .i64 h.2.2.2.2.1)])) (cs' := #[(.int .i64 h.1), (.string ⟨List.toArray h.2.1⟩), (.string ⟨List.toArray h.2.2.1⟩), (.int .i64 h.2.2.2.1), (.int .i64 h.2.2.2.2.1)]) (d := none) (k := 7) K rfl K K i7 rfl K ?_
  intro i8 c0
  refine iR 1 9 [(13, (.bool h.2.2.2.2.2.1))] ?_
  refine iF ?_
  refine aQ ?_
  refine aR ?_
  refine iR 1 1 [(62, (pt a0 0))] ?_
  obtain ⟨a4, i9, H⟩ := Qc H
  refine iS 2 ?_
  refine cF 35 #[(.tmp 62)] #[60] 63 Tryz.call35 (Y4 a0 p (some ⟨g6, 0, none⟩) (List.length ([(([97, 110, 110] : List UInt8), 0, 0, ([] : List (Int × Int)), ([(([107] : List UInt8), ([115] : List UInt8), 5)] : List ((List UInt8) × (List UInt8) × Int)))] : List Qd)) u c.1 c.2.1 c.2.2.1 c.2.2.2.1 ([(([97, 110, 110] : List UInt8), 0, 0, (none, 0, ([] : List (Int × Int))), ((some ⟨g5, 0, none⟩), (List.length ([(([107] : List UInt8), ([115] : List UInt8), 5)] : List ((List UInt8) × (List UInt8) × Int))), ([(([107] : List UInt8), ([115] : List UInt8), 5)] : List ((List UInt8) × (List UInt8) × Int))))] : List Q8) c.2.2.2.2 h.2.2.2.2.2.2.1 h.2.2.2.2.2.2.2.1 h.2.2.2.2.2.2.2.2.1 h.2.2.2.2.2.2.2.2.2.1 h.2.2.2.2.2.2.2.2.2.2 i8 (Yg c0 [6, 7, 8] rfl rfl) (fun w hm => Dh (V1 (SP.still c0 (l := [6, 7, 8]) (i := 1) rfl rfl rfl hm)) (Ue (Z4 Yn (Z4 Yn (Z4 Yn (Z4 (Gv (Qu (Qh .u32) (Qh .i64)) dT w) (Jw (V1 (SP.still c0 (l := [6, 7, 8]) (i := 0) rfl rfl rfl hm))))))) No)) a4 i9) ?_
  rintro e f3 ⟨rfl, f4⟩
  refine ⟨_, rfl, ?_⟩
  have a3 : SP [] w0 f3 [Ut 48 (Qu Zc (Qu Zc (Qh .i64))) (some ⟨g5, 0, none⟩) (List.length ([(([107] : List UInt8), ([115] : List UInt8), 5)] : List ((List UInt8) × (List UInt8) × Int))) ([(([107] : List UInt8), ([115] : List UInt8), 5)] : List ((List UInt8) × (List UInt8) × Int)), Ut 44 J9 (some ⟨g6, 0, none⟩) (List.length ([(([97, 110, 110] : List UInt8), 0, 0, ([] : List (Int × Int)), ([(([107] : List UInt8), ([115] : List UInt8), 5)] : List ((List UInt8) × (List UInt8) × Int)))] : List Qd)) ([(([97, 110, 110] : List UInt8), 0, 0, (none, 0, ([] : List (Int × Int))), ((some ⟨g5, 0, none⟩), (List.length ([(([107] : List UInt8), ([115] : List UInt8), 5)] : List ((List UInt8) × (List UInt8) × Int))), ([(([107] : List UInt8), ([115] : List UInt8), 5)] : List ((List UInt8) × (List UInt8) × Int))))] : List Q8), Qo a5 63 #[(.int .i64 f.1), (.string ⟨List.toArray f.2.1⟩), (.string ⟨List.toArray f.2.2.1⟩), (.int .i64 f.2.2.2.1), (.int .i64 f.2.2.2.2.1)], Qo a6 63 #[(.int .i64 j.1), (.string ⟨List.toArray j.2.1⟩), (.string ⟨List.toArray j.2.2.1⟩), (.int .i64 j.2.2.2.1), (.int .i64 j.2.2.2.2.1)], Qo s 95 #[(pt p 0), (V2 m.2.2.2.2.2.2.1 s), (.string ⟨List.toArray m.2.2.2.2.2.2.2.1⟩), (.string ⟨List.toArray m.2.2.2.2.2.2.2.2.1⟩), (.string ⟨List.toArray m.2.2.2.2.2.2.2.2.2.1⟩), (.bool m.2.2.2.2.2.2.2.2.2.2)], Qo a9 63 #[(.int .i64 m.1), (.string ⟨List.toArray m.2.1⟩), (.string ⟨List.toArray m.2.2.1⟩), (.int .i64 m.2.2.2.1), (.int .i64 m.2.2.2.2.1)], Qo b0 63 #[(.int .i64 h.1), (.string ⟨List.toArray h.2.1⟩), (.string ⟨List.toArray h.2.2.1⟩), (.int .i64 h.2.2.2.1), (.int .i64 h.2.2.2.2.1)], Qo p 79 #[(.int .i64 c.1), (.int .i64 c.2.1), (.int .i64 c.2.2.1), (.int .i64 c.2.2.2.1), (.slice (some ⟨g6, 0, none⟩) (List.length ([(([97, 110, 110] : List UInt8), 0, 0, ([] : List (Int × Int)), ([(([107] : List UInt8), ([115] : List UInt8), 5)] : List ((List UInt8) × (List UInt8) × Int)))] : List Qd)) (List.length ([(([97, 110, 110] : List UInt8), 0, 0, ([] : List (Int × Int)), ([(([107] : List UInt8), ([115] : List UInt8), 5)] : List ((List UInt8) × (List UInt8) × Int)))] : List Qd))), (.map (some u))], Vq u c.2.2.2.2, Qo a0 95 #[(pt p 0), (V2 h.2.2.2.2.2.2.1 a0), (.string ⟨List.toArray h.2.2.2.2.2.2.2.1⟩), (.string ⟨List.toArray h.2.2.2.2.2.2.2.2.1⟩), (.string ⟨List.toArray h.2.2.2.2.2.2.2.2.2.1⟩), (.bool h.2.2.2.2.2.2.2.2.2.2)]] := V7 c0 [6, 7, 8] [0, 1, 2, 3, 4, 5, 9] rfl rfl f4 rfl
  clear f4
  refine iR 5 7 [(61, (.tuple #[(.string ⟨List.toArray a4.1⟩), (.bool a4.2)])), (64, (.string ⟨List.toArray a4.1⟩)), (65, (.bool a4.2)), (14, (.string ⟨List.toArray a4.1⟩)), (15, (.bool a4.2))] ?_
  refine iF ?_
  refine aQ ?_
  refine At.join (fun ρ w => ∃ (a8 : Bool), Zg ρ [(0, (.bool a8))] ∧ SP [] w0 w [] ∧ Q0 a8 = some r) ?_ ?_
  ·refine aR ?_
   refine iS 1 ?_
   refine sL 63 4 a5 0 2 (.agg #[(.int .i64 f.1), (.string ⟨List.toArray f.2.1⟩), (.string ⟨List.toArray f.2.2.1⟩), (.int .i64 f.2.2.2.1), (.int .i64 f.2.2.2.2.1)]) 66 a3 rfl ?_
   refine iR 1 2 [(67, (.agg #[(.int .i64 2), (.string ⟨List.toArray ([110] : List UInt8)⟩), (.string ⟨List.toArray ([] : List UInt8)⟩), (.int .i64 0), (.int .i64 0)]))] ?_
   refine iS 3 ?_
   refine N3 (op := .eql) (T := 63) (T' := 63) (x := (.tmp 66)) (y := (.tmp 67)) (vx := (.agg #[(.int .i64 f.1), (.string ⟨List.toArray f.2.1⟩), (.string ⟨List.toArray f.2.2.1⟩), (.int .i64 f.2.2.2.1), (.int .i64 f.2.2.2.2.1)])) (vy := (.agg #[(.int .i64 2), (.string ⟨List.toArray ([110] : List UInt8)⟩), (.string ⟨List.toArray ([] : List UInt8)⟩), (.int .i64 0), (.int .i64 0)])) (v := (.bool ((f.1 == 2) && ((f.2.1 == ([110] : List UInt8)) && ((f.2.2.1 == ([] : List UInt8)) && ((f.2.2.2.1 == 0) && (f.2.2.2.2.1 == 0))))))) (d := (some 68)) (k := 2) K rfl K K (by clear H; intro w; simp only [Ng]; go_simp; simp only [Nl, U4, Gt, Ng, Bool.and_true] <;> simp only [Bool.not_and]) ?_
   refine iR 1 4 [(69, (.bool ((f.1 == 2) && ((f.2.1 == ([110] : List UInt8)) && ((f.2.2.1 == ([] : List UInt8)) && ((f.2.2.2.1 == 0) && (f.2.2.2.2.1 == 0)))))))] ?_
   refine In.guard (t := 69) (b := ((f.1 == 2) && ((f.2.1 == ([110] : List UInt8)) && ((f.2.2.1 == ([] : List UInt8)) && ((f.2.2.2.1 == 0) && (f.2.2.2.2.1 == 0)))))) K (fun c4 => ?_) (fun c4 => ?_)
   ·have H := ct H c4
    refine iR 3 7 [(70, (.bool f.2.2.2.2.2.1)), (71, (.bool f.2.2.2.2.2.1)), (72, (.bool f.2.2.2.2.2.1))] ?_
    refine In.guard (t := 72) (b := f.2.2.2.2.2.1) K (fun c5 => ?_) (fun c5 => ?_)
    ·have H := ct H c5
     refine iR 1 8 [(73, (pt a6 0))] ?_
     refine iS 9 ?_
     refine sL 3 73 a6 0 3 (.int .i64 j.1) 74 a3 rfl ?_
     refine iR 3 12 [(75, (.bool (j.1 == 4))), (76, (.bool (j.1 == 4))), (77, (.bool (j.1 == 4)))] ?_
     refine In.guard (t := 77) (b := (j.1 == 4)) K (fun c6 => ?_) (fun c6 => ?_)
     ·have H := ct H c6
      refine iR 3 15 [(78, (.bool j.2.2.2.2.2.1)), (79, (.bool j.2.2.2.2.2.1)), (80, (.bool j.2.2.2.2.2.1))] ?_
      refine In.guard (t := 80) (b := j.2.2.2.2.2.1) K (fun c7 => ?_) (fun c7 => ?_)
      ·have H := ct H c7
       refine iR 1 16 [(81, (.string ⟨List.toArray a1.1⟩))] ?_
       refine iS 17 ?_
       refine Jb (op := .eql) (T := 9) (T' := 9) (x := (.tmp 81)) (y := (.const (.string ⟨List.toArray ([97, 110, 110] : List UInt8)⟩))) (a := a1.1) (b := ([97, 110, 110] : List UInt8)) (r := (.bool (a1.1 == ([97, 110, 110] : List UInt8)))) (d := (some 82)) (k := 16) K rfl K K rfl ?_
       refine iR 2 19 [(83, (.bool (a1.1 == ([97, 110, 110] : List UInt8)))), (84, (.bool (a1.1 == ([97, 110, 110] : List UInt8))))] ?_
       refine In.guard (t := 84) (b := (a1.1 == ([97, 110, 110] : List UInt8))) K (fun c8 => ?_) (fun c8 => ?_)
       ·have H := ct H c8
        refine iR 3 22 [(85, (.bool a1.2)), (86, (.bool a1.2)), (87, (.bool a1.2))] ?_
        refine In.guard (t := 87) (b := a1.2) K (fun c9 => ?_) (fun c9 => ?_)
        ·have H := ct H c9
         refine iR 4 26 [(88, (.bool m.2.2.2.2.2.1)), (89, (.bool (!m.2.2.2.2.2.1))), (90, (.bool (!m.2.2.2.2.2.1))), (91, (.bool (!m.2.2.2.2.2.1)))] ?_
         refine In.guard (t := 91) (b := (!m.2.2.2.2.2.1)) K (fun d0 => ?_) (fun d0 => ?_)
         ·have H := ct H d0
          refine iS 27 ?_
          refine sL 63 12 b0 0 6 (.agg #[(.int .i64 h.1), (.string ⟨List.toArray h.2.1⟩), (.string ⟨List.toArray h.2.2.1⟩), (.int .i64 h.2.2.2.1), (.int .i64 h.2.2.2.2.1)]) 92 a3 rfl ?_
          refine iR 1 28 [(93, (.agg #[(.int .i64 5), (.string ⟨List.toArray ([] : List UInt8)⟩), (.string ⟨List.toArray ([] : List UInt8)⟩), (.int .i64 1), (.int .i64 0)]))] ?_
          refine iS 29 ?_
          refine N3 (op := .eql) (T := 63) (T' := 63) (x := (.tmp 92)) (y := (.tmp 93)) (vx := (.agg #[(.int .i64 h.1), (.string ⟨List.toArray h.2.1⟩), (.string ⟨List.toArray h.2.2.1⟩), (.int .i64 h.2.2.2.1), (.int .i64 h.2.2.2.2.1)])) (vy := (.agg #[(.int .i64 5), (.string ⟨List.toArray ([] : List UInt8)⟩), (.string ⟨List.toArray ([] : List UInt8)⟩), (.int .i64 1), (.int .i64 0)])) (v := (.bool ((h.1 == 5) && ((h.2.1 == ([] : List UInt8)) && ((h.2.2.1 == ([] : List UInt8)) && ((h.2.2.2.1 == 1) && (h.2.2.2.2.1 == 0))))))) (d := (some 94)) (k := 28) K rfl K K (by clear H; intro w; simp only [Ng]; go_simp; simp only [Nl, U4, Gt, Ng, Bool.and_true] <;> simp only [Bool.not_and]) ?_
          refine iR 2 31 [(95, (.bool ((h.1 == 5) && ((h.2.1 == ([] : List UInt8)) && ((h.2.2.1 == ([] : List UInt8)) && ((h.2.2.2.1 == 1) && (h.2.2.2.2.1 == 0))))))), (96, (.bool ((h.1 == 5) && ((h.2.1 == ([] : List UInt8)) && ((h.2.2.1 == ([] : List UInt8)) && ((h.2.2.2.1 == 1) && (h.2.2.2.2.1 == 0)))))))] ?_
          refine In.guard (t := 96) (b := ((h.1 == 5) && ((h.2.1 == ([] : List UInt8)) && ((h.2.2.1 == ([] : List UInt8)) && ((h.2.2.2.1 == 1) && (h.2.2.2.2.1 == 0)))))) K (fun d1 => ?_) (fun d1 => ?_)
          ·have H := ct H d1
           refine iR 4 35 [(97, (.bool a4.2)), (98, (.bool (!a4.2))), (99, (.bool (!a4.2))), (100, (.bool (!a4.2)))] ?_
           refine In.guard (t := 100) (b := (!a4.2)) K (fun d2 => ?_) (fun d2 => ?_)
           ·have H := ct H d2
            refine iR 1 36 [(101, (pt s 0))] ?_
            obtain ⟨c1, j0, H⟩ := Qc H
            refine iS 37 ?_
            refine cF 36 #[(.tmp 101)] #[60] 102 Tryz.call36 (Yv s p (some ⟨g6, 0, none⟩) (List.length ([(([97, 110, 110] : List UInt8), 0, 0, ([] : List (Int × Int)), ([(([107] : List UInt8), ([115] : List UInt8), 5)] : List ((List UInt8) × (List UInt8) × Int)))] : List Qd)) u c.1 c.2.1 c.2.2.1 c.2.2.2.1 ([(([97, 110, 110] : List UInt8), 0, 0, (none, 0, ([] : List (Int × Int))), ((some ⟨g5, 0, none⟩), (List.length ([(([107] : List UInt8), ([115] : List UInt8), 5)] : List ((List UInt8) × (List UInt8) × Int))), ([(([107] : List UInt8), ([115] : List UInt8), 5)] : List ((List UInt8) × (List UInt8) × Int))))] : List Q8) c.2.2.2.2 m.2.2.2.2.2.2.1 m.2.2.2.2.2.2.2.1 m.2.2.2.2.2.2.2.2.1 m.2.2.2.2.2.2.2.2.2.1 m.2.2.2.2.2.2.2.2.2.2 f3 (Yg a3 [7, 8, 4] rfl rfl) (fun w hm => Dh (V1 (SP.still a3 (l := [7, 8, 4]) (i := 1) rfl rfl rfl hm)) (Ue (Z4 Yn (Z4 Yn (Z4 Yn (Z4 (Gv (Qu (Qh .u32) (Qh .i64)) dT w) (Jw (V1 (SP.still a3 (l := [7, 8, 4]) (i := 0) rfl rfl rfl hm))))))) No)) c1 j0) ?_
            rintro e f5 ⟨rfl, f6⟩
            refine ⟨_, rfl, ?_⟩
            have b1 : SP [] w0 f5 [Ut 48 (Qu Zc (Qu Zc (Qh .i64))) (some ⟨g5, 0, none⟩) (List.length ([(([107] : List UInt8), ([115] : List UInt8), 5)] : List ((List UInt8) × (List UInt8) × Int))) ([(([107] : List UInt8), ([115] : List UInt8), 5)] : List ((List UInt8) × (List UInt8) × Int)), Ut 44 J9 (some ⟨g6, 0, none⟩) (List.length ([(([97, 110, 110] : List UInt8), 0, 0, ([] : List (Int × Int)), ([(([107] : List UInt8), ([115] : List UInt8), 5)] : List ((List UInt8) × (List UInt8) × Int)))] : List Qd)) ([(([97, 110, 110] : List UInt8), 0, 0, (none, 0, ([] : List (Int × Int))), ((some ⟨g5, 0, none⟩), (List.length ([(([107] : List UInt8), ([115] : List UInt8), 5)] : List ((List UInt8) × (List UInt8) × Int))), ([(([107] : List UInt8), ([115] : List UInt8), 5)] : List ((List UInt8) × (List UInt8) × Int))))] : List Q8), Qo a5 63 #[(.int .i64 f.1), (.string ⟨List.toArray f.2.1⟩), (.string ⟨List.toArray f.2.2.1⟩), (.int .i64 f.2.2.2.1), (.int .i64 f.2.2.2.2.1)], Qo a6 63 #[(.int .i64 j.1), (.string ⟨List.toArray j.2.1⟩), (.string ⟨List.toArray j.2.2.1⟩), (.int .i64 j.2.2.2.1), (.int .i64 j.2.2.2.2.1)], Qo a9 63 #[(.int .i64 m.1), (.string ⟨List.toArray m.2.1⟩), (.string ⟨List.toArray m.2.2.1⟩), (.int .i64 m.2.2.2.1), (.int .i64 m.2.2.2.2.1)], Qo b0 63 #[(.int .i64 h.1), (.string ⟨List.toArray h.2.1⟩), (.string ⟨List.toArray h.2.2.1⟩), (.int .i64 h.2.2.2.1), (.int .i64 h.2.2.2.2.1)], Qo a0 95 #[(pt p 0), (V2 h.2.2.2.2.2.2.1 a0), (.string ⟨List.toArray h.2.2.2.2.2.2.2.1⟩), (.string ⟨List.toArray h.2.2.2.2.2.2.2.2.1⟩), (.string ⟨List.toArray h.2.2.2.2.2.2.2.2.2.1⟩), (.bool h.2.2.2.2.2.2.2.2.2.2)], Qo p 79 #[(.int .i64 c.1), (.int .i64 c.2.1), (.int .i64 c.2.2.1), (.int .i64 c.2.2.2.1), (.slice (some ⟨g6, 0, none⟩) (List.length ([(([97, 110, 110] : List UInt8), 0, 0, ([] : List (Int × Int)), ([(([107] : List UInt8), ([115] : List UInt8), 5)] : List ((List UInt8) × (List UInt8) × Int)))] : List Qd)) (List.length ([(([97, 110, 110] : List UInt8), 0, 0, ([] : List (Int × Int)), ([(([107] : List UInt8), ([115] : List UInt8), 5)] : List ((List UInt8) × (List UInt8) × Int)))] : List Qd))), (.map (some u))], Vq u c.2.2.2.2, Qo s 95 #[(pt p 0), (V2 m.2.2.2.2.2.2.1 s), (.string ⟨List.toArray m.2.2.2.2.2.2.2.1⟩), (.string ⟨List.toArray m.2.2.2.2.2.2.2.2.1⟩), (.string ⟨List.toArray m.2.2.2.2.2.2.2.2.2.1⟩), (.bool m.2.2.2.2.2.2.2.2.2.2)]] := V7 a3 [7, 8, 4] [0, 1, 2, 3, 5, 6, 9] rfl rfl f6 rfl
            clear f6
            refine iR 2 39 [(103, (.bool c1)), (104, (.bool c1))] ?_
            refine In.guard (t := 104) (b := c1) K (fun d3 => ?_) (fun d3 => ?_)
            ·have H := ct H d3
             refine iR 1 40 [(105, (pt a0 0))] ?_
             obtain ⟨c2, j1, H⟩ := Qc H
             refine iS 41 ?_
             refine cF 36 #[(.tmp 105)] #[60] 106 Tryz.call36 (Yv a0 p (some ⟨g6, 0, none⟩) (List.length ([(([97, 110, 110] : List UInt8), 0, 0, ([] : List (Int × Int)), ([(([107] : List UInt8), ([115] : List UInt8), 5)] : List ((List UInt8) × (List UInt8) × Int)))] : List Qd)) u c.1 c.2.1 c.2.2.1 c.2.2.2.1 ([(([97, 110, 110] : List UInt8), 0, 0, (none, 0, ([] : List (Int × Int))), ((some ⟨g5, 0, none⟩), (List.length ([(([107] : List UInt8), ([115] : List UInt8), 5)] : List ((List UInt8) × (List UInt8) × Int))), ([(([107] : List UInt8), ([115] : List UInt8), 5)] : List ((List UInt8) × (List UInt8) × Int))))] : List Q8) c.2.2.2.2 h.2.2.2.2.2.2.1 h.2.2.2.2.2.2.2.1 h.2.2.2.2.2.2.2.2.1 h.2.2.2.2.2.2.2.2.2.1 h.2.2.2.2.2.2.2.2.2.2 f5 (Yg b1 [7, 8, 6] rfl rfl) (fun w hm => Dh (V1 (SP.still b1 (l := [7, 8, 6]) (i := 1) rfl rfl rfl hm)) (Ue (Z4 Yn (Z4 Yn (Z4 Yn (Z4 (Gv (Qu (Qh .u32) (Qh .i64)) dT w) (Jw (V1 (SP.still b1 (l := [7, 8, 6]) (i := 0) rfl rfl rfl hm))))))) No)) c2 j1) ?_
             rintro e j2 ⟨rfl, f7⟩
             refine ⟨_, rfl, ?_⟩
             have j3 : SP [] w0 j2 [Ut 48 (Qu Zc (Qu Zc (Qh .i64))) (some ⟨g5, 0, none⟩) (List.length ([(([107] : List UInt8), ([115] : List UInt8), 5)] : List ((List UInt8) × (List UInt8) × Int))) ([(([107] : List UInt8), ([115] : List UInt8), 5)] : List ((List UInt8) × (List UInt8) × Int)), Ut 44 J9 (some ⟨g6, 0, none⟩) (List.length ([(([97, 110, 110] : List UInt8), 0, 0, ([] : List (Int × Int)), ([(([107] : List UInt8), ([115] : List UInt8), 5)] : List ((List UInt8) × (List UInt8) × Int)))] : List Qd)) ([(([97, 110, 110] : List UInt8), 0, 0, (none, 0, ([] : List (Int × Int))), ((some ⟨g5, 0, none⟩), (List.length ([(([107] : List UInt8), ([115] : List UInt8), 5)] : List ((List UInt8) × (List UInt8) × Int))), ([(([107] : List UInt8), ([115] : List UInt8), 5)] : List ((List UInt8) × (List UInt8) × Int))))] : List Q8), Qo a5 63 #[(.int .i64 f.1), (.string ⟨List.toArray f.2.1⟩), (.string ⟨List.toArray f.2.2.1⟩), (.int .i64 f.2.2.2.1), (.int .i64 f.2.2.2.2.1)], Qo a6 63 #[(.int .i64 j.1), (.string ⟨List.toArray j.2.1⟩), (.string ⟨List.toArray j.2.2.1⟩), (.int .i64 j.2.2.2.1), (.int .i64 j.2.2.2.2.1)], Qo a9 63 #[(.int .i64 m.1), (.string ⟨List.toArray m.2.1⟩), (.string ⟨List.toArray m.2.2.1⟩), (.int .i64 m.2.2.2.1), (.int .i64 m.2.2.2.2.1)], Qo b0 63 #[(.int .i64 h.1), (.string ⟨List.toArray h.2.1⟩), (.string ⟨List.toArray h.2.2.1⟩), (.int .i64 h.2.2.2.1), (.int .i64 h.2.2.2.2.1)], Qo s 95 #[(pt p 0), (V2 m.2.2.2.2.2.2.1 s), (.string ⟨List.toArray m.2.2.2.2.2.2.2.1⟩), (.string ⟨List.toArray m.2.2.2.2.2.2.2.2.1⟩), (.string ⟨List.toArray m.2.2.2.2.2.2.2.2.2.1⟩), (.bool m.2.2.2.2.2.2.2.2.2.2)], Qo p 79 #[(.int .i64 c.1), (.int .i64 c.2.1), (.int .i64 c.2.2.1), (.int .i64 c.2.2.2.1), (.slice (some ⟨g6, 0, none⟩) (List.length ([(([97, 110, 110] : List UInt8), 0, 0, ([] : List (Int × Int)), ([(([107] : List UInt8), ([115] : List UInt8), 5)] : List ((List UInt8) × (List UInt8) × Int)))] : List Qd)) (List.length ([(([97, 110, 110] : List UInt8), 0, 0, ([] : List (Int × Int)), ([(([107] : List UInt8), ([115] : List UInt8), 5)] : List ((List UInt8) × (List UInt8) × Int)))] : List Qd))), (.map (some u))], Vq u c.2.2.2.2, Qo a0 95 #[(pt p 0), (V2 h.2.2.2.2.2.2.1 a0), (.string ⟨List.toArray h.2.2.2.2.2.2.2.1⟩), (.string ⟨List.toArray h.2.2.2.2.2.2.2.2.1⟩), (.string ⟨List.toArray h.2.2.2.2.2.2.2.2.2.1⟩), (.bool h.2.2.2.2.2.2.2.2.2.2)]] := V7 b1 [7, 8, 6] [0, 1, 2, 3, 4, 5, 9] rfl rfl f7 rfl
             clear f7
             refine iR 2 43 [(107, (.bool c2)), (0, (.bool c2))] ?_
             refine iF ?_
             exact ⟨c2, ⟨K, trivial⟩, SP.sel j3 [] rfl rfl, H⟩
            ·have H := cf H d3
             refine iR 4 43 [(105, undef), (106, undef), (107, (.bool false)), (0, (.bool false))] ?_
             refine iF ?_
             exact ⟨false, ⟨K, trivial⟩, SP.sel b1 [] rfl rfl, H⟩
           ·have H := cf H d2
            refine iR 8 43 [(101, undef), (102, undef), (103, (.bool false)), (104, (.bool false)), (105, undef), (106, undef), (107, (.bool false)), (0, (.bool false))] ?_
            refine iF ?_
            exact ⟨false, ⟨K, trivial⟩, SP.sel a3 [] rfl rfl, H⟩
          ·have H := cf H d1
           refine iR 12 43 [(97, undef), (98, undef), (99, (.bool false)), (100, (.bool false)), (101, undef), (102, undef), (103, (.bool false)), (104, (.bool false)), (105, undef), (106, undef), (107, (.bool false)), (0, (.bool false))] ?_
           refine iF ?_
           exact ⟨false, ⟨K, trivial⟩, SP.sel a3 [] rfl rfl, H⟩
         ·have H := cf H d0
          refine iR 17 43 [(92, undef), (93, undef), (94, undef), (95, (.bool false)), (96, (.bool false)), (97, undef), (98, undef), (99, (.bool false)), (100, (.bool false)), (101, undef), (102, undef), (103, (.bool false)), (104, (.bool false)), (105, undef), (106, undef), (107, (.bool false)), (0, (.bool false))] ?_
          refine iF ?_
          exact ⟨false, ⟨K, trivial⟩, SP.sel a3 [] rfl rfl, H⟩
        ·have H := cf H c9
         refine iR 21 43 [(88, undef), (89, undef), (90, (.bool false)), (91, (.bool false)), (92, undef), (93, undef), (94, undef), (95, (.bool false)), (96, (.bool false)), (97, undef), (98, undef), (99, (.bool false)), (100, (.bool false)), (101, undef), (102, undef), (103, (.bool false)), (104, (.bool false)), (105, undef), (106, undef), (107, (.bool false)), (0, (.bool false))] ?_
         refine iF ?_
         exact ⟨false, ⟨K, trivial⟩, SP.sel a3 [] rfl rfl, H⟩
       ·have H := cf H c8
        refine iR 24 43 [(85, undef), (86, (.bool false)), (87, (.bool false)), (88, undef), (89, undef), (90, (.bool false)), (91, (.bool false)), (92, undef), (93, undef), (94, undef), (95, (.bool false)), (96, (.bool false)), (97, undef), (98, undef), (99, (.bool false)), (100, (.bool false)), (101, undef), (102, undef), (103, (.bool false)), (104, (.bool false)), (105, undef), (106, undef), (107, (.bool false)), (0, (.bool false))] ?_
        refine iF ?_
        exact ⟨false, ⟨K, trivial⟩, SP.sel a3 [] rfl rfl, H⟩
      ·have H := cf H c7
       refine iR 28 43 [(81, undef), (82, undef), (83, (.bool false)), (84, (.bool false)), (85, undef), (86, (.bool false)), (87, (.bool false)), (88, undef), (89, undef), (90, (.bool false)), (91, (.bool false)), (92, undef), (93, undef), (94, undef), (95, (.bool false)), (96, (.bool false)), (97, undef), (98, undef), (99, (.bool false)), (100, (.bool false)), (101, undef), (102, undef), (103, (.bool false)), (104, (.bool false)), (105, undef), (106, undef), (107, (.bool false)), (0, (.bool false))] ?_
       refine iF ?_
       exact ⟨false, ⟨K, trivial⟩, SP.sel a3 [] rfl rfl, H⟩
     ·have H := cf H c6
      refine iR 31 43 [(78, undef), (79, (.bool false)), (80, (.bool false)), (81, undef), (82, undef), (83, (.bool false)), (84, (.bool false)), (85, undef), (86, (.bool false)), (87, (.bool false)), (88, undef), (89, undef), (90, (.bool false)), (91, (.bool false)), (92, undef), (93, undef), (94, undef), (95, (.bool false)), (96, (.bool false)), (97, undef), (98, undef), (99, (.bool false)), (100, (.bool false)), (101, undef), (102, undef), (103, (.bool false)), (104, (.bool false)), (105, undef), (106, undef), (107, (.bool false)), (0, (.bool false))] ?_
      refine iF ?_
      exact ⟨false, ⟨K, trivial⟩, SP.sel a3 [] rfl rfl, H⟩
    ·have H := cf H c5
     refine iR 36 43 [(73, undef), (74, undef), (75, undef), (76, (.bool false)), (77, (.bool false)), (78, undef), (79, (.bool false)), (80, (.bool false)), (81, undef), (82, undef), (83, (.bool false)), (84, (.bool false)), (85, undef), (86, (.bool false)), (87, (.bool false)), (88, undef), (89, undef), (90, (.bool false)), (91, (.bool false)), (92, undef), (93, undef), (94, undef), (95, (.bool false)), (96, (.bool false)), (97, undef), (98, undef), (99, (.bool false)), (100, (.bool false)), (101, undef), (102, undef), (103, (.bool false)), (104, (.bool false)), (105, undef), (106, undef), (107, (.bool false)), (0, (.bool false))] ?_
     refine iF ?_
     exact ⟨false, ⟨K, trivial⟩, SP.sel a3 [] rfl rfl, H⟩
   ·have H := cf H c4
    refine iR 39 43 [(70, undef), (71, (.bool false)), (72, (.bool false)), (73, undef), (74, undef), (75, undef), (76, (.bool false)), (77, (.bool false)), (78, undef), (79, (.bool false)), (80, (.bool false)), (81, undef), (82, undef), (83, (.bool false)), (84, (.bool false)), (85, undef), (86, (.bool false)), (87, (.bool false)), (88, undef), (89, undef), (90, (.bool false)), (91, (.bool false)), (92, undef), (93, undef), (94, undef), (95, (.bool false)), (96, (.bool false)), (97, undef), (98, undef), (99, (.bool false)), (100, (.bool false)), (101, undef), (102, undef), (103, (.bool false)), (104, (.bool false)), (105, undef), (106, undef), (107, (.bool false)), (0, (.bool false))] ?_
    refine iF ?_
    exact ⟨false, ⟨K, trivial⟩, SP.sel a3 [] rfl rfl, H⟩
  ·rintro ρ k1 ⟨a8, hk, j4, H⟩
   unfold Q0 at H
   first | refine At.known [(0, (.bool a8))] hk ?_ | rw [← Q9 (l := [(0, (.bool a8))]) hk]
   refine At.ret K ?_
   refine ⟨(.bool a8), K, ?_⟩
   obtain rfl := Qf H
   exact ⟨rfl, SP.sel j4 [] rfl rfl⟩
end Go.Proofs.YtmgfanhcdfobhaaGreatDoor
namespace Go.Proofs.YtmgfanhcdfobhaaGreatDoor
theorem shakeHead : X7 = some true := by
  unfold X7
  rw [show Jg = some () from rfl, Option.bind_some, headVNew, Option.bind_some, optE_s]
  kernel_rfl
theorem who_p (w g i e : Int) (l : List Qd) (M : Us) (c : Int) (t k n : Str) (kn : Bool) : Z1 w g i e l M c t k n kn = some (cond kn t [], kn) := by
  unfold Z1
  cases kn <;> rfl
theorem over_p (w g i e : Int) (l : List Qd) (M : Us) (c : Int) (t k n : Str) (kn : Bool) : Xb w g i e l M c t k n kn = some (D1 c) := rfl
end Go.Proofs.YtmgfanhcdfobhaaGreatDoor
namespace Go.Proofs.YtmgfanhcdfobhaaGreatDoor
open Go.RowKit
def Vd (a : Bool) : Option (Bool) :=
  (some (a))
def Zb (c : (List Qd)) (d : Int) (e : (Bool)) (b : (Int × Int × Int × Int × Us)) (a : (Int × (List UInt8) × (List UInt8) × Int × Int × Bool × Int × (List UInt8) × (List UInt8) × (List UInt8) × Bool)) (f : Int) (g : (List UInt8)) (h : Int) : Option (Bool) :=
  ((Z1 b.1 b.2.1 b.2.2.1 b.2.2.2.1 c b.2.2.2.2 a.2.2.2.2.2.2.1 a.2.2.2.2.2.2.2.1 a.2.2.2.2.2.2.2.2.1 a.2.2.2.2.2.2.2.2.2.1 a.2.2.2.2.2.2.2.2.2.2).bind fun i => (cond e (cond a.2.2.2.2.2.1 (cond ((a.1 == f) && ((a.2.1 == g) && ((a.2.2.1 == ([] : List UInt8)) && ((a.2.2.2.1 == h) && (a.2.2.2.2.1 == 0))))) (cond (!i.2) ((Xb b.1 b.2.1 b.2.2.1 b.2.2.2.1 c b.2.2.2.2 a.2.2.2.2.2.2.1 a.2.2.2.2.2.2.2.1 a.2.2.2.2.2.2.2.2.1 a.2.2.2.2.2.2.2.2.2.1 a.2.2.2.2.2.2.2.2.2.2).bind fun j => (Vd (j == (d != 1)))) (Vd false)) (Vd false)) (Vd false)) (Vd false)))
def Ve (c : (List Qd)) (d : Int) (h : (List UInt8)) (i : (List UInt8)) (j : Int) (k : Int) (l : Int) (e : (List UInt8)) (f : (Bool)) (a : (Int × Int × Int × Int × Us)) (m : Bool) : Option (Bool) :=
  (cond m (some (f)) ((Ui a.1 a.2.1 a.2.2.1 a.2.2.2.1 c a.2.2.2.2).bind fun b => ((V0 a.1 a.2.1 a.2.2.1 a.2.2.2.1 c a.2.2.2.2 b.1 b.2.1 b.2.2.1 b.2.2.2.1 b.2.2.2.2 d h i j k l e).bind fun g => (cond (d == 1) ((sub e 0 (if 64 < ((List.length e : Nat) : Int) then 64 else ((List.length e : Nat) : Int))).bind fun n => (Zb c d f a g 2 n 0)) (Zb c d f a g 5 ([] : List UInt8) 1)))))
def Xo (k : Int) (l : Int) (m : Int) (n : Int) (a : (List Qd)) (b : Int) (c : (List UInt8)) (d : (List UInt8)) (e : Int) (f : Int) (i : Int) (g : (List UInt8)) : Option (Bool) :=
  ((X7 ).bind fun h => ((Jy k l m n a).bind fun o => (optE o (some (h)) (fun j => ((Yo k l m n a).bind fun p => (cond p (Ve a b c d e f i g h j true) ((Yw b c d e f).bind fun q => (cond q (Ve a b c d e f i g h j true) (Ve a b c d e f i g h j (decide (((List.length g : Nat) : Int) > 2000)))))))))))
set_option maxRecDepth 100000 in
set_option maxHeartbeats 4000000 in
theorem U0 (A6 : Option Addr) (c7 : Nat) (b8 : Int) (b9 : Int) (c0 : Int) (c1 : Int) (d9 : (List Q8)) (s : Int) (a7 : (List UInt8)) (a8 : (List UInt8)) (a9 : Int) (b0 : Int) (c2 : Int) (a4 : (List UInt8)) (w0 : World) (hL : Rz w0) (c3 : (dDS J9 Bj).ok w0 (A6, c7, d9)) (r : (Bool)) (H : Xo b8 b9 c0 c1 (List.map stT d9) s a7 a8 a9 b0 c2 a4 = some r) :
  Calls Tryz.prog 12 #[(.agg #[(.int .i64 b8), (.int .i64 b9), (.int .i64 c0), (.int .i64 c1), (.slice A6 (List.length (List.map stT d9)) c7)]), (.agg #[(.int .i64 s), (.string ⟨List.toArray a7⟩), (.string ⟨List.toArray a8⟩), (.int .i64 a9), (.int .i64 b0)]), (.int .i64 c2), (.string ⟨List.toArray a4⟩)] w0 (fun e w' => e = .returned (.bool r) ∧ SP [] w0 w' []) := by
 unfold Xo at H
 refine Qt (n := 84) Tryz.func12 K K K ?_
 have h3 := Q1 [] w0
 refine aQ ?_
 refine aR ?_
 refine iS 1 ?_
 refine Vo (t := 24) (x := (.tmp 0)) (v := (.agg #[(.int .i64 b8), (.int .i64 b9), (.int .i64 c0), (.int .i64 c1), (.slice A6 (List.length (List.map stT d9)) c7)])) (d := (some 4)) (k := 0) K rfl K h3 ?_
 intro f0 l7 h4
 refine iS 2 ?_
 refine Vo (t := 63) (x := (.tmp 1)) (v := (.agg #[(.int .i64 s), (.string ⟨List.toArray a7⟩), (.string ⟨List.toArray a8⟩), (.int .i64 a9), (.int .i64 b0)])) (d := (some 5)) (k := 1) K rfl K h4 ?_
 intro a1 h5 f1
 refine iR 1 3 [(8, (.bool false))] ?_
 refine iF ?_
 refine aQ ?_
 refine aR ?_
 obtain ⟨h, h6, H⟩ := Qc H
 refine iS 1 ?_
 refine cF 31 #[] #[] 17 Tryz.call31 (Ge   h5 (Zs hL (SP.keeps f1)) h h6) ?_
 rintro e f2 ⟨rfl, f3⟩
 refine ⟨_, rfl, ?_⟩
 have c4 := SP.call f1 f3
 clear f3
 refine iR 1 2 [(9, (.bool h))] ?_
 refine iF ?_
 refine aQ ?_
 refine aR ?_
 refine iS 1 ?_
 refine sL 24 4 f0 0 0 (.agg #[(.int .i64 b8), (.int .i64 b9), (.int .i64 c0), (.int .i64 c1), (.slice A6 (List.length (List.map stT d9)) c7)]) 18 c4 rfl ?_
 obtain ⟨h7, f4, H⟩ := Qc H
 rcases h7 with _ | f
 ·have H := optN H
  refine iS 2 ?_
  refine cF 18 #[(.tmp 18)] #[24] 19 Tryz.call18 (Jv A6 c7 b8 b9 c0 c1 d9 f2 (Zs hL (SP.keeps c4)) (Dp.sp c3 c4) none f4) ?_
  rintro e l8 ⟨rfl, f5⟩
  refine ⟨_, rfl, ?_⟩
  have h8 := SP.call c4 f5
  clear f5
  refine iR 1 3 [(10, (.pointer none))] ?_
  refine iF ?_
  refine aQ ?_
  refine aQ ?_
  refine aR ?_
  refine iR 15 15 [(20, (.pointer none)), (21, (.bool true)), (22, (.bool true)), (23, undef), (24, undef), (25, (.bool true)), (26, (.bool true)), (27, undef), (28, undef), (29, (.bool true)), (30, (.bool true)), (31, undef), (32, undef), (33, undef), (34, (.bool true))] ?_
  refine iF ?_
  refine Zu K (o := (.tmp 34)) K (b := true) K (fun f6 => ?_) (fun f6 => ?_)
  rotate_left
  ·cases f6
  refine aQ ?_
  refine aR ?_
  refine iR 2 2 [(35, (.bool h)), (8, (.bool h))] ?_
  refine iF ?_
  refine At.ret K ?_
  refine ⟨(.bool h), K, ?_⟩
  obtain rfl := Qf H
  exact ⟨rfl, SP.sel h8 [] rfl rfl⟩
 ·have H := optS H
  refine iS 2 ?_
  refine cF 18 #[(.tmp 18)] #[24] 19 Tryz.call18 (Jv A6 c7 b8 b9 c0 c1 d9 f2 (Zs hL (SP.keeps c4)) (Dp.sp c3 c4) (some f) f4) ?_
  rintro e h9 ⟨a0, a2, rfl, f7⟩
  refine ⟨_, rfl, ?_⟩
  have e0 := SP.call c4 f7
  clear f7
  refine iR 1 3 [(10, (pt a0 0))] ?_
  refine iF ?_
  refine aQ ?_
  refine aQ ?_
  refine At.join (fun ρ w => ∃ (c5 : Bool), Zg ρ [(2, (.int .i64 c2)), (3, (.string ⟨List.toArray a4⟩)), (5, (pt a1 0)), (9, (.bool h)), (10, (pt a0 0)), (34, (.bool c5))] ∧ SP [] w0 w [Qo a1 63 #[(.int .i64 s), (.string ⟨List.toArray a7⟩), (.string ⟨List.toArray a8⟩), (.int .i64 a9), (.int .i64 b0)], Qo a0 79 #[(.int .i64 f.1), (.int .i64 f.2.1), (.int .i64 f.2.2.1), (.int .i64 f.2.2.2.1), (.slice A6 (List.length (List.map stT d9)) c7), (.map (some a2))], Vq a2 f.2.2.2.2] ∧ Ve (List.map stT d9) s a7 a8 a9 b0 c2 a4 h f c5 = some r) ?_ ?_
  ·refine aR ?_
   refine iR 3 3 [(20, (pt a0 0)), (21, (.bool false)), (22, (.bool false))] ?_
   refine iS 4 ?_
   refine sL 24 4 f0 0 0 (.agg #[(.int .i64 b8), (.int .i64 b9), (.int .i64 c0), (.int .i64 c1), (.slice A6 (List.length (List.map stT d9)) c7)]) 23 e0 rfl ?_
   obtain ⟨d4, i0, H⟩ := Qc H
   refine iS 5 ?_
   refine cF 16 #[(.tmp 23)] #[24] 24 Tryz.call16 (Np A6 c7 b8 b9 c0 c1 d9 h9 (Dp.sp c3 e0) d4 i0) ?_
   rintro e i1 ⟨rfl, f8⟩
   refine ⟨_, rfl, ?_⟩
   have e1 := SP.call e0 f8
   clear f8
   refine iR 2 7 [(25, (.bool d4)), (26, (.bool d4))] ?_
   refine In.guard (t := 26) (b := d4) K (fun e2 => ?_) (fun e2 => ?_)
   ·have H := ct H e2
    refine iR 8 15 [(27, undef), (28, undef), (29, (.bool true)), (30, (.bool true)), (31, undef), (32, undef), (33, undef), (34, (.bool true))] ?_
    refine iF ?_
    exact ⟨true, ⟨K, K, K, K, K, K, trivial⟩, SP.sel e1 [1, 2, 3] rfl rfl, H⟩
   ·have H := cf H e2
    refine iS 8 ?_
    refine sL 63 5 a1 0 1 (.agg #[(.int .i64 s), (.string ⟨List.toArray a7⟩), (.string ⟨List.toArray a8⟩), (.int .i64 a9), (.int .i64 b0)]) 27 e1 rfl ?_
    obtain ⟨d5, i2, H⟩ := Qc H
    refine iS 9 ?_
    refine cF 37 #[(.tmp 27)] #[63] 28 Tryz.call37 (Nx  s a7 a8 a9 b0 i1  d5 i2) ?_
    rintro e l9 ⟨rfl, f9⟩
    refine ⟨_, rfl, ?_⟩
    have g0 := SP.call e1 f9
    clear f9
    refine iR 2 11 [(29, (.bool d5)), (30, (.bool d5))] ?_
    refine In.guard (t := 30) (b := d5) K (fun e3 => ?_) (fun e3 => ?_)
    ·have H := ct H e3
     refine iR 4 15 [(31, undef), (32, undef), (33, undef), (34, (.bool true))] ?_
     refine iF ?_
     exact ⟨true, ⟨K, K, K, K, K, K, trivial⟩, SP.sel g0 [1, 2, 3] rfl rfl, H⟩
    ·have H := cf H e3
     refine iR 4 15 [(31, (.string ⟨List.toArray a4⟩)), (32, (.int .i64 ((List.length a4 : Nat) : Int))), (33, (.bool (decide (((List.length a4 : Nat) : Int) > 2000)))), (34, (.bool (decide (((List.length a4 : Nat) : Int) > 2000))))] ?_
     refine iF ?_
     exact ⟨(decide (((List.length a4 : Nat) : Int) > 2000)), ⟨K, K, K, K, K, K, trivial⟩, SP.sel g0 [1, 2, 3] rfl rfl, H⟩
  ·rintro ρ i3 ⟨c5, hk, d6, H⟩
   unfold Ve at H
   first | refine At.known [(2, (.int .i64 c2)), (3, (.string ⟨List.toArray a4⟩)), (5, (pt a1 0)), (9, (.bool h)), (10, (pt a0 0)), (34, (.bool c5))] hk ?_ | rw [← Q9 (l := [(2, (.int .i64 c2)), (3, (.string ⟨List.toArray a4⟩)), (5, (pt a1 0)), (9, (.bool h)), (10, (pt a0 0)), (34, (.bool c5))]) hk]
   refine Zu K (o := (.tmp 34)) K (b := c5) K (fun e4 => ?_) (fun e4 => ?_)
   ·have H := ct H e4
    refine aQ ?_
    refine aR ?_
    refine iR 2 2 [(35, (.bool h)), (8, (.bool h))] ?_
    refine iF ?_
    refine At.ret K ?_
    refine ⟨(.bool h), K, ?_⟩
    obtain rfl := Qf H
    exact ⟨rfl, SP.sel d6 [] rfl rfl⟩
   ·have H := cf H e4
    refine At.skip K ?_
    refine aQ ?_
    refine aR ?_
    refine iR 1 1 [(36, (pt a0 0))] ?_
    obtain ⟨b6, i4, H⟩ := Qc H
    refine iS 2 ?_
    refine cF 33 #[(.tmp 36)] #[29] 37 Tryz.call33 (Uu a0 A6 c7 a2 f.1 f.2.1 f.2.2.1 f.2.2.2.1 d9 f.2.2.2.2 i3 (Yg d6 [1, 2] rfl rfl) (fun w hm => Dp.mono _ (N5 d6 (l := [1, 2]) rfl hm) c3) b6 i4) ?_
    rintro e g1 ⟨u, rfl, g2⟩
    refine ⟨_, rfl, ?_⟩
    have d7 : SP [] w0 g1 [Qo a1 63 #[(.int .i64 s), (.string ⟨List.toArray a7⟩), (.string ⟨List.toArray a8⟩), (.int .i64 a9), (.int .i64 b0)], Qo u 95 #[(pt a0 0), (V2 b6.1 u), (.string ⟨List.toArray b6.2.1⟩), (.string ⟨List.toArray b6.2.2.1⟩), (.string ⟨List.toArray b6.2.2.2.1⟩), (.bool b6.2.2.2.2)], Qo a0 79 #[(.int .i64 f.1), (.int .i64 f.2.1), (.int .i64 f.2.2.1), (.int .i64 f.2.2.2.1), (.slice A6 (List.length (List.map stT d9)) c7), (.map (some a2))], Vq a2 f.2.2.2.2] := V7 d6 [1, 2] [0] rfl rfl g2 rfl
    clear g2
    refine iR 1 3 [(11, (pt u 0))] ?_
    refine iF ?_
    refine aQ ?_
    refine aQ ?_
    refine aR ?_
    refine iR 2 2 [(38, (pt u 0)), (39, (.bool false))] ?_
    refine iF ?_
    refine Zu K (o := (.tmp 39)) K (b := false) K (fun g3 => ?_) (fun g3 => ?_)
    ·cases g3
    refine At.skip K ?_
    refine aQ ?_
    refine aR ?_
    refine iR 1 1 [(41, (pt u 0))] ?_
    refine iS 2 ?_
    refine sL 63 5 a1 0 0 (.agg #[(.int .i64 s), (.string ⟨List.toArray a7⟩), (.string ⟨List.toArray a8⟩), (.int .i64 a9), (.int .i64 b0)]) 42 d7 rfl ?_
    refine iR 2 4 [(43, (.int .i64 c2)), (44, (.string ⟨List.toArray a4⟩))] ?_
    obtain ⟨c, i5, H⟩ := Qc H
    refine iS 5 ?_
    refine cF 34 #[(.tmp 41), (.tmp 42), (.tmp 43), (.tmp 44)] #[60, 63, 2, 9] 45 Tryz.call34 (Zr u a0 A6 c7 a2 f.1 f.2.1 f.2.2.1 f.2.2.2.1 d9 f.2.2.2.2 b6.1 b6.2.1 b6.2.2.1 b6.2.2.2.1 b6.2.2.2.2 s a7 a8 a9 b0 c2 a4 g1 (Yg d7 [2, 3, 1] rfl rfl) (fun w hm => Dp.mono _ (N5 d7 (l := [2, 3, 1]) rfl hm) c3) c i5) ?_
    rintro e i6 ⟨rfl, g4⟩
    refine ⟨_, rfl, ?_⟩
    have i7 : SP [] w0 i6 [Qo a1 63 #[(.int .i64 s), (.string ⟨List.toArray a7⟩), (.string ⟨List.toArray a8⟩), (.int .i64 a9), (.int .i64 b0)], Qo a0 79 #[(.int .i64 f.1), (.int .i64 f.2.1), (.int .i64 f.2.2.1), (.int .i64 f.2.2.2.1), (.slice A6 (List.length (List.map stT d9)) c7), (.map (some a2))], Vq a2 f.2.2.2.2, Qo u 95 #[(pt a0 0), (V2 c.2.2.2.2.2.2.1 u), (.string ⟨List.toArray c.2.2.2.2.2.2.2.1⟩), (.string ⟨List.toArray c.2.2.2.2.2.2.2.2.1⟩), (.string ⟨List.toArray c.2.2.2.2.2.2.2.2.2.1⟩), (.bool c.2.2.2.2.2.2.2.2.2.2)]] := V7 d7 [2, 3, 1] [0] rfl rfl g4 rfl
    clear g4
    refine iR 3 8 [(40, (.tuple #[(.agg #[(.int .i64 c.1), (.string ⟨List.toArray c.2.1⟩), (.string ⟨List.toArray c.2.2.1⟩), (.int .i64 c.2.2.2.1), (.int .i64 c.2.2.2.2.1)]), (.bool c.2.2.2.2.2.1)])), (46, (.agg #[(.int .i64 c.1), (.string ⟨List.toArray c.2.1⟩), (.string ⟨List.toArray c.2.2.1⟩), (.int .i64 c.2.2.2.1), (.int .i64 c.2.2.2.2.1)])), (47, (.bool c.2.2.2.2.2.1))] ?_
    refine iS 9 ?_
    refine Qj.alloc (t := 63) (z := (.agg #[(.int .i64 0), (.string ⟨List.toArray ([] : List UInt8)⟩), (.string ⟨List.toArray ([] : List UInt8)⟩), (.int .i64 0), (.int .i64 0)])) (d := (some 12)) (k := 8) K rfl K i7 ?_
    intro a6 m0 i8
    refine iS 10 ?_
    refine Qj.store (t := 63) (x := (.tmp 12)) (y := (.tmp 46)) (g := a6) (off := 0) (i := 4) (v := (.agg #[(.int .i64 c.1), (.string ⟨List.toArray c.2.1⟩), (.string ⟨List.toArray c.2.2.1⟩), (.int .i64 c.2.2.2.1), (.int .i64 c.2.2.2.2.1)])) (cs' := #[(.int .i64 c.1), (.string ⟨List.toArray c.2.1⟩), (.string ⟨List.toArray c.2.2.1⟩), (.int .i64 c.2.2.2.1), (.int .i64 c.2.2.2.2.1)]) (d := none) (k := 9) K rfl K K i8 rfl K ?_
    intro m1 i9
    refine iR 1 11 [(13, (.bool c.2.2.2.2.2.1))] ?_
    refine iF ?_
    refine aQ ?_
    refine aR ?_
    refine iR 1 1 [(48, (.agg #[(.int .i64 5), (.string ⟨List.toArray ([] : List UInt8)⟩), (.string ⟨List.toArray ([] : List UInt8)⟩), (.int .i64 1), (.int .i64 0)]))] ?_
    refine iS 2 ?_
    refine Qj.alloc (t := 63) (z := (.agg #[(.int .i64 0), (.string ⟨List.toArray ([] : List UInt8)⟩), (.string ⟨List.toArray ([] : List UInt8)⟩), (.int .i64 0), (.int .i64 0)])) (d := (some 14)) (k := 1) K rfl K i9 ?_
    intro a5 m2 j0
    refine iS 3 ?_
    refine Qj.store (t := 63) (x := (.tmp 14)) (y := (.tmp 48)) (g := a5) (off := 0) (i := 5) (v := (.agg #[(.int .i64 5), (.string ⟨List.toArray ([] : List UInt8)⟩), (.string ⟨List.toArray ([] : List UInt8)⟩), (.int .i64 1), (.int .i64 0)])) (cs' := #[(.int .i64 5), (.string ⟨List.toArray ([] : List UInt8)⟩), (.string ⟨List.toArray ([] : List UInt8)⟩), (.int .i64 1), (.int .i64 0)]) (d := none) (k := 2) K rfl K K j0 rfl K ?_
    intro m3 e5
    refine iF ?_
    refine aQ ?_
    refine aQ ?_
    refine aR ?_
    refine iR 1 1 [(49, (pt a1 0))] ?_
    refine iS 2 ?_
    refine sL 3 49 a1 0 0 (.int .i64 s) 50 e5 rfl ?_
    refine iR 1 3 [(51, (.bool (s == 1)))] ?_
    refine iF ?_
    refine At.join (fun ρ w => ∃ (m : Int) (p : (List UInt8)) (q : Int), Zg ρ [(5, (pt a1 0)), (9, (.bool h)), (11, (pt u 0)), (12, (pt a6 0)), (13, (.bool c.2.2.2.2.2.1)), (14, (pt a5 0))] ∧ SP [] w0 w [Qo a1 63 #[(.int .i64 s), (.string ⟨List.toArray a7⟩), (.string ⟨List.toArray a8⟩), (.int .i64 a9), (.int .i64 b0)], Qo u 95 #[(pt a0 0), (V2 c.2.2.2.2.2.2.1 u), (.string ⟨List.toArray c.2.2.2.2.2.2.2.1⟩), (.string ⟨List.toArray c.2.2.2.2.2.2.2.2.1⟩), (.string ⟨List.toArray c.2.2.2.2.2.2.2.2.2.1⟩), (.bool c.2.2.2.2.2.2.2.2.2.2)], Qo a0 79 #[(.int .i64 f.1), (.int .i64 f.2.1), (.int .i64 f.2.2.1), (.int .i64 f.2.2.2.1), (.slice A6 (List.length (List.map stT d9)) c7), (.map (some a2))], Vq a2 f.2.2.2.2, Qo a6 63 #[(.int .i64 c.1), (.string ⟨List.toArray c.2.1⟩), (.string ⟨List.toArray c.2.2.1⟩), (.int .i64 c.2.2.2.1), (.int .i64 c.2.2.2.2.1)], Qo a5 63 #[(.int .i64 m), (.string ⟨List.toArray p⟩), (.string ⟨List.toArray ([] : List UInt8)⟩), (.int .i64 q), (.int .i64 0)]] ∧ Zb (List.map stT d9) s h f c m p q = some r) ?_ ?_
    ·refine Zu K (o := (.tmp 51)) K (b := (s == 1)) K (fun e6 => ?_) (fun e6 => ?_)
     ·have H := ct H e6
      refine aR ?_
      refine iR 4 4 [(52, (.string ⟨List.toArray a4⟩)), (53, (.string ⟨List.toArray a4⟩)), (54, (.int .i64 ((List.length a4 : Nat) : Int))), (55, (.int .i64 (if 64 < ((List.length a4 : Nat) : Int) then 64 else ((List.length a4 : Nat) : Int))))] ?_
      obtain ⟨j1, j2, j3, H⟩ := U8 H
      obtain ⟨d8, hyl235⟩ : ∃ y, (List.drop (Int.toNat 0) (List.take (Int.toNat (if 64 < ((List.length a4 : Nat) : Int) then 64 else ((List.length a4 : Nat) : Int))) a4)) = y := ⟨_, rfl⟩
      rw [hyl235] at H
      refine iS 5 ?_
      refine Ux (a := a4) (T := 9) (x := (.tmp 52)) (lo := none) (hi := (some (.tmp 55))) (i := 0) (j := (if 64 < ((List.length a4 : Nat) : Int) then 64 else ((List.length a4 : Nat) : Int))) (d := (some 56)) (k := 4) K rfl K K rfl ⟨.i64, K⟩ j1 j2 j3 ?_
      rw [hyl235]
      refine iR 1 6 [(57, (.agg #[(.int .i64 2), (.string ⟨List.toArray d8⟩), (.string ⟨List.toArray ([] : List UInt8)⟩), (.int .i64 0), (.int .i64 0)]))] ?_
      refine iS 7 ?_
      refine Qj.store (t := 63) (x := (.tmp 14)) (y := (.tmp 57)) (g := a5) (off := 0) (i := 5) (v := (.agg #[(.int .i64 2), (.string ⟨List.toArray d8⟩), (.string ⟨List.toArray ([] : List UInt8)⟩), (.int .i64 0), (.int .i64 0)])) (cs' := #[(.int .i64 2), (.string ⟨List.toArray d8⟩), (.string ⟨List.toArray ([] : List UInt8)⟩), (.int .i64 0), (.int .i64 0)]) (d := none) (k := 6) K rfl K K e5 rfl K ?_
      intro m4 j4
      refine iF ?_
      exact ⟨2, d8, 0, ⟨K, K, K, K, K, K, trivial⟩, SP.sel j4 [0, 3, 1, 2, 4, 5] rfl rfl, H⟩
     ·have H := cf H e6
      refine At.skip K ?_
      exact ⟨5, ([] : List UInt8), 1, ⟨K, K, K, K, K, K, trivial⟩, SP.sel e5 [0, 3, 1, 2, 4, 5] rfl rfl, H⟩
    ·rintro ρ j5 ⟨m, p, q, hk, e7, H⟩
     unfold Zb at H
     first | refine At.known [(5, (pt a1 0)), (9, (.bool h)), (11, (pt u 0)), (12, (pt a6 0)), (13, (.bool c.2.2.2.2.2.1)), (14, (pt a5 0))] hk ?_ | rw [← Q9 (l := [(5, (pt a1 0)), (9, (.bool h)), (11, (pt u 0)), (12, (pt a6 0)), (13, (.bool c.2.2.2.2.2.1)), (14, (pt a5 0))]) hk]
     refine aQ ?_
     refine aR ?_
     refine iR 1 1 [(59, (pt u 0))] ?_
     obtain ⟨a3, j6, H⟩ := Qc H
     refine iS 2 ?_
     refine cF 35 #[(.tmp 59)] #[60] 60 Tryz.call35 (Y4 u a0 A6 c7 a2 f.1 f.2.1 f.2.2.1 f.2.2.2.1 d9 f.2.2.2.2 c.2.2.2.2.2.2.1 c.2.2.2.2.2.2.2.1 c.2.2.2.2.2.2.2.2.1 c.2.2.2.2.2.2.2.2.2.1 c.2.2.2.2.2.2.2.2.2.2 j5 (Yg e7 [2, 3, 1] rfl rfl) (fun w hm => Dp.mono _ (N5 e7 (l := [2, 3, 1]) rfl hm) c3) a3 j6) ?_
     rintro e j7 ⟨rfl, g5⟩
     refine ⟨_, rfl, ?_⟩
     have c8 : SP [] w0 j7 [Qo a1 63 #[(.int .i64 s), (.string ⟨List.toArray a7⟩), (.string ⟨List.toArray a8⟩), (.int .i64 a9), (.int .i64 b0)], Qo a6 63 #[(.int .i64 c.1), (.string ⟨List.toArray c.2.1⟩), (.string ⟨List.toArray c.2.2.1⟩), (.int .i64 c.2.2.2.1), (.int .i64 c.2.2.2.2.1)], Qo a5 63 #[(.int .i64 m), (.string ⟨List.toArray p⟩), (.string ⟨List.toArray ([] : List UInt8)⟩), (.int .i64 q), (.int .i64 0)], Qo a0 79 #[(.int .i64 f.1), (.int .i64 f.2.1), (.int .i64 f.2.2.1), (.int .i64 f.2.2.2.1), (.slice A6 (List.length (List.map stT d9)) c7), (.map (some a2))], Vq a2 f.2.2.2.2, Qo u 95 #[(pt a0 0), (V2 c.2.2.2.2.2.2.1 u), (.string ⟨List.toArray c.2.2.2.2.2.2.2.1⟩), (.string ⟨List.toArray c.2.2.2.2.2.2.2.2.1⟩), (.string ⟨List.toArray c.2.2.2.2.2.2.2.2.2.1⟩), (.bool c.2.2.2.2.2.2.2.2.2.2)]] := V7 e7 [2, 3, 1] [0, 4, 5] rfl rfl g5 rfl
     clear g5
     refine iR 5 7 [(58, (.tuple #[(.string ⟨List.toArray a3.1⟩), (.bool a3.2)])), (61, (.string ⟨List.toArray a3.1⟩)), (62, (.bool a3.2)), (15, (.string ⟨List.toArray a3.1⟩)), (16, (.bool a3.2))] ?_
     refine iF ?_
     refine aQ ?_
     refine At.join (fun ρ w => ∃ (c6 : Bool), Zg ρ [(8, (.bool c6))] ∧ SP [] w0 w [] ∧ Vd c6 = some r) ?_ ?_
     ·rcases Bool.eq_false_or_eq_true h with b4 | b4
      ·have H := ct H b4
       rcases Bool.eq_false_or_eq_true c.2.2.2.2.2.1 with b1 | b1
       ·have H := ct H b1
        rcases Bool.eq_false_or_eq_true ((c.1 == m) && ((c.2.1 == p) && ((c.2.2.1 == ([] : List UInt8)) && ((c.2.2.2.1 == q) && (c.2.2.2.2.1 == 0))))) with b5 | b5
        ·have H := ct H b5
         rcases Bool.eq_false_or_eq_true (!a3.2) with b2 | b2
         ·have H := ct H b2
          obtain ⟨b7, j8, H⟩ := Qc H
          refine aG [GEq (.bool h), GEq (.bool h), GEq (.bool c.2.2.2.2.2.1), GEq (.bool c.2.2.2.2.2.1), GEq (.bool c.2.2.2.2.2.1), GEq (.agg #[(.int .i64 c.1), (.string ⟨List.toArray c.2.1⟩), (.string ⟨List.toArray c.2.2.1⟩), (.int .i64 c.2.2.2.1), (.int .i64 c.2.2.2.2.1)]), GEq (.agg #[(.int .i64 m), (.string ⟨List.toArray p⟩), (.string ⟨List.toArray ([] : List UInt8)⟩), (.int .i64 q), (.int .i64 0)]), GEq (.bool ((c.1 == m) && ((c.2.1 == p) && ((c.2.2.1 == ([] : List UInt8)) && ((c.2.2.2.1 == q) && (c.2.2.2.2.1 == 0)))))), GEq (.bool ((c.1 == m) && ((c.2.1 == p) && ((c.2.2.1 == ([] : List UInt8)) && ((c.2.2.2.1 == q) && (c.2.2.2.2.1 == 0)))))), GEq (.bool ((c.1 == m) && ((c.2.1 == p) && ((c.2.2.1 == ([] : List UInt8)) && ((c.2.2.2.1 == q) && (c.2.2.2.2.1 == 0)))))), GEq (.bool a3.2), GEq (.bool (!a3.2)), GEq (.bool (!a3.2)), GEq (.bool (!a3.2)), GEq (pt u 0), GEq (.bool b7), GEq (pt a1 0), GEq (.int .i64 s), GEq (.bool (s != 1)), GEq (.bool (b7 == (s != 1))), GEq (.bool (b7 == (s != 1))), GEq (.bool (b7 == (s != 1)))] [15] (tG [] w0 [Qo a1 63 #[(.int .i64 s), (.string ⟨List.toArray a7⟩), (.string ⟨List.toArray a8⟩), (.int .i64 a9), (.int .i64 b0)], Qo a6 63 #[(.int .i64 c.1), (.string ⟨List.toArray c.2.1⟩), (.string ⟨List.toArray c.2.2.1⟩), (.int .i64 c.2.2.2.1), (.int .i64 c.2.2.2.2.1)], Qo a5 63 #[(.int .i64 m), (.string ⟨List.toArray p⟩), (.string ⟨List.toArray ([] : List UInt8)⟩), (.int .i64 q), (.int .i64 0)], Qo a0 79 #[(.int .i64 f.1), (.int .i64 f.2.1), (.int .i64 f.2.2.1), (.int .i64 f.2.2.2.1), (.slice A6 (List.length (List.map stT d9)) c7), (.map (some a2))], Vq a2 f.2.2.2.2, Qo u 95 #[(pt a0 0), (V2 c.2.2.2.2.2.2.1 u), (.string ⟨List.toArray c.2.2.2.2.2.2.2.1⟩), (.string ⟨List.toArray c.2.2.2.2.2.2.2.2.1⟩), (.string ⟨List.toArray c.2.2.2.2.2.2.2.2.2.1⟩), (.bool c.2.2.2.2.2.2.2.2.2.2)]] [([], []), ([15], [(.bool b7)])]) 22 1 ⟨trivial, SP.drew c8⟩ ?_ ?_
          iterate 22 refine And.intro ?_ ?_
          exact trivial
          ·exact oV (hC (hS 9 (.bool h)) (h0)) (.bool h)
          ·exact oV (hC (hA 0 63) (h0)) (.bool h)
          ·exact oV (hC (hS 13 (.bool c.2.2.2.2.2.1)) (hC (hB 1 64 b4) (h0))) (.bool c.2.2.2.2.2.1)
          ·exact oV (hC (hB 1 64 b4) (hC (hA 2 65) (h0))) (.bool c.2.2.2.2.2.1)
          ·exact oV (hC (hA 3 66) (h0)) (.bool c.2.2.2.2.2.1)
          ·refine oL 0 ?_
           ·rintro ρ' w' hs hah ⟨m5, j9⟩
            have c9 : ρ' 12 = (pt a6 0) := (hs 12 K).trans K
            have b3 := hah 4 67 K
            refine kN [(12, (pt a6 0)), (67, (.bool true))] ⟨c9, (Eq.trans b3 (congrArg Value.bool b1)), trivial⟩ fun hkn => ?_
            refine sL 63 12 a6 0 1 (.agg #[(.int .i64 c.1), (.string ⟨List.toArray c.2.1⟩), (.string ⟨List.toArray c.2.2.1⟩), (.int .i64 c.2.2.2.1), (.int .i64 c.2.2.2.2.1)]) 68 j9 rfl ?_
            exact eK hkn
          ·refine oL 0 ?_
           ·rintro ρ' w' hs hah ⟨m6, k1⟩
            have d0 : ρ' 14 = (pt a5 0) := (hs 14 K).trans K
            have b3 := hah 4 67 K
            refine kN [(14, (pt a5 0)), (67, (.bool true))] ⟨d0, (Eq.trans b3 (congrArg Value.bool b1)), trivial⟩ fun hkn => ?_
            refine sL 63 14 a5 0 2 (.agg #[(.int .i64 m), (.string ⟨List.toArray p⟩), (.string ⟨List.toArray ([] : List UInt8)⟩), (.int .i64 q), (.int .i64 0)]) 69 k1 rfl ?_
            exact eK hkn
          ·refine oL 0 ?_
           ·rintro ρ' w' hs hah ⟨m7, m8⟩
            have d1 := hah 5 68 K
            have d2 := hah 6 69 K
            have b3 := hah 4 67 K
            refine kN [(68, (.agg #[(.int .i64 c.1), (.string ⟨List.toArray c.2.1⟩), (.string ⟨List.toArray c.2.2.1⟩), (.int .i64 c.2.2.2.1), (.int .i64 c.2.2.2.2.1)])), (69, (.agg #[(.int .i64 m), (.string ⟨List.toArray p⟩), (.string ⟨List.toArray ([] : List UInt8)⟩), (.int .i64 q), (.int .i64 0)])), (67, (.bool true))] ⟨d1, d2, (Eq.trans b3 (congrArg Value.bool b1)), trivial⟩ fun hkn => ?_
            refine N3 (op := .eql) (T := 63) (T' := 63) (x := (.tmp 68)) (y := (.tmp 69)) (vx := (.agg #[(.int .i64 c.1), (.string ⟨List.toArray c.2.1⟩), (.string ⟨List.toArray c.2.2.1⟩), (.int .i64 c.2.2.2.1), (.int .i64 c.2.2.2.2.1)])) (vy := (.agg #[(.int .i64 m), (.string ⟨List.toArray p⟩), (.string ⟨List.toArray ([] : List UInt8)⟩), (.int .i64 q), (.int .i64 0)])) (v := (.bool ((c.1 == m) && ((c.2.1 == p) && ((c.2.2.1 == ([] : List UInt8)) && ((c.2.2.2.1 == q) && (c.2.2.2.2.1 == 0))))))) (d := (some 70)) (k := 7) K rfl K K (by clear H; intro w; simp only [Ng]; go_simp; simp only [Nl, U4, Gt, Ng, Bool.and_true] <;> simp only [Bool.not_and]) ?_
            exact eK hkn
          ·exact oV (hC (hB 4 67 b1) (hC (hA 7 70) (h0))) (.bool ((c.1 == m) && ((c.2.1 == p) && ((c.2.2.1 == ([] : List UInt8)) && ((c.2.2.2.1 == q) && (c.2.2.2.2.1 == 0))))))
          ·exact oV (hC (hA 8 71) (h0)) (.bool ((c.1 == m) && ((c.2.1 == p) && ((c.2.2.1 == ([] : List UInt8)) && ((c.2.2.2.1 == q) && (c.2.2.2.2.1 == 0))))))
          ·exact oV (hC (hS 16 (.bool a3.2)) (hC (hB 9 72 b5) (h0))) (.bool a3.2)
          ·exact oV (hC (hA 10 73) (hC (hB 9 72 b5) (h0))) (.bool (!a3.2))
          ·exact oV (hC (hB 9 72 b5) (hC (hA 11 74) (h0))) (.bool (!a3.2))
          ·exact oV (hC (hA 12 75) (h0)) (.bool (!a3.2))
          ·exact oV (hC (hS 11 (pt u 0)) (hC (hB 13 76 b2) (h0))) (pt u 0)
          ·refine oH 0 1 ?_
           ·rintro ρ' w' hs hah ⟨m9, e8⟩
            have k2 := hah 14 77 K
            have d3 := hah 13 76 K
            refine kN [(77, (pt u 0)), (76, (.bool true))] ⟨k2, (Eq.trans d3 (congrArg Value.bool b2)), trivial⟩ fun hkn => ?_
            refine cF 36 #[(.tmp 77)] #[60] 78 Tryz.call36 (Yv u a0 A6 c7 a2 f.1 f.2.1 f.2.2.1 f.2.2.2.1 d9 f.2.2.2.2 c.2.2.2.2.2.2.1 c.2.2.2.2.2.2.2.1 c.2.2.2.2.2.2.2.2.1 c.2.2.2.2.2.2.2.2.2.1 c.2.2.2.2.2.2.2.2.2.2 w' (Yg e8 [3, 4, 5] rfl rfl) (fun w hm => Dp.mono _ (N5 e8 (l := [3, 4, 5]) rfl hm) c3) b7 j8) ?_
            rintro e k3 ⟨rfl, g6⟩
            refine ⟨_, rfl, ?_⟩
            have k4 : SP [] w0 k3 [Qo a1 63 #[(.int .i64 s), (.string ⟨List.toArray a7⟩), (.string ⟨List.toArray a8⟩), (.int .i64 a9), (.int .i64 b0)], Qo a6 63 #[(.int .i64 c.1), (.string ⟨List.toArray c.2.1⟩), (.string ⟨List.toArray c.2.2.1⟩), (.int .i64 c.2.2.2.1), (.int .i64 c.2.2.2.2.1)], Qo a5 63 #[(.int .i64 m), (.string ⟨List.toArray p⟩), (.string ⟨List.toArray ([] : List UInt8)⟩), (.int .i64 q), (.int .i64 0)], Qo a0 79 #[(.int .i64 f.1), (.int .i64 f.2.1), (.int .i64 f.2.2.1), (.int .i64 f.2.2.2.1), (.slice A6 (List.length (List.map stT d9)) c7), (.map (some a2))], Vq a2 f.2.2.2.2, Qo u 95 #[(pt a0 0), (V2 c.2.2.2.2.2.2.1 u), (.string ⟨List.toArray c.2.2.2.2.2.2.2.1⟩), (.string ⟨List.toArray c.2.2.2.2.2.2.2.2.1⟩), (.string ⟨List.toArray c.2.2.2.2.2.2.2.2.2.1⟩), (.bool c.2.2.2.2.2.2.2.2.2.2)]] := V7 e8 [3, 4, 5] [0, 1, 2] rfl rfl g6 rfl
            clear g6
            refine ⟨_, Qb hkn, rfl, ?_⟩
            exact (And.intro (And.intro rfl (trivial)) (k4))
          ·exact oV (hC (hS 5 (pt a1 0)) (hC (hB 13 76 b2) (h0))) (pt a1 0)
          ·refine Owe.light K [0, 1] K (Ql ?_ (Ql ?_ Vu))
           ·rintro ρ' w' hs hah ⟨n0, k5⟩
            have e9 := hah 16 79 K
            have d3 := hah 13 76 K
            refine kN [(79, (pt a1 0)), (76, (.bool true))] ⟨e9, (Eq.trans d3 (congrArg Value.bool b2)), trivial⟩ fun hkn => ?_
            refine sL 3 79 a1 0 0 (.int .i64 s) 80 k5 rfl ?_
            exact eK hkn
           ·rintro ρ' w' hs hah ⟨⟨n1, -⟩, k6⟩
            have e9 := hah 16 79 K
            have d3 := hah 13 76 K
            refine kN [(79, (pt a1 0)), (76, (.bool true))] ⟨e9, (Eq.trans d3 (congrArg Value.bool b2)), trivial⟩ fun hkn => ?_
            refine sL 3 79 a1 0 0 (.int .i64 s) 80 k6 rfl ?_
            exact eK hkn
          ·exact oV (hC (hA 17 80) (hC (hB 13 76 b2) (h0))) (.bool (s != 1))
          ·exact oV (hC (hA 15 78) (hC (hA 18 81) (hC (hB 13 76 b2) (h0)))) (.bool (b7 == (s != 1)))
          ·exact oV (hC (hB 13 76 b2) (hC (hA 19 82) (h0))) (.bool (b7 == (s != 1)))
          ·exact oV (hC (hA 20 83) (h0)) (.bool (b7 == (s != 1)))
          ·rintro ρ' w' hs hf ⟨⟨n2, -⟩, g7⟩
           refine Vj [(8, (.bool (b7 == (s != 1))))] ⟨hf 21 8 K, trivial⟩ ?_
           obtain ⟨n3, k7⟩ : ∃ x, w' = x := ⟨_, rfl⟩
           rw [k7] at g7 ⊢
           exact ⟨(b7 == (s != 1)), ⟨K, trivial⟩, SP.sel g7 [] rfl rfl, H⟩
         ·have H := cf H b2
          refine aG [GEq (.bool h), GEq (.bool h), GEq (.bool c.2.2.2.2.2.1), GEq (.bool c.2.2.2.2.2.1), GEq (.bool c.2.2.2.2.2.1), GEq (.agg #[(.int .i64 c.1), (.string ⟨List.toArray c.2.1⟩), (.string ⟨List.toArray c.2.2.1⟩), (.int .i64 c.2.2.2.1), (.int .i64 c.2.2.2.2.1)]), GEq (.agg #[(.int .i64 m), (.string ⟨List.toArray p⟩), (.string ⟨List.toArray ([] : List UInt8)⟩), (.int .i64 q), (.int .i64 0)]), GEq (.bool ((c.1 == m) && ((c.2.1 == p) && ((c.2.2.1 == ([] : List UInt8)) && ((c.2.2.2.1 == q) && (c.2.2.2.2.1 == 0)))))), GEq (.bool ((c.1 == m) && ((c.2.1 == p) && ((c.2.2.1 == ([] : List UInt8)) && ((c.2.2.2.1 == q) && (c.2.2.2.2.1 == 0)))))), GEq (.bool ((c.1 == m) && ((c.2.1 == p) && ((c.2.2.1 == ([] : List UInt8)) && ((c.2.2.2.1 == q) && (c.2.2.2.2.1 == 0)))))), GEq (.bool a3.2), GEq (.bool (!a3.2)), GEq (.bool (!a3.2)), GEq (.bool (!a3.2)), GEq undef, GEq undef, GEq undef, GEq undef, GEq undef, GEq undef, GEq (.bool false), GEq (.bool false)] [] (tG [] w0 [Qo a1 63 #[(.int .i64 s), (.string ⟨List.toArray a7⟩), (.string ⟨List.toArray a8⟩), (.int .i64 a9), (.int .i64 b0)], Qo a6 63 #[(.int .i64 c.1), (.string ⟨List.toArray c.2.1⟩), (.string ⟨List.toArray c.2.2.1⟩), (.int .i64 c.2.2.2.1), (.int .i64 c.2.2.2.2.1)], Qo a5 63 #[(.int .i64 m), (.string ⟨List.toArray p⟩), (.string ⟨List.toArray ([] : List UInt8)⟩), (.int .i64 q), (.int .i64 0)], Qo a0 79 #[(.int .i64 f.1), (.int .i64 f.2.1), (.int .i64 f.2.2.1), (.int .i64 f.2.2.2.1), (.slice A6 (List.length (List.map stT d9)) c7), (.map (some a2))], Vq a2 f.2.2.2.2, Qo u 95 #[(pt a0 0), (V2 c.2.2.2.2.2.2.1 u), (.string ⟨List.toArray c.2.2.2.2.2.2.2.1⟩), (.string ⟨List.toArray c.2.2.2.2.2.2.2.2.1⟩), (.string ⟨List.toArray c.2.2.2.2.2.2.2.2.2.1⟩), (.bool c.2.2.2.2.2.2.2.2.2.2)]] [([], [])]) 22 0 ⟨trivial, SP.drew c8⟩ ?_ ?_
          iterate 22 refine And.intro ?_ ?_
          exact trivial
          ·exact oV (hC (hS 9 (.bool h)) (h0)) (.bool h)
          ·exact oV (hC (hA 0 63) (h0)) (.bool h)
          ·exact oV (hC (hS 13 (.bool c.2.2.2.2.2.1)) (hC (hB 1 64 b4) (h0))) (.bool c.2.2.2.2.2.1)
          ·exact oV (hC (hB 1 64 b4) (hC (hA 2 65) (h0))) (.bool c.2.2.2.2.2.1)
          ·exact oV (hC (hA 3 66) (h0)) (.bool c.2.2.2.2.2.1)
          ·refine oL 0 ?_
           ·rintro ρ' w' hs hah ⟨n4, k8⟩
            have c9 : ρ' 12 = (pt a6 0) := (hs 12 K).trans K
            have b3 := hah 4 67 K
            refine kN [(12, (pt a6 0)), (67, (.bool true))] ⟨c9, (Eq.trans b3 (congrArg Value.bool b1)), trivial⟩ fun hkn => ?_
            refine sL 63 12 a6 0 1 (.agg #[(.int .i64 c.1), (.string ⟨List.toArray c.2.1⟩), (.string ⟨List.toArray c.2.2.1⟩), (.int .i64 c.2.2.2.1), (.int .i64 c.2.2.2.2.1)]) 68 k8 rfl ?_
            exact eK hkn
          ·refine oL 0 ?_
           ·rintro ρ' w' hs hah ⟨n5, k9⟩
            have d0 : ρ' 14 = (pt a5 0) := (hs 14 K).trans K
            have b3 := hah 4 67 K
            refine kN [(14, (pt a5 0)), (67, (.bool true))] ⟨d0, (Eq.trans b3 (congrArg Value.bool b1)), trivial⟩ fun hkn => ?_
            refine sL 63 14 a5 0 2 (.agg #[(.int .i64 m), (.string ⟨List.toArray p⟩), (.string ⟨List.toArray ([] : List UInt8)⟩), (.int .i64 q), (.int .i64 0)]) 69 k9 rfl ?_
            exact eK hkn
          ·refine oL 0 ?_
           ·rintro ρ' w' hs hah ⟨n6, n7⟩
            have d1 := hah 5 68 K
            have d2 := hah 6 69 K
            have b3 := hah 4 67 K
            refine kN [(68, (.agg #[(.int .i64 c.1), (.string ⟨List.toArray c.2.1⟩), (.string ⟨List.toArray c.2.2.1⟩), (.int .i64 c.2.2.2.1), (.int .i64 c.2.2.2.2.1)])), (69, (.agg #[(.int .i64 m), (.string ⟨List.toArray p⟩), (.string ⟨List.toArray ([] : List UInt8)⟩), (.int .i64 q), (.int .i64 0)])), (67, (.bool true))] ⟨d1, d2, (Eq.trans b3 (congrArg Value.bool b1)), trivial⟩ fun hkn => ?_
            refine N3 (op := .eql) (T := 63) (T' := 63) (x := (.tmp 68)) (y := (.tmp 69)) (vx := (.agg #[(.int .i64 c.1), (.string ⟨List.toArray c.2.1⟩), (.string ⟨List.toArray c.2.2.1⟩), (.int .i64 c.2.2.2.1), (.int .i64 c.2.2.2.2.1)])) (vy := (.agg #[(.int .i64 m), (.string ⟨List.toArray p⟩), (.string ⟨List.toArray ([] : List UInt8)⟩), (.int .i64 q), (.int .i64 0)])) (v := (.bool ((c.1 == m) && ((c.2.1 == p) && ((c.2.2.1 == ([] : List UInt8)) && ((c.2.2.2.1 == q) && (c.2.2.2.2.1 == 0))))))) (d := (some 70)) (k := 7) K rfl K K (by clear H; intro w; simp only [Ng]; go_simp; simp only [Nl, U4, Gt, Ng, Bool.and_true] <;> simp only [Bool.not_and]) ?_
            exact eK hkn
          ·exact oV (hC (hB 4 67 b1) (hC (hA 7 70) (h0))) (.bool ((c.1 == m) && ((c.2.1 == p) && ((c.2.2.1 == ([] : List UInt8)) && ((c.2.2.2.1 == q) && (c.2.2.2.2.1 == 0))))))
          ·exact oV (hC (hA 8 71) (h0)) (.bool ((c.1 == m) && ((c.2.1 == p) && ((c.2.2.1 == ([] : List UInt8)) && ((c.2.2.2.1 == q) && (c.2.2.2.2.1 == 0))))))
          ·exact oV (hC (hS 16 (.bool a3.2)) (hC (hB 9 72 b5) (h0))) (.bool a3.2)
          ·exact oV (hC (hA 10 73) (hC (hB 9 72 b5) (h0))) (.bool (!a3.2))
          ·exact oV (hC (hB 9 72 b5) (hC (hA 11 74) (h0))) (.bool (!a3.2))
          ·exact oV (hC (hA 12 75) (h0)) (.bool (!a3.2))
          ·exact oW (hC (hB 13 76 b2) (h0)) 77
          ·exact oW (hC (hB 13 76 b2) (h0)) 78
          ·exact oW (hC (hB 13 76 b2) (h0)) 79
          ·exact oW (hC (hB 13 76 b2) (h0)) 80
          ·exact oW (hC (hB 13 76 b2) (h0)) 81
          ·exact oW (hC (hB 13 76 b2) (h0)) 82
          ·exact oV (hC (hB 13 76 b2) (hC (hA 19 82) (h0))) (.bool false)
          ·exact oV (hC (hA 20 83) (h0)) (.bool false)
          ·rintro ρ' w' hs hf ⟨n8, g8⟩
           refine Vj [(8, (.bool false))] ⟨hf 21 8 K, trivial⟩ ?_
           obtain ⟨n9, l0⟩ : ∃ x, w' = x := ⟨_, rfl⟩
           rw [l0] at g8 ⊢
           exact ⟨false, ⟨K, trivial⟩, SP.sel g8 [] rfl rfl, H⟩
        ·have H := cf H b5
         refine aG [GEq (.bool h), GEq (.bool h), GEq (.bool c.2.2.2.2.2.1), GEq (.bool c.2.2.2.2.2.1), GEq (.bool c.2.2.2.2.2.1), GEq (.agg #[(.int .i64 c.1), (.string ⟨List.toArray c.2.1⟩), (.string ⟨List.toArray c.2.2.1⟩), (.int .i64 c.2.2.2.1), (.int .i64 c.2.2.2.2.1)]), GEq (.agg #[(.int .i64 m), (.string ⟨List.toArray p⟩), (.string ⟨List.toArray ([] : List UInt8)⟩), (.int .i64 q), (.int .i64 0)]), GEq (.bool ((c.1 == m) && ((c.2.1 == p) && ((c.2.2.1 == ([] : List UInt8)) && ((c.2.2.2.1 == q) && (c.2.2.2.2.1 == 0)))))), GEq (.bool ((c.1 == m) && ((c.2.1 == p) && ((c.2.2.1 == ([] : List UInt8)) && ((c.2.2.2.1 == q) && (c.2.2.2.2.1 == 0)))))), GEq (.bool ((c.1 == m) && ((c.2.1 == p) && ((c.2.2.1 == ([] : List UInt8)) && ((c.2.2.2.1 == q) && (c.2.2.2.2.1 == 0)))))), GEq undef, GEq undef, GEq (.bool false), GEq (.bool false), GEq undef, GEq undef, GEq undef, GEq undef, GEq undef, GEq undef, GEq (.bool false), GEq (.bool false)] [] (tG [] w0 [Qo a1 63 #[(.int .i64 s), (.string ⟨List.toArray a7⟩), (.string ⟨List.toArray a8⟩), (.int .i64 a9), (.int .i64 b0)], Qo a6 63 #[(.int .i64 c.1), (.string ⟨List.toArray c.2.1⟩), (.string ⟨List.toArray c.2.2.1⟩), (.int .i64 c.2.2.2.1), (.int .i64 c.2.2.2.2.1)], Qo a5 63 #[(.int .i64 m), (.string ⟨List.toArray p⟩), (.string ⟨List.toArray ([] : List UInt8)⟩), (.int .i64 q), (.int .i64 0)], Qo a0 79 #[(.int .i64 f.1), (.int .i64 f.2.1), (.int .i64 f.2.2.1), (.int .i64 f.2.2.2.1), (.slice A6 (List.length (List.map stT d9)) c7), (.map (some a2))], Vq a2 f.2.2.2.2, Qo u 95 #[(pt a0 0), (V2 c.2.2.2.2.2.2.1 u), (.string ⟨List.toArray c.2.2.2.2.2.2.2.1⟩), (.string ⟨List.toArray c.2.2.2.2.2.2.2.2.1⟩), (.string ⟨List.toArray c.2.2.2.2.2.2.2.2.2.1⟩), (.bool c.2.2.2.2.2.2.2.2.2.2)]] [([], [])]) 22 0 ⟨trivial, SP.drew c8⟩ ?_ ?_
         iterate 22 refine And.intro ?_ ?_
         exact trivial
         ·exact oV (hC (hS 9 (.bool h)) (h0)) (.bool h)
         ·exact oV (hC (hA 0 63) (h0)) (.bool h)
         ·exact oV (hC (hS 13 (.bool c.2.2.2.2.2.1)) (hC (hB 1 64 b4) (h0))) (.bool c.2.2.2.2.2.1)
         ·exact oV (hC (hB 1 64 b4) (hC (hA 2 65) (h0))) (.bool c.2.2.2.2.2.1)
         ·exact oV (hC (hA 3 66) (h0)) (.bool c.2.2.2.2.2.1)
         ·refine oL 0 ?_
          ·rintro ρ' w' hs hah ⟨o0, l1⟩
           have c9 : ρ' 12 = (pt a6 0) := (hs 12 K).trans K
           have b3 := hah 4 67 K
           refine kN [(12, (pt a6 0)), (67, (.bool true))] ⟨c9, (Eq.trans b3 (congrArg Value.bool b1)), trivial⟩ fun hkn => ?_
           refine sL 63 12 a6 0 1 (.agg #[(.int .i64 c.1), (.string ⟨List.toArray c.2.1⟩), (.string ⟨List.toArray c.2.2.1⟩), (.int .i64 c.2.2.2.1), (.int .i64 c.2.2.2.2.1)]) 68 l1 rfl ?_
           exact eK hkn
         ·refine oL 0 ?_
          ·rintro ρ' w' hs hah ⟨o1, l2⟩
           have d0 : ρ' 14 = (pt a5 0) := (hs 14 K).trans K
           have b3 := hah 4 67 K
           refine kN [(14, (pt a5 0)), (67, (.bool true))] ⟨d0, (Eq.trans b3 (congrArg Value.bool b1)), trivial⟩ fun hkn => ?_
           refine sL 63 14 a5 0 2 (.agg #[(.int .i64 m), (.string ⟨List.toArray p⟩), (.string ⟨List.toArray ([] : List UInt8)⟩), (.int .i64 q), (.int .i64 0)]) 69 l2 rfl ?_
           exact eK hkn
         ·refine oL 0 ?_
          ·rintro ρ' w' hs hah ⟨o2, o3⟩
           have d1 := hah 5 68 K
           have d2 := hah 6 69 K
           have b3 := hah 4 67 K
           refine kN [(68, (.agg #[(.int .i64 c.1), (.string ⟨List.toArray c.2.1⟩), (.string ⟨List.toArray c.2.2.1⟩), (.int .i64 c.2.2.2.1), (.int .i64 c.2.2.2.2.1)])), (69, (.agg #[(.int .i64 m), (.string ⟨List.toArray p⟩), (.string ⟨List.toArray ([] : List UInt8)⟩), (.int .i64 q), (.int .i64 0)])), (67, (.bool true))] ⟨d1, d2, (Eq.trans b3 (congrArg Value.bool b1)), trivial⟩ fun hkn => ?_
           refine N3 (op := .eql) (T := 63) (T' := 63) (x := (.tmp 68)) (y := (.tmp 69)) (vx := (.agg #[(.int .i64 c.1), (.string ⟨List.toArray c.2.1⟩), (.string ⟨List.toArray c.2.2.1⟩), (.int .i64 c.2.2.2.1), (.int .i64 c.2.2.2.2.1)])) (vy := (.agg #[(.int .i64 m), (.string ⟨List.toArray p⟩), (.string ⟨List.toArray ([] : List UInt8)⟩), (.int .i64 q), (.int .i64 0)])) (v := (.bool ((c.1 == m) && ((c.2.1 == p) && ((c.2.2.1 == ([] : List UInt8)) && ((c.2.2.2.1 == q) && (c.2.2.2.2.1 == 0))))))) (d := (some 70)) (k := 7) K rfl K K (by clear H; intro w; simp only [Ng]; go_simp; simp only [Nl, U4, Gt, Ng, Bool.and_true] <;> simp only [Bool.not_and]) ?_
           exact eK hkn
         ·exact oV (hC (hB 4 67 b1) (hC (hA 7 70) (h0))) (.bool ((c.1 == m) && ((c.2.1 == p) && ((c.2.2.1 == ([] : List UInt8)) && ((c.2.2.2.1 == q) && (c.2.2.2.2.1 == 0))))))
         ·exact oV (hC (hA 8 71) (h0)) (.bool ((c.1 == m) && ((c.2.1 == p) && ((c.2.2.1 == ([] : List UInt8)) && ((c.2.2.2.1 == q) && (c.2.2.2.2.1 == 0))))))
         ·exact oW (hC (hB 9 72 b5) (h0)) 73
         ·exact oW (hC (hB 9 72 b5) (h0)) 74
         ·exact oV (hC (hB 9 72 b5) (hC (hA 11 74) (h0))) (.bool false)
         ·exact oV (hC (hA 12 75) (h0)) (.bool false)
         ·exact oW (hC (hA 13 76) (h0)) 77
         ·exact oW (hC (hA 13 76) (h0)) 78
         ·exact oW (hC (hA 13 76) (h0)) 79
         ·exact oW (hC (hA 13 76) (h0)) 80
         ·exact oW (hC (hA 13 76) (h0)) 81
         ·exact oW (hC (hA 13 76) (h0)) 82
         ·exact oV (hC (hA 13 76) (hC (hA 19 82) (h0))) (.bool false)
         ·exact oV (hC (hA 20 83) (h0)) (.bool false)
         ·rintro ρ' w' hs hf ⟨o4, g9⟩
          refine Vj [(8, (.bool false))] ⟨hf 21 8 K, trivial⟩ ?_
          obtain ⟨o5, l3⟩ : ∃ x, w' = x := ⟨_, rfl⟩
          rw [l3] at g9 ⊢
          exact ⟨false, ⟨K, trivial⟩, SP.sel g9 [] rfl rfl, H⟩
       ·have H := cf H b1
        refine aG [GEq (.bool h), GEq (.bool h), GEq (.bool c.2.2.2.2.2.1), GEq (.bool c.2.2.2.2.2.1), GEq (.bool c.2.2.2.2.2.1), GEq undef, GEq undef, GEq undef, GEq (.bool false), GEq (.bool false), GEq undef, GEq undef, GEq (.bool false), GEq (.bool false), GEq undef, GEq undef, GEq undef, GEq undef, GEq undef, GEq undef, GEq (.bool false), GEq (.bool false)] [] (tG [] w0 [Qo a1 63 #[(.int .i64 s), (.string ⟨List.toArray a7⟩), (.string ⟨List.toArray a8⟩), (.int .i64 a9), (.int .i64 b0)], Qo a6 63 #[(.int .i64 c.1), (.string ⟨List.toArray c.2.1⟩), (.string ⟨List.toArray c.2.2.1⟩), (.int .i64 c.2.2.2.1), (.int .i64 c.2.2.2.2.1)], Qo a5 63 #[(.int .i64 m), (.string ⟨List.toArray p⟩), (.string ⟨List.toArray ([] : List UInt8)⟩), (.int .i64 q), (.int .i64 0)], Qo a0 79 #[(.int .i64 f.1), (.int .i64 f.2.1), (.int .i64 f.2.2.1), (.int .i64 f.2.2.2.1), (.slice A6 (List.length (List.map stT d9)) c7), (.map (some a2))], Vq a2 f.2.2.2.2, Qo u 95 #[(pt a0 0), (V2 c.2.2.2.2.2.2.1 u), (.string ⟨List.toArray c.2.2.2.2.2.2.2.1⟩), (.string ⟨List.toArray c.2.2.2.2.2.2.2.2.1⟩), (.string ⟨List.toArray c.2.2.2.2.2.2.2.2.2.1⟩), (.bool c.2.2.2.2.2.2.2.2.2.2)]] [([], [])]) 22 0 ⟨trivial, SP.drew c8⟩ ?_ ?_
        iterate 22 refine And.intro ?_ ?_
        exact trivial
        ·exact oV (hC (hS 9 (.bool h)) (h0)) (.bool h)
        ·exact oV (hC (hA 0 63) (h0)) (.bool h)
        ·exact oV (hC (hS 13 (.bool c.2.2.2.2.2.1)) (hC (hB 1 64 b4) (h0))) (.bool c.2.2.2.2.2.1)
        ·exact oV (hC (hB 1 64 b4) (hC (hA 2 65) (h0))) (.bool c.2.2.2.2.2.1)
        ·exact oV (hC (hA 3 66) (h0)) (.bool c.2.2.2.2.2.1)
        ·exact oW (hC (hB 4 67 b1) (h0)) 68
        ·exact oW (hC (hB 4 67 b1) (h0)) 69
        ·exact oW (hC (hB 4 67 b1) (h0)) 70
        ·exact oV (hC (hB 4 67 b1) (hC (hA 7 70) (h0))) (.bool false)
        ·exact oV (hC (hA 8 71) (h0)) (.bool false)
        ·exact oW (hC (hA 9 72) (h0)) 73
        ·exact oW (hC (hA 9 72) (h0)) 74
        ·exact oV (hC (hA 9 72) (hC (hA 11 74) (h0))) (.bool false)
        ·exact oV (hC (hA 12 75) (h0)) (.bool false)
        ·exact oW (hC (hA 13 76) (h0)) 77
        ·exact oW (hC (hA 13 76) (h0)) 78
        ·exact oW (hC (hA 13 76) (h0)) 79
        ·exact oW (hC (hA 13 76) (h0)) 80
        ·exact oW (hC (hA 13 76) (h0)) 81
        ·exact oW (hC (hA 13 76) (h0)) 82
        ·exact oV (hC (hA 13 76) (hC (hA 19 82) (h0))) (.bool false)
        ·exact oV (hC (hA 20 83) (h0)) (.bool false)
        ·rintro ρ' w' hs hf ⟨o6, h1⟩
         refine Vj [(8, (.bool false))] ⟨hf 21 8 K, trivial⟩ ?_
         obtain ⟨o7, l4⟩ : ∃ x, w' = x := ⟨_, rfl⟩
         rw [l4] at h1 ⊢
         exact ⟨false, ⟨K, trivial⟩, SP.sel h1 [] rfl rfl, H⟩
      ·have H := cf H b4
       refine aG [GEq (.bool h), GEq (.bool h), GEq undef, GEq (.bool false), GEq (.bool false), GEq undef, GEq undef, GEq undef, GEq (.bool false), GEq (.bool false), GEq undef, GEq undef, GEq (.bool false), GEq (.bool false), GEq undef, GEq undef, GEq undef, GEq undef, GEq undef, GEq undef, GEq (.bool false), GEq (.bool false)] [] (tG [] w0 [Qo a1 63 #[(.int .i64 s), (.string ⟨List.toArray a7⟩), (.string ⟨List.toArray a8⟩), (.int .i64 a9), (.int .i64 b0)], Qo a6 63 #[(.int .i64 c.1), (.string ⟨List.toArray c.2.1⟩), (.string ⟨List.toArray c.2.2.1⟩), (.int .i64 c.2.2.2.1), (.int .i64 c.2.2.2.2.1)], Qo a5 63 #[(.int .i64 m), (.string ⟨List.toArray p⟩), (.string ⟨List.toArray ([] : List UInt8)⟩), (.int .i64 q), (.int .i64 0)], Qo a0 79 #[(.int .i64 f.1), (.int .i64 f.2.1), (.int .i64 f.2.2.1), (.int .i64 f.2.2.2.1), (.slice A6 (List.length (List.map stT d9)) c7), (.map (some a2))], Vq a2 f.2.2.2.2, Qo u 95 #[(pt a0 0), (V2 c.2.2.2.2.2.2.1 u), (.string ⟨List.toArray c.2.2.2.2.2.2.2.1⟩), (.string ⟨List.toArray c.2.2.2.2.2.2.2.2.1⟩), (.string ⟨List.toArray c.2.2.2.2.2.2.2.2.2.1⟩), (.bool c.2.2.2.2.2.2.2.2.2.2)]] [([], [])]) 22 0 ⟨trivial, SP.drew c8⟩ ?_ ?_
       iterate 22 refine And.intro ?_ ?_
       exact trivial
       ·exact oV (hC (hS 9 (.bool h)) (h0)) (.bool h)
       ·exact oV (hC (hA 0 63) (h0)) (.bool h)
       ·exact oW (hC (hB 1 64 b4) (h0)) 65
       ·exact oV (hC (hB 1 64 b4) (hC (hA 2 65) (h0))) (.bool false)
       ·exact oV (hC (hA 3 66) (h0)) (.bool false)
       ·exact oW (hC (hA 4 67) (h0)) 68
       ·exact oW (hC (hA 4 67) (h0)) 69
       ·exact oW (hC (hA 4 67) (h0)) 70
       ·exact oV (hC (hA 4 67) (hC (hA 7 70) (h0))) (.bool false)
       ·exact oV (hC (hA 8 71) (h0)) (.bool false)
       ·exact oW (hC (hA 9 72) (h0)) 73
       ·exact oW (hC (hA 9 72) (h0)) 74
       ·exact oV (hC (hA 9 72) (hC (hA 11 74) (h0))) (.bool false)
       ·exact oV (hC (hA 12 75) (h0)) (.bool false)
       ·exact oW (hC (hA 13 76) (h0)) 77
       ·exact oW (hC (hA 13 76) (h0)) 78
       ·exact oW (hC (hA 13 76) (h0)) 79
       ·exact oW (hC (hA 13 76) (h0)) 80
       ·exact oW (hC (hA 13 76) (h0)) 81
       ·exact oW (hC (hA 13 76) (h0)) 82
       ·exact oV (hC (hA 13 76) (hC (hA 19 82) (h0))) (.bool false)
       ·exact oV (hC (hA 20 83) (h0)) (.bool false)
       ·rintro ρ' w' hs hf ⟨o8, h2⟩
        refine Vj [(8, (.bool false))] ⟨hf 21 8 K, trivial⟩ ?_
        obtain ⟨o9, l5⟩ : ∃ x, w' = x := ⟨_, rfl⟩
        rw [l5] at h2 ⊢
        exact ⟨false, ⟨K, trivial⟩, SP.sel h2 [] rfl rfl, H⟩
     ·rintro ρ p0 ⟨c6, hk, l6, H⟩
      unfold Vd at H
      first | refine At.known [(8, (.bool c6))] hk ?_ | rw [← Q9 (l := [(8, (.bool c6))]) hk]
      refine At.ret K ?_
      refine ⟨(.bool c6), K, ?_⟩
      obtain rfl := Qf H
      exact ⟨rfl, SP.sel l6 [] rfl rfl⟩
end Go.Proofs.YtmgfanhcdfobhaaGreatDoor
namespace Go.Proofs.YtmgfanhcdfobhaaGreatDoor
theorem Bw (w g i0 e : Int) (l : List Qd) (kind : Int) (A B : Str) (N m now : Int) (nonce : Str) (hA : A.length ≤ 140737488355328) (hn : nonce.length ≤ 140737488355328) (hl : l.length ≤ 140737488355328) (hq : ∀ t ∈ l, TenQ t) :
    Xo w g i0 e l kind A B N m now nonce = some true := by
  unfold Xo Yw
  obtain ⟨c, hc, hc'⟩ := cfg_great w g i0 e l hl hq
  rw [shakeHead, Option.bind_some, pVNew w g i0 e l hl hq, Option.bind_some]
  cases hk : Ep w g i0 e l with
  | false => rfl
  | true =>
    rw [cond_true, optE_s, hc, Option.bind_some, Option.bind_some]
    have hup : Ve l kind A B N m now nonce true (w, g, i0, e, []) true = some true := by unfold Ve; rw [cond_true]
    cases c with
    | true => rw [cond_true]; exact hup
    | false =>
      obtain ⟨s1, s2⟩ := hc' rfl
      have hv := vc_of hk (by omega) hq s2
      rw [cond_false]
      generalize decide (_ > (9000 : Int)) = z
      cases z with
      | true => rw [cond_true]; exact hup
      | false =>
        rw [cond_false]
        generalize decide (_ > (2000 : Int)) = z
        cases z with
        | true => exact hup
        | false =>
          unfold Ve Zb Vd
          rw [cond_false, show Ui (w, g, i0, e, ([] : Us)).1 (w, g, i0, e, ([] : Us)).2.1 (w, g, i0, e, ([] : Us)).2.2.1 (w, g, i0, e, ([] : Us)).2.2.2.1 l (w, g, i0, e, ([] : Us)).2.2.2.2 = some (1, [], [], [], false) from rfl, Option.bind_some,
            pHear hv _ _ _ _ _ _ _ _ _ _ _ _ _ _ _ _ _ hA hn, Option.bind_some, cut64 nonce hn]
          simp only [who_p, over_p, Option.bind_some]
          unfold hearL D1
          cases hx : (kind == 1) with
          | true => rw [show (kind != 1) = false by rw [bne, hx]; rfl]; simp
          | false => rw [show (kind != 1) = true by rw [bne, hx]; rfl]; simp
end Go.Proofs.YtmgfanhcdfobhaaGreatDoor
namespace Go.Proofs.YtmgfanhcdfobhaaGreatDoor
open Go.RowKit Go.ChangeShapes Go.WideShapes Go.Deep
theorem own : ownKnob Tryz.prog.godebug = none := by kernel_rfl
theorem C2 : laidOutB Tryz.prog = true := by kernel_rfl
section
variable {H : Type} {enc : TypeId × Value → H} {W : World} {spare : Nat → Bool} {held : Bool} {base b0 : Nat} {r : Reach}
end
end Go.Proofs.YtmgfanhcdfobhaaGreatDoor
namespace Go.Proofs.YtmgfanhcdfobhaaGreatDoor
open Go.RowKit Go.ChangeShapes Go.WideShapes Go.Deep
section
variable {H : Type} {enc : TypeId × Value → H} {P : Program} {W : World}
def Rds (enc : TypeId × Value → H) (P : Program) (W : World) (t : TypeId) {α : Type} (e : Enc α) (Q : Nat → α → Prop) : Prop :=
  ∀ (Zw : Nat) (cs : List Value) (x : DataW H × List MemPlace), DataW.trod enc P W 0 (fun _ => true) true Zw t cs = some x → ∃ a, cs = e.enc a ∧ ∀ r, (x.1.weights P t).all (· ≤ r) = true → Q r a
def RdsFs (enc : TypeId × Value → H) (P : Program) (W : World) (o : Nat) (fs : List (TypeId × Nat)) {α : Type} (e : Enc α) (Q : Nat → α → Prop) : Prop :=
  ∀ (Zw : Nat) (cs : List Value) (xs : List (DataW H × List MemPlace)), xs.length = fs.length → (∀ (i : Nat) f, fs[i]? = some f → DataW.trod enc P W 0 (fun _ => true) true Zw f.1 ((cs.drop f.2).take (P.cellsOf f.1)) = xs[i]?) →
    ∃ a, (cs.drop o).take e.sz = e.enc a ∧ ∀ r, (DataW.weightsEach P (fs.map (·.1)) (xs.map (·.1))).all (· ≤ r) = true → Q r a
theorem Uv {t : TypeId} {k : IntKind} (ht : P.underlying t = some (.int k)) : Rds enc P W t (Qh k) (fun _ n => (Lit.int k n).wf = true) := by
  intro Zw cs x h
  obtain ⟨n, rfl, rfl, hw⟩ := DataW.trod_int ht h
  exact ⟨n, rfl, fun _ _ => hw⟩
theorem Bx {t : TypeId} (ht : P.underlying t = some .string) : Rds enc P W t Zc (fun r s => s.length ≤ r) := by
  intro Zw cs x h
  obtain ⟨s, rfl, rfl, hs⟩ := DataW.trod_string ht h
  refine ⟨s.data.toList, rfl, fun r hr => ?_⟩
  simpa [DataW.weights] using hr
theorem E2 {t : TypeId} {o : Nat} {α : Type} {e : Enc α} {Q : Nat → α → Prop} (h : Rds enc P W t e Q) (hc : P.cellsOf t = e.sz) : RdsFs enc P W o [(t, o)] e Q := by
  intro Zw cs xs hl hf
  match xs, hl with
  | [x], _ =>
    have := hf 0 (t, o) rfl
    obtain ⟨a, ha, hq⟩ := h Zw _ _ this
    rw [hc] at ha
    refine ⟨a, ha, fun r hr => hq r ?_⟩
    simpa [DataW.weightsEach] using hr
theorem Jz {t : TypeId} {o : Nat} {fs : List (TypeId × Nat)} {α β : Type} {e : Enc α} {e' : Enc β} {Q : Nat → α → Prop} {Q' : Nat → β → Prop} (h : Rds enc P W t e Q) (hc : P.cellsOf t = e.sz) (hr : RdsFs enc P W (o + e.sz) fs e' Q') :
    RdsFs enc P W o ((t, o) :: fs) (Qu e e') (fun r a => Q r a.1 ∧ Q' r a.2) := by
  intro Zw cs xs hl hf
  match xs, hl with
  | x :: xs, hl =>
    have := hf 0 (t, o) rfl
    obtain ⟨a, ha, hq⟩ := h Zw _ _ this
    obtain ⟨b, hb, hq'⟩ := hr Zw cs xs (by simpa using hl) (fun i f hi => by have := hf (i + 1) f (by simpa using hi); simpa using this)
    refine ⟨(a, b), ?_, fun r hw => ?_⟩
    · show (cs.drop o).take (e.sz + e'.sz) = e.enc a ++ e'.enc b
      rw [hc] at ha
      rw [← ha, ← hb, List.take_add, List.drop_drop]
    · simp only [List.map_cons, DataW.weightsEach, List.all_append, Bool.and_eq_true] at hw
      exact ⟨hq r hw.1, hq' r hw.2⟩
theorem Ny {t : TypeId} {l : List (TypeId × Nat)} {α : Type} {e : Enc α} {Q : Nat → α → Prop} (hl : (match P.underlying t with | some (.struct fs) => some (fs.toList.map (fun f => (f.type, f.offset))) | _ => none) = some l) (hc : P.cellsOf t = e.sz)
    (hr : RdsFs enc P W 0 l e Q) : Rds enc P W t e Q := by
  intro Zw cs x hx
  split at hl
  · rename_i fs hs
    simp only [Option.some.injEq] at hl
    subst hl
    obtain ⟨xs, n, _, rfl, hlen, hxs, hg⟩ := DataW.trod_struct hs hx
    obtain ⟨a, ha, hq⟩ := hr n cs xs (by simpa using hxs) (fun i f hi => by
      rw [List.getElem?_map, Option.map_eq_some_iff] at hi
      obtain ⟨f', hf', rfl⟩ := hi
      exact hg i f' (by simpa using hf'))
    rw [List.drop_zero, List.take_of_length_le (by omega)] at ha
    refine ⟨a, ha, fun r hw => hq r ?_⟩
    simp only [DataW.weights, hs] at hw
    simpa [List.map_map, Function.comp_def] using hw
  · cases hl
theorem Rc {t : TypeId} {n : Nat} : ∀ {ds : List (DataW H)} {d : DataW H}, d ∈ ds → n ∈ d.weights P t → n ∈ DataW.weightsAll P t ds
  | d0 :: ds, d, hd, hn => by
    simp only [DataW.weightsAll, List.mem_append]
    rcases List.mem_cons.1 hd with rfl | h
    · exact .inl hn
    · exact .inr (Rc h hn)
theorem rds_row {t te : TypeId} {α : Type} {e : Enc α} {Q : Nat → α → Prop} (ht : P.underlying t = some (.slice te)) (h : Rds enc P W te e Q) (hc : P.cellsOf te = e.sz) (h0 : 0 < e.sz) {Zw : Nat} {cs : List Value} {x : DataW H × List MemPlace}
    (hx : DataW.trod enc P W 0 (fun _ => true) true Zw t cs = some x) :
    ∃ (A : Option Addr) (c : Nat) (l : List α), cs = [.slice A l.length c] ∧ RdT e W A c l ∧ ∀ r, (x.1.weights P t).all (· ≤ r) = true → l.length * P.bytesOf te ≤ r ∧ ∀ a ∈ l, Q r a := by
  rcases DataW.trod_slice ht hx with ⟨rfl, rfl⟩ | ⟨a, len, cap, elems, rest, n, _, rfl, rfl, _, hl, hm, hlen, hel, _, _⟩
  · exact ⟨none, 0, [], rfl, RdT.nil _ W, fun r _ => ⟨by simp, fun a ha => by cases ha⟩⟩
  · have each : ∀ i, i ≤ len → ∃ l : List α, l.length = i ∧ ∀ j (hj : j < l.length), W.cells? 0 (a.add (j * P.cellsOf te)) (P.cellsOf te) = some (e.enc l[j]) ∧ ∀ y, elems[j]? = some y → ∀ r, (y.1.weights P te).all (· ≤ r) = true → Q r l[j] := by
      intro i
      induction i with
      | zero => exact fun _ => ⟨[], rfl, fun j hj => by simp at hj⟩
      | succ i ih =>
        intro hi
        obtain ⟨l, hll, hlg⟩ := ih (by omega)
        have := hel i (by omega)
        rw [List.getElem?_eq_getElem (by omega), Option.bind_eq_some_iff] at this
        obtain ⟨cs', h1, h2⟩ := this
        obtain ⟨b, rfl, hb⟩ := h n cs' _ h2
        refine ⟨l ++ [b], by simp [hll], fun j hj => ?_⟩
        by_cases hji : j < l.length
        · rw [List.getElem_append_left hji]
          exact hlg j hji
        · obtain rfl : j = i := by simp at hj; omega
          subst hll
          rw [List.getElem_concat_length rfl]
          refine ⟨h1, fun y hy => ?_⟩
          rw [List.getElem?_eq_getElem (by omega), Option.some.injEq] at hy
          subst hy
          exact hb
    obtain ⟨l, hll, hlg⟩ := each len (Nat.le_refl _)
    subst hll
    refine ⟨some a, cap, l, rfl, ⟨by rw [Q7], hl, hm, fun hn => ?_⟩, fun r hw => ?_⟩
    · have cell : ∀ j (hj : j < l.length) k, k < e.sz → W.cell? ((a.add (j * e.sz)).add k) = (e.enc l[j])[k]? := by
        intro j hj k hk
        have := (hlg j hj).1
        rw [hc] at this
        exact (World.cells?_some this).2.2 k hk
      have c0 := cell 0 hn 0 h0
      rw [Nat.zero_mul, List.getElem?_eq_getElem (by rw [e.len]; exact h0)] at c0
      obtain ⟨b, off, spot⟩ := a
      obtain rfl : spot = none := by simpa [Addr.add] using World.cell?_spot c0
      have hadd : ∀ i j : Nat, ((⟨b, off, none⟩ : Addr).add i).add j = ⟨b, off + (i + j), none⟩ := by
        intro i j
        unfold Addr.add
        by_cases hi : i = 0 <;> by_cases hj : j = 0 <;> simp [hi, hj, Nat.add_assoc]
      rw [hadd] at c0
      refine ⟨b, off, rfl, block_lt_of_cell c0, fun j u hu => ?_⟩
      have hlen2 := (List.getElem?_eq_some_iff.1 hu).1
      rw [Q7] at hlen2
      have hq : j / e.sz < l.length := Nat.div_lt_of_lt_mul (by rw [Nat.mul_comm]; exact hlen2)
      have hk : j % e.sz < e.sz := Nat.mod_lt _ h0
      have hj : j = j / e.sz * e.sz + j % e.sz := by rw [Nat.mul_comm]; exact (Nat.div_add_mod j e.sz).symm
      have hce := cell (j / e.sz) hq (j % e.sz) hk
      rw [hadd, ← hj] at hce
      rw [hce]
      have hgt := N0 e (l := l) (i := j / e.sz) (x := l[j / e.sz]) (List.getElem?_eq_getElem hq) (j := j % e.sz) (u := (e.enc l[j / e.sz])[j % e.sz]'(by rw [e.len]; exact hk)) (List.getElem?_eq_getElem _)
      rw [← hj, hu] at hgt
      rw [List.getElem?_eq_getElem (by rw [e.len]; exact hk), ← hgt]
    · simp only [DataW.weights, ht, List.all_cons, Bool.and_eq_true, decide_eq_true_eq, List.all_append] at hw
      refine ⟨Nat.le_trans (Nat.mul_le_mul_right _ (by simp; omega)) hw.1, fun b hb => ?_⟩
      obtain ⟨j, hj, rfl⟩ := List.mem_iff_getElem.1 hb
      refine (hlg j hj).2 _ (List.getElem?_eq_getElem (by omega)) r ?_
      rw [List.all_eq_true] at hw ⊢
      intro m hm'
      exact hw.2.1 m (Rc (List.mem_map.2 ⟨_, List.getElem_mem (by omega), rfl⟩) hm')
variable {r0 : Reach} {b0 : Nat}
theorem Hj {t : TypeId} {fs : Array Field} {α : Type} {e : Enc α} {Q : Nat → α → Prop} (hs : P.underlying t = some (.struct fs)) (h : Rds enc P W t e Q) {v : Value} {d : DataW H} {p : List MemPlace} (hv : Value.okWide P W r0 b0 t v)
    (hd : DataW.Trod enc P W 0 (fun _ => true) true t v d p) (hr : ∀ n ∈ d.weights P t, n ≤ reachBytes) : ∃ a, v = .agg ⟨e.enc a⟩ ∧ Q reachBytes a := by
  obtain ⟨cs, rfl, hsz⟩ := okWide_struct hs hv
  obtain ⟨Zw, hf⟩ := hd
  obtain ⟨a, ha, hq⟩ := h Zw _ _ hf
  refine ⟨a, ?_, hq _ (by rw [List.all_eq_true]; intro n hn; exact decide_eq_true (hr n hn))⟩
  simp only [Value.cells] at ha
  rw [← ha]
end
end Go.Proofs.YtmgfanhcdfobhaaGreatDoor
namespace Go.Proofs.YtmgfanhcdfobhaaGreatDoor
theorem reachM : reachBytes ≤ 140737488355328 := by decide
section
variable {H : Type} {enc : TypeId × Value → H} {P : Program} {W : World}
theorem rds_ds {t te : TypeId} {α : Type} {e : Enc α} {Q : Nat → α → Prop} (p : Dp α) (ht : P.underlying t = some (.slice te)) (h : Rds enc P W te e Q) (hc : P.cellsOf te = e.sz) (h0 : 0 < e.sz) (hb : Nat.ble 1 (P.bytesOf te) = true) (hp : ∀ r a, Q r a → p.ok W a) :
    Rds enc P W t (eDS e) (fun r x => (dDS e p).ok W x ∧ x.2.2.length ≤ r ∧ ∀ a ∈ x.2.2, Q r a) := by
  intro Zw cs x hx
  obtain ⟨A, c, l, rfl, hr, hq⟩ := rds_row ht h hc h0 hx
  refine ⟨(A, c, l), rfl, fun r hw => ?_⟩
  obtain ⟨h1, h2⟩ := hq r hw
  exact ⟨⟨hr, fun y hy => hp r y (h2 y hy)⟩, Nat.le_trans (Nat.le_mul_of_pos_right _ (Nat.le_of_ble_eq_true hb)) h1, h2⟩
def NetQ (r : Nat) (n : Int × Int) : Prop := (Lit.int .u32 n.1).wf = true ∧ (Lit.int .i64 n.2).wf = true
def TokQ (r : Nat) (x : List UInt8 × List UInt8 × Int) : Prop := x.1.length ≤ r ∧ x.2.1.length ≤ r ∧ (Lit.int .i64 x.2.2).wf = true
def TenDQ (W : World) (r : Nat) (y : Q8) : Prop := y.1.length ≤ r ∧ (Lit.int .i64 y.2.1).wf = true ∧ (Lit.int .i64 y.2.2.1).wf = true ∧
  ((dDS eNet dT).ok W y.2.2.2.1 ∧ y.2.2.2.1.2.2.length ≤ r ∧ ∀ n ∈ y.2.2.2.1.2.2, NetQ r n) ∧ ((dDS eTok dT).ok W y.2.2.2.2 ∧ y.2.2.2.2.2.2.length ≤ r ∧ ∀ x ∈ y.2.2.2.2.2.2, TokQ r x)
def CfgQ (W : World) (r : Nat) (c : Int × Int × Int × Int × DS Q8) : Prop := (Lit.int .i64 c.1).wf = true ∧ (Lit.int .i64 c.2.1).wf = true ∧ (Lit.int .i64 c.2.2.1).wf = true ∧ (Lit.int .i64 c.2.2.2.1).wf = true ∧
  ((dDS J9 Bj).ok W c.2.2.2.2 ∧ c.2.2.2.2.2.2.length ≤ r ∧ ∀ y ∈ c.2.2.2.2.2.2, TenDQ W r y)
set_option maxRecDepth 100000 in
theorem net_rds : Rds enc Tryz.prog W 113 eNet NetQ :=
  Ny (l := [(111, 0), (3, 1)]) (by kernel_rfl) (by kernel_rfl) (Jz (Uv Tryz.underlying111) (by kernel_rfl) (E2 (Uv Tryz.underlying3) (by kernel_rfl)))
set_option maxRecDepth 100000 in
theorem tok_rds : Rds enc Tryz.prog W 48 eTok TokQ :=
  Ny (l := [(9, 0), (9, 1), (2, 2)]) (by kernel_rfl) (by kernel_rfl) (Jz (Bx Tryz.underlying9) (by kernel_rfl) (Jz (Bx Tryz.underlying9) (by kernel_rfl) (E2 (Uv Tryz.underlying2) (by kernel_rfl))))
set_option maxRecDepth 100000 in
theorem ten_rds : Rds enc Tryz.prog W 44 J9 (TenDQ W) :=
  Ny (l := [(9, 0), (3, 1), (3, 2), (41, 3), (42, 4)]) (by kernel_rfl) (by kernel_rfl)
    (Jz (Bx Tryz.underlying9) (by kernel_rfl) (Jz (Uv Tryz.underlying3) (by kernel_rfl) (Jz (Uv Tryz.underlying3) (by kernel_rfl)
      (Jz (rds_ds dT Tryz.underlying41 net_rds (by kernel_rfl) (by decide) (by kernel_rfl) (fun _ _ _ => trivial)) (by kernel_rfl) (E2 (rds_ds dT Tryz.underlying42 tok_rds (by kernel_rfl) (by decide) (by kernel_rfl) (fun _ _ _ => trivial)) (by kernel_rfl))))))
set_option maxRecDepth 100000 in
theorem cfg_rds : Rds enc Tryz.prog W 24 (Qu (Qh .i64) (Qu (Qh .i64) (Qu (Qh .i64) (Qu (Qh .i64) (eDS J9))))) (CfgQ W) :=
  Ny (l := [(2, 0), (2, 1), (2, 2), (2, 3), (22, 4)]) (by kernel_rfl) (by kernel_rfl)
    (Jz (Uv Tryz.underlying2) (by kernel_rfl) (Jz (Uv Tryz.underlying2) (by kernel_rfl) (Jz (Uv Tryz.underlying2) (by kernel_rfl) (Jz (Uv Tryz.underlying2) (by kernel_rfl)
      (E2 (rds_ds Bj Tryz.underlying22 ten_rds (by kernel_rfl) (by decide) (by kernel_rfl) (fun _ _ h => ⟨trivial, trivial, trivial, h.2.2.2.1.1, h.2.2.2.2.1⟩)) (by kernel_rfl))))))
set_option maxRecDepth 100000 in
theorem open_cfg {r0 : Reach} {b0 : Nat} {v : Value} {d : DataW H} {p : List MemPlace} (hv : Value.okWide Tryz.prog W r0 b0 24 v) (hd : DataW.Trod enc Tryz.prog W 0 (fun _ => true) true 24 v d p) (hr : ∀ n ∈ d.weights Tryz.prog 24, n ≤ reachBytes) :
    ∃ (a b c e : Int) (A : Option Addr) (k : Nat) (l : List Q8), v = .agg #[.int .i64 a, .int .i64 b, .int .i64 c, .int .i64 e, .slice A (List.length (List.map stT l)) k] ∧ CfgQ W reachBytes (a, b, c, e, A, k, l) := by
  obtain ⟨⟨a, b, c, e, A, k, l⟩, rfl, q⟩ := Hj Tryz.underlying24 cfg_rds hv hd hr
  refine ⟨a, b, c, e, A, k, l, ?_, q⟩
  rw [List.length_map]
  rfl
theorem cfg_q {W : World} {a b c d : Int} {A : Option Addr} {k : Nat} {x : List Q8} (h : CfgQ W reachBytes (a, b, c, d, A, k, x)) : (List.map stT x).length ≤ 140737488355328 ∧ ∀ t ∈ List.map stT x, TenQ t := by
  have hM := reachM
  obtain ⟨_, _, _, _, _, h1, h2⟩ := h
  refine ⟨by rw [List.length_map]; exact Nat.le_trans h1 hM, fun t ht => ?_⟩
  obtain ⟨y, hy, rfl⟩ := List.mem_map.1 ht
  obtain ⟨q1, q2, q3, ⟨_, q4, q5⟩, _, q6, q7⟩ := h2 y hy
  refine ⟨Nat.le_trans q1 hM, Nat.le_trans q4 hM, Nat.le_trans q6 hM, fun n hn => ?_, fun z hz => ⟨Nat.le_trans (q7 z hz).1 hM, Nat.le_trans (q7 z hz).2.1 hM⟩⟩
  have := (q5 n hn).1
  simp [Lit.wf, IntKind.min, IntKind.max, IntKind.signed, IntKind.bits] at this
  omega
end
end Go.Proofs.YtmgfanhcdfobhaaGreatDoor
namespace Go.Proofs.YtmgfanhcdfobhaaGreatDoor
def MsgW (r : Nat) (m : Int × Str × Str × Int × Int) : Prop := (Lit.int .i64 m.1).wf = true ∧ m.2.1.length ≤ r ∧ m.2.2.1.length ≤ r ∧ (Lit.int .i64 m.2.2.2.1).wf = true ∧ (Lit.int .i64 m.2.2.2.2).wf = true
section
variable {H : Type} {enc : TypeId × Value → H} {W : World}
set_option maxRecDepth 100000 in
theorem msg_rds : Rds enc Tryz.prog W 63 (Qu (Qh .i64) (Qu Zc (Qu Zc (Qu (Qh .i64) (Qh .i64))))) MsgW :=
  Ny (l := [(3, 0), (9, 1), (9, 2), (2, 3), (2, 4)]) (by kernel_rfl) (by kernel_rfl)
    (Jz (Uv Tryz.underlying3) (by kernel_rfl) (Jz (Bx Tryz.underlying9) (by kernel_rfl) (Jz (Bx Tryz.underlying9) (by kernel_rfl) (Jz (Uv Tryz.underlying2) (by kernel_rfl) (E2 (Uv Tryz.underlying2) (by kernel_rfl))))))
end
end Go.Proofs.YtmgfanhcdfobhaaGreatDoor
namespace Go.Proofs.YtmgfanhcdfobhaaGreatDoor
open Go.RowKit
abbrev Hk : List (String × DataW Unit) := [("math/bits.deBruijn32tab", Rows.laid_math_bits_deBruijn32tab), ("math/bits.deBruijn64tab", Rows.laid_math_bits_deBruijn64tab), ("internal/strconv.uint64pow10", Rows.laid_internal_strconv_uint64pow10)
  , ("unicode/utf8.acceptRanges", Rows.laid_unicode_utf8_acceptRanges), ("unicode/utf8.first", Rows.laid_unicode_utf8_first)
  ]
theorem gTab : Tryz.prog.globalNamed Gu = some 0 := by kernel_rfl
theorem gTabType : (Tryz.prog.globals[0]?).map (·.type) = some 183 := by kernel_rfl
theorem cellsTab : Tryz.prog.cellsOf 183 = 20 := by kernel_rfl
theorem cellsU64 : Tryz.prog.cellsOf 153 = 1 := by kernel_rfl
theorem laid_of {W : World} (h : laidMetH Tryz.prog Hk W) : Rz W := by
  have h1 := h.filter (fun x => x.1 == Gu)
  have e : Hk.filter (fun x => x.1 == Gu) = [(Gu, Lib.tabData .u64 Lib.pow10Tab)] := by kernel_rfl
  rw [e] at h1
  have ht : Lib.TabIs Tryz.prog W Gu .u64 Lib.pow10Tab := Lib.tabIs_of_head (rest := []) gTab gTabType Tryz.underlying183 Tryz.underlying153 cellsU64 cellsTab h1
  refine ⟨ht, fun g hg => ?_⟩
  obtain rfl := Option.some.inj (gTab.symm.trans hg)
  have := ht.cell gTab 0 (by decide)
  exact block_lt_of_cell this
def cells1 : DataW Unit → List Value
  | .lit (.int k z) => [.int k z]
  | .lit (.bool b) => [.bool b]
  | _ => []
def cells2 : DataW Unit → List Value
  | .agg l => l.flatMap cells1
  | d => cells1 d
def cells3 : DataW Unit → List Value
  | .agg l => l.flatMap cells2
  | d => cells2 d
def R9 (d : DataW Unit) : Obj → Obj
  | .cells _ t frozen => .cells (cells3 d).toArray t frozen
  | o => o
noncomputable def By (os : Os) : World :=
  { World.holding Tryz.prog os ⟨#[], #[], []⟩ with heap := ((((World.holding Tryz.prog os ⟨#[], #[], []⟩).heap.modify 4 (R9 Rows.laid_math_bits_deBruijn32tab)).modify 5 (R9 Rows.laid_math_bits_deBruijn64tab)).modify 0 (R9 Rows.laid_internal_strconv_uint64pow10)
    |>.modify 2 (R9 Rows.laid_unicode_utf8_acceptRanges) |>.modify 1 (R9 Rows.laid_unicode_utf8_first)
    ) }
end Go.Proofs.YtmgfanhcdfobhaaGreatDoor
