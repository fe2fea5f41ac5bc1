import Derived.Test.YtmgfanhcdfobhaaGreatDoorPkShakeNonce3
set_option linter.unusedSimpArgs false
set_option linter.unusedVariables false
set_option linter.unusedSectionVars false
namespace Go.Proofs.YtmgfanhcdfobhaaGreatDoor
open Go.RowKit
def Jx (a : Int) (b : Int) (c : Int) (d : Int) (e : (List Qd)) : Option (Option (Int × Int × Int × Int × Ur)) :=
  ((Jp a b c d e).bind fun f => (cond (!f) (some none) (some (some (a, b, c, d, ([] : Ur))))))
set_option maxRecDepth 100000 in
set_option maxHeartbeats 4000000 in
theorem Jt (A6 : Option Addr) (c7 : Nat) (a : Int) (c : Int) (f : Int) (g : Int) (d9 : (List Q9)) (w0 : World) (hL : Rv w0) (y : (dDS J8 Bh).ok w0 (A6, c7, d9)) (r : (Option (Int × Int × Int × Int × Ur))) (H : Jx a c f g (List.map stT d9) = some r) :
  Calls Tryz.prog 18 #[(.agg #[(.int .i64 a), (.int .i64 c), (.int .i64 f), (.int .i64 g), (.slice A6 (List.length (List.map stT d9)) c7)])] w0 (fun e w' => match r with | none => e = .returned (.pointer none) ∧ SP [] w0 w' [] | some o => ∃ (q : Nat) (s : Nat), e = .returned (pt q 0) ∧ SP [] w0 w' [Qq q 79 #[(.int .i64 o.1), (.int .i64 o.2.1), (.int .i64 o.2.2.1), (.int .i64 o.2.2.2.1), (.slice A6 (List.length (List.map stT d9)) c7), (.map (some s))], Vp s o.2.2.2.2]) := by
 unfold Jx at H
 refine Qt (n := 10) Tryz.func18 K K K ?_
 have z := Q2 [] w0
 refine aQ ?_
 refine aR ?_
 refine iS 1 ?_
 refine Vq (t := 24) (x := (.tmp 0)) (v := (.agg #[(.int .i64 a), (.int .i64 c), (.int .i64 f), (.int .i64 g), (.slice A6 (List.length (List.map stT d9)) c7)])) (d := (some 1)) (k := 0) K rfl K z ?_
 intro u w32 h
 refine iR 1 2 [(2, (.pointer none))] ?_
 refine iF ?_
 refine aQ ?_
 refine aQ ?_
 refine aR ?_
 refine iS 1 ?_
 refine sL 24 1 u 0 0 (.agg #[(.int .i64 a), (.int .i64 c), (.int .i64 f), (.int .i64 g), (.slice A6 (List.length (List.map stT d9)) c7)]) 3 h rfl ?_
 obtain ⟨i, a0, H⟩ := Qc H
 refine iS 2 ?_
 refine cF 43 #[(.tmp 3)] #[24] 4 Tryz.call43 (Rh A6 c7 a c f g d9 w32 (Zs hL (SP.keeps h)) (Dp.sp y h) i a0) ?_
 rintro e a3 ⟨rfl, w⟩
 refine ⟨_, rfl, ?_⟩
 have j := SP.call h w
 clear w
 refine iR 1 3 [(5, (.bool (!i)))] ?_
 refine iF ?_
 refine Zv K (o := (.tmp 5)) K (b := (!i)) K (fun l => ?_) (fun l => ?_)
 ·have H := ct H l
  refine aQ ?_
  refine aR ?_
  refine iR 1 1 [(2, (.pointer none))] ?_
  refine iF ?_
  refine At.ret K ?_
  refine ⟨(.pointer none), K, ?_⟩
  obtain rfl := Qg H
  exact ⟨rfl, SP.sel j [] rfl rfl⟩
 ·have H := cf H l
  refine At.skip K ?_
  refine aQ ?_
  refine aR ?_
  refine iS 1 ?_
  refine sL 24 1 u 0 0 (.agg #[(.int .i64 a), (.int .i64 c), (.int .i64 f), (.int .i64 g), (.slice A6 (List.length (List.map stT d9)) c7)]) 6 j rfl ?_
  refine iS 2 ?_
  refine Fy (T := 77) (dst := (some 7)) (o := 1) K rfl j ?_
  intro m a4 a1
  refine iR 1 3 [(8, (.agg #[(.int .i64 a), (.int .i64 c), (.int .i64 f), (.int .i64 g), (.slice A6 (List.length (List.map stT d9)) c7), (.map (some m))]))] ?_
  refine iS 4 ?_
  refine Vq (t := 79) (x := (.tmp 8)) (v := (.agg #[(.int .i64 a), (.int .i64 c), (.int .i64 f), (.int .i64 g), (.slice A6 (List.length (List.map stT d9)) c7), (.map (some m))])) (d := (some 9)) (k := 3) K rfl K a1 ?_
  intro p a5 a2
  refine iR 1 5 [(2, (pt p 0))] ?_
  refine iF ?_
  refine At.ret K ?_
  refine ⟨(pt p 0), K, ?_⟩
  obtain rfl := Qg H
  exact ⟨p, m, rfl, SP.sel a2 [2,1] rfl rfl⟩
def Zr (a : Bool) : Option (Bool) :=
  (some (a))
def Ye (f : (List UInt8)) (g : (List UInt8)) (c : Int) (q5 : Int) (q6 : Int) (q7 : Int) (q8 : Int) (q9 : (List Qd)) (d : Ur) (a : (List UInt8)) (b : (List UInt8)) (e : Int) (h : Bool) : Option (Bool) :=
  ((chk (Nat.ble (List.length a) 140737488355328 && Nat.ble (List.length b) 140737488355328)).bind fun _ => (cond ((Ex d (a, b)) == 0) (Zr (decide (e < c))) (Zr false)))
set_option maxRecDepth 100000 in
set_option maxHeartbeats 4000000 in
theorem Nc {S : List Nat} (g4 : Nat) (a3 : Option Addr) (a4 : Nat) (f : Nat) (q : Nat) (s : Nat) (u : Nat) (a0 : Nat) (z : Nat) (a5 : (List UInt8)) (a6 : (List UInt8)) (j : Int) (q5 : Int) (q6 : Int) (q7 : Int) (q8 : Int) (a1 : (List Q9)) (c : Ur) (a : (List UInt8)) (b : (List UInt8)) (h : Int) (a7 : Bool) (w0 : World) (hO : SP S w0 w0 [Qq g4 79 #[(.int .i64 q5), (.int .i64 q6), (.int .i64 q7), (.int .i64 q8), (.slice a3 (List.length (List.map stT a1)) a4), (.map (some f))], Vp f c, Qq q 29 #[(pt g4 0)], Qq s 9 #[(.string ⟨List.toArray a⟩)], Qq u 9 #[(.string ⟨List.toArray b⟩)], Qq a0 2 #[(.int .i64 h)], Qq z 4 #[(.bool a7)]]) (d5 : ∀ w, Mod S w0 w → (dDS J8 Bh).ok w (a3, a4, a1)) (r : (Bool)) (H : Ye a5 a6 j q5 q6 q7 q8 (List.map stT a1) c a b h a7 = some r) :
  Calls Tryz.prog 49 #[(.agg #[(.string ⟨List.toArray a5⟩), (.string ⟨List.toArray a6⟩), (.int .i64 j)]), (pt q 0), (pt s 0), (pt u 0), (pt a0 0), (pt z 0)] w0 (fun e w' => e = .returned (.tuple #[]) ∧ SP S w0 w' [Qq g4 79 #[(.int .i64 q5), (.int .i64 q6), (.int .i64 q7), (.int .i64 q8), (.slice a3 (List.length (List.map stT a1)) a4), (.map (some f))], Vp f c, Qq q 29 #[(pt g4 0)], Qq s 9 #[(.string ⟨List.toArray a⟩)], Qq u 9 #[(.string ⟨List.toArray b⟩)], Qq a0 2 #[(.int .i64 h)], Qq z 4 #[(.bool r)]]) := by
 unfold Ye at H
 refine Qt (n := 22) Tryz.func49 K K K ?_
 have b4 := hO
 refine aQ ?_
 refine aR ?_
 refine iS 1 ?_
 refine Vq (t := 48) (x := (.tmp 0)) (v := (.agg #[(.string ⟨List.toArray a5⟩), (.string ⟨List.toArray a6⟩), (.int .i64 j)])) (d := (some 6)) (k := 0) K rfl K b4 ?_
 intro a2 d6 b1
 refine iF ?_
 refine At.join (fun ρ w => ∃ (a9 : Bool), Zn ρ [] ∧ SP S w0 w [Qq g4 79 #[(.int .i64 q5), (.int .i64 q6), (.int .i64 q7), (.int .i64 q8), (.slice a3 (List.length (List.map stT a1)) a4), (.map (some f))], Vp f c, Qq q 29 #[(pt g4 0)], Qq s 9 #[(.string ⟨List.toArray a⟩)], Qq u 9 #[(.string ⟨List.toArray b⟩)], Qq a0 2 #[(.int .i64 h)], Qq z 4 #[(.bool a9)]] ∧ Zr a9 = some r) ?_ ?_
 ·obtain ⟨a8, H⟩ := Zm H
  rcases Bool.eq_false_or_eq_true ((Ex c (a, b)) == 0) with p | p
  ·have H := ct H p
   refine aG [GEq (pt g4 0), GEq (pt g4 0), GEq (pt g4 5), GEq (.map (some f)), GEq (.string ⟨List.toArray a⟩), GEq (.string ⟨List.toArray b⟩), GEq (.agg (Qa Zf ([a, b] : List (List UInt8))).toArray), GEq (.int .i64 (Ex c (a, b))), GEq (.bool ((Ex c (a, b)) == 0)), GEq (.bool ((Ex c (a, b)) == 0)), GEq (.int .i64 h), GEq (pt a2 2), GEq (.int .i64 j), GEq (.bool (decide (h < j))), GEq (.bool (decide (h < j))), Cy] [15] [sG [] [] S w0 [Qq g4 79 #[(.int .i64 q5), (.int .i64 q6), (.int .i64 q7), (.int .i64 q8), (.slice a3 (List.length (List.map stT a1)) a4), (.map (some f))], Vp f c, Qq q 29 #[(pt g4 0)], Qq s 9 #[(.string ⟨List.toArray a⟩)], Qq u 9 #[(.string ⟨List.toArray b⟩)], Qq a0 2 #[(.int .i64 h)], Qq z 4 #[(.bool a7)], Qq a2 48 #[(.string ⟨List.toArray a5⟩), (.string ⟨List.toArray a6⟩), (.int .i64 j)]], sG [15] [undef] S w0 [Qq g4 79 #[(.int .i64 q5), (.int .i64 q6), (.int .i64 q7), (.int .i64 q8), (.slice a3 (List.length (List.map stT a1)) a4), (.map (some f))], Vp f c, Qq q 29 #[(pt g4 0)], Qq s 9 #[(.string ⟨List.toArray a⟩)], Qq u 9 #[(.string ⟨List.toArray b⟩)], Qq a0 2 #[(.int .i64 h)], Qq z 4 #[(.bool (decide (h < j)))], Qq a2 48 #[(.string ⟨List.toArray a5⟩), (.string ⟨List.toArray a6⟩), (.int .i64 j)]]] 16 1 ⟨trivial, SP.drew b1⟩ ?_ ?_
   iterate 16 refine And.intro ?_ ?_
   exact trivial
   ·refine oL 0 ?_
    ·rintro ρ' w' hs hah ⟨d7, b5⟩
     refine kM (kc (kS hs 1 (pt q 0)) k0) fun hkn => ?_
     refine sL 29 1 q 0 2 (pt g4 0) 7 b5 rfl ?_
     exact eK hkn
   ·exact oV (hC (hA 0 7) (h0)) (pt g4 0)
   ·exact oV (hC (hA 1 8) (h0)) (pt g4 5)
   ·refine oL 0 ?_
    ·rintro ρ' w' hs hah ⟨d8, b6⟩
     refine kM (kc (kA hah 2 9) k0) fun hkn => ?_
     refine sL 77 9 g4 5 0 (.map (some f)) 10 b6 rfl ?_
     exact eK hkn
   ·refine oL 0 ?_
    ·rintro ρ' w' hs hah ⟨d9, b7⟩
     refine kM (kc (kS hs 2 (pt s 0)) k0) fun hkn => ?_
     refine sL 9 2 s 0 3 (.string ⟨List.toArray a⟩) 11 b7 rfl ?_
     exact eK hkn
   ·refine oL 0 ?_
    ·rintro ρ' w' hs hah ⟨e0, b8⟩
     refine kM (kc (kS hs 3 (pt u 0)) k0) fun hkn => ?_
     refine sL 9 3 u 0 4 (.string ⟨List.toArray b⟩) 12 b8 rfl ?_
     exact eK hkn
   ·exact oV (hC (hA 4 11) (hC (hA 5 12) (h0))) (.agg (Qa Zf ([a, b] : List (List UInt8))).toArray)
   ·refine oL 0 ?_
    ·rintro ρ' w' hs hah ⟨e1, b9⟩
     refine kM (kc (kA hah 3 10) (kc (kA hah 6 13) k0)) fun hkn => ?_
     refine Ce (T := 77) (kt := 83) (et := 3) (m := f) (L := c) (k := (a, b)) (x := (.tmp 10)) (ix := (.tmp 13)) (dst := (some 14)) (o := 7) K rfl K K K Hf (fun _ => rfl) (SP.get b9 (i := 1) rfl) (chk2 a8).1 (chk2 a8).2 ?_
     exact eK hkn
   ·exact oV (hC (hA 7 14) (h0)) (.bool ((Ex c (a, b)) == 0))
   ·exact oV (hC (hA 8 15) (h0)) (.bool ((Ex c (a, b)) == 0))
   ·refine oL 0 ?_
    ·rintro ρ' w' hs hah ⟨e2, c0⟩
     have e4 : ρ' 4 = (pt a0 0) := (hs 4 K).trans K
     have b0 := hah 9 16 K
     refine kN [(4, (pt a0 0)), (16, (.bool true))] ⟨e4, (Eq.trans b0 (congrArg Value.bool p)), trivial⟩ fun hkn => ?_
     refine sL 2 4 a0 0 5 (.int .i64 h) 17 c0 rfl ?_
     exact eK hkn
   ·exact oV (hC (hS 6 (pt a2 0)) (hC (hB 9 16 p) (h0))) (pt a2 2)
   ·refine oL 0 ?_
    ·rintro ρ' w' hs hah ⟨e3, c1⟩
     have c2 := hah 11 18 K
     have b0 := hah 9 16 K
     refine kN [(18, (pt a2 2)), (16, (.bool true))] ⟨c2, (Eq.trans b0 (congrArg Value.bool p)), trivial⟩ fun hkn => ?_
     refine sL 2 18 a2 2 7 (.int .i64 j) 19 c1 rfl ?_
     exact eK hkn
   ·exact oV (hC (hA 10 17) (hC (hA 12 19) (hC (hB 9 16 p) (h0)))) (.bool (decide (h < j)))
   ·exact oV (hC (hB 9 16 p) (hC (hA 13 20) (h0))) (.bool (decide (h < j)))
   ·refine oH 0 1 ?_
    ·rintro ρ' w' hs hah ⟨e5, c3⟩
     refine kM (kc (kS hs 5 (pt z 0)) (kc (kA hah 14 21) k0)) fun hkn => ?_
     refine Qk.store (t := 4) (x := (.tmp 5)) (y := (.tmp 21)) (g := z) (off := 0) (i := 6) (v := (.bool (decide (h < j)))) (cs' := #[(.bool (decide (h < j)))]) (d := none) (k := 15) K rfl K K c3 rfl K ?_
     intro e6 c4
     refine ⟨_, Qb hkn, trivial, ?_⟩
     exact (And.intro (And.intro rfl (trivial)) (c4))
   ·rintro ρ' w' hs hf ⟨⟨e7, -⟩, b2⟩
    refine Vu [] trivial ?_
    obtain ⟨e8, c5⟩ : ∃ x, w' = x := ⟨_, rfl⟩
    rw [c5] at b2 ⊢
    exact ⟨(decide (h < j)), trivial, SP.sel b2 [0, 1, 2, 3, 4, 5, 6] rfl rfl, H⟩
  ·have H := cf H p
   refine aG [GEq (pt g4 0), GEq (pt g4 0), GEq (pt g4 5), GEq (.map (some f)), GEq (.string ⟨List.toArray a⟩), GEq (.string ⟨List.toArray b⟩), GEq (.agg (Qa Zf ([a, b] : List (List UInt8))).toArray), GEq (.int .i64 (Ex c (a, b))), GEq (.bool ((Ex c (a, b)) == 0)), GEq (.bool ((Ex c (a, b)) == 0)), GEq undef, GEq undef, GEq undef, GEq undef, GEq (.bool false), Cy] [15] [sG [] [] S w0 [Qq g4 79 #[(.int .i64 q5), (.int .i64 q6), (.int .i64 q7), (.int .i64 q8), (.slice a3 (List.length (List.map stT a1)) a4), (.map (some f))], Vp f c, Qq q 29 #[(pt g4 0)], Qq s 9 #[(.string ⟨List.toArray a⟩)], Qq u 9 #[(.string ⟨List.toArray b⟩)], Qq a0 2 #[(.int .i64 h)], Qq z 4 #[(.bool a7)], Qq a2 48 #[(.string ⟨List.toArray a5⟩), (.string ⟨List.toArray a6⟩), (.int .i64 j)]], sG [15] [undef] S w0 [Qq g4 79 #[(.int .i64 q5), (.int .i64 q6), (.int .i64 q7), (.int .i64 q8), (.slice a3 (List.length (List.map stT a1)) a4), (.map (some f))], Vp f c, Qq q 29 #[(pt g4 0)], Qq s 9 #[(.string ⟨List.toArray a⟩)], Qq u 9 #[(.string ⟨List.toArray b⟩)], Qq a0 2 #[(.int .i64 h)], Qq z 4 #[(.bool false)], Qq a2 48 #[(.string ⟨List.toArray a5⟩), (.string ⟨List.toArray a6⟩), (.int .i64 j)]]] 16 1 ⟨trivial, SP.drew b1⟩ ?_ ?_
   iterate 16 refine And.intro ?_ ?_
   exact trivial
   ·refine oL 0 ?_
    ·rintro ρ' w' hs hah ⟨e9, c6⟩
     refine kM (kc (kS hs 1 (pt q 0)) k0) fun hkn => ?_
     refine sL 29 1 q 0 2 (pt g4 0) 7 c6 rfl ?_
     exact eK hkn
   ·exact oV (hC (hA 0 7) (h0)) (pt g4 0)
   ·exact oV (hC (hA 1 8) (h0)) (pt g4 5)
   ·refine oL 0 ?_
    ·rintro ρ' w' hs hah ⟨f0, c7⟩
     refine kM (kc (kA hah 2 9) k0) fun hkn => ?_
     refine sL 77 9 g4 5 0 (.map (some f)) 10 c7 rfl ?_
     exact eK hkn
   ·refine oL 0 ?_
    ·rintro ρ' w' hs hah ⟨f1, c8⟩
     refine kM (kc (kS hs 2 (pt s 0)) k0) fun hkn => ?_
     refine sL 9 2 s 0 3 (.string ⟨List.toArray a⟩) 11 c8 rfl ?_
     exact eK hkn
   ·refine oL 0 ?_
    ·rintro ρ' w' hs hah ⟨f2, c9⟩
     refine kM (kc (kS hs 3 (pt u 0)) k0) fun hkn => ?_
     refine sL 9 3 u 0 4 (.string ⟨List.toArray b⟩) 12 c9 rfl ?_
     exact eK hkn
   ·exact oV (hC (hA 4 11) (hC (hA 5 12) (h0))) (.agg (Qa Zf ([a, b] : List (List UInt8))).toArray)
   ·refine oL 0 ?_
    ·rintro ρ' w' hs hah ⟨f3, d0⟩
     refine kM (kc (kA hah 3 10) (kc (kA hah 6 13) k0)) fun hkn => ?_
     refine Ce (T := 77) (kt := 83) (et := 3) (m := f) (L := c) (k := (a, b)) (x := (.tmp 10)) (ix := (.tmp 13)) (dst := (some 14)) (o := 7) K rfl K K K Hf (fun _ => rfl) (SP.get d0 (i := 1) rfl) (chk2 a8).1 (chk2 a8).2 ?_
     exact eK hkn
   ·exact oV (hC (hA 7 14) (h0)) (.bool ((Ex c (a, b)) == 0))
   ·exact oV (hC (hA 8 15) (h0)) (.bool ((Ex c (a, b)) == 0))
   ·exact oW (hC (hB 9 16 p) (h0)) 17
   ·exact oW (hC (hB 9 16 p) (h0)) 18
   ·exact oW (hC (hB 9 16 p) (h0)) 19
   ·exact oW (hC (hB 9 16 p) (h0)) 20
   ·exact oV (hC (hB 9 16 p) (hC (hA 13 20) (h0))) (.bool false)
   ·refine oH 0 1 ?_
    ·rintro ρ' w' hs hah ⟨f4, d1⟩
     refine kM (kc (kS hs 5 (pt z 0)) (kc (kA hah 14 21) k0)) fun hkn => ?_
     refine Qk.store (t := 4) (x := (.tmp 5)) (y := (.tmp 21)) (g := z) (off := 0) (i := 6) (v := (.bool false)) (cs' := #[(.bool false)]) (d := none) (k := 15) K rfl K K d1 rfl K ?_
     intro f5 d2
     refine ⟨_, Qb hkn, trivial, ?_⟩
     exact (And.intro (And.intro rfl (trivial)) (d2))
   ·rintro ρ' w' hs hf ⟨⟨f6, -⟩, b3⟩
    refine Vu [] trivial ?_
    obtain ⟨f7, d3⟩ : ∃ x, w' = x := ⟨_, rfl⟩
    rw [d3] at b3 ⊢
    exact ⟨false, trivial, SP.sel b3 [0, 1, 2, 3, 4, 5, 6] rfl rfl, H⟩
 ·rintro ρ f8 ⟨a9, hk, d4, H⟩
  unfold Zr at H
  first | refine At.known [] hk ?_ | rw [← Va (l := []) hk]
  refine ⟨(.tuple #[]), K, ?_⟩
  obtain rfl := Qg H
  exact ⟨rfl, SP.sel d4 [0,1,2,3,4,5,6] rfl rfl⟩
def Yf (c : (List UInt8)) (a : (List UInt8)) (d : Int) (q5 : (List UInt8)) (q7 : (List UInt8)) (q9 : (List UInt8)) (e : (List UInt8)) : Option ((List UInt8)) :=
  ((chk (Nat.ble (List.length a) 281474976710656)).bind fun _ => ((N3 a ([q5, q7, q9] : List (List UInt8))).bind fun b => (some (b))))
set_option maxRecDepth 100000 in
set_option maxHeartbeats 4000000 in
theorem Nd {S : List Nat} (g4 : Nat) (g6 : Nat) (g8 : Nat) (b : Nat) (c : (List UInt8)) (a : (List UInt8)) (f : Int) (q5 : (List UInt8)) (q7 : (List UInt8)) (q9 : (List UInt8)) (j : (List UInt8)) (w0 : World) (hO : SP S w0 w0 [Qq g4 9 #[(.string ⟨List.toArray q5⟩)], Qq g6 9 #[(.string ⟨List.toArray q7⟩)], Qq g8 9 #[(.string ⟨List.toArray q9⟩)], Qq b 9 #[(.string ⟨List.toArray j⟩)]])  (r : ((List UInt8))) (H : Yf c a f q5 q7 q9 j = some r) :
  Calls Tryz.prog 50 #[(.agg #[(.string ⟨List.toArray c⟩), (.string ⟨List.toArray a⟩), (.int .i64 f)]), (pt g4 0), (pt g6 0), (pt g8 0), (pt b 0)] w0 (fun e w' => e = .returned (.tuple #[]) ∧ SP S w0 w' [Qq g4 9 #[(.string ⟨List.toArray q5⟩)], Qq g6 9 #[(.string ⟨List.toArray q7⟩)], Qq g8 9 #[(.string ⟨List.toArray q9⟩)], Qq b 9 #[(.string ⟨List.toArray r⟩)]]) := by
 unfold Yf at H
 refine Qt (n := 14) Tryz.func50 K K K ?_
 have a0 := hO
 refine aQ ?_
 refine aR ?_
 refine iS 1 ?_
 refine Vq (t := 48) (x := (.tmp 0)) (v := (.agg #[(.string ⟨List.toArray c⟩), (.string ⟨List.toArray a⟩), (.int .i64 f)])) (d := (some 5)) (k := 0) K rfl K a0 ?_
 intro m a8 q
 refine iF ?_
 refine aR ?_
 refine iR 1 1 [(6, (pt m 1))] ?_
 refine iS 2 ?_
 refine sL 9 6 m 1 4 (.string ⟨List.toArray a⟩) 7 q rfl ?_
 obtain ⟨a1, H⟩ := Zm H
 refine iS 3 ?_
 refine Gg (S' := 9) (T := 52) (E := 5) (x := (.tmp 7)) (l := a) (d := (some 8)) (k := 2) K rfl K K K K (Gh a1) q ?_
 intro s u a2 w _
 have h : SP S w0 a2 [Qq g4 9 #[(.string ⟨List.toArray q5⟩)], Qq g6 9 #[(.string ⟨List.toArray q7⟩)], Qq g8 9 #[(.string ⟨List.toArray q9⟩)], Qq b 9 #[(.string ⟨List.toArray j⟩)], Qq m 48 #[(.string ⟨List.toArray c⟩), (.string ⟨List.toArray a⟩), (.int .i64 f)], rdE eU8 (some ⟨s, 0, none⟩) u a] := w
 clear w
 refine iS 4 ?_
 refine sL 9 1 g4 0 0 (.string ⟨List.toArray q5⟩) 9 h rfl ?_
 refine iS 5 ?_
 refine sL 9 2 g6 0 1 (.string ⟨List.toArray q7⟩) 10 h rfl ?_
 refine iS 6 ?_
 refine sL 9 3 g8 0 2 (.string ⟨List.toArray q9⟩) 11 h rfl ?_
 refine iS 7 ?_
 refine Ja (e := Zf) (T := 53) (E := 9) (len := 3) (parts := #[(0, (.tmp 9)), (1, (.tmp 10)), (2, (.tmp 11))]) (cs := #[(.string ⟨List.toArray q5⟩), (.string ⟨List.toArray q7⟩), (.string ⟨List.toArray q9⟩)]) ([q5, q7, q9] : List (List UInt8)) (d := (some 12)) (k := 6) K rfl (fun _ => K) h rfl rfl rfl rfl ?_
 intro a3 a4 o
 obtain ⟨p, a5, H⟩ := Qc H
 refine iS 8 ?_
 refine cF 51 #[(.tmp 8), (.tmp 12)] #[52, 53] 13 Tryz.call51 (Dw (some ⟨s, 0, none⟩) u (some ⟨a3, 0, none⟩) (List.length ([q5, q7, q9] : List (List UInt8))) a ([q5, q7, q9] : List (List UInt8)) a4 (rdE_rd (SP.get o (i := 5) rfl)) (V2 (SP.get o (i := 6) rfl)) p a5) ?_
 rintro e a9 ⟨rfl, z⟩
 refine ⟨_, rfl, ?_⟩
 have a6 := SP.call o z
 clear z
 refine iS 9 ?_
 refine Qk.store (t := 9) (x := (.tmp 4)) (y := (.tmp 13)) (g := b) (off := 0) (i := 3) (v := (.string ⟨List.toArray p⟩)) (cs' := #[(.string ⟨List.toArray p⟩)]) (d := none) (k := 8) K rfl K K a6 rfl K ?_
 intro b0 a7
 refine iF ?_
 refine ⟨(.tuple #[]), K, ?_⟩
 obtain rfl := Qg H
 exact ⟨rfl, SP.sel a7 [0,1,2,3] rfl rfl⟩
def Vi (a : Bool) : Option (Bool) :=
  (some (a))
def V3 (q2 : Int) (q3 : Int) (q4 : Int) (q5 : Int) (q6 : (List Qd)) (d : Ur) (e : (List UInt8)) (f : (List UInt8)) (g : (List UInt8)) (h : (List UInt8)) (i : Int) (c : Bool) : Option (Bool) :=
  ((Jd q2 q3 q4 q5 q6 e).bind fun a => ((Y0 a.1 a.2.1 a.2.2.1 a.2.2.2.1 a.2.2.2.2.1 f).bind fun b => (cond b.2.2.2 ((Ye b.1 b.2.1 b.2.2.1 q2 q3 q4 q5 q6 d g h i c).bind fun j => (Vi j)) (Vi c))))
set_option maxRecDepth 100000 in
set_option maxHeartbeats 4000000 in
theorem Jh {S : List Nat} (g1 : Nat) (A7 : Option Addr) (c8 : Nat) (h : Nat) (m : Nat) (p : Nat) (q : Nat) (s : Nat) (u : Nat) (q2 : Int) (q3 : Int) (q4 : Int) (q5 : Int) (j : (List Q9)) (a4 : Ur) (a9 : (List UInt8)) (b0 : (List UInt8)) (a5 : (List UInt8)) (a6 : (List UInt8)) (a7 : Int) (b1 : Bool) (w0 : World) (hO : SP S w0 w0 [Qq g1 79 #[(.int .i64 q2), (.int .i64 q3), (.int .i64 q4), (.int .i64 q5), (.slice A7 (List.length (List.map stT j)) c8), (.map (some h))], Vp h a4, Qq m 29 #[(pt g1 0)], Qq p 9 #[(.string ⟨List.toArray a5⟩)], Qq q 9 #[(.string ⟨List.toArray a6⟩)], Qq s 2 #[(.int .i64 a7)], Qq u 4 #[(.bool b1)]]) (c0 : ∀ w, Mod S w0 w → (dDS J8 Bh).ok w (A7, c8, j)) (r : (Bool)) (H : V3 q2 q3 q4 q5 (List.map stT j) a4 a9 b0 a5 a6 a7 b1 = some r) :
  Calls Tryz.prog 45 #[(pt g1 0), (.string ⟨List.toArray a9⟩), (.string ⟨List.toArray b0⟩), (.func (.func 49) #[] #[(pt m 0), (pt p 0), (pt q 0), (pt s 0), (pt u 0)])] w0 (fun e w' => e = .returned (.tuple #[]) ∧ SP S w0 w' [Qq g1 79 #[(.int .i64 q2), (.int .i64 q3), (.int .i64 q4), (.int .i64 q5), (.slice A7 (List.length (List.map stT j)) c8), (.map (some h))], Vp h a4, Qq m 29 #[(pt g1 0)], Qq p 9 #[(.string ⟨List.toArray a5⟩)], Qq q 9 #[(.string ⟨List.toArray a6⟩)], Qq s 2 #[(.int .i64 a7)], Qq u 4 #[(.bool r)]]) := by
 unfold V3 at H
 refine Qt (n := 31) Tryz.func45 K K K ?_
 have b3 := hO
 refine aQ ?_
 refine aR ?_
 refine iR 3 3 [(13, (pt g1 0)), (14, (pt g1 0)), (15, (pt g1 0))] ?_
 refine iS 4 ?_
 refine sL 24 15 g1 0 0 (.agg #[(.int .i64 q2), (.int .i64 q3), (.int .i64 q4), (.int .i64 q5), (.slice A7 (List.length (List.map stT j)) c8)]) 16 b3 rfl ?_
 refine iR 1 5 [(17, (.string ⟨List.toArray a9⟩))] ?_
 obtain ⟨a, c4, H⟩ := Qc H
 refine iS 6 ?_
 refine cF 67 #[(.tmp 16), (.tmp 17)] #[24, 9] 18 Tryz.call67 (U9 (R := fun w => Mod S w0 w) A7 c8 q2 q3 q4 q5 j a9 w0 (fun w hb => F8 b3 hb) c0 a c4) ?_
 rintro e d8 ⟨a0, a1, a2, a3, rfl, c5, c6, c1⟩
 refine ⟨_, rfl, ?_⟩
 have c7 := SP.call b3 c1
 clear c1
 refine iR 3 9 [(12, (.tuple #[(.agg #[(.string ⟨List.toArray a.1⟩), (.int .i64 a.2.1), (.int .i64 a.2.2.1), (.slice a0 (List.length a.2.2.2.1) a1), (.slice a2 (List.length a.2.2.2.2.1) a3)]), (.bool a.2.2.2.2.2)])), (19, (.agg #[(.string ⟨List.toArray a.1⟩), (.int .i64 a.2.1), (.int .i64 a.2.2.1), (.slice a0 (List.length a.2.2.2.1) a1), (.slice a2 (List.length a.2.2.2.2.1) a3)])), (20, (.bool a.2.2.2.2.2))] ?_
 refine iS 10 ?_
 refine Qk.alloc (t := 44) (z := (.agg #[(.string ⟨List.toArray ([] : List UInt8)⟩), (.int .i64 0), (.int .i64 0), (.slice none (List.length ([] : List (Int × Int))) 0), (.slice none (List.length ([] : List ((List UInt8) × (List UInt8) × Int))) 0)])) (d := (some 8)) (k := 9) K rfl K c7 ?_
 intro b4 d9 c9
 refine iS 11 ?_
 refine Qk.store (t := 44) (x := (.tmp 8)) (y := (.tmp 19)) (g := b4) (off := 0) (i := 7) (v := (.agg #[(.string ⟨List.toArray a.1⟩), (.int .i64 a.2.1), (.int .i64 a.2.2.1), (.slice a0 (List.length a.2.2.2.1) a1), (.slice a2 (List.length a.2.2.2.2.1) a3)])) (cs' := #[(.string ⟨List.toArray a.1⟩), (.int .i64 a.2.1), (.int .i64 a.2.2.1), (.slice a0 (List.length a.2.2.2.1) a1), (.slice a2 (List.length a.2.2.2.2.1) a3)]) (d := none) (k := 10) K rfl K K c9 rfl K ?_
 intro b5 b2
 refine iR 1 12 [(9, (.bool a.2.2.2.2.2))] ?_
 refine iF ?_
 refine aQ ?_
 refine aR ?_
 refine iS 1 ?_
 refine sL 44 8 b4 0 7 (.agg #[(.string ⟨List.toArray a.1⟩), (.int .i64 a.2.1), (.int .i64 a.2.2.1), (.slice a0 (List.length a.2.2.2.1) a1), (.slice a2 (List.length a.2.2.2.2.1) a3)]) 22 b2 rfl ?_
 refine iR 1 2 [(23, (.string ⟨List.toArray b0⟩))] ?_
 obtain ⟨c, d0, H⟩ := Qc H
 refine iS 3 ?_
 refine cF 68 #[(.tmp 22), (.tmp 23)] #[44, 9] 24 Tryz.call68 (U2 a0 a1 a2 a3 a.1 a.2.1 a.2.2.1 a.2.2.2.1 a.2.2.2.2.1 b0 b5 (c5 b5 (SP.mod b2)) (c6 b5 (SP.mod b2)) c d0) ?_
 rintro e e0 ⟨rfl, c2⟩
 refine ⟨_, rfl, ?_⟩
 have d1 := SP.call b2 c2
 clear c2
 refine iR 3 6 [(21, (.tuple #[(.agg #[(.string ⟨List.toArray c.1⟩), (.string ⟨List.toArray c.2.1⟩), (.int .i64 c.2.2.1)]), (.bool c.2.2.2)])), (25, (.agg #[(.string ⟨List.toArray c.1⟩), (.string ⟨List.toArray c.2.1⟩), (.int .i64 c.2.2.1)])), (26, (.bool c.2.2.2))] ?_
 refine iS 7 ?_
 refine Qk.alloc (t := 48) (z := (.agg #[(.string ⟨List.toArray ([] : List UInt8)⟩), (.string ⟨List.toArray ([] : List UInt8)⟩), (.int .i64 0)])) (d := (some 10)) (k := 6) K rfl K d1 ?_
 intro b6 e1 d2
 refine iS 8 ?_
 refine Qk.store (t := 48) (x := (.tmp 10)) (y := (.tmp 25)) (g := b6) (off := 0) (i := 8) (v := (.agg #[(.string ⟨List.toArray c.1⟩), (.string ⟨List.toArray c.2.1⟩), (.int .i64 c.2.2.1)])) (cs' := #[(.string ⟨List.toArray c.1⟩), (.string ⟨List.toArray c.2.1⟩), (.int .i64 c.2.2.1)]) (d := none) (k := 7) K rfl K K d2 rfl K ?_
 intro d3 a8
 refine iR 1 9 [(11, (.bool c.2.2.2))] ?_
 refine iF ?_
 refine aQ ?_
 refine aR ?_
 refine iR 1 1 [(27, (.bool c.2.2.2))] ?_
 refine iF ?_
 refine At.join (fun ρ w => ∃ (b7 : Bool), Zn ρ [] ∧ SP S w0 w [Qq g1 79 #[(.int .i64 q2), (.int .i64 q3), (.int .i64 q4), (.int .i64 q5), (.slice A7 (List.length (List.map stT j)) c8), (.map (some h))], Vp h a4, Qq m 29 #[(pt g1 0)], Qq p 9 #[(.string ⟨List.toArray a5⟩)], Qq q 9 #[(.string ⟨List.toArray a6⟩)], Qq s 2 #[(.int .i64 a7)], Qq u 4 #[(.bool b7)]] ∧ Vi b7 = some r) ?_ ?_
 ·refine Zv K (o := (.tmp 27)) K (b := c.2.2.2) K (fun b8 => ?_) (fun b8 => ?_)
  ·have H := ct H b8
   refine aR ?_
   refine iR 1 1 [(28, (.func (.func 49) #[] #[(pt m 0), (pt p 0), (pt q 0), (pt s 0), (pt u 0)]))] ?_
   refine iS 2 ?_
   refine sL 48 10 b6 0 8 (.agg #[(.string ⟨List.toArray c.1⟩), (.string ⟨List.toArray c.2.1⟩), (.int .i64 c.2.2.1)]) 29 a8 rfl ?_
   obtain ⟨b9, d4, H⟩ := Qc H
   refine iS 3 ?_
   refine Z5 (f := 49) (fo := (.tmp 28)) (xs := #[(.tmp 29)]) (tys := #[48]) (first := #[]) (captured := #[(pt m 0), (pt p 0), (pt q 0), (pt s 0), (pt u 0)]) (d := (some 30)) (k := 2) K rfl K K Tryz.call49 (Nc g1 A7 c8 h m p q s u c.1 c.2.1 c.2.2.1 q2 q3 q4 q5 j a4 a5 a6 a7 b1 d3 (Xy a8 [0, 1, 2, 3, 4, 5, 6] rfl rfl) (fun w hm => c0 w (SP.through a8 (l := [0, 1, 2, 3, 4, 5, 6]) rfl hm)) b9 d4) ?_
   rintro e d5 ⟨rfl, c3⟩
   refine ⟨_, rfl, ?_⟩
   have d6 : SP S w0 d5 [Qq b4 44 #[(.string ⟨List.toArray a.1⟩), (.int .i64 a.2.1), (.int .i64 a.2.2.1), (.slice a0 (List.length a.2.2.2.1) a1), (.slice a2 (List.length a.2.2.2.2.1) a3)], Qq b6 48 #[(.string ⟨List.toArray c.1⟩), (.string ⟨List.toArray c.2.1⟩), (.int .i64 c.2.2.1)], Qq g1 79 #[(.int .i64 q2), (.int .i64 q3), (.int .i64 q4), (.int .i64 q5), (.slice A7 (List.length (List.map stT j)) c8), (.map (some h))], Vp h a4, Qq m 29 #[(pt g1 0)], Qq p 9 #[(.string ⟨List.toArray a5⟩)], Qq q 9 #[(.string ⟨List.toArray a6⟩)], Qq s 2 #[(.int .i64 a7)], Qq u 4 #[(.bool b9)]] := Vy a8 [0, 1, 2, 3, 4, 5, 6] [7, 8] rfl rfl c3 rfl
   clear c3
   refine iF ?_
   exact ⟨b9, trivial, SP.sel d6 [2, 3, 4, 5, 6, 7, 8] rfl rfl, H⟩
  ·have H := cf H b8
   refine At.skip K ?_
   exact ⟨b1, trivial, SP.sel a8 [0, 1, 2, 3, 4, 5, 6] rfl rfl, H⟩
 ·rintro ρ e2 ⟨b7, hk, d7, H⟩
  unfold Vi at H
  first | refine At.known [] hk ?_ | rw [← Va (l := []) hk]
  refine ⟨(.tuple #[]), K, ?_⟩
  obtain rfl := Qg H
  exact ⟨rfl, SP.sel d7 [0,1,2,3,4,5,6] rfl rfl⟩
def Vj (a : (List UInt8)) : Option ((List UInt8)) :=
  (some (a))
def V4 (q2 : Int) (q3 : Int) (q4 : Int) (q5 : Int) (q6 : (List Qd)) (j : Ur) (d : (List UInt8)) (e : (List UInt8)) (f : (List UInt8)) (g : (List UInt8)) (h : (List UInt8)) (c : (List UInt8)) : Option ((List UInt8)) :=
  ((Jd q2 q3 q4 q5 q6 d).bind fun a => ((Y0 a.1 a.2.1 a.2.2.1 a.2.2.2.1 a.2.2.2.2.1 e).bind fun b => (cond b.2.2.2 ((Yf b.1 b.2.1 b.2.2.1 f g h c).bind fun i => (Vj i)) (Vj c))))
set_option maxRecDepth 100000 in
set_option maxHeartbeats 4000000 in
theorem Ji {S : List Nat} (g1 : Nat) (A7 : Option Addr) (c8 : Nat) (h : Nat) (j : Nat) (m : Nat) (p : Nat) (q : Nat) (q2 : Int) (q3 : Int) (q4 : Int) (q5 : Int) (s : (List Q9)) (a6 : Ur) (a7 : (List UInt8)) (a8 : (List UInt8)) (a3 : (List UInt8)) (a4 : (List UInt8)) (a5 : (List UInt8)) (a9 : (List UInt8)) (w0 : World) (hO : SP S w0 w0 [Qq g1 79 #[(.int .i64 q2), (.int .i64 q3), (.int .i64 q4), (.int .i64 q5), (.slice A7 (List.length (List.map stT s)) c8), (.map (some h))], Vp h a6, Qq j 9 #[(.string ⟨List.toArray a3⟩)], Qq m 9 #[(.string ⟨List.toArray a4⟩)], Qq p 9 #[(.string ⟨List.toArray a5⟩)], Qq q 9 #[(.string ⟨List.toArray a9⟩)]]) (c2 : ∀ w, Mod S w0 w → (dDS J8 Bh).ok w (A7, c8, s)) (r : ((List UInt8))) (H : V4 q2 q3 q4 q5 (List.map stT s) a6 a7 a8 a3 a4 a5 a9 = some r) :
  Calls Tryz.prog 45 #[(pt g1 0), (.string ⟨List.toArray a7⟩), (.string ⟨List.toArray a8⟩), (.func (.func 50) #[] #[(pt j 0), (pt m 0), (pt p 0), (pt q 0)])] w0 (fun e w' => e = .returned (.tuple #[]) ∧ SP S w0 w' [Qq g1 79 #[(.int .i64 q2), (.int .i64 q3), (.int .i64 q4), (.int .i64 q5), (.slice A7 (List.length (List.map stT s)) c8), (.map (some h))], Vp h a6, Qq j 9 #[(.string ⟨List.toArray a3⟩)], Qq m 9 #[(.string ⟨List.toArray a4⟩)], Qq p 9 #[(.string ⟨List.toArray a5⟩)], Qq q 9 #[(.string ⟨List.toArray r⟩)]]) := by
 unfold V4 at H
 refine Qt (n := 31) Tryz.func45 K K K ?_
 have b2 := hO
 refine aQ ?_
 refine aR ?_
 refine iR 3 3 [(13, (pt g1 0)), (14, (pt g1 0)), (15, (pt g1 0))] ?_
 refine iS 4 ?_
 refine sL 24 15 g1 0 0 (.agg #[(.int .i64 q2), (.int .i64 q3), (.int .i64 q4), (.int .i64 q5), (.slice A7 (List.length (List.map stT s)) c8)]) 16 b2 rfl ?_
 refine iR 1 5 [(17, (.string ⟨List.toArray a7⟩))] ?_
 obtain ⟨a, c3, H⟩ := Qc H
 refine iS 6 ?_
 refine cF 67 #[(.tmp 16), (.tmp 17)] #[24, 9] 18 Tryz.call67 (U9 (R := fun w => Mod S w0 w) A7 c8 q2 q3 q4 q5 s a7 w0 (fun w hb => F8 b2 hb) c2 a c3) ?_
 rintro e d7 ⟨u, a0, a1, a2, rfl, c4, c5, b9⟩
 refine ⟨_, rfl, ?_⟩
 have c6 := SP.call b2 b9
 clear b9
 refine iR 3 9 [(12, (.tuple #[(.agg #[(.string ⟨List.toArray a.1⟩), (.int .i64 a.2.1), (.int .i64 a.2.2.1), (.slice u (List.length a.2.2.2.1) a0), (.slice a1 (List.length a.2.2.2.2.1) a2)]), (.bool a.2.2.2.2.2)])), (19, (.agg #[(.string ⟨List.toArray a.1⟩), (.int .i64 a.2.1), (.int .i64 a.2.2.1), (.slice u (List.length a.2.2.2.1) a0), (.slice a1 (List.length a.2.2.2.2.1) a2)])), (20, (.bool a.2.2.2.2.2))] ?_
 refine iS 10 ?_
 refine Qk.alloc (t := 44) (z := (.agg #[(.string ⟨List.toArray ([] : List UInt8)⟩), (.int .i64 0), (.int .i64 0), (.slice none (List.length ([] : List (Int × Int))) 0), (.slice none (List.length ([] : List ((List UInt8) × (List UInt8) × Int))) 0)])) (d := (some 8)) (k := 9) K rfl K c6 ?_
 intro b3 d8 c7
 refine iS 11 ?_
 refine Qk.store (t := 44) (x := (.tmp 8)) (y := (.tmp 19)) (g := b3) (off := 0) (i := 6) (v := (.agg #[(.string ⟨List.toArray a.1⟩), (.int .i64 a.2.1), (.int .i64 a.2.2.1), (.slice u (List.length a.2.2.2.1) a0), (.slice a1 (List.length a.2.2.2.2.1) a2)])) (cs' := #[(.string ⟨List.toArray a.1⟩), (.int .i64 a.2.1), (.int .i64 a.2.2.1), (.slice u (List.length a.2.2.2.1) a0), (.slice a1 (List.length a.2.2.2.2.1) a2)]) (d := none) (k := 10) K rfl K K c7 rfl K ?_
 intro b4 b0
 refine iR 1 12 [(9, (.bool a.2.2.2.2.2))] ?_
 refine iF ?_
 refine aQ ?_
 refine aR ?_
 refine iS 1 ?_
 refine sL 44 8 b3 0 6 (.agg #[(.string ⟨List.toArray a.1⟩), (.int .i64 a.2.1), (.int .i64 a.2.2.1), (.slice u (List.length a.2.2.2.1) a0), (.slice a1 (List.length a.2.2.2.2.1) a2)]) 22 b0 rfl ?_
 refine iR 1 2 [(23, (.string ⟨List.toArray a8⟩))] ?_
 obtain ⟨c, c9, H⟩ := Qc H
 refine iS 3 ?_
 refine cF 68 #[(.tmp 22), (.tmp 23)] #[44, 9] 24 Tryz.call68 (U2 u a0 a1 a2 a.1 a.2.1 a.2.2.1 a.2.2.2.1 a.2.2.2.2.1 a8 b4 (c4 b4 (SP.mod b0)) (c5 b4 (SP.mod b0)) c c9) ?_
 rintro e d9 ⟨rfl, c0⟩
 refine ⟨_, rfl, ?_⟩
 have d0 := SP.call b0 c0
 clear c0
 refine iR 3 6 [(21, (.tuple #[(.agg #[(.string ⟨List.toArray c.1⟩), (.string ⟨List.toArray c.2.1⟩), (.int .i64 c.2.2.1)]), (.bool c.2.2.2)])), (25, (.agg #[(.string ⟨List.toArray c.1⟩), (.string ⟨List.toArray c.2.1⟩), (.int .i64 c.2.2.1)])), (26, (.bool c.2.2.2))] ?_
 refine iS 7 ?_
 refine Qk.alloc (t := 48) (z := (.agg #[(.string ⟨List.toArray ([] : List UInt8)⟩), (.string ⟨List.toArray ([] : List UInt8)⟩), (.int .i64 0)])) (d := (some 10)) (k := 6) K rfl K d0 ?_
 intro b5 e0 d1
 refine iS 8 ?_
 refine Qk.store (t := 48) (x := (.tmp 10)) (y := (.tmp 25)) (g := b5) (off := 0) (i := 7) (v := (.agg #[(.string ⟨List.toArray c.1⟩), (.string ⟨List.toArray c.2.1⟩), (.int .i64 c.2.2.1)])) (cs' := #[(.string ⟨List.toArray c.1⟩), (.string ⟨List.toArray c.2.1⟩), (.int .i64 c.2.2.1)]) (d := none) (k := 7) K rfl K K d1 rfl K ?_
 intro d2 b1
 refine iR 1 9 [(11, (.bool c.2.2.2))] ?_
 refine iF ?_
 refine aQ ?_
 refine aR ?_
 refine iR 1 1 [(27, (.bool c.2.2.2))] ?_
 refine iF ?_
 refine At.join (fun ρ w => ∃ (b6 : (List UInt8)), Zn ρ [] ∧ SP S w0 w [Qq g1 79 #[(.int .i64 q2), (.int .i64 q3), (.int .i64 q4), (.int .i64 q5), (.slice A7 (List.length (List.map stT s)) c8), (.map (some h))], Vp h a6, Qq j 9 #[(.string ⟨List.toArray a3⟩)], Qq m 9 #[(.string ⟨List.toArray a4⟩)], Qq p 9 #[(.string ⟨List.toArray a5⟩)], Qq q 9 #[(.string ⟨List.toArray b6⟩)]] ∧ Vj b6 = some r) ?_ ?_
 ·refine Zv K (o := (.tmp 27)) K (b := c.2.2.2) K (fun b7 => ?_) (fun b7 => ?_)
  ·have H := ct H b7
   refine aR ?_
   refine iR 1 1 [(28, (.func (.func 50) #[] #[(pt j 0), (pt m 0), (pt p 0), (pt q 0)]))] ?_
   refine iS 2 ?_
   refine sL 48 10 b5 0 7 (.agg #[(.string ⟨List.toArray c.1⟩), (.string ⟨List.toArray c.2.1⟩), (.int .i64 c.2.2.1)]) 29 b1 rfl ?_
   obtain ⟨b8, d3, H⟩ := Qc H
   refine iS 3 ?_
   refine Z5 (f := 50) (fo := (.tmp 28)) (xs := #[(.tmp 29)]) (tys := #[48]) (first := #[]) (captured := #[(pt j 0), (pt m 0), (pt p 0), (pt q 0)]) (d := (some 30)) (k := 2) K rfl K K Tryz.call50 (Nd j m p q c.1 c.2.1 c.2.2.1 a3 a4 a5 a9 d2 (Xy b1 [2, 3, 4, 5] rfl rfl) b8 d3) ?_
   rintro e d4 ⟨rfl, c1⟩
   refine ⟨_, rfl, ?_⟩
   have d5 : SP S w0 d4 [Qq g1 79 #[(.int .i64 q2), (.int .i64 q3), (.int .i64 q4), (.int .i64 q5), (.slice A7 (List.length (List.map stT s)) c8), (.map (some h))], Vp h a6, Qq b3 44 #[(.string ⟨List.toArray a.1⟩), (.int .i64 a.2.1), (.int .i64 a.2.2.1), (.slice u (List.length a.2.2.2.1) a0), (.slice a1 (List.length a.2.2.2.2.1) a2)], Qq b5 48 #[(.string ⟨List.toArray c.1⟩), (.string ⟨List.toArray c.2.1⟩), (.int .i64 c.2.2.1)], Qq j 9 #[(.string ⟨List.toArray a3⟩)], Qq m 9 #[(.string ⟨List.toArray a4⟩)], Qq p 9 #[(.string ⟨List.toArray a5⟩)], Qq q 9 #[(.string ⟨List.toArray b8⟩)]] := Vy b1 [2, 3, 4, 5] [0, 1, 6, 7] rfl rfl c1 rfl
   clear c1
   refine iF ?_
   exact ⟨b8, trivial, SP.sel d5 [0, 1, 4, 5, 6, 7] rfl rfl, H⟩
  ·have H := cf H b7
   refine At.skip K ?_
   exact ⟨a9, trivial, SP.sel b1 [0, 1, 2, 3, 4, 5] rfl rfl, H⟩
 ·rintro ρ e1 ⟨b6, hk, d6, H⟩
  unfold Vj at H
  first | refine At.known [] hk ?_ | rw [← Va (l := []) hk]
  refine ⟨(.tuple #[]), K, ?_⟩
  obtain rfl := Qg H
  exact ⟨rfl, SP.sel d6 [0,1,2,3,4,5] rfl rfl⟩
def Xa (q2 : Int) (q3 : Int) (q4 : Int) (q5 : Int) (q6 : (List Qd)) (c : Ur) (a : (List UInt8)) (b : (List UInt8)) (d : Int) : Option (Bool) :=
  ((V3 q2 q3 q4 q5 q6 c a b a b d false).bind fun e => (some (e)))
set_option maxRecDepth 100000 in
set_option maxHeartbeats 4000000 in
theorem J6 {S : List Nat} (g1 : Nat) (A7 : Option Addr) (c8 : Nat) (a : Nat) (q2 : Int) (q3 : Int) (q4 : Int) (q5 : Int) (f : (List Q9)) (j : Ur) (b : (List UInt8)) (c : (List UInt8)) (m : Int) (w0 : World) (hO : SP S w0 w0 [Qq g1 79 #[(.int .i64 q2), (.int .i64 q3), (.int .i64 q4), (.int .i64 q5), (.slice A7 (List.length (List.map stT f)) c8), (.map (some a))], Vp a j]) (a3 : ∀ w, Mod S w0 w → (dDS J8 Bh).ok w (A7, c8, f)) (r : (Bool)) (H : Xa q2 q3 q4 q5 (List.map stT f) j b c m = some r) :
  Calls Tryz.prog 22 #[(pt g1 0), (.string ⟨List.toArray b⟩), (.string ⟨List.toArray c⟩), (.int .i64 m)] w0 (fun e w' => e = .returned (.bool r) ∧ SP S w0 w' [Qq g1 79 #[(.int .i64 q2), (.int .i64 q3), (.int .i64 q4), (.int .i64 q5), (.slice A7 (List.length (List.map stT f)) c8), (.map (some a))], Vp a j]) := by
 unfold Xa at H
 refine Qt (n := 16) Tryz.func22 K K K ?_
 have a4 := hO
 refine aQ ?_
 refine aR ?_
 refine iS 1 ?_
 refine Vq (t := 29) (x := (.tmp 0)) (v := (pt g1 0)) (d := (some 4)) (k := 0) K rfl K a4 ?_
 intro q b3 a5
 refine iS 2 ?_
 refine Vq (t := 9) (x := (.tmp 1)) (v := (.string ⟨List.toArray b⟩)) (d := (some 5)) (k := 1) K rfl K a5 ?_
 intro s b4 a6
 refine iS 3 ?_
 refine Vq (t := 9) (x := (.tmp 2)) (v := (.string ⟨List.toArray c⟩)) (d := (some 6)) (k := 2) K rfl K a6 ?_
 intro u b5 a7
 refine iS 4 ?_
 refine Vq (t := 2) (x := (.tmp 3)) (v := (.int .i64 m)) (d := (some 7)) (k := 3) K rfl K a7 ?_
 intro a0 b6 a8
 refine iR 1 5 [(8, (.bool false))] ?_
 refine iF ?_
 refine aQ ?_
 refine aR ?_
 refine iS 1 ?_
 refine Qk.alloc (t := 4) (z := (.bool false)) (d := (some 9)) (k := 0) K rfl K a8 ?_
 intro o b7 a9
 refine iS 2 ?_
 refine Qk.store (t := 4) (x := (.tmp 9)) (y := (.const (.bool false))) (g := o) (off := 0) (i := 6) (v := (.bool false)) (cs' := #[(.bool false)]) (d := none) (k := 1) K rfl K K a9 rfl K ?_
 intro b0 h
 refine iF ?_
 refine aQ ?_
 refine aR ?_
 refine iS 1 ?_
 refine sL 29 4 q 0 2 (pt g1 0) 10 h rfl ?_
 refine iS 2 ?_
 refine sL 9 5 s 0 3 (.string ⟨List.toArray b⟩) 11 h rfl ?_
 refine iS 3 ?_
 refine sL 9 6 u 0 4 (.string ⟨List.toArray c⟩) 12 h rfl ?_
 refine iR 1 4 [(13, (.func (.func 49) #[] #[(pt q 0), (pt s 0), (pt u 0), (pt a0 0), (pt o 0)]))] ?_
 obtain ⟨p, b1, H⟩ := Qc H
 refine iS 5 ?_
 refine cF 45 #[(.tmp 10), (.tmp 11), (.tmp 12), (.tmp 13)] #[29, 9, 9, 84] 14 Tryz.call45 (Jh g1 A7 c8 a q s u a0 o q2 q3 q4 q5 f j b c b c m false b0 (Xy h [0, 1, 2, 3, 4, 5, 6] rfl rfl) (fun w hm => a3 w (SP.through h (l := [0, 1, 2, 3, 4, 5, 6]) rfl hm)) p b1) ?_
 rintro e b2 ⟨rfl, a1⟩
 refine ⟨_, rfl, ?_⟩
 have a2 : SP S w0 b2 [Qq g1 79 #[(.int .i64 q2), (.int .i64 q3), (.int .i64 q4), (.int .i64 q5), (.slice A7 (List.length (List.map stT f)) c8), (.map (some a))], Vp a j, Qq q 29 #[(pt g1 0)], Qq s 9 #[(.string ⟨List.toArray b⟩)], Qq u 9 #[(.string ⟨List.toArray c⟩)], Qq a0 2 #[(.int .i64 m)], Qq o 4 #[(.bool p)]] := Vy h [0, 1, 2, 3, 4, 5, 6] [] rfl rfl a1 rfl
 clear a1
 refine iF ?_
 refine aQ ?_
 refine aR ?_
 refine iS 1 ?_
 refine sL 4 9 o 0 6 (.bool p) 15 a2 rfl ?_
 refine iR 1 2 [(8, (.bool p))] ?_
 refine iF ?_
 refine At.ret K ?_
 refine ⟨(.bool p), K, ?_⟩
 obtain rfl := Qg H
 exact ⟨rfl, SP.sel a2 [0,1] rfl rfl⟩
def Zc (q2 : Int) (q3 : Int) (q4 : Int) (q5 : Int) (q6 : (List Qd)) (c : Ur) (a : (List UInt8)) (b : (List UInt8)) (d : (List UInt8)) : Option ((List UInt8)) :=
  ((V4 q2 q3 q4 q5 q6 c a b a b d ([] : List UInt8)).bind fun e => (some (e)))
set_option maxRecDepth 100000 in
set_option maxHeartbeats 4000000 in
theorem Xo {S : List Nat} (g1 : Nat) (A7 : Option Addr) (c8 : Nat) (a : Nat) (q2 : Int) (q3 : Int) (q4 : Int) (q5 : Int) (f : (List Q9)) (h : Ur) (b : (List UInt8)) (c : (List UInt8)) (j : (List UInt8)) (w0 : World) (hO : SP S w0 w0 [Qq g1 79 #[(.int .i64 q2), (.int .i64 q3), (.int .i64 q4), (.int .i64 q5), (.slice A7 (List.length (List.map stT f)) c8), (.map (some a))], Vp a h]) (a2 : ∀ w, Mod S w0 w → (dDS J8 Bh).ok w (A7, c8, f)) (r : ((List UInt8))) (H : Zc q2 q3 q4 q5 (List.map stT f) h b c j = some r) :
  Calls Tryz.prog 24 #[(pt g1 0), (.string ⟨List.toArray b⟩), (.string ⟨List.toArray c⟩), (.string ⟨List.toArray j⟩)] w0 (fun e w' => e = .returned (.string ⟨List.toArray r⟩) ∧ SP S w0 w' [Qq g1 79 #[(.int .i64 q2), (.int .i64 q3), (.int .i64 q4), (.int .i64 q5), (.slice A7 (List.length (List.map stT f)) c8), (.map (some a))], Vp a h]) := by
 unfold Zc at H
 refine Qt (n := 16) Tryz.func24 K K K ?_
 have a3 := hO
 refine aQ ?_
 refine aR ?_
 refine iS 1 ?_
 refine Vq (t := 9) (x := (.tmp 1)) (v := (.string ⟨List.toArray b⟩)) (d := (some 5)) (k := 0) K rfl K a3 ?_
 intro q b1 a4
 refine iS 2 ?_
 refine Vq (t := 9) (x := (.tmp 2)) (v := (.string ⟨List.toArray c⟩)) (d := (some 6)) (k := 1) K rfl K a4 ?_
 intro s b2 a5
 refine iS 3 ?_
 refine Vq (t := 9) (x := (.tmp 3)) (v := (.string ⟨List.toArray j⟩)) (d := (some 7)) (k := 2) K rfl K a5 ?_
 intro u b3 a6
 refine iR 1 4 [(8, (.string ⟨List.toArray ([] : List UInt8)⟩))] ?_
 refine iF ?_
 refine aQ ?_
 refine aR ?_
 refine iS 1 ?_
 refine Qk.alloc (t := 9) (z := (.string ⟨List.toArray ([] : List UInt8)⟩)) (d := (some 9)) (k := 0) K rfl K a6 ?_
 intro m b4 a7
 refine iS 2 ?_
 refine Qk.store (t := 9) (x := (.tmp 9)) (y := (.const (.string ⟨List.toArray ([] : List UInt8)⟩))) (g := m) (off := 0) (i := 5) (v := (.string ⟨List.toArray ([] : List UInt8)⟩)) (cs' := #[(.string ⟨List.toArray ([] : List UInt8)⟩)]) (d := none) (k := 1) K rfl K K a7 rfl K ?_
 intro a8 o
 refine iF ?_
 refine aQ ?_
 refine aR ?_
 refine iR 1 1 [(10, (pt g1 0))] ?_
 refine iS 2 ?_
 refine sL 9 5 q 0 2 (.string ⟨List.toArray b⟩) 11 o rfl ?_
 refine iS 3 ?_
 refine sL 9 6 s 0 3 (.string ⟨List.toArray c⟩) 12 o rfl ?_
 refine iR 1 4 [(13, (.func (.func 50) #[] #[(pt q 0), (pt s 0), (pt u 0), (pt m 0)]))] ?_
 obtain ⟨p, a9, H⟩ := Qc H
 refine iS 5 ?_
 refine cF 45 #[(.tmp 10), (.tmp 11), (.tmp 12), (.tmp 13)] #[29, 9, 9, 84] 14 Tryz.call45 (Ji g1 A7 c8 a q s u m q2 q3 q4 q5 f h b c b c j ([] : List UInt8) a8 (Xy o [0, 1, 2, 3, 4, 5] rfl rfl) (fun w hm => a2 w (SP.through o (l := [0, 1, 2, 3, 4, 5]) rfl hm)) p a9) ?_
 rintro e b0 ⟨rfl, a0⟩
 refine ⟨_, rfl, ?_⟩
 have a1 : SP S w0 b0 [Qq g1 79 #[(.int .i64 q2), (.int .i64 q3), (.int .i64 q4), (.int .i64 q5), (.slice A7 (List.length (List.map stT f)) c8), (.map (some a))], Vp a h, Qq q 9 #[(.string ⟨List.toArray b⟩)], Qq s 9 #[(.string ⟨List.toArray c⟩)], Qq u 9 #[(.string ⟨List.toArray j⟩)], Qq m 9 #[(.string ⟨List.toArray p⟩)]] := Vy o [0, 1, 2, 3, 4, 5] [] rfl rfl a0 rfl
 clear a0
 refine iF ?_
 refine aQ ?_
 refine aR ?_
 refine iS 1 ?_
 refine sL 9 9 m 0 5 (.string ⟨List.toArray p⟩) 15 a1 rfl ?_
 refine iR 1 2 [(8, (.string ⟨List.toArray p⟩))] ?_
 refine iF ?_
 refine At.ret K ?_
 refine ⟨(.string ⟨List.toArray p⟩), K, ?_⟩
 obtain rfl := Qg H
 exact ⟨rfl, SP.sel a1 [0,1] rfl rfl⟩
def Zx (a : Bool) : Option (Int) :=
  (cond a (some (101)) (some (0)))
def Xx (q2 : Int) (q3 : Int) (q4 : Int) (q5 : Int) (q6 : (List Qd)) (b : Ur) (c : (List UInt8)) (d : (List UInt8)) (f : (List UInt8)) (e : (List UInt8)) (g : Int) : Option (Int) :=
  ((Xa q2 q3 q4 q5 q6 b c d g).bind fun h => (cond (!h) (some (3)) ((Zc q2 q3 q4 q5 q6 b c d f).bind fun a => (cond (a == ([] : List UInt8)) (Zx true) ((chk (Nat.ble (List.length a) 281474976710656)).bind fun _ => ((chk (Nat.ble (List.length e) 281474976710656)).bind fun _ => ((Nn a e).bind fun i => (Zx (!i)))))))))
set_option maxRecDepth 100000 in
set_option maxHeartbeats 4000000 in
theorem No {S : List Nat} (g1 : Nat) (A7 : Option Addr) (c8 : Nat) (c : Nat) (q2 : Int) (q3 : Int) (q4 : Int) (q5 : Int) (g : (List Q9)) (h : Ur) (j : (List UInt8)) (m : (List UInt8)) (s : (List UInt8)) (p : (List UInt8)) (u : Int) (w0 : World) (hO : SP S w0 w0 [Qq g1 79 #[(.int .i64 q2), (.int .i64 q3), (.int .i64 q4), (.int .i64 q5), (.slice A7 (List.length (List.map stT g)) c8), (.map (some c))], Vp c h]) (a8 : ∀ w, Mod S w0 w → (dDS J8 Bh).ok w (A7, c8, g)) (r : (Int)) (H : Xx q2 q3 q4 q5 (List.map stT g) h j m s p u = some r) :
  Calls Tryz.prog 26 #[(pt g1 0), (.string ⟨List.toArray j⟩), (.string ⟨List.toArray m⟩), (.string ⟨List.toArray s⟩), (.string ⟨List.toArray p⟩), (.int .i64 u)] w0 (fun e w' => e = .returned (.int .i64 r) ∧ SP S w0 w' [Qq g1 79 #[(.int .i64 q2), (.int .i64 q3), (.int .i64 q4), (.int .i64 q5), (.slice A7 (List.length (List.map stT g)) c8), (.map (some c))], Vp c h]) := by
 unfold Xx at H
 refine Qt (n := 35) Tryz.func26 K K K ?_
 have a0 := hO
 refine aQ ?_
 refine aR ?_
 refine iR 1 1 [(12, (.int .i64 0))] ?_
 refine iF ?_
 refine aQ ?_
 refine aQ ?_
 refine aR ?_
 refine iR 4 4 [(14, (pt g1 0)), (15, (.string ⟨List.toArray j⟩)), (16, (.string ⟨List.toArray m⟩)), (17, (.int .i64 u))] ?_
 obtain ⟨a1, c0, H⟩ := Qc H
 refine iS 5 ?_
 refine cF 22 #[(.tmp 14), (.tmp 15), (.tmp 16), (.tmp 17)] #[29, 9, 9, 2] 18 Tryz.call22 (J6 g1 A7 c8 c q2 q3 q4 q5 g h j m u w0 (Xy a0 [0, 1] rfl rfl) (fun w hm => a8 w (SP.through a0 (l := [0, 1]) rfl hm)) a1 c0) ?_
 rintro e a9 ⟨rfl, b0⟩
 refine ⟨_, rfl, ?_⟩
 have v : SP S w0 a9 [Qq g1 79 #[(.int .i64 q2), (.int .i64 q3), (.int .i64 q4), (.int .i64 q5), (.slice A7 (List.length (List.map stT g)) c8), (.map (some c))], Vp c h] := Vy a0 [0, 1] [] rfl rfl b0 rfl
 clear b0
 refine iR 1 6 [(19, (.bool (!a1)))] ?_
 refine iF ?_
 refine Zv K (o := (.tmp 19)) K (b := (!a1)) K (fun a2 => ?_) (fun a2 => ?_)
 ·have H := ct H a2
  refine aQ ?_
  refine aR ?_
  refine iR 1 1 [(12, (.int .i64 3))] ?_
  refine iF ?_
  refine At.ret K ?_
  refine ⟨(.int .i64 3), K, ?_⟩
  obtain rfl := Qg H
  exact ⟨rfl, SP.sel v [0,1] rfl rfl⟩
 ·have H := cf H a2
  refine At.skip K ?_
  refine aQ ?_
  refine aQ ?_
  refine aR ?_
  refine iR 4 4 [(20, (pt g1 0)), (21, (.string ⟨List.toArray j⟩)), (22, (.string ⟨List.toArray m⟩)), (23, (.string ⟨List.toArray s⟩))] ?_
  obtain ⟨f, c1, H⟩ := Qc H
  refine iS 5 ?_
  refine cF 24 #[(.tmp 20), (.tmp 21), (.tmp 22), (.tmp 23)] #[29, 9, 9, 9] 24 Tryz.call24 (Xo g1 A7 c8 c q2 q3 q4 q5 g h j m s a9 (Xy v [0, 1] rfl rfl) (fun w hm => a8 w (SP.through v (l := [0, 1]) rfl hm)) f c1) ?_
  rintro e c2 ⟨rfl, b1⟩
  refine ⟨_, rfl, ?_⟩
  have b2 : SP S w0 c2 [Qq g1 79 #[(.int .i64 q2), (.int .i64 q3), (.int .i64 q4), (.int .i64 q5), (.slice A7 (List.length (List.map stT g)) c8), (.map (some c))], Vp c h] := Vy v [0, 1] [] rfl rfl b1 rfl
  clear b1
  refine iR 1 6 [(13, (.string ⟨List.toArray f⟩))] ?_
  refine iF ?_
  refine aQ ?_
  refine At.join (fun ρ w => ∃ (q : Bool), Zn ρ [(34, (.bool q))] ∧ SP S w0 w [Qq g1 79 #[(.int .i64 q2), (.int .i64 q3), (.int .i64 q4), (.int .i64 q5), (.slice A7 (List.length (List.map stT g)) c8), (.map (some c))], Vp c h] ∧ Zx q = some r) ?_ ?_
  ·refine aR ?_
   refine iR 1 1 [(25, (.string ⟨List.toArray f⟩))] ?_
   refine iS 2 ?_
   refine Yg (op := .eql) (T := 9) (T' := 9) (x := (.tmp 25)) (y := (.const (.string ⟨List.toArray ([] : List UInt8)⟩))) (a := f) (b := ([] : List UInt8)) (r := (.bool (f == ([] : List UInt8)))) (d := (some 26)) (k := 1) K rfl K K rfl ?_
   refine iR 1 3 [(27, (.bool (f == ([] : List UInt8))))] ?_
   refine In.guard (t := 27) (b := (f == ([] : List UInt8))) K (fun a3 => ?_) (fun a3 => ?_)
   ·have H := ct H a3
    refine iR 7 10 [(28, undef), (29, undef), (30, undef), (31, undef), (32, undef), (33, undef), (34, (.bool true))] ?_
    refine iF ?_
    exact ⟨true, ⟨K, trivial⟩, SP.sel b2 [0, 1] rfl rfl, H⟩
   ·have H := cf H a3
    refine iR 1 4 [(28, (.string ⟨List.toArray f⟩))] ?_
    obtain ⟨c3, H⟩ := Zm H
    refine iS 5 ?_
    refine Gg (S' := 9) (T := 52) (E := 5) (x := (.tmp 28)) (l := f) (d := (some 29)) (k := 4) K rfl K K K K (Gh c3) b2 ?_
    intro a4 a5 c4 b3 _
    have c5 : SP S w0 c4 [Qq g1 79 #[(.int .i64 q2), (.int .i64 q3), (.int .i64 q4), (.int .i64 q5), (.slice A7 (List.length (List.map stT g)) c8), (.map (some c))], Vp c h, rdE eU8 (some ⟨a4, 0, none⟩) a5 f] := b3
    clear b3
    refine iR 1 6 [(30, (.string ⟨List.toArray p⟩))] ?_
    obtain ⟨c6, H⟩ := Zm H
    refine iS 7 ?_
    refine Gg (S' := 9) (T := 52) (E := 5) (x := (.tmp 30)) (l := p) (d := (some 31)) (k := 6) K rfl K K K K (Gh c6) c5 ?_
    intro b4 b5 b6 b7 _
    have a6 : SP S w0 b6 [Qq g1 79 #[(.int .i64 q2), (.int .i64 q3), (.int .i64 q4), (.int .i64 q5), (.slice A7 (List.length (List.map stT g)) c8), (.map (some c))], Vp c h, rdE eU8 (some ⟨a4, 0, none⟩) a5 f, rdE eU8 (some ⟨b4, 0, none⟩) b5 p] := b7
    clear b7
    obtain ⟨z, c7, H⟩ := Qc H
    refine iS 8 ?_
    refine cF 52 #[(.tmp 29), (.tmp 31)] #[52, 52] 32 Tryz.call52 (Bs (some ⟨a4, 0, none⟩) a5 (some ⟨b4, 0, none⟩) b5 f p b6 (rdE_rd (SP.get a6 (i := 2) rfl)) (rdE_rd (SP.get a6 (i := 3) rfl)) z c7) ?_
    rintro e d0 ⟨rfl, b8⟩
    refine ⟨_, rfl, ?_⟩
    have c9 := SP.call a6 b8
    clear b8
    refine iR 2 10 [(33, (.bool (!z))), (34, (.bool (!z)))] ?_
    refine iF ?_
    exact ⟨(!z), ⟨K, trivial⟩, SP.sel c9 [0, 1] rfl rfl, H⟩
  ·rintro ρ d1 ⟨q, hk, b9, H⟩
   unfold Zx at H
   first | refine At.known [(34, (.bool q))] hk ?_ | rw [← Va (l := [(34, (.bool q))]) hk]
   refine Zv K (o := (.tmp 34)) K (b := q) K (fun a7 => ?_) (fun a7 => ?_)
   ·have H := ct H a7
    refine aQ ?_
    refine aR ?_
    refine iR 1 1 [(12, (.int .i64 101))] ?_
    refine iF ?_
    refine At.ret K ?_
    refine ⟨(.int .i64 101), K, ?_⟩
    obtain rfl := Qg H
    exact ⟨rfl, SP.sel b9 [0,1] rfl rfl⟩
   ·have H := cf H a7
    refine At.skip K ?_
    refine aQ ?_
    refine aR ?_
    refine iR 1 1 [(12, (.int .i64 0))] ?_
    refine iF ?_
    refine At.ret K ?_
    refine ⟨(.int .i64 0), K, ?_⟩
    obtain rfl := Qg H
    exact ⟨rfl, SP.sel b9 [0,1] rfl rfl⟩
end Go.Proofs.YtmgfanhcdfobhaaGreatDoor
namespace Go.Proofs.YtmgfanhcdfobhaaGreatDoor
theorem fx_step {α : Type} {P : α → Bool} {l : List α} {i : Nat} (hi : i < l.length) (hn : (l.take i).any P = false) (hx : P l[i] = true) : l.findIdx? P = some i := by
  rw [List.findIdx?_eq_some_iff_getElem]
  refine ⟨hi, hx, fun j hj => ?_⟩
  rw [List.any_eq_false] at hn
  have := hn l[j] (by rw [List.mem_take_iff_getElem]; exact ⟨j, by omega, rfl⟩)
  simpa using this
theorem fx_none {α : Type} {P : α → Bool} {l : List α} (hn : l.any P = false) : l.findIdx? P = none := by
  rw [List.findIdx?_eq_none_iff]
  intro x hx
  rw [List.any_eq_false] at hn
  simpa using hn x hx
theorem fx_more {α : Type} {P : α → Bool} {l : List α} {i : Nat} (hi : i < l.length) (hn : (l.take i).any P = false) (hx : P l[i] = false) : (l.take (i + 1)).any P = false := by
  rw [List.take_add_one, List.getElem?_eq_getElem hi, List.any_append, hn]
  simp [hx]
def ixI (o : Option Nat) : Int := match o with | some i => (i : Int) | none => -1
theorem H2 (l : List Qd) (P : Qd → Bool) (p : Str → Int → Int → List Hp → List D2 → Option Bool) (hp : ∀ x : Qd, p x.1 x.2.1 x.2.2.1 x.2.2.2.1 x.2.2.2.2 = some (P x)) (hl : l.length ≤ 140737488355328) :
    ∀ (d i f : Nat), d = l.length - i → i ≤ l.length → d < f → (l.take i).any P = false → Qf l p f (i : Int) = some (ixI (l.findIdx? P)) := by
  intro d
  induction d with
  | zero =>
    intro i f hd hi hf hn
    obtain ⟨f, rfl⟩ : ∃ g, f = g + 1 := ⟨f - 1, by omega⟩
    show Qj (Qf l p f) l p (i : Int) = _
    unfold Qj
    rw [List.take_of_length_le (by omega)] at hn
    rw [show decide ((i : Int) < ((l.length : Nat) : Int)) = false from decide_eq_false (by omega), cond_false, fx_none hn]
    rfl
  | succ d ih =>
    intro i f hd hi hf hn
    obtain ⟨f, rfl⟩ : ∃ g, f = g + 1 := ⟨f - 1, by omega⟩
    have hlt : i < l.length := by omega
    show Qj (Qf l p f) l p (i : Int) = _
    unfold Qj
    rw [show decide ((i : Int) < ((l.length : Nat) : Int)) = true from decide_eq_true (by omega), cond_true, Jg hlt, Option.bind_some, hp, Option.bind_some]
    cases hx : P l[i] with
    | true => rw [cond_true, fx_step hlt hn hx]; rfl
    | false =>
      rw [cond_false, show ((i : Int) + 1) = ((i + 1 : Nat) : Int) by omega, Xu (by omega)]
      exact ih (i + 1) f (by omega) (by omega) (by omega) (fx_more hlt hn hx)
theorem H3 (l : List D2) (P : D2 → Bool) (p : Str → Str → Int → Option Bool) (hp : ∀ x : D2, p x.1 x.2.1 x.2.2 = some (P x)) (hl : l.length ≤ 140737488355328) :
    ∀ (d i f : Nat), d = l.length - i → i ≤ l.length → d < f → (l.take i).any P = false → Qh l p f (i : Int) = some (ixI (l.findIdx? P)) := by
  intro d
  induction d with
  | zero =>
    intro i f hd hi hf hn
    obtain ⟨f, rfl⟩ : ∃ g, f = g + 1 := ⟨f - 1, by omega⟩
    show Qm (Qh l p f) l p (i : Int) = _
    unfold Qm
    rw [List.take_of_length_le (by omega)] at hn
    rw [show decide ((i : Int) < ((l.length : Nat) : Int)) = false from decide_eq_false (by omega), cond_false, fx_none hn]
    rfl
  | succ d ih =>
    intro i f hd hi hf hn
    obtain ⟨f, rfl⟩ : ∃ g, f = g + 1 := ⟨f - 1, by omega⟩
    have hlt : i < l.length := by omega
    show Qm (Qh l p f) l p (i : Int) = _
    unfold Qm
    rw [show decide ((i : Int) < ((l.length : Nat) : Int)) = true from decide_eq_true (by omega), cond_true, Jg hlt, Option.bind_some, hp, Option.bind_some]
    cases hx : P l[i] with
    | true => rw [cond_true, fx_step hlt hn hx]; rfl
    | false =>
      rw [cond_false, show ((i : Int) + 1) = ((i + 1 : Nat) : Int) by omega, Xu (by omega)]
      exact ih (i + 1) f (by omega) (by omega) (by omega) (fx_more hlt hn hx)
theorem pl_lt' {l : List Qd} {nm : Str} {k : Nat} (h : pl l nm = some k) : k < l.length := (List.findIdx?_eq_some_iff_getElem.1 h).1
theorem lFind (w g i e : Int) (l : List Qd) (nm : Str) (hl : l.length ≤ 140737488355328) : Jd w g i e l nm = some (En l nm) := by
  have h := H2 l (fun x => x.1 == nm) (fun y0 y1 y2 y3 y4 => Y9 y0 y1 y2 y3 y4 nm) (fun x => rfl) hl l.length 0 Zw (by omega) (by omega) (by unfold Zw; omega) rfl
  unfold Jd Qz
  rw [show ((0 : Nat) : Int) = 0 from rfl] at h
  rw [h, Option.bind_some]
  unfold En
  show _ = some (match pl l nm with | some k => _ | none => _)
  rw [show l.findIdx? (fun x => x.1 == nm) = pl l nm from rfl]
  cases hp : pl l nm with
  | none => rfl
  | some k =>
    have hk := pl_lt' hp
    have hg : l.getD k Em = l[k] := by simp [List.getD, hk]
    rw [show decide (ixI (some k) < 0) = false from decide_eq_false (by show ¬ ((k : Nat) : Int) < 0; omega), cond_false]
    show (idx l ((k : Nat) : Int)).bind _ = _
    rw [Jg hk, Option.bind_some]
    simp only [hg]
def tix (l : List D2) (nm : Str) : Option Nat := l.findIdx? (fun x => x.1 == nm)
def dTok0 : D2 := ([], [], 0)
def tokL (l : List D2) (nm : Str) : Str × Str × Int × Bool := match tix l nm with
  | some k => ((l.getD k dTok0).1, (l.getD k dTok0).2.1, (l.getD k dTok0).2.2, true)
  | none => ([], [], 0, false)
theorem tix_lt {l : List D2} {nm : Str} {k : Nat} (h : tix l nm = some k) : k < l.length := (List.findIdx?_eq_some_iff_getElem.1 h).1
theorem lTok (n : Str) (a b : Int) (ns : List Hp) (l : List D2) (nm : Str) (hl : l.length ≤ 140737488355328) : Y0 n a b ns l nm = some (tokL l nm) := by
  have h := H3 l (fun x => x.1 == nm) (fun y0 y1 y2 => Yy y0 y1 y2 nm) (fun x => rfl) hl l.length 0 Zw (by omega) (by omega) (by unfold Zw; omega) rfl
  unfold Y0 Q1
  rw [show ((0 : Nat) : Int) = 0 from rfl] at h
  rw [h, Option.bind_some]
  unfold tokL
  rw [show l.findIdx? (fun x => x.1 == nm) = tix l nm from rfl]
  cases hp : tix l nm with
  | none => rfl
  | some k =>
    have hk := tix_lt hp
    have hg : l.getD k dTok0 = l[k] := by simp [List.getD, hk]
    rw [show decide (ixI (some k) < 0) = false from decide_eq_false (by show ¬ ((k : Nat) : Int) < 0; omega), cond_false]
    show (idx l ((k : Nat) : Int)).bind _ = _
    rw [Jg hk, Option.bind_some]
    simp only [hg]
theorem Hg (a : Nat) (h : a < 256) : (BitVec.ofInt (IntKind.bits .u8) (a : Int)).toNat = a := by
  show (BitVec.ofInt 8 (a : Int)).toNat = a
  rw [BitVec.ofInt_natCast, BitVec.toNat_ofNat]
  exact Nat.mod_eq_of_lt (by omega)
theorem bOr8 (a b : Nat) (ha : a < 256) (hb : b < 256) : bOr .u8 (a : Int) (b : Int) = ((a ||| b : Nat) : Int) := by
  unfold bOr
  rw [BitVec.toNat_or, Hg a ha, Hg b hb, wrap8]
  have : a ||| b < 2 ^ 8 := Nat.or_lt_two_pow (by omega) (by omega)
  omega
theorem bXor8 (a b : Nat) (ha : a < 256) (hb : b < 256) : Xn .u8 (a : Int) (b : Int) = ((a ^^^ b : Nat) : Int) := by
  unfold Xn
  rw [BitVec.toNat_xor, Hg a ha, Hg b hb, wrap8]
  have : a ^^^ b < 2 ^ 8 := Nat.xor_lt_two_pow (by omega) (by omega)
  omega
theorem or_zero {a b : Nat} : a ||| b = 0 ↔ a = 0 ∧ b = 0 := by
  constructor
  · intro h
    exact ⟨Nat.le_zero.1 (h ▸ Nat.left_le_or), Nat.le_zero.1 (h ▸ Nat.right_le_or)⟩
  · rintro ⟨rfl, rfl⟩; rfl
theorem xor_zero {a b : Nat} : a ^^^ b = 0 ↔ a = b := by
  constructor
  · intro h
    have : a ^^^ b ^^^ b = 0 ^^^ b := by rw [h]
    rwa [Nat.xor_assoc, Nat.xor_self, Nat.xor_zero, Nat.zero_xor] at this
  · rintro rfl; exact Nat.xor_self a
theorem Fz (v x y : UInt8) : (R8 (bOr .u8 ((v.toNat : Nat) : Int) (Xn .u8 ((x.toNat : Nat) : Int) ((y.toNat : Nat) : Int))) = 0) ↔ (v = 0 ∧ x = y) := by
  have hv := v.toNat_lt
  have hx := x.toNat_lt
  have hy := y.toNat_lt
  have hxy : x.toNat ^^^ y.toNat < 2 ^ 8 := Nat.xor_lt_two_pow (by omega) (by omega)
  rw [bXor8 _ _ (by omega) (by omega), bOr8 _ _ (by omega) (by omega), F5]
  have hor : v.toNat ||| (x.toNat ^^^ y.toNat) < 2 ^ 8 := Nat.or_lt_two_pow (by omega) (by omega)
  constructor
  · intro h
    have h2 := congrArg UInt8.toNat h
    rw [UInt8.toNat_ofNat', Nat.mod_eq_of_lt (by omega)] at h2
    obtain ⟨a, b⟩ := or_zero.1 h2
    exact ⟨UInt8.toNat_inj.1 a, UInt8.toNat_inj.1 (xor_zero.1 b)⟩
  · rintro ⟨rfl, rfl⟩
    rw [Nat.xor_self]
    rfl
theorem same_loop (p q : Str) (hlen : p.length = q.length) (hl : p.length ≤ 140737488355328) : ∀ (d i f : Nat) (v : UInt8), d = p.length - i → i ≤ p.length → d < f → (v = 0 ↔ p.take i = q.take i) → Ys p q f v (i : Int) = some (p == q) := by
  intro d
  induction d with
  | zero =>
    intro i f v hd hi hf hv
    obtain ⟨f, rfl⟩ : ∃ g, f = g + 1 := ⟨f - 1, by omega⟩
    show Yr (Ys p q f) p q v (i : Int) = _
    unfold Yr
    rw [List.take_of_length_le (by omega), List.take_of_length_le (by omega)] at hv
    rw [show decide ((i : Int) < ((p.length : Nat) : Int)) = false from decide_eq_false (by omega), cond_false]
    congr 1
    rw [Bool.eq_iff_iff, beq_iff_eq, beq_iff_eq, ← hv]
    constructor
    · intro h
      exact UInt8.toNat_inj.1 (by show v.toNat = 0; omega)
    · rintro rfl; rfl
  | succ d ih =>
    intro i f v hd hi hf hv
    obtain ⟨f, rfl⟩ : ∃ g, f = g + 1 := ⟨f - 1, by omega⟩
    have hlt : i < p.length := by omega
    have hlt2 : i < q.length := by omega
    show Yr (Ys p q f) p q v (i : Int) = _
    unfold Yr
    rw [show decide ((i : Int) < ((p.length : Nat) : Int)) = true from decide_eq_true (by omega), cond_true, Jg hlt, Option.bind_some, Jg hlt2, Option.bind_some, show ((i : Int) + 1) = ((i + 1 : Nat) : Int) by omega, Xu (by omega)]
    refine ih (i + 1) f _ (by omega) (by omega) (by omega) ?_
    rw [Fz, hv, List.take_add_one, List.take_add_one, List.getElem?_eq_getElem hlt, List.getElem?_eq_getElem hlt2]
    constructor
    · rintro ⟨h1, h2⟩; rw [h1, h2]
    · intro h
      have := List.append_inj h (by simp; omega)
      exact ⟨this.1, by simpa using this.2⟩
theorem lSame (p q : Str) (hl : p.length ≤ 140737488355328) : Nn p q = some (p == q) := by
  unfold Nn
  by_cases h : p.length = q.length
  · rw [h, bne_self_eq_false, cond_false]
    exact same_loop p q h hl p.length 0 Zw 0 (by omega) (by omega) (by unfold Zw; omega) (by simp)
  · rw [show ((((List.length p : Nat) : Int)) != ((List.length q : Nat) : Int)) = true by rw [bne_iff_ne]; omega, cond_true]
    congr 1
    symm
    rw [beq_eq_false_iff_ne]
    rintro rfl
    exact h rfl
structure VC (l : List Qd) : Prop where
  len : l.length ≤ 9000
  q : ∀ t ∈ l, TenQ t
  s : ∀ t ∈ l, TenS t
  o : ∀ t ∈ l, Ek t = true
def F0 (l : List Qd) (t k : Str) : Str × Str × Int × Bool := tokL (En l t).2.2.2.2.1 k
def Ey (l : List Qd) (M : Ur) (t k : Str) (now : Int) : Bool := (F0 l t k).2.2.2 && ((Ex M (t, k) == 0) && decide (now < (F0 l t k).2.2.1))
def Gt (l : List Qd) (t k n : Str) : Str := cond (F0 l t k).2.2.2 (Dr (F0 l t k).2.1 [t, k, n]) []
def Gu (l : List Qd) (M : Ur) (t k n p : Str) (now : Int) : Int := cond (Ey l M t k now) (cond (Gt l t k n == []) 101 (cond (p == Gt l t k n) 0 101)) 3
section
variable {l : List Qd} (hv : VC l)
include hv
theorem Cf (t : Str) : (En l t).2.2.2.2.1.length ≤ 9000 := by
  unfold En
  cases hp : pl l t with
  | none => simp
  | some k =>
    have hk := pl_lt' hp
    have hg : l.getD k Em = l[k] := by simp [List.getD, hk]
    simp only [hg]
    exact (hv.s _ (List.getElem_mem hk)).2.2.1
theorem vtok_ok {t k : Str} (h : (F0 l t k).2.2.2 = true) : (F0 l t k).2.1.length ≤ 32 ∧ 0 ≤ (F0 l t k).2.2.1 ∧ (F0 l t k).2.2.1 ≤ 1099511627776 ∧ t.length ≤ 20 ∧ k.length ≤ 20 := by
  unfold F0 at h ⊢
  unfold En at h ⊢
  cases hp : pl l t with
  | none =>
    rw [hp] at h
    simp [tokL, tix] at h
  | some i =>
    have hi := pl_lt' hp
    have hg : l.getD i Em = l[i] := by simp [List.getD, hi]
    rw [hp] at h
    simp only [hg] at h ⊢
    have ho := hv.o _ (List.getElem_mem hi)
    have hname : l[i].1 = t := by
      have := (List.findIdx?_eq_some_iff_getElem.1 hp).2.1
      simpa using this
    unfold Ek at ho
    simp only [Bool.and_eq_true, List.all_eq_true] at ho
    have hn := ho.2.1.1
    unfold Bg at hn
    simp only [Bool.and_eq_true, decide_eq_true_eq] at hn
    unfold tokL at h ⊢
    cases hp2 : tix l[i].2.2.2.2 k with
    | none => rw [hp2] at h; cases h
    | some j =>
      have hj := tix_lt hp2
      have hg2 : l[i].2.2.2.2.getD j dTok0 = l[i].2.2.2.2[j] := by simp [List.getD, hj]
      simp only [hg2]
      have hk := ho.1.2 _ (List.getElem_mem hj)
      have hname2 : l[i].2.2.2.2[j].1 = k := by
        have := (List.findIdx?_eq_some_iff_getElem.1 hp2).2.1
        simpa using this
      unfold Hq Bg at hk
      simp only [Bool.and_eq_true, decide_eq_true_eq] at hk
      rw [hname2] at hk
      rw [hname] at hn
      exact ⟨hk.2.1.2, hk.2.2.1, hk.2.2.2, hn.1.1.1.2, hk.1.1.1.1.2⟩
variable (w g i e : Int) (M : Ur) (t k : Str)
theorem pVGood (now : Int) : Xa w g i e l M t k now = some (Ey l M t k now) := by
  unfold Xa V3 Vi
  rw [lFind _ _ _ _ _ _ (by have := hv.len; omega), Option.bind_some, lTok _ _ _ _ _ _ (by have := Cf hv t; omega), Option.bind_some]
  rw [show tokL (En l t).2.2.2.2.1 k = F0 l t k from rfl]
  unfold Ey
  cases h : (F0 l t k).2.2.2 with
  | false => rfl
  | true =>
    obtain ⟨_, _, _, h1, h2⟩ := vtok_ok hv h
    rw [cond_true]
    unfold Ye Zr
    rw [show (Nat.ble t.length 140737488355328 && Nat.ble k.length 140737488355328) = true by simp; omega]
    simp only [chk, Option.bind_some]
    cases (Ex M (t, k) == 0) <;> rfl
theorem pVWant (n : Str) : Zc w g i e l M t k n = some (Gt l t k n) := by
  unfold Zc V4 Vj
  rw [lFind _ _ _ _ _ _ (by have := hv.len; omega), Option.bind_some, lTok _ _ _ _ _ _ (by have := Cf hv t; omega), Option.bind_some]
  rw [show tokL (En l t).2.2.2.2.1 k = F0 l t k from rfl]
  unfold Gt
  cases h : (F0 l t k).2.2.2 with
  | false => rfl
  | true =>
    obtain ⟨h1, _⟩ := vtok_ok hv h
    rw [cond_true, cond_true]
    unfold Yf
    rw [show Nat.ble (F0 l t k).2.1.length 281474976710656 = true by simp; omega]
    simp only [chk, Option.bind_some]
    rw [H0 _ (by omega) _ (by simp)]
    rfl
omit hv in
theorem Ez (n : Str) : (Gt l t k n).length ≤ 64 := by
  unfold Gt
  cases (F0 l t k).2.2.2 with
  | false => simp
  | true =>
    rw [cond_true]
    by_cases h : ∀ x ∈ [t, k, n], x.length ≤ 255
    · rw [Cx h]; omega
    · unfold Dr
      rw [if_neg (by simpa [List.all_eq_true] using h)]
      simp
omit hv in
theorem beq_sym (a b : Str) : (a == b) = (b == a) := by rw [Bool.eq_iff_iff, beq_iff_eq, beq_iff_eq]; exact eq_comm
theorem pVCheck (n p : Str) (hp : p.length ≤ 140737488355328) (now : Int) : Xx w g i e l M t k n p now = some (Gu l M t k n p now) := by
  unfold Xx Zx Gu
  rw [pVGood hv, Option.bind_some, pVWant hv, Option.bind_some]
  have hw := Ez (l := l) t k n
  cases Ey l M t k now with
  | false => rfl
  | true =>
    rw [show (!true) = false from rfl, cond_false, cond_true]
    cases h : (Gt l t k n == []) with
    | true => rfl
    | false =>
      rw [cond_false, cond_false, show Nat.ble (Gt l t k n).length 281474976710656 = true by simp; omega, show Nat.ble p.length 281474976710656 = true by simp; omega]
      simp only [chk, Option.bind_some]
      rw [lSame _ _ (by omega), Option.bind_some, beq_sym p]
      cases (Gt l t k n == p) <;> rfl
end
theorem pVNew (w g i e : Int) (l : List Qd) (hl : l.length ≤ 140737488355328) (hq : ∀ t ∈ l, TenQ t) : Jx w g i e l = some (cond (El w g i e l) (some (w, g, i, e, [])) none) := by
  unfold Jx
  rw [lCfg w g i e l hl hq, Option.bind_some]
  cases El w g i e l <;> rfl
theorem vc_of {w g i e : Int} {l : List Qd} (hk : El w g i e l = true) (hl : l.length ≤ 9000) (hq : ∀ t ∈ l, TenQ t) (hs : ∀ t ∈ l, TenS t) : VC l := by
  refine ⟨hl, hq, hs, ?_⟩
  unfold El at hk
  simp only [Bool.and_eq_true, List.all_eq_true] at hk
  exact hk.2.2.1
end Go.Proofs.YtmgfanhcdfobhaaGreatDoor
namespace Go.Proofs.YtmgfanhcdfobhaaGreatDoor
abbrev headV : List Qd := [(([97, 110, 110] : List UInt8), 0, 0, ([] : List (Int × Int)), ([(([107] : List UInt8), ([115] : List UInt8), 5)] : List ((List UInt8) × (List UInt8) × Int)))]
theorem headV_q : ∀ t ∈ headV, TenQ t := by
  intro t ht
  have : t = (([97, 110, 110] : List UInt8), 0, 0, ([] : List (Int × Int)), ([(([107] : List UInt8), ([115] : List UInt8), 5)] : List ((List UInt8) × (List UInt8) × Int))) := by simpa [headV] using ht
  subst this
  refine ⟨by decide, by decide, by decide, (fun n hn => by cases hn), fun x hx => ?_⟩
  have : x = (([107] : List UInt8), ([115] : List UInt8), 5) := by simpa using hx
  subst this
  decide
theorem headVNew : Jx 9 9 9 9 headV = some (some (9, 9, 9, 9, [])) := by
  rw [pVNew 9 9 9 9 headV (by decide) headV_q, show El 9 9 9 9 headV = true by kernel_rfl]
  rfl
theorem optE_s {α β : Type} (x : α) (a : Option β) (f : α → Option β) : optE (some x) a f = f x := rfl
end Go.Proofs.YtmgfanhcdfobhaaGreatDoor
namespace Go.Proofs.YtmgfanhcdfobhaaGreatDoor
def V7 (c : Int) (g : Nat) : Value := cond (c == 1) (.func (.func 57) #[pt g 0] #[]) (cond (c == 2) (.func (.func 75) #[pt g 0] #[]) .nilFunc)
def Bz (c : Int) : Bool := cond (c == 1) false (cond (c == 2) false true)
theorem stepV_1 {c : Int} {g : Nat} (h : (c == 1) = true) : V7 c g = .func (.func 57) #[pt g 0] #[] := by unfold V7; rw [h]; rfl
theorem stepV_2 {c : Int} {g : Nat} (h1 : (c == 1) = false) (h : (c == 2) = true) : V7 c g = .func (.func 75) #[pt g 0] #[] := by unfold V7; rw [h1, h]; rfl
end Go.Proofs.YtmgfanhcdfobhaaGreatDoor
namespace Go.Proofs.YtmgfanhcdfobhaaGreatDoor
open Go.RowKit
def Zt (q3 : Int) (q4 : Int) (q5 : Int) (q6 : Int) (q7 : (List Qd)) (f : Ur) (g : Int) (a : (List UInt8)) (b : (List UInt8)) (c : (List UInt8)) (d : Bool) (e : Int) : Option (Int × (List UInt8) × (List UInt8) × Int × Int × Int × (List UInt8) × (List UInt8) × (List UInt8) × Bool) :=
  (some (5, ([] : List UInt8), ([] : List UInt8), e, 0, 0, a, b, c, d))
set_option maxRecDepth 100000 in
set_option maxHeartbeats 4000000 in
theorem Yb {S : List Nat} (g1 : Nat) (g2 : Nat) (A8 : Option Addr) (c9 : Nat) (c : Nat) (q3 : Int) (q4 : Int) (q5 : Int) (q6 : Int) (f : (List Q9)) (h : Ur) (p : Int) (j : (List UInt8)) (l : (List UInt8)) (m : (List UInt8)) (o : Bool) (b : Int) (w0 : World) (hO : SP S w0 w0 [Qq g2 79 #[(.int .i64 q3), (.int .i64 q4), (.int .i64 q5), (.int .i64 q6), (.slice A8 (List.length (List.map stT f)) c9), (.map (some c))], Vp c h, Qq g1 95 #[(pt g2 0), (V7 p g1), (.string ⟨List.toArray j⟩), (.string ⟨List.toArray l⟩), (.string ⟨List.toArray m⟩), (.bool o)]]) (a2 : ∀ w, Mod S w0 w → (dDS J8 Bh).ok w (A8, c9, f)) (r : (Int × (List UInt8) × (List UInt8) × Int × Int × Int × (List UInt8) × (List UInt8) × (List UInt8) × Bool)) (H : Zt q3 q4 q5 q6 (List.map stT f) h p j l m o b = some r) :
  Calls Tryz.prog 74 #[(pt g1 0), (.int .i64 b)] w0 (fun e w' => e = .returned (.agg #[(.int .i64 r.1), (.string ⟨List.toArray r.2.1⟩), (.string ⟨List.toArray r.2.2.1⟩), (.int .i64 r.2.2.2.1), (.int .i64 r.2.2.2.2.1)]) ∧ SP S w0 w' [Qq g2 79 #[(.int .i64 q3), (.int .i64 q4), (.int .i64 q5), (.int .i64 q6), (.slice A8 (List.length (List.map stT f)) c9), (.map (some c))], Vp c h, Qq g1 95 #[(pt g2 0), (V7 r.2.2.2.2.2.1 g1), (.string ⟨List.toArray r.2.2.2.2.2.2.1⟩), (.string ⟨List.toArray r.2.2.2.2.2.2.2.1⟩), (.string ⟨List.toArray r.2.2.2.2.2.2.2.2.1⟩), (.bool r.2.2.2.2.2.2.2.2.2)]]) := by
 unfold Zt at H
 refine Qt (n := 10) Tryz.func74 K K K ?_
 have u := hO
 refine aQ ?_
 refine aR ?_
 refine iS 1 ?_
 refine Qk.alloc (t := 63) (z := (.agg #[(.int .i64 0), (.string ⟨List.toArray ([] : List UInt8)⟩), (.string ⟨List.toArray ([] : List UInt8)⟩), (.int .i64 0), (.int .i64 0)])) (d := (some 4)) (k := 0) K rfl K u ?_
 intro q a3 a0
 refine iF ?_
 refine aQ ?_
 refine aR ?_
 refine iR 3 3 [(5, (pt g1 0)), (6, (pt g1 0)), (7, (pt g1 1))] ?_
 refine iS 4 ?_
 refine Qk.store (t := 93) (x := (.tmp 7)) (y := (.const .nilFunc)) (g := g1) (off := 1) (i := 2) (v := .nilFunc) (cs' := #[(pt g2 0), .nilFunc, (.string ⟨List.toArray j⟩), (.string ⟨List.toArray l⟩), (.string ⟨List.toArray m⟩), (.bool o)]) (d := none) (k := 3) K rfl K K a0 rfl K ?_
 intro a4 a1
 refine iF ?_
 refine aQ ?_
 refine aR ?_
 refine iR 2 2 [(8, (.int .i64 b)), (9, (.agg #[(.int .i64 5), (.string ⟨List.toArray ([] : List UInt8)⟩), (.string ⟨List.toArray ([] : List UInt8)⟩), (.int .i64 b), (.int .i64 0)]))] ?_
 refine iS 3 ?_
 refine Qk.store (t := 63) (x := (.tmp 4)) (y := (.tmp 9)) (g := q) (off := 0) (i := 3) (v := (.agg #[(.int .i64 5), (.string ⟨List.toArray ([] : List UInt8)⟩), (.string ⟨List.toArray ([] : List UInt8)⟩), (.int .i64 b), (.int .i64 0)])) (cs' := #[(.int .i64 5), (.string ⟨List.toArray ([] : List UInt8)⟩), (.string ⟨List.toArray ([] : List UInt8)⟩), (.int .i64 b), (.int .i64 0)]) (d := none) (k := 2) K rfl K K a1 rfl K ?_
 intro a5 s
 refine iF ?_
 refine At.ret K ?_
 refine ⟨(.agg #[(.int .i64 5), (.string ⟨List.toArray ([] : List UInt8)⟩), (.string ⟨List.toArray ([] : List UInt8)⟩), (.int .i64 b), (.int .i64 0)]), G9 K (J1 (a := 4) (t := 63) (g := q) (off := 0) K (SP.get s (i := 3) rfl) K), ?_⟩
 obtain rfl := Qg H
 exact ⟨rfl, SP.sel s [0,1,2] rfl rfl⟩
def Yt (q3 : Int) (q4 : Int) (q5 : Int) (q6 : Int) (q7 : (List Qd)) (e : Ur) (f : Int) (g : (List UInt8)) (h : (List UInt8)) (i : (List UInt8)) (c : Bool) (j : Int) (k : (List UInt8)) (l : (List UInt8)) (m : Int) (n : Int) (o : Int) (b : (List UInt8)) : Option (Int × (List UInt8) × (List UInt8) × Int × Int × Int × (List UInt8) × (List UInt8) × (List UInt8) × Bool) :=
  (cond (j != 1) ((Zt q3 q4 q5 q6 q7 e f g h i c 1).bind fun a => (some (a.1, a.2.1, a.2.2.1, a.2.2.2.1, a.2.2.2.2.1, a.2.2.2.2.2.1, a.2.2.2.2.2.2.1, a.2.2.2.2.2.2.2.1, a.2.2.2.2.2.2.2.2.1, a.2.2.2.2.2.2.2.2.2))) ((sub b 0 (if 64 < ((List.length b : Nat) : Int) then 64 else ((List.length b : Nat) : Int))).bind fun d => (some (2, d, ([] : List UInt8), 0, 0, 2, k, l, d, c))))
set_option maxRecDepth 100000 in
set_option maxHeartbeats 4000000 in
theorem Np {S : List Nat} (g1 : Nat) (g2 : Nat) (A8 : Option Addr) (c9 : Nat) (q : Nat) (q3 : Int) (q4 : Int) (q5 : Int) (q6 : Int) (a0 : (List Q9)) (a4 : Ur) (a1 : Int) (b0 : (List UInt8)) (a8 : (List UInt8)) (a5 : (List UInt8)) (s : Bool) (u : Int) (h : (List UInt8)) (m : (List UInt8)) (a6 : Int) (a7 : Int) (b5 : Int) (c : (List UInt8)) (w0 : World) (hO : SP S w0 w0 [Qq g2 79 #[(.int .i64 q3), (.int .i64 q4), (.int .i64 q5), (.int .i64 q6), (.slice A8 (List.length (List.map stT a0)) c9), (.map (some q))], Vp q a4, Qq g1 95 #[(pt g2 0), (V7 a1 g1), (.string ⟨List.toArray b0⟩), (.string ⟨List.toArray a8⟩), (.string ⟨List.toArray a5⟩), (.bool s)]]) (c1 : ∀ w, Mod S w0 w → (dDS J8 Bh).ok w (A8, c9, a0)) (r : (Int × (List UInt8) × (List UInt8) × Int × Int × Int × (List UInt8) × (List UInt8) × (List UInt8) × Bool)) (H : Yt q3 q4 q5 q6 (List.map stT a0) a4 a1 b0 a8 a5 s u h m a6 a7 b5 c = some r) :
  Calls Tryz.prog 57 #[(pt g1 0), (.agg #[(.int .i64 u), (.string ⟨List.toArray h⟩), (.string ⟨List.toArray m⟩), (.int .i64 a6), (.int .i64 a7)]), (.int .i64 b5), (.string ⟨List.toArray c⟩)] w0 (fun e w' => e = .returned (.agg #[(.int .i64 r.1), (.string ⟨List.toArray r.2.1⟩), (.string ⟨List.toArray r.2.2.1⟩), (.int .i64 r.2.2.2.1), (.int .i64 r.2.2.2.2.1)]) ∧ SP S w0 w' [Qq g2 79 #[(.int .i64 q3), (.int .i64 q4), (.int .i64 q5), (.int .i64 q6), (.slice A8 (List.length (List.map stT a0)) c9), (.map (some q))], Vp q a4, Qq g1 95 #[(pt g2 0), (V7 r.2.2.2.2.2.1 g1), (.string ⟨List.toArray r.2.2.2.2.2.2.1⟩), (.string ⟨List.toArray r.2.2.2.2.2.2.2.1⟩), (.string ⟨List.toArray r.2.2.2.2.2.2.2.2.1⟩), (.bool r.2.2.2.2.2.2.2.2.2)]]) := by
 unfold Yt at H
 refine Qt (n := 42) Tryz.func57 K K K ?_
 have c2 := hO
 refine aQ ?_
 refine aR ?_
 refine iS 1 ?_
 refine Vq (t := 63) (x := (.tmp 1)) (v := (.agg #[(.int .i64 u), (.string ⟨List.toArray h⟩), (.string ⟨List.toArray m⟩), (.int .i64 a6), (.int .i64 a7)])) (d := (some 5)) (k := 0) K rfl K c2 ?_
 intro p e2 c3
 refine iS 2 ?_
 refine Qk.alloc (t := 63) (z := (.agg #[(.int .i64 0), (.string ⟨List.toArray ([] : List UInt8)⟩), (.string ⟨List.toArray ([] : List UInt8)⟩), (.int .i64 0), (.int .i64 0)])) (d := (some 8)) (k := 1) K rfl K c3 ?_
 intro a2 c4 a9
 refine iF ?_
 refine aQ ?_
 refine aQ ?_
 refine aR ?_
 refine iR 1 1 [(9, (pt p 0))] ?_
 refine iS 2 ?_
 refine sL 3 9 p 0 3 (.int .i64 u) 10 a9 rfl ?_
 refine iR 1 3 [(11, (.bool (u != 1)))] ?_
 refine iF ?_
 refine Zv K (o := (.tmp 11)) K (b := (u != 1)) K (fun b1 => ?_) (fun b1 => ?_)
 ·have H := ct H b1
  refine aQ ?_
  refine aR ?_
  refine iR 1 1 [(12, (pt g1 0))] ?_
  obtain ⟨f, c5, H⟩ := Qc H
  refine iS 2 ?_
  refine cF 74 #[(.tmp 12), (.const (.int .i64 (1)))] #[60, 38] 13 Tryz.call74 (Yb g1 g2 A8 c9 q q3 q4 q5 q6 a0 a4 a1 b0 a8 a5 s 1 c4 (Xy a9 [0, 1, 2] rfl rfl) (fun w hm => c1 w (SP.through a9 (l := [0, 1, 2]) rfl hm)) f c5) ?_
  rintro e c6 ⟨rfl, b6⟩
  refine ⟨_, rfl, ?_⟩
  have c7 : SP S w0 c6 [Qq p 63 #[(.int .i64 u), (.string ⟨List.toArray h⟩), (.string ⟨List.toArray m⟩), (.int .i64 a6), (.int .i64 a7)], Qq a2 63 #[(.int .i64 0), (.string ⟨List.toArray ([] : List UInt8)⟩), (.string ⟨List.toArray ([] : List UInt8)⟩), (.int .i64 0), (.int .i64 0)], Qq g2 79 #[(.int .i64 q3), (.int .i64 q4), (.int .i64 q5), (.int .i64 q6), (.slice A8 (List.length (List.map stT a0)) c9), (.map (some q))], Vp q a4, Qq g1 95 #[(pt g2 0), (V7 f.2.2.2.2.2.1 g1), (.string ⟨List.toArray f.2.2.2.2.2.2.1⟩), (.string ⟨List.toArray f.2.2.2.2.2.2.2.1⟩), (.string ⟨List.toArray f.2.2.2.2.2.2.2.2.1⟩), (.bool f.2.2.2.2.2.2.2.2.2)]] := Vy a9 [0, 1, 2] [3, 4] rfl rfl b6 rfl
  clear b6
  refine iS 3 ?_
  refine Qk.store (t := 63) (x := (.tmp 8)) (y := (.tmp 13)) (g := a2) (off := 0) (i := 1) (v := (.agg #[(.int .i64 f.1), (.string ⟨List.toArray f.2.1⟩), (.string ⟨List.toArray f.2.2.1⟩), (.int .i64 f.2.2.2.1), (.int .i64 f.2.2.2.2.1)])) (cs' := #[(.int .i64 f.1), (.string ⟨List.toArray f.2.1⟩), (.string ⟨List.toArray f.2.2.1⟩), (.int .i64 f.2.2.2.1), (.int .i64 f.2.2.2.2.1)]) (d := none) (k := 2) K rfl K K c7 rfl K ?_
  intro e3 b7
  refine iF ?_
  refine At.ret K ?_
  refine ⟨(.agg #[(.int .i64 f.1), (.string ⟨List.toArray f.2.1⟩), (.string ⟨List.toArray f.2.2.1⟩), (.int .i64 f.2.2.2.1), (.int .i64 f.2.2.2.2.1)]), G9 K (J1 (a := 8) (t := 63) (g := a2) (off := 0) K (SP.get b7 (i := 1) rfl) K), ?_⟩
  obtain rfl := Qg H
  exact ⟨rfl, SP.sel b7 [2,3,4] rfl rfl⟩
 ·have H := cf H b1
  refine At.skip K ?_
  refine aQ ?_
  obtain ⟨b2, b3, b4, H⟩ := Nt H
  obtain ⟨a3, hyl142⟩ : ∃ y, (List.drop (Int.toNat 0) (List.take (Int.toNat (if 64 < ((List.length c : Nat) : Int) then 64 else ((List.length c : Nat) : Int))) c)) = y := ⟨_, rfl⟩
  rw [hyl142] at H
  refine aG [GEq (pt g1 0), GEq (pt g1 0), GEq (pt g1 0), GEq (pt p 1), GEq (.string ⟨List.toArray h⟩), GEq (pt p 2), GEq (.string ⟨List.toArray m⟩), GEq (.string ⟨List.toArray c⟩), GEq (.string ⟨List.toArray c⟩), GEq (.int .i64 ((List.length c : Nat) : Int)), GEq (.int .i64 (if 64 < ((List.length c : Nat) : Int) then 64 else ((List.length c : Nat) : Int))), GEq (.string ⟨List.toArray a3⟩), GEq (pt g1 0), GEq (pt g1 2), Cy, GEq (pt g1 0), GEq (pt g1 3), Cy, GEq (pt g1 0), GEq (pt g1 4), Cy] [14, 17, 20] [sG [] [] S w0 [Qq g2 79 #[(.int .i64 q3), (.int .i64 q4), (.int .i64 q5), (.int .i64 q6), (.slice A8 (List.length (List.map stT a0)) c9), (.map (some q))], Vp q a4, Qq g1 95 #[(pt g2 0), (V7 a1 g1), (.string ⟨List.toArray b0⟩), (.string ⟨List.toArray a8⟩), (.string ⟨List.toArray a5⟩), (.bool s)], Qq p 63 #[(.int .i64 u), (.string ⟨List.toArray h⟩), (.string ⟨List.toArray m⟩), (.int .i64 a6), (.int .i64 a7)], Qq a2 63 #[(.int .i64 0), (.string ⟨List.toArray ([] : List UInt8)⟩), (.string ⟨List.toArray ([] : List UInt8)⟩), (.int .i64 0), (.int .i64 0)]], sG [14] [undef] S w0 [Qq g2 79 #[(.int .i64 q3), (.int .i64 q4), (.int .i64 q5), (.int .i64 q6), (.slice A8 (List.length (List.map stT a0)) c9), (.map (some q))], Vp q a4, Qq g1 95 #[(pt g2 0), (V7 a1 g1), (.string ⟨List.toArray h⟩), (.string ⟨List.toArray a8⟩), (.string ⟨List.toArray a5⟩), (.bool s)], Qq p 63 #[(.int .i64 u), (.string ⟨List.toArray h⟩), (.string ⟨List.toArray m⟩), (.int .i64 a6), (.int .i64 a7)], Qq a2 63 #[(.int .i64 0), (.string ⟨List.toArray ([] : List UInt8)⟩), (.string ⟨List.toArray ([] : List UInt8)⟩), (.int .i64 0), (.int .i64 0)]], sG [14, 17] [undef, undef] S w0 [Qq g2 79 #[(.int .i64 q3), (.int .i64 q4), (.int .i64 q5), (.int .i64 q6), (.slice A8 (List.length (List.map stT a0)) c9), (.map (some q))], Vp q a4, Qq g1 95 #[(pt g2 0), (V7 a1 g1), (.string ⟨List.toArray h⟩), (.string ⟨List.toArray m⟩), (.string ⟨List.toArray a5⟩), (.bool s)], Qq p 63 #[(.int .i64 u), (.string ⟨List.toArray h⟩), (.string ⟨List.toArray m⟩), (.int .i64 a6), (.int .i64 a7)], Qq a2 63 #[(.int .i64 0), (.string ⟨List.toArray ([] : List UInt8)⟩), (.string ⟨List.toArray ([] : List UInt8)⟩), (.int .i64 0), (.int .i64 0)]], sG [14, 17, 20] [undef, undef, undef] S w0 [Qq g2 79 #[(.int .i64 q3), (.int .i64 q4), (.int .i64 q5), (.int .i64 q6), (.slice A8 (List.length (List.map stT a0)) c9), (.map (some q))], Vp q a4, Qq g1 95 #[(pt g2 0), (V7 a1 g1), (.string ⟨List.toArray h⟩), (.string ⟨List.toArray m⟩), (.string ⟨List.toArray a3⟩), (.bool s)], Qq p 63 #[(.int .i64 u), (.string ⟨List.toArray h⟩), (.string ⟨List.toArray m⟩), (.int .i64 a6), (.int .i64 a7)], Qq a2 63 #[(.int .i64 0), (.string ⟨List.toArray ([] : List UInt8)⟩), (.string ⟨List.toArray ([] : List UInt8)⟩), (.int .i64 0), (.int .i64 0)]]] 21 3 ⟨trivial, SP.drew a9⟩ ?_ ?_
  iterate 21 refine And.intro ?_ ?_
  exact trivial
  ·exact oV (hC (hS 0 (pt g1 0)) (h0)) (pt g1 0)
  ·exact oV (hC (hS 0 (pt g1 0)) (h0)) (pt g1 0)
  ·exact oV (hC (hS 0 (pt g1 0)) (h0)) (pt g1 0)
  ·exact oV (hC (hS 5 (pt p 0)) (h0)) (pt p 1)
  ·refine oL 0 ?_
   ·rintro ρ' w' hs hah ⟨e4, c8⟩
    refine kM (kc (kA hah 3 17) k0) fun hkn => ?_
    refine sL 9 17 p 1 3 (.string ⟨List.toArray h⟩) 18 c8 rfl ?_
    exact eK hkn
  ·exact oV (hC (hS 5 (pt p 0)) (h0)) (pt p 2)
  ·refine Owe.light K [0, 1] K (Ql ?_ (Ql ?_ Vw))
   ·rintro ρ' w' hs hah ⟨e5, d0⟩
    refine kM (kc (kA hah 5 19) k0) fun hkn => ?_
    refine sL 9 19 p 2 3 (.string ⟨List.toArray m⟩) 20 d0 rfl ?_
    exact eK hkn
   ·rintro ρ' w' hs hah ⟨⟨e6, -⟩, d1⟩
    refine kM (kc (kA hah 5 19) k0) fun hkn => ?_
    refine sL 9 19 p 2 3 (.string ⟨List.toArray m⟩) 20 d1 rfl ?_
    exact eK hkn
  ·exact oV (hC (hS 3 (.string ⟨List.toArray c⟩)) (h0)) (.string ⟨List.toArray c⟩)
  ·exact oV (hC (hS 3 (.string ⟨List.toArray c⟩)) (h0)) (.string ⟨List.toArray c⟩)
  ·exact oV (hC (hA 8 22) (h0)) (.int .i64 ((List.length c : Nat) : Int))
  ·exact oV (hC (hA 9 23) (h0)) (.int .i64 (if 64 < ((List.length c : Nat) : Int) then 64 else ((List.length c : Nat) : Int)))
  ·refine Owe.light K [0, 1, 2] K (Ql ?_ (Ql ?_ (Ql ?_ Vw)))
   ·rintro ρ' w' hs hah ⟨e7, e8⟩
    refine kM (kc (kA hah 7 21) (kc (kA hah 10 24) k0)) fun hkn => ?_
    refine Nu (a := c) (T := 9) (x := (.tmp 21)) (lo := none) (hi := (some (.tmp 24))) (i := 0) (j := (if 64 < ((List.length c : Nat) : Int) then 64 else ((List.length c : Nat) : Int))) (d := (some 25)) (k := 11) K rfl K K rfl ⟨.i64, K⟩ b2 b3 b4 ?_
    rw [hyl142]
    exact eK hkn
   ·rintro ρ' w' hs hah ⟨⟨e9, -⟩, f0⟩
    refine kM (kc (kA hah 7 21) (kc (kA hah 10 24) k0)) fun hkn => ?_
    refine Nu (a := c) (T := 9) (x := (.tmp 21)) (lo := none) (hi := (some (.tmp 24))) (i := 0) (j := (if 64 < ((List.length c : Nat) : Int) then 64 else ((List.length c : Nat) : Int))) (d := (some 25)) (k := 11) K rfl K K rfl ⟨.i64, K⟩ b2 b3 b4 ?_
    rw [hyl142]
    exact eK hkn
   ·rintro ρ' w' hs hah ⟨⟨f1, f2, -⟩, f3⟩
    refine kM (kc (kA hah 7 21) (kc (kA hah 10 24) k0)) fun hkn => ?_
    refine Nu (a := c) (T := 9) (x := (.tmp 21)) (lo := none) (hi := (some (.tmp 24))) (i := 0) (j := (if 64 < ((List.length c : Nat) : Int) then 64 else ((List.length c : Nat) : Int))) (d := (some 25)) (k := 11) K rfl K K rfl ⟨.i64, K⟩ b2 b3 b4 ?_
    rw [hyl142]
    exact eK hkn
  ·exact oV (hC (hA 0 14) (h0)) (pt g1 0)
  ·exact oV (hC (hA 12 26) (h0)) (pt g1 2)
  ·refine oH 0 1 ?_
   ·rintro ρ' w' hs hah ⟨f4, d2⟩
    refine kM (kc (kA hah 13 27) (kc (kA hah 4 18) k0)) fun hkn => ?_
    refine Qk.store (t := 9) (x := (.tmp 27)) (y := (.tmp 18)) (g := g1) (off := 2) (i := 2) (v := (.string ⟨List.toArray h⟩)) (cs' := #[(pt g2 0), (V7 a1 g1), (.string ⟨List.toArray h⟩), (.string ⟨List.toArray a8⟩), (.string ⟨List.toArray a5⟩), (.bool s)]) (d := none) (k := 14) K rfl K K d2 rfl K ?_
    intro f5 d3
    refine ⟨_, Qb hkn, trivial, ?_⟩
    exact (And.intro (And.intro rfl (trivial)) (d3))
  ·exact oV (hC (hA 1 15) (h0)) (pt g1 0)
  ·exact oV (hC (hA 15 28) (h0)) (pt g1 3)
  ·refine oH 1 2 ?_
   ·rintro ρ' w' hs hah ⟨⟨d4, -⟩, d5⟩
    refine kM (kc (kA hah 16 29) (kc (kA hah 6 20) k0)) fun hkn => ?_
    refine Qk.store (t := 9) (x := (.tmp 29)) (y := (.tmp 20)) (g := g1) (off := 3) (i := 2) (v := (.string ⟨List.toArray m⟩)) (cs' := #[(pt g2 0), (V7 a1 g1), (.string ⟨List.toArray h⟩), (.string ⟨List.toArray m⟩), (.string ⟨List.toArray a5⟩), (.bool s)]) (d := none) (k := 17) K rfl K K d5 rfl K ?_
    intro f6 d6
    refine ⟨_, Qb hkn, trivial, ?_⟩
    exact (And.intro (And.intro d4 (And.intro rfl (trivial))) (d6))
  ·exact oV (hC (hA 2 16) (h0)) (pt g1 0)
  ·exact oV (hC (hA 18 30) (h0)) (pt g1 4)
  ·refine oH 2 3 ?_
   ·rintro ρ' w' hs hah ⟨⟨d7, d8, -⟩, d9⟩
    refine kM (kc (kA hah 19 31) (kc (kA hah 11 25) k0)) fun hkn => ?_
    refine Qk.store (t := 9) (x := (.tmp 31)) (y := (.tmp 25)) (g := g1) (off := 4) (i := 2) (v := (.string ⟨List.toArray a3⟩)) (cs' := #[(pt g2 0), (V7 a1 g1), (.string ⟨List.toArray h⟩), (.string ⟨List.toArray m⟩), (.string ⟨List.toArray a3⟩), (.bool s)]) (d := none) (k := 20) K rfl K K d9 rfl K ?_
    intro f7 e0
    refine ⟨_, Qb hkn, trivial, ?_⟩
    exact (And.intro (And.intro d7 (And.intro d8 (And.intro rfl (trivial)))) (e0))
  ·rintro ρ' w' hs hf ⟨⟨f8, f9, g0, -⟩, b8⟩
   refine Vu [(0, (pt g1 0)), (8, (pt a2 0))] ⟨(hs 0 K).trans K, (hs 8 K).trans K, trivial⟩ ?_
   obtain ⟨g3, e1⟩ : ∃ x, w' = x := ⟨_, rfl⟩
   rw [e1] at b8 ⊢
   refine aQ ?_
   refine aR ?_
   refine iR 5 5 [(32, (pt g1 0)), (33, (pt g1 0)), (34, (.func (.func 75) #[(pt g1 0)] #[])), (35, (pt g1 0)), (36, (pt g1 1))] ?_
   refine iS 6 ?_
   refine Qk.store (t := 93) (x := (.tmp 36)) (y := (.tmp 34)) (g := g1) (off := 1) (i := 2) (v := (.func (.func 75) #[(pt g1 0)] #[])) (cs' := #[(pt g2 0), (.func (.func 75) #[(pt g1 0)] #[]), (.string ⟨List.toArray h⟩), (.string ⟨List.toArray m⟩), (.string ⟨List.toArray a3⟩), (.bool s)]) (d := none) (k := 5) K rfl K K b8 rfl K ?_
   intro g4 b9
   refine iF ?_
   refine aQ ?_
   refine aR ?_
   refine iR 3 3 [(37, (pt g1 0)), (38, (pt g1 0)), (39, (pt g1 4))] ?_
   refine iS 4 ?_
   refine sL 9 39 g1 4 2 (.string ⟨List.toArray a3⟩) 40 b9 rfl ?_
   refine iR 1 5 [(41, (.agg #[(.int .i64 2), (.string ⟨List.toArray a3⟩), (.string ⟨List.toArray ([] : List UInt8)⟩), (.int .i64 0), (.int .i64 0)]))] ?_
   refine iS 6 ?_
   refine Qk.store (t := 63) (x := (.tmp 8)) (y := (.tmp 41)) (g := a2) (off := 0) (i := 4) (v := (.agg #[(.int .i64 2), (.string ⟨List.toArray a3⟩), (.string ⟨List.toArray ([] : List UInt8)⟩), (.int .i64 0), (.int .i64 0)])) (cs' := #[(.int .i64 2), (.string ⟨List.toArray a3⟩), (.string ⟨List.toArray ([] : List UInt8)⟩), (.int .i64 0), (.int .i64 0)]) (d := none) (k := 5) K rfl K K b9 rfl K ?_
   intro g5 c0
   refine iF ?_
   refine At.ret K ?_
   refine ⟨(.agg #[(.int .i64 2), (.string ⟨List.toArray a3⟩), (.string ⟨List.toArray ([] : List UInt8)⟩), (.int .i64 0), (.int .i64 0)]), G9 K (J1 (a := 8) (t := 63) (g := a2) (off := 0) K (SP.get c0 (i := 4) rfl) K), ?_⟩
   obtain rfl := Qg H
   exact ⟨rfl, SP.sel c0 [0,1,2] rfl rfl⟩
def Yu (q3 : Int) (q4 : Int) (q5 : Int) (q6 : Int) (q7 : (List Qd)) (f : Ur) (g : Int) (c : (List UInt8)) (d : (List UInt8)) (e : (List UInt8)) (h : Bool) (j : Int) (k : (List UInt8)) (m : (List UInt8)) (n : Int) (o : Int) (l : Int) (p : (List UInt8)) : Option (Int × (List UInt8) × (List UInt8) × Int × Int × Int × (List UInt8) × (List UInt8) × (List UInt8) × Bool) :=
  (cond (j != 3) ((Zt q3 q4 q5 q6 q7 f g c d e h 1).bind fun a => (some (a.1, a.2.1, a.2.2.1, a.2.2.2.1, a.2.2.2.2.1, a.2.2.2.2.2.1, a.2.2.2.2.2.2.1, a.2.2.2.2.2.2.2.1, a.2.2.2.2.2.2.2.2.1, a.2.2.2.2.2.2.2.2.2))) ((Xx q3 q4 q5 q6 q7 f c d e k l).bind fun i => (cond (i != 0) ((Zt q3 q4 q5 q6 q7 f g c d e h i).bind fun b => (some (b.1, b.2.1, b.2.2.1, b.2.2.2.1, b.2.2.2.2.1, b.2.2.2.2.2.1, b.2.2.2.2.2.2.1, b.2.2.2.2.2.2.2.1, b.2.2.2.2.2.2.2.2.1, b.2.2.2.2.2.2.2.2.2))) (some (4, ([] : List UInt8), ([] : List UInt8), 0, 0, 0, c, d, e, true)))))
set_option maxRecDepth 100000 in
set_option maxHeartbeats 4000000 in
theorem Nq {S : List Nat} (g1 : Nat) (g2 : Nat) (A8 : Option Addr) (c9 : Nat) (h : Nat) (q3 : Int) (q4 : Int) (q5 : Int) (q6 : Int) (j : (List Q9)) (u : Ur) (a8 : Int) (m : (List UInt8)) (p : (List UInt8)) (q : (List UInt8)) (a4 : Bool) (a0 : Int) (a1 : (List UInt8)) (a5 : (List UInt8)) (a6 : Int) (a7 : Int) (a9 : Int) (b6 : (List UInt8)) (w0 : World) (hO : SP S w0 w0 [Qq g2 79 #[(.int .i64 q3), (.int .i64 q4), (.int .i64 q5), (.int .i64 q6), (.slice A8 (List.length (List.map stT j)) c9), (.map (some h))], Vp h u, Qq g1 95 #[(pt g2 0), (V7 a8 g1), (.string ⟨List.toArray m⟩), (.string ⟨List.toArray p⟩), (.string ⟨List.toArray q⟩), (.bool a4)]]) (b2 : ∀ w, Mod S w0 w → (dDS J8 Bh).ok w (A8, c9, j)) (r : (Int × (List UInt8) × (List UInt8) × Int × Int × Int × (List UInt8) × (List UInt8) × (List UInt8) × Bool)) (H : Yu q3 q4 q5 q6 (List.map stT j) u a8 m p q a4 a0 a1 a5 a6 a7 a9 b6 = some r) :
  Calls Tryz.prog 75 #[(pt g1 0), (.agg #[(.int .i64 a0), (.string ⟨List.toArray a1⟩), (.string ⟨List.toArray a5⟩), (.int .i64 a6), (.int .i64 a7)]), (.int .i64 a9), (.string ⟨List.toArray b6⟩)] w0 (fun e w' => e = .returned (.agg #[(.int .i64 r.1), (.string ⟨List.toArray r.2.1⟩), (.string ⟨List.toArray r.2.2.1⟩), (.int .i64 r.2.2.2.1), (.int .i64 r.2.2.2.2.1)]) ∧ SP S w0 w' [Qq g2 79 #[(.int .i64 q3), (.int .i64 q4), (.int .i64 q5), (.int .i64 q6), (.slice A8 (List.length (List.map stT j)) c9), (.map (some h))], Vp h u, Qq g1 95 #[(pt g2 0), (V7 r.2.2.2.2.2.1 g1), (.string ⟨List.toArray r.2.2.2.2.2.2.1⟩), (.string ⟨List.toArray r.2.2.2.2.2.2.2.1⟩), (.string ⟨List.toArray r.2.2.2.2.2.2.2.2.1⟩), (.bool r.2.2.2.2.2.2.2.2.2)]]) := by
 unfold Yu at H
 refine Qt (n := 47) Tryz.func75 K K K ?_
 have c3 := hO
 refine aQ ?_
 refine aR ?_
 refine iS 1 ?_
 refine Vq (t := 63) (x := (.tmp 1)) (v := (.agg #[(.int .i64 a0), (.string ⟨List.toArray a1⟩), (.string ⟨List.toArray a5⟩), (.int .i64 a6), (.int .i64 a7)])) (d := (some 5)) (k := 0) K rfl K c3 ?_
 intro a2 e5 c4
 refine iS 2 ?_
 refine Qk.alloc (t := 63) (z := (.agg #[(.int .i64 0), (.string ⟨List.toArray ([] : List UInt8)⟩), (.string ⟨List.toArray ([] : List UInt8)⟩), (.int .i64 0), (.int .i64 0)])) (d := (some 8)) (k := 1) K rfl K c4 ?_
 intro s c5 b0
 refine iF ?_
 refine aQ ?_
 refine aQ ?_
 refine aR ?_
 refine iR 1 1 [(10, (pt a2 0))] ?_
 refine iS 2 ?_
 refine sL 3 10 a2 0 3 (.int .i64 a0) 11 b0 rfl ?_
 refine iR 1 3 [(12, (.bool (a0 != 3)))] ?_
 refine iF ?_
 refine Zv K (o := (.tmp 12)) K (b := (a0 != 3)) K (fun b3 => ?_) (fun b3 => ?_)
 ·have H := ct H b3
  refine aQ ?_
  refine aR ?_
  refine iR 1 1 [(13, (pt g1 0))] ?_
  obtain ⟨c, c6, H⟩ := Qc H
  refine iS 2 ?_
  refine cF 74 #[(.tmp 13), (.const (.int .i64 (1)))] #[60, 38] 14 Tryz.call74 (Yb g1 g2 A8 c9 h q3 q4 q5 q6 j u a8 m p q a4 1 c5 (Xy b0 [0, 1, 2] rfl rfl) (fun w hm => b2 w (SP.through b0 (l := [0, 1, 2]) rfl hm)) c c6) ?_
  rintro e c7 ⟨rfl, b7⟩
  refine ⟨_, rfl, ?_⟩
  have c8 : SP S w0 c7 [Qq a2 63 #[(.int .i64 a0), (.string ⟨List.toArray a1⟩), (.string ⟨List.toArray a5⟩), (.int .i64 a6), (.int .i64 a7)], Qq s 63 #[(.int .i64 0), (.string ⟨List.toArray ([] : List UInt8)⟩), (.string ⟨List.toArray ([] : List UInt8)⟩), (.int .i64 0), (.int .i64 0)], Qq g2 79 #[(.int .i64 q3), (.int .i64 q4), (.int .i64 q5), (.int .i64 q6), (.slice A8 (List.length (List.map stT j)) c9), (.map (some h))], Vp h u, Qq g1 95 #[(pt g2 0), (V7 c.2.2.2.2.2.1 g1), (.string ⟨List.toArray c.2.2.2.2.2.2.1⟩), (.string ⟨List.toArray c.2.2.2.2.2.2.2.1⟩), (.string ⟨List.toArray c.2.2.2.2.2.2.2.2.1⟩), (.bool c.2.2.2.2.2.2.2.2.2)]] := Vy b0 [0, 1, 2] [3, 4] rfl rfl b7 rfl
  clear b7
  refine iS 3 ?_
  refine Qk.store (t := 63) (x := (.tmp 8)) (y := (.tmp 14)) (g := s) (off := 0) (i := 1) (v := (.agg #[(.int .i64 c.1), (.string ⟨List.toArray c.2.1⟩), (.string ⟨List.toArray c.2.2.1⟩), (.int .i64 c.2.2.2.1), (.int .i64 c.2.2.2.2.1)])) (cs' := #[(.int .i64 c.1), (.string ⟨List.toArray c.2.1⟩), (.string ⟨List.toArray c.2.2.1⟩), (.int .i64 c.2.2.2.1), (.int .i64 c.2.2.2.2.1)]) (d := none) (k := 2) K rfl K K c8 rfl K ?_
  intro e6 b8
  refine iF ?_
  refine At.ret K ?_
  refine ⟨(.agg #[(.int .i64 c.1), (.string ⟨List.toArray c.2.1⟩), (.string ⟨List.toArray c.2.2.1⟩), (.int .i64 c.2.2.2.1), (.int .i64 c.2.2.2.2.1)]), G9 K (J1 (a := 8) (t := 63) (g := s) (off := 0) K (SP.get b8 (i := 1) rfl) K), ?_⟩
  obtain rfl := Qg H
  exact ⟨rfl, SP.sel b8 [2,3,4] rfl rfl⟩
 ·have H := cf H b3
  refine At.skip K ?_
  refine aQ ?_
  refine aQ ?_
  obtain ⟨a3, d0, H⟩ := Qc H
  refine aG [GEq (pt g1 0), GEq (pt g1 0), GEq (pt g1 0), GEq (pt g2 0), GEq (pt g1 0), GEq (pt g1 0), GEq (pt g1 2), GEq (.string ⟨List.toArray m⟩), GEq (pt g1 0), GEq (pt g1 0), GEq (pt g1 3), GEq (.string ⟨List.toArray p⟩), GEq (pt g1 0), GEq (pt g1 0), GEq (pt g1 4), GEq (.string ⟨List.toArray q⟩), GEq (pt a2 1), GEq (.string ⟨List.toArray a1⟩), GEq (.int .i64 a9), GEq (.int .i64 a3), GEq (.int .i64 a3)] [19] [sG [] [] S w0 [Qq g2 79 #[(.int .i64 q3), (.int .i64 q4), (.int .i64 q5), (.int .i64 q6), (.slice A8 (List.length (List.map stT j)) c9), (.map (some h))], Vp h u, Qq g1 95 #[(pt g2 0), (V7 a8 g1), (.string ⟨List.toArray m⟩), (.string ⟨List.toArray p⟩), (.string ⟨List.toArray q⟩), (.bool a4)], Qq a2 63 #[(.int .i64 a0), (.string ⟨List.toArray a1⟩), (.string ⟨List.toArray a5⟩), (.int .i64 a6), (.int .i64 a7)], Qq s 63 #[(.int .i64 0), (.string ⟨List.toArray ([] : List UInt8)⟩), (.string ⟨List.toArray ([] : List UInt8)⟩), (.int .i64 0), (.int .i64 0)]], sG [19] [(.int .i64 a3)] S w0 [Qq g1 95 #[(pt g2 0), (V7 a8 g1), (.string ⟨List.toArray m⟩), (.string ⟨List.toArray p⟩), (.string ⟨List.toArray q⟩), (.bool a4)], Qq a2 63 #[(.int .i64 a0), (.string ⟨List.toArray a1⟩), (.string ⟨List.toArray a5⟩), (.int .i64 a6), (.int .i64 a7)], Qq s 63 #[(.int .i64 0), (.string ⟨List.toArray ([] : List UInt8)⟩), (.string ⟨List.toArray ([] : List UInt8)⟩), (.int .i64 0), (.int .i64 0)], Qq g2 79 #[(.int .i64 q3), (.int .i64 q4), (.int .i64 q5), (.int .i64 q6), (.slice A8 (List.length (List.map stT j)) c9), (.map (some h))], Vp h u]] 21 1 ⟨trivial, SP.drew b0⟩ ?_ ?_
  iterate 21 refine And.intro ?_ ?_
  exact trivial
  ·exact oV (hC (hS 0 (pt g1 0)) (h0)) (pt g1 0)
  ·exact oV (hC (hA 0 15) (h0)) (pt g1 0)
  ·exact oV (hC (hA 1 16) (h0)) (pt g1 0)
  ·refine oL 0 ?_
   ·rintro ρ' w' hs hah ⟨e7, d1⟩
    refine kM (kc (kA hah 2 17) k0) fun hkn => ?_
    refine sL 29 17 g1 0 2 (pt g2 0) 18 d1 rfl ?_
    exact eK hkn
  ·exact oV (hC (hS 0 (pt g1 0)) (h0)) (pt g1 0)
  ·exact oV (hC (hA 4 19) (h0)) (pt g1 0)
  ·exact oV (hC (hA 5 20) (h0)) (pt g1 2)
  ·refine oL 0 ?_
   ·rintro ρ' w' hs hah ⟨e8, d2⟩
    refine kM (kc (kA hah 6 21) k0) fun hkn => ?_
    refine sL 9 21 g1 2 2 (.string ⟨List.toArray m⟩) 22 d2 rfl ?_
    exact eK hkn
  ·exact oV (hC (hS 0 (pt g1 0)) (h0)) (pt g1 0)
  ·exact oV (hC (hA 8 23) (h0)) (pt g1 0)
  ·exact oV (hC (hA 9 24) (h0)) (pt g1 3)
  ·refine oL 0 ?_
   ·rintro ρ' w' hs hah ⟨e9, d3⟩
    refine kM (kc (kA hah 10 25) k0) fun hkn => ?_
    refine sL 9 25 g1 3 2 (.string ⟨List.toArray p⟩) 26 d3 rfl ?_
    exact eK hkn
  ·exact oV (hC (hS 0 (pt g1 0)) (h0)) (pt g1 0)
  ·exact oV (hC (hA 12 27) (h0)) (pt g1 0)
  ·exact oV (hC (hA 13 28) (h0)) (pt g1 4)
  ·refine oL 0 ?_
   ·rintro ρ' w' hs hah ⟨f0, d4⟩
    refine kM (kc (kA hah 14 29) k0) fun hkn => ?_
    refine sL 9 29 g1 4 2 (.string ⟨List.toArray q⟩) 30 d4 rfl ?_
    exact eK hkn
  ·exact oV (hC (hS 5 (pt a2 0)) (h0)) (pt a2 1)
  ·refine oL 0 ?_
   ·rintro ρ' w' hs hah ⟨f1, d5⟩
    refine kM (kc (kA hah 16 31) k0) fun hkn => ?_
    refine sL 9 31 a2 1 3 (.string ⟨List.toArray a1⟩) 32 d5 rfl ?_
    exact eK hkn
  ·exact oV (hC (hS 2 (.int .i64 a9)) (h0)) (.int .i64 a9)
  ·refine oH 0 1 ?_
   ·rintro ρ' w' hs hah ⟨f2, b4⟩
    refine kM (kc (kA hah 3 18) (kc (kA hah 7 22) (kc (kA hah 11 26) (kc (kA hah 15 30) (kc (kA hah 17 32) (kc (kA hah 18 33) k0)))))) fun hkn => ?_
    refine cF 26 #[(.tmp 18), (.tmp 22), (.tmp 26), (.tmp 30), (.tmp 32), (.tmp 33)] #[29, 9, 9, 9, 9, 2] 34 Tryz.call26 (No g2 A8 c9 h q3 q4 q5 q6 j u m p q a1 a9 w' (Xy b4 [0, 1] rfl rfl) (fun w hm => b2 w (SP.through b4 (l := [0, 1]) rfl hm)) a3 d0) ?_
    rintro e d6 ⟨rfl, b9⟩
    refine ⟨_, rfl, ?_⟩
    have d7 : SP S w0 d6 [Qq g1 95 #[(pt g2 0), (V7 a8 g1), (.string ⟨List.toArray m⟩), (.string ⟨List.toArray p⟩), (.string ⟨List.toArray q⟩), (.bool a4)], Qq a2 63 #[(.int .i64 a0), (.string ⟨List.toArray a1⟩), (.string ⟨List.toArray a5⟩), (.int .i64 a6), (.int .i64 a7)], Qq s 63 #[(.int .i64 0), (.string ⟨List.toArray ([] : List UInt8)⟩), (.string ⟨List.toArray ([] : List UInt8)⟩), (.int .i64 0), (.int .i64 0)], Qq g2 79 #[(.int .i64 q3), (.int .i64 q4), (.int .i64 q5), (.int .i64 q6), (.slice A8 (List.length (List.map stT j)) c9), (.map (some h))], Vp h u] := Vy b4 [0, 1] [2, 3, 4] rfl rfl b9 rfl
    clear b9
    refine ⟨_, Qb hkn, rfl, ?_⟩
    exact (And.intro (And.intro rfl (trivial)) (d7))
  ·exact oV (hC (hA 19 34) (h0)) (.int .i64 a3)
  ·rintro ρ' w' hs hf ⟨⟨f3, -⟩, b1⟩
   refine Vu [(0, (pt g1 0)), (8, (pt s 0)), (9, (.int .i64 a3))] ⟨(hs 0 K).trans K, (hs 8 K).trans K, hf 20 9 K, trivial⟩ ?_
   obtain ⟨d8, d9⟩ : ∃ x, w' = x := ⟨_, rfl⟩
   rw [d9] at b1 ⊢
   refine aQ ?_
   refine aR ?_
   refine iR 2 2 [(35, (.int .i64 a3)), (36, (.bool (a3 != 0)))] ?_
   refine iF ?_
   refine Zv K (o := (.tmp 36)) K (b := (a3 != 0)) K (fun b5 => ?_) (fun b5 => ?_)
   ·have H := ct H b5
    refine aQ ?_
    refine aR ?_
    refine iR 2 2 [(37, (pt g1 0)), (38, (.int .i64 a3))] ?_
    obtain ⟨f, e0, H⟩ := Qc H
    refine iS 3 ?_
    refine cF 74 #[(.tmp 37), (.tmp 38)] #[60, 38] 39 Tryz.call74 (Yb g1 g2 A8 c9 h q3 q4 q5 q6 j u a8 m p q a4 a3 d8 (Xy b1 [3, 4, 0] rfl rfl) (fun w hm => b2 w (SP.through b1 (l := [3, 4, 0]) rfl hm)) f e0) ?_
    rintro e e1 ⟨rfl, c0⟩
    refine ⟨_, rfl, ?_⟩
    have e2 : SP S w0 e1 [Qq a2 63 #[(.int .i64 a0), (.string ⟨List.toArray a1⟩), (.string ⟨List.toArray a5⟩), (.int .i64 a6), (.int .i64 a7)], Qq s 63 #[(.int .i64 0), (.string ⟨List.toArray ([] : List UInt8)⟩), (.string ⟨List.toArray ([] : List UInt8)⟩), (.int .i64 0), (.int .i64 0)], Qq g2 79 #[(.int .i64 q3), (.int .i64 q4), (.int .i64 q5), (.int .i64 q6), (.slice A8 (List.length (List.map stT j)) c9), (.map (some h))], Vp h u, Qq g1 95 #[(pt g2 0), (V7 f.2.2.2.2.2.1 g1), (.string ⟨List.toArray f.2.2.2.2.2.2.1⟩), (.string ⟨List.toArray f.2.2.2.2.2.2.2.1⟩), (.string ⟨List.toArray f.2.2.2.2.2.2.2.2.1⟩), (.bool f.2.2.2.2.2.2.2.2.2)]] := Vy b1 [3, 4, 0] [1, 2] rfl rfl c0 rfl
    clear c0
    refine iS 4 ?_
    refine Qk.store (t := 63) (x := (.tmp 8)) (y := (.tmp 39)) (g := s) (off := 0) (i := 1) (v := (.agg #[(.int .i64 f.1), (.string ⟨List.toArray f.2.1⟩), (.string ⟨List.toArray f.2.2.1⟩), (.int .i64 f.2.2.2.1), (.int .i64 f.2.2.2.2.1)])) (cs' := #[(.int .i64 f.1), (.string ⟨List.toArray f.2.1⟩), (.string ⟨List.toArray f.2.2.1⟩), (.int .i64 f.2.2.2.1), (.int .i64 f.2.2.2.2.1)]) (d := none) (k := 3) K rfl K K e2 rfl K ?_
    intro f4 c1
    refine iF ?_
    refine At.ret K ?_
    refine ⟨(.agg #[(.int .i64 f.1), (.string ⟨List.toArray f.2.1⟩), (.string ⟨List.toArray f.2.2.1⟩), (.int .i64 f.2.2.2.1), (.int .i64 f.2.2.2.2.1)]), G9 K (J1 (a := 8) (t := 63) (g := s) (off := 0) K (SP.get c1 (i := 1) rfl) K), ?_⟩
    obtain rfl := Qg H
    exact ⟨rfl, SP.sel c1 [2,3,4] rfl rfl⟩
   ·have H := cf H b5
    refine At.skip K ?_
    refine aQ ?_
    refine aR ?_
    refine iR 4 4 [(40, (pt g1 0)), (41, (pt g1 0)), (42, (pt g1 0)), (43, (pt g1 1))] ?_
    refine iS 5 ?_
    refine Qk.store (t := 93) (x := (.tmp 43)) (y := (.const .nilFunc)) (g := g1) (off := 1) (i := 0) (v := .nilFunc) (cs' := #[(pt g2 0), .nilFunc, (.string ⟨List.toArray m⟩), (.string ⟨List.toArray p⟩), (.string ⟨List.toArray q⟩), (.bool a4)]) (d := none) (k := 4) K rfl K K b1 rfl K ?_
    intro f5 e3
    refine iR 2 7 [(44, (pt g1 0)), (45, (pt g1 5))] ?_
    refine iS 8 ?_
    refine Qk.store (t := 4) (x := (.tmp 45)) (y := (.const (.bool true))) (g := g1) (off := 5) (i := 0) (v := (.bool true)) (cs' := #[(pt g2 0), .nilFunc, (.string ⟨List.toArray m⟩), (.string ⟨List.toArray p⟩), (.string ⟨List.toArray q⟩), (.bool true)]) (d := none) (k := 7) K rfl K K e3 rfl K ?_
    intro f6 e4
    refine iF ?_
    refine aQ ?_
    refine aR ?_
    refine iR 1 1 [(46, (.agg #[(.int .i64 4), (.string ⟨List.toArray ([] : List UInt8)⟩), (.string ⟨List.toArray ([] : List UInt8)⟩), (.int .i64 0), (.int .i64 0)]))] ?_
    refine iS 2 ?_
    refine Qk.store (t := 63) (x := (.tmp 8)) (y := (.tmp 46)) (g := s) (off := 0) (i := 2) (v := (.agg #[(.int .i64 4), (.string ⟨List.toArray ([] : List UInt8)⟩), (.string ⟨List.toArray ([] : List UInt8)⟩), (.int .i64 0), (.int .i64 0)])) (cs' := #[(.int .i64 4), (.string ⟨List.toArray ([] : List UInt8)⟩), (.string ⟨List.toArray ([] : List UInt8)⟩), (.int .i64 0), (.int .i64 0)]) (d := none) (k := 1) K rfl K K e4 rfl K ?_
    intro f7 c2
    refine iF ?_
    refine At.ret K ?_
    refine ⟨(.agg #[(.int .i64 4), (.string ⟨List.toArray ([] : List UInt8)⟩), (.string ⟨List.toArray ([] : List UInt8)⟩), (.int .i64 0), (.int .i64 0)]), G9 K (J1 (a := 8) (t := 63) (g := s) (off := 0) K (SP.get c2 (i := 2) rfl) K), ?_⟩
    obtain rfl := Qg H
    exact ⟨rfl, SP.sel c2 [3,4,0] rfl rfl⟩
def Uh (q2 : Int) (q3 : Int) (q4 : Int) (q5 : Int) (q6 : (List Qd)) (a : Ur) : Option (Int × (List UInt8) × (List UInt8) × (List UInt8) × Bool) :=
  (some (1, ([] : List UInt8), ([] : List UInt8), ([] : List UInt8), false))
set_option maxRecDepth 100000 in
set_option maxHeartbeats 4000000 in
theorem Ut {S : List Nat} (g1 : Nat) (A7 : Option Addr) (c8 : Nat) (b : Nat) (q2 : Int) (q3 : Int) (q4 : Int) (q5 : Int) (c : (List Q9)) (f : Ur) (w0 : World) (hO : SP S w0 w0 [Qq g1 79 #[(.int .i64 q2), (.int .i64 q3), (.int .i64 q4), (.int .i64 q5), (.slice A7 (List.length (List.map stT c)) c8), (.map (some b))], Vp b f]) (o : ∀ w, Mod S w0 w → (dDS J8 Bh).ok w (A7, c8, c)) (r : (Int × (List UInt8) × (List UInt8) × (List UInt8) × Bool)) (H : Uh q2 q3 q4 q5 (List.map stT c) f = some r) :
  Calls Tryz.prog 33 #[(pt g1 0)] w0 (fun e w' => ∃ (h : Nat), e = .returned (pt h 0) ∧ SP S w0 w' [Qq h 95 #[(pt g1 0), (V7 r.1 h), (.string ⟨List.toArray r.2.1⟩), (.string ⟨List.toArray r.2.2.1⟩), (.string ⟨List.toArray r.2.2.2.1⟩), (.bool r.2.2.2.2)], Qq g1 79 #[(.int .i64 q2), (.int .i64 q3), (.int .i64 q4), (.int .i64 q5), (.slice A7 (List.length (List.map stT c)) c8), (.map (some b))], Vp b f]) := by
 unfold Uh at H
 refine Qt (n := 13) Tryz.func33 K K K ?_
 have j := hO
 refine aQ ?_
 refine aR ?_
 refine iR 1 1 [(2, (.pointer none))] ?_
 refine iF ?_
 refine aQ ?_
 refine aR ?_
 refine iR 2 2 [(4, (pt g1 0)), (5, (.agg #[(pt g1 0), .nilFunc, (.string ⟨List.toArray ([] : List UInt8)⟩), (.string ⟨List.toArray ([] : List UInt8)⟩), (.string ⟨List.toArray ([] : List UInt8)⟩), (.bool false)]))] ?_
 refine iS 3 ?_
 refine Vq (t := 95) (x := (.tmp 5)) (v := (.agg #[(pt g1 0), .nilFunc, (.string ⟨List.toArray ([] : List UInt8)⟩), (.string ⟨List.toArray ([] : List UInt8)⟩), (.string ⟨List.toArray ([] : List UInt8)⟩), (.bool false)])) (d := (some 6)) (k := 2) K rfl K j ?_
 intro a p l
 refine iR 1 4 [(3, (pt a 0))] ?_
 refine iF ?_
 refine aQ ?_
 refine aR ?_
 refine iR 5 5 [(7, (pt a 0)), (8, (pt a 0)), (9, (.func (.func 57) #[(pt a 0)] #[])), (10, (pt a 0)), (11, (pt a 1))] ?_
 refine iS 6 ?_
 refine Qk.store (t := 93) (x := (.tmp 11)) (y := (.tmp 9)) (g := a) (off := 1) (i := 2) (v := (.func (.func 57) #[(pt a 0)] #[])) (cs' := #[(pt g1 0), (.func (.func 57) #[(pt a 0)] #[]), (.string ⟨List.toArray ([] : List UInt8)⟩), (.string ⟨List.toArray ([] : List UInt8)⟩), (.string ⟨List.toArray ([] : List UInt8)⟩), (.bool false)]) (d := none) (k := 5) K rfl K K l rfl K ?_
 intro q m
 refine iF ?_
 refine aQ ?_
 refine aR ?_
 refine iR 2 2 [(12, (pt a 0)), (2, (pt a 0))] ?_
 refine iF ?_
 refine At.ret K ?_
 refine ⟨(pt a 0), K, ?_⟩
 obtain rfl := Qg H
 exact ⟨a, rfl, SP.sel m [2,0,1] rfl rfl⟩
def Vt (q3 : Int) (q4 : Int) (q5 : Int) (q6 : Int) (q7 : (List Qd)) (h : Ur) (c : Int) (d : (List UInt8)) (e : (List UInt8)) (f : (List UInt8)) (g : Bool) (i : Int) (j : (List UInt8)) (k : (List UInt8)) (l : Int) (m : Int) (n : Int) (o : (List UInt8)) : Option (Int × (List UInt8) × (List UInt8) × Int × Int × Bool × Int × (List UInt8) × (List UInt8) × (List UInt8) × Bool) :=
  (cond (Bz c) (some (0, ([] : List UInt8), ([] : List UInt8), 0, 0, false, c, d, e, f, g)) (cond (c == 1) ((Yt q3 q4 q5 q6 q7 h 1 d e f g i j k l m n o).bind fun a => (some (a.1, a.2.1, a.2.2.1, a.2.2.2.1, a.2.2.2.2.1, true, a.2.2.2.2.2.1, a.2.2.2.2.2.2.1, a.2.2.2.2.2.2.2.1, a.2.2.2.2.2.2.2.2.1, a.2.2.2.2.2.2.2.2.2))) (cond (c == 2) ((Yu q3 q4 q5 q6 q7 h 2 d e f g i j k l m n o).bind fun b => (some (b.1, b.2.1, b.2.2.1, b.2.2.2.1, b.2.2.2.2.1, true, b.2.2.2.2.2.1, b.2.2.2.2.2.2.1, b.2.2.2.2.2.2.2.1, b.2.2.2.2.2.2.2.2.1, b.2.2.2.2.2.2.2.2.2))) none)))
set_option maxRecDepth 100000 in
set_option maxHeartbeats 4000000 in
theorem Za {S : List Nat} (g1 : Nat) (g2 : Nat) (A8 : Option Addr) (c9 : Nat) (m : Nat) (q3 : Int) (q4 : Int) (q5 : Int) (q6 : Int) (a2 : (List Q9)) (a3 : Ur) (a5 : Int) (a8 : (List UInt8)) (a9 : (List UInt8)) (b0 : (List UInt8)) (b1 : Bool) (q : Int) (s : (List UInt8)) (u : (List UInt8)) (a0 : Int) (a1 : Int) (a6 : Int) (a7 : (List UInt8)) (w0 : World) (hO : SP S w0 w0 [Qq g2 79 #[(.int .i64 q3), (.int .i64 q4), (.int .i64 q5), (.int .i64 q6), (.slice A8 (List.length (List.map stT a2)) c9), (.map (some m))], Vp m a3, Qq g1 95 #[(pt g2 0), (V7 a5 g1), (.string ⟨List.toArray a8⟩), (.string ⟨List.toArray a9⟩), (.string ⟨List.toArray b0⟩), (.bool b1)]]) (c0 : ∀ w, Mod S w0 w → (dDS J8 Bh).ok w (A8, c9, a2)) (r : (Int × (List UInt8) × (List UInt8) × Int × Int × Bool × Int × (List UInt8) × (List UInt8) × (List UInt8) × Bool)) (H : Vt q3 q4 q5 q6 (List.map stT a2) a3 a5 a8 a9 b0 b1 q s u a0 a1 a6 a7 = some r) :
  Calls Tryz.prog 34 #[(pt g1 0), (.agg #[(.int .i64 q), (.string ⟨List.toArray s⟩), (.string ⟨List.toArray u⟩), (.int .i64 a0), (.int .i64 a1)]), (.int .i64 a6), (.string ⟨List.toArray a7⟩)] w0 (fun e w' => e = .returned (.tuple #[(.agg #[(.int .i64 r.1), (.string ⟨List.toArray r.2.1⟩), (.string ⟨List.toArray r.2.2.1⟩), (.int .i64 r.2.2.2.1), (.int .i64 r.2.2.2.2.1)]), (.bool r.2.2.2.2.2.1)]) ∧ SP S w0 w' [Qq g2 79 #[(.int .i64 q3), (.int .i64 q4), (.int .i64 q5), (.int .i64 q6), (.slice A8 (List.length (List.map stT a2)) c9), (.map (some m))], Vp m a3, Qq g1 95 #[(pt g2 0), (V7 r.2.2.2.2.2.2.1 g1), (.string ⟨List.toArray r.2.2.2.2.2.2.2.1⟩), (.string ⟨List.toArray r.2.2.2.2.2.2.2.2.1⟩), (.string ⟨List.toArray r.2.2.2.2.2.2.2.2.2.1⟩), (.bool r.2.2.2.2.2.2.2.2.2.2)]]) := by
 unfold Vt at H
 refine Qt (n := 24) Tryz.func34 K K K ?_
 have c7 := hO
 refine aQ ?_
 refine aR ?_
 refine iS 1 ?_
 refine Vq (t := 63) (x := (.tmp 1)) (v := (.agg #[(.int .i64 q), (.string ⟨List.toArray s⟩), (.string ⟨List.toArray u⟩), (.int .i64 a0), (.int .i64 a1)])) (d := (some 5)) (k := 0) K rfl K c7 ?_
 intro a4 e8 c8
 refine iS 2 ?_
 refine Qk.alloc (t := 63) (z := (.agg #[(.int .i64 0), (.string ⟨List.toArray ([] : List UInt8)⟩), (.string ⟨List.toArray ([] : List UInt8)⟩), (.int .i64 0), (.int .i64 0)])) (d := (some 8)) (k := 1) K rfl K c8 ?_
 intro p c1 b3
 refine iR 1 3 [(9, (.bool false))] ?_
 refine iF ?_
 refine aQ ?_
 refine aQ ?_
 refine aR ?_
 refine iR 3 3 [(10, (pt g1 0)), (11, (pt g1 0)), (12, (pt g1 1))] ?_
 refine iS 4 ?_
 refine sL 93 12 g1 1 2 (V7 a5 g1) 13 b3 rfl ?_
 refine iS 5 ?_
 refine D0 (op := .eql) (T := 93) (T' := 93) (x := (.tmp 13)) (y := (.const .nilFunc)) (vx := (V7 a5 g1)) (vy := .nilFunc) (v := (.bool (Bz a5))) (d := (some 14)) (k := 4) K rfl K K (by clear H; intro w; unfold V7 Bz; cases (a5 == 1) <;> cases (a5 == 2) <;> kernel_rfl) ?_
 refine iF ?_
 refine Zv K (o := (.tmp 14)) K (b := (Bz a5)) K (fun b5 => ?_) (fun b5 => ?_)
 ·have H := ct H b5
  refine aQ ?_
  refine aR ?_
  refine iR 1 1 [(15, (.agg #[(.int .i64 0), (.string ⟨List.toArray ([] : List UInt8)⟩), (.string ⟨List.toArray ([] : List UInt8)⟩), (.int .i64 0), (.int .i64 0)]))] ?_
  refine iS 2 ?_
  refine Qk.store (t := 63) (x := (.tmp 8)) (y := (.tmp 15)) (g := p) (off := 0) (i := 4) (v := (.agg #[(.int .i64 0), (.string ⟨List.toArray ([] : List UInt8)⟩), (.string ⟨List.toArray ([] : List UInt8)⟩), (.int .i64 0), (.int .i64 0)])) (cs' := #[(.int .i64 0), (.string ⟨List.toArray ([] : List UInt8)⟩), (.string ⟨List.toArray ([] : List UInt8)⟩), (.int .i64 0), (.int .i64 0)]) (d := none) (k := 1) K rfl K K b3 rfl K ?_
  intro e9 c2
  refine iR 1 3 [(9, (.bool false))] ?_
  refine iF ?_
  refine At.ret K ?_
  refine ⟨(.tuple #[(.agg #[(.int .i64 0), (.string ⟨List.toArray ([] : List UInt8)⟩), (.string ⟨List.toArray ([] : List UInt8)⟩), (.int .i64 0), (.int .i64 0)]), (.bool false)]), Fb K (J1 (a := 8) (t := 63) (g := p) (off := 0) K (SP.get c2 (i := 4) rfl) K) (Be (t := 9) K), ?_⟩
  obtain rfl := Qg H
  exact ⟨rfl, SP.sel c2 [0,1,2] rfl rfl⟩
 ·have H := cf H b5
  refine At.skip K ?_
  refine aQ ?_
  rcases Bool.eq_false_or_eq_true (a5 == 1) with b2 | b2
  ·have H := ct H b2
   have d0 : SP S w0 c1 [Qq g2 79 #[(.int .i64 q3), (.int .i64 q4), (.int .i64 q5), (.int .i64 q6), (.slice A8 (List.length (List.map stT a2)) c9), (.map (some m))], Vp m a3, Qq g1 95 #[(pt g2 0), (.func (.func 57) #[(pt g1 0)] #[]), (.string ⟨List.toArray a8⟩), (.string ⟨List.toArray a9⟩), (.string ⟨List.toArray b0⟩), (.bool b1)], Qq a4 63 #[(.int .i64 q), (.string ⟨List.toArray s⟩), (.string ⟨List.toArray u⟩), (.int .i64 a0), (.int .i64 a1)], Qq p 63 #[(.int .i64 0), (.string ⟨List.toArray ([] : List UInt8)⟩), (.string ⟨List.toArray ([] : List UInt8)⟩), (.int .i64 0), (.int .i64 0)]] := by have h := b3; rw [stepV_1 b2] at h; exact h
   obtain ⟨c, d1, H⟩ := Qc H
   refine aG [GEq (pt g1 0), GEq (pt g1 0), GEq (pt g1 1), GEq (.func (.func 57) #[(pt g1 0)] #[]), GEq (.agg #[(.int .i64 q), (.string ⟨List.toArray s⟩), (.string ⟨List.toArray u⟩), (.int .i64 a0), (.int .i64 a1)]), GEq (.int .i64 a6), GEq (.string ⟨List.toArray a7⟩), GEq (.agg #[(.int .i64 c.1), (.string ⟨List.toArray c.2.1⟩), (.string ⟨List.toArray c.2.2.1⟩), (.int .i64 c.2.2.2.1), (.int .i64 c.2.2.2.2.1)]), Cy, GEq (.bool true)] [7, 8] [sG [] [] S w0 [Qq g2 79 #[(.int .i64 q3), (.int .i64 q4), (.int .i64 q5), (.int .i64 q6), (.slice A8 (List.length (List.map stT a2)) c9), (.map (some m))], Vp m a3, Qq g1 95 #[(pt g2 0), (.func (.func 57) #[(pt g1 0)] #[]), (.string ⟨List.toArray a8⟩), (.string ⟨List.toArray a9⟩), (.string ⟨List.toArray b0⟩), (.bool b1)], Qq a4 63 #[(.int .i64 q), (.string ⟨List.toArray s⟩), (.string ⟨List.toArray u⟩), (.int .i64 a0), (.int .i64 a1)], Qq p 63 #[(.int .i64 0), (.string ⟨List.toArray ([] : List UInt8)⟩), (.string ⟨List.toArray ([] : List UInt8)⟩), (.int .i64 0), (.int .i64 0)]], sG [7] [(.agg #[(.int .i64 c.1), (.string ⟨List.toArray c.2.1⟩), (.string ⟨List.toArray c.2.2.1⟩), (.int .i64 c.2.2.2.1), (.int .i64 c.2.2.2.2.1)])] S w0 [Qq a4 63 #[(.int .i64 q), (.string ⟨List.toArray s⟩), (.string ⟨List.toArray u⟩), (.int .i64 a0), (.int .i64 a1)], Qq p 63 #[(.int .i64 0), (.string ⟨List.toArray ([] : List UInt8)⟩), (.string ⟨List.toArray ([] : List UInt8)⟩), (.int .i64 0), (.int .i64 0)], Qq g2 79 #[(.int .i64 q3), (.int .i64 q4), (.int .i64 q5), (.int .i64 q6), (.slice A8 (List.length (List.map stT a2)) c9), (.map (some m))], Vp m a3, Qq g1 95 #[(pt g2 0), (V7 c.2.2.2.2.2.1 g1), (.string ⟨List.toArray c.2.2.2.2.2.2.1⟩), (.string ⟨List.toArray c.2.2.2.2.2.2.2.1⟩), (.string ⟨List.toArray c.2.2.2.2.2.2.2.2.1⟩), (.bool c.2.2.2.2.2.2.2.2.2)]], sG [7, 8] [(.agg #[(.int .i64 c.1), (.string ⟨List.toArray c.2.1⟩), (.string ⟨List.toArray c.2.2.1⟩), (.int .i64 c.2.2.2.1), (.int .i64 c.2.2.2.2.1)]), undef] S w0 [Qq a4 63 #[(.int .i64 q), (.string ⟨List.toArray s⟩), (.string ⟨List.toArray u⟩), (.int .i64 a0), (.int .i64 a1)], Qq p 63 #[(.int .i64 c.1), (.string ⟨List.toArray c.2.1⟩), (.string ⟨List.toArray c.2.2.1⟩), (.int .i64 c.2.2.2.1), (.int .i64 c.2.2.2.2.1)], Qq g2 79 #[(.int .i64 q3), (.int .i64 q4), (.int .i64 q5), (.int .i64 q6), (.slice A8 (List.length (List.map stT a2)) c9), (.map (some m))], Vp m a3, Qq g1 95 #[(pt g2 0), (V7 c.2.2.2.2.2.1 g1), (.string ⟨List.toArray c.2.2.2.2.2.2.1⟩), (.string ⟨List.toArray c.2.2.2.2.2.2.2.1⟩), (.string ⟨List.toArray c.2.2.2.2.2.2.2.2.1⟩), (.bool c.2.2.2.2.2.2.2.2.2)]]] 10 2 ⟨trivial, SP.drew d0⟩ ?_ ?_
   iterate 10 refine And.intro ?_ ?_
   exact trivial
   ·exact oV (hC (hS 0 (pt g1 0)) (h0)) (pt g1 0)
   ·exact oV (hC (hA 0 16) (h0)) (pt g1 0)
   ·exact oV (hC (hA 1 17) (h0)) (pt g1 1)
   ·refine oL 0 ?_
    ·rintro ρ' w' hs hah ⟨f0, d2⟩
     refine kM (kc (kA hah 2 18) k0) fun hkn => ?_
     refine sL 93 18 g1 1 2 (.func (.func 57) #[(pt g1 0)] #[]) 19 d2 rfl ?_
     exact eK hkn
   ·refine oL 0 ?_
    ·rintro ρ' w' hs hah ⟨f1, d3⟩
     refine kM (kc (kS hs 5 (pt a4 0)) k0) fun hkn => ?_
     refine sL 63 5 a4 0 3 (.agg #[(.int .i64 q), (.string ⟨List.toArray s⟩), (.string ⟨List.toArray u⟩), (.int .i64 a0), (.int .i64 a1)]) 20 d3 rfl ?_
     exact eK hkn
   ·exact oV (hC (hS 2 (.int .i64 a6)) (h0)) (.int .i64 a6)
   ·exact oV (hC (hS 3 (.string ⟨List.toArray a7⟩)) (h0)) (.string ⟨List.toArray a7⟩)
   ·refine oH 0 1 ?_
    ·rintro ρ' w' hs hah ⟨f2, b6⟩
     refine kM (kc (kA hah 3 19) (kc (kA hah 4 20) (kc (kA hah 5 21) (kc (kA hah 6 22) k0)))) fun hkn => ?_
     refine Z5 (f := 57) (fo := (.tmp 19)) (xs := #[(.tmp 20), (.tmp 21), (.tmp 22)]) (tys := #[63, 2, 9]) (first := #[(pt g1 0)]) (captured := #[]) (d := (some 23)) (k := 7) K rfl K K Tryz.call57 (Np g1 g2 A8 c9 m q3 q4 q5 q6 a2 a3 1 a8 a9 b0 b1 q s u a0 a1 a6 a7 w' (Xy b6 [0, 1, 2] rfl rfl) (fun w hm => c0 w (SP.through b6 (l := [0, 1, 2]) rfl hm)) c d1) ?_
     rintro e d4 ⟨rfl, c3⟩
     refine ⟨_, rfl, ?_⟩
     have d5 : SP S w0 d4 [Qq a4 63 #[(.int .i64 q), (.string ⟨List.toArray s⟩), (.string ⟨List.toArray u⟩), (.int .i64 a0), (.int .i64 a1)], Qq p 63 #[(.int .i64 0), (.string ⟨List.toArray ([] : List UInt8)⟩), (.string ⟨List.toArray ([] : List UInt8)⟩), (.int .i64 0), (.int .i64 0)], Qq g2 79 #[(.int .i64 q3), (.int .i64 q4), (.int .i64 q5), (.int .i64 q6), (.slice A8 (List.length (List.map stT a2)) c9), (.map (some m))], Vp m a3, Qq g1 95 #[(pt g2 0), (V7 c.2.2.2.2.2.1 g1), (.string ⟨List.toArray c.2.2.2.2.2.2.1⟩), (.string ⟨List.toArray c.2.2.2.2.2.2.2.1⟩), (.string ⟨List.toArray c.2.2.2.2.2.2.2.2.1⟩), (.bool c.2.2.2.2.2.2.2.2.2)]] := Vy b6 [0, 1, 2] [3, 4] rfl rfl c3 rfl
     clear c3
     refine ⟨_, Qb hkn, rfl, ?_⟩
     exact (And.intro (And.intro rfl (trivial)) (d5))
   ·refine oH 1 2 ?_
    ·rintro ρ' w' hs hah ⟨⟨c4, -⟩, d6⟩
     refine kN [(8, (pt p 0)), (23, (.agg #[(.int .i64 c.1), (.string ⟨List.toArray c.2.1⟩), (.string ⟨List.toArray c.2.2.1⟩), (.int .i64 c.2.2.2.1), (.int .i64 c.2.2.2.2.1)]))] ⟨(hs 8 K).trans K, (Yl (h := 7) K).symm.trans c4, trivial⟩ fun hkn => ?_
     refine Qk.store (t := 63) (x := (.tmp 8)) (y := (.tmp 23)) (g := p) (off := 0) (i := 1) (v := (.agg #[(.int .i64 c.1), (.string ⟨List.toArray c.2.1⟩), (.string ⟨List.toArray c.2.2.1⟩), (.int .i64 c.2.2.2.1), (.int .i64 c.2.2.2.2.1)])) (cs' := #[(.int .i64 c.1), (.string ⟨List.toArray c.2.1⟩), (.string ⟨List.toArray c.2.2.1⟩), (.int .i64 c.2.2.2.1), (.int .i64 c.2.2.2.2.1)]) (d := none) (k := 8) K rfl K K d6 rfl K ?_
     intro f3 d7
     refine ⟨_, Qb hkn, trivial, ?_⟩
     exact (And.intro (And.intro c4 (And.intro rfl (trivial))) (d7))
   ·exact Owe.run K [] trivial (.bool true) (fun _ _ => K) rfl
   ·rintro ρ' w' hs hf ⟨⟨f4, f5, -⟩, b7⟩
    refine Vu [(8, (pt p 0)), (9, (.bool true))] ⟨(hs 8 K).trans K, hf 9 9 K, trivial⟩ ?_
    obtain ⟨f6, d8⟩ : ∃ x, w' = x := ⟨_, rfl⟩
    rw [d8] at b7 ⊢
    refine At.ret K ?_
    refine ⟨(.tuple #[(.agg #[(.int .i64 c.1), (.string ⟨List.toArray c.2.1⟩), (.string ⟨List.toArray c.2.2.1⟩), (.int .i64 c.2.2.2.1), (.int .i64 c.2.2.2.2.1)]), (.bool true)]), Fb K (J1 (a := 8) (t := 63) (g := p) (off := 0) K (SP.get b7 (i := 1) rfl) K) (Be (t := 9) K), ?_⟩
    obtain rfl := Qg H
    exact ⟨rfl, SP.sel b7 [2,3,4] rfl rfl⟩
  ·have H := cf H b2
   rcases Bool.eq_false_or_eq_true (a5 == 2) with b4 | b4
   ·have H := ct H b4
    have d9 : SP S w0 c1 [Qq g2 79 #[(.int .i64 q3), (.int .i64 q4), (.int .i64 q5), (.int .i64 q6), (.slice A8 (List.length (List.map stT a2)) c9), (.map (some m))], Vp m a3, Qq g1 95 #[(pt g2 0), (.func (.func 75) #[(pt g1 0)] #[]), (.string ⟨List.toArray a8⟩), (.string ⟨List.toArray a9⟩), (.string ⟨List.toArray b0⟩), (.bool b1)], Qq a4 63 #[(.int .i64 q), (.string ⟨List.toArray s⟩), (.string ⟨List.toArray u⟩), (.int .i64 a0), (.int .i64 a1)], Qq p 63 #[(.int .i64 0), (.string ⟨List.toArray ([] : List UInt8)⟩), (.string ⟨List.toArray ([] : List UInt8)⟩), (.int .i64 0), (.int .i64 0)]] := by have h := b3; rw [stepV_2 b2 b4] at h; exact h
    obtain ⟨j, e0, H⟩ := Qc H
    refine aG [GEq (pt g1 0), GEq (pt g1 0), GEq (pt g1 1), GEq (.func (.func 75) #[(pt g1 0)] #[]), GEq (.agg #[(.int .i64 q), (.string ⟨List.toArray s⟩), (.string ⟨List.toArray u⟩), (.int .i64 a0), (.int .i64 a1)]), GEq (.int .i64 a6), GEq (.string ⟨List.toArray a7⟩), GEq (.agg #[(.int .i64 j.1), (.string ⟨List.toArray j.2.1⟩), (.string ⟨List.toArray j.2.2.1⟩), (.int .i64 j.2.2.2.1), (.int .i64 j.2.2.2.2.1)]), Cy, GEq (.bool true)] [7, 8] [sG [] [] S w0 [Qq g2 79 #[(.int .i64 q3), (.int .i64 q4), (.int .i64 q5), (.int .i64 q6), (.slice A8 (List.length (List.map stT a2)) c9), (.map (some m))], Vp m a3, Qq g1 95 #[(pt g2 0), (.func (.func 75) #[(pt g1 0)] #[]), (.string ⟨List.toArray a8⟩), (.string ⟨List.toArray a9⟩), (.string ⟨List.toArray b0⟩), (.bool b1)], Qq a4 63 #[(.int .i64 q), (.string ⟨List.toArray s⟩), (.string ⟨List.toArray u⟩), (.int .i64 a0), (.int .i64 a1)], Qq p 63 #[(.int .i64 0), (.string ⟨List.toArray ([] : List UInt8)⟩), (.string ⟨List.toArray ([] : List UInt8)⟩), (.int .i64 0), (.int .i64 0)]], sG [7] [(.agg #[(.int .i64 j.1), (.string ⟨List.toArray j.2.1⟩), (.string ⟨List.toArray j.2.2.1⟩), (.int .i64 j.2.2.2.1), (.int .i64 j.2.2.2.2.1)])] S w0 [Qq a4 63 #[(.int .i64 q), (.string ⟨List.toArray s⟩), (.string ⟨List.toArray u⟩), (.int .i64 a0), (.int .i64 a1)], Qq p 63 #[(.int .i64 0), (.string ⟨List.toArray ([] : List UInt8)⟩), (.string ⟨List.toArray ([] : List UInt8)⟩), (.int .i64 0), (.int .i64 0)], Qq g2 79 #[(.int .i64 q3), (.int .i64 q4), (.int .i64 q5), (.int .i64 q6), (.slice A8 (List.length (List.map stT a2)) c9), (.map (some m))], Vp m a3, Qq g1 95 #[(pt g2 0), (V7 j.2.2.2.2.2.1 g1), (.string ⟨List.toArray j.2.2.2.2.2.2.1⟩), (.string ⟨List.toArray j.2.2.2.2.2.2.2.1⟩), (.string ⟨List.toArray j.2.2.2.2.2.2.2.2.1⟩), (.bool j.2.2.2.2.2.2.2.2.2)]], sG [7, 8] [(.agg #[(.int .i64 j.1), (.string ⟨List.toArray j.2.1⟩), (.string ⟨List.toArray j.2.2.1⟩), (.int .i64 j.2.2.2.1), (.int .i64 j.2.2.2.2.1)]), undef] S w0 [Qq a4 63 #[(.int .i64 q), (.string ⟨List.toArray s⟩), (.string ⟨List.toArray u⟩), (.int .i64 a0), (.int .i64 a1)], Qq p 63 #[(.int .i64 j.1), (.string ⟨List.toArray j.2.1⟩), (.string ⟨List.toArray j.2.2.1⟩), (.int .i64 j.2.2.2.1), (.int .i64 j.2.2.2.2.1)], Qq g2 79 #[(.int .i64 q3), (.int .i64 q4), (.int .i64 q5), (.int .i64 q6), (.slice A8 (List.length (List.map stT a2)) c9), (.map (some m))], Vp m a3, Qq g1 95 #[(pt g2 0), (V7 j.2.2.2.2.2.1 g1), (.string ⟨List.toArray j.2.2.2.2.2.2.1⟩), (.string ⟨List.toArray j.2.2.2.2.2.2.2.1⟩), (.string ⟨List.toArray j.2.2.2.2.2.2.2.2.1⟩), (.bool j.2.2.2.2.2.2.2.2.2)]]] 10 2 ⟨trivial, SP.drew d9⟩ ?_ ?_
    iterate 10 refine And.intro ?_ ?_
    exact trivial
    ·exact oV (hC (hS 0 (pt g1 0)) (h0)) (pt g1 0)
    ·exact oV (hC (hA 0 16) (h0)) (pt g1 0)
    ·exact oV (hC (hA 1 17) (h0)) (pt g1 1)
    ·refine oL 0 ?_
     ·rintro ρ' w' hs hah ⟨f7, e1⟩
      refine kM (kc (kA hah 2 18) k0) fun hkn => ?_
      refine sL 93 18 g1 1 2 (.func (.func 75) #[(pt g1 0)] #[]) 19 e1 rfl ?_
      exact eK hkn
    ·refine oL 0 ?_
     ·rintro ρ' w' hs hah ⟨f8, e2⟩
      refine kM (kc (kS hs 5 (pt a4 0)) k0) fun hkn => ?_
      refine sL 63 5 a4 0 3 (.agg #[(.int .i64 q), (.string ⟨List.toArray s⟩), (.string ⟨List.toArray u⟩), (.int .i64 a0), (.int .i64 a1)]) 20 e2 rfl ?_
      exact eK hkn
    ·exact oV (hC (hS 2 (.int .i64 a6)) (h0)) (.int .i64 a6)
    ·exact oV (hC (hS 3 (.string ⟨List.toArray a7⟩)) (h0)) (.string ⟨List.toArray a7⟩)
    ·refine oH 0 1 ?_
     ·rintro ρ' w' hs hah ⟨f9, b8⟩
      refine kM (kc (kA hah 3 19) (kc (kA hah 4 20) (kc (kA hah 5 21) (kc (kA hah 6 22) k0)))) fun hkn => ?_
      refine Z5 (f := 75) (fo := (.tmp 19)) (xs := #[(.tmp 20), (.tmp 21), (.tmp 22)]) (tys := #[63, 2, 9]) (first := #[(pt g1 0)]) (captured := #[]) (d := (some 23)) (k := 7) K rfl K K Tryz.call75 (Nq g1 g2 A8 c9 m q3 q4 q5 q6 a2 a3 2 a8 a9 b0 b1 q s u a0 a1 a6 a7 w' (Xy b8 [0, 1, 2] rfl rfl) (fun w hm => c0 w (SP.through b8 (l := [0, 1, 2]) rfl hm)) j e0) ?_
      rintro e e3 ⟨rfl, c5⟩
      refine ⟨_, rfl, ?_⟩
      have e4 : SP S w0 e3 [Qq a4 63 #[(.int .i64 q), (.string ⟨List.toArray s⟩), (.string ⟨List.toArray u⟩), (.int .i64 a0), (.int .i64 a1)], Qq p 63 #[(.int .i64 0), (.string ⟨List.toArray ([] : List UInt8)⟩), (.string ⟨List.toArray ([] : List UInt8)⟩), (.int .i64 0), (.int .i64 0)], Qq g2 79 #[(.int .i64 q3), (.int .i64 q4), (.int .i64 q5), (.int .i64 q6), (.slice A8 (List.length (List.map stT a2)) c9), (.map (some m))], Vp m a3, Qq g1 95 #[(pt g2 0), (V7 j.2.2.2.2.2.1 g1), (.string ⟨List.toArray j.2.2.2.2.2.2.1⟩), (.string ⟨List.toArray j.2.2.2.2.2.2.2.1⟩), (.string ⟨List.toArray j.2.2.2.2.2.2.2.2.1⟩), (.bool j.2.2.2.2.2.2.2.2.2)]] := Vy b8 [0, 1, 2] [3, 4] rfl rfl c5 rfl
      clear c5
      refine ⟨_, Qb hkn, rfl, ?_⟩
      exact (And.intro (And.intro rfl (trivial)) (e4))
    ·refine oH 1 2 ?_
     ·rintro ρ' w' hs hah ⟨⟨c6, -⟩, e5⟩
      refine kN [(8, (pt p 0)), (23, (.agg #[(.int .i64 j.1), (.string ⟨List.toArray j.2.1⟩), (.string ⟨List.toArray j.2.2.1⟩), (.int .i64 j.2.2.2.1), (.int .i64 j.2.2.2.2.1)]))] ⟨(hs 8 K).trans K, (Yl (h := 7) K).symm.trans c6, trivial⟩ fun hkn => ?_
      refine Qk.store (t := 63) (x := (.tmp 8)) (y := (.tmp 23)) (g := p) (off := 0) (i := 1) (v := (.agg #[(.int .i64 j.1), (.string ⟨List.toArray j.2.1⟩), (.string ⟨List.toArray j.2.2.1⟩), (.int .i64 j.2.2.2.1), (.int .i64 j.2.2.2.2.1)])) (cs' := #[(.int .i64 j.1), (.string ⟨List.toArray j.2.1⟩), (.string ⟨List.toArray j.2.2.1⟩), (.int .i64 j.2.2.2.1), (.int .i64 j.2.2.2.2.1)]) (d := none) (k := 8) K rfl K K e5 rfl K ?_
      intro g0 e6
      refine ⟨_, Qb hkn, trivial, ?_⟩
      exact (And.intro (And.intro c6 (And.intro rfl (trivial))) (e6))
    ·exact Owe.run K [] trivial (.bool true) (fun _ _ => K) rfl
    ·rintro ρ' w' hs hf ⟨⟨g3, g4, -⟩, b9⟩
     refine Vu [(8, (pt p 0)), (9, (.bool true))] ⟨(hs 8 K).trans K, hf 9 9 K, trivial⟩ ?_
     obtain ⟨g5, e7⟩ : ∃ x, w' = x := ⟨_, rfl⟩
     rw [e7] at b9 ⊢
     refine At.ret K ?_
     refine ⟨(.tuple #[(.agg #[(.int .i64 j.1), (.string ⟨List.toArray j.2.1⟩), (.string ⟨List.toArray j.2.2.1⟩), (.int .i64 j.2.2.2.1), (.int .i64 j.2.2.2.2.1)]), (.bool true)]), Fb K (J1 (a := 8) (t := 63) (g := p) (off := 0) K (SP.get b9 (i := 1) rfl) K) (Be (t := 9) K), ?_⟩
     obtain rfl := Qg H
     exact ⟨rfl, SP.sel b9 [2,3,4] rfl rfl⟩
   ·have H := cf H b4
    cases H
def Z1 (q3 : Int) (q4 : Int) (q5 : Int) (q6 : Int) (q7 : (List Qd)) (c : Ur) (d : Int) (a : (List UInt8)) (e : (List UInt8)) (f : (List UInt8)) (b : Bool) : Option ((List UInt8) × Bool) :=
  (cond (!b) (some (([] : List UInt8), false)) (some (a, true)))
set_option maxRecDepth 100000 in
set_option maxHeartbeats 4000000 in
theorem Y2 {S : List Nat} (g1 : Nat) (g2 : Nat) (A8 : Option Addr) (c9 : Nat) (d : Nat) (q3 : Int) (q4 : Int) (q5 : Int) (q6 : Int) (f : (List Q9)) (h : Ur) (i : Int) (a : (List UInt8)) (j : (List UInt8)) (k : (List UInt8)) (c : Bool) (w0 : World) (hO : SP S w0 w0 [Qq g2 79 #[(.int .i64 q3), (.int .i64 q4), (.int .i64 q5), (.int .i64 q6), (.slice A8 (List.length (List.map stT f)) c9), (.map (some d))], Vp d h, Qq g1 95 #[(pt g2 0), (V7 i g1), (.string ⟨List.toArray a⟩), (.string ⟨List.toArray j⟩), (.string ⟨List.toArray k⟩), (.bool c)]]) (m : ∀ w, Mod S w0 w → (dDS J8 Bh).ok w (A8, c9, f)) (r : ((List UInt8) × Bool)) (H : Z1 q3 q4 q5 q6 (List.map stT f) h i a j k c = some r) :
  Calls Tryz.prog 35 #[(pt g1 0)] w0 (fun e w' => e = .returned (.tuple #[(.string ⟨List.toArray r.1⟩), (.bool r.2)]) ∧ SP S w0 w' [Qq g2 79 #[(.int .i64 q3), (.int .i64 q4), (.int .i64 q5), (.int .i64 q6), (.slice A8 (List.length (List.map stT f)) c9), (.map (some d))], Vp d h, Qq g1 95 #[(pt g2 0), (V7 i g1), (.string ⟨List.toArray a⟩), (.string ⟨List.toArray j⟩), (.string ⟨List.toArray k⟩), (.bool c)]]) := by
 unfold Z1 at H
 refine Qt (n := 13) Tryz.func35 K K K ?_
 have g := hO
 refine aQ ?_
 refine aR ?_
 refine iR 2 2 [(2, (.string ⟨List.toArray ([] : List UInt8)⟩)), (3, (.bool false))] ?_
 refine iF ?_
 refine aQ ?_
 refine aQ ?_
 refine aR ?_
 refine iR 3 3 [(4, (pt g1 0)), (5, (pt g1 0)), (6, (pt g1 5))] ?_
 refine iS 4 ?_
 refine sL 4 6 g1 5 2 (.bool c) 7 g rfl ?_
 refine iR 1 5 [(8, (.bool (!c)))] ?_
 refine iF ?_
 refine Zv K (o := (.tmp 8)) K (b := (!c)) K (fun l => ?_) (fun l => ?_)
 ·have H := ct H l
  refine aQ ?_
  refine aR ?_
  refine iR 2 2 [(2, (.string ⟨List.toArray ([] : List UInt8)⟩)), (3, (.bool false))] ?_
  refine iF ?_
  refine At.ret K ?_
  refine ⟨(.tuple #[(.string ⟨List.toArray ([] : List UInt8)⟩), (.bool false)]), K, ?_⟩
  obtain rfl := Qg H
  exact ⟨rfl, SP.sel g [0,1,2] rfl rfl⟩
 ·have H := cf H l
  refine At.skip K ?_
  refine aQ ?_
  refine aR ?_
  refine iR 3 3 [(9, (pt g1 0)), (10, (pt g1 0)), (11, (pt g1 2))] ?_
  refine iS 4 ?_
  refine sL 9 11 g1 2 2 (.string ⟨List.toArray a⟩) 12 g rfl ?_
  refine iR 2 6 [(2, (.string ⟨List.toArray a⟩)), (3, (.bool true))] ?_
  refine iF ?_
  refine At.ret K ?_
  refine ⟨(.tuple #[(.string ⟨List.toArray a⟩), (.bool true)]), K, ?_⟩
  obtain rfl := Qg H
  exact ⟨rfl, SP.sel g [0,1,2] rfl rfl⟩
def Y5 (q3 : Int) (q4 : Int) (q5 : Int) (q6 : Int) (q7 : (List Qd)) (b : Ur) (a : Int) (c : (List UInt8)) (d : (List UInt8)) (e : (List UInt8)) (f : Bool) : Option (Bool) :=
  (some ((Bz a)))
set_option maxRecDepth 100000 in
set_option maxHeartbeats 4000000 in
theorem J7 {S : List Nat} (g1 : Nat) (g2 : Nat) (A8 : Option Addr) (c9 : Nat) (b : Nat) (q3 : Int) (q4 : Int) (q5 : Int) (q6 : Int) (c : (List Q9)) (f : Ur) (a : Int) (g : (List UInt8)) (h : (List UInt8)) (i : (List UInt8)) (j : Bool) (w0 : World) (hO : SP S w0 w0 [Qq g2 79 #[(.int .i64 q3), (.int .i64 q4), (.int .i64 q5), (.int .i64 q6), (.slice A8 (List.length (List.map stT c)) c9), (.map (some b))], Vp b f, Qq g1 95 #[(pt g2 0), (V7 a g1), (.string ⟨List.toArray g⟩), (.string ⟨List.toArray h⟩), (.string ⟨List.toArray i⟩), (.bool j)]]) (m : ∀ w, Mod S w0 w → (dDS J8 Bh).ok w (A8, c9, c)) (r : (Bool)) (H : Y5 q3 q4 q5 q6 (List.map stT c) f a g h i j = some r) :
  Calls Tryz.prog 36 #[(pt g1 0)] w0 (fun e w' => e = .returned (.bool r) ∧ SP S w0 w' [Qq g2 79 #[(.int .i64 q3), (.int .i64 q4), (.int .i64 q5), (.int .i64 q6), (.slice A8 (List.length (List.map stT c)) c9), (.map (some b))], Vp b f, Qq g1 95 #[(pt g2 0), (V7 a g1), (.string ⟨List.toArray g⟩), (.string ⟨List.toArray h⟩), (.string ⟨List.toArray i⟩), (.bool j)]]) := by
 unfold Y5 at H
 refine Qt (n := 8) Tryz.func36 K K K ?_
 have l := hO
 refine aQ ?_
 refine aR ?_
 refine iR 1 1 [(2, (.bool false))] ?_
 refine iF ?_
 refine aQ ?_
 refine aR ?_
 refine iR 3 3 [(3, (pt g1 0)), (4, (pt g1 0)), (5, (pt g1 1))] ?_
 refine iS 4 ?_
 refine sL 93 5 g1 1 2 (V7 a g1) 6 l rfl ?_
 refine iS 5 ?_
 refine D0 (op := .eql) (T := 93) (T' := 93) (x := (.tmp 6)) (y := (.const .nilFunc)) (vx := (V7 a g1)) (vy := .nilFunc) (v := (.bool (Bz a))) (d := (some 7)) (k := 4) K rfl K K (by clear H; intro w; unfold V7 Bz; cases (a == 1) <;> cases (a == 2) <;> kernel_rfl) ?_
 refine iR 1 6 [(2, (.bool (Bz a)))] ?_
 refine iF ?_
 refine At.ret K ?_
 refine ⟨(.bool (Bz a)), K, ?_⟩
 obtain rfl := Qg H
 exact ⟨rfl, SP.sel l [0,1,2] rfl rfl⟩
end Go.Proofs.YtmgfanhcdfobhaaGreatDoor
namespace Go.Proofs.YtmgfanhcdfobhaaGreatDoor
theorem cut64 (p : Str) (h : p.length ≤ 140737488355328) : sub p 0 (if 64 < ((List.length p : Nat) : Int) then 64 else ((List.length p : Nat) : Int)) = some (p.take 64) := by
  by_cases h2 : 64 < ((List.length p : Nat) : Int)
  · rw [if_pos h2]
    have := Co p (i := 0) (j := 64) (by omega) (by omega)
    simpa using this
  · rw [if_neg h2]
    have := Co p (i := 0) (j := p.length) (by omega) (by omega)
    rw [List.take_of_length_le (by omega : p.length ≤ 64)]
    simpa using this
def hearL (l : List Qd) (M : Ur) (c : Int) (t k n : Str) (kn : Bool) (kind : Int) (A B : Str) (now : Int) (nonce : Str) : Int × Str × Str × Int × Int × Bool × Int × Str × Str × Str × Bool :=
  cond (c == 1) (cond (kind == 1) (2, nonce.take 64, [], 0, 0, true, 2, A, B, nonce.take 64, kn) (5, [], [], 1, 0, true, 0, t, k, n, kn))
  (cond (c == 2) (cond (kind == 3) (cond (Gu l M t k n A now == 0) (4, [], [], 0, 0, true, 0, t, k, n, true) (5, [], [], Gu l M t k n A now, 0, true, 0, t, k, n, kn)) (5, [], [], 1, 0, true, 0, t, k, n, kn))
  (0, [], [], 0, 0, false, c, t, k, n, kn))
theorem pHear {l : List Qd} (hv : VC l) (w g i e : Int) (M : Ur) (c : Int) (t k n : Str) (kn : Bool) (kind : Int) (A B : Str) (N m now : Int) (nonce : Str) (hA : A.length ≤ 140737488355328) (hn : nonce.length ≤ 140737488355328) :
    Vt w g i e l M c t k n kn kind A B N m now nonce = some (hearL l M c t k n kn kind A B now nonce) := by
  unfold Vt Yt Yu Zt Bz hearL
  cases h1 : (c == 1) with
  | true =>
    rw [cond_true, cond_false, cond_true, cond_true, cut64 nonce hn]
    cases hk : (kind == 1) with
    | true => rw [show (kind != 1) = false by rw [bne, hk]; rfl]; rfl
    | false => rw [show (kind != 1) = true by rw [bne, hk]; rfl]; rfl
  | false =>
    cases h2 : (c == 2) with
    | true =>
      rw [cond_false, cond_true, cond_false, cond_false, cond_true, cond_false, cond_true]
      cases hk : (kind == 3) with
      | false => rw [show (kind != 3) = true by rw [bne, hk]; rfl]; rfl
      | true =>
        rw [show (kind != 3) = false by rw [bne, hk]; rfl, cond_false, pVCheck hv _ _ _ _ _ _ _ _ _ hA, Option.bind_some]
        cases he : (Gu l M t k n A now == 0) with
        | true => rw [show (Gu l M t k n A now != 0) = false by rw [bne, he]; rfl]; rfl
        | false => rw [show (Gu l M t k n A now != 0) = true by rw [bne, he]; rfl]; rfl
    | false => rfl
theorem vCheck_0 (l : List Qd) (M : Ur) (t k n A : Str) (now : Int) : (Gu l M t k n A now == 0) = (Ey l M t k now && (!(Gt l t k n == []) && (A == Gt l t k n))) := by
  unfold Gu
  cases Ey l M t k now with
  | false => rfl
  | true =>
    cases (Gt l t k n == []) with
    | true => rfl
    | false => cases (A == Gt l t k n) <;> rfl
end Go.Proofs.YtmgfanhcdfobhaaGreatDoor
namespace Go.Proofs.YtmgfanhcdfobhaaGreatDoor
open Go.RowKit
def Je  : Option Unit :=
  (some ())
set_option maxRecDepth 100000 in
set_option maxHeartbeats 4000000 in
theorem Gd   (w0 : World)  (r : Unit) (H : Je  = some r) :
  Calls Tryz.prog 56 #[] w0 (fun e w' => ∃ (g7 : Nat) (b : Nat), e = .returned (.agg #[(.int .i64 9), (.int .i64 9), (.int .i64 9), (.int .i64 9), (.slice (some ⟨b, 0, none⟩) (List.length ([(([97, 110, 110] : List UInt8), 0, 0, ([] : List (Int × Int)), ([(([107] : List UInt8), ([115] : List UInt8), 5)] : List ((List UInt8) × (List UInt8) × Int)))] : List Qd)) (List.length ([(([97, 110, 110] : List UInt8), 0, 0, ([] : List (Int × Int)), ([(([107] : List UInt8), ([115] : List UInt8), 5)] : List ((List UInt8) × (List UInt8) × Int)))] : List Qd)))]) ∧ SP [] w0 w' [Us 48 (Qv Zf (Qv Zf (Qi .i64))) (some ⟨g7, 0, none⟩) (List.length ([(([107] : List UInt8), ([115] : List UInt8), 5)] : List ((List UInt8) × (List UInt8) × Int))) ([(([107] : List UInt8), ([115] : List UInt8), 5)] : List ((List UInt8) × (List UInt8) × Int)), Us 44 J8 (some ⟨b, 0, none⟩) (List.length ([(([97, 110, 110] : List UInt8), 0, 0, ([] : List (Int × Int)), ([(([107] : List UInt8), ([115] : List UInt8), 5)] : List ((List UInt8) × (List UInt8) × Int)))] : List Qd)) ([(([97, 110, 110] : List UInt8), 0, 0, (none, 0, ([] : List (Int × Int))), ((some ⟨g7, 0, none⟩), (List.length ([(([107] : List UInt8), ([115] : List UInt8), 5)] : List ((List UInt8) × (List UInt8) × Int))), ([(([107] : List UInt8), ([115] : List UInt8), 5)] : List ((List UInt8) × (List UInt8) × Int))))] : List Q9)]) := by
 unfold Je at H
 refine Qt (n := 6) Tryz.func56 K K K ?_
 have f := Q2 [] w0
 refine aQ ?_
 refine aR ?_
 refine iS 1 ?_
 refine Qk.alloc (t := 24) (z := (.agg #[(.int .i64 0), (.int .i64 0), (.int .i64 0), (.int .i64 0), (.slice none (List.length ([] : List Qd)) 0)])) (d := (some 0)) (k := 0) K rfl K f ?_
 intro g3 w4 h
 refine iF ?_
 refine aQ ?_
 refine aR ?_
 refine iR 1 1 [(1, (.agg #[(.string ⟨List.toArray ([107] : List UInt8)⟩), (.string ⟨List.toArray ([115] : List UInt8)⟩), (.int .i64 5)]))] ?_
 refine iS 2 ?_
 refine Ja (e := (Qv Zf (Qv Zf (Qi .i64)))) (T := 42) (E := 48) (len := 1) (parts := #[(0, (.tmp 1))]) (cs := #[(.string ⟨List.toArray ([107] : List UInt8)⟩), (.string ⟨List.toArray ([115] : List UInt8)⟩), (.int .i64 5)]) ([(([107] : List UInt8), ([115] : List UInt8), 5)] : List ((List UInt8) × (List UInt8) × Int)) (d := (some 2)) (k := 1) K rfl (fun _ => K) h rfl rfl rfl rfl ?_
 intro g7 w8 j
 refine iR 1 3 [(3, (.agg #[(.string ⟨List.toArray ([97, 110, 110] : List UInt8)⟩), (.int .i64 0), (.int .i64 0), (.slice none (List.length ([] : List (Int × Int))) 0), (.slice (some ⟨g7, 0, none⟩) (List.length ([(([107] : List UInt8), ([115] : List UInt8), 5)] : List ((List UInt8) × (List UInt8) × Int))) (List.length ([(([107] : List UInt8), ([115] : List UInt8), 5)] : List ((List UInt8) × (List UInt8) × Int))))]))] ?_
 refine iS 4 ?_
 refine Ja (e := J8) (T := 22) (E := 44) (len := 1) (parts := #[(0, (.tmp 3))]) (cs := #[(.string ⟨List.toArray ([97, 110, 110] : List UInt8)⟩), (.int .i64 0), (.int .i64 0), (.slice none (List.length ([] : List (Int × Int))) 0), (.slice (some ⟨g7, 0, none⟩) (List.length ([(([107] : List UInt8), ([115] : List UInt8), 5)] : List ((List UInt8) × (List UInt8) × Int))) (List.length ([(([107] : List UInt8), ([115] : List UInt8), 5)] : List ((List UInt8) × (List UInt8) × Int))))]) ([(([97, 110, 110] : List UInt8), 0, 0, (none, 0, ([] : List (Int × Int))), ((some ⟨g7, 0, none⟩), (List.length ([(([107] : List UInt8), ([115] : List UInt8), 5)] : List ((List UInt8) × (List UInt8) × Int))), ([(([107] : List UInt8), ([115] : List UInt8), 5)] : List ((List UInt8) × (List UInt8) × Int))))] : List Q9) (d := (some 4)) (k := 3) K rfl (fun _ => K) j rfl rfl rfl rfl ?_
 intro b m l
 refine iR 1 5 [(5, (.agg #[(.int .i64 9), (.int .i64 9), (.int .i64 9), (.int .i64 9), (.slice (some ⟨b, 0, none⟩) (List.length ([(([97, 110, 110] : List UInt8), 0, 0, ([] : List (Int × Int)), ([(([107] : List UInt8), ([115] : List UInt8), 5)] : List ((List UInt8) × (List UInt8) × Int)))] : List Qd)) (List.length ([(([97, 110, 110] : List UInt8), 0, 0, ([] : List (Int × Int)), ([(([107] : List UInt8), ([115] : List UInt8), 5)] : List ((List UInt8) × (List UInt8) × Int)))] : List Qd)))]))] ?_
 refine iS 6 ?_
 refine Qk.store (t := 24) (x := (.tmp 0)) (y := (.tmp 5)) (g := g3) (off := 0) (i := 0) (v := (.agg #[(.int .i64 9), (.int .i64 9), (.int .i64 9), (.int .i64 9), (.slice (some ⟨b, 0, none⟩) (List.length ([(([97, 110, 110] : List UInt8), 0, 0, ([] : List (Int × Int)), ([(([107] : List UInt8), ([115] : List UInt8), 5)] : List ((List UInt8) × (List UInt8) × Int)))] : List Qd)) (List.length ([(([97, 110, 110] : List UInt8), 0, 0, ([] : List (Int × Int)), ([(([107] : List UInt8), ([115] : List UInt8), 5)] : List ((List UInt8) × (List UInt8) × Int)))] : List Qd)))])) (cs' := #[(.int .i64 9), (.int .i64 9), (.int .i64 9), (.int .i64 9), (.slice (some ⟨b, 0, none⟩) (List.length ([(([97, 110, 110] : List UInt8), 0, 0, ([] : List (Int × Int)), ([(([107] : List UInt8), ([115] : List UInt8), 5)] : List ((List UInt8) × (List UInt8) × Int)))] : List Qd)) (List.length ([(([97, 110, 110] : List UInt8), 0, 0, ([] : List (Int × Int)), ([(([107] : List UInt8), ([115] : List UInt8), 5)] : List ((List UInt8) × (List UInt8) × Int)))] : List Qd)))]) (d := none) (k := 5) K rfl K K l rfl K ?_
 intro o c
 refine iF ?_
 refine At.ret K ?_
 refine ⟨(.agg #[(.int .i64 9), (.int .i64 9), (.int .i64 9), (.int .i64 9), (.slice (some ⟨b, 0, none⟩) (List.length ([(([97, 110, 110] : List UInt8), 0, 0, ([] : List (Int × Int)), ([(([107] : List UInt8), ([115] : List UInt8), 5)] : List ((List UInt8) × (List UInt8) × Int)))] : List Qd)) (List.length ([(([97, 110, 110] : List UInt8), 0, 0, ([] : List (Int × Int)), ([(([107] : List UInt8), ([115] : List UInt8), 5)] : List ((List UInt8) × (List UInt8) × Int)))] : List Qd)))]), G9 K (J1 (a := 0) (t := 24) (g := g3) (off := 0) K (SP.get c (i := 0) rfl) K), ?_⟩
 exact ⟨g7, b, rfl, SP.sel c [1, 2] rfl rfl⟩
def Q0 (a : Bool) : Option (Bool) :=
  (some (a))
def X7  : Option (Bool) :=
  ((Je ).bind fun z1 => ((Jx 9 9 9 9 ([(([97, 110, 110] : List UInt8), 0, 0, ([] : List (Int × Int)), ([(([107] : List UInt8), ([115] : List UInt8), 5)] : List ((List UInt8) × (List UInt8) × Int)))] : List Qd)).bind fun z9 => (optE z9 (some (false)) (fun a => ((Uh a.1 a.2.1 a.2.2.1 a.2.2.2.1 ([(([97, 110, 110] : List UInt8), 0, 0, ([] : List (Int × Int)), ([(([107] : List UInt8), ([115] : List UInt8), 5)] : List ((List UInt8) × (List UInt8) × Int)))] : List Qd) a.2.2.2.2).bind fun f => ((Uh a.1 a.2.1 a.2.2.1 a.2.2.2.1 ([(([97, 110, 110] : List UInt8), 0, 0, ([] : List (Int × Int)), ([(([107] : List UInt8), ([115] : List UInt8), 5)] : List ((List UInt8) × (List UInt8) × Int)))] : List Qd) a.2.2.2.2).bind fun g => ((Vt a.1 a.2.1 a.2.2.1 a.2.2.2.1 ([(([97, 110, 110] : List UInt8), 0, 0, ([] : List (Int × Int)), ([(([107] : List UInt8), ([115] : List UInt8), 5)] : List ((List UInt8) × (List UInt8) × Int)))] : List Qd) a.2.2.2.2 f.1 f.2.1 f.2.2.1 f.2.2.2.1 f.2.2.2.2 1 ([97, 110, 110] : List UInt8) ([107] : List UInt8) 0 0 1 ([110] : List UInt8)).bind fun d => ((Zc a.1 a.2.1 a.2.2.1 a.2.2.2.1 ([(([97, 110, 110] : List UInt8), 0, 0, ([] : List (Int × Int)), ([(([107] : List UInt8), ([115] : List UInt8), 5)] : List ((List UInt8) × (List UInt8) × Int)))] : List Qd) a.2.2.2.2 ([97, 110, 110] : List UInt8) ([107] : List UInt8) ([110] : List UInt8)).bind fun i => ((Vt a.1 a.2.1 a.2.2.1 a.2.2.2.1 ([(([97, 110, 110] : List UInt8), 0, 0, ([] : List (Int × Int)), ([(([107] : List UInt8), ([115] : List UInt8), 5)] : List ((List UInt8) × (List UInt8) × Int)))] : List Qd) a.2.2.2.2 d.2.2.2.2.2.2.1 d.2.2.2.2.2.2.2.1 d.2.2.2.2.2.2.2.2.1 d.2.2.2.2.2.2.2.2.2.1 d.2.2.2.2.2.2.2.2.2.2 3 i ([] : List UInt8) 0 0 2 ([109] : List UInt8)).bind fun c => ((Z1 a.1 a.2.1 a.2.2.1 a.2.2.2.1 ([(([97, 110, 110] : List UInt8), 0, 0, ([] : List (Int × Int)), ([(([107] : List UInt8), ([115] : List UInt8), 5)] : List ((List UInt8) × (List UInt8) × Int)))] : List Qd) a.2.2.2.2 c.2.2.2.2.2.2.1 c.2.2.2.2.2.2.2.1 c.2.2.2.2.2.2.2.2.1 c.2.2.2.2.2.2.2.2.2.1 c.2.2.2.2.2.2.2.2.2.2).bind fun h => ((Vt a.1 a.2.1 a.2.2.1 a.2.2.2.1 ([(([97, 110, 110] : List UInt8), 0, 0, ([] : List (Int × Int)), ([(([107] : List UInt8), ([115] : List UInt8), 5)] : List ((List UInt8) × (List UInt8) × Int)))] : List Qd) a.2.2.2.2 c.2.2.2.2.2.2.1 c.2.2.2.2.2.2.2.1 c.2.2.2.2.2.2.2.2.1 c.2.2.2.2.2.2.2.2.2.1 c.2.2.2.2.2.2.2.2.2.2 13 ([] : List UInt8) ([] : List UInt8) 0 0 3 ([] : List UInt8)).bind fun e => ((Vt a.1 a.2.1 a.2.2.1 a.2.2.2.1 ([(([97, 110, 110] : List UInt8), 0, 0, ([] : List (Int × Int)), ([(([107] : List UInt8), ([115] : List UInt8), 5)] : List ((List UInt8) × (List UInt8) × Int)))] : List Qd) a.2.2.2.2 g.1 g.2.1 g.2.2.1 g.2.2.2.1 g.2.2.2.2 3 ([] : List UInt8) ([] : List UInt8) 0 0 1 ([110] : List UInt8)).bind fun b => ((Z1 a.1 a.2.1 a.2.2.1 a.2.2.2.1 ([(([97, 110, 110] : List UInt8), 0, 0, ([] : List (Int × Int)), ([(([107] : List UInt8), ([115] : List UInt8), 5)] : List ((List UInt8) × (List UInt8) × Int)))] : List Qd) a.2.2.2.2 b.2.2.2.2.2.2.1 b.2.2.2.2.2.2.2.1 b.2.2.2.2.2.2.2.2.1 b.2.2.2.2.2.2.2.2.2.1 b.2.2.2.2.2.2.2.2.2.2).bind fun j => (cond ((d.1 == 2) && ((d.2.1 == ([110] : List UInt8)) && ((d.2.2.1 == ([] : List UInt8)) && ((d.2.2.2.1 == 0) && (d.2.2.2.2.1 == 0))))) (cond d.2.2.2.2.2.1 (cond (c.1 == 4) (cond c.2.2.2.2.2.1 (cond (h.1 == ([97, 110, 110] : List UInt8)) (cond h.2 (cond (!e.2.2.2.2.2.1) (cond ((b.1 == 5) && ((b.2.1 == ([] : List UInt8)) && ((b.2.2.1 == ([] : List UInt8)) && ((b.2.2.2.1 == 1) && (b.2.2.2.2.1 == 0))))) (cond (!j.2) ((Y5 a.1 a.2.1 a.2.2.1 a.2.2.2.1 ([(([97, 110, 110] : List UInt8), 0, 0, ([] : List (Int × Int)), ([(([107] : List UInt8), ([115] : List UInt8), 5)] : List ((List UInt8) × (List UInt8) × Int)))] : List Qd) a.2.2.2.2 e.2.2.2.2.2.2.1 e.2.2.2.2.2.2.2.1 e.2.2.2.2.2.2.2.2.1 e.2.2.2.2.2.2.2.2.2.1 e.2.2.2.2.2.2.2.2.2.2).bind fun k => (cond k ((Y5 a.1 a.2.1 a.2.2.1 a.2.2.2.1 ([(([97, 110, 110] : List UInt8), 0, 0, ([] : List (Int × Int)), ([(([107] : List UInt8), ([115] : List UInt8), 5)] : List ((List UInt8) × (List UInt8) × Int)))] : List Qd) a.2.2.2.2 b.2.2.2.2.2.2.1 b.2.2.2.2.2.2.2.1 b.2.2.2.2.2.2.2.2.1 b.2.2.2.2.2.2.2.2.2.1 b.2.2.2.2.2.2.2.2.2.2).bind fun l => (Q0 l)) (Q0 false))) (Q0 false)) (Q0 false)) (Q0 false)) (Q0 false)) (Q0 false)) (Q0 false)) (Q0 false)) (Q0 false)) (Q0 false)))))))))))))))
set_option maxRecDepth 100000 in
set_option maxHeartbeats 4000000 in
theorem N5   (w0 : World) (hL : Rv w0)  (r : (Bool)) (H : X7  = some r) :
  Calls Tryz.prog 31 #[] w0 (fun e w' => e = .returned (.bool r) ∧ SP [] w0 w' []) := by
 unfold X7 at H
 refine Qt (n := 108) Tryz.func31 K K K ?_
 have f8 := Q2 [] w0
 refine aQ ?_
 refine aR ?_
 refine iR 1 1 [(0, (.bool false))] ?_
 refine iF ?_
 refine aQ ?_
 refine aR ?_
 obtain ⟨z1, f9, H⟩ := Qc H
 refine iS 1 ?_
 refine cF 56 #[] #[] 16 Tryz.call56 (Gd   w0  z1 f9) ?_
 rintro e w3 ⟨g5, g6, rfl, d4⟩
 refine ⟨_, rfl, ?_⟩
 have a7 := SP.call f8 d4
 clear d4
 obtain ⟨z9, d5, H⟩ := Qc H
 rcases z9 with _ | c
 ·have H := optN H
  refine iS 2 ?_
  refine cF 18 #[(.tmp 16)] #[24] 17 Tryz.call18 (Jt (some ⟨g6, 0, none⟩) (List.length ([(([97, 110, 110] : List UInt8), 0, 0, ([] : List (Int × Int)), ([(([107] : List UInt8), ([115] : List UInt8), 5)] : List ((List UInt8) × (List UInt8) × Int)))] : List Qd)) 9 9 9 9 ([(([97, 110, 110] : List UInt8), 0, 0, (none, 0, ([] : List (Int × Int))), ((some ⟨g5, 0, none⟩), (List.length ([(([107] : List UInt8), ([115] : List UInt8), 5)] : List ((List UInt8) × (List UInt8) × Int))), ([(([107] : List UInt8), ([115] : List UInt8), 5)] : List ((List UInt8) × (List UInt8) × Int))))] : List Q9) w3 (Zs hL (SP.keeps a7)) (Db (V2 (SP.get a7 (i := 1) rfl)) (Ud (Z4 Yn (Z4 Yn (Z4 Yn (Z4 (Jv (RdT.nil (Qv (Qi .u32) (Qi .i64)) w3)) (Jv (V2 (SP.get a7 (i := 0) rfl))))))) Ni)) none d5) ?_
  rintro e j5 ⟨rfl, d6⟩
  refine ⟨_, rfl, ?_⟩
  have g0 := SP.call a7 d6
  clear d6
  refine iR 1 3 [(1, (.pointer none))] ?_
  refine iF ?_
  refine aQ ?_
  refine aQ ?_
  refine aR ?_
  refine iR 2 2 [(18, (.pointer none)), (19, (.bool true))] ?_
  refine iF ?_
  refine Zv K (o := (.tmp 19)) K (b := true) K (fun d7 => ?_) (fun d7 => ?_)
  rotate_left
  ·cases d7
  refine aQ ?_
  refine aR ?_
  refine iR 1 1 [(0, (.bool false))] ?_
  refine iF ?_
  refine At.ret K ?_
  refine ⟨(.bool false), K, ?_⟩
  obtain rfl := Qg H
  exact ⟨rfl, SP.sel g0 [] rfl rfl⟩
 ·have H := optS H
  refine iS 2 ?_
  refine cF 18 #[(.tmp 16)] #[24] 17 Tryz.call18 (Jt (some ⟨g6, 0, none⟩) (List.length ([(([97, 110, 110] : List UInt8), 0, 0, ([] : List (Int × Int)), ([(([107] : List UInt8), ([115] : List UInt8), 5)] : List ((List UInt8) × (List UInt8) × Int)))] : List Qd)) 9 9 9 9 ([(([97, 110, 110] : List UInt8), 0, 0, (none, 0, ([] : List (Int × Int))), ((some ⟨g5, 0, none⟩), (List.length ([(([107] : List UInt8), ([115] : List UInt8), 5)] : List ((List UInt8) × (List UInt8) × Int))), ([(([107] : List UInt8), ([115] : List UInt8), 5)] : List ((List UInt8) × (List UInt8) × Int))))] : List Q9) w3 (Zs hL (SP.keeps a7)) (Db (V2 (SP.get a7 (i := 1) rfl)) (Ud (Z4 Yn (Z4 Yn (Z4 Yn (Z4 (Jv (RdT.nil (Qv (Qi .u32) (Qi .i64)) w3)) (Jv (V2 (SP.get a7 (i := 0) rfl))))))) Ni)) (some c) d5) ?_
  rintro e g1 ⟨p, u, rfl, d8⟩
  refine ⟨_, rfl, ?_⟩
  have b2 := SP.call a7 d8
  clear d8
  refine iR 1 3 [(1, (pt p 0))] ?_
  refine iF ?_
  refine aQ ?_
  refine aQ ?_
  refine aR ?_
  refine iR 2 2 [(18, (pt p 0)), (19, (.bool false))] ?_
  refine iF ?_
  refine Zv K (o := (.tmp 19)) K (b := false) K (fun d9 => ?_) (fun d9 => ?_)
  ·cases d9
  refine At.skip K ?_
  refine aQ ?_
  refine aR ?_
  refine iR 1 1 [(20, (pt p 0))] ?_
  obtain ⟨a2, g2, H⟩ := Qc H
  refine iS 2 ?_
  refine cF 33 #[(.tmp 20)] #[29] 21 Tryz.call33 (Ut p (some ⟨g6, 0, none⟩) (List.length ([(([97, 110, 110] : List UInt8), 0, 0, ([] : List (Int × Int)), ([(([107] : List UInt8), ([115] : List UInt8), 5)] : List ((List UInt8) × (List UInt8) × Int)))] : List Qd)) u c.1 c.2.1 c.2.2.1 c.2.2.2.1 ([(([97, 110, 110] : List UInt8), 0, 0, (none, 0, ([] : List (Int × Int))), ((some ⟨g5, 0, none⟩), (List.length ([(([107] : List UInt8), ([115] : List UInt8), 5)] : List ((List UInt8) × (List UInt8) × Int))), ([(([107] : List UInt8), ([115] : List UInt8), 5)] : List ((List UInt8) × (List UInt8) × Int))))] : List Q9) c.2.2.2.2 g1 (Xy b2 [2, 3] rfl rfl) (fun w hm => Db (V2 (SP.still b2 (l := [2, 3]) (i := 1) rfl rfl rfl hm)) (Ud (Z4 Yn (Z4 Yn (Z4 Yn (Z4 (Gk (Qv (Qi .u32) (Qi .i64)) dT w) (Jv (V2 (SP.still b2 (l := [2, 3]) (i := 0) rfl rfl rfl hm))))))) Ni)) a2 g2) ?_
  rintro e e0 ⟨s, rfl, e1⟩
  refine ⟨_, rfl, ?_⟩
  have b3 : SP [] w0 e0 [Us 48 (Qv Zf (Qv Zf (Qi .i64))) (some ⟨g5, 0, none⟩) (List.length ([(([107] : List UInt8), ([115] : List UInt8), 5)] : List ((List UInt8) × (List UInt8) × Int))) ([(([107] : List UInt8), ([115] : List UInt8), 5)] : List ((List UInt8) × (List UInt8) × Int)), Us 44 J8 (some ⟨g6, 0, none⟩) (List.length ([(([97, 110, 110] : List UInt8), 0, 0, ([] : List (Int × Int)), ([(([107] : List UInt8), ([115] : List UInt8), 5)] : List ((List UInt8) × (List UInt8) × Int)))] : List Qd)) ([(([97, 110, 110] : List UInt8), 0, 0, (none, 0, ([] : List (Int × Int))), ((some ⟨g5, 0, none⟩), (List.length ([(([107] : List UInt8), ([115] : List UInt8), 5)] : List ((List UInt8) × (List UInt8) × Int))), ([(([107] : List UInt8), ([115] : List UInt8), 5)] : List ((List UInt8) × (List UInt8) × Int))))] : List Q9), Qq s 95 #[(pt p 0), (V7 a2.1 s), (.string ⟨List.toArray a2.2.1⟩), (.string ⟨List.toArray a2.2.2.1⟩), (.string ⟨List.toArray a2.2.2.2.1⟩), (.bool a2.2.2.2.2)], Qq p 79 #[(.int .i64 c.1), (.int .i64 c.2.1), (.int .i64 c.2.2.1), (.int .i64 c.2.2.2.1), (.slice (some ⟨g6, 0, none⟩) (List.length ([(([97, 110, 110] : List UInt8), 0, 0, ([] : List (Int × Int)), ([(([107] : List UInt8), ([115] : List UInt8), 5)] : List ((List UInt8) × (List UInt8) × Int)))] : List Qd)) (List.length ([(([97, 110, 110] : List UInt8), 0, 0, ([] : List (Int × Int)), ([(([107] : List UInt8), ([115] : List UInt8), 5)] : List ((List UInt8) × (List UInt8) × Int)))] : List Qd))), (.map (some u))], Vp u c.2.2.2.2] := Vy b2 [2, 3] [0, 1] rfl rfl e1 rfl
  clear e1
  refine iR 1 3 [(2, (pt s 0))] ?_
  refine iF ?_
  refine aQ ?_
  refine aR ?_
  refine iR 1 1 [(22, (pt p 0))] ?_
  obtain ⟨q, g3, H⟩ := Qc H
  refine iS 2 ?_
  refine cF 33 #[(.tmp 22)] #[29] 23 Tryz.call33 (Ut p (some ⟨g6, 0, none⟩) (List.length ([(([97, 110, 110] : List UInt8), 0, 0, ([] : List (Int × Int)), ([(([107] : List UInt8), ([115] : List UInt8), 5)] : List ((List UInt8) × (List UInt8) × Int)))] : List Qd)) u c.1 c.2.1 c.2.2.1 c.2.2.2.1 ([(([97, 110, 110] : List UInt8), 0, 0, (none, 0, ([] : List (Int × Int))), ((some ⟨g5, 0, none⟩), (List.length ([(([107] : List UInt8), ([115] : List UInt8), 5)] : List ((List UInt8) × (List UInt8) × Int))), ([(([107] : List UInt8), ([115] : List UInt8), 5)] : List ((List UInt8) × (List UInt8) × Int))))] : List Q9) c.2.2.2.2 e0 (Xy b3 [3, 4] rfl rfl) (fun w hm => Db (V2 (SP.still b3 (l := [3, 4]) (i := 1) rfl rfl rfl hm)) (Ud (Z4 Yn (Z4 Yn (Z4 Yn (Z4 (Gk (Qv (Qi .u32) (Qi .i64)) dT w) (Jv (V2 (SP.still b3 (l := [3, 4]) (i := 0) rfl rfl rfl hm))))))) Ni)) q g3) ?_
  rintro e e2 ⟨a0, rfl, e3⟩
  refine ⟨_, rfl, ?_⟩
  have b4 : SP [] w0 e2 [Us 48 (Qv Zf (Qv Zf (Qi .i64))) (some ⟨g5, 0, none⟩) (List.length ([(([107] : List UInt8), ([115] : List UInt8), 5)] : List ((List UInt8) × (List UInt8) × Int))) ([(([107] : List UInt8), ([115] : List UInt8), 5)] : List ((List UInt8) × (List UInt8) × Int)), Us 44 J8 (some ⟨g6, 0, none⟩) (List.length ([(([97, 110, 110] : List UInt8), 0, 0, ([] : List (Int × Int)), ([(([107] : List UInt8), ([115] : List UInt8), 5)] : List ((List UInt8) × (List UInt8) × Int)))] : List Qd)) ([(([97, 110, 110] : List UInt8), 0, 0, (none, 0, ([] : List (Int × Int))), ((some ⟨g5, 0, none⟩), (List.length ([(([107] : List UInt8), ([115] : List UInt8), 5)] : List ((List UInt8) × (List UInt8) × Int))), ([(([107] : List UInt8), ([115] : List UInt8), 5)] : List ((List UInt8) × (List UInt8) × Int))))] : List Q9), Qq s 95 #[(pt p 0), (V7 a2.1 s), (.string ⟨List.toArray a2.2.1⟩), (.string ⟨List.toArray a2.2.2.1⟩), (.string ⟨List.toArray a2.2.2.2.1⟩), (.bool a2.2.2.2.2)], Qq a0 95 #[(pt p 0), (V7 q.1 a0), (.string ⟨List.toArray q.2.1⟩), (.string ⟨List.toArray q.2.2.1⟩), (.string ⟨List.toArray q.2.2.2.1⟩), (.bool q.2.2.2.2)], Qq p 79 #[(.int .i64 c.1), (.int .i64 c.2.1), (.int .i64 c.2.2.1), (.int .i64 c.2.2.2.1), (.slice (some ⟨g6, 0, none⟩) (List.length ([(([97, 110, 110] : List UInt8), 0, 0, ([] : List (Int × Int)), ([(([107] : List UInt8), ([115] : List UInt8), 5)] : List ((List UInt8) × (List UInt8) × Int)))] : List Qd)) (List.length ([(([97, 110, 110] : List UInt8), 0, 0, ([] : List (Int × Int)), ([(([107] : List UInt8), ([115] : List UInt8), 5)] : List ((List UInt8) × (List UInt8) × Int)))] : List Qd))), (.map (some u))], Vp u c.2.2.2.2] := Vy b3 [3, 4] [0, 1, 2] rfl rfl e3 rfl
  clear e3
  refine iR 1 3 [(3, (pt a0 0))] ?_
  refine iF ?_
  refine aQ ?_
  refine aQ ?_
  refine aR ?_
  refine iR 6 6 [(24, (pt s 0)), (25, (.bool false)), (26, (.bool false)), (27, (pt a0 0)), (28, (.bool false)), (29, (.bool false))] ?_
  refine iF ?_
  refine Zv K (o := (.tmp 29)) K (b := false) K (fun e4 => ?_) (fun e4 => ?_)
  ·cases e4
  refine At.skip K ?_
  refine aQ ?_
  refine aR ?_
  refine iR 2 2 [(31, (pt s 0)), (32, (.agg #[(.int .i64 1), (.string ⟨List.toArray ([97, 110, 110] : List UInt8)⟩), (.string ⟨List.toArray ([107] : List UInt8)⟩), (.int .i64 0), (.int .i64 0)]))] ?_
  obtain ⟨f, g4, H⟩ := Qc H
  refine iS 3 ?_
  refine cF 34 #[(.tmp 31), (.tmp 32), (.const (.int .i64 (1))), (.const (.string ⟨List.toArray ([110] : List UInt8)⟩))] #[60, 63, 2, 9] 33 Tryz.call34 (Za s p (some ⟨g6, 0, none⟩) (List.length ([(([97, 110, 110] : List UInt8), 0, 0, ([] : List (Int × Int)), ([(([107] : List UInt8), ([115] : List UInt8), 5)] : List ((List UInt8) × (List UInt8) × Int)))] : List Qd)) u c.1 c.2.1 c.2.2.1 c.2.2.2.1 ([(([97, 110, 110] : List UInt8), 0, 0, (none, 0, ([] : List (Int × Int))), ((some ⟨g5, 0, none⟩), (List.length ([(([107] : List UInt8), ([115] : List UInt8), 5)] : List ((List UInt8) × (List UInt8) × Int))), ([(([107] : List UInt8), ([115] : List UInt8), 5)] : List ((List UInt8) × (List UInt8) × Int))))] : List Q9) c.2.2.2.2 a2.1 a2.2.1 a2.2.2.1 a2.2.2.2.1 a2.2.2.2.2 1 ([97, 110, 110] : List UInt8) ([107] : List UInt8) 0 0 1 ([110] : List UInt8) e2 (Xy b4 [4, 5, 2] rfl rfl) (fun w hm => Db (V2 (SP.still b4 (l := [4, 5, 2]) (i := 1) rfl rfl rfl hm)) (Ud (Z4 Yn (Z4 Yn (Z4 Yn (Z4 (Gk (Qv (Qi .u32) (Qi .i64)) dT w) (Jv (V2 (SP.still b4 (l := [4, 5, 2]) (i := 0) rfl rfl rfl hm))))))) Ni)) f g4) ?_
  rintro e g7 ⟨rfl, e5⟩
  refine ⟨_, rfl, ?_⟩
  have g8 : SP [] w0 g7 [Us 48 (Qv Zf (Qv Zf (Qi .i64))) (some ⟨g5, 0, none⟩) (List.length ([(([107] : List UInt8), ([115] : List UInt8), 5)] : List ((List UInt8) × (List UInt8) × Int))) ([(([107] : List UInt8), ([115] : List UInt8), 5)] : List ((List UInt8) × (List UInt8) × Int)), Us 44 J8 (some ⟨g6, 0, none⟩) (List.length ([(([97, 110, 110] : List UInt8), 0, 0, ([] : List (Int × Int)), ([(([107] : List UInt8), ([115] : List UInt8), 5)] : List ((List UInt8) × (List UInt8) × Int)))] : List Qd)) ([(([97, 110, 110] : List UInt8), 0, 0, (none, 0, ([] : List (Int × Int))), ((some ⟨g5, 0, none⟩), (List.length ([(([107] : List UInt8), ([115] : List UInt8), 5)] : List ((List UInt8) × (List UInt8) × Int))), ([(([107] : List UInt8), ([115] : List UInt8), 5)] : List ((List UInt8) × (List UInt8) × Int))))] : List Q9), Qq a0 95 #[(pt p 0), (V7 q.1 a0), (.string ⟨List.toArray q.2.1⟩), (.string ⟨List.toArray q.2.2.1⟩), (.string ⟨List.toArray q.2.2.2.1⟩), (.bool q.2.2.2.2)], Qq p 79 #[(.int .i64 c.1), (.int .i64 c.2.1), (.int .i64 c.2.2.1), (.int .i64 c.2.2.2.1), (.slice (some ⟨g6, 0, none⟩) (List.length ([(([97, 110, 110] : List UInt8), 0, 0, ([] : List (Int × Int)), ([(([107] : List UInt8), ([115] : List UInt8), 5)] : List ((List UInt8) × (List UInt8) × Int)))] : List Qd)) (List.length ([(([97, 110, 110] : List UInt8), 0, 0, ([] : List (Int × Int)), ([(([107] : List UInt8), ([115] : List UInt8), 5)] : List ((List UInt8) × (List UInt8) × Int)))] : List Qd))), (.map (some u))], Vp u c.2.2.2.2, Qq s 95 #[(pt p 0), (V7 f.2.2.2.2.2.2.1 s), (.string ⟨List.toArray f.2.2.2.2.2.2.2.1⟩), (.string ⟨List.toArray f.2.2.2.2.2.2.2.2.1⟩), (.string ⟨List.toArray f.2.2.2.2.2.2.2.2.2.1⟩), (.bool f.2.2.2.2.2.2.2.2.2.2)]] := Vy b4 [4, 5, 2] [0, 1, 3] rfl rfl e5 rfl
  clear e5
  refine iR 3 6 [(30, (.tuple #[(.agg #[(.int .i64 f.1), (.string ⟨List.toArray f.2.1⟩), (.string ⟨List.toArray f.2.2.1⟩), (.int .i64 f.2.2.2.1), (.int .i64 f.2.2.2.2.1)]), (.bool f.2.2.2.2.2.1)])), (34, (.agg #[(.int .i64 f.1), (.string ⟨List.toArray f.2.1⟩), (.string ⟨List.toArray f.2.2.1⟩), (.int .i64 f.2.2.2.1), (.int .i64 f.2.2.2.2.1)])), (35, (.bool f.2.2.2.2.2.1))] ?_
  refine iS 7 ?_
  refine Qk.alloc (t := 63) (z := (.agg #[(.int .i64 0), (.string ⟨List.toArray ([] : List UInt8)⟩), (.string ⟨List.toArray ([] : List UInt8)⟩), (.int .i64 0), (.int .i64 0)])) (d := (some 4)) (k := 6) K rfl K g8 ?_
  intro a5 j6 g9
  refine iS 8 ?_
  refine Qk.store (t := 63) (x := (.tmp 4)) (y := (.tmp 34)) (g := a5) (off := 0) (i := 6) (v := (.agg #[(.int .i64 f.1), (.string ⟨List.toArray f.2.1⟩), (.string ⟨List.toArray f.2.2.1⟩), (.int .i64 f.2.2.2.1), (.int .i64 f.2.2.2.2.1)])) (cs' := #[(.int .i64 f.1), (.string ⟨List.toArray f.2.1⟩), (.string ⟨List.toArray f.2.2.1⟩), (.int .i64 f.2.2.2.1), (.int .i64 f.2.2.2.2.1)]) (d := none) (k := 7) K rfl K K g9 rfl K ?_
  intro h1 b5
  refine iR 1 9 [(5, (.bool f.2.2.2.2.2.1))] ?_
  refine iF ?_
  refine aQ ?_
  refine aR ?_
  refine iR 2 2 [(37, (pt s 0)), (38, (pt p 0))] ?_
  obtain ⟨c3, h2, H⟩ := Qc H
  refine iS 3 ?_
  refine cF 24 #[(.tmp 38), (.const (.string ⟨List.toArray ([97, 110, 110] : List UInt8)⟩)), (.const (.string ⟨List.toArray ([107] : List UInt8)⟩)), (.const (.string ⟨List.toArray ([110] : List UInt8)⟩))] #[29, 9, 9, 9] 39 Tryz.call24 (Xo p (some ⟨g6, 0, none⟩) (List.length ([(([97, 110, 110] : List UInt8), 0, 0, ([] : List (Int × Int)), ([(([107] : List UInt8), ([115] : List UInt8), 5)] : List ((List UInt8) × (List UInt8) × Int)))] : List Qd)) u c.1 c.2.1 c.2.2.1 c.2.2.2.1 ([(([97, 110, 110] : List UInt8), 0, 0, (none, 0, ([] : List (Int × Int))), ((some ⟨g5, 0, none⟩), (List.length ([(([107] : List UInt8), ([115] : List UInt8), 5)] : List ((List UInt8) × (List UInt8) × Int))), ([(([107] : List UInt8), ([115] : List UInt8), 5)] : List ((List UInt8) × (List UInt8) × Int))))] : List Q9) c.2.2.2.2 ([97, 110, 110] : List UInt8) ([107] : List UInt8) ([110] : List UInt8) h1 (Xy b5 [3, 4] rfl rfl) (fun w hm => Db (V2 (SP.still b5 (l := [3, 4]) (i := 1) rfl rfl rfl hm)) (Ud (Z4 Yn (Z4 Yn (Z4 Yn (Z4 (Gk (Qv (Qi .u32) (Qi .i64)) dT w) (Jv (V2 (SP.still b5 (l := [3, 4]) (i := 0) rfl rfl rfl hm))))))) Ni)) c3 h2) ?_
  rintro e e6 ⟨rfl, e7⟩
  refine ⟨_, rfl, ?_⟩
  have b6 : SP [] w0 e6 [Us 48 (Qv Zf (Qv Zf (Qi .i64))) (some ⟨g5, 0, none⟩) (List.length ([(([107] : List UInt8), ([115] : List UInt8), 5)] : List ((List UInt8) × (List UInt8) × Int))) ([(([107] : List UInt8), ([115] : List UInt8), 5)] : List ((List UInt8) × (List UInt8) × Int)), Us 44 J8 (some ⟨g6, 0, none⟩) (List.length ([(([97, 110, 110] : List UInt8), 0, 0, ([] : List (Int × Int)), ([(([107] : List UInt8), ([115] : List UInt8), 5)] : List ((List UInt8) × (List UInt8) × Int)))] : List Qd)) ([(([97, 110, 110] : List UInt8), 0, 0, (none, 0, ([] : List (Int × Int))), ((some ⟨g5, 0, none⟩), (List.length ([(([107] : List UInt8), ([115] : List UInt8), 5)] : List ((List UInt8) × (List UInt8) × Int))), ([(([107] : List UInt8), ([115] : List UInt8), 5)] : List ((List UInt8) × (List UInt8) × Int))))] : List Q9), Qq a0 95 #[(pt p 0), (V7 q.1 a0), (.string ⟨List.toArray q.2.1⟩), (.string ⟨List.toArray q.2.2.1⟩), (.string ⟨List.toArray q.2.2.2.1⟩), (.bool q.2.2.2.2)], Qq s 95 #[(pt p 0), (V7 f.2.2.2.2.2.2.1 s), (.string ⟨List.toArray f.2.2.2.2.2.2.2.1⟩), (.string ⟨List.toArray f.2.2.2.2.2.2.2.2.1⟩), (.string ⟨List.toArray f.2.2.2.2.2.2.2.2.2.1⟩), (.bool f.2.2.2.2.2.2.2.2.2.2)], Qq a5 63 #[(.int .i64 f.1), (.string ⟨List.toArray f.2.1⟩), (.string ⟨List.toArray f.2.2.1⟩), (.int .i64 f.2.2.2.1), (.int .i64 f.2.2.2.2.1)], Qq p 79 #[(.int .i64 c.1), (.int .i64 c.2.1), (.int .i64 c.2.2.1), (.int .i64 c.2.2.2.1), (.slice (some ⟨g6, 0, none⟩) (List.length ([(([97, 110, 110] : List UInt8), 0, 0, ([] : List (Int × Int)), ([(([107] : List UInt8), ([115] : List UInt8), 5)] : List ((List UInt8) × (List UInt8) × Int)))] : List Qd)) (List.length ([(([97, 110, 110] : List UInt8), 0, 0, ([] : List (Int × Int)), ([(([107] : List UInt8), ([115] : List UInt8), 5)] : List ((List UInt8) × (List UInt8) × Int)))] : List Qd))), (.map (some u))], Vp u c.2.2.2.2] := Vy b5 [3, 4] [0, 1, 2, 5, 6] rfl rfl e7 rfl
  clear e7
  refine iR 1 4 [(40, (.agg #[(.int .i64 3), (.string ⟨List.toArray c3⟩), (.string ⟨List.toArray ([] : List UInt8)⟩), (.int .i64 0), (.int .i64 0)]))] ?_
  obtain ⟨j, h3, H⟩ := Qc H
  refine iS 5 ?_
  refine cF 34 #[(.tmp 37), (.tmp 40), (.const (.int .i64 (2))), (.const (.string ⟨List.toArray ([109] : List UInt8)⟩))] #[60, 63, 2, 9] 41 Tryz.call34 (Za s p (some ⟨g6, 0, none⟩) (List.length ([(([97, 110, 110] : List UInt8), 0, 0, ([] : List (Int × Int)), ([(([107] : List UInt8), ([115] : List UInt8), 5)] : List ((List UInt8) × (List UInt8) × Int)))] : List Qd)) u c.1 c.2.1 c.2.2.1 c.2.2.2.1 ([(([97, 110, 110] : List UInt8), 0, 0, (none, 0, ([] : List (Int × Int))), ((some ⟨g5, 0, none⟩), (List.length ([(([107] : List UInt8), ([115] : List UInt8), 5)] : List ((List UInt8) × (List UInt8) × Int))), ([(([107] : List UInt8), ([115] : List UInt8), 5)] : List ((List UInt8) × (List UInt8) × Int))))] : List Q9) c.2.2.2.2 f.2.2.2.2.2.2.1 f.2.2.2.2.2.2.2.1 f.2.2.2.2.2.2.2.2.1 f.2.2.2.2.2.2.2.2.2.1 f.2.2.2.2.2.2.2.2.2.2 3 c3 ([] : List UInt8) 0 0 2 ([109] : List UInt8) e6 (Xy b6 [5, 6, 3] rfl rfl) (fun w hm => Db (V2 (SP.still b6 (l := [5, 6, 3]) (i := 1) rfl rfl rfl hm)) (Ud (Z4 Yn (Z4 Yn (Z4 Yn (Z4 (Gk (Qv (Qi .u32) (Qi .i64)) dT w) (Jv (V2 (SP.still b6 (l := [5, 6, 3]) (i := 0) rfl rfl rfl hm))))))) Ni)) j h3) ?_
  rintro e h4 ⟨rfl, e8⟩
  refine ⟨_, rfl, ?_⟩
  have h5 : SP [] w0 h4 [Us 48 (Qv Zf (Qv Zf (Qi .i64))) (some ⟨g5, 0, none⟩) (List.length ([(([107] : List UInt8), ([115] : List UInt8), 5)] : List ((List UInt8) × (List UInt8) × Int))) ([(([107] : List UInt8), ([115] : List UInt8), 5)] : List ((List UInt8) × (List UInt8) × Int)), Us 44 J8 (some ⟨g6, 0, none⟩) (List.length ([(([97, 110, 110] : List UInt8), 0, 0, ([] : List (Int × Int)), ([(([107] : List UInt8), ([115] : List UInt8), 5)] : List ((List UInt8) × (List UInt8) × Int)))] : List Qd)) ([(([97, 110, 110] : List UInt8), 0, 0, (none, 0, ([] : List (Int × Int))), ((some ⟨g5, 0, none⟩), (List.length ([(([107] : List UInt8), ([115] : List UInt8), 5)] : List ((List UInt8) × (List UInt8) × Int))), ([(([107] : List UInt8), ([115] : List UInt8), 5)] : List ((List UInt8) × (List UInt8) × Int))))] : List Q9), Qq a0 95 #[(pt p 0), (V7 q.1 a0), (.string ⟨List.toArray q.2.1⟩), (.string ⟨List.toArray q.2.2.1⟩), (.string ⟨List.toArray q.2.2.2.1⟩), (.bool q.2.2.2.2)], Qq a5 63 #[(.int .i64 f.1), (.string ⟨List.toArray f.2.1⟩), (.string ⟨List.toArray f.2.2.1⟩), (.int .i64 f.2.2.2.1), (.int .i64 f.2.2.2.2.1)], Qq p 79 #[(.int .i64 c.1), (.int .i64 c.2.1), (.int .i64 c.2.2.1), (.int .i64 c.2.2.2.1), (.slice (some ⟨g6, 0, none⟩) (List.length ([(([97, 110, 110] : List UInt8), 0, 0, ([] : List (Int × Int)), ([(([107] : List UInt8), ([115] : List UInt8), 5)] : List ((List UInt8) × (List UInt8) × Int)))] : List Qd)) (List.length ([(([97, 110, 110] : List UInt8), 0, 0, ([] : List (Int × Int)), ([(([107] : List UInt8), ([115] : List UInt8), 5)] : List ((List UInt8) × (List UInt8) × Int)))] : List Qd))), (.map (some u))], Vp u c.2.2.2.2, Qq s 95 #[(pt p 0), (V7 j.2.2.2.2.2.2.1 s), (.string ⟨List.toArray j.2.2.2.2.2.2.2.1⟩), (.string ⟨List.toArray j.2.2.2.2.2.2.2.2.1⟩), (.string ⟨List.toArray j.2.2.2.2.2.2.2.2.2.1⟩), (.bool j.2.2.2.2.2.2.2.2.2.2)]] := Vy b6 [5, 6, 3] [0, 1, 2, 4] rfl rfl e8 rfl
  clear e8
  refine iR 3 8 [(36, (.tuple #[(.agg #[(.int .i64 j.1), (.string ⟨List.toArray j.2.1⟩), (.string ⟨List.toArray j.2.2.1⟩), (.int .i64 j.2.2.2.1), (.int .i64 j.2.2.2.2.1)]), (.bool j.2.2.2.2.2.1)])), (42, (.agg #[(.int .i64 j.1), (.string ⟨List.toArray j.2.1⟩), (.string ⟨List.toArray j.2.2.1⟩), (.int .i64 j.2.2.2.1), (.int .i64 j.2.2.2.2.1)])), (43, (.bool j.2.2.2.2.2.1))] ?_
  refine iS 9 ?_
  refine Qk.alloc (t := 63) (z := (.agg #[(.int .i64 0), (.string ⟨List.toArray ([] : List UInt8)⟩), (.string ⟨List.toArray ([] : List UInt8)⟩), (.int .i64 0), (.int .i64 0)])) (d := (some 6)) (k := 8) K rfl K h5 ?_
  intro a6 j7 h6
  refine iS 10 ?_
  refine Qk.store (t := 63) (x := (.tmp 6)) (y := (.tmp 42)) (g := a6) (off := 0) (i := 7) (v := (.agg #[(.int .i64 j.1), (.string ⟨List.toArray j.2.1⟩), (.string ⟨List.toArray j.2.2.1⟩), (.int .i64 j.2.2.2.1), (.int .i64 j.2.2.2.2.1)])) (cs' := #[(.int .i64 j.1), (.string ⟨List.toArray j.2.1⟩), (.string ⟨List.toArray j.2.2.1⟩), (.int .i64 j.2.2.2.1), (.int .i64 j.2.2.2.2.1)]) (d := none) (k := 9) K rfl K K h6 rfl K ?_
  intro h7 b7
  refine iR 1 11 [(7, (.bool j.2.2.2.2.2.1))] ?_
  refine iF ?_
  refine aQ ?_
  refine aR ?_
  refine iR 1 1 [(45, (pt s 0))] ?_
  obtain ⟨a1, h8, H⟩ := Qc H
  refine iS 2 ?_
  refine cF 35 #[(.tmp 45)] #[60] 46 Tryz.call35 (Y2 s p (some ⟨g6, 0, none⟩) (List.length ([(([97, 110, 110] : List UInt8), 0, 0, ([] : List (Int × Int)), ([(([107] : List UInt8), ([115] : List UInt8), 5)] : List ((List UInt8) × (List UInt8) × Int)))] : List Qd)) u c.1 c.2.1 c.2.2.1 c.2.2.2.1 ([(([97, 110, 110] : List UInt8), 0, 0, (none, 0, ([] : List (Int × Int))), ((some ⟨g5, 0, none⟩), (List.length ([(([107] : List UInt8), ([115] : List UInt8), 5)] : List ((List UInt8) × (List UInt8) × Int))), ([(([107] : List UInt8), ([115] : List UInt8), 5)] : List ((List UInt8) × (List UInt8) × Int))))] : List Q9) c.2.2.2.2 j.2.2.2.2.2.2.1 j.2.2.2.2.2.2.2.1 j.2.2.2.2.2.2.2.2.1 j.2.2.2.2.2.2.2.2.2.1 j.2.2.2.2.2.2.2.2.2.2 h7 (Xy b7 [4, 5, 6] rfl rfl) (fun w hm => Db (V2 (SP.still b7 (l := [4, 5, 6]) (i := 1) rfl rfl rfl hm)) (Ud (Z4 Yn (Z4 Yn (Z4 Yn (Z4 (Gk (Qv (Qi .u32) (Qi .i64)) dT w) (Jv (V2 (SP.still b7 (l := [4, 5, 6]) (i := 0) rfl rfl rfl hm))))))) Ni)) a1 h8) ?_
  rintro e e9 ⟨rfl, f0⟩
  refine ⟨_, rfl, ?_⟩
  have b8 : SP [] w0 e9 [Us 48 (Qv Zf (Qv Zf (Qi .i64))) (some ⟨g5, 0, none⟩) (List.length ([(([107] : List UInt8), ([115] : List UInt8), 5)] : List ((List UInt8) × (List UInt8) × Int))) ([(([107] : List UInt8), ([115] : List UInt8), 5)] : List ((List UInt8) × (List UInt8) × Int)), Us 44 J8 (some ⟨g6, 0, none⟩) (List.length ([(([97, 110, 110] : List UInt8), 0, 0, ([] : List (Int × Int)), ([(([107] : List UInt8), ([115] : List UInt8), 5)] : List ((List UInt8) × (List UInt8) × Int)))] : List Qd)) ([(([97, 110, 110] : List UInt8), 0, 0, (none, 0, ([] : List (Int × Int))), ((some ⟨g5, 0, none⟩), (List.length ([(([107] : List UInt8), ([115] : List UInt8), 5)] : List ((List UInt8) × (List UInt8) × Int))), ([(([107] : List UInt8), ([115] : List UInt8), 5)] : List ((List UInt8) × (List UInt8) × Int))))] : List Q9), Qq a0 95 #[(pt p 0), (V7 q.1 a0), (.string ⟨List.toArray q.2.1⟩), (.string ⟨List.toArray q.2.2.1⟩), (.string ⟨List.toArray q.2.2.2.1⟩), (.bool q.2.2.2.2)], Qq a5 63 #[(.int .i64 f.1), (.string ⟨List.toArray f.2.1⟩), (.string ⟨List.toArray f.2.2.1⟩), (.int .i64 f.2.2.2.1), (.int .i64 f.2.2.2.2.1)], Qq a6 63 #[(.int .i64 j.1), (.string ⟨List.toArray j.2.1⟩), (.string ⟨List.toArray j.2.2.1⟩), (.int .i64 j.2.2.2.1), (.int .i64 j.2.2.2.2.1)], Qq p 79 #[(.int .i64 c.1), (.int .i64 c.2.1), (.int .i64 c.2.2.1), (.int .i64 c.2.2.2.1), (.slice (some ⟨g6, 0, none⟩) (List.length ([(([97, 110, 110] : List UInt8), 0, 0, ([] : List (Int × Int)), ([(([107] : List UInt8), ([115] : List UInt8), 5)] : List ((List UInt8) × (List UInt8) × Int)))] : List Qd)) (List.length ([(([97, 110, 110] : List UInt8), 0, 0, ([] : List (Int × Int)), ([(([107] : List UInt8), ([115] : List UInt8), 5)] : List ((List UInt8) × (List UInt8) × Int)))] : List Qd))), (.map (some u))], Vp u c.2.2.2.2, Qq s 95 #[(pt p 0), (V7 j.2.2.2.2.2.2.1 s), (.string ⟨List.toArray j.2.2.2.2.2.2.2.1⟩), (.string ⟨List.toArray j.2.2.2.2.2.2.2.2.1⟩), (.string ⟨List.toArray j.2.2.2.2.2.2.2.2.2.1⟩), (.bool j.2.2.2.2.2.2.2.2.2.2)]] := Vy b7 [4, 5, 6] [0, 1, 2, 3, 7] rfl rfl f0 rfl
  clear f0
  refine iR 5 7 [(44, (.tuple #[(.string ⟨List.toArray a1.1⟩), (.bool a1.2)])), (47, (.string ⟨List.toArray a1.1⟩)), (48, (.bool a1.2)), (8, (.string ⟨List.toArray a1.1⟩)), (9, (.bool a1.2))] ?_
  refine iF ?_
  refine aQ ?_
  refine aR ?_
  refine iR 2 2 [(50, (pt s 0)), (51, (.agg #[(.int .i64 13), (.string ⟨List.toArray ([] : List UInt8)⟩), (.string ⟨List.toArray ([] : List UInt8)⟩), (.int .i64 0), (.int .i64 0)]))] ?_
  obtain ⟨m, h9, H⟩ := Qc H
  refine iS 3 ?_
  refine cF 34 #[(.tmp 50), (.tmp 51), (.const (.int .i64 (3))), (.const (.string ⟨List.toArray ([] : List UInt8)⟩))] #[60, 63, 2, 9] 52 Tryz.call34 (Za s p (some ⟨g6, 0, none⟩) (List.length ([(([97, 110, 110] : List UInt8), 0, 0, ([] : List (Int × Int)), ([(([107] : List UInt8), ([115] : List UInt8), 5)] : List ((List UInt8) × (List UInt8) × Int)))] : List Qd)) u c.1 c.2.1 c.2.2.1 c.2.2.2.1 ([(([97, 110, 110] : List UInt8), 0, 0, (none, 0, ([] : List (Int × Int))), ((some ⟨g5, 0, none⟩), (List.length ([(([107] : List UInt8), ([115] : List UInt8), 5)] : List ((List UInt8) × (List UInt8) × Int))), ([(([107] : List UInt8), ([115] : List UInt8), 5)] : List ((List UInt8) × (List UInt8) × Int))))] : List Q9) c.2.2.2.2 j.2.2.2.2.2.2.1 j.2.2.2.2.2.2.2.1 j.2.2.2.2.2.2.2.2.1 j.2.2.2.2.2.2.2.2.2.1 j.2.2.2.2.2.2.2.2.2.2 13 ([] : List UInt8) ([] : List UInt8) 0 0 3 ([] : List UInt8) e9 (Xy b8 [5, 6, 7] rfl rfl) (fun w hm => Db (V2 (SP.still b8 (l := [5, 6, 7]) (i := 1) rfl rfl rfl hm)) (Ud (Z4 Yn (Z4 Yn (Z4 Yn (Z4 (Gk (Qv (Qi .u32) (Qi .i64)) dT w) (Jv (V2 (SP.still b8 (l := [5, 6, 7]) (i := 0) rfl rfl rfl hm))))))) Ni)) m h9) ?_
  rintro e i0 ⟨rfl, f1⟩
  refine ⟨_, rfl, ?_⟩
  have i1 : SP [] w0 i0 [Us 48 (Qv Zf (Qv Zf (Qi .i64))) (some ⟨g5, 0, none⟩) (List.length ([(([107] : List UInt8), ([115] : List UInt8), 5)] : List ((List UInt8) × (List UInt8) × Int))) ([(([107] : List UInt8), ([115] : List UInt8), 5)] : List ((List UInt8) × (List UInt8) × Int)), Us 44 J8 (some ⟨g6, 0, none⟩) (List.length ([(([97, 110, 110] : List UInt8), 0, 0, ([] : List (Int × Int)), ([(([107] : List UInt8), ([115] : List UInt8), 5)] : List ((List UInt8) × (List UInt8) × Int)))] : List Qd)) ([(([97, 110, 110] : List UInt8), 0, 0, (none, 0, ([] : List (Int × Int))), ((some ⟨g5, 0, none⟩), (List.length ([(([107] : List UInt8), ([115] : List UInt8), 5)] : List ((List UInt8) × (List UInt8) × Int))), ([(([107] : List UInt8), ([115] : List UInt8), 5)] : List ((List UInt8) × (List UInt8) × Int))))] : List Q9), Qq a0 95 #[(pt p 0), (V7 q.1 a0), (.string ⟨List.toArray q.2.1⟩), (.string ⟨List.toArray q.2.2.1⟩), (.string ⟨List.toArray q.2.2.2.1⟩), (.bool q.2.2.2.2)], Qq a5 63 #[(.int .i64 f.1), (.string ⟨List.toArray f.2.1⟩), (.string ⟨List.toArray f.2.2.1⟩), (.int .i64 f.2.2.2.1), (.int .i64 f.2.2.2.2.1)], Qq a6 63 #[(.int .i64 j.1), (.string ⟨List.toArray j.2.1⟩), (.string ⟨List.toArray j.2.2.1⟩), (.int .i64 j.2.2.2.1), (.int .i64 j.2.2.2.2.1)], Qq p 79 #[(.int .i64 c.1), (.int .i64 c.2.1), (.int .i64 c.2.2.1), (.int .i64 c.2.2.2.1), (.slice (some ⟨g6, 0, none⟩) (List.length ([(([97, 110, 110] : List UInt8), 0, 0, ([] : List (Int × Int)), ([(([107] : List UInt8), ([115] : List UInt8), 5)] : List ((List UInt8) × (List UInt8) × Int)))] : List Qd)) (List.length ([(([97, 110, 110] : List UInt8), 0, 0, ([] : List (Int × Int)), ([(([107] : List UInt8), ([115] : List UInt8), 5)] : List ((List UInt8) × (List UInt8) × Int)))] : List Qd))), (.map (some u))], Vp u c.2.2.2.2, Qq s 95 #[(pt p 0), (V7 m.2.2.2.2.2.2.1 s), (.string ⟨List.toArray m.2.2.2.2.2.2.2.1⟩), (.string ⟨List.toArray m.2.2.2.2.2.2.2.2.1⟩), (.string ⟨List.toArray m.2.2.2.2.2.2.2.2.2.1⟩), (.bool m.2.2.2.2.2.2.2.2.2.2)]] := Vy b8 [5, 6, 7] [0, 1, 2, 3, 4] rfl rfl f1 rfl
  clear f1
  refine iR 3 6 [(49, (.tuple #[(.agg #[(.int .i64 m.1), (.string ⟨List.toArray m.2.1⟩), (.string ⟨List.toArray m.2.2.1⟩), (.int .i64 m.2.2.2.1), (.int .i64 m.2.2.2.2.1)]), (.bool m.2.2.2.2.2.1)])), (53, (.agg #[(.int .i64 m.1), (.string ⟨List.toArray m.2.1⟩), (.string ⟨List.toArray m.2.2.1⟩), (.int .i64 m.2.2.2.1), (.int .i64 m.2.2.2.2.1)])), (54, (.bool m.2.2.2.2.2.1))] ?_
  refine iS 7 ?_
  refine Qk.alloc (t := 63) (z := (.agg #[(.int .i64 0), (.string ⟨List.toArray ([] : List UInt8)⟩), (.string ⟨List.toArray ([] : List UInt8)⟩), (.int .i64 0), (.int .i64 0)])) (d := (some 10)) (k := 6) K rfl K i1 ?_
  intro a9 j8 i2
  refine iS 8 ?_
  refine Qk.store (t := 63) (x := (.tmp 10)) (y := (.tmp 53)) (g := a9) (off := 0) (i := 8) (v := (.agg #[(.int .i64 m.1), (.string ⟨List.toArray m.2.1⟩), (.string ⟨List.toArray m.2.2.1⟩), (.int .i64 m.2.2.2.1), (.int .i64 m.2.2.2.2.1)])) (cs' := #[(.int .i64 m.1), (.string ⟨List.toArray m.2.1⟩), (.string ⟨List.toArray m.2.2.1⟩), (.int .i64 m.2.2.2.1), (.int .i64 m.2.2.2.2.1)]) (d := none) (k := 7) K rfl K K i2 rfl K ?_
  intro i3 b9
  refine iR 1 9 [(11, (.bool m.2.2.2.2.2.1))] ?_
  refine iF ?_
  refine aQ ?_
  refine aR ?_
  refine iR 2 2 [(56, (pt a0 0)), (57, (.agg #[(.int .i64 3), (.string ⟨List.toArray ([] : List UInt8)⟩), (.string ⟨List.toArray ([] : List UInt8)⟩), (.int .i64 0), (.int .i64 0)]))] ?_
  obtain ⟨h, i4, H⟩ := Qc H
  refine iS 3 ?_
  refine cF 34 #[(.tmp 56), (.tmp 57), (.const (.int .i64 (1))), (.const (.string ⟨List.toArray ([110] : List UInt8)⟩))] #[60, 63, 2, 9] 58 Tryz.call34 (Za a0 p (some ⟨g6, 0, none⟩) (List.length ([(([97, 110, 110] : List UInt8), 0, 0, ([] : List (Int × Int)), ([(([107] : List UInt8), ([115] : List UInt8), 5)] : List ((List UInt8) × (List UInt8) × Int)))] : List Qd)) u c.1 c.2.1 c.2.2.1 c.2.2.2.1 ([(([97, 110, 110] : List UInt8), 0, 0, (none, 0, ([] : List (Int × Int))), ((some ⟨g5, 0, none⟩), (List.length ([(([107] : List UInt8), ([115] : List UInt8), 5)] : List ((List UInt8) × (List UInt8) × Int))), ([(([107] : List UInt8), ([115] : List UInt8), 5)] : List ((List UInt8) × (List UInt8) × Int))))] : List Q9) c.2.2.2.2 q.1 q.2.1 q.2.2.1 q.2.2.2.1 q.2.2.2.2 3 ([] : List UInt8) ([] : List UInt8) 0 0 1 ([110] : List UInt8) i3 (Xy b9 [5, 6, 2] rfl rfl) (fun w hm => Db (V2 (SP.still b9 (l := [5, 6, 2]) (i := 1) rfl rfl rfl hm)) (Ud (Z4 Yn (Z4 Yn (Z4 Yn (Z4 (Gk (Qv (Qi .u32) (Qi .i64)) dT w) (Jv (V2 (SP.still b9 (l := [5, 6, 2]) (i := 0) rfl rfl rfl hm))))))) Ni)) h i4) ?_
  rintro e i5 ⟨rfl, f2⟩
  refine ⟨_, rfl, ?_⟩
  have i6 : SP [] w0 i5 [Us 48 (Qv Zf (Qv Zf (Qi .i64))) (some ⟨g5, 0, none⟩) (List.length ([(([107] : List UInt8), ([115] : List UInt8), 5)] : List ((List UInt8) × (List UInt8) × Int))) ([(([107] : List UInt8), ([115] : List UInt8), 5)] : List ((List UInt8) × (List UInt8) × Int)), Us 44 J8 (some ⟨g6, 0, none⟩) (List.length ([(([97, 110, 110] : List UInt8), 0, 0, ([] : List (Int × Int)), ([(([107] : List UInt8), ([115] : List UInt8), 5)] : List ((List UInt8) × (List UInt8) × Int)))] : List Qd)) ([(([97, 110, 110] : List UInt8), 0, 0, (none, 0, ([] : List (Int × Int))), ((some ⟨g5, 0, none⟩), (List.length ([(([107] : List UInt8), ([115] : List UInt8), 5)] : List ((List UInt8) × (List UInt8) × Int))), ([(([107] : List UInt8), ([115] : List UInt8), 5)] : List ((List UInt8) × (List UInt8) × Int))))] : List Q9), Qq a5 63 #[(.int .i64 f.1), (.string ⟨List.toArray f.2.1⟩), (.string ⟨List.toArray f.2.2.1⟩), (.int .i64 f.2.2.2.1), (.int .i64 f.2.2.2.2.1)], Qq a6 63 #[(.int .i64 j.1), (.string ⟨List.toArray j.2.1⟩), (.string ⟨List.toArray j.2.2.1⟩), (.int .i64 j.2.2.2.1), (.int .i64 j.2.2.2.2.1)], Qq s 95 #[(pt p 0), (V7 m.2.2.2.2.2.2.1 s), (.string ⟨List.toArray m.2.2.2.2.2.2.2.1⟩), (.string ⟨List.toArray m.2.2.2.2.2.2.2.2.1⟩), (.string ⟨List.toArray m.2.2.2.2.2.2.2.2.2.1⟩), (.bool m.2.2.2.2.2.2.2.2.2.2)], Qq a9 63 #[(.int .i64 m.1), (.string ⟨List.toArray m.2.1⟩), (.string ⟨List.toArray m.2.2.1⟩), (.int .i64 m.2.2.2.1), (.int .i64 m.2.2.2.2.1)], Qq p 79 #[(.int .i64 c.1), (.int .i64 c.2.1), (.int .i64 c.2.2.1), (.int .i64 c.2.2.2.1), (.slice (some ⟨g6, 0, none⟩) (List.length ([(([97, 110, 110] : List UInt8), 0, 0, ([] : List (Int × Int)), ([(([107] : List UInt8), ([115] : List UInt8), 5)] : List ((List UInt8) × (List UInt8) × Int)))] : List Qd)) (List.length ([(([97, 110, 110] : List UInt8), 0, 0, ([] : List (Int × Int)), ([(([107] : List UInt8), ([115] : List UInt8), 5)] : List ((List UInt8) × (List UInt8) × Int)))] : List Qd))), (.map (some u))], Vp u c.2.2.2.2, Qq a0 95 #[(pt p 0), (V7 h.2.2.2.2.2.2.1 a0), (.string ⟨List.toArray h.2.2.2.2.2.2.2.1⟩), (.string ⟨List.toArray h.2.2.2.2.2.2.2.2.1⟩), (.string ⟨List.toArray h.2.2.2.2.2.2.2.2.2.1⟩), (.bool h.2.2.2.2.2.2.2.2.2.2)]] := Vy b9 [5, 6, 2] [0, 1, 3, 4, 7, 8] rfl rfl f2 rfl
  clear f2
  refine iR 3 6 [(55, (.tuple #[(.agg #[(.int .i64 h.1), (.string ⟨List.toArray h.2.1⟩), (.string ⟨List.toArray h.2.2.1⟩), (.int .i64 h.2.2.2.1), (.int .i64 h.2.2.2.2.1)]), (.bool h.2.2.2.2.2.1)])), (59, (.agg #[(.int .i64 h.1), (.string ⟨List.toArray h.2.1⟩), (.string ⟨List.toArray h.2.2.1⟩), (.int .i64 h.2.2.2.1), (.int .i64 h.2.2.2.2.1)])), (60, (.bool h.2.2.2.2.2.1))] ?_
  refine iS 7 ?_
  refine Qk.alloc (t := 63) (z := (.agg #[(.int .i64 0), (.string ⟨List.toArray ([] : List UInt8)⟩), (.string ⟨List.toArray ([] : List UInt8)⟩), (.int .i64 0), (.int .i64 0)])) (d := (some 12)) (k := 6) K rfl K i6 ?_
  intro b0 j9 i7
  refine iS 8 ?_
  refine Qk.store (t := 63) (x := (.tmp 12)) (y := (.tmp 59)) (g := b0) (off := 0) (i := 9) (v := (.agg #[(.int .i64 h.1), (.string ⟨List.toArray h.2.1⟩), (.string ⟨List.toArray h.2.2.1⟩), (.int .i64 h.2.2.2.1), (.int .i64 h.2.2.2.2.1)])) (cs' := #[(.int .i64 h.1), (.string ⟨List.toArray h.2.1⟩), (.string ⟨List.toArray h.2.2.1⟩), (.int .i64 h.2.2.2.1), (.int .i64 h.2.2.2.2.1)]) (d := none) (k := 7) K rfl K K i7 rfl K ?_
  intro i8 c0
  refine iR 1 9 [(13, (.bool h.2.2.2.2.2.1))] ?_
  refine iF ?_
  refine aQ ?_
  refine aR ?_
  refine iR 1 1 [(62, (pt a0 0))] ?_
  obtain ⟨a4, i9, H⟩ := Qc H
  refine iS 2 ?_
  refine cF 35 #[(.tmp 62)] #[60] 63 Tryz.call35 (Y2 a0 p (some ⟨g6, 0, none⟩) (List.length ([(([97, 110, 110] : List UInt8), 0, 0, ([] : List (Int × Int)), ([(([107] : List UInt8), ([115] : List UInt8), 5)] : List ((List UInt8) × (List UInt8) × Int)))] : List Qd)) u c.1 c.2.1 c.2.2.1 c.2.2.2.1 ([(([97, 110, 110] : List UInt8), 0, 0, (none, 0, ([] : List (Int × Int))), ((some ⟨g5, 0, none⟩), (List.length ([(([107] : List UInt8), ([115] : List UInt8), 5)] : List ((List UInt8) × (List UInt8) × Int))), ([(([107] : List UInt8), ([115] : List UInt8), 5)] : List ((List UInt8) × (List UInt8) × Int))))] : List Q9) c.2.2.2.2 h.2.2.2.2.2.2.1 h.2.2.2.2.2.2.2.1 h.2.2.2.2.2.2.2.2.1 h.2.2.2.2.2.2.2.2.2.1 h.2.2.2.2.2.2.2.2.2.2 i8 (Xy c0 [6, 7, 8] rfl rfl) (fun w hm => Db (V2 (SP.still c0 (l := [6, 7, 8]) (i := 1) rfl rfl rfl hm)) (Ud (Z4 Yn (Z4 Yn (Z4 Yn (Z4 (Gk (Qv (Qi .u32) (Qi .i64)) dT w) (Jv (V2 (SP.still c0 (l := [6, 7, 8]) (i := 0) rfl rfl rfl hm))))))) Ni)) a4 i9) ?_
  rintro e f3 ⟨rfl, f4⟩
  refine ⟨_, rfl, ?_⟩
  have a3 : SP [] w0 f3 [Us 48 (Qv Zf (Qv Zf (Qi .i64))) (some ⟨g5, 0, none⟩) (List.length ([(([107] : List UInt8), ([115] : List UInt8), 5)] : List ((List UInt8) × (List UInt8) × Int))) ([(([107] : List UInt8), ([115] : List UInt8), 5)] : List ((List UInt8) × (List UInt8) × Int)), Us 44 J8 (some ⟨g6, 0, none⟩) (List.length ([(([97, 110, 110] : List UInt8), 0, 0, ([] : List (Int × Int)), ([(([107] : List UInt8), ([115] : List UInt8), 5)] : List ((List UInt8) × (List UInt8) × Int)))] : List Qd)) ([(([97, 110, 110] : List UInt8), 0, 0, (none, 0, ([] : List (Int × Int))), ((some ⟨g5, 0, none⟩), (List.length ([(([107] : List UInt8), ([115] : List UInt8), 5)] : List ((List UInt8) × (List UInt8) × Int))), ([(([107] : List UInt8), ([115] : List UInt8), 5)] : List ((List UInt8) × (List UInt8) × Int))))] : List Q9), Qq a5 63 #[(.int .i64 f.1), (.string ⟨List.toArray f.2.1⟩), (.string ⟨List.toArray f.2.2.1⟩), (.int .i64 f.2.2.2.1), (.int .i64 f.2.2.2.2.1)], Qq a6 63 #[(.int .i64 j.1), (.string ⟨List.toArray j.2.1⟩), (.string ⟨List.toArray j.2.2.1⟩), (.int .i64 j.2.2.2.1), (.int .i64 j.2.2.2.2.1)], Qq s 95 #[(pt p 0), (V7 m.2.2.2.2.2.2.1 s), (.string ⟨List.toArray m.2.2.2.2.2.2.2.1⟩), (.string ⟨List.toArray m.2.2.2.2.2.2.2.2.1⟩), (.string ⟨List.toArray m.2.2.2.2.2.2.2.2.2.1⟩), (.bool m.2.2.2.2.2.2.2.2.2.2)], Qq a9 63 #[(.int .i64 m.1), (.string ⟨List.toArray m.2.1⟩), (.string ⟨List.toArray m.2.2.1⟩), (.int .i64 m.2.2.2.1), (.int .i64 m.2.2.2.2.1)], Qq b0 63 #[(.int .i64 h.1), (.string ⟨List.toArray h.2.1⟩), (.string ⟨List.toArray h.2.2.1⟩), (.int .i64 h.2.2.2.1), (.int .i64 h.2.2.2.2.1)], Qq p 79 #[(.int .i64 c.1), (.int .i64 c.2.1), (.int .i64 c.2.2.1), (.int .i64 c.2.2.2.1), (.slice (some ⟨g6, 0, none⟩) (List.length ([(([97, 110, 110] : List UInt8), 0, 0, ([] : List (Int × Int)), ([(([107] : List UInt8), ([115] : List UInt8), 5)] : List ((List UInt8) × (List UInt8) × Int)))] : List Qd)) (List.length ([(([97, 110, 110] : List UInt8), 0, 0, ([] : List (Int × Int)), ([(([107] : List UInt8), ([115] : List UInt8), 5)] : List ((List UInt8) × (List UInt8) × Int)))] : List Qd))), (.map (some u))], Vp u c.2.2.2.2, Qq a0 95 #[(pt p 0), (V7 h.2.2.2.2.2.2.1 a0), (.string ⟨List.toArray h.2.2.2.2.2.2.2.1⟩), (.string ⟨List.toArray h.2.2.2.2.2.2.2.2.1⟩), (.string ⟨List.toArray h.2.2.2.2.2.2.2.2.2.1⟩), (.bool h.2.2.2.2.2.2.2.2.2.2)]] := Vy c0 [6, 7, 8] [0, 1, 2, 3, 4, 5, 9] rfl rfl f4 rfl
  clear f4
  refine iR 5 7 [(61, (.tuple #[(.string ⟨List.toArray a4.1⟩), (.bool a4.2)])), (64, (.string ⟨List.toArray a4.1⟩)), (65, (.bool a4.2)), (14, (.string ⟨List.toArray a4.1⟩)), (15, (.bool a4.2))] ?_
  refine iF ?_
  refine aQ ?_
  refine At.join (fun ρ w => ∃ (a8 : Bool), Zn ρ [(0, (.bool a8))] ∧ SP [] w0 w [] ∧ Q0 a8 = some r) ?_ ?_
  ·refine aR ?_
   refine iS 1 ?_
   refine sL 63 4 a5 0 2 (.agg #[(.int .i64 f.1), (.string ⟨List.toArray f.2.1⟩), (.string ⟨List.toArray f.2.2.1⟩), (.int .i64 f.2.2.2.1), (.int .i64 f.2.2.2.2.1)]) 66 a3 rfl ?_
   refine iR 1 2 [(67, (.agg #[(.int .i64 2), (.string ⟨List.toArray ([110] : List UInt8)⟩), (.string ⟨List.toArray ([] : List UInt8)⟩), (.int .i64 0), (.int .i64 0)]))] ?_
   refine iS 3 ?_
   refine D0 (op := .eql) (T := 63) (T' := 63) (x := (.tmp 66)) (y := (.tmp 67)) (vx := (.agg #[(.int .i64 f.1), (.string ⟨List.toArray f.2.1⟩), (.string ⟨List.toArray f.2.2.1⟩), (.int .i64 f.2.2.2.1), (.int .i64 f.2.2.2.2.1)])) (vy := (.agg #[(.int .i64 2), (.string ⟨List.toArray ([110] : List UInt8)⟩), (.string ⟨List.toArray ([] : List UInt8)⟩), (.int .i64 0), (.int .i64 0)])) (v := (.bool ((f.1 == 2) && ((f.2.1 == ([110] : List UInt8)) && ((f.2.2.1 == ([] : List UInt8)) && ((f.2.2.2.1 == 0) && (f.2.2.2.2.1 == 0))))))) (d := (some 68)) (k := 2) K rfl K K (by clear H; intro w; simp only [Cl]; go_simp; simp only [B5, Bd, C8, Cl, Bool.and_true] <;> simp only [Bool.not_and]) ?_
   refine iR 1 4 [(69, (.bool ((f.1 == 2) && ((f.2.1 == ([110] : List UInt8)) && ((f.2.2.1 == ([] : List UInt8)) && ((f.2.2.2.1 == 0) && (f.2.2.2.2.1 == 0)))))))] ?_
   refine In.guard (t := 69) (b := ((f.1 == 2) && ((f.2.1 == ([110] : List UInt8)) && ((f.2.2.1 == ([] : List UInt8)) && ((f.2.2.2.1 == 0) && (f.2.2.2.2.1 == 0)))))) K (fun c4 => ?_) (fun c4 => ?_)
   ·have H := ct H c4
    refine iR 3 7 [(70, (.bool f.2.2.2.2.2.1)), (71, (.bool f.2.2.2.2.2.1)), (72, (.bool f.2.2.2.2.2.1))] ?_
    refine In.guard (t := 72) (b := f.2.2.2.2.2.1) K (fun c5 => ?_) (fun c5 => ?_)
    ·have H := ct H c5
     refine iR 1 8 [(73, (pt a6 0))] ?_
     refine iS 9 ?_
     refine sL 3 73 a6 0 3 (.int .i64 j.1) 74 a3 rfl ?_
     refine iR 3 12 [(75, (.bool (j.1 == 4))), (76, (.bool (j.1 == 4))), (77, (.bool (j.1 == 4)))] ?_
     refine In.guard (t := 77) (b := (j.1 == 4)) K (fun c6 => ?_) (fun c6 => ?_)
     ·have H := ct H c6
      refine iR 3 15 [(78, (.bool j.2.2.2.2.2.1)), (79, (.bool j.2.2.2.2.2.1)), (80, (.bool j.2.2.2.2.2.1))] ?_
      refine In.guard (t := 80) (b := j.2.2.2.2.2.1) K (fun c7 => ?_) (fun c7 => ?_)
      ·have H := ct H c7
       refine iR 1 16 [(81, (.string ⟨List.toArray a1.1⟩))] ?_
       refine iS 17 ?_
       refine Yg (op := .eql) (T := 9) (T' := 9) (x := (.tmp 81)) (y := (.const (.string ⟨List.toArray ([97, 110, 110] : List UInt8)⟩))) (a := a1.1) (b := ([97, 110, 110] : List UInt8)) (r := (.bool (a1.1 == ([97, 110, 110] : List UInt8)))) (d := (some 82)) (k := 16) K rfl K K rfl ?_
       refine iR 2 19 [(83, (.bool (a1.1 == ([97, 110, 110] : List UInt8)))), (84, (.bool (a1.1 == ([97, 110, 110] : List UInt8))))] ?_
       refine In.guard (t := 84) (b := (a1.1 == ([97, 110, 110] : List UInt8))) K (fun c8 => ?_) (fun c8 => ?_)
       ·have H := ct H c8
        refine iR 3 22 [(85, (.bool a1.2)), (86, (.bool a1.2)), (87, (.bool a1.2))] ?_
        refine In.guard (t := 87) (b := a1.2) K (fun c9 => ?_) (fun c9 => ?_)
        ·have H := ct H c9
         refine iR 4 26 [(88, (.bool m.2.2.2.2.2.1)), (89, (.bool (!m.2.2.2.2.2.1))), (90, (.bool (!m.2.2.2.2.2.1))), (91, (.bool (!m.2.2.2.2.2.1)))] ?_
         refine In.guard (t := 91) (b := (!m.2.2.2.2.2.1)) K (fun d0 => ?_) (fun d0 => ?_)
         ·have H := ct H d0
          refine iS 27 ?_
          refine sL 63 12 b0 0 6 (.agg #[(.int .i64 h.1), (.string ⟨List.toArray h.2.1⟩), (.string ⟨List.toArray h.2.2.1⟩), (.int .i64 h.2.2.2.1), (.int .i64 h.2.2.2.2.1)]) 92 a3 rfl ?_
          refine iR 1 28 [(93, (.agg #[(.int .i64 5), (.string ⟨List.toArray ([] : List UInt8)⟩), (.string ⟨List.toArray ([] : List UInt8)⟩), (.int .i64 1), (.int .i64 0)]))] ?_
          refine iS 29 ?_
          refine D0 (op := .eql) (T := 63) (T' := 63) (x := (.tmp 92)) (y := (.tmp 93)) (vx := (.agg #[(.int .i64 h.1), (.string ⟨List.toArray h.2.1⟩), (.string ⟨List.toArray h.2.2.1⟩), (.int .i64 h.2.2.2.1), (.int .i64 h.2.2.2.2.1)])) (vy := (.agg #[(.int .i64 5), (.string ⟨List.toArray ([] : List UInt8)⟩), (.string ⟨List.toArray ([] : List UInt8)⟩), (.int .i64 1), (.int .i64 0)])) (v := (.bool ((h.1 == 5) && ((h.2.1 == ([] : List UInt8)) && ((h.2.2.1 == ([] : List UInt8)) && ((h.2.2.2.1 == 1) && (h.2.2.2.2.1 == 0))))))) (d := (some 94)) (k := 28) K rfl K K (by clear H; intro w; simp only [Cl]; go_simp; simp only [B5, Bd, C8, Cl, Bool.and_true] <;> simp only [Bool.not_and]) ?_
          refine iR 2 31 [(95, (.bool ((h.1 == 5) && ((h.2.1 == ([] : List UInt8)) && ((h.2.2.1 == ([] : List UInt8)) && ((h.2.2.2.1 == 1) && (h.2.2.2.2.1 == 0))))))), (96, (.bool ((h.1 == 5) && ((h.2.1 == ([] : List UInt8)) && ((h.2.2.1 == ([] : List UInt8)) && ((h.2.2.2.1 == 1) && (h.2.2.2.2.1 == 0)))))))] ?_
          refine In.guard (t := 96) (b := ((h.1 == 5) && ((h.2.1 == ([] : List UInt8)) && ((h.2.2.1 == ([] : List UInt8)) && ((h.2.2.2.1 == 1) && (h.2.2.2.2.1 == 0)))))) K (fun d1 => ?_) (fun d1 => ?_)
          ·have H := ct H d1
           refine iR 4 35 [(97, (.bool a4.2)), (98, (.bool (!a4.2))), (99, (.bool (!a4.2))), (100, (.bool (!a4.2)))] ?_
           refine In.guard (t := 100) (b := (!a4.2)) K (fun d2 => ?_) (fun d2 => ?_)
           ·have H := ct H d2
            refine iR 1 36 [(101, (pt s 0))] ?_
            obtain ⟨c1, j0, H⟩ := Qc H
            refine iS 37 ?_
            refine cF 36 #[(.tmp 101)] #[60] 102 Tryz.call36 (J7 s p (some ⟨g6, 0, none⟩) (List.length ([(([97, 110, 110] : List UInt8), 0, 0, ([] : List (Int × Int)), ([(([107] : List UInt8), ([115] : List UInt8), 5)] : List ((List UInt8) × (List UInt8) × Int)))] : List Qd)) u c.1 c.2.1 c.2.2.1 c.2.2.2.1 ([(([97, 110, 110] : List UInt8), 0, 0, (none, 0, ([] : List (Int × Int))), ((some ⟨g5, 0, none⟩), (List.length ([(([107] : List UInt8), ([115] : List UInt8), 5)] : List ((List UInt8) × (List UInt8) × Int))), ([(([107] : List UInt8), ([115] : List UInt8), 5)] : List ((List UInt8) × (List UInt8) × Int))))] : List Q9) c.2.2.2.2 m.2.2.2.2.2.2.1 m.2.2.2.2.2.2.2.1 m.2.2.2.2.2.2.2.2.1 m.2.2.2.2.2.2.2.2.2.1 m.2.2.2.2.2.2.2.2.2.2 f3 (Xy a3 [7, 8, 4] rfl rfl) (fun w hm => Db (V2 (SP.still a3 (l := [7, 8, 4]) (i := 1) rfl rfl rfl hm)) (Ud (Z4 Yn (Z4 Yn (Z4 Yn (Z4 (Gk (Qv (Qi .u32) (Qi .i64)) dT w) (Jv (V2 (SP.still a3 (l := [7, 8, 4]) (i := 0) rfl rfl rfl hm))))))) Ni)) c1 j0) ?_
            rintro e f5 ⟨rfl, f6⟩
            refine ⟨_, rfl, ?_⟩
            have b1 : SP [] w0 f5 [Us 48 (Qv Zf (Qv Zf (Qi .i64))) (some ⟨g5, 0, none⟩) (List.length ([(([107] : List UInt8), ([115] : List UInt8), 5)] : List ((List UInt8) × (List UInt8) × Int))) ([(([107] : List UInt8), ([115] : List UInt8), 5)] : List ((List UInt8) × (List UInt8) × Int)), Us 44 J8 (some ⟨g6, 0, none⟩) (List.length ([(([97, 110, 110] : List UInt8), 0, 0, ([] : List (Int × Int)), ([(([107] : List UInt8), ([115] : List UInt8), 5)] : List ((List UInt8) × (List UInt8) × Int)))] : List Qd)) ([(([97, 110, 110] : List UInt8), 0, 0, (none, 0, ([] : List (Int × Int))), ((some ⟨g5, 0, none⟩), (List.length ([(([107] : List UInt8), ([115] : List UInt8), 5)] : List ((List UInt8) × (List UInt8) × Int))), ([(([107] : List UInt8), ([115] : List UInt8), 5)] : List ((List UInt8) × (List UInt8) × Int))))] : List Q9), Qq a5 63 #[(.int .i64 f.1), (.string ⟨List.toArray f.2.1⟩), (.string ⟨List.toArray f.2.2.1⟩), (.int .i64 f.2.2.2.1), (.int .i64 f.2.2.2.2.1)], Qq a6 63 #[(.int .i64 j.1), (.string ⟨List.toArray j.2.1⟩), (.string ⟨List.toArray j.2.2.1⟩), (.int .i64 j.2.2.2.1), (.int .i64 j.2.2.2.2.1)], Qq a9 63 #[(.int .i64 m.1), (.string ⟨List.toArray m.2.1⟩), (.string ⟨List.toArray m.2.2.1⟩), (.int .i64 m.2.2.2.1), (.int .i64 m.2.2.2.2.1)], Qq b0 63 #[(.int .i64 h.1), (.string ⟨List.toArray h.2.1⟩), (.string ⟨List.toArray h.2.2.1⟩), (.int .i64 h.2.2.2.1), (.int .i64 h.2.2.2.2.1)], Qq a0 95 #[(pt p 0), (V7 h.2.2.2.2.2.2.1 a0), (.string ⟨List.toArray h.2.2.2.2.2.2.2.1⟩), (.string ⟨List.toArray h.2.2.2.2.2.2.2.2.1⟩), (.string ⟨List.toArray h.2.2.2.2.2.2.2.2.2.1⟩), (.bool h.2.2.2.2.2.2.2.2.2.2)], Qq p 79 #[(.int .i64 c.1), (.int .i64 c.2.1), (.int .i64 c.2.2.1), (.int .i64 c.2.2.2.1), (.slice (some ⟨g6, 0, none⟩) (List.length ([(([97, 110, 110] : List UInt8), 0, 0, ([] : List (Int × Int)), ([(([107] : List UInt8), ([115] : List UInt8), 5)] : List ((List UInt8) × (List UInt8) × Int)))] : List Qd)) (List.length ([(([97, 110, 110] : List UInt8), 0, 0, ([] : List (Int × Int)), ([(([107] : List UInt8), ([115] : List UInt8), 5)] : List ((List UInt8) × (List UInt8) × Int)))] : List Qd))), (.map (some u))], Vp u c.2.2.2.2, Qq s 95 #[(pt p 0), (V7 m.2.2.2.2.2.2.1 s), (.string ⟨List.toArray m.2.2.2.2.2.2.2.1⟩), (.string ⟨List.toArray m.2.2.2.2.2.2.2.2.1⟩), (.string ⟨List.toArray m.2.2.2.2.2.2.2.2.2.1⟩), (.bool m.2.2.2.2.2.2.2.2.2.2)]] := Vy a3 [7, 8, 4] [0, 1, 2, 3, 5, 6, 9] rfl rfl f6 rfl
            clear f6
            refine iR 2 39 [(103, (.bool c1)), (104, (.bool c1))] ?_
            refine In.guard (t := 104) (b := c1) K (fun d3 => ?_) (fun d3 => ?_)
            ·have H := ct H d3
             refine iR 1 40 [(105, (pt a0 0))] ?_
             obtain ⟨c2, j1, H⟩ := Qc H
             refine iS 41 ?_
             refine cF 36 #[(.tmp 105)] #[60] 106 Tryz.call36 (J7 a0 p (some ⟨g6, 0, none⟩) (List.length ([(([97, 110, 110] : List UInt8), 0, 0, ([] : List (Int × Int)), ([(([107] : List UInt8), ([115] : List UInt8), 5)] : List ((List UInt8) × (List UInt8) × Int)))] : List Qd)) u c.1 c.2.1 c.2.2.1 c.2.2.2.1 ([(([97, 110, 110] : List UInt8), 0, 0, (none, 0, ([] : List (Int × Int))), ((some ⟨g5, 0, none⟩), (List.length ([(([107] : List UInt8), ([115] : List UInt8), 5)] : List ((List UInt8) × (List UInt8) × Int))), ([(([107] : List UInt8), ([115] : List UInt8), 5)] : List ((List UInt8) × (List UInt8) × Int))))] : List Q9) c.2.2.2.2 h.2.2.2.2.2.2.1 h.2.2.2.2.2.2.2.1 h.2.2.2.2.2.2.2.2.1 h.2.2.2.2.2.2.2.2.2.1 h.2.2.2.2.2.2.2.2.2.2 f5 (Xy b1 [7, 8, 6] rfl rfl) (fun w hm => Db (V2 (SP.still b1 (l := [7, 8, 6]) (i := 1) rfl rfl rfl hm)) (Ud (Z4 Yn (Z4 Yn (Z4 Yn (Z4 (Gk (Qv (Qi .u32) (Qi .i64)) dT w) (Jv (V2 (SP.still b1 (l := [7, 8, 6]) (i := 0) rfl rfl rfl hm))))))) Ni)) c2 j1) ?_
             rintro e j2 ⟨rfl, f7⟩
             refine ⟨_, rfl, ?_⟩
             have j3 : SP [] w0 j2 [Us 48 (Qv Zf (Qv Zf (Qi .i64))) (some ⟨g5, 0, none⟩) (List.length ([(([107] : List UInt8), ([115] : List UInt8), 5)] : List ((List UInt8) × (List UInt8) × Int))) ([(([107] : List UInt8), ([115] : List UInt8), 5)] : List ((List UInt8) × (List UInt8) × Int)), Us 44 J8 (some ⟨g6, 0, none⟩) (List.length ([(([97, 110, 110] : List UInt8), 0, 0, ([] : List (Int × Int)), ([(([107] : List UInt8), ([115] : List UInt8), 5)] : List ((List UInt8) × (List UInt8) × Int)))] : List Qd)) ([(([97, 110, 110] : List UInt8), 0, 0, (none, 0, ([] : List (Int × Int))), ((some ⟨g5, 0, none⟩), (List.length ([(([107] : List UInt8), ([115] : List UInt8), 5)] : List ((List UInt8) × (List UInt8) × Int))), ([(([107] : List UInt8), ([115] : List UInt8), 5)] : List ((List UInt8) × (List UInt8) × Int))))] : List Q9), Qq a5 63 #[(.int .i64 f.1), (.string ⟨List.toArray f.2.1⟩), (.string ⟨List.toArray f.2.2.1⟩), (.int .i64 f.2.2.2.1), (.int .i64 f.2.2.2.2.1)], Qq a6 63 #[(.int .i64 j.1), (.string ⟨List.toArray j.2.1⟩), (.string ⟨List.toArray j.2.2.1⟩), (.int .i64 j.2.2.2.1), (.int .i64 j.2.2.2.2.1)], Qq a9 63 #[(.int .i64 m.1), (.string ⟨List.toArray m.2.1⟩), (.string ⟨List.toArray m.2.2.1⟩), (.int .i64 m.2.2.2.1), (.int .i64 m.2.2.2.2.1)], Qq b0 63 #[(.int .i64 h.1), (.string ⟨List.toArray h.2.1⟩), (.string ⟨List.toArray h.2.2.1⟩), (.int .i64 h.2.2.2.1), (.int .i64 h.2.2.2.2.1)], Qq s 95 #[(pt p 0), (V7 m.2.2.2.2.2.2.1 s), (.string ⟨List.toArray m.2.2.2.2.2.2.2.1⟩), (.string ⟨List.toArray m.2.2.2.2.2.2.2.2.1⟩), (.string ⟨List.toArray m.2.2.2.2.2.2.2.2.2.1⟩), (.bool m.2.2.2.2.2.2.2.2.2.2)], Qq p 79 #[(.int .i64 c.1), (.int .i64 c.2.1), (.int .i64 c.2.2.1), (.int .i64 c.2.2.2.1), (.slice (some ⟨g6, 0, none⟩) (List.length ([(([97, 110, 110] : List UInt8), 0, 0, ([] : List (Int × Int)), ([(([107] : List UInt8), ([115] : List UInt8), 5)] : List ((List UInt8) × (List UInt8) × Int)))] : List Qd)) (List.length ([(([97, 110, 110] : List UInt8), 0, 0, ([] : List (Int × Int)), ([(([107] : List UInt8), ([115] : List UInt8), 5)] : List ((List UInt8) × (List UInt8) × Int)))] : List Qd))), (.map (some u))], Vp u c.2.2.2.2, Qq a0 95 #[(pt p 0), (V7 h.2.2.2.2.2.2.1 a0), (.string ⟨List.toArray h.2.2.2.2.2.2.2.1⟩), (.string ⟨List.toArray h.2.2.2.2.2.2.2.2.1⟩), (.string ⟨List.toArray h.2.2.2.2.2.2.2.2.2.1⟩), (.bool h.2.2.2.2.2.2.2.2.2.2)]] := Vy b1 [7, 8, 6] [0, 1, 2, 3, 4, 5, 9] rfl rfl f7 rfl
             clear f7
             refine iR 2 43 [(107, (.bool c2)), (0, (.bool c2))] ?_
             refine iF ?_
             exact ⟨c2, ⟨K, trivial⟩, SP.sel j3 [] rfl rfl, H⟩
            ·have H := cf H d3
             refine iR 4 43 [(105, undef), (106, undef), (107, (.bool false)), (0, (.bool false))] ?_
             refine iF ?_
             exact ⟨false, ⟨K, trivial⟩, SP.sel b1 [] rfl rfl, H⟩
           ·have H := cf H d2
            refine iR 8 43 [(101, undef), (102, undef), (103, (.bool false)), (104, (.bool false)), (105, undef), (106, undef), (107, (.bool false)), (0, (.bool false))] ?_
            refine iF ?_
            exact ⟨false, ⟨K, trivial⟩, SP.sel a3 [] rfl rfl, H⟩
          ·have H := cf H d1
           refine iR 12 43 [(97, undef), (98, undef), (99, (.bool false)), (100, (.bool false)), (101, undef), (102, undef), (103, (.bool false)), (104, (.bool false)), (105, undef), (106, undef), (107, (.bool false)), (0, (.bool false))] ?_
           refine iF ?_
           exact ⟨false, ⟨K, trivial⟩, SP.sel a3 [] rfl rfl, H⟩
         ·have H := cf H d0
          refine iR 17 43 [(92, undef), (93, undef), (94, undef), (95, (.bool false)), (96, (.bool false)), (97, undef), (98, undef), (99, (.bool false)), (100, (.bool false)), (101, undef), (102, undef), (103, (.bool false)), (104, (.bool false)), (105, undef), (106, undef), (107, (.bool false)), (0, (.bool false))] ?_
          refine iF ?_
          exact ⟨false, ⟨K, trivial⟩, SP.sel a3 [] rfl rfl, H⟩
        ·have H := cf H c9
         refine iR 21 43 [(88, undef), (89, undef), (90, (.bool false)), (91, (.bool false)), (92, undef), (93, undef), (94, undef), (95, (.bool false)), (96, (.bool false)), (97, undef), (98, undef), (99, (.bool false)), (100, (.bool false)), (101, undef), (102, undef), (103, (.bool false)), (104, (.bool false)), (105, undef), (106, undef), (107, (.bool false)), (0, (.bool false))] ?_
         refine iF ?_
         exact ⟨false, ⟨K, trivial⟩, SP.sel a3 [] rfl rfl, H⟩
       ·have H := cf H c8
        refine iR 24 43 [(85, undef), (86, (.bool false)), (87, (.bool false)), (88, undef), (89, undef), (90, (.bool false)), (91, (.bool false)), (92, undef), (93, undef), (94, undef), (95, (.bool false)), (96, (.bool false)), (97, undef), (98, undef), (99, (.bool false)), (100, (.bool false)), (101, undef), (102, undef), (103, (.bool false)), (104, (.bool false)), (105, undef), (106, undef), (107, (.bool false)), (0, (.bool false))] ?_
        refine iF ?_
        exact ⟨false, ⟨K, trivial⟩, SP.sel a3 [] rfl rfl, H⟩
      ·have H := cf H c7
       refine iR 28 43 [(81, undef), (82, undef), (83, (.bool false)), (84, (.bool false)), (85, undef), (86, (.bool false)), (87, (.bool false)), (88, undef), (89, undef), (90, (.bool false)), (91, (.bool false)), (92, undef), (93, undef), (94, undef), (95, (.bool false)), (96, (.bool false)), (97, undef), (98, undef), (99, (.bool false)), (100, (.bool false)), (101, undef), (102, undef), (103, (.bool false)), (104, (.bool false)), (105, undef), (106, undef), (107, (.bool false)), (0, (.bool false))] ?_
       refine iF ?_
       exact ⟨false, ⟨K, trivial⟩, SP.sel a3 [] rfl rfl, H⟩
     ·have H := cf H c6
      refine iR 31 43 [(78, undef), (79, (.bool false)), (80, (.bool false)), (81, undef), (82, undef), (83, (.bool false)), (84, (.bool false)), (85, undef), (86, (.bool false)), (87, (.bool false)), (88, undef), (89, undef), (90, (.bool false)), (91, (.bool false)), (92, undef), (93, undef), (94, undef), (95, (.bool false)), (96, (.bool false)), (97, undef), (98, undef), (99, (.bool false)), (100, (.bool false)), (101, undef), (102, undef), (103, (.bool false)), (104, (.bool false)), (105, undef), (106, undef), (107, (.bool false)), (0, (.bool false))] ?_
      refine iF ?_
      exact ⟨false, ⟨K, trivial⟩, SP.sel a3 [] rfl rfl, H⟩
    ·have H := cf H c5
     refine iR 36 43 [(73, undef), (74, undef), (75, undef), (76, (.bool false)), (77, (.bool false)), (78, undef), (79, (.bool false)), (80, (.bool false)), (81, undef), (82, undef), (83, (.bool false)), (84, (.bool false)), (85, undef), (86, (.bool false)), (87, (.bool false)), (88, undef), (89, undef), (90, (.bool false)), (91, (.bool false)), (92, undef), (93, undef), (94, undef), (95, (.bool false)), (96, (.bool false)), (97, undef), (98, undef), (99, (.bool false)), (100, (.bool false)), (101, undef), (102, undef), (103, (.bool false)), (104, (.bool false)), (105, undef), (106, undef), (107, (.bool false)), (0, (.bool false))] ?_
     refine iF ?_
     exact ⟨false, ⟨K, trivial⟩, SP.sel a3 [] rfl rfl, H⟩
   ·have H := cf H c4
    refine iR 39 43 [(70, undef), (71, (.bool false)), (72, (.bool false)), (73, undef), (74, undef), (75, undef), (76, (.bool false)), (77, (.bool false)), (78, undef), (79, (.bool false)), (80, (.bool false)), (81, undef), (82, undef), (83, (.bool false)), (84, (.bool false)), (85, undef), (86, (.bool false)), (87, (.bool false)), (88, undef), (89, undef), (90, (.bool false)), (91, (.bool false)), (92, undef), (93, undef), (94, undef), (95, (.bool false)), (96, (.bool false)), (97, undef), (98, undef), (99, (.bool false)), (100, (.bool false)), (101, undef), (102, undef), (103, (.bool false)), (104, (.bool false)), (105, undef), (106, undef), (107, (.bool false)), (0, (.bool false))] ?_
    refine iF ?_
    exact ⟨false, ⟨K, trivial⟩, SP.sel a3 [] rfl rfl, H⟩
  ·rintro ρ k1 ⟨a8, hk, j4, H⟩
   unfold Q0 at H
   first | refine At.known [(0, (.bool a8))] hk ?_ | rw [← Va (l := [(0, (.bool a8))]) hk]
   refine At.ret K ?_
   refine ⟨(.bool a8), K, ?_⟩
   obtain rfl := Qg H
   exact ⟨rfl, SP.sel j4 [] rfl rfl⟩
end Go.Proofs.YtmgfanhcdfobhaaGreatDoor
namespace Go.Proofs.YtmgfanhcdfobhaaGreatDoor
theorem shakeHead : X7 = some true := by
  unfold X7
  rw [show Je = some () from rfl, Option.bind_some, headVNew, Option.bind_some, optE_s]
  kernel_rfl
theorem who_p (w g i e : Int) (l : List Qd) (M : Ur) (c : Int) (t k n : Str) (kn : Bool) : Z1 w g i e l M c t k n kn = some (cond kn t [], kn) := by
  unfold Z1
  cases kn <;> rfl
end Go.Proofs.YtmgfanhcdfobhaaGreatDoor
namespace Go.Proofs.YtmgfanhcdfobhaaGreatDoor
open Go.RowKit
def Vk (a : Bool) : Option (Bool) :=
  (some (a))
def Q4 (b : (List Qd)) (f : (List UInt8)) (g : (List UInt8)) (k : (List UInt8)) (m : (List UInt8)) (h : Int) (l : (Bool)) (a : (Int × Int × Int × Int × Ur)) (n : Bool) : Option (Bool) :=
  (cond n (some (l)) ((Uh a.1 a.2.1 a.2.2.1 a.2.2.2.1 b a.2.2.2.2).bind fun c => ((Zc a.1 a.2.1 a.2.2.1 a.2.2.2.1 b a.2.2.2.2 f g m).bind fun i => ((Vt a.1 a.2.1 a.2.2.1 a.2.2.2.1 b a.2.2.2.2 c.1 c.2.1 c.2.2.1 c.2.2.2.1 c.2.2.2.2 1 f g 0 0 h k).bind fun d => ((Vt a.1 a.2.1 a.2.2.1 a.2.2.2.1 b a.2.2.2.2 d.2.2.2.2.2.2.1 d.2.2.2.2.2.2.2.1 d.2.2.2.2.2.2.2.2.1 d.2.2.2.2.2.2.2.2.2.1 d.2.2.2.2.2.2.2.2.2.2 3 i ([] : List UInt8) 0 0 h ([] : List UInt8)).bind fun e => ((Z1 a.1 a.2.1 a.2.2.1 a.2.2.2.1 b a.2.2.2.2 e.2.2.2.2.2.2.1 e.2.2.2.2.2.2.2.1 e.2.2.2.2.2.2.2.2.1 e.2.2.2.2.2.2.2.2.2.1 e.2.2.2.2.2.2.2.2.2.2).bind fun j => ((Zc a.1 a.2.1 a.2.2.1 a.2.2.2.1 b a.2.2.2.2 f g k).bind fun o => (cond l (cond (i == o) (cond (!(i == ([] : List UInt8))) ((Xa a.1 a.2.1 a.2.2.1 a.2.2.2.1 b a.2.2.2.2 f g h).bind fun p => (Vk (j.2 == p))) (Vk (j.2 == false))) (Vk (j.2 == false))) (Vk false)))))))))
def Xb (i : Int) (j : Int) (k : Int) (l : Int) (a : (List Qd)) (b : (List UInt8)) (c : (List UInt8)) (d : (List UInt8)) (e : (List UInt8)) (g : Int) : Option (Bool) :=
  ((X7 ).bind fun f => ((Jx i j k l a).bind fun m => (optE m (some (f)) (fun h => ((Yo i j k l a).bind fun n => (cond n (Q4 a b c d e g f h true) (cond (decide ((IntKind.wrap .i64 (((List.length b : Nat) : Int) + ((List.length c : Nat) : Int))) > 1000)) (Q4 a b c d e g f h true) (cond (decide (((List.length d : Nat) : Int) > 64)) (Q4 a b c d e g f h true) (Q4 a b c d e g f h (decide (((List.length e : Nat) : Int) > 64)))))))))))
set_option maxRecDepth 100000 in
set_option maxHeartbeats 4000000 in
theorem Uu (A6 : Option Addr) (c7 : Nat) (a4 : Int) (a5 : Int) (a6 : Int) (a7 : Int) (d9 : (List Q9)) (i : (List UInt8)) (j : (List UInt8)) (s : (List UInt8)) (a0 : (List UInt8)) (a1 : Int) (w0 : World) (hL : Rv w0) (a3 : (dDS J8 Bh).ok w0 (A6, c7, d9)) (r : (Bool)) (H : Xb a4 a5 a6 a7 (List.map stT d9) i j s a0 a1 = some r) :
  Calls Tryz.prog 11 #[(.agg #[(.int .i64 a4), (.int .i64 a5), (.int .i64 a6), (.int .i64 a7), (.slice A6 (List.length (List.map stT d9)) c7)]), (.string ⟨List.toArray i⟩), (.string ⟨List.toArray j⟩), (.string ⟨List.toArray s⟩), (.string ⟨List.toArray a0⟩), (.int .i64 a1)] w0 (fun e w' => e = .returned (.bool r) ∧ SP [] w0 w' []) := by
 unfold Xb at H
 refine Qt (n := 98) Tryz.func11 K K K ?_
 have f5 := Q2 [] w0
 refine aQ ?_
 refine aR ?_
 refine iS 1 ?_
 refine Vq (t := 24) (x := (.tmp 0)) (v := (.agg #[(.int .i64 a4), (.int .i64 a5), (.int .i64 a6), (.int .i64 a7), (.slice A6 (List.length (List.map stT d9)) c7)])) (d := (some 6)) (k := 0) K rfl K f5 ?_
 intro d1 f6 d2
 refine iR 1 2 [(12, (.bool false))] ?_
 refine iF ?_
 refine aQ ?_
 refine aR ?_
 obtain ⟨z, f7, H⟩ := Qc H
 refine iS 1 ?_
 refine cF 31 #[] #[] 20 Tryz.call31 (N5   f6 (Zs hL (SP.keeps d2)) z f7) ?_
 rintro e d3 ⟨rfl, d4⟩
 refine ⟨_, rfl, ?_⟩
 have a8 := SP.call d2 d4
 clear d4
 refine iR 1 2 [(13, (.bool z))] ?_
 refine iF ?_
 refine aQ ?_
 refine aR ?_
 refine iS 1 ?_
 refine sL 24 6 d1 0 0 (.agg #[(.int .i64 a4), (.int .i64 a5), (.int .i64 a6), (.int .i64 a7), (.slice A6 (List.length (List.map stT d9)) c7)]) 21 a8 rfl ?_
 obtain ⟨f8, d5, H⟩ := Qc H
 rcases f8 with _ | c
 ·have H := optN H
  refine iS 2 ?_
  refine cF 18 #[(.tmp 21)] #[24] 22 Tryz.call18 (Jt A6 c7 a4 a5 a6 a7 d9 d3 (Zs hL (SP.keeps a8)) (Dp.sp a3 a8) none d5) ?_
  rintro e h4 ⟨rfl, d6⟩
  refine ⟨_, rfl, ?_⟩
  have f9 := SP.call a8 d6
  clear d6
  refine iR 1 3 [(14, (.pointer none))] ?_
  refine iF ?_
  refine aQ ?_
  refine aQ ?_
  refine aR ?_
  refine iR 24 24 [(23, (.pointer none)), (24, (.bool true)), (25, (.bool true)), (26, undef), (27, undef), (28, (.bool true)), (29, (.bool true)), (30, undef), (31, undef), (32, undef), (33, undef), (34, undef), (35, undef), (36, (.bool true)), (37, (.bool true)), (38, undef), (39, undef), (40, undef), (41, (.bool true)), (42, (.bool true)), (43, undef), (44, undef), (45, undef), (46, (.bool true))] ?_
  refine iF ?_
  refine Zv K (o := (.tmp 46)) K (b := true) K (fun d7 => ?_) (fun d7 => ?_)
  rotate_left
  ·cases d7
  refine aQ ?_
  refine aR ?_
  refine iR 2 2 [(47, (.bool z)), (12, (.bool z))] ?_
  refine iF ?_
  refine At.ret K ?_
  refine ⟨(.bool z), K, ?_⟩
  obtain rfl := Qg H
  exact ⟨rfl, SP.sel f9 [] rfl rfl⟩
 ·have H := optS H
  refine iS 2 ?_
  refine cF 18 #[(.tmp 21)] #[24] 22 Tryz.call18 (Jt A6 c7 a4 a5 a6 a7 d9 d3 (Zs hL (SP.keeps a8)) (Dp.sp a3 a8) (some c) d5) ?_
  rintro e g0 ⟨f, h, rfl, d8⟩
  refine ⟨_, rfl, ?_⟩
  have b7 := SP.call a8 d8
  clear d8
  refine iR 1 3 [(14, (pt f 0))] ?_
  refine iF ?_
  refine aQ ?_
  refine aQ ?_
  refine At.join (fun ρ w => ∃ (b0 : Bool), Zn ρ [(1, (.string ⟨List.toArray i⟩)), (2, (.string ⟨List.toArray j⟩)), (3, (.string ⟨List.toArray s⟩)), (4, (.string ⟨List.toArray a0⟩)), (5, (.int .i64 a1)), (13, (.bool z)), (14, (pt f 0)), (46, (.bool b0))] ∧ SP [] w0 w [Qq f 79 #[(.int .i64 c.1), (.int .i64 c.2.1), (.int .i64 c.2.2.1), (.int .i64 c.2.2.2.1), (.slice A6 (List.length (List.map stT d9)) c7), (.map (some h))], Vp h c.2.2.2.2] ∧ Q4 (List.map stT d9) i j s a0 a1 z c b0 = some r) ?_ ?_
  ·refine aR ?_
   refine iR 3 3 [(23, (pt f 0)), (24, (.bool false)), (25, (.bool false))] ?_
   refine iS 4 ?_
   refine sL 24 6 d1 0 0 (.agg #[(.int .i64 a4), (.int .i64 a5), (.int .i64 a6), (.int .i64 a7), (.slice A6 (List.length (List.map stT d9)) c7)]) 26 b7 rfl ?_
   obtain ⟨b4, g1, H⟩ := Qc H
   refine iS 5 ?_
   refine cF 16 #[(.tmp 26)] #[24] 27 Tryz.call16 (Nj A6 c7 a4 a5 a6 a7 d9 g0 (Dp.sp a3 b7) b4 g1) ?_
   rintro e h5 ⟨rfl, e0⟩
   refine ⟨_, rfl, ?_⟩
   have b5 := SP.call b7 e0
   clear e0
   refine iR 2 7 [(28, (.bool b4)), (29, (.bool b4))] ?_
   refine In.guard (t := 29) (b := b4) K (fun b8 => ?_) (fun b8 => ?_)
   ·have H := ct H b8
    refine iR 17 24 [(30, undef), (31, undef), (32, undef), (33, undef), (34, undef), (35, undef), (36, (.bool true)), (37, (.bool true)), (38, undef), (39, undef), (40, undef), (41, (.bool true)), (42, (.bool true)), (43, undef), (44, undef), (45, undef), (46, (.bool true))] ?_
    refine iF ?_
    exact ⟨true, ⟨K, K, K, K, K, K, K, K, trivial⟩, SP.sel b5 [1, 2] rfl rfl, H⟩
   ·have H := cf H b8
    refine iR 8 15 [(30, (.string ⟨List.toArray i⟩)), (31, (.int .i64 ((List.length i : Nat) : Int))), (32, (.string ⟨List.toArray j⟩)), (33, (.int .i64 ((List.length j : Nat) : Int))), (34, (.int .i64 (IntKind.wrap .i64 (((List.length i : Nat) : Int) + ((List.length j : Nat) : Int))))), (35, (.bool (decide ((IntKind.wrap .i64 (((List.length i : Nat) : Int) + ((List.length j : Nat) : Int))) > 1000)))), (36, (.bool (decide ((IntKind.wrap .i64 (((List.length i : Nat) : Int) + ((List.length j : Nat) : Int))) > 1000)))), (37, (.bool (decide ((IntKind.wrap .i64 (((List.length i : Nat) : Int) + ((List.length j : Nat) : Int))) > 1000))))] ?_
    refine In.guard (t := 37) (b := (decide ((IntKind.wrap .i64 (((List.length i : Nat) : Int) + ((List.length j : Nat) : Int))) > 1000))) K (fun b9 => ?_) (fun b9 => ?_)
    ·have H := ct H b9
     refine iR 9 24 [(38, undef), (39, undef), (40, undef), (41, (.bool true)), (42, (.bool true)), (43, undef), (44, undef), (45, undef), (46, (.bool true))] ?_
     refine iF ?_
     exact ⟨true, ⟨K, K, K, K, K, K, K, K, trivial⟩, SP.sel b5 [1, 2] rfl rfl, H⟩
    ·have H := cf H b9
     refine iR 5 20 [(38, (.string ⟨List.toArray s⟩)), (39, (.int .i64 ((List.length s : Nat) : Int))), (40, (.bool (decide (((List.length s : Nat) : Int) > 64)))), (41, (.bool (decide (((List.length s : Nat) : Int) > 64)))), (42, (.bool (decide (((List.length s : Nat) : Int) > 64))))] ?_
     refine In.guard (t := 42) (b := (decide (((List.length s : Nat) : Int) > 64))) K (fun c0 => ?_) (fun c0 => ?_)
     ·have H := ct H c0
      refine iR 4 24 [(43, undef), (44, undef), (45, undef), (46, (.bool true))] ?_
      refine iF ?_
      exact ⟨true, ⟨K, K, K, K, K, K, K, K, trivial⟩, SP.sel b5 [1, 2] rfl rfl, H⟩
     ·have H := cf H c0
      refine iR 4 24 [(43, (.string ⟨List.toArray a0⟩)), (44, (.int .i64 ((List.length a0 : Nat) : Int))), (45, (.bool (decide (((List.length a0 : Nat) : Int) > 64)))), (46, (.bool (decide (((List.length a0 : Nat) : Int) > 64))))] ?_
      refine iF ?_
      exact ⟨(decide (((List.length a0 : Nat) : Int) > 64)), ⟨K, K, K, K, K, K, K, K, trivial⟩, SP.sel b5 [1, 2] rfl rfl, H⟩
  ·rintro ρ g2 ⟨b0, hk, b6, H⟩
   unfold Q4 at H
   first | refine At.known [(1, (.string ⟨List.toArray i⟩)), (2, (.string ⟨List.toArray j⟩)), (3, (.string ⟨List.toArray s⟩)), (4, (.string ⟨List.toArray a0⟩)), (5, (.int .i64 a1)), (13, (.bool z)), (14, (pt f 0)), (46, (.bool b0))] hk ?_ | rw [← Va (l := [(1, (.string ⟨List.toArray i⟩)), (2, (.string ⟨List.toArray j⟩)), (3, (.string ⟨List.toArray s⟩)), (4, (.string ⟨List.toArray a0⟩)), (5, (.int .i64 a1)), (13, (.bool z)), (14, (pt f 0)), (46, (.bool b0))]) hk]
   refine Zv K (o := (.tmp 46)) K (b := b0) K (fun c1 => ?_) (fun c1 => ?_)
   ·have H := ct H c1
    refine aQ ?_
    refine aR ?_
    refine iR 2 2 [(47, (.bool z)), (12, (.bool z))] ?_
    refine iF ?_
    refine At.ret K ?_
    refine ⟨(.bool z), K, ?_⟩
    obtain rfl := Qg H
    exact ⟨rfl, SP.sel b6 [] rfl rfl⟩
   ·have H := cf H c1
    refine At.skip K ?_
    refine aQ ?_
    refine aR ?_
    refine iR 1 1 [(48, (pt f 0))] ?_
    obtain ⟨u, g3, H⟩ := Qc H
    refine iS 2 ?_
    refine cF 33 #[(.tmp 48)] #[29] 49 Tryz.call33 (Ut f A6 c7 h c.1 c.2.1 c.2.2.1 c.2.2.2.1 d9 c.2.2.2.2 g2 (Xy b6 [0, 1] rfl rfl) (fun w hm => Dp.mono _ (Ju b6 (l := [0, 1]) rfl hm) a3) u g3) ?_
    rintro e e1 ⟨m, rfl, e2⟩
    refine ⟨_, rfl, ?_⟩
    have c2 : SP [] w0 e1 [Qq m 95 #[(pt f 0), (V7 u.1 m), (.string ⟨List.toArray u.2.1⟩), (.string ⟨List.toArray u.2.2.1⟩), (.string ⟨List.toArray u.2.2.2.1⟩), (.bool u.2.2.2.2)], Qq f 79 #[(.int .i64 c.1), (.int .i64 c.2.1), (.int .i64 c.2.2.1), (.int .i64 c.2.2.2.1), (.slice A6 (List.length (List.map stT d9)) c7), (.map (some h))], Vp h c.2.2.2.2] := Vy b6 [0, 1] [] rfl rfl e2 rfl
    clear e2
    refine iR 1 3 [(15, (pt m 0))] ?_
    refine iF ?_
    refine aQ ?_
    refine aQ ?_
    refine aR ?_
    refine iR 2 2 [(50, (pt m 0)), (51, (.bool false))] ?_
    refine iF ?_
    refine Zv K (o := (.tmp 51)) K (b := false) K (fun e3 => ?_) (fun e3 => ?_)
    ·cases e3
    refine At.skip K ?_
    refine aQ ?_
    refine aR ?_
    refine iR 4 4 [(52, (pt f 0)), (53, (.string ⟨List.toArray i⟩)), (54, (.string ⟨List.toArray j⟩)), (55, (.string ⟨List.toArray a0⟩))] ?_
    obtain ⟨q, g4, H⟩ := Qc H
    refine iS 5 ?_
    refine cF 24 #[(.tmp 52), (.tmp 53), (.tmp 54), (.tmp 55)] #[29, 9, 9, 9] 56 Tryz.call24 (Xo f A6 c7 h c.1 c.2.1 c.2.2.1 c.2.2.2.1 d9 c.2.2.2.2 i j a0 e1 (Xy c2 [1, 2] rfl rfl) (fun w hm => Dp.mono _ (Ju c2 (l := [1, 2]) rfl hm) a3) q g4) ?_
    rintro e e4 ⟨rfl, e5⟩
    refine ⟨_, rfl, ?_⟩
    have c3 : SP [] w0 e4 [Qq m 95 #[(pt f 0), (V7 u.1 m), (.string ⟨List.toArray u.2.1⟩), (.string ⟨List.toArray u.2.2.1⟩), (.string ⟨List.toArray u.2.2.2.1⟩), (.bool u.2.2.2.2)], Qq f 79 #[(.int .i64 c.1), (.int .i64 c.2.1), (.int .i64 c.2.2.1), (.int .i64 c.2.2.2.1), (.slice A6 (List.length (List.map stT d9)) c7), (.map (some h))], Vp h c.2.2.2.2] := Vy c2 [1, 2] [0] rfl rfl e5 rfl
    clear e5
    refine iR 1 6 [(16, (.string ⟨List.toArray q⟩))] ?_
    refine iF ?_
    refine aQ ?_
    refine aR ?_
    refine iR 6 6 [(57, (pt m 0)), (58, (.string ⟨List.toArray i⟩)), (59, (.string ⟨List.toArray j⟩)), (60, (.agg #[(.int .i64 1), (.string ⟨List.toArray i⟩), (.string ⟨List.toArray j⟩), (.int .i64 0), (.int .i64 0)])), (61, (.int .i64 a1)), (62, (.string ⟨List.toArray s⟩))] ?_
    obtain ⟨a2, g5, H⟩ := Qc H
    refine iS 7 ?_
    refine cF 34 #[(.tmp 57), (.tmp 60), (.tmp 61), (.tmp 62)] #[60, 63, 2, 9] 63 Tryz.call34 (Za m f A6 c7 h c.1 c.2.1 c.2.2.1 c.2.2.2.1 d9 c.2.2.2.2 u.1 u.2.1 u.2.2.1 u.2.2.2.1 u.2.2.2.2 1 i j 0 0 a1 s e4 (Xy c3 [1, 2, 0] rfl rfl) (fun w hm => Dp.mono _ (Ju c3 (l := [1, 2, 0]) rfl hm) a3) a2 g5) ?_
    rintro e e6 ⟨rfl, e7⟩
    refine ⟨_, rfl, ?_⟩
    have c4 : SP [] w0 e6 [Qq f 79 #[(.int .i64 c.1), (.int .i64 c.2.1), (.int .i64 c.2.2.1), (.int .i64 c.2.2.2.1), (.slice A6 (List.length (List.map stT d9)) c7), (.map (some h))], Vp h c.2.2.2.2, Qq m 95 #[(pt f 0), (V7 a2.2.2.2.2.2.2.1 m), (.string ⟨List.toArray a2.2.2.2.2.2.2.2.1⟩), (.string ⟨List.toArray a2.2.2.2.2.2.2.2.2.1⟩), (.string ⟨List.toArray a2.2.2.2.2.2.2.2.2.2.1⟩), (.bool a2.2.2.2.2.2.2.2.2.2.2)]] := Vy c3 [1, 2, 0] [] rfl rfl e7 rfl
    clear e7
    refine iF ?_
    refine aQ ?_
    refine aR ?_
    refine iR 4 4 [(64, (pt m 0)), (65, (.string ⟨List.toArray q⟩)), (66, (.agg #[(.int .i64 3), (.string ⟨List.toArray q⟩), (.string ⟨List.toArray ([] : List UInt8)⟩), (.int .i64 0), (.int .i64 0)])), (67, (.int .i64 a1))] ?_
    obtain ⟨g, g6, H⟩ := Qc H
    refine iS 5 ?_
    refine cF 34 #[(.tmp 64), (.tmp 66), (.tmp 67), (.const (.string ⟨List.toArray ([] : List UInt8)⟩))] #[60, 63, 2, 9] 68 Tryz.call34 (Za m f A6 c7 h c.1 c.2.1 c.2.2.1 c.2.2.2.1 d9 c.2.2.2.2 a2.2.2.2.2.2.2.1 a2.2.2.2.2.2.2.2.1 a2.2.2.2.2.2.2.2.2.1 a2.2.2.2.2.2.2.2.2.2.1 a2.2.2.2.2.2.2.2.2.2.2 3 q ([] : List UInt8) 0 0 a1 ([] : List UInt8) e6 (Xy c4 [0, 1, 2] rfl rfl) (fun w hm => Dp.mono _ (Ju c4 (l := [0, 1, 2]) rfl hm) a3) g g6) ?_
    rintro e e8 ⟨rfl, e9⟩
    refine ⟨_, rfl, ?_⟩
    have c5 : SP [] w0 e8 [Qq f 79 #[(.int .i64 c.1), (.int .i64 c.2.1), (.int .i64 c.2.2.1), (.int .i64 c.2.2.2.1), (.slice A6 (List.length (List.map stT d9)) c7), (.map (some h))], Vp h c.2.2.2.2, Qq m 95 #[(pt f 0), (V7 g.2.2.2.2.2.2.1 m), (.string ⟨List.toArray g.2.2.2.2.2.2.2.1⟩), (.string ⟨List.toArray g.2.2.2.2.2.2.2.2.1⟩), (.string ⟨List.toArray g.2.2.2.2.2.2.2.2.2.1⟩), (.bool g.2.2.2.2.2.2.2.2.2.2)]] := Vy c4 [0, 1, 2] [] rfl rfl e9 rfl
    clear e9
    refine iF ?_
    refine aQ ?_
    refine aR ?_
    refine iR 1 1 [(70, (pt m 0))] ?_
    obtain ⟨p, g7, H⟩ := Qc H
    refine iS 2 ?_
    refine cF 35 #[(.tmp 70)] #[60] 71 Tryz.call35 (Y2 m f A6 c7 h c.1 c.2.1 c.2.2.1 c.2.2.2.1 d9 c.2.2.2.2 g.2.2.2.2.2.2.1 g.2.2.2.2.2.2.2.1 g.2.2.2.2.2.2.2.2.1 g.2.2.2.2.2.2.2.2.2.1 g.2.2.2.2.2.2.2.2.2.2 e8 (Xy c5 [0, 1, 2] rfl rfl) (fun w hm => Dp.mono _ (Ju c5 (l := [0, 1, 2]) rfl hm) a3) p g7) ?_
    rintro e f0 ⟨rfl, f1⟩
    refine ⟨_, rfl, ?_⟩
    have c6 : SP [] w0 f0 [Qq f 79 #[(.int .i64 c.1), (.int .i64 c.2.1), (.int .i64 c.2.2.1), (.int .i64 c.2.2.2.1), (.slice A6 (List.length (List.map stT d9)) c7), (.map (some h))], Vp h c.2.2.2.2, Qq m 95 #[(pt f 0), (V7 g.2.2.2.2.2.2.1 m), (.string ⟨List.toArray g.2.2.2.2.2.2.2.1⟩), (.string ⟨List.toArray g.2.2.2.2.2.2.2.2.1⟩), (.string ⟨List.toArray g.2.2.2.2.2.2.2.2.2.1⟩), (.bool g.2.2.2.2.2.2.2.2.2.2)]] := Vy c5 [0, 1, 2] [] rfl rfl f1 rfl
    clear f1
    refine iR 5 7 [(69, (.tuple #[(.string ⟨List.toArray p.1⟩), (.bool p.2)])), (72, (.string ⟨List.toArray p.1⟩)), (73, (.bool p.2)), (17, (.string ⟨List.toArray p.1⟩)), (18, (.bool p.2))] ?_
    refine iF ?_
    refine aQ ?_
    refine aR ?_
    refine iR 5 5 [(74, (.string ⟨List.toArray q⟩)), (75, (pt f 0)), (76, (.string ⟨List.toArray i⟩)), (77, (.string ⟨List.toArray j⟩)), (78, (.string ⟨List.toArray s⟩))] ?_
    obtain ⟨a9, g8, H⟩ := Qc H
    refine iS 6 ?_
    refine cF 24 #[(.tmp 75), (.tmp 76), (.tmp 77), (.tmp 78)] #[29, 9, 9, 9] 79 Tryz.call24 (Xo f A6 c7 h c.1 c.2.1 c.2.2.1 c.2.2.2.1 d9 c.2.2.2.2 i j s f0 (Xy c6 [0, 1] rfl rfl) (fun w hm => Dp.mono _ (Ju c6 (l := [0, 1]) rfl hm) a3) a9 g8) ?_
    rintro e f2 ⟨rfl, f3⟩
    refine ⟨_, rfl, ?_⟩
    have b1 : SP [] w0 f2 [Qq m 95 #[(pt f 0), (V7 g.2.2.2.2.2.2.1 m), (.string ⟨List.toArray g.2.2.2.2.2.2.2.1⟩), (.string ⟨List.toArray g.2.2.2.2.2.2.2.2.1⟩), (.string ⟨List.toArray g.2.2.2.2.2.2.2.2.2.1⟩), (.bool g.2.2.2.2.2.2.2.2.2.2)], Qq f 79 #[(.int .i64 c.1), (.int .i64 c.2.1), (.int .i64 c.2.2.1), (.int .i64 c.2.2.2.1), (.slice A6 (List.length (List.map stT d9)) c7), (.map (some h))], Vp h c.2.2.2.2] := Vy c6 [0, 1] [2] rfl rfl f3 rfl
    clear f3
    refine iS 7 ?_
    refine Yg (op := .eql) (T := 9) (T' := 9) (x := (.tmp 74)) (y := (.tmp 79)) (a := q) (b := a9) (r := (.bool (q == a9))) (d := (some 80)) (k := 6) K rfl K K rfl ?_
    refine iR 1 8 [(19, (.bool (q == a9)))] ?_
    refine iF ?_
    refine aQ ?_
    refine At.join (fun ρ w => ∃ (b2 : Bool), Zn ρ [(12, (.bool b2))] ∧ SP [] w0 w [] ∧ Vk b2 = some r) ?_ ?_
    ·refine aR ?_
     refine iR 2 2 [(81, (.bool z)), (82, (.bool z))] ?_
     refine In.guard (t := 82) (b := z) K (fun c8 => ?_) (fun c8 => ?_)
     ·have H := ct H c8
      refine iR 3 5 [(83, (.bool p.2)), (84, (.bool (q == a9))), (85, (.bool (q == a9)))] ?_
      refine In.guard (t := 85) (b := (q == a9)) K (fun c9 => ?_) (fun c9 => ?_)
      ·have H := ct H c9
       refine iR 1 6 [(86, (.string ⟨List.toArray q⟩))] ?_
       refine iS 7 ?_
       refine Yg (op := .neq) (T := 9) (T' := 9) (x := (.tmp 86)) (y := (.const (.string ⟨List.toArray ([] : List UInt8)⟩))) (a := q) (b := ([] : List UInt8)) (r := (.bool (!(q == ([] : List UInt8))))) (d := (some 87)) (k := 6) K rfl K K rfl ?_
       refine iR 2 9 [(88, (.bool (!(q == ([] : List UInt8))))), (89, (.bool (!(q == ([] : List UInt8)))))] ?_
       refine In.guard (t := 89) (b := (!(q == ([] : List UInt8)))) K (fun d0 => ?_) (fun d0 => ?_)
       ·have H := ct H d0
        refine iR 4 13 [(90, (pt f 0)), (91, (.string ⟨List.toArray i⟩)), (92, (.string ⟨List.toArray j⟩)), (93, (.int .i64 a1))] ?_
        obtain ⟨b3, g9, H⟩ := Qc H
        refine iS 14 ?_
        refine cF 22 #[(.tmp 90), (.tmp 91), (.tmp 92), (.tmp 93)] #[29, 9, 9, 2] 94 Tryz.call22 (J6 f A6 c7 h c.1 c.2.1 c.2.2.1 c.2.2.2.1 d9 c.2.2.2.2 i j a1 f2 (Xy b1 [1, 2] rfl rfl) (fun w hm => Dp.mono _ (Ju b1 (l := [1, 2]) rfl hm) a3) b3 g9) ?_
        rintro e h1 ⟨rfl, f4⟩
        refine ⟨_, rfl, ?_⟩
        have h2 : SP [] w0 h1 [Qq m 95 #[(pt f 0), (V7 g.2.2.2.2.2.2.1 m), (.string ⟨List.toArray g.2.2.2.2.2.2.2.1⟩), (.string ⟨List.toArray g.2.2.2.2.2.2.2.2.1⟩), (.string ⟨List.toArray g.2.2.2.2.2.2.2.2.2.1⟩), (.bool g.2.2.2.2.2.2.2.2.2.2)], Qq f 79 #[(.int .i64 c.1), (.int .i64 c.2.1), (.int .i64 c.2.2.1), (.int .i64 c.2.2.2.1), (.slice A6 (List.length (List.map stT d9)) c7), (.map (some h))], Vp h c.2.2.2.2] := Vy b1 [1, 2] [0] rfl rfl f4 rfl
        clear f4
        refine iR 4 18 [(95, (.bool b3)), (96, (.bool (p.2 == b3))), (97, (.bool (p.2 == b3))), (12, (.bool (p.2 == b3)))] ?_
        refine iF ?_
        exact ⟨(p.2 == b3), ⟨K, trivial⟩, SP.sel h2 [] rfl rfl, H⟩
       ·have H := cf H d0
        refine iR 9 18 [(90, undef), (91, undef), (92, undef), (93, undef), (94, undef), (95, (.bool false)), (96, (.bool (p.2 == false))), (97, (.bool (p.2 == false))), (12, (.bool (p.2 == false)))] ?_
        refine iF ?_
        exact ⟨(p.2 == false), ⟨K, trivial⟩, SP.sel b1 [] rfl rfl, H⟩
      ·have H := cf H c9
       refine iR 13 18 [(86, undef), (87, undef), (88, (.bool false)), (89, (.bool false)), (90, undef), (91, undef), (92, undef), (93, undef), (94, undef), (95, (.bool false)), (96, (.bool (p.2 == false))), (97, (.bool (p.2 == false))), (12, (.bool (p.2 == false)))] ?_
       refine iF ?_
       exact ⟨(p.2 == false), ⟨K, trivial⟩, SP.sel b1 [] rfl rfl, H⟩
     ·have H := cf H c8
      refine iR 16 18 [(83, undef), (84, undef), (85, undef), (86, undef), (87, undef), (88, undef), (89, undef), (90, undef), (91, undef), (92, undef), (93, undef), (94, undef), (95, undef), (96, undef), (97, (.bool false)), (12, (.bool false))] ?_
      refine iF ?_
      exact ⟨false, ⟨K, trivial⟩, SP.sel b1 [] rfl rfl, H⟩
    ·rintro ρ h6 ⟨b2, hk, h3, H⟩
     unfold Vk at H
     first | refine At.known [(12, (.bool b2))] hk ?_ | rw [← Va (l := [(12, (.bool b2))]) hk]
     refine At.ret K ?_
     refine ⟨(.bool b2), K, ?_⟩
     obtain rfl := Qg H
     exact ⟨rfl, SP.sel h3 [] rfl rfl⟩
end Go.Proofs.YtmgfanhcdfobhaaGreatDoor
namespace Go.Proofs.YtmgfanhcdfobhaaGreatDoor
theorem H4 (l : List Qd) (M : Ur) (A B : Str) (now : Int) (nonce : Str) (h : nonce.length ≤ 64) : hearL l M 1 [] [] [] false 1 A B now nonce = (2, nonce, [], 0, 0, true, 2, A, B, nonce, false) := by
  unfold hearL
  rw [List.take_of_length_le h]
  rfl
theorem H5 (l : List Qd) (M : Ur) (t k n A B : Str) (now : Int) (nonce : Str) : hearL l M 2 t k n false 3 A B now nonce = cond (Gu l M t k n A now == 0) (4, [], [], 0, 0, true, 0, t, k, n, true) (5, [], [], Gu l M t k n A now, 0, true, 0, t, k, n, false) := rfl
theorem Dx (w g i0 e : Int) (l : List Qd) (t k n1 n2 : Str) (now : Int) (ht : t.length ≤ 140737488355328) (hl : l.length ≤ 140737488355328) (hq : ∀ t ∈ l, TenQ t) :
    Xb w g i0 e l t k n1 n2 now = some true := by
  unfold Xb
  obtain ⟨c, hc, hc'⟩ := cfg_great w g i0 e l hl hq
  rw [shakeHead, Option.bind_some, pVNew w g i0 e l hl hq, Option.bind_some]
  cases hk : El w g i0 e l with
  | false => rfl
  | true =>
    rw [cond_true, optE_s, hc, Option.bind_some]
    have hup : Q4 l t k n1 n2 now true (w, g, i0, e, []) true = some true := by unfold Q4; rw [cond_true]
    cases c with
    | true => rw [cond_true]; exact hup
    | false =>
      obtain ⟨s1, s2⟩ := hc' rfl
      have hv := vc_of hk (by omega) hq s2
      rw [cond_false]
      generalize decide (_ > (1000 : Int)) = z
      cases z with
      | true => rw [cond_true]; exact hup
      | false =>
        rw [cond_false]
        by_cases h1 : ((List.length n1 : Nat) : Int) > 64
        · rw [decide_eq_true h1, cond_true]; exact hup
        · rw [decide_eq_false h1, cond_false]
          by_cases h2 : ((List.length n2 : Nat) : Int) > 64
          · rw [decide_eq_true h2]; exact hup
          · rw [decide_eq_false h2]
            unfold Q4 Vk
            have hw := Ez (l := l) t k n2
            rw [cond_false, show Uh (w, g, i0, e, ([] : Ur)).1 (w, g, i0, e, ([] : Ur)).2.1 (w, g, i0, e, ([] : Ur)).2.2.1 (w, g, i0, e, ([] : Ur)).2.2.2.1 l (w, g, i0, e, ([] : Ur)).2.2.2.2 = some (1, [], [], [], false) from rfl, Option.bind_some,
              pVWant hv, Option.bind_some, pHear hv _ _ _ _ _ _ _ _ _ _ _ _ _ _ _ _ _ ht (by omega), Option.bind_some, H4 _ _ _ _ _ _ (by omega), pHear hv _ _ _ _ _ _ _ _ _ _ _ _ _ _ _ _ _ (by omega) (by simp), Option.bind_some, H5, vCheck_0]
            simp only [who_p, Option.bind_some]
            rw [pVWant hv, Option.bind_some, pVGood hv, Option.bind_some]
            by_cases ha : Gt l t k n2 = Gt l t k n1
            · rw [ha, beq_self_eq_true]
              cases Ey l [] t k now <;> cases (Gt l t k n1 == []) <;> rfl
            · rw [beq_eq_false_iff_ne.2 ha]
              cases Ey l [] t k now <;> cases (Gt l t k n1 == []) <;> rfl
end Go.Proofs.YtmgfanhcdfobhaaGreatDoor
namespace Go.Proofs.YtmgfanhcdfobhaaGreatDoor
open Go.RowKit Go.ChangeShapes Go.WideShapes Go.Deep
theorem own : ownKnob Tryz.prog.godebug = none := by kernel_rfl
theorem Dh : laidOutB Tryz.prog = true := by kernel_rfl
section
variable {H : Type} {enc : TypeId × Value → H} {W : World} {spare : Nat → Bool} {held : Bool} {base b0 : Nat} {r : Reach}
end
end Go.Proofs.YtmgfanhcdfobhaaGreatDoor
namespace Go.Proofs.YtmgfanhcdfobhaaGreatDoor
open Go.RowKit Go.ChangeShapes Go.WideShapes Go.Deep
section
variable {H : Type} {enc : TypeId × Value → H} {P : Program} {W : World}
def Rds (enc : TypeId × Value → H) (P : Program) (W : World) (t : TypeId) {α : Type} (e : Enc α) (Q : Nat → α → Prop) : Prop :=
  ∀ (Zw : Nat) (cs : List Value) (x : DataW H × List MemPlace), DataW.trod enc P W 0 (fun _ => true) true Zw t cs = some x → ∃ a, cs = e.enc a ∧ ∀ r, (x.1.weights P t).all (· ≤ r) = true → Q r a
def RdsFs (enc : TypeId × Value → H) (P : Program) (W : World) (o : Nat) (fs : List (TypeId × Nat)) {α : Type} (e : Enc α) (Q : Nat → α → Prop) : Prop :=
  ∀ (Zw : Nat) (cs : List Value) (xs : List (DataW H × List MemPlace)), xs.length = fs.length → (∀ (i : Nat) f, fs[i]? = some f → DataW.trod enc P W 0 (fun _ => true) true Zw f.1 ((cs.drop f.2).take (P.cellsOf f.1)) = xs[i]?) →
    ∃ a, (cs.drop o).take e.sz = e.enc a ∧ ∀ r, (DataW.weightsEach P (fs.map (·.1)) (xs.map (·.1))).all (· ≤ r) = true → Q r a
theorem N6 {t : TypeId} {k : IntKind} (ht : P.underlying t = some (.int k)) : Rds enc P W t (Qi k) (fun _ n => (Lit.int k n).wf = true) := by
  intro Zw cs x h
  obtain ⟨n, rfl, rfl, hw⟩ := DataW.trod_int ht h
  exact ⟨n, rfl, fun _ _ => hw⟩
theorem F1 {t : TypeId} (ht : P.underlying t = some .string) : Rds enc P W t Zf (fun r s => s.length ≤ r) := by
  intro Zw cs x h
  obtain ⟨s, rfl, rfl, hs⟩ := DataW.trod_string ht h
  refine ⟨s.data.toList, rfl, fun r hr => ?_⟩
  simpa [DataW.weights] using hr
theorem Hh {t : TypeId} {o : Nat} {α : Type} {e : Enc α} {Q : Nat → α → Prop} (h : Rds enc P W t e Q) (hc : P.cellsOf t = e.sz) : RdsFs enc P W o [(t, o)] e Q := by
  intro Zw cs xs hl hf
  match xs, hl with
  | [x], _ =>
    have := hf 0 (t, o) rfl
    obtain ⟨a, ha, hq⟩ := h Zw _ _ this
    rw [hc] at ha
    refine ⟨a, ha, fun r hr => hq r ?_⟩
    simpa [DataW.weightsEach] using hr
theorem U3 {t : TypeId} {o : Nat} {fs : List (TypeId × Nat)} {α β : Type} {e : Enc α} {e' : Enc β} {Q : Nat → α → Prop} {Q' : Nat → β → Prop} (h : Rds enc P W t e Q) (hc : P.cellsOf t = e.sz) (hr : RdsFs enc P W (o + e.sz) fs e' Q') :
    RdsFs enc P W o ((t, o) :: fs) (Qv e e') (fun r a => Q r a.1 ∧ Q' r a.2) := by
  intro Zw cs xs hl hf
  match xs, hl with
  | x :: xs, hl =>
    have := hf 0 (t, o) rfl
    obtain ⟨a, ha, hq⟩ := h Zw _ _ this
    obtain ⟨b, hb, hq'⟩ := hr Zw cs xs (by simpa using hl) (fun i f hi => by have := hf (i + 1) f (by simpa using hi); simpa using this)
    refine ⟨(a, b), ?_, fun r hw => ?_⟩
    · show (cs.drop o).take (e.sz + e'.sz) = e.enc a ++ e'.enc b
      rw [hc] at ha
      rw [← ha, ← hb, List.take_add, List.drop_drop]
    · simp only [List.map_cons, DataW.weightsEach, List.all_append, Bool.and_eq_true] at hw
      exact ⟨hq r hw.1, hq' r hw.2⟩
theorem Gz {t : TypeId} {l : List (TypeId × Nat)} {α : Type} {e : Enc α} {Q : Nat → α → Prop} (hl : (match P.underlying t with | some (.struct fs) => some (fs.toList.map (fun f => (f.type, f.offset))) | _ => none) = some l) (hc : P.cellsOf t = e.sz)
    (hr : RdsFs enc P W 0 l e Q) : Rds enc P W t e Q := by
  intro Zw cs x hx
  split at hl
  · rename_i fs hs
    simp only [Option.some.injEq] at hl
    subst hl
    obtain ⟨xs, n, _, rfl, hlen, hxs, hg⟩ := DataW.trod_struct hs hx
    obtain ⟨a, ha, hq⟩ := hr n cs xs (by simpa using hxs) (fun i f hi => by
      rw [List.getElem?_map, Option.map_eq_some_iff] at hi
      obtain ⟨f', hf', rfl⟩ := hi
      exact hg i f' (by simpa using hf'))
    rw [List.drop_zero, List.take_of_length_le (by omega)] at ha
    refine ⟨a, ha, fun r hw => hq r ?_⟩
    simp only [DataW.weights, hs] at hw
    simpa [List.map_map, Function.comp_def] using hw
  · cases hl
theorem G7 {t : TypeId} {n : Nat} : ∀ {ds : List (DataW H)} {d : DataW H}, d ∈ ds → n ∈ d.weights P t → n ∈ DataW.weightsAll P t ds
  | d0 :: ds, d, hd, hn => by
    simp only [DataW.weightsAll, List.mem_append]
    rcases List.mem_cons.1 hd with rfl | h
    · exact .inl hn
    · exact .inr (G7 h hn)
theorem rds_row {t te : TypeId} {α : Type} {e : Enc α} {Q : Nat → α → Prop} (ht : P.underlying t = some (.slice te)) (h : Rds enc P W te e Q) (hc : P.cellsOf te = e.sz) (h0 : 0 < e.sz) {Zw : Nat} {cs : List Value} {x : DataW H × List MemPlace}
    (hx : DataW.trod enc P W 0 (fun _ => true) true Zw t cs = some x) :
    ∃ (A : Option Addr) (c : Nat) (l : List α), cs = [.slice A l.length c] ∧ RdT e W A c l ∧ ∀ r, (x.1.weights P t).all (· ≤ r) = true → l.length * P.bytesOf te ≤ r ∧ ∀ a ∈ l, Q r a := by
  rcases DataW.trod_slice ht hx with ⟨rfl, rfl⟩ | ⟨a, len, cap, elems, rest, n, _, rfl, rfl, _, hl, hm, hlen, hel, _, _⟩
  · exact ⟨none, 0, [], rfl, RdT.nil _ W, fun r _ => ⟨by simp, fun a ha => by cases ha⟩⟩
  · have each : ∀ i, i ≤ len → ∃ l : List α, l.length = i ∧ ∀ j (hj : j < l.length), W.cells? 0 (a.add (j * P.cellsOf te)) (P.cellsOf te) = some (e.enc l[j]) ∧ ∀ y, elems[j]? = some y → ∀ r, (y.1.weights P te).all (· ≤ r) = true → Q r l[j] := by
      intro i
      induction i with
      | zero => exact fun _ => ⟨[], rfl, fun j hj => by simp at hj⟩
      | succ i ih =>
        intro hi
        obtain ⟨l, hll, hlg⟩ := ih (by omega)
        have := hel i (by omega)
        rw [List.getElem?_eq_getElem (by omega), Option.bind_eq_some_iff] at this
        obtain ⟨cs', h1, h2⟩ := this
        obtain ⟨b, rfl, hb⟩ := h n cs' _ h2
        refine ⟨l ++ [b], by simp [hll], fun j hj => ?_⟩
        by_cases hji : j < l.length
        · rw [List.getElem_append_left hji]
          exact hlg j hji
        · obtain rfl : j = i := by simp at hj; omega
          subst hll
          rw [List.getElem_concat_length rfl]
          refine ⟨h1, fun y hy => ?_⟩
          rw [List.getElem?_eq_getElem (by omega), Option.some.injEq] at hy
          subst hy
          exact hb
    obtain ⟨l, hll, hlg⟩ := each len (Nat.le_refl _)
    subst hll
    refine ⟨some a, cap, l, rfl, ⟨by rw [Q8], hl, hm, fun hn => ?_⟩, fun r hw => ?_⟩
    · have cell : ∀ j (hj : j < l.length) k, k < e.sz → W.cell? ((a.add (j * e.sz)).add k) = (e.enc l[j])[k]? := by
        intro j hj k hk
        have := (hlg j hj).1
        rw [hc] at this
        exact (World.cells?_some this).2.2 k hk
      have c0 := cell 0 hn 0 h0
      rw [Nat.zero_mul, List.getElem?_eq_getElem (by rw [e.len]; exact h0)] at c0
      obtain ⟨b, off, spot⟩ := a
      obtain rfl : spot = none := by simpa [Addr.add] using World.cell?_spot c0
      have hadd : ∀ i j : Nat, ((⟨b, off, none⟩ : Addr).add i).add j = ⟨b, off + (i + j), none⟩ := by
        intro i j
        unfold Addr.add
        by_cases hi : i = 0 <;> by_cases hj : j = 0 <;> simp [hi, hj, Nat.add_assoc]
      rw [hadd] at c0
      refine ⟨b, off, rfl, block_lt_of_cell c0, fun j u hu => ?_⟩
      have hlen2 := (List.getElem?_eq_some_iff.1 hu).1
      rw [Q8] at hlen2
      have hq : j / e.sz < l.length := Nat.div_lt_of_lt_mul (by rw [Nat.mul_comm]; exact hlen2)
      have hk : j % e.sz < e.sz := Nat.mod_lt _ h0
      have hj : j = j / e.sz * e.sz + j % e.sz := by rw [Nat.mul_comm]; exact (Nat.div_add_mod j e.sz).symm
      have hce := cell (j / e.sz) hq (j % e.sz) hk
      rw [hadd, ← hj] at hce
      rw [hce]
      have hgt := Ns e (l := l) (i := j / e.sz) (x := l[j / e.sz]) (List.getElem?_eq_getElem hq) (j := j % e.sz) (u := (e.enc l[j / e.sz])[j % e.sz]'(by rw [e.len]; exact hk)) (List.getElem?_eq_getElem _)
      rw [← hj, hu] at hgt
      rw [List.getElem?_eq_getElem (by rw [e.len]; exact hk), ← hgt]
    · simp only [DataW.weights, ht, List.all_cons, Bool.and_eq_true, decide_eq_true_eq, List.all_append] at hw
      refine ⟨Nat.le_trans (Nat.mul_le_mul_right _ (by simp; omega)) hw.1, fun b hb => ?_⟩
      obtain ⟨j, hj, rfl⟩ := List.mem_iff_getElem.1 hb
      refine (hlg j hj).2 _ (List.getElem?_eq_getElem (by omega)) r ?_
      rw [List.all_eq_true] at hw ⊢
      intro m hm'
      exact hw.2.1 m (G7 (List.mem_map.2 ⟨_, List.getElem_mem (by omega), rfl⟩) hm')
variable {r0 : Reach} {b0 : Nat}
theorem open_agg {t : TypeId} {fs : Array Field} {α : Type} {e : Enc α} {Q : Nat → α → Prop} (hs : P.underlying t = some (.struct fs)) (h : Rds enc P W t e Q) {v : Value} {d : DataW H} {p : List MemPlace} (hv : Value.okWide P W r0 b0 t v)
    (hd : DataW.Trod enc P W 0 (fun _ => true) true t v d p) (hr : ∀ n ∈ d.weights P t, n ≤ reachBytes) : ∃ a, v = .agg ⟨e.enc a⟩ ∧ Q reachBytes a := by
  obtain ⟨cs, rfl, hsz⟩ := okWide_struct hs hv
  obtain ⟨Zw, hf⟩ := hd
  obtain ⟨a, ha, hq⟩ := h Zw _ _ hf
  refine ⟨a, ?_, hq _ (by rw [List.all_eq_true]; intro n hn; exact decide_eq_true (hr n hn))⟩
  simp only [Value.cells] at ha
  rw [← ha]
end
end Go.Proofs.YtmgfanhcdfobhaaGreatDoor
namespace Go.Proofs.YtmgfanhcdfobhaaGreatDoor
theorem reachM : reachBytes ≤ 140737488355328 := by decide
section
variable {H : Type} {enc : TypeId × Value → H} {P : Program} {W : World}
theorem rds_ds {t te : TypeId} {α : Type} {e : Enc α} {Q : Nat → α → Prop} (p : Dp α) (ht : P.underlying t = some (.slice te)) (h : Rds enc P W te e Q) (hc : P.cellsOf te = e.sz) (h0 : 0 < e.sz) (hb : Nat.ble 1 (P.bytesOf te) = true) (hp : ∀ r a, Q r a → p.ok W a) :
    Rds enc P W t (eDS e) (fun r x => (dDS e p).ok W x ∧ x.2.2.length ≤ r ∧ ∀ a ∈ x.2.2, Q r a) := by
  intro Zw cs x hx
  obtain ⟨A, c, l, rfl, hr, hq⟩ := rds_row ht h hc h0 hx
  refine ⟨(A, c, l), rfl, fun r hw => ?_⟩
  obtain ⟨h1, h2⟩ := hq r hw
  exact ⟨⟨hr, fun y hy => hp r y (h2 y hy)⟩, Nat.le_trans (Nat.le_mul_of_pos_right _ (Nat.le_of_ble_eq_true hb)) h1, h2⟩
def NetQ (r : Nat) (n : Int × Int) : Prop := (Lit.int .u32 n.1).wf = true ∧ (Lit.int .i64 n.2).wf = true
def TokQ (r : Nat) (x : List UInt8 × List UInt8 × Int) : Prop := x.1.length ≤ r ∧ x.2.1.length ≤ r ∧ (Lit.int .i64 x.2.2).wf = true
def TenDQ (W : World) (r : Nat) (y : Q9) : Prop := y.1.length ≤ r ∧ (Lit.int .i64 y.2.1).wf = true ∧ (Lit.int .i64 y.2.2.1).wf = true ∧
  ((dDS eNet dT).ok W y.2.2.2.1 ∧ y.2.2.2.1.2.2.length ≤ r ∧ ∀ n ∈ y.2.2.2.1.2.2, NetQ r n) ∧ ((dDS eTok dT).ok W y.2.2.2.2 ∧ y.2.2.2.2.2.2.length ≤ r ∧ ∀ x ∈ y.2.2.2.2.2.2, TokQ r x)
def CfgQ (W : World) (r : Nat) (c : Int × Int × Int × Int × DS Q9) : Prop := (Lit.int .i64 c.1).wf = true ∧ (Lit.int .i64 c.2.1).wf = true ∧ (Lit.int .i64 c.2.2.1).wf = true ∧ (Lit.int .i64 c.2.2.2.1).wf = true ∧
  ((dDS J8 Bh).ok W c.2.2.2.2 ∧ c.2.2.2.2.2.2.length ≤ r ∧ ∀ y ∈ c.2.2.2.2.2.2, TenDQ W r y)
set_option maxRecDepth 100000 in
theorem net_rds : Rds enc Tryz.prog W 113 eNet NetQ :=
  Gz (l := [(111, 0), (3, 1)]) (by kernel_rfl) (by kernel_rfl) (U3 (N6 Tryz.underlying111) (by kernel_rfl) (Hh (N6 Tryz.underlying3) (by kernel_rfl)))
set_option maxRecDepth 100000 in
theorem tok_rds : Rds enc Tryz.prog W 48 eTok TokQ :=
  Gz (l := [(9, 0), (9, 1), (2, 2)]) (by kernel_rfl) (by kernel_rfl) (U3 (F1 Tryz.underlying9) (by kernel_rfl) (U3 (F1 Tryz.underlying9) (by kernel_rfl) (Hh (N6 Tryz.underlying2) (by kernel_rfl))))
set_option maxRecDepth 100000 in
theorem ten_rds : Rds enc Tryz.prog W 44 J8 (TenDQ W) :=
  Gz (l := [(9, 0), (3, 1), (3, 2), (41, 3), (42, 4)]) (by kernel_rfl) (by kernel_rfl)
    (U3 (F1 Tryz.underlying9) (by kernel_rfl) (U3 (N6 Tryz.underlying3) (by kernel_rfl) (U3 (N6 Tryz.underlying3) (by kernel_rfl)
      (U3 (rds_ds dT Tryz.underlying41 net_rds (by kernel_rfl) (by decide) (by kernel_rfl) (fun _ _ _ => trivial)) (by kernel_rfl) (Hh (rds_ds dT Tryz.underlying42 tok_rds (by kernel_rfl) (by decide) (by kernel_rfl) (fun _ _ _ => trivial)) (by kernel_rfl))))))
set_option maxRecDepth 100000 in
theorem cfg_rds : Rds enc Tryz.prog W 24 (Qv (Qi .i64) (Qv (Qi .i64) (Qv (Qi .i64) (Qv (Qi .i64) (eDS J8))))) (CfgQ W) :=
  Gz (l := [(2, 0), (2, 1), (2, 2), (2, 3), (22, 4)]) (by kernel_rfl) (by kernel_rfl)
    (U3 (N6 Tryz.underlying2) (by kernel_rfl) (U3 (N6 Tryz.underlying2) (by kernel_rfl) (U3 (N6 Tryz.underlying2) (by kernel_rfl) (U3 (N6 Tryz.underlying2) (by kernel_rfl)
      (Hh (rds_ds Bh Tryz.underlying22 ten_rds (by kernel_rfl) (by decide) (by kernel_rfl) (fun _ _ h => ⟨trivial, trivial, trivial, h.2.2.2.1.1, h.2.2.2.2.1⟩)) (by kernel_rfl))))))
set_option maxRecDepth 100000 in
theorem open_cfg {r0 : Reach} {b0 : Nat} {v : Value} {d : DataW H} {p : List MemPlace} (hv : Value.okWide Tryz.prog W r0 b0 24 v) (hd : DataW.Trod enc Tryz.prog W 0 (fun _ => true) true 24 v d p) (hr : ∀ n ∈ d.weights Tryz.prog 24, n ≤ reachBytes) :
    ∃ (a b c e : Int) (A : Option Addr) (k : Nat) (l : List Q9), v = .agg #[.int .i64 a, .int .i64 b, .int .i64 c, .int .i64 e, .slice A (List.length (List.map stT l)) k] ∧ CfgQ W reachBytes (a, b, c, e, A, k, l) := by
  obtain ⟨⟨a, b, c, e, A, k, l⟩, rfl, q⟩ := open_agg Tryz.underlying24 cfg_rds hv hd hr
  refine ⟨a, b, c, e, A, k, l, ?_, q⟩
  rw [List.length_map]
  rfl
theorem cfg_q {W : World} {a b c d : Int} {A : Option Addr} {k : Nat} {x : List Q9} (h : CfgQ W reachBytes (a, b, c, d, A, k, x)) : (List.map stT x).length ≤ 140737488355328 ∧ ∀ t ∈ List.map stT x, TenQ t := by
  have hM := reachM
  obtain ⟨_, _, _, _, _, h1, h2⟩ := h
  refine ⟨by rw [List.length_map]; exact Nat.le_trans h1 hM, fun t ht => ?_⟩
  obtain ⟨y, hy, rfl⟩ := List.mem_map.1 ht
  obtain ⟨q1, q2, q3, ⟨_, q4, q5⟩, _, q6, q7⟩ := h2 y hy
  refine ⟨Nat.le_trans q1 hM, Nat.le_trans q4 hM, Nat.le_trans q6 hM, fun n hn => ?_, fun z hz => ⟨Nat.le_trans (q7 z hz).1 hM, Nat.le_trans (q7 z hz).2.1 hM⟩⟩
  have := (q5 n hn).1
  simp [Lit.wf, IntKind.min, IntKind.max, IntKind.signed, IntKind.bits] at this
  omega
end
end Go.Proofs.YtmgfanhcdfobhaaGreatDoor
namespace Go.Proofs.YtmgfanhcdfobhaaGreatDoor
open Go.RowKit
abbrev Hi : List (String × DataW Unit) := [("math/bits.deBruijn32tab", Rows.laid_math_bits_deBruijn32tab), ("math/bits.deBruijn64tab", Rows.laid_math_bits_deBruijn64tab), ("internal/strconv.uint64pow10", Rows.laid_internal_strconv_uint64pow10)
  , ("unicode/utf8.acceptRanges", Rows.laid_unicode_utf8_acceptRanges), ("unicode/utf8.first", Rows.laid_unicode_utf8_first)
  ]
theorem gTab : Tryz.prog.globalNamed Gj = some 0 := by kernel_rfl
theorem gTabType : (Tryz.prog.globals[0]?).map (·.type) = some 183 := by kernel_rfl
theorem cellsTab : Tryz.prog.cellsOf 183 = 20 := by kernel_rfl
theorem cellsU64 : Tryz.prog.cellsOf 153 = 1 := by kernel_rfl
theorem laid_of {W : World} (h : laidMetH Tryz.prog Hi W) : Rv W := by
  have h1 := h.filter (fun x => x.1 == Gj)
  have e : Hi.filter (fun x => x.1 == Gj) = [(Gj, Lib.tabData .u64 Lib.pow10Tab)] := by kernel_rfl
  rw [e] at h1
  have ht : Lib.TabIs Tryz.prog W Gj .u64 Lib.pow10Tab := Lib.tabIs_of_head (rest := []) gTab gTabType Tryz.underlying183 Tryz.underlying153 cellsU64 cellsTab h1
  refine ⟨ht, fun g hg => ?_⟩
  obtain rfl := Option.some.inj (gTab.symm.trans hg)
  have := ht.cell gTab 0 (by decide)
  exact block_lt_of_cell this
def cells1 : DataW Unit → List Value
  | .lit (.int k z) => [.int k z]
  | .lit (.bool b) => [.bool b]
  | _ => []
def cells2 : DataW Unit → List Value
  | .agg l => l.flatMap cells1
  | d => cells1 d
def cells3 : DataW Unit → List Value
  | .agg l => l.flatMap cells2
  | d => cells2 d
def R5 (d : DataW Unit) : Obj → Obj
  | .cells _ t frozen => .cells (cells3 d).toArray t frozen
  | o => o
noncomputable def Bt (os : Os) : World :=
  { World.holding Tryz.prog os ⟨#[], #[], []⟩ with heap := ((((World.holding Tryz.prog os ⟨#[], #[], []⟩).heap.modify 4 (R5 Rows.laid_math_bits_deBruijn32tab)).modify 5 (R5 Rows.laid_math_bits_deBruijn64tab)).modify 0 (R5 Rows.laid_internal_strconv_uint64pow10)
    |>.modify 2 (R5 Rows.laid_unicode_utf8_acceptRanges) |>.modify 1 (R5 Rows.laid_unicode_utf8_first)
    ) }
end Go.Proofs.YtmgfanhcdfobhaaGreatDoor
namespace Go.Proofs.YtmgfanhcdfobhaaGreatDoor
open Go.ChangeShapes Go.WideShapes Go.ChangeAt Go.RowKit
open Go.ChangeMaps (open_string shut_string)
set_option maxRecDepth 100000 in
theorem Rp (H : Type) (enc : TypeId × Value → H) (W : World) (base : Nat) (args : Array Value) (ds gs : List (DataW H)) (before : List MemPlace) (vt : List TypeId)
    (hval : ∀ (j : Nat) t v, Tryz.f11.params[j]? = some t → args[j]? = some v → Value.okWide Tryz.prog W .any base t v)
    (hW : DataW.Whole enc Tryz.prog Tryz.f11.params.toList Rows.shakeNonceSpec.vars false W args.toList ds gs before) (hL : laidMetH Tryz.prog Rows.shakeNonceRow.laid W)
    (hZ : (DataW.weightsEach Tryz.prog (Tryz.f11.params.toList ++ vt) (ds ++ gs)).all (· ≤ reachBytes) = true) :
    Calls Tryz.prog 11 args W fun e W' => ∃ v, e = .returned v ∧ Rows.shakeNonceSpec.post enc Tryz.prog Tryz.f11 false true false false W args v W' := by
  have hW' := hW
  obtain ⟨p, q, hA0, hV, rfl, hfz, hnd⟩ := hW
  have hA : DataW.TrodAll enc Tryz.prog W 0 (fun _ => true) true Tryz.f11.params.toList args.toList ds p := hA0
  rw [Tryz.params11] at hA hval hZ
  obtain ⟨v0, vs0, d0, ds0, p0, q0, hargs, rfl, rfl, h0, r0⟩ := trodAll_cons hA
  obtain ⟨v1, vs1, d1, ds1, p1, q1, rfl, rfl, rfl, h1, r1⟩ := trodAll_cons r0
  obtain ⟨v2, vs2, d2, ds2, p2, q2, rfl, rfl, rfl, h2, r2⟩ := trodAll_cons r1
  obtain ⟨v3, vs3, d3, ds3, p3, q3, rfl, rfl, rfl, h3, r3⟩ := trodAll_cons r2
  obtain ⟨v4, vs4, d4, ds4, p4, q4, rfl, rfl, rfl, h4, r4⟩ := trodAll_cons r3
  obtain ⟨v5, vs5, d5, ds5, p5, q5, rfl, rfl, rfl, h5, r5⟩ := trodAll_cons r4
  obtain ⟨rfl, rfl, rfl⟩ := trodAll_nil r5
  obtain rfl : args = #[v0, v1, v2, v3, v4, v5] := by cases args; simp_all
  obtain ⟨rfl, rfl⟩ := trodVars_none hV
  have wz : ∀ (j : Nat) t d, _ → _ → ∀ n ∈ DataW.weights Tryz.prog t d, n ≤ reachBytes := fun j t d ht hd n hn => of_decide_eq_true (List.all_eq_true.1 hZ n (DataW.weights_mem_each (j := j) ht hd n hn))
  have k0 := h0
  have lt0 : ∀ x ∈ p0, x.block < W.heap.size := by obtain ⟨m, hm⟩ := k0; exact DataW.trod_lt m _ _ _ hm
  have k1 := h1
  have lt1 : ∀ x ∈ p1, x.block < W.heap.size := by obtain ⟨m, hm⟩ := k1; exact DataW.trod_lt m _ _ _ hm
  have k2 := h2
  have lt2 : ∀ x ∈ p2, x.block < W.heap.size := by obtain ⟨m, hm⟩ := k2; exact DataW.trod_lt m _ _ _ hm
  have k3 := h3
  have lt3 : ∀ x ∈ p3, x.block < W.heap.size := by obtain ⟨m, hm⟩ := k3; exact DataW.trod_lt m _ _ _ hm
  have k4 := h4
  have lt4 : ∀ x ∈ p4, x.block < W.heap.size := by obtain ⟨m, hm⟩ := k4; exact DataW.trod_lt m _ _ _ hm
  have k5 := h5
  have lt5 : ∀ x ∈ p5, x.block < W.heap.size := by obtain ⟨m, hm⟩ := k5; exact DataW.trod_lt m _ _ _ hm
  obtain ⟨a0_0, a0_1, a0_2, a0_3, A0_, c0_, l0_, rfl, q0_⟩ := open_cfg (hval 0 24 v0 rfl rfl) h0 (wz 0 24 d0 rfl rfl)
  obtain ⟨s1_, rfl, ed1_, _, hs1_⟩ := open_string Tryz.underlying9 (hval 1 9 v1 rfl rfl) h1
  have hn1_ : s1_.data.toList.length ≤ reachBytes := (wz 1 9 d1 rfl rfl) _ (by rw [ed1_]; simp [DataW.weights])
  obtain ⟨s2_, rfl, ed2_, _, hs2_⟩ := open_string Tryz.underlying9 (hval 2 9 v2 rfl rfl) h2
  have hn2_ : s2_.data.toList.length ≤ reachBytes := (wz 2 9 d2 rfl rfl) _ (by rw [ed2_]; simp [DataW.weights])
  obtain ⟨s3_, rfl, ed3_, _, hs3_⟩ := open_string Tryz.underlying9 (hval 3 9 v3 rfl rfl) h3
  have hn3_ : s3_.data.toList.length ≤ reachBytes := (wz 3 9 d3 rfl rfl) _ (by rw [ed3_]; simp [DataW.weights])
  obtain ⟨s4_, rfl, ed4_, _, hs4_⟩ := open_string Tryz.underlying9 (hval 4 9 v4 rfl rfl) h4
  have hn4_ : s4_.data.toList.length ≤ reachBytes := (wz 4 9 d4 rfl rfl) _ (by rw [ed4_]; simp [DataW.weights])
  obtain ⟨i5_, rfl, _, _, w5_⟩ := open_int Tryz.underlying2 (hval 5 2 v5 rfl rfl) h5
  have x5_ := w5_
  simp [Lit.wf, IntKind.min, IntKind.max, IntKind.signed, IntKind.bits] at x5_
  clear hA0
  refine (Uu A0_ c0_ a0_0 a0_1 a0_2 a0_3 l0_ s1_.data.toList s2_.data.toList s3_.data.toList s4_.data.toList i5_ W (laid_of hL) q0_.2.2.2.2.1 true (Dx _ _ _ _ _ _ _ _ _ _ (Nat.le_trans hn1_ reachM) (cfg_q q0_).1 (cfg_q q0_).2)).mono fun e W' ⟨he, bel0⟩ => ?_
  have bel := SP.keeps bel0
  subst he
  exact ⟨_, rfl, _, _, _, [], _, [], hW', trodAll_mk1 (shut_bool Tryz.underlying4 _), (trodAll_cons_mk (Below.trod Dh (by kernel_rfl) (of_decide_eq_true (by kernel_rfl)) k0 bel lt0) (trodAll_cons_mk (Below.trod Dh (by kernel_rfl) (of_decide_eq_true (by kernel_rfl)) k1 bel lt1) (trodAll_cons_mk (Below.trod Dh (by kernel_rfl) (of_decide_eq_true (by kernel_rfl)) k2 bel lt2) (trodAll_cons_mk (Below.trod Dh (by kernel_rfl) (of_decide_eq_true (by kernel_rfl)) k3 bel lt3) (trodAll_cons_mk (Below.trod Dh (by kernel_rfl) (of_decide_eq_true (by kernel_rfl)) k4 bel lt4) (trodAll_cons_mk (Below.trod Dh (by kernel_rfl) (of_decide_eq_true (by kernel_rfl)) k5 bel lt5) trodAll_mk0)))))), rfl, bel.frame _, fun h => by cases h⟩
theorem Rq (os : Os) : laidMet Tryz.prog Rows.shakeNonceRow.laid ((Bt os).forCall (fun _ _ => 0) ⟨#[], #[.agg #[.int .i64 0, .int .i64 0, .int .i64 0, .int .i64 0, .slice none 0 0], .string ⟨#[]⟩, .string ⟨#[]⟩, .string ⟨#[]⟩, .string ⟨#[]⟩, .int .i64 0], []⟩).memory :=
  laidMet_of_run' 8 (by kernel_rfl) (by kernel_rfl)
theorem Dy (os : Os) {H : Type} (enc : TypeId × Value → H) : ∃ places, DataW.whole enc Tryz.prog ((Bt os).forCall (fun _ _ => 0) ⟨#[], #[.agg #[.int .i64 0, .int .i64 0, .int .i64 0, .int .i64 0, .slice none 0 0], .string ⟨#[]⟩, .string ⟨#[]⟩, .string ⟨#[]⟩, .string ⟨#[]⟩, .int .i64 0], []⟩).memory Tryz.f11.params.toList Rows.shakeNonceSpec.vars false [.agg #[.int .i64 0, .int .i64 0, .int .i64 0, .int .i64 0, .slice none 0 0], .string ⟨#[]⟩, .string ⟨#[]⟩, .string ⟨#[]⟩, .string ⟨#[]⟩, .int .i64 0] 8 = some ([.agg [.lit (.int .i64 0), .lit (.int .i64 0), .lit (.int .i64 0), .lit (.int .i64 0), .nil], .lit (.string []), .lit (.string []), .lit (.string []), .lit (.string []), .lit (.int .i64 0)], [], places) :=
  ⟨[], by kernel_rfl⟩
set_option maxRecDepth 100000 in
theorem Di (os : Os) (started : os.Started) (H : Type) (enc : TypeId × Value → H) (F : Stop.Interp) :
    ReturnsInHanded {} Tryz.checked os 11 .any ((OpenSpec.ofChange Rows.shakeNonceSpec).preRow enc Tryz.prog Tryz.f11 Rows.shakeNonceRow.domain false Rows.shakeNonceRow.laid) (((OpenSpec.ofChange Rows.shakeNonceSpec).at F).post enc Tryz.prog Tryz.f11 false true false false) := by
  obtain ⟨places, hx⟩ := Dy os enc
  refine returnsInHanded_of_row (C := Tryz.checked) (s := OpenSpec.ofChange Rows.shakeNonceSpec) own started (by kernel_rfl) Tryz.func11
    (witness_row_at (enc := enc) (C := Tryz.checked) false (Bt os) #[.agg #[.int .i64 0, .int .i64 0, .int .i64 0, .int .i64 0, .slice none 0 0], .string ⟨#[]⟩, .string ⟨#[]⟩, .string ⟨#[]⟩, .string ⟨#[]⟩, .int .i64 0] rfl (by kernel_rfl) (by kernel_rfl) (by kernel_rfl)
      (OpenSpec.preRow_of_cond 8 hx (by kernel_rfl) (fun k hk => by cases hk) (by kernel_rfl) (Rq os))) ?_
  intro W base args ds gs before hval hW _ _ hZ hL _ _
  exact Rp H enc W base args ds gs before _ hval hW hL hZ
theorem Bu : Rows.ShakeNonceSaid :=
  OpenClaim.holds_of_cond 11 Tryz.f11 rfl rfl rfl rfl rfl rfl rfl ⟨rfl, rfl, rfl, rfl, rfl⟩ rfl rfl rfl rfl rfl (by kernel_rfl) Tryz.func11 (by kernel_rfl)
    (of_decide_eq_true (by kernel_rfl)) (by unfold Func.isWrapper; first | (rw [if_pos (by decide +kernel)]; kernel_rfl) | (rw [if_neg (by decide +kernel)]; exact ⟨rfl, rfl⟩))
    (fun os started H enc _ F => by rw [OpenClaim.pre_eq_preRow]; exact Di os started H enc F)
theorem G2 (f : FuncId) (fn : Func) (hf : Tryz.pinned.checked.prog.funcNamed Rows.shakeNonceRow.func = some f) (hfn : Tryz.pinned.checked.prog.funcs[f]? = some fn) :
    false = Tryz.pinned.checked.prog.looks [] ∧ ∀ (j : Nat) t, fn.params[j]? = some t → Tryz.pinned.checked.prog.wantsStandIn t = false := by
  obtain rfl : f = 11 := Option.some.inj ((show Tryz.prog.funcNamed Rows.shakeNonceRow.func = some 11 by kernel_rfl).symm.trans hf) |>.symm
  obtain rfl : fn = Tryz.f11 := (Option.some.inj (Tryz.func11.symm.trans hfn)).symm
  refine ⟨by kernel_rfl, fun j t ht => ?_⟩
  have ha : (Tryz.f11.params.toList.all fun t => !Tryz.prog.wantsStandIn t) = true := by kernel_rfl
  rw [List.all_eq_true] at ha
  have := ha t (by rw [← Array.getElem?_toList] at ht; exact List.mem_of_getElem? ht)
  have h2 : Tryz.prog.wantsStandIn t = false := by simpa using this
  exact h2
theorem shakeNonce_card : Rows.ShakeNonceCardSaid :=
  Claim7.holds_tied_plain_at .later [] _ _ _ _ Bu (fun _ h => by cases h) (by kernel_rfl) (fun _ h => by cases h) shakeNonce_row_tie rfl ⟨rfl, rfl⟩ (by kernel_rfl) rfl G2 (by kernel_rfl)
#print axioms shakeNonce_card
end Go.Proofs.YtmgfanhcdfobhaaGreatDoor
