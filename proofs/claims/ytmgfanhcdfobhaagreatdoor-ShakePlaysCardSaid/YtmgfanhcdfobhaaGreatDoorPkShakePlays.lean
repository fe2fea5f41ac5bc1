import Derived.Test.YtmgfanhcdfobhaaGreatDoorPkShakePlays5
set_option linter.unusedSimpArgs false
set_option linter.unusedVariables false
set_option linter.unusedSectionVars false
set_option maxRecDepth 100000
set_option maxHeartbeats 4000000
namespace Go.Proofs.YtmgfanhcdfobhaaGreatDoor
open Go.RowKit
def Dd (q2 : Int) (q3 : Int) (q4 : Int) (q5 : Int) (q6 : (List Qg)) (a : (List (List UInt8))) : Option (Int × (List UInt8) × (List UInt8) × (List UInt8)) :=
  (some (0, ([] : List UInt8), ([] : List UInt8), ([] : List UInt8)))
theorem C9 {S : List Nat} (g1 : Nat) (A7 : Option Addr) (c8 : Nat) (c : Option Addr) (f : Nat) (q2 : Int) (q3 : Int) (q4 : Int) (q5 : Int) (b : (List Va)) (a : (List (List UInt8))) (w0 : World) (hO : SP S w0 w0 [Qn g1 81 #[(.int .i64 q2), (.int .i64 q3), (.int .i64 q4), (.int .i64 q5), (.slice A7 (List.length (List.map stT b)) c8), (.slice c (List.length a) f)], Yc 9 Qx c f a]) (o : ∀ w, Mod S w0 w → (dDS Js Ce).ok w (A7, c8, b)) (r : (Int × (List UInt8) × (List UInt8) × (List UInt8))) (H : Dd q2 q3 q4 q5 (List.map stT b) a = some r) :
  Calls Tryz.prog 38 #[(pt g1 0)] w0 (fun e w' => ∃ (h : Nat) (i : Option Addr) (j : Nat), e = .returned (pt h 0) ∧ SP S w0 w' [Qn h 97 #[(pt g1 0), (.int .i64 r.1), (.string ⟨List.toArray r.2.1⟩), (.string ⟨List.toArray r.2.2.1⟩), (.string ⟨List.toArray r.2.2.2⟩)], Qn g1 81 #[(.int .i64 q2), (.int .i64 q3), (.int .i64 q4), (.int .i64 q5), (.slice A7 (List.length (List.map stT b)) c8), (.slice i (List.length a) j)], Yc 9 Qx i j a]) := by
 unfold Dd at H
 refine Qs (n := 6) Tryz.func38 K K K ?_
 have l := hO
 refine aQ ?_
 refine aR ?_
 refine iR 1 1 [(2, (.pointer none))] ?_
 refine iF ?_
 refine aQ ?_
 refine aR ?_
 refine iR 2 2 [(3, (pt g1 0)), (4, (.agg #[(pt g1 0), (.int .i64 0), (.string ⟨List.toArray ([] : List UInt8)⟩), (.string ⟨List.toArray ([] : List UInt8)⟩), (.string ⟨List.toArray ([] : List UInt8)⟩)]))] ?_
 refine iS 3 ?_
 refine Vn (t := 97) (x := (.tmp 4)) (v := (.agg #[(pt g1 0), (.int .i64 0), (.string ⟨List.toArray ([] : List UInt8)⟩), (.string ⟨List.toArray ([] : List UInt8)⟩), (.string ⟨List.toArray ([] : List UInt8)⟩)])) (d := (some 5)) (k := 2) K rfl K l ?_
 intro g p m
 refine iR 1 4 [(2, (pt g 0))] ?_
 refine iF ?_
 refine At.ret K ?_
 refine ⟨(pt g 0), K, ?_⟩
 obtain rfl := Qe H
 exact ⟨g, c, f, rfl, SP.sel m [2,0,1] rfl rfl⟩
def Y8 (q3 : Int) (q4 : Int) (q5 : Int) (q6 : Int) (q7 : (List Qg)) (c : (List (List UInt8))) (a : Int) (b : (List UInt8)) (d : (List UInt8)) (e : (List UInt8)) : Option ((List UInt8) × Bool) :=
  (cond (a == 2) (some (b, true)) (some (([] : List UInt8), false)))
theorem D0 {S : List Nat} (g1 : Nat) (g2 : Nat) (A8 : Option Addr) (c9 : Nat) (f : Option Addr) (g : Nat) (q3 : Int) (q4 : Int) (q5 : Int) (q6 : Int) (h : (List Va)) (d : (List (List UInt8))) (a : Int) (c : (List UInt8)) (j : (List UInt8)) (k : (List UInt8)) (w0 : World) (hO : SP S w0 w0 [Qn g2 81 #[(.int .i64 q3), (.int .i64 q4), (.int .i64 q5), (.int .i64 q6), (.slice A8 (List.length (List.map stT h)) c9), (.slice f (List.length d) g)], Yc 9 Qx f g d, Qn g1 97 #[(pt g2 0), (.int .i64 a), (.string ⟨List.toArray c⟩), (.string ⟨List.toArray j⟩), (.string ⟨List.toArray k⟩)]]) (q : ∀ w, Mod S w0 w → (dDS Js Ce).ok w (A8, c9, h)) (r : ((List UInt8) × Bool)) (H : Y8 q3 q4 q5 q6 (List.map stT h) d a c j k = some r) :
  Calls Tryz.prog 40 #[(pt g1 0)] w0 (fun e w' => ∃ (m : Option Addr) (p : Nat), e = .returned (.tuple #[(.string ⟨List.toArray r.1⟩), (.bool r.2)]) ∧ SP S w0 w' [Qn g2 81 #[(.int .i64 q3), (.int .i64 q4), (.int .i64 q5), (.int .i64 q6), (.slice A8 (List.length (List.map stT h)) c9), (.slice m (List.length d) p)], Yc 9 Qx m p d, Qn g1 97 #[(pt g2 0), (.int .i64 a), (.string ⟨List.toArray c⟩), (.string ⟨List.toArray j⟩), (.string ⟨List.toArray k⟩)]]) := by
 unfold Y8 at H
 refine Qs (n := 13) Tryz.func40 K K K ?_
 have i := hO
 refine aQ ?_
 refine aR ?_
 refine iR 2 2 [(2, (.string ⟨List.toArray ([] : List UInt8)⟩)), (3, (.bool false))] ?_
 refine iF ?_
 refine aQ ?_
 refine aQ ?_
 refine aR ?_
 refine iR 3 3 [(4, (pt g1 0)), (5, (pt g1 0)), (6, (pt g1 1))] ?_
 refine iS 4 ?_
 refine sL 3 6 g1 1 2 (.int .i64 a) 7 i rfl ?_
 refine iR 1 5 [(8, (.bool (a == 2)))] ?_
 refine iF ?_
 refine V1 K (o := (.tmp 8)) K (b := (a == 2)) K (fun l => ?_) (fun l => ?_)
 ·have H := ct H l
  refine aQ ?_
  refine aR ?_
  refine iR 3 3 [(9, (pt g1 0)), (10, (pt g1 0)), (11, (pt g1 2))] ?_
  refine iS 4 ?_
  refine sL 9 11 g1 2 2 (.string ⟨List.toArray c⟩) 12 i rfl ?_
  refine iR 2 6 [(2, (.string ⟨List.toArray c⟩)), (3, (.bool true))] ?_
  refine iF ?_
  refine At.ret K ?_
  refine ⟨(.tuple #[(.string ⟨List.toArray c⟩), (.bool true)]), K, ?_⟩
  obtain rfl := Qe H
  exact ⟨f, g, rfl, SP.sel i [0,1,2] rfl rfl⟩
 ·have H := cf H l
  refine At.skip K ?_
  refine aQ ?_
  refine aR ?_
  refine iR 2 2 [(2, (.string ⟨List.toArray ([] : List UInt8)⟩)), (3, (.bool false))] ?_
  refine iF ?_
  refine At.ret K ?_
  refine ⟨(.tuple #[(.string ⟨List.toArray ([] : List UInt8)⟩), (.bool false)]), K, ?_⟩
  obtain rfl := Qe H
  exact ⟨f, g, rfl, SP.sel i [0,1,2] rfl rfl⟩
def Y1 (q3 : Int) (q4 : Int) (q5 : Int) (q6 : Int) (q7 : (List Qg)) (b : (List (List UInt8))) (a : Int) (c : (List UInt8)) (d : (List UInt8)) (e : (List UInt8)) : Option (Bool) :=
  (some ((decide (a > 1))))
theorem Ds {S : List Nat} (g1 : Nat) (g2 : Nat) (A8 : Option Addr) (c9 : Nat) (d : Option Addr) (f : Nat) (q3 : Int) (q4 : Int) (q5 : Int) (q6 : Int) (c : (List Va)) (b : (List (List UInt8))) (a : Int) (g : (List UInt8)) (h : (List UInt8)) (i : (List UInt8)) (w0 : World) (hO : SP S w0 w0 [Qn g2 81 #[(.int .i64 q3), (.int .i64 q4), (.int .i64 q5), (.int .i64 q6), (.slice A8 (List.length (List.map stT c)) c9), (.slice d (List.length b) f)], Yc 9 Qx d f b, Qn g1 97 #[(pt g2 0), (.int .i64 a), (.string ⟨List.toArray g⟩), (.string ⟨List.toArray h⟩), (.string ⟨List.toArray i⟩)]]) (m : ∀ w, Mod S w0 w → (dDS Js Ce).ok w (A8, c9, c)) (r : (Bool)) (H : Y1 q3 q4 q5 q6 (List.map stT c) b a g h i = some r) :
  Calls Tryz.prog 41 #[(pt g1 0)] w0 (fun e w' => ∃ (j : Option Addr) (k : Nat), e = .returned (.bool r) ∧ SP S w0 w' [Qn g2 81 #[(.int .i64 q3), (.int .i64 q4), (.int .i64 q5), (.int .i64 q6), (.slice A8 (List.length (List.map stT c)) c9), (.slice j (List.length b) k)], Yc 9 Qx j k b, Qn g1 97 #[(pt g2 0), (.int .i64 a), (.string ⟨List.toArray g⟩), (.string ⟨List.toArray h⟩), (.string ⟨List.toArray i⟩)]]) := by
 unfold Y1 at H
 refine Qs (n := 8) Tryz.func41 K K K ?_
 have l := hO
 refine aQ ?_
 refine aR ?_
 refine iR 1 1 [(2, (.bool false))] ?_
 refine iF ?_
 refine aQ ?_
 refine aR ?_
 refine iR 3 3 [(3, (pt g1 0)), (4, (pt g1 0)), (5, (pt g1 1))] ?_
 refine iS 4 ?_
 refine sL 3 5 g1 1 2 (.int .i64 a) 6 l rfl ?_
 refine iR 2 6 [(7, (.bool (decide (a > 1)))), (2, (.bool (decide (a > 1))))] ?_
 refine iF ?_
 refine At.ret K ?_
 refine ⟨(.bool (decide (a > 1))), K, ?_⟩
 obtain rfl := Qe H
 exact ⟨d, f, rfl, SP.sel l [0,1,2] rfl rfl⟩
def Yg (q3 : Int) (q4 : Int) (q5 : Int) (q6 : Int) (q7 : (List Qg)) (e : (List (List UInt8))) (f : Int) (a : (List UInt8)) (b : (List UInt8)) (c : (List UInt8)) (d : Int) : Option (Int × (List UInt8) × (List UInt8) × Int × Int × Bool × Int × (List UInt8) × (List UInt8) × (List UInt8)) :=
  (some (5, ([] : List UInt8), ([] : List UInt8), d, 0, true, 3, a, b, c))
theorem Nr {S : List Nat} (g1 : Nat) (g2 : Nat) (A8 : Option Addr) (c9 : Nat) (h : Option Addr) (j : Nat) (q3 : Int) (q4 : Int) (q5 : Int) (q6 : Int) (f : (List Va)) (c : (List (List UInt8))) (p : Int) (l : (List UInt8)) (m : (List UInt8)) (o : (List UInt8)) (b : Int) (w0 : World) (hO : SP S w0 w0 [Qn g2 81 #[(.int .i64 q3), (.int .i64 q4), (.int .i64 q5), (.int .i64 q6), (.slice A8 (List.length (List.map stT f)) c9), (.slice h (List.length c) j)], Yc 9 Qx h j c, Qn g1 97 #[(pt g2 0), (.int .i64 p), (.string ⟨List.toArray l⟩), (.string ⟨List.toArray m⟩), (.string ⟨List.toArray o⟩)]]) (a4 : ∀ w, Mod S w0 w → (dDS Js Ce).ok w (A8, c9, f)) (r : (Int × (List UInt8) × (List UInt8) × Int × Int × Bool × Int × (List UInt8) × (List UInt8) × (List UInt8))) (H : Yg q3 q4 q5 q6 (List.map stT f) c p l m o b = some r) :
  Calls Tryz.prog 58 #[(pt g1 0), (.int .i64 b)] w0 (fun e w' => ∃ (q : Option Addr) (s : Nat), e = .returned (.tuple #[(.agg #[(.int .i64 r.1), (.string ⟨List.toArray r.2.1⟩), (.string ⟨List.toArray r.2.2.1⟩), (.int .i64 r.2.2.2.1), (.int .i64 r.2.2.2.2.1)]), (.bool r.2.2.2.2.2.1)]) ∧ SP S w0 w' [Qn g2 81 #[(.int .i64 q3), (.int .i64 q4), (.int .i64 q5), (.int .i64 q6), (.slice A8 (List.length (List.map stT f)) c9), (.slice q (List.length c) s)], Yc 9 Qx q s c, Qn g1 97 #[(pt g2 0), (.int .i64 r.2.2.2.2.2.2.1), (.string ⟨List.toArray r.2.2.2.2.2.2.2.1⟩), (.string ⟨List.toArray r.2.2.2.2.2.2.2.2.1⟩), (.string ⟨List.toArray r.2.2.2.2.2.2.2.2.2⟩)]]) := by
 unfold Yg at H
 refine Qs (n := 11) Tryz.func58 K K K ?_
 have a1 := hO
 refine aQ ?_
 refine aR ?_
 refine iS 1 ?_
 refine Qi.alloc (t := 63) (z := (.agg #[(.int .i64 0), (.string ⟨List.toArray ([] : List UInt8)⟩), (.string ⟨List.toArray ([] : List UInt8)⟩), (.int .i64 0), (.int .i64 0)])) (d := (some 4)) (k := 0) K rfl K a1 ?_
 intro u a5 a2
 refine iR 1 2 [(5, (.bool false))] ?_
 refine iF ?_
 refine aQ ?_
 refine aR ?_
 refine iR 3 3 [(6, (pt g1 0)), (7, (pt g1 0)), (8, (pt g1 1))] ?_
 refine iS 4 ?_
 refine Qi.store (t := 3) (x := (.tmp 8)) (y := (.const (.int .i64 (3)))) (g := g1) (off := 1) (i := 2) (v := (.int .i64 3)) (cs' := #[(pt g2 0), (.int .i64 3), (.string ⟨List.toArray l⟩), (.string ⟨List.toArray m⟩), (.string ⟨List.toArray o⟩)]) (d := none) (k := 3) K rfl K K a2 rfl K ?_
 intro a6 a3
 refine iF ?_
 refine aQ ?_
 refine aR ?_
 refine iR 2 2 [(9, (.int .i64 b)), (10, (.agg #[(.int .i64 5), (.string ⟨List.toArray ([] : List UInt8)⟩), (.string ⟨List.toArray ([] : List UInt8)⟩), (.int .i64 b), (.int .i64 0)]))] ?_
 refine iS 3 ?_
 refine Qi.store (t := 63) (x := (.tmp 4)) (y := (.tmp 10)) (g := u) (off := 0) (i := 3) (v := (.agg #[(.int .i64 5), (.string ⟨List.toArray ([] : List UInt8)⟩), (.string ⟨List.toArray ([] : List UInt8)⟩), (.int .i64 b), (.int .i64 0)])) (cs' := #[(.int .i64 5), (.string ⟨List.toArray ([] : List UInt8)⟩), (.string ⟨List.toArray ([] : List UInt8)⟩), (.int .i64 b), (.int .i64 0)]) (d := none) (k := 2) K rfl K K a3 rfl K ?_
 intro a7 a0
 refine iR 1 4 [(5, (.bool true))] ?_
 refine iF ?_
 refine At.ret K ?_
 refine ⟨(.tuple #[(.agg #[(.int .i64 5), (.string ⟨List.toArray ([] : List UInt8)⟩), (.string ⟨List.toArray ([] : List UInt8)⟩), (.int .i64 b), (.int .i64 0)]), (.bool true)]), C2 K (J4 (a := 4) (t := 63) (g := u) (off := 0) K (SP.get a0 (i := 3) rfl) K) (R4 (t := 5) K), ?_⟩
 obtain rfl := Qe H
 exact ⟨h, j, rfl, SP.sel a0 [0,1,2] rfl rfl⟩
def X5 (q3 : Int) (q4 : Int) (q5 : Int) (q6 : Int) (q7 : (List Qg)) (g : (List (List UInt8))) (h : Int) (d : (List UInt8)) (e : (List UInt8)) (f : (List UInt8)) (i : (List UInt8)) (j : Int) (k : Bool) : Option (Int × (List UInt8) × (List UInt8) × Int × Int × Bool × Int × Int × Int × Int × (List (List UInt8)) × Int × (List UInt8) × (List UInt8) × (List UInt8)) :=
  (cond k ((Ys q3 q4 q5 q6 q7 g d e f i j).bind fun a => (cond (a.1 != 0) ((Yg a.2.1 a.2.2.1 a.2.2.2.1 a.2.2.2.2.1 q7 a.2.2.2.2.2 h d e f a.1).bind fun b => (some (b.1, b.2.1, b.2.2.1, b.2.2.2.1, b.2.2.2.2.1, b.2.2.2.2.2.1, a.2.1, a.2.2.1, a.2.2.2.1, a.2.2.2.2.1, a.2.2.2.2.2, b.2.2.2.2.2.2.1, b.2.2.2.2.2.2.2.1, b.2.2.2.2.2.2.2.2.1, b.2.2.2.2.2.2.2.2.2))) (some (4, ([] : List UInt8), ([] : List UInt8), 0, 0, true, a.2.1, a.2.2.1, a.2.2.2.1, a.2.2.2.2.1, a.2.2.2.2.2, 2, d, e, f)))) ((Yg q3 q4 q5 q6 q7 g h d e f 1).bind fun c => (some (c.1, c.2.1, c.2.2.1, c.2.2.2.1, c.2.2.2.2.1, c.2.2.2.2.2.1, q3, q4, q5, q6, g, c.2.2.2.2.2.2.1, c.2.2.2.2.2.2.2.1, c.2.2.2.2.2.2.2.2.1, c.2.2.2.2.2.2.2.2.2))))
def X6 (q3 : Int) (q4 : Int) (q5 : Int) (q6 : Int) (q7 : (List Qg)) (a : (List (List UInt8))) (b : Int) (e : (List UInt8)) (f : (List UInt8)) (g : (List UInt8)) (j : Int) (c : (List UInt8)) (k : (List UInt8)) (h : Int) (d : (List UInt8)) (l : Bool) : Option (Int × (List UInt8) × (List UInt8) × Int × Int × Bool × Int × Int × Int × Int × (List (List UInt8)) × Int × (List UInt8) × (List UInt8) × (List UInt8)) :=
  (cond l ((sub d 0 (if 64 < ((List.length d : Nat) : Int) then 64 else ((List.length d : Nat) : Int))).bind fun i => (some (2, i, ([] : List UInt8), 0, 0, true, q3, q4, q5, q6, a, 1, c, k, i))) (cond (b == 1) (X5 q3 q4 q5 q6 q7 a b e f g c h (j == 3)) (X5 q3 q4 q5 q6 q7 a b e f g c h false)))
def Y2 (q3 : Int) (q4 : Int) (q5 : Int) (q6 : Int) (q7 : (List Qg)) (b : (List (List UInt8))) (a : Int) (c : (List UInt8)) (d : (List UInt8)) (e : (List UInt8)) (f : Int) (g : (List UInt8)) (h : (List UInt8)) (k : Int) (l : Int) (i : Int) (j : (List UInt8)) : Option (Int × (List UInt8) × (List UInt8) × Int × Int × Bool × Int × Int × Int × Int × (List (List UInt8)) × Int × (List UInt8) × (List UInt8) × (List UInt8)) :=
  (cond (decide (a > 1)) (some (0, ([] : List UInt8), ([] : List UInt8), 0, 0, false, q3, q4, q5, q6, b, a, c, d, e)) (cond (a == 0) (X6 q3 q4 q5 q6 q7 b a c d e f g h i j (f == 1)) (X6 q3 q4 q5 q6 q7 b a c d e f g h i j false)))
theorem Dt {S : List Nat} (g1 : Nat) (g2 : Nat) (A8 : Option Addr) (c9 : Nat) (a9 : Option Addr) (b0 : Nat) (q3 : Int) (q4 : Int) (q5 : Int) (q6 : Int) (a3 : (List Va)) (a6 : (List (List UInt8))) (q : Int) (a4 : (List UInt8)) (a1 : (List UInt8)) (a0 : (List UInt8)) (u : Int) (s : (List UInt8)) (a7 : (List UInt8)) (b2 : Int) (b3 : Int) (a8 : Int) (a2 : (List UInt8)) (w0 : World) (hO : SP S w0 w0 [Qn g2 81 #[(.int .i64 q3), (.int .i64 q4), (.int .i64 q5), (.int .i64 q6), (.slice A8 (List.length (List.map stT a3)) c9), (.slice a9 (List.length a6) b0)], Yc 9 Qx a9 b0 a6, Qn g1 97 #[(pt g2 0), (.int .i64 q), (.string ⟨List.toArray a4⟩), (.string ⟨List.toArray a1⟩), (.string ⟨List.toArray a0⟩)]]) (c3 : ∀ w, Mod S w0 w → (dDS Js Ce).ok w (A8, c9, a3)) (r : (Int × (List UInt8) × (List UInt8) × Int × Int × Bool × Int × Int × Int × Int × (List (List UInt8)) × Int × (List UInt8) × (List UInt8) × (List UInt8))) (H : Y2 q3 q4 q5 q6 (List.map stT a3) a6 q a4 a1 a0 u s a7 b2 b3 a8 a2 = some r) :
  Calls Tryz.prog 39 #[(pt g1 0), (.agg #[(.int .i64 u), (.string ⟨List.toArray s⟩), (.string ⟨List.toArray a7⟩), (.int .i64 b2), (.int .i64 b3)]), (.int .i64 a8), (.string ⟨List.toArray a2⟩)] w0 (fun e w' => ∃ (d8 : Option Addr) (d9 : Nat), e = .returned (.tuple #[(.agg #[(.int .i64 r.1), (.string ⟨List.toArray r.2.1⟩), (.string ⟨List.toArray r.2.2.1⟩), (.int .i64 r.2.2.2.1), (.int .i64 r.2.2.2.2.1)]), (.bool r.2.2.2.2.2.1)]) ∧ SP S w0 w' [Qn g2 81 #[(.int .i64 r.2.2.2.2.2.2.1), (.int .i64 r.2.2.2.2.2.2.2.1), (.int .i64 r.2.2.2.2.2.2.2.2.1), (.int .i64 r.2.2.2.2.2.2.2.2.2.1), (.slice A8 (List.length (List.map stT a3)) c9), (.slice d8 (List.length r.2.2.2.2.2.2.2.2.2.2.1) d9)], Yc 9 Qx d8 d9 r.2.2.2.2.2.2.2.2.2.2.1, Qn g1 97 #[(pt g2 0), (.int .i64 r.2.2.2.2.2.2.2.2.2.2.2.1), (.string ⟨List.toArray r.2.2.2.2.2.2.2.2.2.2.2.2.1⟩), (.string ⟨List.toArray r.2.2.2.2.2.2.2.2.2.2.2.2.2.1⟩), (.string ⟨List.toArray r.2.2.2.2.2.2.2.2.2.2.2.2.2.2⟩)]]) := by
 unfold Y2 at H
 refine Qs (n := 98) Tryz.func39 K K K ?_
 have f1 := hO
 refine aQ ?_
 refine aR ?_
 refine iS 1 ?_
 refine Vn (t := 63) (x := (.tmp 1)) (v := (.agg #[(.int .i64 u), (.string ⟨List.toArray s⟩), (.string ⟨List.toArray a7⟩), (.int .i64 b2), (.int .i64 b3)])) (d := (some 5)) (k := 0) K rfl K f1 ?_
 intro m h8 f2
 refine iS 2 ?_
 refine Qi.alloc (t := 63) (z := (.agg #[(.int .i64 0), (.string ⟨List.toArray ([] : List UInt8)⟩), (.string ⟨List.toArray ([] : List UInt8)⟩), (.int .i64 0), (.int .i64 0)])) (d := (some 8)) (k := 1) K rfl K f2 ?_
 intro p h9 b5
 refine iR 1 3 [(9, (.bool false))] ?_
 refine iF ?_
 refine aQ ?_
 refine aQ ?_
 refine aR ?_
 refine iR 3 3 [(11, (pt g1 0)), (12, (pt g1 0)), (13, (pt g1 1))] ?_
 refine iS 4 ?_
 refine sL 3 13 g1 1 2 (.int .i64 q) 14 b5 rfl ?_
 refine iR 1 5 [(15, (.bool (decide (q > 1))))] ?_
 refine iF ?_
 refine V1 K (o := (.tmp 15)) K (b := (decide (q > 1))) K (fun c4 => ?_) (fun c4 => ?_)
 ·have H := ct H c4
  refine aQ ?_
  refine aR ?_
  refine iR 1 1 [(16, (.agg #[(.int .i64 0), (.string ⟨List.toArray ([] : List UInt8)⟩), (.string ⟨List.toArray ([] : List UInt8)⟩), (.int .i64 0), (.int .i64 0)]))] ?_
  refine iS 2 ?_
  refine Qi.store (t := 63) (x := (.tmp 8)) (y := (.tmp 16)) (g := p) (off := 0) (i := 4) (v := (.agg #[(.int .i64 0), (.string ⟨List.toArray ([] : List UInt8)⟩), (.string ⟨List.toArray ([] : List UInt8)⟩), (.int .i64 0), (.int .i64 0)])) (cs' := #[(.int .i64 0), (.string ⟨List.toArray ([] : List UInt8)⟩), (.string ⟨List.toArray ([] : List UInt8)⟩), (.int .i64 0), (.int .i64 0)]) (d := none) (k := 1) K rfl K K b5 rfl K ?_
  intro i0 e0
  refine iR 1 3 [(9, (.bool false))] ?_
  refine iF ?_
  refine At.ret K ?_
  refine ⟨(.tuple #[(.agg #[(.int .i64 0), (.string ⟨List.toArray ([] : List UInt8)⟩), (.string ⟨List.toArray ([] : List UInt8)⟩), (.int .i64 0), (.int .i64 0)]), (.bool false)]), C2 K (J4 (a := 8) (t := 63) (g := p) (off := 0) K (SP.get e0 (i := 4) rfl) K) (R4 (t := 9) K), ?_⟩
  obtain rfl := Qe H
  exact ⟨a9, b0, rfl, SP.sel e0 [0,1,2] rfl rfl⟩
 ·have H := cf H c4
  refine At.skip K ?_
  refine aQ ?_
  refine aQ ?_
  refine At.join (fun ρ w => ∃ (b6 : Bool), V6 ρ [(0, (pt g1 0)), (2, (.int .i64 a8)), (3, (.string ⟨List.toArray a2⟩)), (5, (pt m 0)), (8, (pt p 0)), (26, (.bool b6))] ∧ SP S w0 w [Yc 9 Qx a9 b0 a6, Qn g2 81 #[(.int .i64 q3), (.int .i64 q4), (.int .i64 q5), (.int .i64 q6), (.slice A8 (List.length (List.map stT a3)) c9), (.slice a9 (List.length a6) b0)], Qn g1 97 #[(pt g2 0), (.int .i64 q), (.string ⟨List.toArray a4⟩), (.string ⟨List.toArray a1⟩), (.string ⟨List.toArray a0⟩)], Qn m 63 #[(.int .i64 u), (.string ⟨List.toArray s⟩), (.string ⟨List.toArray a7⟩), (.int .i64 b2), (.int .i64 b3)], Qn p 63 #[(.int .i64 0), (.string ⟨List.toArray ([] : List UInt8)⟩), (.string ⟨List.toArray ([] : List UInt8)⟩), (.int .i64 0), (.int .i64 0)]] ∧ X6 q3 q4 q5 q6 (List.map stT a3) a6 q a4 a1 a0 u s a7 a8 a2 b6 = some r) ?_ ?_
  ·refine aR ?_
   refine iR 3 3 [(17, (pt g1 0)), (18, (pt g1 0)), (19, (pt g1 1))] ?_
   refine iS 4 ?_
   refine sL 3 19 g1 1 2 (.int .i64 q) 20 b5 rfl ?_
   refine iR 2 6 [(21, (.bool (q == 0))), (22, (.bool (q == 0)))] ?_
   refine In.guard (t := 22) (b := (q == 0)) K (fun c5 => ?_) (fun c5 => ?_)
   ·have H := ct H c5
    refine iR 1 7 [(23, (pt m 0))] ?_
    refine iS 8 ?_
    refine sL 3 23 m 0 3 (.int .i64 u) 24 b5 rfl ?_
    refine iR 2 10 [(25, (.bool (u == 1))), (26, (.bool (u == 1)))] ?_
    refine iF ?_
    exact ⟨(u == 1), ⟨K, K, K, K, K, K, trivial⟩, SP.sel b5 [1, 0, 2, 3, 4] rfl rfl, H⟩
   ·have H := cf H c5
    refine iR 4 10 [(23, undef), (24, undef), (25, undef), (26, (.bool false))] ?_
    refine iF ?_
    exact ⟨false, ⟨K, K, K, K, K, K, trivial⟩, SP.sel b5 [1, 0, 2, 3, 4] rfl rfl, H⟩
  ·rintro ρ i1 ⟨b6, hk, b8, H⟩
   unfold X6 at H
   first | refine At.known [(0, (pt g1 0)), (2, (.int .i64 a8)), (3, (.string ⟨List.toArray a2⟩)), (5, (pt m 0)), (8, (pt p 0)), (26, (.bool b6))] hk ?_ | rw [← Qv (l := [(0, (pt g1 0)), (2, (.int .i64 a8)), (3, (.string ⟨List.toArray a2⟩)), (5, (pt m 0)), (8, (pt p 0)), (26, (.bool b6))]) hk]
   refine V1 K (o := (.tmp 26)) K (b := b6) K (fun c6 => ?_) (fun c6 => ?_)
   ·have H := ct H c6
    refine aQ ?_
    refine aR ?_
    refine iR 3 3 [(27, (pt g1 0)), (28, (pt g1 0)), (29, (pt g1 1))] ?_
    refine iS 4 ?_
    refine Qi.store (t := 3) (x := (.tmp 29)) (y := (.const (.int .i64 (1)))) (g := g1) (off := 1) (i := 2) (v := (.int .i64 1)) (cs' := #[(pt g2 0), (.int .i64 1), (.string ⟨List.toArray a4⟩), (.string ⟨List.toArray a1⟩), (.string ⟨List.toArray a0⟩)]) (d := none) (k := 3) K rfl K K b8 rfl K ?_
    intro i2 e1
    refine iF ?_
    refine aQ ?_
    refine aR ?_
    refine iR 2 2 [(30, (pt g1 0)), (31, (pt m 1))] ?_
    refine iS 3 ?_
    refine sL 9 31 m 1 3 (.string ⟨List.toArray s⟩) 32 e1 rfl ?_
    refine iR 2 5 [(33, (pt g1 0)), (34, (pt g1 2))] ?_
    refine iS 6 ?_
    refine Qi.store (t := 9) (x := (.tmp 34)) (y := (.tmp 32)) (g := g1) (off := 2) (i := 2) (v := (.string ⟨List.toArray s⟩)) (cs' := #[(pt g2 0), (.int .i64 1), (.string ⟨List.toArray s⟩), (.string ⟨List.toArray a1⟩), (.string ⟨List.toArray a0⟩)]) (d := none) (k := 5) K rfl K K e1 rfl K ?_
    intro i3 e2
    refine iF ?_
    refine aQ ?_
    refine aR ?_
    refine iR 2 2 [(35, (pt g1 0)), (36, (pt m 2))] ?_
    refine iS 3 ?_
    refine sL 9 36 m 2 3 (.string ⟨List.toArray a7⟩) 37 e2 rfl ?_
    refine iR 2 5 [(38, (pt g1 0)), (39, (pt g1 3))] ?_
    refine iS 6 ?_
    refine Qi.store (t := 9) (x := (.tmp 39)) (y := (.tmp 37)) (g := g1) (off := 3) (i := 2) (v := (.string ⟨List.toArray a7⟩)) (cs' := #[(pt g2 0), (.int .i64 1), (.string ⟨List.toArray s⟩), (.string ⟨List.toArray a7⟩), (.string ⟨List.toArray a0⟩)]) (d := none) (k := 5) K rfl K K e2 rfl K ?_
    intro i4 f3
    refine iF ?_
    refine aQ ?_
    refine aR ?_
    refine iR 5 5 [(40, (pt g1 0)), (41, (.string ⟨List.toArray a2⟩)), (42, (.string ⟨List.toArray a2⟩)), (43, (.int .i64 ((List.length a2 : Nat) : Int))), (44, (.int .i64 (if 64 < ((List.length a2 : Nat) : Int) then 64 else ((List.length a2 : Nat) : Int))))] ?_
    obtain ⟨f4, f5, f6, H⟩ := Dw H
    obtain ⟨b4, hyl165⟩ : ∃ y, (List.drop (Int.toNat 0) (List.take (Int.toNat (if 64 < ((List.length a2 : Nat) : Int) then 64 else ((List.length a2 : Nat) : Int))) a2)) = y := ⟨_, rfl⟩
    rw [hyl165] at H
    refine iS 6 ?_
    refine Dx (a := a2) (T := 9) (x := (.tmp 41)) (lo := none) (hi := (some (.tmp 44))) (i := 0) (j := (if 64 < ((List.length a2 : Nat) : Int) then 64 else ((List.length a2 : Nat) : Int))) (d := (some 45)) (k := 5) K rfl K K rfl ⟨.i64, K⟩ f4 f5 f6 ?_
    rw [hyl165]
    refine iR 2 8 [(46, (pt g1 0)), (47, (pt g1 4))] ?_
    refine iS 9 ?_
    refine Qi.store (t := 9) (x := (.tmp 47)) (y := (.tmp 45)) (g := g1) (off := 4) (i := 2) (v := (.string ⟨List.toArray b4⟩)) (cs' := #[(pt g2 0), (.int .i64 1), (.string ⟨List.toArray s⟩), (.string ⟨List.toArray a7⟩), (.string ⟨List.toArray b4⟩)]) (d := none) (k := 8) K rfl K K f3 rfl K ?_
    intro i5 e3
    refine iF ?_
    refine aQ ?_
    refine aR ?_
    refine iR 3 3 [(48, (pt g1 0)), (49, (pt g1 0)), (50, (pt g1 4))] ?_
    refine iS 4 ?_
    refine sL 9 50 g1 4 2 (.string ⟨List.toArray b4⟩) 51 e3 rfl ?_
    refine iR 1 5 [(52, (.agg #[(.int .i64 2), (.string ⟨List.toArray b4⟩), (.string ⟨List.toArray ([] : List UInt8)⟩), (.int .i64 0), (.int .i64 0)]))] ?_
    refine iS 6 ?_
    refine Qi.store (t := 63) (x := (.tmp 8)) (y := (.tmp 52)) (g := p) (off := 0) (i := 4) (v := (.agg #[(.int .i64 2), (.string ⟨List.toArray b4⟩), (.string ⟨List.toArray ([] : List UInt8)⟩), (.int .i64 0), (.int .i64 0)])) (cs' := #[(.int .i64 2), (.string ⟨List.toArray b4⟩), (.string ⟨List.toArray ([] : List UInt8)⟩), (.int .i64 0), (.int .i64 0)]) (d := none) (k := 5) K rfl K K e3 rfl K ?_
    intro i6 e4
    refine iR 1 7 [(9, (.bool true))] ?_
    refine iF ?_
    refine At.ret K ?_
    refine ⟨(.tuple #[(.agg #[(.int .i64 2), (.string ⟨List.toArray b4⟩), (.string ⟨List.toArray ([] : List UInt8)⟩), (.int .i64 0), (.int .i64 0)]), (.bool true)]), C2 K (J4 (a := 8) (t := 63) (g := p) (off := 0) K (SP.get e4 (i := 4) rfl) K) (R4 (t := 9) K), ?_⟩
    obtain rfl := Qe H
    exact ⟨a9, b0, rfl, SP.sel e4 [1,0,2] rfl rfl⟩
   ·have H := cf H c6
    refine At.skip K ?_
    refine aQ ?_
    refine aQ ?_
    refine At.join (fun ρ w => ∃ (b7 : Bool), V6 ρ [(0, (pt g1 0)), (2, (.int .i64 a8)), (5, (pt m 0)), (8, (pt p 0)), (62, (.bool b7))] ∧ SP S w0 w [Yc 9 Qx a9 b0 a6, Qn g2 81 #[(.int .i64 q3), (.int .i64 q4), (.int .i64 q5), (.int .i64 q6), (.slice A8 (List.length (List.map stT a3)) c9), (.slice a9 (List.length a6) b0)], Qn g1 97 #[(pt g2 0), (.int .i64 q), (.string ⟨List.toArray a4⟩), (.string ⟨List.toArray a1⟩), (.string ⟨List.toArray a0⟩)], Qn m 63 #[(.int .i64 u), (.string ⟨List.toArray s⟩), (.string ⟨List.toArray a7⟩), (.int .i64 b2), (.int .i64 b3)], Qn p 63 #[(.int .i64 0), (.string ⟨List.toArray ([] : List UInt8)⟩), (.string ⟨List.toArray ([] : List UInt8)⟩), (.int .i64 0), (.int .i64 0)]] ∧ X5 q3 q4 q5 q6 (List.map stT a3) a6 q a4 a1 a0 s a8 b7 = some r) ?_ ?_
    ·refine aR ?_
     refine iR 3 3 [(53, (pt g1 0)), (54, (pt g1 0)), (55, (pt g1 1))] ?_
     refine iS 4 ?_
     refine sL 3 55 g1 1 2 (.int .i64 q) 56 b8 rfl ?_
     refine iR 2 6 [(57, (.bool (q == 1))), (58, (.bool (q == 1)))] ?_
     refine In.guard (t := 58) (b := (q == 1)) K (fun c7 => ?_) (fun c7 => ?_)
     ·have H := ct H c7
      refine iR 1 7 [(59, (pt m 0))] ?_
      refine iS 8 ?_
      refine sL 3 59 m 0 3 (.int .i64 u) 60 b8 rfl ?_
      refine iR 2 10 [(61, (.bool (u == 3))), (62, (.bool (u == 3)))] ?_
      refine iF ?_
      exact ⟨(u == 3), ⟨K, K, K, K, K, trivial⟩, SP.sel b8 [0, 1, 2, 3, 4] rfl rfl, H⟩
     ·have H := cf H c7
      refine iR 4 10 [(59, undef), (60, undef), (61, undef), (62, (.bool false))] ?_
      refine iF ?_
      exact ⟨false, ⟨K, K, K, K, K, trivial⟩, SP.sel b8 [0, 1, 2, 3, 4] rfl rfl, H⟩
    ·rintro ρ f7 ⟨b7, hk, c2, H⟩
     unfold X5 at H
     first | refine At.known [(0, (pt g1 0)), (2, (.int .i64 a8)), (5, (pt m 0)), (8, (pt p 0)), (62, (.bool b7))] hk ?_ | rw [← Qv (l := [(0, (pt g1 0)), (2, (.int .i64 a8)), (5, (pt m 0)), (8, (pt p 0)), (62, (.bool b7))]) hk]
     refine V1 K (o := (.tmp 62)) K (b := b7) K (fun c8 => ?_) (fun c8 => ?_)
     ·have H := ct H c8
      refine aQ ?_
      obtain ⟨c, f8, H⟩ := Qb H
      refine aG [GEq (pt g1 0), GEq (pt g1 0), GEq (pt g1 0), GEq (pt g2 0), GEq (pt g1 0), GEq (pt g1 0), GEq (pt g1 2), GEq (.string ⟨List.toArray a4⟩), GEq (pt g1 0), GEq (pt g1 0), GEq (pt g1 3), GEq (.string ⟨List.toArray a1⟩), GEq (pt g1 0), GEq (pt g1 0), GEq (pt g1 4), GEq (.string ⟨List.toArray a0⟩), GEq (pt m 1), GEq (.string ⟨List.toArray s⟩), GEq (.int .i64 a8), GEq (.int .i64 c.1), GEq (.int .i64 c.1)] [19] [([], fun vs w => VL vs [] ∧ SP S w0 w [Yc 9 Qx a9 b0 a6, Qn g2 81 #[(.int .i64 q3), (.int .i64 q4), (.int .i64 q5), (.int .i64 q6), (.slice A8 (List.length (List.map stT a3)) c9), (.slice a9 (List.length a6) b0)], Qn g1 97 #[(pt g2 0), (.int .i64 q), (.string ⟨List.toArray a4⟩), (.string ⟨List.toArray a1⟩), (.string ⟨List.toArray a0⟩)], Qn m 63 #[(.int .i64 u), (.string ⟨List.toArray s⟩), (.string ⟨List.toArray a7⟩), (.int .i64 b2), (.int .i64 b3)], Qn p 63 #[(.int .i64 0), (.string ⟨List.toArray ([] : List UInt8)⟩), (.string ⟨List.toArray ([] : List UInt8)⟩), (.int .i64 0), (.int .i64 0)]]), ([19], fun vs w => ∃ (b9 : Option Addr), ∃ (c0 : Nat), VL vs [(.int .i64 c.1)] ∧ SP S w0 w [Qn g1 97 #[(pt g2 0), (.int .i64 q), (.string ⟨List.toArray a4⟩), (.string ⟨List.toArray a1⟩), (.string ⟨List.toArray a0⟩)], Qn m 63 #[(.int .i64 u), (.string ⟨List.toArray s⟩), (.string ⟨List.toArray a7⟩), (.int .i64 b2), (.int .i64 b3)], Qn p 63 #[(.int .i64 0), (.string ⟨List.toArray ([] : List UInt8)⟩), (.string ⟨List.toArray ([] : List UInt8)⟩), (.int .i64 0), (.int .i64 0)], Qn g2 81 #[(.int .i64 c.2.1), (.int .i64 c.2.2.1), (.int .i64 c.2.2.2.1), (.int .i64 c.2.2.2.2.1), (.slice A8 (List.length (List.map stT a3)) c9), (.slice b9 (List.length c.2.2.2.2.2) c0)], Yc 9 Qx b9 c0 c.2.2.2.2.2])] 21 1 ⟨trivial, SP.drew c2⟩ ?_ ?_
      iterate 21 refine And.intro ?_ ?_
      exact trivial
      ·exact oV (hC (hS 0 (pt g1 0)) (h0)) (pt g1 0)
      ·exact oV (hC (hA 0 63) (h0)) (pt g1 0)
      ·exact oV (hC (hA 1 64) (h0)) (pt g1 0)
      ·refine oL 0 ?_
       ·rintro ρ' w' hs a5 ⟨i7, f9⟩
        refine kM (kc (kA a5 2 65) k0) fun b1 => ?_
        refine sL 31 65 g1 0 2 (pt g2 0) 66 f9 rfl ?_
        exact eK b1
      ·exact oV (hC (hS 0 (pt g1 0)) (h0)) (pt g1 0)
      ·exact oV (hC (hA 4 67) (h0)) (pt g1 0)
      ·exact oV (hC (hA 5 68) (h0)) (pt g1 2)
      ·refine oL 0 ?_
       ·rintro ρ' w' hs a5 ⟨i8, g0⟩
        refine kM (kc (kA a5 6 69) k0) fun b1 => ?_
        refine sL 9 69 g1 2 2 (.string ⟨List.toArray a4⟩) 70 g0 rfl ?_
        exact eK b1
      ·exact oV (hC (hS 0 (pt g1 0)) (h0)) (pt g1 0)
      ·exact oV (hC (hA 8 71) (h0)) (pt g1 0)
      ·exact oV (hC (hA 9 72) (h0)) (pt g1 3)
      ·refine oL 0 ?_
       ·rintro ρ' w' hs a5 ⟨i9, g3⟩
        refine kM (kc (kA a5 10 73) k0) fun b1 => ?_
        refine sL 9 73 g1 3 2 (.string ⟨List.toArray a1⟩) 74 g3 rfl ?_
        exact eK b1
      ·exact oV (hC (hS 0 (pt g1 0)) (h0)) (pt g1 0)
      ·exact oV (hC (hA 12 75) (h0)) (pt g1 0)
      ·exact oV (hC (hA 13 76) (h0)) (pt g1 4)
      ·refine oL 0 ?_
       ·rintro ρ' w' hs a5 ⟨j0, g4⟩
        refine kM (kc (kA a5 14 77) k0) fun b1 => ?_
        refine sL 9 77 g1 4 2 (.string ⟨List.toArray a0⟩) 78 g4 rfl ?_
        exact eK b1
      ·exact oV (hC (hS 5 (pt m 0)) (h0)) (pt m 1)
      ·refine oL 0 ?_
       ·rintro ρ' w' hs a5 ⟨j1, g5⟩
        refine kM (kc (kA a5 16 79) k0) fun b1 => ?_
        refine sL 9 79 m 1 3 (.string ⟨List.toArray s⟩) 80 g5 rfl ?_
        exact eK b1
      ·exact oV (hC (hS 2 (.int .i64 a8)) (h0)) (.int .i64 a8)
      ·refine oH 0 1 ?_
       ·rintro ρ' w' hs a5 ⟨j2, d0⟩
        refine kM (kc (kA a5 3 66) (kc (kA a5 7 70) (kc (kA a5 11 74) (kc (kA a5 15 78) (kc (kA a5 17 80) (kc (kA a5 18 81) k0)))))) fun b1 => ?_
        refine cF 27 #[(.tmp 66), (.tmp 70), (.tmp 74), (.tmp 78), (.tmp 80), (.tmp 81)] #[31, 9, 9, 9, 9, 2] 82 Tryz.call27 (Dn g2 A8 c9 a9 b0 q3 q4 q5 q6 a3 a6 a4 a1 a0 s a8 w' (Yd d0 [1, 0] rfl rfl) (fun w hm => c3 w (SP.through d0 (l := [1, 0]) rfl hm)) c f8) ?_
        rintro e g6 ⟨d1, d2, rfl, e5⟩
        refine ⟨_, rfl, ?_⟩
        have g7 : SP S w0 g6 [Qn g1 97 #[(pt g2 0), (.int .i64 q), (.string ⟨List.toArray a4⟩), (.string ⟨List.toArray a1⟩), (.string ⟨List.toArray a0⟩)], Qn m 63 #[(.int .i64 u), (.string ⟨List.toArray s⟩), (.string ⟨List.toArray a7⟩), (.int .i64 b2), (.int .i64 b3)], Qn p 63 #[(.int .i64 0), (.string ⟨List.toArray ([] : List UInt8)⟩), (.string ⟨List.toArray ([] : List UInt8)⟩), (.int .i64 0), (.int .i64 0)], Qn g2 81 #[(.int .i64 c.2.1), (.int .i64 c.2.2.1), (.int .i64 c.2.2.2.1), (.int .i64 c.2.2.2.2.1), (.slice A8 (List.length (List.map stT a3)) c9), (.slice d1 (List.length c.2.2.2.2.2) d2)], Yc 9 Qx d1 d2 c.2.2.2.2.2] := Vv d0 [1, 0] [2, 3, 4] rfl rfl e5 rfl
        clear e5
        refine ⟨_, Qa b1, rfl, ?_⟩
        exact (Exists.intro d1 (Exists.intro d2 (And.intro (And.intro rfl (trivial)) (g7))))
      ·exact oV (hC (hA 19 82) (h0)) (.int .i64 c.1)
      ·rintro ρ' w' hs hf ⟨b9, c0, ⟨j3, -⟩, c1⟩
       refine Q3 [(0, (pt g1 0)), (8, (pt p 0)), (10, (.int .i64 c.1))] ⟨(hs 0 K).trans K, (hs 8 K).trans K, hf 20 10 K, trivial⟩ ?_
       obtain ⟨g8, g9⟩ : ∃ x, w' = x := ⟨_, rfl⟩
       rw [g9] at c1 ⊢
       refine aQ ?_
       refine aQ ?_
       refine aR ?_
       refine iR 2 2 [(83, (.int .i64 c.1)), (84, (.bool (c.1 != 0)))] ?_
       refine iF ?_
       refine V1 K (o := (.tmp 84)) K (b := (c.1 != 0)) K (fun d3 => ?_) (fun d3 => ?_)
       ·have H := ct H d3
        refine aQ ?_
        refine aR ?_
        refine iR 2 2 [(85, (pt g1 0)), (86, (.int .i64 c.1))] ?_
        obtain ⟨f, h1, H⟩ := Qb H
        refine iS 3 ?_
        refine cF 58 #[(.tmp 85), (.tmp 86)] #[73, 38] 87 Tryz.call58 (Nr g1 g2 A8 c9 b9 c0 c.2.1 c.2.2.1 c.2.2.2.1 c.2.2.2.2.1 a3 c.2.2.2.2.2 q a4 a1 a0 c.1 g8 (Yd c1 [3, 4, 0] rfl rfl) (fun w hm => c3 w (SP.through c1 (l := [3, 4, 0]) rfl hm)) f h1) ?_
        rintro e h2 ⟨d4, d5, rfl, e6⟩
        refine ⟨_, rfl, ?_⟩
        have h3 : SP S w0 h2 [Qn m 63 #[(.int .i64 u), (.string ⟨List.toArray s⟩), (.string ⟨List.toArray a7⟩), (.int .i64 b2), (.int .i64 b3)], Qn p 63 #[(.int .i64 0), (.string ⟨List.toArray ([] : List UInt8)⟩), (.string ⟨List.toArray ([] : List UInt8)⟩), (.int .i64 0), (.int .i64 0)], Qn g2 81 #[(.int .i64 c.2.1), (.int .i64 c.2.2.1), (.int .i64 c.2.2.2.1), (.int .i64 c.2.2.2.2.1), (.slice A8 (List.length (List.map stT a3)) c9), (.slice d4 (List.length c.2.2.2.2.2) d5)], Yc 9 Qx d4 d5 c.2.2.2.2.2, Qn g1 97 #[(pt g2 0), (.int .i64 f.2.2.2.2.2.2.1), (.string ⟨List.toArray f.2.2.2.2.2.2.2.1⟩), (.string ⟨List.toArray f.2.2.2.2.2.2.2.2.1⟩), (.string ⟨List.toArray f.2.2.2.2.2.2.2.2.2⟩)]] := Vv c1 [3, 4, 0] [1, 2] rfl rfl e6 rfl
        clear e6
        refine iR 2 5 [(88, (.agg #[(.int .i64 f.1), (.string ⟨List.toArray f.2.1⟩), (.string ⟨List.toArray f.2.2.1⟩), (.int .i64 f.2.2.2.1), (.int .i64 f.2.2.2.2.1)])), (89, (.bool f.2.2.2.2.2.1))] ?_
        refine iS 6 ?_
        refine Qi.store (t := 63) (x := (.tmp 8)) (y := (.tmp 88)) (g := p) (off := 0) (i := 1) (v := (.agg #[(.int .i64 f.1), (.string ⟨List.toArray f.2.1⟩), (.string ⟨List.toArray f.2.2.1⟩), (.int .i64 f.2.2.2.1), (.int .i64 f.2.2.2.2.1)])) (cs' := #[(.int .i64 f.1), (.string ⟨List.toArray f.2.1⟩), (.string ⟨List.toArray f.2.2.1⟩), (.int .i64 f.2.2.2.1), (.int .i64 f.2.2.2.2.1)]) (d := none) (k := 5) K rfl K K h3 rfl K ?_
        intro j4 e7
        refine iR 1 7 [(9, (.bool f.2.2.2.2.2.1))] ?_
        refine iF ?_
        refine At.ret K ?_
        refine ⟨(.tuple #[(.agg #[(.int .i64 f.1), (.string ⟨List.toArray f.2.1⟩), (.string ⟨List.toArray f.2.2.1⟩), (.int .i64 f.2.2.2.1), (.int .i64 f.2.2.2.2.1)]), (.bool f.2.2.2.2.2.1)]), C2 K (J4 (a := 8) (t := 63) (g := p) (off := 0) K (SP.get e7 (i := 1) rfl) K) (R4 (t := 9) K), ?_⟩
        obtain rfl := Qe H
        exact ⟨d4, d5, rfl, SP.sel e7 [2,3,4] rfl rfl⟩
       ·have H := cf H d3
        refine At.skip K ?_
        refine aQ ?_
        refine aR ?_
        refine iR 3 3 [(90, (pt g1 0)), (91, (pt g1 0)), (92, (pt g1 1))] ?_
        refine iS 4 ?_
        refine Qi.store (t := 3) (x := (.tmp 92)) (y := (.const (.int .i64 (2)))) (g := g1) (off := 1) (i := 0) (v := (.int .i64 2)) (cs' := #[(pt g2 0), (.int .i64 2), (.string ⟨List.toArray a4⟩), (.string ⟨List.toArray a1⟩), (.string ⟨List.toArray a0⟩)]) (d := none) (k := 3) K rfl K K c1 rfl K ?_
        intro j5 h4
        refine iF ?_
        refine aQ ?_
        refine aR ?_
        refine iR 1 1 [(93, (.agg #[(.int .i64 4), (.string ⟨List.toArray ([] : List UInt8)⟩), (.string ⟨List.toArray ([] : List UInt8)⟩), (.int .i64 0), (.int .i64 0)]))] ?_
        refine iS 2 ?_
        refine Qi.store (t := 63) (x := (.tmp 8)) (y := (.tmp 93)) (g := p) (off := 0) (i := 2) (v := (.agg #[(.int .i64 4), (.string ⟨List.toArray ([] : List UInt8)⟩), (.string ⟨List.toArray ([] : List UInt8)⟩), (.int .i64 0), (.int .i64 0)])) (cs' := #[(.int .i64 4), (.string ⟨List.toArray ([] : List UInt8)⟩), (.string ⟨List.toArray ([] : List UInt8)⟩), (.int .i64 0), (.int .i64 0)]) (d := none) (k := 1) K rfl K K h4 rfl K ?_
        intro j6 e8
        refine iR 1 3 [(9, (.bool true))] ?_
        refine iF ?_
        refine At.ret K ?_
        refine ⟨(.tuple #[(.agg #[(.int .i64 4), (.string ⟨List.toArray ([] : List UInt8)⟩), (.string ⟨List.toArray ([] : List UInt8)⟩), (.int .i64 0), (.int .i64 0)]), (.bool true)]), C2 K (J4 (a := 8) (t := 63) (g := p) (off := 0) K (SP.get e8 (i := 2) rfl) K) (R4 (t := 9) K), ?_⟩
        obtain rfl := Qe H
        exact ⟨b9, c0, rfl, SP.sel e8 [3,4,0] rfl rfl⟩
     ·have H := cf H c8
      refine At.skip K ?_
      refine aQ ?_
      refine aR ?_
      refine iR 1 1 [(94, (pt g1 0))] ?_
      obtain ⟨h, h5, H⟩ := Qb H
      refine iS 2 ?_
      refine cF 58 #[(.tmp 94), (.const (.int .i64 (1)))] #[73, 38] 95 Tryz.call58 (Nr g1 g2 A8 c9 a9 b0 q3 q4 q5 q6 a3 a6 q a4 a1 a0 1 f7 (Yd c2 [1, 0, 2] rfl rfl) (fun w hm => c3 w (SP.through c2 (l := [1, 0, 2]) rfl hm)) h h5) ?_
      rintro e h6 ⟨d6, d7, rfl, e9⟩
      refine ⟨_, rfl, ?_⟩
      have h7 : SP S w0 h6 [Qn m 63 #[(.int .i64 u), (.string ⟨List.toArray s⟩), (.string ⟨List.toArray a7⟩), (.int .i64 b2), (.int .i64 b3)], Qn p 63 #[(.int .i64 0), (.string ⟨List.toArray ([] : List UInt8)⟩), (.string ⟨List.toArray ([] : List UInt8)⟩), (.int .i64 0), (.int .i64 0)], Qn g2 81 #[(.int .i64 q3), (.int .i64 q4), (.int .i64 q5), (.int .i64 q6), (.slice A8 (List.length (List.map stT a3)) c9), (.slice d6 (List.length a6) d7)], Yc 9 Qx d6 d7 a6, Qn g1 97 #[(pt g2 0), (.int .i64 h.2.2.2.2.2.2.1), (.string ⟨List.toArray h.2.2.2.2.2.2.2.1⟩), (.string ⟨List.toArray h.2.2.2.2.2.2.2.2.1⟩), (.string ⟨List.toArray h.2.2.2.2.2.2.2.2.2⟩)]] := Vv c2 [1, 0, 2] [3, 4] rfl rfl e9 rfl
      clear e9
      refine iR 2 4 [(96, (.agg #[(.int .i64 h.1), (.string ⟨List.toArray h.2.1⟩), (.string ⟨List.toArray h.2.2.1⟩), (.int .i64 h.2.2.2.1), (.int .i64 h.2.2.2.2.1)])), (97, (.bool h.2.2.2.2.2.1))] ?_
      refine iS 5 ?_
      refine Qi.store (t := 63) (x := (.tmp 8)) (y := (.tmp 96)) (g := p) (off := 0) (i := 1) (v := (.agg #[(.int .i64 h.1), (.string ⟨List.toArray h.2.1⟩), (.string ⟨List.toArray h.2.2.1⟩), (.int .i64 h.2.2.2.1), (.int .i64 h.2.2.2.2.1)])) (cs' := #[(.int .i64 h.1), (.string ⟨List.toArray h.2.1⟩), (.string ⟨List.toArray h.2.2.1⟩), (.int .i64 h.2.2.2.1), (.int .i64 h.2.2.2.2.1)]) (d := none) (k := 4) K rfl K K h7 rfl K ?_
      intro j7 f0
      refine iR 1 6 [(9, (.bool h.2.2.2.2.2.1))] ?_
      refine iF ?_
      refine At.ret K ?_
      refine ⟨(.tuple #[(.agg #[(.int .i64 h.1), (.string ⟨List.toArray h.2.1⟩), (.string ⟨List.toArray h.2.2.1⟩), (.int .i64 h.2.2.2.1), (.int .i64 h.2.2.2.2.1)]), (.bool h.2.2.2.2.2.1)]), C2 K (J4 (a := 8) (t := 63) (g := p) (off := 0) K (SP.get f0 (i := 1) rfl) K) (R4 (t := 9) K), ?_⟩
      obtain rfl := Qe H
      exact ⟨d6, d7, rfl, SP.sel f0 [2,3,4] rfl rfl⟩
end Go.Proofs.YtmgfanhcdfobhaaGreatDoor
namespace Go.Proofs.YtmgfanhcdfobhaaGreatDoor
theorem cut64 (p : Str) (h : p.length ≤ 140737488355328) : sub p 0 (if 64 < ((List.length p : Nat) : Int) then 64 else ((List.length p : Nat) : Int)) = some (p.take 64) := by
  by_cases h2 : 64 < ((List.length p : Nat) : Int)
  · rw [if_pos h2]
    have := Ic p (i := 0) (j := 64) (by omega) (by omega)
    simpa using this
  · rw [if_neg h2]
    have := Ic p (i := 0) (j := p.length) (by omega) (by omega)
    rw [List.take_of_length_le (by omega : p.length ≤ 64)]
    simpa using this
def Ly (l : List Qg) (M : Uw) (c : Int) (t k n : Str) (kn : Bool) (kind : Int) (A B : Str) (now : Int) (nonce : Str) : Int × Str × Str × Int × Int × Bool × Int × Str × Str × Str × Bool :=
  cond (c == 1) (cond (kind == 1) (2, nonce.take 64, [], 0, 0, true, 2, A, B, nonce.take 64, kn) (5, [], [], 1, 0, true, 0, t, k, n, kn))
  (cond (c == 2) (cond (kind == 3) (cond (B9 l M t k n A now == 0) (4, [], [], 0, 0, true, 0, t, k, n, true) (5, [], [], B9 l M t k n A now, 0, true, 0, t, k, n, kn)) (5, [], [], 1, 0, true, 0, t, k, n, kn))
  (0, [], [], 0, 0, false, c, t, k, n, kn))
theorem pHear {l : List Qg} (hv : VC l) (w g i e : Int) (M : Uw) (c : Int) (t k n : Str) (kn : Bool) (kind : Int) (A B : Str) (N m now : Int) (nonce : Str) (hA : A.length ≤ 140737488355328) (hn : nonce.length ≤ 140737488355328) :
    Xt w g i e l M c t k n kn kind A B N m now nonce = some (Ly l M c t k n kn kind A B now nonce) := by
  unfold Xt N6 N7 Jb Hv Ly
  cases h1 : (c == 1) with
  | true =>
    rw [cond_true, cond_false, cond_true, cond_true, cut64 nonce hn]
    cases hk : (kind == 1) with
    | true => rw [show (kind != 1) = false by rw [bne, hk]; rfl]; rfl
    | false => rw [show (kind != 1) = true by rw [bne, hk]; rfl]; rfl
  | false =>
    cases h2 : (c == 2) with
    | true =>
      rw [cond_false, cond_true, cond_false, cond_false, cond_true, cond_false, cond_true]
      cases hk : (kind == 3) with
      | false => rw [show (kind != 3) = true by rw [bne, hk]; rfl]; rfl
      | true =>
        rw [show (kind != 3) = false by rw [bne, hk]; rfl, cond_false, pVCheck hv _ _ _ _ _ _ _ _ _ hA, Option.bind_some]
        cases he : (B9 l M t k n A now == 0) with
        | true => rw [show (B9 l M t k n A now != 0) = false by rw [bne, he]; rfl]; rfl
        | false => rw [show (B9 l M t k n A now != 0) = true by rw [bne, he]; rfl]; rfl
    | false => rfl
def sOf (c : Int) (kn : Bool) : Int := cond (c == 1) 0 (cond (c == 2) 1 (cond kn 2 3))
def SI (c : Int) (kn : Bool) : Prop := (c = 0 ∨ c = 1 ∨ c = 2) ∧ (kn = true → c = 0)
theorem hear_inv (l : List Qg) (M : Uw) {c : Int} (t k n : Str) {kn : Bool} (kind : Int) (A B : Str) (now : Int) (nonce : Str) (h : SI c kn) :
    SI (Ly l M c t k n kn kind A B now nonce).2.2.2.2.2.2.1 (Ly l M c t k n kn kind A B now nonce).2.2.2.2.2.2.2.2.2.2 := by
  obtain ⟨h1, h2⟩ := h
  unfold Ly SI
  rcases h1 with rfl | rfl | rfl
  · exact ⟨.inl rfl, fun _ => rfl⟩
  · have hk : kn = false := by
      cases kn with
      | false => rfl
      | true => exact absurd (h2 rfl) (by decide)
    subst hk
    cases (kind == 1) with
    | true => exact ⟨.inr (.inr rfl), fun h => by cases h⟩
    | false => exact ⟨.inl rfl, fun h => by cases h⟩
  · cases (kind == 3) with
    | false => exact ⟨.inl rfl, fun _ => rfl⟩
    | true => cases (B9 l M t k n A now == 0) <;> exact ⟨.inl rfl, fun _ => rfl⟩
theorem rHear {l : List Qg} (hv : VC l) (w g i e : Int) {M : Uw} {ps : List (Str × Str)} (hr : Rel l M ps) (hps : ps.length ≤ 1000000) {c : Int} (t k n : Str) {kn : Bool} (h : SI c kn) (kind : Int) (A B : Str) (N m now : Int) (nonce : Str) (hA : A.length ≤ 140737488355328) (hn : nonce.length ≤ 140737488355328)
    (z : Int × Str × Str × Int × Int × Bool × Int × Str × Str × Str × Bool) (hz : Ly l M c t k n kn kind A B now nonce = z) :
    Y2 w g i e l (gf ps) (sOf c kn) t k n kind A B N m now nonce =
      some (z.1, z.2.1, z.2.2.1, z.2.2.2.1, z.2.2.2.2.1, z.2.2.2.2.2.1, w, g, i, e, gf ps, sOf z.2.2.2.2.2.2.1 z.2.2.2.2.2.2.2.2.2.2, z.2.2.2.2.2.2.2.1, z.2.2.2.2.2.2.2.2.1, z.2.2.2.2.2.2.2.2.2.1) := by
  subst hz
  obtain ⟨h1, h2⟩ := h
  unfold Y2 X6 X5 Yg
  rw [cut64 nonce hn, rVCheck hv _ _ _ _ _ _ ps hps, rel_check hr]
  unfold Ly
  rcases h1 with rfl | rfl | rfl
  · cases kn <;> rfl
  · have hk : kn = false := by
      cases kn with
      | false => rfl
      | true => exact absurd (h2 rfl) (by decide)
    subst hk
    cases (kind == 1) <;> rfl
  · have hk : kn = false := by
      cases kn with
      | false => rfl
      | true => exact absurd (h2 rfl) (by decide)
    subst hk
    cases (kind == 3) with
    | false => rfl
    | true =>
      simp only [Option.bind_some]
      cases he : (B9 l M t k n A now == 0) with
      | true => rw [show (B9 l M t k n A now != 0) = false by rw [bne, he]; rfl]; rfl
      | false => rw [show (B9 l M t k n A now != 0) = true by rw [bne, he]; rfl]; rfl
end Go.Proofs.YtmgfanhcdfobhaaGreatDoor
namespace Go.Proofs.YtmgfanhcdfobhaaGreatDoor
open Go.RowKit
def N9 (c : Int) (a : (List UInt8)) (b : (List UInt8)) (d : Int) (e : Int) : Option (Bool) :=
  (some ((decide ((IntKind.wrap .i64 (((List.length a : Nat) : Int) + ((List.length b : Nat) : Int))) > 9000))))
theorem Cc  (c : Int) (a : (List UInt8)) (b : (List UInt8)) (f : Int) (g : Int) (w0 : World)  (r : (Bool)) (H : N9 c a b f g = some r) :
  Calls Tryz.prog 37 #[(.agg #[(.int .i64 c), (.string ⟨List.toArray a⟩), (.string ⟨List.toArray b⟩), (.int .i64 f), (.int .i64 g)])] w0 (fun e w' => e = .returned (.bool r) ∧ SP [] w0 w' []) := by
 unfold N9 at H
 refine Qs (n := 11) Tryz.func37 K K K ?_
 have i := Q0 [] w0
 refine aQ ?_
 refine aR ?_
 refine iS 1 ?_
 refine Vn (t := 63) (x := (.tmp 0)) (v := (.agg #[(.int .i64 c), (.string ⟨List.toArray a⟩), (.string ⟨List.toArray b⟩), (.int .i64 f), (.int .i64 g)])) (d := (some 1)) (k := 0) K rfl K i ?_
 intro g6 w7 h
 refine iR 1 2 [(2, (.bool false))] ?_
 refine iF ?_
 refine aQ ?_
 refine aR ?_
 refine iR 1 1 [(3, (pt g6 1))] ?_
 refine iS 2 ?_
 refine sL 9 3 g6 1 0 (.string ⟨List.toArray a⟩) 4 h rfl ?_
 refine iR 2 4 [(5, (.int .i64 ((List.length a : Nat) : Int))), (6, (pt g6 2))] ?_
 refine iS 5 ?_
 refine sL 9 6 g6 2 0 (.string ⟨List.toArray b⟩) 7 h rfl ?_
 refine iR 4 9 [(8, (.int .i64 ((List.length b : Nat) : Int))), (9, (.int .i64 (IntKind.wrap .i64 (((List.length a : Nat) : Int) + ((List.length b : Nat) : Int))))), (10, (.bool (decide ((IntKind.wrap .i64 (((List.length a : Nat) : Int) + ((List.length b : Nat) : Int))) > 9000)))), (2, (.bool (decide ((IntKind.wrap .i64 (((List.length a : Nat) : Int) + ((List.length b : Nat) : Int))) > 9000))))] ?_
 refine iF ?_
 refine At.ret K ?_
 refine ⟨(.bool (decide ((IntKind.wrap .i64 (((List.length a : Nat) : Int) + ((List.length b : Nat) : Int))) > 9000))), K, ?_⟩
 obtain rfl := Qe H
 exact ⟨rfl, SP.sel h [] rfl rfl⟩
end Go.Proofs.YtmgfanhcdfobhaaGreatDoor
namespace Go.Proofs.YtmgfanhcdfobhaaGreatDoor
open Go.RowKit
def G2  : Option Unit :=
  (some ())
theorem Ea   (w0 : World)  (r : Unit) (H : G2  = some r) :
  Calls Tryz.prog 56 #[] w0 (fun e w' => ∃ (g7 : Nat) (b : Nat), e = .returned (.agg #[(.int .i64 9), (.int .i64 9), (.int .i64 9), (.int .i64 9), (.slice (some ⟨b, 0, none⟩) (List.length ([(([97, 110, 110] : List UInt8), 0, 0, ([] : List (Int × Int)), ([(([107] : List UInt8), ([115] : List UInt8), 5)] : List ((List UInt8) × (List UInt8) × Int)))] : List Qg)) (List.length ([(([97, 110, 110] : List UInt8), 0, 0, ([] : List (Int × Int)), ([(([107] : List UInt8), ([115] : List UInt8), 5)] : List ((List UInt8) × (List UInt8) × Int)))] : List Qg)))]) ∧ SP [] w0 w' [Yc 48 (Qj Qx (Qj Qx (Qc .i64))) (some ⟨g7, 0, none⟩) (List.length ([(([107] : List UInt8), ([115] : List UInt8), 5)] : List ((List UInt8) × (List UInt8) × Int))) ([(([107] : List UInt8), ([115] : List UInt8), 5)] : List ((List UInt8) × (List UInt8) × Int)), Yc 44 Js (some ⟨b, 0, none⟩) (List.length ([(([97, 110, 110] : List UInt8), 0, 0, ([] : List (Int × Int)), ([(([107] : List UInt8), ([115] : List UInt8), 5)] : List ((List UInt8) × (List UInt8) × Int)))] : List Qg)) ([(([97, 110, 110] : List UInt8), 0, 0, (none, 0, ([] : List (Int × Int))), ((some ⟨g7, 0, none⟩), (List.length ([(([107] : List UInt8), ([115] : List UInt8), 5)] : List ((List UInt8) × (List UInt8) × Int))), ([(([107] : List UInt8), ([115] : List UInt8), 5)] : List ((List UInt8) × (List UInt8) × Int))))] : List Va)]) := by
 unfold G2 at H
 refine Qs (n := 6) Tryz.func56 K K K ?_
 have f := Q0 [] w0
 refine aQ ?_
 refine aR ?_
 refine iS 1 ?_
 refine Qi.alloc (t := 24) (z := (.agg #[(.int .i64 0), (.int .i64 0), (.int .i64 0), (.int .i64 0), (.slice none (List.length ([] : List Qg)) 0)])) (d := (some 0)) (k := 0) K rfl K f ?_
 intro g3 w4 h
 refine iF ?_
 refine aQ ?_
 refine aR ?_
 refine iR 1 1 [(1, (.agg #[(.string ⟨List.toArray ([107] : List UInt8)⟩), (.string ⟨List.toArray ([115] : List UInt8)⟩), (.int .i64 5)]))] ?_
 refine iS 2 ?_
 refine Zv (e := (Qj Qx (Qj Qx (Qc .i64)))) (T := 42) (E := 48) (len := 1) (parts := #[(0, (.tmp 1))]) (cs := #[(.string ⟨List.toArray ([107] : List UInt8)⟩), (.string ⟨List.toArray ([115] : List UInt8)⟩), (.int .i64 5)]) ([(([107] : List UInt8), ([115] : List UInt8), 5)] : List ((List UInt8) × (List UInt8) × Int)) (d := (some 2)) (k := 1) K rfl (fun _ => K) h rfl rfl rfl rfl ?_
 intro g7 w8 j
 refine iR 1 3 [(3, (.agg #[(.string ⟨List.toArray ([97, 110, 110] : List UInt8)⟩), (.int .i64 0), (.int .i64 0), (.slice none (List.length ([] : List (Int × Int))) 0), (.slice (some ⟨g7, 0, none⟩) (List.length ([(([107] : List UInt8), ([115] : List UInt8), 5)] : List ((List UInt8) × (List UInt8) × Int))) (List.length ([(([107] : List UInt8), ([115] : List UInt8), 5)] : List ((List UInt8) × (List UInt8) × Int))))]))] ?_
 refine iS 4 ?_
 refine Zv (e := Js) (T := 22) (E := 44) (len := 1) (parts := #[(0, (.tmp 3))]) (cs := #[(.string ⟨List.toArray ([97, 110, 110] : List UInt8)⟩), (.int .i64 0), (.int .i64 0), (.slice none (List.length ([] : List (Int × Int))) 0), (.slice (some ⟨g7, 0, none⟩) (List.length ([(([107] : List UInt8), ([115] : List UInt8), 5)] : List ((List UInt8) × (List UInt8) × Int))) (List.length ([(([107] : List UInt8), ([115] : List UInt8), 5)] : List ((List UInt8) × (List UInt8) × Int))))]) ([(([97, 110, 110] : List UInt8), 0, 0, (none, 0, ([] : List (Int × Int))), ((some ⟨g7, 0, none⟩), (List.length ([(([107] : List UInt8), ([115] : List UInt8), 5)] : List ((List UInt8) × (List UInt8) × Int))), ([(([107] : List UInt8), ([115] : List UInt8), 5)] : List ((List UInt8) × (List UInt8) × Int))))] : List Va) (d := (some 4)) (k := 3) K rfl (fun _ => K) j rfl rfl rfl rfl ?_
 intro b m l
 refine iR 1 5 [(5, (.agg #[(.int .i64 9), (.int .i64 9), (.int .i64 9), (.int .i64 9), (.slice (some ⟨b, 0, none⟩) (List.length ([(([97, 110, 110] : List UInt8), 0, 0, ([] : List (Int × Int)), ([(([107] : List UInt8), ([115] : List UInt8), 5)] : List ((List UInt8) × (List UInt8) × Int)))] : List Qg)) (List.length ([(([97, 110, 110] : List UInt8), 0, 0, ([] : List (Int × Int)), ([(([107] : List UInt8), ([115] : List UInt8), 5)] : List ((List UInt8) × (List UInt8) × Int)))] : List Qg)))]))] ?_
 refine iS 6 ?_
 refine Qi.store (t := 24) (x := (.tmp 0)) (y := (.tmp 5)) (g := g3) (off := 0) (i := 0) (v := (.agg #[(.int .i64 9), (.int .i64 9), (.int .i64 9), (.int .i64 9), (.slice (some ⟨b, 0, none⟩) (List.length ([(([97, 110, 110] : List UInt8), 0, 0, ([] : List (Int × Int)), ([(([107] : List UInt8), ([115] : List UInt8), 5)] : List ((List UInt8) × (List UInt8) × Int)))] : List Qg)) (List.length ([(([97, 110, 110] : List UInt8), 0, 0, ([] : List (Int × Int)), ([(([107] : List UInt8), ([115] : List UInt8), 5)] : List ((List UInt8) × (List UInt8) × Int)))] : List Qg)))])) (cs' := #[(.int .i64 9), (.int .i64 9), (.int .i64 9), (.int .i64 9), (.slice (some ⟨b, 0, none⟩) (List.length ([(([97, 110, 110] : List UInt8), 0, 0, ([] : List (Int × Int)), ([(([107] : List UInt8), ([115] : List UInt8), 5)] : List ((List UInt8) × (List UInt8) × Int)))] : List Qg)) (List.length ([(([97, 110, 110] : List UInt8), 0, 0, ([] : List (Int × Int)), ([(([107] : List UInt8), ([115] : List UInt8), 5)] : List ((List UInt8) × (List UInt8) × Int)))] : List Qg)))]) (d := none) (k := 5) K rfl K K l rfl K ?_
 intro o c
 refine iF ?_
 refine At.ret K ?_
 refine ⟨(.agg #[(.int .i64 9), (.int .i64 9), (.int .i64 9), (.int .i64 9), (.slice (some ⟨b, 0, none⟩) (List.length ([(([97, 110, 110] : List UInt8), 0, 0, ([] : List (Int × Int)), ([(([107] : List UInt8), ([115] : List UInt8), 5)] : List ((List UInt8) × (List UInt8) × Int)))] : List Qg)) (List.length ([(([97, 110, 110] : List UInt8), 0, 0, ([] : List (Int × Int)), ([(([107] : List UInt8), ([115] : List UInt8), 5)] : List ((List UInt8) × (List UInt8) × Int)))] : List Qg)))]), Bs K (J4 (a := 0) (t := 24) (g := g3) (off := 0) K (SP.get c (i := 0) rfl) K), ?_⟩
 exact ⟨g7, b, rfl, SP.sel c [1, 2] rfl rfl⟩
def Ym (a : Int → Option (Bool)) (b : Int) (c : Bool) : Option (Bool) :=
  (cond c (some (true)) (a (IntKind.wrap .i64 (b + 1))))
def Yn (c : Int → Option (Bool)) (p1 : (List (Int × Int × (List UInt8) × (List UInt8) × Int × Int × Int × (List UInt8)))) (b : Int) (d : Bool) : Option (Bool) :=
  (cond d ((idx p1 b).bind fun a => ((N9 a.2.1 a.2.2.1 a.2.2.2.1 a.2.2.2.2.1 a.2.2.2.2.2.1).bind fun e => (cond e (Ym c b true) ((idx p1 b).bind fun f => (Ym c b (decide (((List.length f.2.2.2.2.2.2.2 : Nat) : Int) > 2000))))))) (some ((decide (((List.length p1 : Nat) : Int) > 40)))))
def Xq (b : Int → Option (Bool)) (p1 : (List (Int × Int × (List UInt8) × (List UInt8) × Int × Int × Int × (List UInt8)))) (a : Int) : Option (Bool) :=
  (cond (decide (a < ((List.length p1 : Nat) : Int))) (Yn b p1 a (decide (a < 60))) (Yn b p1 a false))
def V9 (p1 : (List (Int × Int × (List UInt8) × (List UInt8) × Int × Int × Int × (List UInt8)))) : Nat → Int → Option (Bool)
  | 0, _ => none
  | f + 1, a => Xq  (V9 p1 f) p1 a
def Ga (p1 : (List (Int × Int × (List UInt8) × (List UInt8) × Int × Int × Int × (List UInt8)))) : Option (Bool) :=
  (V9 p1 Zj 0)
theorem Cd (A2 : Option Addr) (c3 : Nat) (p1 : (List (Int × Int × (List UInt8) × (List UInt8) × Int × Int × Int × (List UInt8)))) (w0 : World) (m : RdT (Qj (Qc .i64) (Qj (Qc .i64) (Qj Qx (Qj Qx (Qj (Qc .i64) (Qj (Qc .i64) (Qj (Qc .i64) Qx))))))) w0 A2 c3 p1) (r : (Bool)) (H : Ga p1 = some r) :
  Calls Tryz.prog 32 #[(.slice A2 (List.length p1) c3)] w0 (fun e w' => e = .returned (.bool r) ∧ SP [] w0 w' []) := by
 unfold Ga at H
 refine Qs (n := 32) Tryz.func32 K K K ?_
 have b1 := Q0 [] w0
 refine aQ ?_
 refine aR ?_
 refine iR 1 1 [(2, (.bool false))] ?_
 refine iF ?_
 refine aQ ?_
 refine aQ ?_
 refine aR ?_
 refine iR 1 1 [(3, (.int .i64 0))] ?_
 refine iF ?_
 refine Z1 K (id := 0) K ?_
 refine Nl K (fun f5 ρ w => ∃ (a : Int), V6 ρ [(0, (.slice A2 (List.length p1) c3)), (3, (.int .i64 a))] ∧ SP [] w0 w [] ∧ V9 p1 f5 a = some r) (by rintro ρ w ⟨a, hk, hs, H⟩; cases H) ?_ Zj ?_
 ·rintro f5 ρ b8 ⟨a, hk, a0, H⟩
  refine At.known [(0, (.slice A2 (List.length p1) c3)), (3, (.int .i64 a))] hk ?_
  replace H := (show Xq (V9 p1 f5) p1 a = some r from H)
  unfold Xq at H
  refine aQ ?_
  refine aQ ?_
  refine At.join (fun ρ w => ∃ (g : Bool), V6 ρ [(0, (.slice A2 (List.length p1) c3)), (3, (.int .i64 a)), (11, (.bool g))] ∧ SP [] w0 w [] ∧ Yn (V9 p1 f5) p1 a g = some r) ?_ ?_
  ·refine aR ?_
   refine iR 5 5 [(4, (.int .i64 a)), (5, (.slice A2 (List.length p1) c3)), (6, (.int .i64 ((List.length p1 : Nat) : Int))), (7, (.bool (decide (a < ((List.length p1 : Nat) : Int))))), (8, (.bool (decide (a < ((List.length p1 : Nat) : Int)))))] ?_
   refine In.guard (t := 8) (b := (decide (a < ((List.length p1 : Nat) : Int)))) K (fun s => ?_) (fun s => ?_)
   ·have H := ct H s
    refine iR 3 8 [(9, (.int .i64 a)), (10, (.bool (decide (a < 60)))), (11, (.bool (decide (a < 60))))] ?_
    refine iF ?_
    exact ⟨(decide (a < 60)), ⟨K, K, K, trivial⟩, SP.sel a0 [] rfl rfl, H⟩
   ·have H := cf H s
    refine iR 3 8 [(9, undef), (10, undef), (11, (.bool false))] ?_
    refine iF ?_
    exact ⟨false, ⟨K, K, K, trivial⟩, SP.sel a0 [] rfl rfl, H⟩
  ·rintro ρ b2 ⟨g, hk, p, H⟩
   unfold Yn at H
   first | refine At.known [(0, (.slice A2 (List.length p1) c3)), (3, (.int .i64 a)), (11, (.bool g))] hk ?_ | rw [← Qv (l := [(0, (.slice A2 (List.length p1) c3)), (3, (.int .i64 a)), (11, (.bool g))]) hk]
   refine V1 K (o := (.tmp 11)) K (b := g) K (fun u => ?_) (fun u => ?_)
   ·have H := ct H u
    refine At.skip K ?_
    refine aQ ?_
    refine Z1 K (id := 1) K ?_
    refine aQ ?_
    refine At.join (fun ρ w => ∃ (h : Bool), V6 ρ [(0, (.slice A2 (List.length p1) c3)), (3, (.int .i64 a)), (28, (.bool h))] ∧ SP [] w0 w [] ∧ Ym (V9 p1 f5) a h = some r) ?_ ?_
    ·refine aR ?_
     refine iR 2 2 [(14, (.slice A2 (List.length p1) c3)), (15, (.int .i64 a))] ?_
     obtain ⟨f, a1, a2, b3, H⟩ := Qo H
     refine iS 3 ?_
     refine Vi (e := (Qj (Qc .i64) (Qj (Qc .i64) (Qj Qx (Qj Qx (Qj (Qc .i64) (Qj (Qc .i64) (Qj (Qc .i64) Qx)))))))) (l := p1) (A := A2) (c := c3) (T := 58) (E := 67) (x := (.tmp 14)) (ix := (.tmp 15)) (ki := .i64) (iz := a) (d := (some 16)) (k := 2) K rfl K K K K (RdT.sp m p) a1 a2 ?_
     intro a3 a4 b4 b9 hc169
     refine iR 1 4 [(17, (.pointer (some ⟨a3, (a4 + Int.toNat a * (Qj (Qc .i64) (Qj (Qc .i64) (Qj Qx (Qj Qx (Qj (Qc .i64) (Qj (Qc .i64) (Qj (Qc .i64) Qx))))))).sz + 1), none⟩)))] ?_
     refine iS 5 ?_
     refine Qi.cells (t := 63) (x := (.tmp 17)) (b := a3) (off := (a4 + Int.toNat a * (Qj (Qc .i64) (Qj (Qc .i64) (Qj Qx (Qj Qx (Qj (Qc .i64) (Qj (Qc .i64) (Qj (Qc .i64) Qx))))))).sz + 1)) (xs := [(.int .i64 f.2.1), (.string ⟨List.toArray f.2.2.1⟩), (.string ⟨List.toArray f.2.2.2.1⟩), (.int .i64 f.2.2.2.2.1), (.int .i64 f.2.2.2.2.2.1)]) (d := (some 18)) (k := 4) K rfl K K K (L9 (e := (Qj (Qc .i64) (Qj (Qc .i64) (Qj Qx (Qj Qx (Qj (Qc .i64) (Qj (Qc .i64) (Qj (Qc .i64) Qx)))))))) (Qh (RdT.sp m p) b4 a1 a2) b3 (j := 1) rfl) ?_
     obtain ⟨v, b5, H⟩ := Qb H
     refine iS 6 ?_
     refine cF 37 #[(.tmp 18)] #[63] 19 Tryz.call37 (Cc  f.2.1 f.2.2.1 f.2.2.2.1 f.2.2.2.2.1 f.2.2.2.2.2.1 b2  v b5) ?_
     rintro e c0 ⟨rfl, a5⟩
     refine ⟨_, rfl, ?_⟩
     have q := SP.call p a5
     clear a5
     refine iR 1 7 [(20, (.bool v))] ?_
     refine In.guard (t := 20) (b := v) K (fun y => ?_) (fun y => ?_)
     ·have H := ct H y
      refine iR 8 15 [(21, undef), (22, undef), (23, undef), (24, undef), (25, undef), (26, undef), (27, undef), (28, (.bool true))] ?_
      refine iF ?_
      exact ⟨true, ⟨K, K, K, trivial⟩, SP.sel q [] rfl rfl, H⟩
     ·have H := cf H y
      refine iR 2 9 [(21, (.slice A2 (List.length p1) c3)), (22, (.int .i64 a))] ?_
      obtain ⟨i, a6, a7, b6, H⟩ := Qo H
      refine iS 10 ?_
      refine Vi (e := (Qj (Qc .i64) (Qj (Qc .i64) (Qj Qx (Qj Qx (Qj (Qc .i64) (Qj (Qc .i64) (Qj (Qc .i64) Qx)))))))) (l := p1) (A := A2) (c := c3) (T := 58) (E := 67) (x := (.tmp 21)) (ix := (.tmp 22)) (ki := .i64) (iz := a) (d := (some 23)) (k := 9) K rfl K K K K (RdT.sp m q) a6 a7 ?_
      intro a8 a9 b7 c1 hc185
      refine iR 1 11 [(24, (.pointer (some ⟨a8, (a9 + Int.toNat a * (Qj (Qc .i64) (Qj (Qc .i64) (Qj Qx (Qj Qx (Qj (Qc .i64) (Qj (Qc .i64) (Qj (Qc .i64) Qx))))))).sz + 7), none⟩)))] ?_
      refine iS 12 ?_
      refine sC 9 24 a8 (a9 + Int.toNat a * (Qj (Qc .i64) (Qj (Qc .i64) (Qj Qx (Qj Qx (Qj (Qc .i64) (Qj (Qc .i64) (Qj (Qc .i64) Qx))))))).sz + 7) (.string ⟨List.toArray i.2.2.2.2.2.2.2⟩) 25 (Qk (e := (Qj (Qc .i64) (Qj (Qc .i64) (Qj Qx (Qj Qx (Qj (Qc .i64) (Qj (Qc .i64) (Qj (Qc .i64) Qx)))))))) (Qh (RdT.sp m q) b7 a6 a7) b6 (j := 7) rfl) ?_
      refine iR 3 15 [(26, (.int .i64 ((List.length i.2.2.2.2.2.2.2 : Nat) : Int))), (27, (.bool (decide (((List.length i.2.2.2.2.2.2.2 : Nat) : Int) > 2000)))), (28, (.bool (decide (((List.length i.2.2.2.2.2.2.2 : Nat) : Int) > 2000))))] ?_
      refine iF ?_
      exact ⟨(decide (((List.length i.2.2.2.2.2.2.2 : Nat) : Int) > 2000)), ⟨K, K, K, trivial⟩, SP.sel q [] rfl rfl, H⟩
    ·rintro ρ c2 ⟨h, hk, b0, H⟩
     unfold Ym at H
     first | refine At.known [(0, (.slice A2 (List.length p1) c3)), (3, (.int .i64 a)), (28, (.bool h))] hk ?_ | rw [← Qv (l := [(0, (.slice A2 (List.length p1) c3)), (3, (.int .i64 a)), (28, (.bool h))]) hk]
     refine V1 K (o := (.tmp 28)) K (b := h) K (fun z => ?_) (fun z => ?_)
     ·have H := ct H z
      refine aQ ?_
      refine aR ?_
      refine iR 1 1 [(2, (.bool true))] ?_
      refine iF ?_
      refine At.ret K ?_
      refine ⟨(.bool true), K, ?_⟩
      obtain rfl := Qe H
      exact ⟨rfl, SP.sel b0 [] rfl rfl⟩
     ·have H := cf H z
      refine At.skip K ?_
      refine aR ?_
      refine iR 3 3 [(12, (.int .i64 a)), (13, (.int .i64 (IntKind.wrap .i64 (a + 1)))), (3, (.int .i64 (IntKind.wrap .i64 (a + 1))))] ?_
      refine iF ?_
      exact ⟨(IntKind.wrap .i64 (a + 1)), ⟨K, K, trivial⟩, SP.sel b0 [] rfl rfl, H⟩
   ·have H := cf H u
    refine At.exit K (id := 0) K ?_
    refine aQ ?_
    refine aR ?_
    refine iR 4 4 [(29, (.slice A2 (List.length p1) c3)), (30, (.int .i64 ((List.length p1 : Nat) : Int))), (31, (.bool (decide (((List.length p1 : Nat) : Int) > 40)))), (2, (.bool (decide (((List.length p1 : Nat) : Int) > 40))))] ?_
    refine iF ?_
    refine At.ret K ?_
    refine ⟨(.bool (decide (((List.length p1 : Nat) : Int) > 40))), K, ?_⟩
    obtain rfl := Qe H
    exact ⟨rfl, SP.sel p [] rfl rfl⟩
 ·exact ⟨0, ⟨K, K, trivial⟩, SP.sel b1 [] rfl rfl, H⟩
def Vj (a : Bool) : Option (Bool) :=
  (some (a))
def Nb  : Option (Bool) :=
  ((G2 ).bind fun z1 => ((Rq 9 9 9 9 ([(([97, 110, 110] : List UInt8), 0, 0, ([] : List (Int × Int)), ([(([107] : List UInt8), ([115] : List UInt8), 5)] : List ((List UInt8) × (List UInt8) × Int)))] : List Qg)).bind fun z9 => (optE z9 (some (false)) (fun a => ((Bb a.1 a.2.1 a.2.2.1 a.2.2.2.1 ([(([97, 110, 110] : List UInt8), 0, 0, ([] : List (Int × Int)), ([(([107] : List UInt8), ([115] : List UInt8), 5)] : List ((List UInt8) × (List UInt8) × Int)))] : List Qg) a.2.2.2.2).bind fun f => ((Bb a.1 a.2.1 a.2.2.1 a.2.2.2.1 ([(([97, 110, 110] : List UInt8), 0, 0, ([] : List (Int × Int)), ([(([107] : List UInt8), ([115] : List UInt8), 5)] : List ((List UInt8) × (List UInt8) × Int)))] : List Qg) a.2.2.2.2).bind fun g => ((Xt a.1 a.2.1 a.2.2.1 a.2.2.2.1 ([(([97, 110, 110] : List UInt8), 0, 0, ([] : List (Int × Int)), ([(([107] : List UInt8), ([115] : List UInt8), 5)] : List ((List UInt8) × (List UInt8) × Int)))] : List Qg) a.2.2.2.2 f.1 f.2.1 f.2.2.1 f.2.2.2.1 f.2.2.2.2 1 ([97, 110, 110] : List UInt8) ([107] : List UInt8) 0 0 1 ([110] : List UInt8)).bind fun d => ((J1 a.1 a.2.1 a.2.2.1 a.2.2.2.1 ([(([97, 110, 110] : List UInt8), 0, 0, ([] : List (Int × Int)), ([(([107] : List UInt8), ([115] : List UInt8), 5)] : List ((List UInt8) × (List UInt8) × Int)))] : List Qg) a.2.2.2.2 ([97, 110, 110] : List UInt8) ([107] : List UInt8) ([110] : List UInt8)).bind fun i => ((Xt a.1 a.2.1 a.2.2.1 a.2.2.2.1 ([(([97, 110, 110] : List UInt8), 0, 0, ([] : List (Int × Int)), ([(([107] : List UInt8), ([115] : List UInt8), 5)] : List ((List UInt8) × (List UInt8) × Int)))] : List Qg) a.2.2.2.2 d.2.2.2.2.2.2.1 d.2.2.2.2.2.2.2.1 d.2.2.2.2.2.2.2.2.1 d.2.2.2.2.2.2.2.2.2.1 d.2.2.2.2.2.2.2.2.2.2 3 i ([] : List UInt8) 0 0 2 ([109] : List UInt8)).bind fun c => ((Jr a.1 a.2.1 a.2.2.1 a.2.2.2.1 ([(([97, 110, 110] : List UInt8), 0, 0, ([] : List (Int × Int)), ([(([107] : List UInt8), ([115] : List UInt8), 5)] : List ((List UInt8) × (List UInt8) × Int)))] : List Qg) a.2.2.2.2 c.2.2.2.2.2.2.1 c.2.2.2.2.2.2.2.1 c.2.2.2.2.2.2.2.2.1 c.2.2.2.2.2.2.2.2.2.1 c.2.2.2.2.2.2.2.2.2.2).bind fun h => ((Xt a.1 a.2.1 a.2.2.1 a.2.2.2.1 ([(([97, 110, 110] : List UInt8), 0, 0, ([] : List (Int × Int)), ([(([107] : List UInt8), ([115] : List UInt8), 5)] : List ((List UInt8) × (List UInt8) × Int)))] : List Qg) a.2.2.2.2 c.2.2.2.2.2.2.1 c.2.2.2.2.2.2.2.1 c.2.2.2.2.2.2.2.2.1 c.2.2.2.2.2.2.2.2.2.1 c.2.2.2.2.2.2.2.2.2.2 13 ([] : List UInt8) ([] : List UInt8) 0 0 3 ([] : List UInt8)).bind fun e => ((Xt a.1 a.2.1 a.2.2.1 a.2.2.2.1 ([(([97, 110, 110] : List UInt8), 0, 0, ([] : List (Int × Int)), ([(([107] : List UInt8), ([115] : List UInt8), 5)] : List ((List UInt8) × (List UInt8) × Int)))] : List Qg) a.2.2.2.2 g.1 g.2.1 g.2.2.1 g.2.2.2.1 g.2.2.2.2 3 ([] : List UInt8) ([] : List UInt8) 0 0 1 ([110] : List UInt8)).bind fun b => ((Jr a.1 a.2.1 a.2.2.1 a.2.2.2.1 ([(([97, 110, 110] : List UInt8), 0, 0, ([] : List (Int × Int)), ([(([107] : List UInt8), ([115] : List UInt8), 5)] : List ((List UInt8) × (List UInt8) × Int)))] : List Qg) a.2.2.2.2 b.2.2.2.2.2.2.1 b.2.2.2.2.2.2.2.1 b.2.2.2.2.2.2.2.2.1 b.2.2.2.2.2.2.2.2.2.1 b.2.2.2.2.2.2.2.2.2.2).bind fun j => (cond ((d.1 == 2) && ((d.2.1 == ([110] : List UInt8)) && ((d.2.2.1 == ([] : List UInt8)) && ((d.2.2.2.1 == 0) && (d.2.2.2.2.1 == 0))))) (cond d.2.2.2.2.2.1 (cond (c.1 == 4) (cond c.2.2.2.2.2.1 (cond (h.1 == ([97, 110, 110] : List UInt8)) (cond h.2 (cond (!e.2.2.2.2.2.1) (cond ((b.1 == 5) && ((b.2.1 == ([] : List UInt8)) && ((b.2.2.1 == ([] : List UInt8)) && ((b.2.2.2.1 == 1) && (b.2.2.2.2.1 == 0))))) (cond (!j.2) ((J2 a.1 a.2.1 a.2.2.1 a.2.2.2.1 ([(([97, 110, 110] : List UInt8), 0, 0, ([] : List (Int × Int)), ([(([107] : List UInt8), ([115] : List UInt8), 5)] : List ((List UInt8) × (List UInt8) × Int)))] : List Qg) a.2.2.2.2 e.2.2.2.2.2.2.1 e.2.2.2.2.2.2.2.1 e.2.2.2.2.2.2.2.2.1 e.2.2.2.2.2.2.2.2.2.1 e.2.2.2.2.2.2.2.2.2.2).bind fun k => (cond k ((J2 a.1 a.2.1 a.2.2.1 a.2.2.2.1 ([(([97, 110, 110] : List UInt8), 0, 0, ([] : List (Int × Int)), ([(([107] : List UInt8), ([115] : List UInt8), 5)] : List ((List UInt8) × (List UInt8) × Int)))] : List Qg) a.2.2.2.2 b.2.2.2.2.2.2.1 b.2.2.2.2.2.2.2.1 b.2.2.2.2.2.2.2.2.1 b.2.2.2.2.2.2.2.2.2.1 b.2.2.2.2.2.2.2.2.2.2).bind fun l => (Vj l)) (Vj false))) (Vj false)) (Vj false)) (Vj false)) (Vj false)) (Vj false)) (Vj false)) (Vj false)) (Vj false)) (Vj false)))))))))))))))
theorem Cy   (w0 : World) (hL : Fn w0)  (r : (Bool)) (H : Nb  = some r) :
  Calls Tryz.prog 31 #[] w0 (fun e w' => e = .returned (.bool r) ∧ SP [] w0 w' []) := by
 unfold Nb at H
 refine Qs (n := 108) Tryz.func31 K K K ?_
 have f8 := Q0 [] w0
 refine aQ ?_
 refine aR ?_
 refine iR 1 1 [(0, (.bool false))] ?_
 refine iF ?_
 refine aQ ?_
 refine aR ?_
 obtain ⟨z1, f9, H⟩ := Qb H
 refine iS 1 ?_
 refine cF 56 #[] #[] 16 Tryz.call56 (Ea   w0  z1 f9) ?_
 rintro e w3 ⟨g5, g6, rfl, d4⟩
 refine ⟨_, rfl, ?_⟩
 have a7 := SP.call f8 d4
 clear d4
 obtain ⟨z9, d5, H⟩ := Qb H
 rcases z9 with _ | c
 ·have H := optN H
  refine iS 2 ?_
  refine cF 18 #[(.tmp 16)] #[24] 17 Tryz.call18 (Rj (some ⟨g6, 0, none⟩) (List.length ([(([97, 110, 110] : List UInt8), 0, 0, ([] : List (Int × Int)), ([(([107] : List UInt8), ([115] : List UInt8), 5)] : List ((List UInt8) × (List UInt8) × Int)))] : List Qg)) 9 9 9 9 ([(([97, 110, 110] : List UInt8), 0, 0, (none, 0, ([] : List (Int × Int))), ((some ⟨g5, 0, none⟩), (List.length ([(([107] : List UInt8), ([115] : List UInt8), 5)] : List ((List UInt8) × (List UInt8) × Int))), ([(([107] : List UInt8), ([115] : List UInt8), 5)] : List ((List UInt8) × (List UInt8) × Int))))] : List Va) w3 (Y9 hL (SP.keeps a7)) (F9 (Vs (SP.get a7 (i := 1) rfl)) (R9 (Jw Nv (Jw Nv (Jw Nv (Jw (Rm (RdT.nil (Qj (Qc .u32) (Qc .i64)) w3)) (Rm (Vs (SP.get a7 (i := 0) rfl))))))) By)) none d5) ?_
  rintro e j5 ⟨rfl, d6⟩
  refine ⟨_, rfl, ?_⟩
  have g0 := SP.call a7 d6
  clear d6
  refine iR 1 3 [(1, (.pointer none))] ?_
  refine iF ?_
  refine aQ ?_
  refine aQ ?_
  refine aR ?_
  refine iR 2 2 [(18, (.pointer none)), (19, (.bool true))] ?_
  refine iF ?_
  refine V1 K (o := (.tmp 19)) K (b := true) K (fun d7 => ?_) (fun d7 => ?_)
  rotate_left
  ·cases d7
  refine aQ ?_
  refine aR ?_
  refine iR 1 1 [(0, (.bool false))] ?_
  refine iF ?_
  refine At.ret K ?_
  refine ⟨(.bool false), K, ?_⟩
  obtain rfl := Qe H
  exact ⟨rfl, SP.sel g0 [] rfl rfl⟩
 ·have H := optS H
  refine iS 2 ?_
  refine cF 18 #[(.tmp 16)] #[24] 17 Tryz.call18 (Rj (some ⟨g6, 0, none⟩) (List.length ([(([97, 110, 110] : List UInt8), 0, 0, ([] : List (Int × Int)), ([(([107] : List UInt8), ([115] : List UInt8), 5)] : List ((List UInt8) × (List UInt8) × Int)))] : List Qg)) 9 9 9 9 ([(([97, 110, 110] : List UInt8), 0, 0, (none, 0, ([] : List (Int × Int))), ((some ⟨g5, 0, none⟩), (List.length ([(([107] : List UInt8), ([115] : List UInt8), 5)] : List ((List UInt8) × (List UInt8) × Int))), ([(([107] : List UInt8), ([115] : List UInt8), 5)] : List ((List UInt8) × (List UInt8) × Int))))] : List Va) w3 (Y9 hL (SP.keeps a7)) (F9 (Vs (SP.get a7 (i := 1) rfl)) (R9 (Jw Nv (Jw Nv (Jw Nv (Jw (Rm (RdT.nil (Qj (Qc .u32) (Qc .i64)) w3)) (Rm (Vs (SP.get a7 (i := 0) rfl))))))) By)) (some c) d5) ?_
  rintro e g1 ⟨p, u, rfl, d8⟩
  refine ⟨_, rfl, ?_⟩
  have b2 := SP.call a7 d8
  clear d8
  refine iR 1 3 [(1, (pt p 0))] ?_
  refine iF ?_
  refine aQ ?_
  refine aQ ?_
  refine aR ?_
  refine iR 2 2 [(18, (pt p 0)), (19, (.bool false))] ?_
  refine iF ?_
  refine V1 K (o := (.tmp 19)) K (b := false) K (fun d9 => ?_) (fun d9 => ?_)
  ·cases d9
  refine At.skip K ?_
  refine aQ ?_
  refine aR ?_
  refine iR 1 1 [(20, (pt p 0))] ?_
  obtain ⟨a2, g2, H⟩ := Qb H
  refine iS 2 ?_
  refine cF 33 #[(.tmp 20)] #[29] 21 Tryz.call33 (Dr p (some ⟨g6, 0, none⟩) (List.length ([(([97, 110, 110] : List UInt8), 0, 0, ([] : List (Int × Int)), ([(([107] : List UInt8), ([115] : List UInt8), 5)] : List ((List UInt8) × (List UInt8) × Int)))] : List Qg)) u c.1 c.2.1 c.2.2.1 c.2.2.2.1 ([(([97, 110, 110] : List UInt8), 0, 0, (none, 0, ([] : List (Int × Int))), ((some ⟨g5, 0, none⟩), (List.length ([(([107] : List UInt8), ([115] : List UInt8), 5)] : List ((List UInt8) × (List UInt8) × Int))), ([(([107] : List UInt8), ([115] : List UInt8), 5)] : List ((List UInt8) × (List UInt8) × Int))))] : List Va) c.2.2.2.2 g1 (Yd b2 [2, 3] rfl rfl) (fun w hm => F9 (Vs (SP.still b2 (l := [2, 3]) (i := 1) rfl rfl rfl hm)) (R9 (Jw Nv (Jw Nv (Jw Nv (Jw (Eg (Qj (Qc .u32) (Qc .i64)) dT w) (Rm (Vs (SP.still b2 (l := [2, 3]) (i := 0) rfl rfl rfl hm))))))) By)) a2 g2) ?_
  rintro e e0 ⟨s, rfl, e1⟩
  refine ⟨_, rfl, ?_⟩
  have b3 : SP [] w0 e0 [Yc 48 (Qj Qx (Qj Qx (Qc .i64))) (some ⟨g5, 0, none⟩) (List.length ([(([107] : List UInt8), ([115] : List UInt8), 5)] : List ((List UInt8) × (List UInt8) × Int))) ([(([107] : List UInt8), ([115] : List UInt8), 5)] : List ((List UInt8) × (List UInt8) × Int)), Yc 44 Js (some ⟨g6, 0, none⟩) (List.length ([(([97, 110, 110] : List UInt8), 0, 0, ([] : List (Int × Int)), ([(([107] : List UInt8), ([115] : List UInt8), 5)] : List ((List UInt8) × (List UInt8) × Int)))] : List Qg)) ([(([97, 110, 110] : List UInt8), 0, 0, (none, 0, ([] : List (Int × Int))), ((some ⟨g5, 0, none⟩), (List.length ([(([107] : List UInt8), ([115] : List UInt8), 5)] : List ((List UInt8) × (List UInt8) × Int))), ([(([107] : List UInt8), ([115] : List UInt8), 5)] : List ((List UInt8) × (List UInt8) × Int))))] : List Va), Qn s 95 #[(pt p 0), (Xj a2.1 s), (.string ⟨List.toArray a2.2.1⟩), (.string ⟨List.toArray a2.2.2.1⟩), (.string ⟨List.toArray a2.2.2.2.1⟩), (.bool a2.2.2.2.2)], Qn p 79 #[(.int .i64 c.1), (.int .i64 c.2.1), (.int .i64 c.2.2.1), (.int .i64 c.2.2.2.1), (.slice (some ⟨g6, 0, none⟩) (List.length ([(([97, 110, 110] : List UInt8), 0, 0, ([] : List (Int × Int)), ([(([107] : List UInt8), ([115] : List UInt8), 5)] : List ((List UInt8) × (List UInt8) × Int)))] : List Qg)) (List.length ([(([97, 110, 110] : List UInt8), 0, 0, ([] : List (Int × Int)), ([(([107] : List UInt8), ([115] : List UInt8), 5)] : List ((List UInt8) × (List UInt8) × Int)))] : List Qg))), (.map (some u))], V5 u c.2.2.2.2] := Vv b2 [2, 3] [0, 1] rfl rfl e1 rfl
  clear e1
  refine iR 1 3 [(2, (pt s 0))] ?_
  refine iF ?_
  refine aQ ?_
  refine aR ?_
  refine iR 1 1 [(22, (pt p 0))] ?_
  obtain ⟨q, g3, H⟩ := Qb H
  refine iS 2 ?_
  refine cF 33 #[(.tmp 22)] #[29] 23 Tryz.call33 (Dr p (some ⟨g6, 0, none⟩) (List.length ([(([97, 110, 110] : List UInt8), 0, 0, ([] : List (Int × Int)), ([(([107] : List UInt8), ([115] : List UInt8), 5)] : List ((List UInt8) × (List UInt8) × Int)))] : List Qg)) u c.1 c.2.1 c.2.2.1 c.2.2.2.1 ([(([97, 110, 110] : List UInt8), 0, 0, (none, 0, ([] : List (Int × Int))), ((some ⟨g5, 0, none⟩), (List.length ([(([107] : List UInt8), ([115] : List UInt8), 5)] : List ((List UInt8) × (List UInt8) × Int))), ([(([107] : List UInt8), ([115] : List UInt8), 5)] : List ((List UInt8) × (List UInt8) × Int))))] : List Va) c.2.2.2.2 e0 (Yd b3 [3, 4] rfl rfl) (fun w hm => F9 (Vs (SP.still b3 (l := [3, 4]) (i := 1) rfl rfl rfl hm)) (R9 (Jw Nv (Jw Nv (Jw Nv (Jw (Eg (Qj (Qc .u32) (Qc .i64)) dT w) (Rm (Vs (SP.still b3 (l := [3, 4]) (i := 0) rfl rfl rfl hm))))))) By)) q g3) ?_
  rintro e e2 ⟨a0, rfl, e3⟩
  refine ⟨_, rfl, ?_⟩
  have b4 : SP [] w0 e2 [Yc 48 (Qj Qx (Qj Qx (Qc .i64))) (some ⟨g5, 0, none⟩) (List.length ([(([107] : List UInt8), ([115] : List UInt8), 5)] : List ((List UInt8) × (List UInt8) × Int))) ([(([107] : List UInt8), ([115] : List UInt8), 5)] : List ((List UInt8) × (List UInt8) × Int)), Yc 44 Js (some ⟨g6, 0, none⟩) (List.length ([(([97, 110, 110] : List UInt8), 0, 0, ([] : List (Int × Int)), ([(([107] : List UInt8), ([115] : List UInt8), 5)] : List ((List UInt8) × (List UInt8) × Int)))] : List Qg)) ([(([97, 110, 110] : List UInt8), 0, 0, (none, 0, ([] : List (Int × Int))), ((some ⟨g5, 0, none⟩), (List.length ([(([107] : List UInt8), ([115] : List UInt8), 5)] : List ((List UInt8) × (List UInt8) × Int))), ([(([107] : List UInt8), ([115] : List UInt8), 5)] : List ((List UInt8) × (List UInt8) × Int))))] : List Va), Qn s 95 #[(pt p 0), (Xj a2.1 s), (.string ⟨List.toArray a2.2.1⟩), (.string ⟨List.toArray a2.2.2.1⟩), (.string ⟨List.toArray a2.2.2.2.1⟩), (.bool a2.2.2.2.2)], Qn a0 95 #[(pt p 0), (Xj q.1 a0), (.string ⟨List.toArray q.2.1⟩), (.string ⟨List.toArray q.2.2.1⟩), (.string ⟨List.toArray q.2.2.2.1⟩), (.bool q.2.2.2.2)], Qn p 79 #[(.int .i64 c.1), (.int .i64 c.2.1), (.int .i64 c.2.2.1), (.int .i64 c.2.2.2.1), (.slice (some ⟨g6, 0, none⟩) (List.length ([(([97, 110, 110] : List UInt8), 0, 0, ([] : List (Int × Int)), ([(([107] : List UInt8), ([115] : List UInt8), 5)] : List ((List UInt8) × (List UInt8) × Int)))] : List Qg)) (List.length ([(([97, 110, 110] : List UInt8), 0, 0, ([] : List (Int × Int)), ([(([107] : List UInt8), ([115] : List UInt8), 5)] : List ((List UInt8) × (List UInt8) × Int)))] : List Qg))), (.map (some u))], V5 u c.2.2.2.2] := Vv b3 [3, 4] [0, 1, 2] rfl rfl e3 rfl
  clear e3
  refine iR 1 3 [(3, (pt a0 0))] ?_
  refine iF ?_
  refine aQ ?_
  refine aQ ?_
  refine aR ?_
  refine iR 6 6 [(24, (pt s 0)), (25, (.bool false)), (26, (.bool false)), (27, (pt a0 0)), (28, (.bool false)), (29, (.bool false))] ?_
  refine iF ?_
  refine V1 K (o := (.tmp 29)) K (b := false) K (fun e4 => ?_) (fun e4 => ?_)
  ·cases e4
  refine At.skip K ?_
  refine aQ ?_
  refine aR ?_
  refine iR 2 2 [(31, (pt s 0)), (32, (.agg #[(.int .i64 1), (.string ⟨List.toArray ([97, 110, 110] : List UInt8)⟩), (.string ⟨List.toArray ([107] : List UInt8)⟩), (.int .i64 0), (.int .i64 0)]))] ?_
  obtain ⟨f, g4, H⟩ := Qb H
  refine iS 3 ?_
  refine cF 34 #[(.tmp 31), (.tmp 32), (.const (.int .i64 (1))), (.const (.string ⟨List.toArray ([110] : List UInt8)⟩))] #[60, 63, 2, 9] 33 Tryz.call34 (Y7 s p (some ⟨g6, 0, none⟩) (List.length ([(([97, 110, 110] : List UInt8), 0, 0, ([] : List (Int × Int)), ([(([107] : List UInt8), ([115] : List UInt8), 5)] : List ((List UInt8) × (List UInt8) × Int)))] : List Qg)) u c.1 c.2.1 c.2.2.1 c.2.2.2.1 ([(([97, 110, 110] : List UInt8), 0, 0, (none, 0, ([] : List (Int × Int))), ((some ⟨g5, 0, none⟩), (List.length ([(([107] : List UInt8), ([115] : List UInt8), 5)] : List ((List UInt8) × (List UInt8) × Int))), ([(([107] : List UInt8), ([115] : List UInt8), 5)] : List ((List UInt8) × (List UInt8) × Int))))] : List Va) c.2.2.2.2 a2.1 a2.2.1 a2.2.2.1 a2.2.2.2.1 a2.2.2.2.2 1 ([97, 110, 110] : List UInt8) ([107] : List UInt8) 0 0 1 ([110] : List UInt8) e2 (Yd b4 [4, 5, 2] rfl rfl) (fun w hm => F9 (Vs (SP.still b4 (l := [4, 5, 2]) (i := 1) rfl rfl rfl hm)) (R9 (Jw Nv (Jw Nv (Jw Nv (Jw (Eg (Qj (Qc .u32) (Qc .i64)) dT w) (Rm (Vs (SP.still b4 (l := [4, 5, 2]) (i := 0) rfl rfl rfl hm))))))) By)) f g4) ?_
  rintro e g7 ⟨rfl, e5⟩
  refine ⟨_, rfl, ?_⟩
  have g8 : SP [] w0 g7 [Yc 48 (Qj Qx (Qj Qx (Qc .i64))) (some ⟨g5, 0, none⟩) (List.length ([(([107] : List UInt8), ([115] : List UInt8), 5)] : List ((List UInt8) × (List UInt8) × Int))) ([(([107] : List UInt8), ([115] : List UInt8), 5)] : List ((List UInt8) × (List UInt8) × Int)), Yc 44 Js (some ⟨g6, 0, none⟩) (List.length ([(([97, 110, 110] : List UInt8), 0, 0, ([] : List (Int × Int)), ([(([107] : List UInt8), ([115] : List UInt8), 5)] : List ((List UInt8) × (List UInt8) × Int)))] : List Qg)) ([(([97, 110, 110] : List UInt8), 0, 0, (none, 0, ([] : List (Int × Int))), ((some ⟨g5, 0, none⟩), (List.length ([(([107] : List UInt8), ([115] : List UInt8), 5)] : List ((List UInt8) × (List UInt8) × Int))), ([(([107] : List UInt8), ([115] : List UInt8), 5)] : List ((List UInt8) × (List UInt8) × Int))))] : List Va), Qn a0 95 #[(pt p 0), (Xj q.1 a0), (.string ⟨List.toArray q.2.1⟩), (.string ⟨List.toArray q.2.2.1⟩), (.string ⟨List.toArray q.2.2.2.1⟩), (.bool q.2.2.2.2)], Qn p 79 #[(.int .i64 c.1), (.int .i64 c.2.1), (.int .i64 c.2.2.1), (.int .i64 c.2.2.2.1), (.slice (some ⟨g6, 0, none⟩) (List.length ([(([97, 110, 110] : List UInt8), 0, 0, ([] : List (Int × Int)), ([(([107] : List UInt8), ([115] : List UInt8), 5)] : List ((List UInt8) × (List UInt8) × Int)))] : List Qg)) (List.length ([(([97, 110, 110] : List UInt8), 0, 0, ([] : List (Int × Int)), ([(([107] : List UInt8), ([115] : List UInt8), 5)] : List ((List UInt8) × (List UInt8) × Int)))] : List Qg))), (.map (some u))], V5 u c.2.2.2.2, Qn s 95 #[(pt p 0), (Xj f.2.2.2.2.2.2.1 s), (.string ⟨List.toArray f.2.2.2.2.2.2.2.1⟩), (.string ⟨List.toArray f.2.2.2.2.2.2.2.2.1⟩), (.string ⟨List.toArray f.2.2.2.2.2.2.2.2.2.1⟩), (.bool f.2.2.2.2.2.2.2.2.2.2)]] := Vv b4 [4, 5, 2] [0, 1, 3] rfl rfl e5 rfl
  clear e5
  refine iR 3 6 [(30, (.tuple #[(.agg #[(.int .i64 f.1), (.string ⟨List.toArray f.2.1⟩), (.string ⟨List.toArray f.2.2.1⟩), (.int .i64 f.2.2.2.1), (.int .i64 f.2.2.2.2.1)]), (.bool f.2.2.2.2.2.1)])), (34, (.agg #[(.int .i64 f.1), (.string ⟨List.toArray f.2.1⟩), (.string ⟨List.toArray f.2.2.1⟩), (.int .i64 f.2.2.2.1), (.int .i64 f.2.2.2.2.1)])), (35, (.bool f.2.2.2.2.2.1))] ?_
  refine iS 7 ?_
  refine Qi.alloc (t := 63) (z := (.agg #[(.int .i64 0), (.string ⟨List.toArray ([] : List UInt8)⟩), (.string ⟨List.toArray ([] : List UInt8)⟩), (.int .i64 0), (.int .i64 0)])) (d := (some 4)) (k := 6) K rfl K g8 ?_
  intro a5 j6 g9
  refine iS 8 ?_
  refine Qi.store (t := 63) (x := (.tmp 4)) (y := (.tmp 34)) (g := a5) (off := 0) (i := 6) (v := (.agg #[(.int .i64 f.1), (.string ⟨List.toArray f.2.1⟩), (.string ⟨List.toArray f.2.2.1⟩), (.int .i64 f.2.2.2.1), (.int .i64 f.2.2.2.2.1)])) (cs' := #[(.int .i64 f.1), (.string ⟨List.toArray f.2.1⟩), (.string ⟨List.toArray f.2.2.1⟩), (.int .i64 f.2.2.2.1), (.int .i64 f.2.2.2.2.1)]) (d := none) (k := 7) K rfl K K g9 rfl K ?_
  intro h1 b5
  refine iR 1 9 [(5, (.bool f.2.2.2.2.2.1))] ?_
  refine iF ?_
  refine aQ ?_
  refine aR ?_
  refine iR 2 2 [(37, (pt s 0)), (38, (pt p 0))] ?_
  obtain ⟨c3, h2, H⟩ := Qb H
  refine iS 3 ?_
  refine cF 24 #[(.tmp 38), (.const (.string ⟨List.toArray ([97, 110, 110] : List UInt8)⟩)), (.const (.string ⟨List.toArray ([107] : List UInt8)⟩)), (.const (.string ⟨List.toArray ([110] : List UInt8)⟩))] #[29, 9, 9, 9] 39 Tryz.call24 (R2 p (some ⟨g6, 0, none⟩) (List.length ([(([97, 110, 110] : List UInt8), 0, 0, ([] : List (Int × Int)), ([(([107] : List UInt8), ([115] : List UInt8), 5)] : List ((List UInt8) × (List UInt8) × Int)))] : List Qg)) u c.1 c.2.1 c.2.2.1 c.2.2.2.1 ([(([97, 110, 110] : List UInt8), 0, 0, (none, 0, ([] : List (Int × Int))), ((some ⟨g5, 0, none⟩), (List.length ([(([107] : List UInt8), ([115] : List UInt8), 5)] : List ((List UInt8) × (List UInt8) × Int))), ([(([107] : List UInt8), ([115] : List UInt8), 5)] : List ((List UInt8) × (List UInt8) × Int))))] : List Va) c.2.2.2.2 ([97, 110, 110] : List UInt8) ([107] : List UInt8) ([110] : List UInt8) h1 (Yd b5 [3, 4] rfl rfl) (fun w hm => F9 (Vs (SP.still b5 (l := [3, 4]) (i := 1) rfl rfl rfl hm)) (R9 (Jw Nv (Jw Nv (Jw Nv (Jw (Eg (Qj (Qc .u32) (Qc .i64)) dT w) (Rm (Vs (SP.still b5 (l := [3, 4]) (i := 0) rfl rfl rfl hm))))))) By)) c3 h2) ?_
  rintro e e6 ⟨rfl, e7⟩
  refine ⟨_, rfl, ?_⟩
  have b6 : SP [] w0 e6 [Yc 48 (Qj Qx (Qj Qx (Qc .i64))) (some ⟨g5, 0, none⟩) (List.length ([(([107] : List UInt8), ([115] : List UInt8), 5)] : List ((List UInt8) × (List UInt8) × Int))) ([(([107] : List UInt8), ([115] : List UInt8), 5)] : List ((List UInt8) × (List UInt8) × Int)), Yc 44 Js (some ⟨g6, 0, none⟩) (List.length ([(([97, 110, 110] : List UInt8), 0, 0, ([] : List (Int × Int)), ([(([107] : List UInt8), ([115] : List UInt8), 5)] : List ((List UInt8) × (List UInt8) × Int)))] : List Qg)) ([(([97, 110, 110] : List UInt8), 0, 0, (none, 0, ([] : List (Int × Int))), ((some ⟨g5, 0, none⟩), (List.length ([(([107] : List UInt8), ([115] : List UInt8), 5)] : List ((List UInt8) × (List UInt8) × Int))), ([(([107] : List UInt8), ([115] : List UInt8), 5)] : List ((List UInt8) × (List UInt8) × Int))))] : List Va), Qn a0 95 #[(pt p 0), (Xj q.1 a0), (.string ⟨List.toArray q.2.1⟩), (.string ⟨List.toArray q.2.2.1⟩), (.string ⟨List.toArray q.2.2.2.1⟩), (.bool q.2.2.2.2)], Qn s 95 #[(pt p 0), (Xj f.2.2.2.2.2.2.1 s), (.string ⟨List.toArray f.2.2.2.2.2.2.2.1⟩), (.string ⟨List.toArray f.2.2.2.2.2.2.2.2.1⟩), (.string ⟨List.toArray f.2.2.2.2.2.2.2.2.2.1⟩), (.bool f.2.2.2.2.2.2.2.2.2.2)], Qn a5 63 #[(.int .i64 f.1), (.string ⟨List.toArray f.2.1⟩), (.string ⟨List.toArray f.2.2.1⟩), (.int .i64 f.2.2.2.1), (.int .i64 f.2.2.2.2.1)], Qn p 79 #[(.int .i64 c.1), (.int .i64 c.2.1), (.int .i64 c.2.2.1), (.int .i64 c.2.2.2.1), (.slice (some ⟨g6, 0, none⟩) (List.length ([(([97, 110, 110] : List UInt8), 0, 0, ([] : List (Int × Int)), ([(([107] : List UInt8), ([115] : List UInt8), 5)] : List ((List UInt8) × (List UInt8) × Int)))] : List Qg)) (List.length ([(([97, 110, 110] : List UInt8), 0, 0, ([] : List (Int × Int)), ([(([107] : List UInt8), ([115] : List UInt8), 5)] : List ((List UInt8) × (List UInt8) × Int)))] : List Qg))), (.map (some u))], V5 u c.2.2.2.2] := Vv b5 [3, 4] [0, 1, 2, 5, 6] rfl rfl e7 rfl
  clear e7
  refine iR 1 4 [(40, (.agg #[(.int .i64 3), (.string ⟨List.toArray c3⟩), (.string ⟨List.toArray ([] : List UInt8)⟩), (.int .i64 0), (.int .i64 0)]))] ?_
  obtain ⟨j, h3, H⟩ := Qb H
  refine iS 5 ?_
  refine cF 34 #[(.tmp 37), (.tmp 40), (.const (.int .i64 (2))), (.const (.string ⟨List.toArray ([109] : List UInt8)⟩))] #[60, 63, 2, 9] 41 Tryz.call34 (Y7 s p (some ⟨g6, 0, none⟩) (List.length ([(([97, 110, 110] : List UInt8), 0, 0, ([] : List (Int × Int)), ([(([107] : List UInt8), ([115] : List UInt8), 5)] : List ((List UInt8) × (List UInt8) × Int)))] : List Qg)) u c.1 c.2.1 c.2.2.1 c.2.2.2.1 ([(([97, 110, 110] : List UInt8), 0, 0, (none, 0, ([] : List (Int × Int))), ((some ⟨g5, 0, none⟩), (List.length ([(([107] : List UInt8), ([115] : List UInt8), 5)] : List ((List UInt8) × (List UInt8) × Int))), ([(([107] : List UInt8), ([115] : List UInt8), 5)] : List ((List UInt8) × (List UInt8) × Int))))] : List Va) c.2.2.2.2 f.2.2.2.2.2.2.1 f.2.2.2.2.2.2.2.1 f.2.2.2.2.2.2.2.2.1 f.2.2.2.2.2.2.2.2.2.1 f.2.2.2.2.2.2.2.2.2.2 3 c3 ([] : List UInt8) 0 0 2 ([109] : List UInt8) e6 (Yd b6 [5, 6, 3] rfl rfl) (fun w hm => F9 (Vs (SP.still b6 (l := [5, 6, 3]) (i := 1) rfl rfl rfl hm)) (R9 (Jw Nv (Jw Nv (Jw Nv (Jw (Eg (Qj (Qc .u32) (Qc .i64)) dT w) (Rm (Vs (SP.still b6 (l := [5, 6, 3]) (i := 0) rfl rfl rfl hm))))))) By)) j h3) ?_
  rintro e h4 ⟨rfl, e8⟩
  refine ⟨_, rfl, ?_⟩
  have h5 : SP [] w0 h4 [Yc 48 (Qj Qx (Qj Qx (Qc .i64))) (some ⟨g5, 0, none⟩) (List.length ([(([107] : List UInt8), ([115] : List UInt8), 5)] : List ((List UInt8) × (List UInt8) × Int))) ([(([107] : List UInt8), ([115] : List UInt8), 5)] : List ((List UInt8) × (List UInt8) × Int)), Yc 44 Js (some ⟨g6, 0, none⟩) (List.length ([(([97, 110, 110] : List UInt8), 0, 0, ([] : List (Int × Int)), ([(([107] : List UInt8), ([115] : List UInt8), 5)] : List ((List UInt8) × (List UInt8) × Int)))] : List Qg)) ([(([97, 110, 110] : List UInt8), 0, 0, (none, 0, ([] : List (Int × Int))), ((some ⟨g5, 0, none⟩), (List.length ([(([107] : List UInt8), ([115] : List UInt8), 5)] : List ((List UInt8) × (List UInt8) × Int))), ([(([107] : List UInt8), ([115] : List UInt8), 5)] : List ((List UInt8) × (List UInt8) × Int))))] : List Va), Qn a0 95 #[(pt p 0), (Xj q.1 a0), (.string ⟨List.toArray q.2.1⟩), (.string ⟨List.toArray q.2.2.1⟩), (.string ⟨List.toArray q.2.2.2.1⟩), (.bool q.2.2.2.2)], Qn a5 63 #[(.int .i64 f.1), (.string ⟨List.toArray f.2.1⟩), (.string ⟨List.toArray f.2.2.1⟩), (.int .i64 f.2.2.2.1), (.int .i64 f.2.2.2.2.1)], Qn p 79 #[(.int .i64 c.1), (.int .i64 c.2.1), (.int .i64 c.2.2.1), (.int .i64 c.2.2.2.1), (.slice (some ⟨g6, 0, none⟩) (List.length ([(([97, 110, 110] : List UInt8), 0, 0, ([] : List (Int × Int)), ([(([107] : List UInt8), ([115] : List UInt8), 5)] : List ((List UInt8) × (List UInt8) × Int)))] : List Qg)) (List.length ([(([97, 110, 110] : List UInt8), 0, 0, ([] : List (Int × Int)), ([(([107] : List UInt8), ([115] : List UInt8), 5)] : List ((List UInt8) × (List UInt8) × Int)))] : List Qg))), (.map (some u))], V5 u c.2.2.2.2, Qn s 95 #[(pt p 0), (Xj j.2.2.2.2.2.2.1 s), (.string ⟨List.toArray j.2.2.2.2.2.2.2.1⟩), (.string ⟨List.toArray j.2.2.2.2.2.2.2.2.1⟩), (.string ⟨List.toArray j.2.2.2.2.2.2.2.2.2.1⟩), (.bool j.2.2.2.2.2.2.2.2.2.2)]] := Vv b6 [5, 6, 3] [0, 1, 2, 4] rfl rfl e8 rfl
  clear e8
  refine iR 3 8 [(36, (.tuple #[(.agg #[(.int .i64 j.1), (.string ⟨List.toArray j.2.1⟩), (.string ⟨List.toArray j.2.2.1⟩), (.int .i64 j.2.2.2.1), (.int .i64 j.2.2.2.2.1)]), (.bool j.2.2.2.2.2.1)])), (42, (.agg #[(.int .i64 j.1), (.string ⟨List.toArray j.2.1⟩), (.string ⟨List.toArray j.2.2.1⟩), (.int .i64 j.2.2.2.1), (.int .i64 j.2.2.2.2.1)])), (43, (.bool j.2.2.2.2.2.1))] ?_
  refine iS 9 ?_
  refine Qi.alloc (t := 63) (z := (.agg #[(.int .i64 0), (.string ⟨List.toArray ([] : List UInt8)⟩), (.string ⟨List.toArray ([] : List UInt8)⟩), (.int .i64 0), (.int .i64 0)])) (d := (some 6)) (k := 8) K rfl K h5 ?_
  intro a6 j7 h6
  refine iS 10 ?_
  refine Qi.store (t := 63) (x := (.tmp 6)) (y := (.tmp 42)) (g := a6) (off := 0) (i := 7) (v := (.agg #[(.int .i64 j.1), (.string ⟨List.toArray j.2.1⟩), (.string ⟨List.toArray j.2.2.1⟩), (.int .i64 j.2.2.2.1), (.int .i64 j.2.2.2.2.1)])) (cs' := #[(.int .i64 j.1), (.string ⟨List.toArray j.2.1⟩), (.string ⟨List.toArray j.2.2.1⟩), (.int .i64 j.2.2.2.1), (.int .i64 j.2.2.2.2.1)]) (d := none) (k := 9) K rfl K K h6 rfl K ?_
  intro h7 b7
  refine iR 1 11 [(7, (.bool j.2.2.2.2.2.1))] ?_
  refine iF ?_
  refine aQ ?_
  refine aR ?_
  refine iR 1 1 [(45, (pt s 0))] ?_
  obtain ⟨a1, h8, H⟩ := Qb H
  refine iS 2 ?_
  refine cF 35 #[(.tmp 45)] #[60] 46 Tryz.call35 (Gj s p (some ⟨g6, 0, none⟩) (List.length ([(([97, 110, 110] : List UInt8), 0, 0, ([] : List (Int × Int)), ([(([107] : List UInt8), ([115] : List UInt8), 5)] : List ((List UInt8) × (List UInt8) × Int)))] : List Qg)) u c.1 c.2.1 c.2.2.1 c.2.2.2.1 ([(([97, 110, 110] : List UInt8), 0, 0, (none, 0, ([] : List (Int × Int))), ((some ⟨g5, 0, none⟩), (List.length ([(([107] : List UInt8), ([115] : List UInt8), 5)] : List ((List UInt8) × (List UInt8) × Int))), ([(([107] : List UInt8), ([115] : List UInt8), 5)] : List ((List UInt8) × (List UInt8) × Int))))] : List Va) c.2.2.2.2 j.2.2.2.2.2.2.1 j.2.2.2.2.2.2.2.1 j.2.2.2.2.2.2.2.2.1 j.2.2.2.2.2.2.2.2.2.1 j.2.2.2.2.2.2.2.2.2.2 h7 (Yd b7 [4, 5, 6] rfl rfl) (fun w hm => F9 (Vs (SP.still b7 (l := [4, 5, 6]) (i := 1) rfl rfl rfl hm)) (R9 (Jw Nv (Jw Nv (Jw Nv (Jw (Eg (Qj (Qc .u32) (Qc .i64)) dT w) (Rm (Vs (SP.still b7 (l := [4, 5, 6]) (i := 0) rfl rfl rfl hm))))))) By)) a1 h8) ?_
  rintro e e9 ⟨rfl, f0⟩
  refine ⟨_, rfl, ?_⟩
  have b8 : SP [] w0 e9 [Yc 48 (Qj Qx (Qj Qx (Qc .i64))) (some ⟨g5, 0, none⟩) (List.length ([(([107] : List UInt8), ([115] : List UInt8), 5)] : List ((List UInt8) × (List UInt8) × Int))) ([(([107] : List UInt8), ([115] : List UInt8), 5)] : List ((List UInt8) × (List UInt8) × Int)), Yc 44 Js (some ⟨g6, 0, none⟩) (List.length ([(([97, 110, 110] : List UInt8), 0, 0, ([] : List (Int × Int)), ([(([107] : List UInt8), ([115] : List UInt8), 5)] : List ((List UInt8) × (List UInt8) × Int)))] : List Qg)) ([(([97, 110, 110] : List UInt8), 0, 0, (none, 0, ([] : List (Int × Int))), ((some ⟨g5, 0, none⟩), (List.length ([(([107] : List UInt8), ([115] : List UInt8), 5)] : List ((List UInt8) × (List UInt8) × Int))), ([(([107] : List UInt8), ([115] : List UInt8), 5)] : List ((List UInt8) × (List UInt8) × Int))))] : List Va), Qn a0 95 #[(pt p 0), (Xj q.1 a0), (.string ⟨List.toArray q.2.1⟩), (.string ⟨List.toArray q.2.2.1⟩), (.string ⟨List.toArray q.2.2.2.1⟩), (.bool q.2.2.2.2)], Qn a5 63 #[(.int .i64 f.1), (.string ⟨List.toArray f.2.1⟩), (.string ⟨List.toArray f.2.2.1⟩), (.int .i64 f.2.2.2.1), (.int .i64 f.2.2.2.2.1)], Qn a6 63 #[(.int .i64 j.1), (.string ⟨List.toArray j.2.1⟩), (.string ⟨List.toArray j.2.2.1⟩), (.int .i64 j.2.2.2.1), (.int .i64 j.2.2.2.2.1)], Qn p 79 #[(.int .i64 c.1), (.int .i64 c.2.1), (.int .i64 c.2.2.1), (.int .i64 c.2.2.2.1), (.slice (some ⟨g6, 0, none⟩) (List.length ([(([97, 110, 110] : List UInt8), 0, 0, ([] : List (Int × Int)), ([(([107] : List UInt8), ([115] : List UInt8), 5)] : List ((List UInt8) × (List UInt8) × Int)))] : List Qg)) (List.length ([(([97, 110, 110] : List UInt8), 0, 0, ([] : List (Int × Int)), ([(([107] : List UInt8), ([115] : List UInt8), 5)] : List ((List UInt8) × (List UInt8) × Int)))] : List Qg))), (.map (some u))], V5 u c.2.2.2.2, Qn s 95 #[(pt p 0), (Xj j.2.2.2.2.2.2.1 s), (.string ⟨List.toArray j.2.2.2.2.2.2.2.1⟩), (.string ⟨List.toArray j.2.2.2.2.2.2.2.2.1⟩), (.string ⟨List.toArray j.2.2.2.2.2.2.2.2.2.1⟩), (.bool j.2.2.2.2.2.2.2.2.2.2)]] := Vv b7 [4, 5, 6] [0, 1, 2, 3, 7] rfl rfl f0 rfl
  clear f0
  refine iR 5 7 [(44, (.tuple #[(.string ⟨List.toArray a1.1⟩), (.bool a1.2)])), (47, (.string ⟨List.toArray a1.1⟩)), (48, (.bool a1.2)), (8, (.string ⟨List.toArray a1.1⟩)), (9, (.bool a1.2))] ?_
  refine iF ?_
  refine aQ ?_
  refine aR ?_
  refine iR 2 2 [(50, (pt s 0)), (51, (.agg #[(.int .i64 13), (.string ⟨List.toArray ([] : List UInt8)⟩), (.string ⟨List.toArray ([] : List UInt8)⟩), (.int .i64 0), (.int .i64 0)]))] ?_
  obtain ⟨m, h9, H⟩ := Qb H
  refine iS 3 ?_
  refine cF 34 #[(.tmp 50), (.tmp 51), (.const (.int .i64 (3))), (.const (.string ⟨List.toArray ([] : List UInt8)⟩))] #[60, 63, 2, 9] 52 Tryz.call34 (Y7 s p (some ⟨g6, 0, none⟩) (List.length ([(([97, 110, 110] : List UInt8), 0, 0, ([] : List (Int × Int)), ([(([107] : List UInt8), ([115] : List UInt8), 5)] : List ((List UInt8) × (List UInt8) × Int)))] : List Qg)) u c.1 c.2.1 c.2.2.1 c.2.2.2.1 ([(([97, 110, 110] : List UInt8), 0, 0, (none, 0, ([] : List (Int × Int))), ((some ⟨g5, 0, none⟩), (List.length ([(([107] : List UInt8), ([115] : List UInt8), 5)] : List ((List UInt8) × (List UInt8) × Int))), ([(([107] : List UInt8), ([115] : List UInt8), 5)] : List ((List UInt8) × (List UInt8) × Int))))] : List Va) c.2.2.2.2 j.2.2.2.2.2.2.1 j.2.2.2.2.2.2.2.1 j.2.2.2.2.2.2.2.2.1 j.2.2.2.2.2.2.2.2.2.1 j.2.2.2.2.2.2.2.2.2.2 13 ([] : List UInt8) ([] : List UInt8) 0 0 3 ([] : List UInt8) e9 (Yd b8 [5, 6, 7] rfl rfl) (fun w hm => F9 (Vs (SP.still b8 (l := [5, 6, 7]) (i := 1) rfl rfl rfl hm)) (R9 (Jw Nv (Jw Nv (Jw Nv (Jw (Eg (Qj (Qc .u32) (Qc .i64)) dT w) (Rm (Vs (SP.still b8 (l := [5, 6, 7]) (i := 0) rfl rfl rfl hm))))))) By)) m h9) ?_
  rintro e i0 ⟨rfl, f1⟩
  refine ⟨_, rfl, ?_⟩
  have i1 : SP [] w0 i0 [Yc 48 (Qj Qx (Qj Qx (Qc .i64))) (some ⟨g5, 0, none⟩) (List.length ([(([107] : List UInt8), ([115] : List UInt8), 5)] : List ((List UInt8) × (List UInt8) × Int))) ([(([107] : List UInt8), ([115] : List UInt8), 5)] : List ((List UInt8) × (List UInt8) × Int)), Yc 44 Js (some ⟨g6, 0, none⟩) (List.length ([(([97, 110, 110] : List UInt8), 0, 0, ([] : List (Int × Int)), ([(([107] : List UInt8), ([115] : List UInt8), 5)] : List ((List UInt8) × (List UInt8) × Int)))] : List Qg)) ([(([97, 110, 110] : List UInt8), 0, 0, (none, 0, ([] : List (Int × Int))), ((some ⟨g5, 0, none⟩), (List.length ([(([107] : List UInt8), ([115] : List UInt8), 5)] : List ((List UInt8) × (List UInt8) × Int))), ([(([107] : List UInt8), ([115] : List UInt8), 5)] : List ((List UInt8) × (List UInt8) × Int))))] : List Va), Qn a0 95 #[(pt p 0), (Xj q.1 a0), (.string ⟨List.toArray q.2.1⟩), (.string ⟨List.toArray q.2.2.1⟩), (.string ⟨List.toArray q.2.2.2.1⟩), (.bool q.2.2.2.2)], Qn a5 63 #[(.int .i64 f.1), (.string ⟨List.toArray f.2.1⟩), (.string ⟨List.toArray f.2.2.1⟩), (.int .i64 f.2.2.2.1), (.int .i64 f.2.2.2.2.1)], Qn a6 63 #[(.int .i64 j.1), (.string ⟨List.toArray j.2.1⟩), (.string ⟨List.toArray j.2.2.1⟩), (.int .i64 j.2.2.2.1), (.int .i64 j.2.2.2.2.1)], Qn p 79 #[(.int .i64 c.1), (.int .i64 c.2.1), (.int .i64 c.2.2.1), (.int .i64 c.2.2.2.1), (.slice (some ⟨g6, 0, none⟩) (List.length ([(([97, 110, 110] : List UInt8), 0, 0, ([] : List (Int × Int)), ([(([107] : List UInt8), ([115] : List UInt8), 5)] : List ((List UInt8) × (List UInt8) × Int)))] : List Qg)) (List.length ([(([97, 110, 110] : List UInt8), 0, 0, ([] : List (Int × Int)), ([(([107] : List UInt8), ([115] : List UInt8), 5)] : List ((List UInt8) × (List UInt8) × Int)))] : List Qg))), (.map (some u))], V5 u c.2.2.2.2, Qn s 95 #[(pt p 0), (Xj m.2.2.2.2.2.2.1 s), (.string ⟨List.toArray m.2.2.2.2.2.2.2.1⟩), (.string ⟨List.toArray m.2.2.2.2.2.2.2.2.1⟩), (.string ⟨List.toArray m.2.2.2.2.2.2.2.2.2.1⟩), (.bool m.2.2.2.2.2.2.2.2.2.2)]] := Vv b8 [5, 6, 7] [0, 1, 2, 3, 4] rfl rfl f1 rfl
  clear f1
  refine iR 3 6 [(49, (.tuple #[(.agg #[(.int .i64 m.1), (.string ⟨List.toArray m.2.1⟩), (.string ⟨List.toArray m.2.2.1⟩), (.int .i64 m.2.2.2.1), (.int .i64 m.2.2.2.2.1)]), (.bool m.2.2.2.2.2.1)])), (53, (.agg #[(.int .i64 m.1), (.string ⟨List.toArray m.2.1⟩), (.string ⟨List.toArray m.2.2.1⟩), (.int .i64 m.2.2.2.1), (.int .i64 m.2.2.2.2.1)])), (54, (.bool m.2.2.2.2.2.1))] ?_
  refine iS 7 ?_
  refine Qi.alloc (t := 63) (z := (.agg #[(.int .i64 0), (.string ⟨List.toArray ([] : List UInt8)⟩), (.string ⟨List.toArray ([] : List UInt8)⟩), (.int .i64 0), (.int .i64 0)])) (d := (some 10)) (k := 6) K rfl K i1 ?_
  intro a9 j8 i2
  refine iS 8 ?_
  refine Qi.store (t := 63) (x := (.tmp 10)) (y := (.tmp 53)) (g := a9) (off := 0) (i := 8) (v := (.agg #[(.int .i64 m.1), (.string ⟨List.toArray m.2.1⟩), (.string ⟨List.toArray m.2.2.1⟩), (.int .i64 m.2.2.2.1), (.int .i64 m.2.2.2.2.1)])) (cs' := #[(.int .i64 m.1), (.string ⟨List.toArray m.2.1⟩), (.string ⟨List.toArray m.2.2.1⟩), (.int .i64 m.2.2.2.1), (.int .i64 m.2.2.2.2.1)]) (d := none) (k := 7) K rfl K K i2 rfl K ?_
  intro i3 b9
  refine iR 1 9 [(11, (.bool m.2.2.2.2.2.1))] ?_
  refine iF ?_
  refine aQ ?_
  refine aR ?_
  refine iR 2 2 [(56, (pt a0 0)), (57, (.agg #[(.int .i64 3), (.string ⟨List.toArray ([] : List UInt8)⟩), (.string ⟨List.toArray ([] : List UInt8)⟩), (.int .i64 0), (.int .i64 0)]))] ?_
  obtain ⟨h, i4, H⟩ := Qb H
  refine iS 3 ?_
  refine cF 34 #[(.tmp 56), (.tmp 57), (.const (.int .i64 (1))), (.const (.string ⟨List.toArray ([110] : List UInt8)⟩))] #[60, 63, 2, 9] 58 Tryz.call34 (Y7 a0 p (some ⟨g6, 0, none⟩) (List.length ([(([97, 110, 110] : List UInt8), 0, 0, ([] : List (Int × Int)), ([(([107] : List UInt8), ([115] : List UInt8), 5)] : List ((List UInt8) × (List UInt8) × Int)))] : List Qg)) u c.1 c.2.1 c.2.2.1 c.2.2.2.1 ([(([97, 110, 110] : List UInt8), 0, 0, (none, 0, ([] : List (Int × Int))), ((some ⟨g5, 0, none⟩), (List.length ([(([107] : List UInt8), ([115] : List UInt8), 5)] : List ((List UInt8) × (List UInt8) × Int))), ([(([107] : List UInt8), ([115] : List UInt8), 5)] : List ((List UInt8) × (List UInt8) × Int))))] : List Va) c.2.2.2.2 q.1 q.2.1 q.2.2.1 q.2.2.2.1 q.2.2.2.2 3 ([] : List UInt8) ([] : List UInt8) 0 0 1 ([110] : List UInt8) i3 (Yd b9 [5, 6, 2] rfl rfl) (fun w hm => F9 (Vs (SP.still b9 (l := [5, 6, 2]) (i := 1) rfl rfl rfl hm)) (R9 (Jw Nv (Jw Nv (Jw Nv (Jw (Eg (Qj (Qc .u32) (Qc .i64)) dT w) (Rm (Vs (SP.still b9 (l := [5, 6, 2]) (i := 0) rfl rfl rfl hm))))))) By)) h i4) ?_
  rintro e i5 ⟨rfl, f2⟩
  refine ⟨_, rfl, ?_⟩
  have i6 : SP [] w0 i5 [Yc 48 (Qj Qx (Qj Qx (Qc .i64))) (some ⟨g5, 0, none⟩) (List.length ([(([107] : List UInt8), ([115] : List UInt8), 5)] : List ((List UInt8) × (List UInt8) × Int))) ([(([107] : List UInt8), ([115] : List UInt8), 5)] : List ((List UInt8) × (List UInt8) × Int)), Yc 44 Js (some ⟨g6, 0, none⟩) (List.length ([(([97, 110, 110] : List UInt8), 0, 0, ([] : List (Int × Int)), ([(([107] : List UInt8), ([115] : List UInt8), 5)] : List ((List UInt8) × (List UInt8) × Int)))] : List Qg)) ([(([97, 110, 110] : List UInt8), 0, 0, (none, 0, ([] : List (Int × Int))), ((some ⟨g5, 0, none⟩), (List.length ([(([107] : List UInt8), ([115] : List UInt8), 5)] : List ((List UInt8) × (List UInt8) × Int))), ([(([107] : List UInt8), ([115] : List UInt8), 5)] : List ((List UInt8) × (List UInt8) × Int))))] : List Va), Qn a5 63 #[(.int .i64 f.1), (.string ⟨List.toArray f.2.1⟩), (.string ⟨List.toArray f.2.2.1⟩), (.int .i64 f.2.2.2.1), (.int .i64 f.2.2.2.2.1)], Qn a6 63 #[(.int .i64 j.1), (.string ⟨List.toArray j.2.1⟩), (.string ⟨List.toArray j.2.2.1⟩), (.int .i64 j.2.2.2.1), (.int .i64 j.2.2.2.2.1)], Qn s 95 #[(pt p 0), (Xj m.2.2.2.2.2.2.1 s), (.string ⟨List.toArray m.2.2.2.2.2.2.2.1⟩), (.string ⟨List.toArray m.2.2.2.2.2.2.2.2.1⟩), (.string ⟨List.toArray m.2.2.2.2.2.2.2.2.2.1⟩), (.bool m.2.2.2.2.2.2.2.2.2.2)], Qn a9 63 #[(.int .i64 m.1), (.string ⟨List.toArray m.2.1⟩), (.string ⟨List.toArray m.2.2.1⟩), (.int .i64 m.2.2.2.1), (.int .i64 m.2.2.2.2.1)], Qn p 79 #[(.int .i64 c.1), (.int .i64 c.2.1), (.int .i64 c.2.2.1), (.int .i64 c.2.2.2.1), (.slice (some ⟨g6, 0, none⟩) (List.length ([(([97, 110, 110] : List UInt8), 0, 0, ([] : List (Int × Int)), ([(([107] : List UInt8), ([115] : List UInt8), 5)] : List ((List UInt8) × (List UInt8) × Int)))] : List Qg)) (List.length ([(([97, 110, 110] : List UInt8), 0, 0, ([] : List (Int × Int)), ([(([107] : List UInt8), ([115] : List UInt8), 5)] : List ((List UInt8) × (List UInt8) × Int)))] : List Qg))), (.map (some u))], V5 u c.2.2.2.2, Qn a0 95 #[(pt p 0), (Xj h.2.2.2.2.2.2.1 a0), (.string ⟨List.toArray h.2.2.2.2.2.2.2.1⟩), (.string ⟨List.toArray h.2.2.2.2.2.2.2.2.1⟩), (.string ⟨List.toArray h.2.2.2.2.2.2.2.2.2.1⟩), (.bool h.2.2.2.2.2.2.2.2.2.2)]] := Vv b9 [5, 6, 2] [0, 1, 3, 4, 7, 8] rfl rfl f2 rfl
  clear f2
  refine iR 3 6 [(55, (.tuple #[(.agg #[(.int .i64 h.1), (.string ⟨List.toArray h.2.1⟩), (.string ⟨List.toArray h.2.2.1⟩), (.int .i64 h.2.2.2.1), (.int .i64 h.2.2.2.2.1)]), (.bool h.2.2.2.2.2.1)])), (59, (.agg #[(.int .i64 h.1), (.string ⟨List.toArray h.2.1⟩), (.string ⟨List.toArray h.2.2.1⟩), (.int .i64 h.2.2.2.1), (.int .i64 h.2.2.2.2.1)])), (60, (.bool h.2.2.2.2.2.1))] ?_
  refine iS 7 ?_
  refine Qi.alloc (t := 63) (z := (.agg #[(.int .i64 0), (.string ⟨List.toArray ([] : List UInt8)⟩), (.string ⟨List.toArray ([] : List UInt8)⟩), (.int .i64 0), (.int .i64 0)])) (d := (some 12)) (k := 6) K rfl K i6 ?_
  intro b0 j9 i7
  refine iS 8 ?_
  refine Qi.store (t := 63) (x := (.tmp 12)) (y := (.tmp 59)) (g := b0) (off := 0) (i := 9) (v := (.agg #[(.int .i64 h.1), (.string ⟨List.toArray h.2.1⟩), (.string ⟨List.toArray h.2.2.1⟩), (.int .i64 h.2.2.2.1), (.int .i64 h.2.2.2.2.1)])) (cs' := #[(.int .i64 h.1), (.string ⟨List.toArray h.2.1⟩), (.string ⟨List.toArray h.2.2.1⟩), (.int .i64 h.2.2.2.1), (.int .i64 h.2.2.2.2.1)]) (d := none) (k := 7) K rfl K K i7 rfl K ?_
  intro i8 c0
  refine iR 1 9 [(13, (.bool h.2.2.2.2.2.1))] ?_
  refine iF ?_
  refine aQ ?_
  refine aR ?_
  refine iR 1 1 [(62, (pt a0 0))] ?_
  obtain ⟨a4, i9, H⟩ := Qb H
  refine iS 2 ?_
  refine cF 35 #[(.tmp 62)] #[60] 63 Tryz.call35 (Gj a0 p (some ⟨g6, 0, none⟩) (List.length ([(([97, 110, 110] : List UInt8), 0, 0, ([] : List (Int × Int)), ([(([107] : List UInt8), ([115] : List UInt8), 5)] : List ((List UInt8) × (List UInt8) × Int)))] : List Qg)) u c.1 c.2.1 c.2.2.1 c.2.2.2.1 ([(([97, 110, 110] : List UInt8), 0, 0, (none, 0, ([] : List (Int × Int))), ((some ⟨g5, 0, none⟩), (List.length ([(([107] : List UInt8), ([115] : List UInt8), 5)] : List ((List UInt8) × (List UInt8) × Int))), ([(([107] : List UInt8), ([115] : List UInt8), 5)] : List ((List UInt8) × (List UInt8) × Int))))] : List Va) c.2.2.2.2 h.2.2.2.2.2.2.1 h.2.2.2.2.2.2.2.1 h.2.2.2.2.2.2.2.2.1 h.2.2.2.2.2.2.2.2.2.1 h.2.2.2.2.2.2.2.2.2.2 i8 (Yd c0 [6, 7, 8] rfl rfl) (fun w hm => F9 (Vs (SP.still c0 (l := [6, 7, 8]) (i := 1) rfl rfl rfl hm)) (R9 (Jw Nv (Jw Nv (Jw Nv (Jw (Eg (Qj (Qc .u32) (Qc .i64)) dT w) (Rm (Vs (SP.still c0 (l := [6, 7, 8]) (i := 0) rfl rfl rfl hm))))))) By)) a4 i9) ?_
  rintro e f3 ⟨rfl, f4⟩
  refine ⟨_, rfl, ?_⟩
  have a3 : SP [] w0 f3 [Yc 48 (Qj Qx (Qj Qx (Qc .i64))) (some ⟨g5, 0, none⟩) (List.length ([(([107] : List UInt8), ([115] : List UInt8), 5)] : List ((List UInt8) × (List UInt8) × Int))) ([(([107] : List UInt8), ([115] : List UInt8), 5)] : List ((List UInt8) × (List UInt8) × Int)), Yc 44 Js (some ⟨g6, 0, none⟩) (List.length ([(([97, 110, 110] : List UInt8), 0, 0, ([] : List (Int × Int)), ([(([107] : List UInt8), ([115] : List UInt8), 5)] : List ((List UInt8) × (List UInt8) × Int)))] : List Qg)) ([(([97, 110, 110] : List UInt8), 0, 0, (none, 0, ([] : List (Int × Int))), ((some ⟨g5, 0, none⟩), (List.length ([(([107] : List UInt8), ([115] : List UInt8), 5)] : List ((List UInt8) × (List UInt8) × Int))), ([(([107] : List UInt8), ([115] : List UInt8), 5)] : List ((List UInt8) × (List UInt8) × Int))))] : List Va), Qn a5 63 #[(.int .i64 f.1), (.string ⟨List.toArray f.2.1⟩), (.string ⟨List.toArray f.2.2.1⟩), (.int .i64 f.2.2.2.1), (.int .i64 f.2.2.2.2.1)], Qn a6 63 #[(.int .i64 j.1), (.string ⟨List.toArray j.2.1⟩), (.string ⟨List.toArray j.2.2.1⟩), (.int .i64 j.2.2.2.1), (.int .i64 j.2.2.2.2.1)], Qn s 95 #[(pt p 0), (Xj m.2.2.2.2.2.2.1 s), (.string ⟨List.toArray m.2.2.2.2.2.2.2.1⟩), (.string ⟨List.toArray m.2.2.2.2.2.2.2.2.1⟩), (.string ⟨List.toArray m.2.2.2.2.2.2.2.2.2.1⟩), (.bool m.2.2.2.2.2.2.2.2.2.2)], Qn a9 63 #[(.int .i64 m.1), (.string ⟨List.toArray m.2.1⟩), (.string ⟨List.toArray m.2.2.1⟩), (.int .i64 m.2.2.2.1), (.int .i64 m.2.2.2.2.1)], Qn b0 63 #[(.int .i64 h.1), (.string ⟨List.toArray h.2.1⟩), (.string ⟨List.toArray h.2.2.1⟩), (.int .i64 h.2.2.2.1), (.int .i64 h.2.2.2.2.1)], Qn p 79 #[(.int .i64 c.1), (.int .i64 c.2.1), (.int .i64 c.2.2.1), (.int .i64 c.2.2.2.1), (.slice (some ⟨g6, 0, none⟩) (List.length ([(([97, 110, 110] : List UInt8), 0, 0, ([] : List (Int × Int)), ([(([107] : List UInt8), ([115] : List UInt8), 5)] : List ((List UInt8) × (List UInt8) × Int)))] : List Qg)) (List.length ([(([97, 110, 110] : List UInt8), 0, 0, ([] : List (Int × Int)), ([(([107] : List UInt8), ([115] : List UInt8), 5)] : List ((List UInt8) × (List UInt8) × Int)))] : List Qg))), (.map (some u))], V5 u c.2.2.2.2, Qn a0 95 #[(pt p 0), (Xj h.2.2.2.2.2.2.1 a0), (.string ⟨List.toArray h.2.2.2.2.2.2.2.1⟩), (.string ⟨List.toArray h.2.2.2.2.2.2.2.2.1⟩), (.string ⟨List.toArray h.2.2.2.2.2.2.2.2.2.1⟩), (.bool h.2.2.2.2.2.2.2.2.2.2)]] := Vv c0 [6, 7, 8] [0, 1, 2, 3, 4, 5, 9] rfl rfl f4 rfl
  clear f4
  refine iR 5 7 [(61, (.tuple #[(.string ⟨List.toArray a4.1⟩), (.bool a4.2)])), (64, (.string ⟨List.toArray a4.1⟩)), (65, (.bool a4.2)), (14, (.string ⟨List.toArray a4.1⟩)), (15, (.bool a4.2))] ?_
  refine iF ?_
  refine aQ ?_
  refine At.join (fun ρ w => ∃ (a8 : Bool), V6 ρ [(0, (.bool a8))] ∧ SP [] w0 w [] ∧ Vj a8 = some r) ?_ ?_
  ·refine aR ?_
   refine iS 1 ?_
   refine sL 63 4 a5 0 2 (.agg #[(.int .i64 f.1), (.string ⟨List.toArray f.2.1⟩), (.string ⟨List.toArray f.2.2.1⟩), (.int .i64 f.2.2.2.1), (.int .i64 f.2.2.2.2.1)]) 66 a3 rfl ?_
   refine iR 1 2 [(67, (.agg #[(.int .i64 2), (.string ⟨List.toArray ([110] : List UInt8)⟩), (.string ⟨List.toArray ([] : List UInt8)⟩), (.int .i64 0), (.int .i64 0)]))] ?_
   refine iS 3 ?_
   refine Fm (op := .eql) (T := 63) (T' := 63) (x := (.tmp 66)) (y := (.tmp 67)) (vx := (.agg #[(.int .i64 f.1), (.string ⟨List.toArray f.2.1⟩), (.string ⟨List.toArray f.2.2.1⟩), (.int .i64 f.2.2.2.1), (.int .i64 f.2.2.2.2.1)])) (vy := (.agg #[(.int .i64 2), (.string ⟨List.toArray ([110] : List UInt8)⟩), (.string ⟨List.toArray ([] : List UInt8)⟩), (.int .i64 0), (.int .i64 0)])) (v := (.bool ((f.1 == 2) && ((f.2.1 == ([110] : List UInt8)) && ((f.2.2.1 == ([] : List UInt8)) && ((f.2.2.2.1 == 0) && (f.2.2.2.2.1 == 0))))))) (d := (some 68)) (k := 2) K rfl K K (by clear H; intro w; simp only [F6]; go_simp; simp only [F5, E4, H8, F6, Bool.and_true] <;> simp only [Bool.not_and]) ?_
   refine iR 1 4 [(69, (.bool ((f.1 == 2) && ((f.2.1 == ([110] : List UInt8)) && ((f.2.2.1 == ([] : List UInt8)) && ((f.2.2.2.1 == 0) && (f.2.2.2.2.1 == 0)))))))] ?_
   refine In.guard (t := 69) (b := ((f.1 == 2) && ((f.2.1 == ([110] : List UInt8)) && ((f.2.2.1 == ([] : List UInt8)) && ((f.2.2.2.1 == 0) && (f.2.2.2.2.1 == 0)))))) K (fun c4 => ?_) (fun c4 => ?_)
   ·have H := ct H c4
    refine iR 3 7 [(70, (.bool f.2.2.2.2.2.1)), (71, (.bool f.2.2.2.2.2.1)), (72, (.bool f.2.2.2.2.2.1))] ?_
    refine In.guard (t := 72) (b := f.2.2.2.2.2.1) K (fun c5 => ?_) (fun c5 => ?_)
    ·have H := ct H c5
     refine iR 1 8 [(73, (pt a6 0))] ?_
     refine iS 9 ?_
     refine sL 3 73 a6 0 3 (.int .i64 j.1) 74 a3 rfl ?_
     refine iR 3 12 [(75, (.bool (j.1 == 4))), (76, (.bool (j.1 == 4))), (77, (.bool (j.1 == 4)))] ?_
     refine In.guard (t := 77) (b := (j.1 == 4)) K (fun c6 => ?_) (fun c6 => ?_)
     ·have H := ct H c6
      refine iR 3 15 [(78, (.bool j.2.2.2.2.2.1)), (79, (.bool j.2.2.2.2.2.1)), (80, (.bool j.2.2.2.2.2.1))] ?_
      refine In.guard (t := 80) (b := j.2.2.2.2.2.1) K (fun c7 => ?_) (fun c7 => ?_)
      ·have H := ct H c7
       refine iR 1 16 [(81, (.string ⟨List.toArray a1.1⟩))] ?_
       refine iS 17 ?_
       refine V0 (op := .eql) (T := 9) (T' := 9) (x := (.tmp 81)) (y := (.const (.string ⟨List.toArray ([97, 110, 110] : List UInt8)⟩))) (a := a1.1) (b := ([97, 110, 110] : List UInt8)) (r := (.bool (a1.1 == ([97, 110, 110] : List UInt8)))) (d := (some 82)) (k := 16) K rfl K K rfl ?_
       refine iR 2 19 [(83, (.bool (a1.1 == ([97, 110, 110] : List UInt8)))), (84, (.bool (a1.1 == ([97, 110, 110] : List UInt8))))] ?_
       refine In.guard (t := 84) (b := (a1.1 == ([97, 110, 110] : List UInt8))) K (fun c8 => ?_) (fun c8 => ?_)
       ·have H := ct H c8
        refine iR 3 22 [(85, (.bool a1.2)), (86, (.bool a1.2)), (87, (.bool a1.2))] ?_
        refine In.guard (t := 87) (b := a1.2) K (fun c9 => ?_) (fun c9 => ?_)
        ·have H := ct H c9
         refine iR 4 26 [(88, (.bool m.2.2.2.2.2.1)), (89, (.bool (!m.2.2.2.2.2.1))), (90, (.bool (!m.2.2.2.2.2.1))), (91, (.bool (!m.2.2.2.2.2.1)))] ?_
         refine In.guard (t := 91) (b := (!m.2.2.2.2.2.1)) K (fun d0 => ?_) (fun d0 => ?_)
         ·have H := ct H d0
          refine iS 27 ?_
          refine sL 63 12 b0 0 6 (.agg #[(.int .i64 h.1), (.string ⟨List.toArray h.2.1⟩), (.string ⟨List.toArray h.2.2.1⟩), (.int .i64 h.2.2.2.1), (.int .i64 h.2.2.2.2.1)]) 92 a3 rfl ?_
          refine iR 1 28 [(93, (.agg #[(.int .i64 5), (.string ⟨List.toArray ([] : List UInt8)⟩), (.string ⟨List.toArray ([] : List UInt8)⟩), (.int .i64 1), (.int .i64 0)]))] ?_
          refine iS 29 ?_
          refine Fm (op := .eql) (T := 63) (T' := 63) (x := (.tmp 92)) (y := (.tmp 93)) (vx := (.agg #[(.int .i64 h.1), (.string ⟨List.toArray h.2.1⟩), (.string ⟨List.toArray h.2.2.1⟩), (.int .i64 h.2.2.2.1), (.int .i64 h.2.2.2.2.1)])) (vy := (.agg #[(.int .i64 5), (.string ⟨List.toArray ([] : List UInt8)⟩), (.string ⟨List.toArray ([] : List UInt8)⟩), (.int .i64 1), (.int .i64 0)])) (v := (.bool ((h.1 == 5) && ((h.2.1 == ([] : List UInt8)) && ((h.2.2.1 == ([] : List UInt8)) && ((h.2.2.2.1 == 1) && (h.2.2.2.2.1 == 0))))))) (d := (some 94)) (k := 28) K rfl K K (by clear H; intro w; simp only [F6]; go_simp; simp only [F5, E4, H8, F6, Bool.and_true] <;> simp only [Bool.not_and]) ?_
          refine iR 2 31 [(95, (.bool ((h.1 == 5) && ((h.2.1 == ([] : List UInt8)) && ((h.2.2.1 == ([] : List UInt8)) && ((h.2.2.2.1 == 1) && (h.2.2.2.2.1 == 0))))))), (96, (.bool ((h.1 == 5) && ((h.2.1 == ([] : List UInt8)) && ((h.2.2.1 == ([] : List UInt8)) && ((h.2.2.2.1 == 1) && (h.2.2.2.2.1 == 0)))))))] ?_
          refine In.guard (t := 96) (b := ((h.1 == 5) && ((h.2.1 == ([] : List UInt8)) && ((h.2.2.1 == ([] : List UInt8)) && ((h.2.2.2.1 == 1) && (h.2.2.2.2.1 == 0)))))) K (fun d1 => ?_) (fun d1 => ?_)
          ·have H := ct H d1
           refine iR 4 35 [(97, (.bool a4.2)), (98, (.bool (!a4.2))), (99, (.bool (!a4.2))), (100, (.bool (!a4.2)))] ?_
           refine In.guard (t := 100) (b := (!a4.2)) K (fun d2 => ?_) (fun d2 => ?_)
           ·have H := ct H d2
            refine iR 1 36 [(101, (pt s 0))] ?_
            obtain ⟨c1, j0, H⟩ := Qb H
            refine iS 37 ?_
            refine cF 36 #[(.tmp 101)] #[60] 102 Tryz.call36 (N8 s p (some ⟨g6, 0, none⟩) (List.length ([(([97, 110, 110] : List UInt8), 0, 0, ([] : List (Int × Int)), ([(([107] : List UInt8), ([115] : List UInt8), 5)] : List ((List UInt8) × (List UInt8) × Int)))] : List Qg)) u c.1 c.2.1 c.2.2.1 c.2.2.2.1 ([(([97, 110, 110] : List UInt8), 0, 0, (none, 0, ([] : List (Int × Int))), ((some ⟨g5, 0, none⟩), (List.length ([(([107] : List UInt8), ([115] : List UInt8), 5)] : List ((List UInt8) × (List UInt8) × Int))), ([(([107] : List UInt8), ([115] : List UInt8), 5)] : List ((List UInt8) × (List UInt8) × Int))))] : List Va) c.2.2.2.2 m.2.2.2.2.2.2.1 m.2.2.2.2.2.2.2.1 m.2.2.2.2.2.2.2.2.1 m.2.2.2.2.2.2.2.2.2.1 m.2.2.2.2.2.2.2.2.2.2 f3 (Yd a3 [7, 8, 4] rfl rfl) (fun w hm => F9 (Vs (SP.still a3 (l := [7, 8, 4]) (i := 1) rfl rfl rfl hm)) (R9 (Jw Nv (Jw Nv (Jw Nv (Jw (Eg (Qj (Qc .u32) (Qc .i64)) dT w) (Rm (Vs (SP.still a3 (l := [7, 8, 4]) (i := 0) rfl rfl rfl hm))))))) By)) c1 j0) ?_
            rintro e f5 ⟨rfl, f6⟩
            refine ⟨_, rfl, ?_⟩
            have b1 : SP [] w0 f5 [Yc 48 (Qj Qx (Qj Qx (Qc .i64))) (some ⟨g5, 0, none⟩) (List.length ([(([107] : List UInt8), ([115] : List UInt8), 5)] : List ((List UInt8) × (List UInt8) × Int))) ([(([107] : List UInt8), ([115] : List UInt8), 5)] : List ((List UInt8) × (List UInt8) × Int)), Yc 44 Js (some ⟨g6, 0, none⟩) (List.length ([(([97, 110, 110] : List UInt8), 0, 0, ([] : List (Int × Int)), ([(([107] : List UInt8), ([115] : List UInt8), 5)] : List ((List UInt8) × (List UInt8) × Int)))] : List Qg)) ([(([97, 110, 110] : List UInt8), 0, 0, (none, 0, ([] : List (Int × Int))), ((some ⟨g5, 0, none⟩), (List.length ([(([107] : List UInt8), ([115] : List UInt8), 5)] : List ((List UInt8) × (List UInt8) × Int))), ([(([107] : List UInt8), ([115] : List UInt8), 5)] : List ((List UInt8) × (List UInt8) × Int))))] : List Va), Qn a5 63 #[(.int .i64 f.1), (.string ⟨List.toArray f.2.1⟩), (.string ⟨List.toArray f.2.2.1⟩), (.int .i64 f.2.2.2.1), (.int .i64 f.2.2.2.2.1)], Qn a6 63 #[(.int .i64 j.1), (.string ⟨List.toArray j.2.1⟩), (.string ⟨List.toArray j.2.2.1⟩), (.int .i64 j.2.2.2.1), (.int .i64 j.2.2.2.2.1)], Qn a9 63 #[(.int .i64 m.1), (.string ⟨List.toArray m.2.1⟩), (.string ⟨List.toArray m.2.2.1⟩), (.int .i64 m.2.2.2.1), (.int .i64 m.2.2.2.2.1)], Qn b0 63 #[(.int .i64 h.1), (.string ⟨List.toArray h.2.1⟩), (.string ⟨List.toArray h.2.2.1⟩), (.int .i64 h.2.2.2.1), (.int .i64 h.2.2.2.2.1)], Qn a0 95 #[(pt p 0), (Xj h.2.2.2.2.2.2.1 a0), (.string ⟨List.toArray h.2.2.2.2.2.2.2.1⟩), (.string ⟨List.toArray h.2.2.2.2.2.2.2.2.1⟩), (.string ⟨List.toArray h.2.2.2.2.2.2.2.2.2.1⟩), (.bool h.2.2.2.2.2.2.2.2.2.2)], Qn p 79 #[(.int .i64 c.1), (.int .i64 c.2.1), (.int .i64 c.2.2.1), (.int .i64 c.2.2.2.1), (.slice (some ⟨g6, 0, none⟩) (List.length ([(([97, 110, 110] : List UInt8), 0, 0, ([] : List (Int × Int)), ([(([107] : List UInt8), ([115] : List UInt8), 5)] : List ((List UInt8) × (List UInt8) × Int)))] : List Qg)) (List.length ([(([97, 110, 110] : List UInt8), 0, 0, ([] : List (Int × Int)), ([(([107] : List UInt8), ([115] : List UInt8), 5)] : List ((List UInt8) × (List UInt8) × Int)))] : List Qg))), (.map (some u))], V5 u c.2.2.2.2, Qn s 95 #[(pt p 0), (Xj m.2.2.2.2.2.2.1 s), (.string ⟨List.toArray m.2.2.2.2.2.2.2.1⟩), (.string ⟨List.toArray m.2.2.2.2.2.2.2.2.1⟩), (.string ⟨List.toArray m.2.2.2.2.2.2.2.2.2.1⟩), (.bool m.2.2.2.2.2.2.2.2.2.2)]] := Vv a3 [7, 8, 4] [0, 1, 2, 3, 5, 6, 9] rfl rfl f6 rfl
            clear f6
            refine iR 2 39 [(103, (.bool c1)), (104, (.bool c1))] ?_
            refine In.guard (t := 104) (b := c1) K (fun d3 => ?_) (fun d3 => ?_)
            ·have H := ct H d3
             refine iR 1 40 [(105, (pt a0 0))] ?_
             obtain ⟨c2, j1, H⟩ := Qb H
             refine iS 41 ?_
             refine cF 36 #[(.tmp 105)] #[60] 106 Tryz.call36 (N8 a0 p (some ⟨g6, 0, none⟩) (List.length ([(([97, 110, 110] : List UInt8), 0, 0, ([] : List (Int × Int)), ([(([107] : List UInt8), ([115] : List UInt8), 5)] : List ((List UInt8) × (List UInt8) × Int)))] : List Qg)) u c.1 c.2.1 c.2.2.1 c.2.2.2.1 ([(([97, 110, 110] : List UInt8), 0, 0, (none, 0, ([] : List (Int × Int))), ((some ⟨g5, 0, none⟩), (List.length ([(([107] : List UInt8), ([115] : List UInt8), 5)] : List ((List UInt8) × (List UInt8) × Int))), ([(([107] : List UInt8), ([115] : List UInt8), 5)] : List ((List UInt8) × (List UInt8) × Int))))] : List Va) c.2.2.2.2 h.2.2.2.2.2.2.1 h.2.2.2.2.2.2.2.1 h.2.2.2.2.2.2.2.2.1 h.2.2.2.2.2.2.2.2.2.1 h.2.2.2.2.2.2.2.2.2.2 f5 (Yd b1 [7, 8, 6] rfl rfl) (fun w hm => F9 (Vs (SP.still b1 (l := [7, 8, 6]) (i := 1) rfl rfl rfl hm)) (R9 (Jw Nv (Jw Nv (Jw Nv (Jw (Eg (Qj (Qc .u32) (Qc .i64)) dT w) (Rm (Vs (SP.still b1 (l := [7, 8, 6]) (i := 0) rfl rfl rfl hm))))))) By)) c2 j1) ?_
             rintro e j2 ⟨rfl, f7⟩
             refine ⟨_, rfl, ?_⟩
             have j3 : SP [] w0 j2 [Yc 48 (Qj Qx (Qj Qx (Qc .i64))) (some ⟨g5, 0, none⟩) (List.length ([(([107] : List UInt8), ([115] : List UInt8), 5)] : List ((List UInt8) × (List UInt8) × Int))) ([(([107] : List UInt8), ([115] : List UInt8), 5)] : List ((List UInt8) × (List UInt8) × Int)), Yc 44 Js (some ⟨g6, 0, none⟩) (List.length ([(([97, 110, 110] : List UInt8), 0, 0, ([] : List (Int × Int)), ([(([107] : List UInt8), ([115] : List UInt8), 5)] : List ((List UInt8) × (List UInt8) × Int)))] : List Qg)) ([(([97, 110, 110] : List UInt8), 0, 0, (none, 0, ([] : List (Int × Int))), ((some ⟨g5, 0, none⟩), (List.length ([(([107] : List UInt8), ([115] : List UInt8), 5)] : List ((List UInt8) × (List UInt8) × Int))), ([(([107] : List UInt8), ([115] : List UInt8), 5)] : List ((List UInt8) × (List UInt8) × Int))))] : List Va), Qn a5 63 #[(.int .i64 f.1), (.string ⟨List.toArray f.2.1⟩), (.string ⟨List.toArray f.2.2.1⟩), (.int .i64 f.2.2.2.1), (.int .i64 f.2.2.2.2.1)], Qn a6 63 #[(.int .i64 j.1), (.string ⟨List.toArray j.2.1⟩), (.string ⟨List.toArray j.2.2.1⟩), (.int .i64 j.2.2.2.1), (.int .i64 j.2.2.2.2.1)], Qn a9 63 #[(.int .i64 m.1), (.string ⟨List.toArray m.2.1⟩), (.string ⟨List.toArray m.2.2.1⟩), (.int .i64 m.2.2.2.1), (.int .i64 m.2.2.2.2.1)], Qn b0 63 #[(.int .i64 h.1), (.string ⟨List.toArray h.2.1⟩), (.string ⟨List.toArray h.2.2.1⟩), (.int .i64 h.2.2.2.1), (.int .i64 h.2.2.2.2.1)], Qn s 95 #[(pt p 0), (Xj m.2.2.2.2.2.2.1 s), (.string ⟨List.toArray m.2.2.2.2.2.2.2.1⟩), (.string ⟨List.toArray m.2.2.2.2.2.2.2.2.1⟩), (.string ⟨List.toArray m.2.2.2.2.2.2.2.2.2.1⟩), (.bool m.2.2.2.2.2.2.2.2.2.2)], Qn p 79 #[(.int .i64 c.1), (.int .i64 c.2.1), (.int .i64 c.2.2.1), (.int .i64 c.2.2.2.1), (.slice (some ⟨g6, 0, none⟩) (List.length ([(([97, 110, 110] : List UInt8), 0, 0, ([] : List (Int × Int)), ([(([107] : List UInt8), ([115] : List UInt8), 5)] : List ((List UInt8) × (List UInt8) × Int)))] : List Qg)) (List.length ([(([97, 110, 110] : List UInt8), 0, 0, ([] : List (Int × Int)), ([(([107] : List UInt8), ([115] : List UInt8), 5)] : List ((List UInt8) × (List UInt8) × Int)))] : List Qg))), (.map (some u))], V5 u c.2.2.2.2, Qn a0 95 #[(pt p 0), (Xj h.2.2.2.2.2.2.1 a0), (.string ⟨List.toArray h.2.2.2.2.2.2.2.1⟩), (.string ⟨List.toArray h.2.2.2.2.2.2.2.2.1⟩), (.string ⟨List.toArray h.2.2.2.2.2.2.2.2.2.1⟩), (.bool h.2.2.2.2.2.2.2.2.2.2)]] := Vv b1 [7, 8, 6] [0, 1, 2, 3, 4, 5, 9] rfl rfl f7 rfl
             clear f7
             refine iR 2 43 [(107, (.bool c2)), (0, (.bool c2))] ?_
             refine iF ?_
             exact ⟨c2, ⟨K, trivial⟩, SP.sel j3 [] rfl rfl, H⟩
            ·have H := cf H d3
             refine iR 4 43 [(105, undef), (106, undef), (107, (.bool false)), (0, (.bool false))] ?_
             refine iF ?_
             exact ⟨false, ⟨K, trivial⟩, SP.sel b1 [] rfl rfl, H⟩
           ·have H := cf H d2
            refine iR 8 43 [(101, undef), (102, undef), (103, (.bool false)), (104, (.bool false)), (105, undef), (106, undef), (107, (.bool false)), (0, (.bool false))] ?_
            refine iF ?_
            exact ⟨false, ⟨K, trivial⟩, SP.sel a3 [] rfl rfl, H⟩
          ·have H := cf H d1
           refine iR 12 43 [(97, undef), (98, undef), (99, (.bool false)), (100, (.bool false)), (101, undef), (102, undef), (103, (.bool false)), (104, (.bool false)), (105, undef), (106, undef), (107, (.bool false)), (0, (.bool false))] ?_
           refine iF ?_
           exact ⟨false, ⟨K, trivial⟩, SP.sel a3 [] rfl rfl, H⟩
         ·have H := cf H d0
          refine iR 17 43 [(92, undef), (93, undef), (94, undef), (95, (.bool false)), (96, (.bool false)), (97, undef), (98, undef), (99, (.bool false)), (100, (.bool false)), (101, undef), (102, undef), (103, (.bool false)), (104, (.bool false)), (105, undef), (106, undef), (107, (.bool false)), (0, (.bool false))] ?_
          refine iF ?_
          exact ⟨false, ⟨K, trivial⟩, SP.sel a3 [] rfl rfl, H⟩
        ·have H := cf H c9
         refine iR 21 43 [(88, undef), (89, undef), (90, (.bool false)), (91, (.bool false)), (92, undef), (93, undef), (94, undef), (95, (.bool false)), (96, (.bool false)), (97, undef), (98, undef), (99, (.bool false)), (100, (.bool false)), (101, undef), (102, undef), (103, (.bool false)), (104, (.bool false)), (105, undef), (106, undef), (107, (.bool false)), (0, (.bool false))] ?_
         refine iF ?_
         exact ⟨false, ⟨K, trivial⟩, SP.sel a3 [] rfl rfl, H⟩
       ·have H := cf H c8
        refine iR 24 43 [(85, undef), (86, (.bool false)), (87, (.bool false)), (88, undef), (89, undef), (90, (.bool false)), (91, (.bool false)), (92, undef), (93, undef), (94, undef), (95, (.bool false)), (96, (.bool false)), (97, undef), (98, undef), (99, (.bool false)), (100, (.bool false)), (101, undef), (102, undef), (103, (.bool false)), (104, (.bool false)), (105, undef), (106, undef), (107, (.bool false)), (0, (.bool false))] ?_
        refine iF ?_
        exact ⟨false, ⟨K, trivial⟩, SP.sel a3 [] rfl rfl, H⟩
      ·have H := cf H c7
       refine iR 28 43 [(81, undef), (82, undef), (83, (.bool false)), (84, (.bool false)), (85, undef), (86, (.bool false)), (87, (.bool false)), (88, undef), (89, undef), (90, (.bool false)), (91, (.bool false)), (92, undef), (93, undef), (94, undef), (95, (.bool false)), (96, (.bool false)), (97, undef), (98, undef), (99, (.bool false)), (100, (.bool false)), (101, undef), (102, undef), (103, (.bool false)), (104, (.bool false)), (105, undef), (106, undef), (107, (.bool false)), (0, (.bool false))] ?_
       refine iF ?_
       exact ⟨false, ⟨K, trivial⟩, SP.sel a3 [] rfl rfl, H⟩
     ·have H := cf H c6
      refine iR 31 43 [(78, undef), (79, (.bool false)), (80, (.bool false)), (81, undef), (82, undef), (83, (.bool false)), (84, (.bool false)), (85, undef), (86, (.bool false)), (87, (.bool false)), (88, undef), (89, undef), (90, (.bool false)), (91, (.bool false)), (92, undef), (93, undef), (94, undef), (95, (.bool false)), (96, (.bool false)), (97, undef), (98, undef), (99, (.bool false)), (100, (.bool false)), (101, undef), (102, undef), (103, (.bool false)), (104, (.bool false)), (105, undef), (106, undef), (107, (.bool false)), (0, (.bool false))] ?_
      refine iF ?_
      exact ⟨false, ⟨K, trivial⟩, SP.sel a3 [] rfl rfl, H⟩
    ·have H := cf H c5
     refine iR 36 43 [(73, undef), (74, undef), (75, undef), (76, (.bool false)), (77, (.bool false)), (78, undef), (79, (.bool false)), (80, (.bool false)), (81, undef), (82, undef), (83, (.bool false)), (84, (.bool false)), (85, undef), (86, (.bool false)), (87, (.bool false)), (88, undef), (89, undef), (90, (.bool false)), (91, (.bool false)), (92, undef), (93, undef), (94, undef), (95, (.bool false)), (96, (.bool false)), (97, undef), (98, undef), (99, (.bool false)), (100, (.bool false)), (101, undef), (102, undef), (103, (.bool false)), (104, (.bool false)), (105, undef), (106, undef), (107, (.bool false)), (0, (.bool false))] ?_
     refine iF ?_
     exact ⟨false, ⟨K, trivial⟩, SP.sel a3 [] rfl rfl, H⟩
   ·have H := cf H c4
    refine iR 39 43 [(70, undef), (71, (.bool false)), (72, (.bool false)), (73, undef), (74, undef), (75, undef), (76, (.bool false)), (77, (.bool false)), (78, undef), (79, (.bool false)), (80, (.bool false)), (81, undef), (82, undef), (83, (.bool false)), (84, (.bool false)), (85, undef), (86, (.bool false)), (87, (.bool false)), (88, undef), (89, undef), (90, (.bool false)), (91, (.bool false)), (92, undef), (93, undef), (94, undef), (95, (.bool false)), (96, (.bool false)), (97, undef), (98, undef), (99, (.bool false)), (100, (.bool false)), (101, undef), (102, undef), (103, (.bool false)), (104, (.bool false)), (105, undef), (106, undef), (107, (.bool false)), (0, (.bool false))] ?_
    refine iF ?_
    exact ⟨false, ⟨K, trivial⟩, SP.sel a3 [] rfl rfl, H⟩
  ·rintro ρ k1 ⟨a8, hk, j4, H⟩
   unfold Vj at H
   first | refine At.known [(0, (.bool a8))] hk ?_ | rw [← Qv (l := [(0, (.bool a8))]) hk]
   refine At.ret K ?_
   refine ⟨(.bool a8), K, ?_⟩
   obtain rfl := Qe H
   exact ⟨rfl, SP.sel j4 [] rfl rfl⟩
end Go.Proofs.YtmgfanhcdfobhaaGreatDoor
namespace Go.Proofs.YtmgfanhcdfobhaaGreatDoor
theorem shakeHead : Nb = some true := by
  unfold Nb
  rw [show G2 = some () from rfl, Option.bind_some, headVNew, Option.bind_some, optE_s]
  kernel_rfl
abbrev OpK := Int × Int × Str × Str × Int × Int × Int × Str
def OpKQ (o : OpK) : Prop := o.2.2.1.length ≤ 140737488355328 ∧ o.2.2.2.1.length ≤ 140737488355328 ∧ o.2.2.2.2.2.2.2.length ≤ 140737488355328
theorem opsK_loop (l : List OpK) (hl : l.length ≤ 140737488355328) : ∀ (d i f : Nat), d = min l.length 60 - i → i ≤ l.length → i ≤ 60 → d < f → ∃ b, V9 l f (i : Int) = some b ∧ (b = false → l.length ≤ 40) := by
  intro d
  induction d with
  | zero =>
    intro i f hd hi h3 hf
    obtain ⟨f, rfl⟩ : ∃ g, f = g + 1 := ⟨f - 1, by omega⟩
    show ∃ b, Xq (V9 l f) l (i : Int) = some b ∧ _
    unfold Xq Yn
    by_cases hlt : i < l.length
    · rw [show decide ((i : Int) < ((l.length : Nat) : Int)) = true from decide_eq_true (by omega), cond_true, show decide ((i : Int) < 60) = false from decide_eq_false (by omega), cond_false]
      exact ⟨_, rfl, fun h => by have := of_decide_eq_false h; omega⟩
    · rw [show decide ((i : Int) < ((l.length : Nat) : Int)) = false from decide_eq_false (by omega), cond_false, cond_false]
      exact ⟨_, rfl, fun h => by have := of_decide_eq_false h; omega⟩
  | succ d ih =>
    intro i f hd hi h3 hf
    obtain ⟨f, rfl⟩ : ∃ g, f = g + 1 := ⟨f - 1, by omega⟩
    have hlt : i < l.length := by omega
    show ∃ b, Xq (V9 l f) l (i : Int) = some b ∧ _
    have hk : ∀ v, ∃ b, Ym (V9 l f) (i : Int) v = some b ∧ (b = false → l.length ≤ 40) := by
      intro v
      unfold Ym
      cases v with
      | true => exact ⟨true, rfl, fun h => by cases h⟩
      | false =>
        rw [cond_false, show ((i : Int) + 1) = ((i + 1 : Nat) : Int) by omega, Xh (by omega)]
        exact ih (i + 1) f (by omega) (by omega) (by omega) (by omega)
    unfold Xq Yn N9
    rw [show decide ((i : Int) < ((l.length : Nat) : Int)) = true from decide_eq_true (by omega), cond_true, show decide ((i : Int) < 60) = true from decide_eq_true (by omega), cond_true, Jt hlt, Option.bind_some, Option.bind_some, Option.bind_some]
    generalize decide (_ > (9000 : Int)) = g
    cases g with
    | true => rw [cond_true]; exact hk true
    | false => rw [cond_false]; exact hk _
theorem Pp (l : List OpK) (hl : l.length ≤ 140737488355328) : ∃ b, Ga l = some b ∧ (b = false → l.length ≤ 40) :=
  opsK_loop l hl _ 0 Zj rfl (by omega) (by omega) (by unfold Zj; omega)
theorem who_p (w g i e : Int) (l : List Qg) (M : Uw) (c : Int) (t k n : Str) (kn : Bool) : Jr w g i e l M c t k n kn = some (cond kn t [], kn) := by
  unfold Jr
  cases kn <;> rfl
theorem over_p (w g i e : Int) (l : List Qg) (M : Uw) (c : Int) (t k n : Str) (kn : Bool) : J2 w g i e l M c t k n kn = some (Hv c) := rfl
theorem who_r (w g i e : Int) (l : List Qg) (G : List Str) {c : Int} (t k n : Str) {kn : Bool} (h : SI c kn) : Y8 w g i e l G (sOf c kn) t k n = some (cond kn t [], kn) := by
  obtain ⟨h1, h2⟩ := h
  unfold Y8
  cases kn with
  | true => rw [h2 rfl]; rfl
  | false => rcases h1 with rfl | rfl | rfl <;> rfl
theorem over_r (w g i e : Int) (l : List Qg) (G : List Str) {c : Int} (t k n : Str) {kn : Bool} (h : SI c kn) : Y1 w g i e l G (sOf c kn) t k n = some (Hv c) := by
  obtain ⟨h1, h2⟩ := h
  unfold Y1
  cases kn with
  | true => rw [h2 rfl]; rfl
  | false => rcases h1 with rfl | rfl | rfl <;> rfl
end Go.Proofs.YtmgfanhcdfobhaaGreatDoor
namespace Go.Proofs.YtmgfanhcdfobhaaGreatDoor
open Go.RowKit
def X7 (a : Bool) : Option (Bool) :=
  (some (a))
def X8 (a : Bool) : Option (Bool) :=
  (some (a))
def X9 (a : Bool) : Option (Bool) :=
  (some (a))
def Vx (c : Int → Int → Int → Int → Uw → Int → Int → Int → Int → (List (List UInt8)) → Int → (List UInt8) → (List UInt8) → (List UInt8) → Bool → Int → (List UInt8) → (List UInt8) → (List UInt8) → Int → Option (Bool)) (d : Int) (e : Int) (f : Int) (g : Int) (h : Int) (i : Uw) (b : (Int × (List UInt8) × (List UInt8) × Int × Int × Bool × Int × (List UInt8) × (List UInt8) × (List UInt8) × Bool)) (a : (Int × (List UInt8) × (List UInt8) × Int × Int × Bool × Int × Int × Int × Int × (List (List UInt8)) × Int × (List UInt8) × (List UInt8) × (List UInt8))) (j : (List (List UInt8))) (k : Bool) : Option (Bool) :=
  (cond k (some (false)) (c e f g h i a.2.2.2.2.2.2.1 a.2.2.2.2.2.2.2.1 a.2.2.2.2.2.2.2.2.1 a.2.2.2.2.2.2.2.2.2.1 j b.2.2.2.2.2.2.1 b.2.2.2.2.2.2.2.1 b.2.2.2.2.2.2.2.2.1 b.2.2.2.2.2.2.2.2.2.1 b.2.2.2.2.2.2.2.2.2.2 a.2.2.2.2.2.2.2.2.2.2.2.1 a.2.2.2.2.2.2.2.2.2.2.2.2.1 a.2.2.2.2.2.2.2.2.2.2.2.2.2.1 a.2.2.2.2.2.2.2.2.2.2.2.2.2.2 (IntKind.wrap .i64 (d + 1))))
def Zy (j : Int → Int → Int → Int → Uw → Int → Int → Int → Int → (List (List UInt8)) → Int → (List UInt8) → (List UInt8) → (List UInt8) → Bool → Int → (List UInt8) → (List UInt8) → (List UInt8) → Int → Option (Bool)) (i : (List Qg)) (n : Int) (o : (List UInt8)) (p : (List UInt8)) (q : (List UInt8)) (r : Bool) (s : Int) (t : (List UInt8)) (u : (List UInt8)) (v : (List UInt8)) (k : Int) (c : (Int × Int × (List UInt8) × (List UInt8) × Int × Int × Int × (List UInt8))) (d : Int) (e : Int) (f : Int) (g : Int) (h : Uw) (w : Int) (x : Int) (y : Int) (z : Int) (a0 : (List (List UInt8))) : Option (Bool) :=
  ((Xt d e f g i h n o p q r c.2.1 c.2.2.1 c.2.2.2.1 c.2.2.2.2.1 c.2.2.2.2.2.1 c.2.2.2.2.2.2.1 c.2.2.2.2.2.2.2).bind fun b => ((Y2 w x y z i a0 s t u v c.2.1 c.2.2.1 c.2.2.2.1 c.2.2.2.2.1 c.2.2.2.2.2.1 c.2.2.2.2.2.2.1 c.2.2.2.2.2.2.2).bind fun a => ((Jr d e f g i h b.2.2.2.2.2.2.1 b.2.2.2.2.2.2.2.1 b.2.2.2.2.2.2.2.2.1 b.2.2.2.2.2.2.2.2.2.1 b.2.2.2.2.2.2.2.2.2.2).bind fun l => ((Y8 a.2.2.2.2.2.2.1 a.2.2.2.2.2.2.2.1 a.2.2.2.2.2.2.2.2.1 a.2.2.2.2.2.2.2.2.2.1 i a.2.2.2.2.2.2.2.2.2.2.1 a.2.2.2.2.2.2.2.2.2.2.2.1 a.2.2.2.2.2.2.2.2.2.2.2.2.1 a.2.2.2.2.2.2.2.2.2.2.2.2.2.1 a.2.2.2.2.2.2.2.2.2.2.2.2.2.2).bind fun m => (cond (!((b.1 == a.1) && ((b.2.1 == a.2.1) && ((b.2.2.1 == a.2.2.1) && ((b.2.2.2.1 == a.2.2.2.1) && (b.2.2.2.2.1 == a.2.2.2.2.1)))))) (Vx j k d e f g h b a a.2.2.2.2.2.2.2.2.2.2.1 true) (cond (!(b.2.2.2.2.2.1 == a.2.2.2.2.2.1)) (Vx j k d e f g h b a a.2.2.2.2.2.2.2.2.2.2.1 true) (cond (!(l.1 == m.1)) (Vx j k d e f g h b a a.2.2.2.2.2.2.2.2.2.2.1 true) (cond (!(l.2 == m.2)) (Vx j k d e f g h b a a.2.2.2.2.2.2.2.2.2.2.1 true) ((J2 d e f g i h b.2.2.2.2.2.2.1 b.2.2.2.2.2.2.2.1 b.2.2.2.2.2.2.2.2.1 b.2.2.2.2.2.2.2.2.2.1 b.2.2.2.2.2.2.2.2.2.2).bind fun a1 => ((Y1 a.2.2.2.2.2.2.1 a.2.2.2.2.2.2.2.1 a.2.2.2.2.2.2.2.2.1 a.2.2.2.2.2.2.2.2.2.1 i a.2.2.2.2.2.2.2.2.2.2.1 a.2.2.2.2.2.2.2.2.2.2.2.1 a.2.2.2.2.2.2.2.2.2.2.2.2.1 a.2.2.2.2.2.2.2.2.2.2.2.2.2.1 a.2.2.2.2.2.2.2.2.2.2.2.2.2.2).bind fun a2 => (Vx j k d e f g h b a a.2.2.2.2.2.2.2.2.2.2.1 (!(a1 == a2)))))))))))))
def Zp (f : Int → Int → Int → Int → Uw → Int → Int → Int → Int → (List (List UInt8)) → Int → (List UInt8) → (List UInt8) → (List UInt8) → Bool → Int → (List UInt8) → (List UInt8) → (List UInt8) → Int → Option (Bool)) (d : (List Qg)) (g : (List (Int × Int × (List UInt8) × (List UInt8) × Int × Int × Int × (List UInt8)))) (a0 : (Bool)) (h : Int) (i : Int) (j : Int) (k : Int) (l : Uw) (m : Int) (n : Int) (o : Int) (p : Int) (q : (List (List UInt8))) (r : Int) (s : (List UInt8)) (t : (List UInt8)) (u : (List UInt8)) (v : Bool) (w : Int) (x : (List UInt8)) (y : (List UInt8)) (z : (List UInt8)) (e : Int) : Option (Bool) :=
  (cond (decide (e < ((List.length g : Nat) : Int))) ((idx g e).bind fun a => (cond (a.1 == 1) ((Ug h i j k d l a.2.2.1 a.2.2.2.1).bind fun b => ((Yf m n o p d q a.2.2.1 a.2.2.2.1).bind fun c => (Zy f d r s t u v w x y z e a b.2.1 b.2.2.1 b.2.2.2.1 b.2.2.2.2.1 b.2.2.2.2.2 c.2.1 c.2.2.1 c.2.2.2.1 c.2.2.2.2.1 c.2.2.2.2.2))) (Zy f d r s t u v w x y z e a h i j k l m n o p q))) (some (a0)))
def Vg (a : (List Qg)) (b : (List (Int × Int × (List UInt8) × (List UInt8) × Int × Int × Int × (List UInt8)))) (c : (Bool)) : Nat → Int → Int → Int → Int → Uw → Int → Int → Int → Int → (List (List UInt8)) → Int → (List UInt8) → (List UInt8) → (List UInt8) → Bool → Int → (List UInt8) → (List UInt8) → (List UInt8) → Int → Option (Bool)
  | 0, _, _, _, _, _, _, _, _, _, _, _, _, _, _, _, _, _, _, _, _ => none
  | f + 1, d, e, g, h, i, j, k, l, m, n, o, p, q, r, s, t, u, v, w, x => Zp  (Vg a b c f) a b c d e g h i j k l m n o p q r s t u v w x
def Zq (g : Int) (h : Int) (i : Int) (j : Int) (c : (List Qg)) (k : (List (Int × Int × (List UInt8) × (List UInt8) × Int × Int × Int × (List UInt8)))) (d : (Bool)) (l : Bool) : Option (Bool) :=
  (cond l (some (d)) ((Rq g h i j c).bind fun m => (optE m ((Up g h i j c).bind fun n => (optE n (cond d (X7 (true == true)) (X7 false)) (fun p => (cond d (X8 (true == false)) (X8 false))))) (fun a => ((Up g h i j c).bind fun o => (optE o (cond d (X9 (false == true)) (X9 false)) (fun b => ((Bb a.1 a.2.1 a.2.2.1 a.2.2.2.1 c a.2.2.2.2).bind fun e => ((Dd b.1 b.2.1 b.2.2.1 b.2.2.2.1 c b.2.2.2.2).bind fun f => (Vg c k d Zj a.1 a.2.1 a.2.2.1 a.2.2.2.1 a.2.2.2.2 b.1 b.2.1 b.2.2.1 b.2.2.2.1 b.2.2.2.2 e.1 e.2.1 e.2.2.1 e.2.2.2.1 e.2.2.2.2 f.1 f.2.1 f.2.2.1 f.2.2.2 0))))))))))
def J3 (a : Int) (b : Int) (c : Int) (d : Int) (e : (List Qg)) (f : (List (Int × Int × (List UInt8) × (List UInt8) × Int × Int × Int × (List UInt8)))) : Option (Bool) :=
  ((Nb ).bind fun g => ((Nx a b c d e).bind fun h => (cond h (Zq a b c d e f g true) ((Ga f).bind fun i => (Zq a b c d e f g i)))))
theorem Du (A6 : Option Addr) (c7 : Nat) (a6 : Option Addr) (a7 : Nat) (a8 : Int) (a9 : Int) (b0 : Int) (b1 : Int) (d9 : (List Va)) (a1 : (List (Int × Int × (List UInt8) × (List UInt8) × Int × Int × Int × (List UInt8)))) (w0 : World) (hL : Fn w0) (b4 : (dDS Js Ce).ok w0 (A6, c7, d9)) (i2 : RdT (Qj (Qc .i64) (Qj (Qc .i64) (Qj Qx (Qj Qx (Qj (Qc .i64) (Qj (Qc .i64) (Qj (Qc .i64) Qx))))))) w0 a6 a7 a1) (r : (Bool)) (H : J3 a8 a9 b0 b1 (List.map stT d9) a1 = some r) :
  Calls Tryz.prog 13 #[(.agg #[(.int .i64 a8), (.int .i64 a9), (.int .i64 b0), (.int .i64 b1), (.slice A6 (List.length (List.map stT d9)) c7)]), (.slice a6 (List.length a1) a7)] w0 (fun e w' => e = .returned (.bool r) ∧ SP [] w0 w' []) := by
 unfold J3 at H
 refine Qs (n := 139) Tryz.func13 K K K ?_
 have p6 := Q0 [] w0
 refine aQ ?_
 refine aR ?_
 refine iS 1 ?_
 refine Vn (t := 24) (x := (.tmp 0)) (v := (.agg #[(.int .i64 a8), (.int .i64 a9), (.int .i64 b0), (.int .i64 b1), (.slice A6 (List.length (List.map stT d9)) c7)])) (d := (some 2)) (k := 0) K rfl K p6 ?_
 intro c8 p7 l3
 refine iR 1 2 [(4, (.bool false))] ?_
 refine iF ?_
 refine aQ ?_
 refine aR ?_
 obtain ⟨u, p8, H⟩ := Qb H
 refine iS 1 ?_
 refine cF 31 #[] #[] 20 Tryz.call31 (Cy   p7 (Y9 hL (SP.keeps l3)) u p8) ?_
 rintro e p9 ⟨rfl, l4⟩
 refine ⟨_, rfl, ?_⟩
 have i3 := SP.call l3 l4
 clear l4
 refine iR 1 2 [(5, (.bool u))] ?_
 refine iF ?_
 refine aQ ?_
 refine aQ ?_
 refine At.join (fun ρ w => ∃ (f5 : Bool), V6 ρ [(1, (.slice a6 (List.length a1) a7)), (2, (pt c8 0)), (5, (.bool u)), (26, (.bool f5))] ∧ SP [] w0 w [Qn c8 24 #[(.int .i64 a8), (.int .i64 a9), (.int .i64 b0), (.int .i64 b1), (.slice A6 (List.length (List.map stT d9)) c7)]] ∧ Zq a8 a9 b0 b1 (List.map stT d9) a1 u f5 = some r) ?_ ?_
 ·refine aR ?_
  refine iS 1 ?_
  refine sL 24 2 c8 0 0 (.agg #[(.int .i64 a8), (.int .i64 a9), (.int .i64 b0), (.int .i64 b1), (.slice A6 (List.length (List.map stT d9)) c7)]) 21 i3 rfl ?_
  obtain ⟨i4, q0, H⟩ := Qb H
  refine iS 2 ?_
  refine cF 16 #[(.tmp 21)] #[24] 22 Tryz.call16 (B1 A6 c7 a8 a9 b0 b1 d9 p9 (Dp.sp b4 i3) i4 q0) ?_
  rintro e q1 ⟨rfl, l5⟩
  refine ⟨_, rfl, ?_⟩
  have i5 := SP.call i3 l5
  clear l5
  refine iR 1 3 [(23, (.bool i4))] ?_
  refine In.guard (t := 23) (b := i4) K (fun i6 => ?_) (fun i6 => ?_)
  ·have H := ct H i6
   refine iR 3 6 [(24, undef), (25, undef), (26, (.bool true))] ?_
   refine iF ?_
   exact ⟨true, ⟨K, K, K, K, trivial⟩, SP.sel i5 [0] rfl rfl, H⟩
  ·have H := cf H i6
   refine iR 1 4 [(24, (.slice a6 (List.length a1) a7))] ?_
   obtain ⟨i7, q2, H⟩ := Qb H
   refine iS 5 ?_
   refine cF 32 #[(.tmp 24)] #[58] 25 Tryz.call32 (Cd a6 a7 a1 q1 (RdT.sp i2 i5) i7 q2) ?_
   rintro e u3 ⟨rfl, l6⟩
   refine ⟨_, rfl, ?_⟩
   have q3 := SP.call i5 l6
   clear l6
   refine iR 1 6 [(26, (.bool i7))] ?_
   refine iF ?_
   exact ⟨i7, ⟨K, K, K, K, trivial⟩, SP.sel q3 [0] rfl rfl, H⟩
 ·rintro ρ l7 ⟨f5, hk, e0, H⟩
  unfold Zq at H
  first | refine At.known [(1, (.slice a6 (List.length a1) a7)), (2, (pt c8 0)), (5, (.bool u)), (26, (.bool f5))] hk ?_ | rw [← Qv (l := [(1, (.slice a6 (List.length a1) a7)), (2, (pt c8 0)), (5, (.bool u)), (26, (.bool f5))]) hk]
  refine V1 K (o := (.tmp 26)) K (b := f5) K (fun i8 => ?_) (fun i8 => ?_)
  ·have H := ct H i8
   refine aQ ?_
   refine aR ?_
   refine iR 2 2 [(27, (.bool u)), (4, (.bool u))] ?_
   refine iF ?_
   refine At.ret K ?_
   refine ⟨(.bool u), K, ?_⟩
   obtain rfl := Qe H
   exact ⟨rfl, SP.sel e0 [] rfl rfl⟩
  ·have H := cf H i8
   refine At.skip K ?_
   refine aQ ?_
   refine aR ?_
   refine iS 1 ?_
   refine sL 24 2 c8 0 0 (.agg #[(.int .i64 a8), (.int .i64 a9), (.int .i64 b0), (.int .i64 b1), (.slice A6 (List.length (List.map stT d9)) c7)]) 28 e0 rfl ?_
   obtain ⟨q4, l8, H⟩ := Qb H
   rcases q4 with _ | a5
   ·have H := optN H
    refine iS 2 ?_
    refine cF 18 #[(.tmp 28)] #[24] 29 Tryz.call18 (Rj A6 c7 a8 a9 b0 b1 d9 l7 (Y9 hL (SP.keeps e0)) (Dp.sp b4 e0) none l8) ?_
    rintro e l9 ⟨rfl, m0⟩
    refine ⟨_, rfl, ?_⟩
    have g5 := SP.call e0 m0
    clear m0
    refine iR 1 3 [(6, (.pointer none))] ?_
    refine iF ?_
    refine aQ ?_
    refine aR ?_
    refine iS 1 ?_
    refine sL 24 2 c8 0 0 (.agg #[(.int .i64 a8), (.int .i64 a9), (.int .i64 b0), (.int .i64 b1), (.slice A6 (List.length (List.map stT d9)) c7)]) 30 g5 rfl ?_
    obtain ⟨q5, m1, H⟩ := Qb H
    rcases q5 with _ | q6
    ·have H := optN H
     refine iS 2 ?_
     refine cF 19 #[(.tmp 30)] #[24] 31 Tryz.call19 (Uy A6 c7 a8 a9 b0 b1 d9 l9 (Dp.sp b4 g5) none m1) ?_
     rintro e u4 ⟨rfl, m2⟩
     refine ⟨_, rfl, ?_⟩
     have m3 := SP.call g5 m2
     clear m2
     refine iR 1 3 [(7, (.pointer none))] ?_
     refine iF ?_
     refine aQ ?_
     refine aQ ?_
     refine aR ?_
     refine iR 6 6 [(32, (.pointer none)), (33, (.bool true)), (34, (.bool true)), (35, undef), (36, undef), (37, (.bool true))] ?_
     refine iF ?_
     refine V1 K (o := (.tmp 37)) K (b := true) K (fun m4 => ?_) (fun m4 => ?_)
     rotate_left
     ·cases m4
     refine aQ ?_
     refine At.join (fun ρ w => ∃ (f6 : Bool), V6 ρ [(4, (.bool f6))] ∧ SP [] w0 w [] ∧ X7 f6 = some r) ?_ ?_
     ·refine aR ?_
      refine iR 2 2 [(38, (.bool u)), (39, (.bool u))] ?_
      refine In.guard (t := 39) (b := u) K (fun i9 => ?_) (fun i9 => ?_)
      ·have H := ct H i9
       refine iR 7 9 [(40, (.pointer none)), (41, (.bool true)), (42, (.pointer none)), (43, (.bool true)), (44, (.bool (true == true))), (45, (.bool (true == true))), (4, (.bool (true == true)))] ?_
       refine iF ?_
       exact ⟨(true == true), ⟨K, trivial⟩, SP.sel m3 [] rfl rfl, H⟩
      ·have H := cf H i9
       refine iR 7 9 [(40, undef), (41, undef), (42, undef), (43, undef), (44, undef), (45, (.bool false)), (4, (.bool false))] ?_
       refine iF ?_
       exact ⟨false, ⟨K, trivial⟩, SP.sel m3 [] rfl rfl, H⟩
     ·rintro ρ u5 ⟨f6, hk, q7, H⟩
      unfold X7 at H
      first | refine At.known [(4, (.bool f6))] hk ?_ | rw [← Qv (l := [(4, (.bool f6))]) hk]
      refine At.ret K ?_
      refine ⟨(.bool f6), K, ?_⟩
      obtain rfl := Qe H
      exact ⟨rfl, SP.sel q7 [] rfl rfl⟩
    ·have H := optS H
     refine iS 2 ?_
     refine cF 19 #[(.tmp 30)] #[24] 31 Tryz.call19 (Uy A6 c7 a8 a9 b0 b1 d9 l9 (Dp.sp b4 g5) (some q6) m1) ?_
     rintro e u6 ⟨m5, u7, u8, rfl, m6⟩
     refine ⟨_, rfl, ?_⟩
     have m7 := SP.call g5 m6
     clear m6
     refine iR 1 3 [(7, (pt m5 0))] ?_
     refine iF ?_
     refine aQ ?_
     refine aQ ?_
     refine aR ?_
     refine iR 6 6 [(32, (.pointer none)), (33, (.bool true)), (34, (.bool true)), (35, undef), (36, undef), (37, (.bool true))] ?_
     refine iF ?_
     refine V1 K (o := (.tmp 37)) K (b := true) K (fun m8 => ?_) (fun m8 => ?_)
     rotate_left
     ·cases m8
     refine aQ ?_
     refine At.join (fun ρ w => ∃ (f7 : Bool), V6 ρ [(4, (.bool f7))] ∧ SP [] w0 w [] ∧ X8 f7 = some r) ?_ ?_
     ·refine aR ?_
      refine iR 2 2 [(38, (.bool u)), (39, (.bool u))] ?_
      refine In.guard (t := 39) (b := u) K (fun j0 => ?_) (fun j0 => ?_)
      ·have H := ct H j0
       refine iR 7 9 [(40, (.pointer none)), (41, (.bool true)), (42, (pt m5 0)), (43, (.bool false)), (44, (.bool (true == false))), (45, (.bool (true == false))), (4, (.bool (true == false)))] ?_
       refine iF ?_
       exact ⟨(true == false), ⟨K, trivial⟩, SP.sel m7 [] rfl rfl, H⟩
      ·have H := cf H j0
       refine iR 7 9 [(40, undef), (41, undef), (42, undef), (43, undef), (44, undef), (45, (.bool false)), (4, (.bool false))] ?_
       refine iF ?_
       exact ⟨false, ⟨K, trivial⟩, SP.sel m7 [] rfl rfl, H⟩
     ·rintro ρ u9 ⟨f7, hk, q8, H⟩
      unfold X8 at H
      first | refine At.known [(4, (.bool f7))] hk ?_ | rw [← Qv (l := [(4, (.bool f7))]) hk]
      refine At.ret K ?_
      refine ⟨(.bool f7), K, ?_⟩
      obtain rfl := Qe H
      exact ⟨rfl, SP.sel q8 [] rfl rfl⟩
   ·have H := optS H
    refine iS 2 ?_
    refine cF 18 #[(.tmp 28)] #[24] 29 Tryz.call18 (Rj A6 c7 a8 a9 b0 b1 d9 l7 (Y9 hL (SP.keeps e0)) (Dp.sp b4 e0) (some a5) l8) ?_
    rintro e m9 ⟨m, a0, rfl, n0⟩
    refine ⟨_, rfl, ?_⟩
    have g6 := SP.call e0 n0
    clear n0
    refine iR 1 3 [(6, (pt m 0))] ?_
    refine iF ?_
    refine aQ ?_
    refine aR ?_
    refine iS 1 ?_
    refine sL 24 2 c8 0 0 (.agg #[(.int .i64 a8), (.int .i64 a9), (.int .i64 b0), (.int .i64 b1), (.slice A6 (List.length (List.map stT d9)) c7)]) 30 g6 rfl ?_
    obtain ⟨q9, n1, H⟩ := Qb H
    rcases q9 with _ | a4
    ·have H := optN H
     refine iS 2 ?_
     refine cF 19 #[(.tmp 30)] #[24] 31 Tryz.call19 (Uy A6 c7 a8 a9 b0 b1 d9 m9 (Dp.sp b4 g6) none n1) ?_
     rintro e v0 ⟨rfl, n2⟩
     refine ⟨_, rfl, ?_⟩
     have n3 := SP.call g6 n2
     clear n2
     refine iR 1 3 [(7, (.pointer none))] ?_
     refine iF ?_
     refine aQ ?_
     refine aQ ?_
     refine aR ?_
     refine iR 6 6 [(32, (pt m 0)), (33, (.bool false)), (34, (.bool false)), (35, (.pointer none)), (36, (.bool true)), (37, (.bool true))] ?_
     refine iF ?_
     refine V1 K (o := (.tmp 37)) K (b := true) K (fun n4 => ?_) (fun n4 => ?_)
     rotate_left
     ·cases n4
     refine aQ ?_
     refine At.join (fun ρ w => ∃ (f8 : Bool), V6 ρ [(4, (.bool f8))] ∧ SP [] w0 w [] ∧ X9 f8 = some r) ?_ ?_
     ·refine aR ?_
      refine iR 2 2 [(38, (.bool u)), (39, (.bool u))] ?_
      refine In.guard (t := 39) (b := u) K (fun j1 => ?_) (fun j1 => ?_)
      ·have H := ct H j1
       refine iR 7 9 [(40, (pt m 0)), (41, (.bool false)), (42, (.pointer none)), (43, (.bool true)), (44, (.bool (false == true))), (45, (.bool (false == true))), (4, (.bool (false == true)))] ?_
       refine iF ?_
       exact ⟨(false == true), ⟨K, trivial⟩, SP.sel n3 [] rfl rfl, H⟩
      ·have H := cf H j1
       refine iR 7 9 [(40, undef), (41, undef), (42, undef), (43, undef), (44, undef), (45, (.bool false)), (4, (.bool false))] ?_
       refine iF ?_
       exact ⟨false, ⟨K, trivial⟩, SP.sel n3 [] rfl rfl, H⟩
     ·rintro ρ v1 ⟨f8, hk, r0, H⟩
      unfold X9 at H
      first | refine At.known [(4, (.bool f8))] hk ?_ | rw [← Qv (l := [(4, (.bool f8))]) hk]
      refine At.ret K ?_
      refine ⟨(.bool f8), K, ?_⟩
      obtain rfl := Qe H
      exact ⟨rfl, SP.sel r0 [] rfl rfl⟩
    ·have H := optS H
     refine iS 2 ?_
     refine cF 19 #[(.tmp 30)] #[24] 31 Tryz.call19 (Uy A6 c7 a8 a9 b0 b1 d9 m9 (Dp.sp b4 g6) (some a4) n1) ?_
     rintro e r1 ⟨p, j2, j3, rfl, n5⟩
     refine ⟨_, rfl, ?_⟩
     have j4 := SP.call g6 n5
     clear n5
     refine iR 1 3 [(7, (pt p 0))] ?_
     refine iF ?_
     refine aQ ?_
     refine aQ ?_
     refine aR ?_
     refine iR 6 6 [(32, (pt m 0)), (33, (.bool false)), (34, (.bool false)), (35, (pt p 0)), (36, (.bool false)), (37, (.bool false))] ?_
     refine iF ?_
     refine V1 K (o := (.tmp 37)) K (b := false) K (fun n6 => ?_) (fun n6 => ?_)
     ·cases n6
     refine At.skip K ?_
     refine aQ ?_
     refine aR ?_
     refine iR 1 1 [(46, (pt m 0))] ?_
     obtain ⟨b5, r2, H⟩ := Qb H
     refine iS 2 ?_
     refine cF 33 #[(.tmp 46)] #[29] 47 Tryz.call33 (Dr m A6 c7 a0 a5.1 a5.2.1 a5.2.2.1 a5.2.2.2.1 d9 a5.2.2.2.2 r1 (Yd j4 [1, 2] rfl rfl) (fun w hm => Dp.mono _ (Nc j4 (l := [1, 2]) rfl hm) b4) b5 r2) ?_
     rintro e n7 ⟨q, rfl, n8⟩
     refine ⟨_, rfl, ?_⟩
     have j5 : SP [] w0 n7 [Qn c8 24 #[(.int .i64 a8), (.int .i64 a9), (.int .i64 b0), (.int .i64 b1), (.slice A6 (List.length (List.map stT d9)) c7)], Qn p 81 #[(.int .i64 a4.1), (.int .i64 a4.2.1), (.int .i64 a4.2.2.1), (.int .i64 a4.2.2.2.1), (.slice A6 (List.length (List.map stT d9)) c7), (.slice j2 (List.length a4.2.2.2.2) j3)], Yc 9 Qx j2 j3 a4.2.2.2.2, Qn q 95 #[(pt m 0), (Xj b5.1 q), (.string ⟨List.toArray b5.2.1⟩), (.string ⟨List.toArray b5.2.2.1⟩), (.string ⟨List.toArray b5.2.2.2.1⟩), (.bool b5.2.2.2.2)], Qn m 79 #[(.int .i64 a5.1), (.int .i64 a5.2.1), (.int .i64 a5.2.2.1), (.int .i64 a5.2.2.2.1), (.slice A6 (List.length (List.map stT d9)) c7), (.map (some a0))], V5 a0 a5.2.2.2.2] := Vv j4 [1, 2] [0, 3, 4] rfl rfl n8 rfl
     clear n8
     refine iR 1 3 [(8, (pt q 0))] ?_
     refine iF ?_
     refine aQ ?_
     refine aR ?_
     refine iR 1 1 [(48, (pt p 0))] ?_
     obtain ⟨d5, r3, H⟩ := Qb H
     refine iS 2 ?_
     refine cF 38 #[(.tmp 48)] #[31] 49 Tryz.call38 (C9 p A6 c7 j2 j3 a4.1 a4.2.1 a4.2.2.1 a4.2.2.2.1 d9 a4.2.2.2.2 n7 (Yd j5 [1, 2] rfl rfl) (fun w hm => Dp.mono _ (Nc j5 (l := [1, 2]) rfl hm) b4) d5 r3) ?_
     rintro e r4 ⟨a2, j6, j7, rfl, n9⟩
     refine ⟨_, rfl, ?_⟩
     have r5 : SP [] w0 r4 [Qn c8 24 #[(.int .i64 a8), (.int .i64 a9), (.int .i64 b0), (.int .i64 b1), (.slice A6 (List.length (List.map stT d9)) c7)], Qn q 95 #[(pt m 0), (Xj b5.1 q), (.string ⟨List.toArray b5.2.1⟩), (.string ⟨List.toArray b5.2.2.1⟩), (.string ⟨List.toArray b5.2.2.2.1⟩), (.bool b5.2.2.2.2)], Qn m 79 #[(.int .i64 a5.1), (.int .i64 a5.2.1), (.int .i64 a5.2.2.1), (.int .i64 a5.2.2.2.1), (.slice A6 (List.length (List.map stT d9)) c7), (.map (some a0))], V5 a0 a5.2.2.2.2, Qn a2 97 #[(pt p 0), (.int .i64 d5.1), (.string ⟨List.toArray d5.2.1⟩), (.string ⟨List.toArray d5.2.2.1⟩), (.string ⟨List.toArray d5.2.2.2⟩)], Qn p 81 #[(.int .i64 a4.1), (.int .i64 a4.2.1), (.int .i64 a4.2.2.1), (.int .i64 a4.2.2.2.1), (.slice A6 (List.length (List.map stT d9)) c7), (.slice j6 (List.length a4.2.2.2.2) j7)], Yc 9 Qx j6 j7 a4.2.2.2.2] := Vv j5 [1, 2] [0, 3, 4, 5] rfl rfl n9 rfl
     clear n9
     refine iR 1 3 [(9, (pt a2 0))] ?_
     refine iF ?_
     refine aQ ?_
     refine aQ ?_
     refine aR ?_
     refine iR 2 2 [(50, (pt q 0)), (51, (.bool false))] ?_
     refine iF ?_
     refine V1 K (o := (.tmp 51)) K (b := false) K (fun o0 => ?_) (fun o0 => ?_)
     ·cases o0
     refine At.skip K ?_
     refine aQ ?_
     refine aQ ?_
     refine aR ?_
     refine iR 1 1 [(10, (.int .i64 0))] ?_
     refine iF ?_
     refine Z1 K (id := 0) K ?_
     refine Nl K (fun g7 ρ w => ∃ (e7 : Int) (e8 : Int) (e9 : Int) (f0 : Int) (f1 : Uw) (e1 : Int) (e2 : Int) (e3 : Int) (e4 : Int) (c9 : (List (List UInt8))) (d0 : Int) (d1 : (List UInt8)) (d2 : (List UInt8)) (d3 : (List UInt8)) (d4 : Bool) (c3 : Int) (c4 : (List UInt8)) (c5 : (List UInt8)) (c6 : (List UInt8)) (a3 : Int) (e5 : Option Addr) (e6 : Nat), V6 ρ [(1, (.slice a6 (List.length a1) a7)), (5, (.bool u)), (6, (pt m 0)), (7, (pt p 0)), (8, (pt q 0)), (9, (pt a2 0)), (10, (.int .i64 a3))] ∧ SP [] w0 w [Qn m 79 #[(.int .i64 e7), (.int .i64 e8), (.int .i64 e9), (.int .i64 f0), (.slice A6 (List.length (List.map stT d9)) c7), (.map (some a0))], V5 a0 f1, Yc 9 Qx e5 e6 c9, Qn p 81 #[(.int .i64 e1), (.int .i64 e2), (.int .i64 e3), (.int .i64 e4), (.slice A6 (List.length (List.map stT d9)) c7), (.slice e5 (List.length c9) e6)], Qn q 95 #[(pt m 0), (Xj d0 q), (.string ⟨List.toArray d1⟩), (.string ⟨List.toArray d2⟩), (.string ⟨List.toArray d3⟩), (.bool d4)], Qn a2 97 #[(pt p 0), (.int .i64 c3), (.string ⟨List.toArray c4⟩), (.string ⟨List.toArray c5⟩), (.string ⟨List.toArray c6⟩)]] ∧ Vg (List.map stT d9) a1 u g7 e7 e8 e9 f0 f1 e1 e2 e3 e4 c9 d0 d1 d2 d3 d4 c3 c4 c5 c6 a3 = some r) (by rintro ρ w ⟨e7, e8, e9, f0, f1, e1, e2, e3, e4, c9, d0, d1, d2, d3, d4, c3, c4, c5, c6, a3, e5, e6, hk, hs, H⟩; cases H) ?_ Zj ?_
     ·rintro g7 ρ v2 ⟨e7, e8, e9, f0, f1, e1, e2, e3, e4, c9, d0, d1, d2, d3, d4, c3, c4, c5, c6, a3, e5, e6, hk, h7, H⟩
      refine At.known [(1, (.slice a6 (List.length a1) a7)), (5, (.bool u)), (6, (pt m 0)), (7, (pt p 0)), (8, (pt q 0)), (9, (pt a2 0)), (10, (.int .i64 a3))] hk ?_
      replace H := (show Zp (Vg (List.map stT d9) a1 u g7) (List.map stT d9) a1 u e7 e8 e9 f0 f1 e1 e2 e3 e4 c9 d0 d1 d2 d3 d4 c3 c4 c5 c6 a3 = some r from H)
      unfold Zp at H
      refine aQ ?_
      refine aQ ?_
      refine aR ?_
      refine iR 4 4 [(52, (.int .i64 a3)), (53, (.slice a6 (List.length a1) a7)), (54, (.int .i64 ((List.length a1 : Nat) : Int))), (55, (.bool (decide (a3 < ((List.length a1 : Nat) : Int)))))] ?_
      refine iF ?_
      refine V1 K (o := (.tmp 55)) K (b := (decide (a3 < ((List.length a1 : Nat) : Int)))) K (fun j8 => ?_) (fun j8 => ?_)
      ·have H := ct H j8
       refine At.skip K ?_
       refine aQ ?_
       refine Z1 K (id := 1) K ?_
       refine aQ ?_
       refine aR ?_
       refine iR 2 2 [(58, (.slice a6 (List.length a1) a7)), (59, (.int .i64 a3))] ?_
       obtain ⟨h, o1, o2, r6, H⟩ := Qo H
       refine iS 3 ?_
       refine Vi (e := (Qj (Qc .i64) (Qj (Qc .i64) (Qj Qx (Qj Qx (Qj (Qc .i64) (Qj (Qc .i64) (Qj (Qc .i64) Qx)))))))) (l := a1) (A := a6) (c := a7) (T := 58) (E := 67) (x := (.tmp 58)) (ix := (.tmp 59)) (ki := .i64) (iz := a3) (d := (some 60)) (k := 2) K rfl K K K K (RdT.sp i2 h7) o1 o2 ?_
       intro r7 r8 r9 v3 hc610
       refine iS 4 ?_
       refine Qi.cells (t := 67) (x := (.tmp 60)) (b := r7) (off := (r8 + Int.toNat a3 * (Qj (Qc .i64) (Qj (Qc .i64) (Qj Qx (Qj Qx (Qj (Qc .i64) (Qj (Qc .i64) (Qj (Qc .i64) Qx))))))).sz)) (xs := [(.int .i64 h.1), (.int .i64 h.2.1), (.string ⟨List.toArray h.2.2.1⟩), (.string ⟨List.toArray h.2.2.2.1⟩), (.int .i64 h.2.2.2.2.1), (.int .i64 h.2.2.2.2.2.1), (.int .i64 h.2.2.2.2.2.2.1), (.string ⟨List.toArray h.2.2.2.2.2.2.2⟩)]) (d := (some 61)) (k := 3) K rfl K K K (Z2 (e := (Qj (Qc .i64) (Qj (Qc .i64) (Qj Qx (Qj Qx (Qj (Qc .i64) (Qj (Qc .i64) (Qj (Qc .i64) Qx)))))))) (Qh (RdT.sp i2 h7) r9 o1 o2) r6 rfl) ?_
       refine iS 5 ?_
       refine Qi.alloc (t := 67) (z := (.agg #[(.int .i64 0), (.int .i64 0), (.string ⟨List.toArray ([] : List UInt8)⟩), (.string ⟨List.toArray ([] : List UInt8)⟩), (.int .i64 0), (.int .i64 0), (.int .i64 0), (.string ⟨List.toArray ([] : List UInt8)⟩)])) (d := (some 11)) (k := 4) K rfl K h7 ?_
       intro s v4 s0
       refine iS 6 ?_
       refine Qi.store (t := 67) (x := (.tmp 11)) (y := (.tmp 61)) (g := s) (off := 0) (i := 6) (v := (.agg #[(.int .i64 h.1), (.int .i64 h.2.1), (.string ⟨List.toArray h.2.2.1⟩), (.string ⟨List.toArray h.2.2.2.1⟩), (.int .i64 h.2.2.2.2.1), (.int .i64 h.2.2.2.2.2.1), (.int .i64 h.2.2.2.2.2.2.1), (.string ⟨List.toArray h.2.2.2.2.2.2.2⟩)])) (cs' := #[(.int .i64 h.1), (.int .i64 h.2.1), (.string ⟨List.toArray h.2.2.1⟩), (.string ⟨List.toArray h.2.2.2.1⟩), (.int .i64 h.2.2.2.2.1), (.int .i64 h.2.2.2.2.2.1), (.int .i64 h.2.2.2.2.2.2.1), (.string ⟨List.toArray h.2.2.2.2.2.2.2⟩)]) (d := none) (k := 5) K rfl K K s0 rfl K ?_
       intro s1 f2
       refine iF ?_
       refine aQ ?_
       refine aQ ?_
       refine aR ?_
       refine iR 1 1 [(62, (pt s 0))] ?_
       refine iS 2 ?_
       refine sL 3 62 s 0 6 (.int .i64 h.1) 63 f2 rfl ?_
       refine iR 1 3 [(64, (.bool (h.1 == 1)))] ?_
       refine iF ?_
       refine At.join (fun ρ w => ∃ (b7 : Int) (b8 : Int) (b9 : Int) (c0 : Int) (c1 : Uw) (g8 : Int) (g9 : Int) (h1 : Int) (h2 : Int) (f3 : (List (List UInt8))) (f9 : Option Addr) (g0 : Nat), V6 ρ [(1, (.slice a6 (List.length a1) a7)), (5, (.bool u)), (6, (pt m 0)), (7, (pt p 0)), (8, (pt q 0)), (9, (pt a2 0)), (10, (.int .i64 a3)), (11, (pt s 0))] ∧ SP [] w0 w [Qn m 79 #[(.int .i64 b7), (.int .i64 b8), (.int .i64 b9), (.int .i64 c0), (.slice A6 (List.length (List.map stT d9)) c7), (.map (some a0))], V5 a0 c1, Yc 9 Qx f9 g0 f3, Qn p 81 #[(.int .i64 g8), (.int .i64 g9), (.int .i64 h1), (.int .i64 h2), (.slice A6 (List.length (List.map stT d9)) c7), (.slice f9 (List.length f3) g0)], Qn q 95 #[(pt m 0), (Xj d0 q), (.string ⟨List.toArray d1⟩), (.string ⟨List.toArray d2⟩), (.string ⟨List.toArray d3⟩), (.bool d4)], Qn a2 97 #[(pt p 0), (.int .i64 c3), (.string ⟨List.toArray c4⟩), (.string ⟨List.toArray c5⟩), (.string ⟨List.toArray c6⟩)], Qn s 67 #[(.int .i64 h.1), (.int .i64 h.2.1), (.string ⟨List.toArray h.2.2.1⟩), (.string ⟨List.toArray h.2.2.2.1⟩), (.int .i64 h.2.2.2.2.1), (.int .i64 h.2.2.2.2.2.1), (.int .i64 h.2.2.2.2.2.2.1), (.string ⟨List.toArray h.2.2.2.2.2.2.2⟩)]] ∧ Zy (Vg (List.map stT d9) a1 u g7) (List.map stT d9) d0 d1 d2 d3 d4 c3 c4 c5 c6 a3 h b7 b8 b9 c0 c1 g8 g9 h1 h2 f3 = some r) ?_ ?_
       ·refine V1 K (o := (.tmp 64)) K (b := (h.1 == 1)) K (fun j9 => ?_) (fun j9 => ?_)
        ·have H := ct H j9
         refine aQ ?_
         refine aR ?_
         refine iR 3 3 [(65, (pt m 0)), (66, (pt s 1)), (67, (pt s 2))] ?_
         refine iS 4 ?_
         refine sL 9 67 s 2 6 (.string ⟨List.toArray h.2.2.1⟩) 68 f2 rfl ?_
         refine iR 2 6 [(69, (pt s 1)), (70, (pt s 3))] ?_
         refine iS 7 ?_
         refine sL 9 70 s 3 6 (.string ⟨List.toArray h.2.2.2.1⟩) 71 f2 rfl ?_
         obtain ⟨b6, s2, H⟩ := Qb H
         refine iS 8 ?_
         refine cF 20 #[(.tmp 65), (.tmp 68), (.tmp 71)] #[29, 9, 9] 72 Tryz.call20 (Bq m A6 c7 a0 e7 e8 e9 f0 d9 f1 h.2.2.1 h.2.2.2.1 s1 (Yd f2 [0, 1] rfl rfl) (fun w hm => Dp.mono _ (Nc f2 (l := [0, 1]) rfl hm) b4) b6 s2) ?_
         rintro e o3 ⟨rfl, o4⟩
         refine ⟨_, rfl, ?_⟩
         have h3 : SP [] w0 o3 [Yc 9 Qx e5 e6 c9, Qn p 81 #[(.int .i64 e1), (.int .i64 e2), (.int .i64 e3), (.int .i64 e4), (.slice A6 (List.length (List.map stT d9)) c7), (.slice e5 (List.length c9) e6)], Qn q 95 #[(pt m 0), (Xj d0 q), (.string ⟨List.toArray d1⟩), (.string ⟨List.toArray d2⟩), (.string ⟨List.toArray d3⟩), (.bool d4)], Qn a2 97 #[(pt p 0), (.int .i64 c3), (.string ⟨List.toArray c4⟩), (.string ⟨List.toArray c5⟩), (.string ⟨List.toArray c6⟩)], Qn s 67 #[(.int .i64 h.1), (.int .i64 h.2.1), (.string ⟨List.toArray h.2.2.1⟩), (.string ⟨List.toArray h.2.2.2.1⟩), (.int .i64 h.2.2.2.2.1), (.int .i64 h.2.2.2.2.2.1), (.int .i64 h.2.2.2.2.2.2.1), (.string ⟨List.toArray h.2.2.2.2.2.2.2⟩)], Qn m 79 #[(.int .i64 b6.2.1), (.int .i64 b6.2.2.1), (.int .i64 b6.2.2.2.1), (.int .i64 b6.2.2.2.2.1), (.slice A6 (List.length (List.map stT d9)) c7), (.map (some a0))], V5 a0 b6.2.2.2.2.2] := Vv f2 [0, 1] [2, 3, 4, 5, 6] rfl rfl o4 rfl
         clear o4
         refine iF ?_
         refine aR ?_
         refine iR 3 3 [(73, (pt p 0)), (74, (pt s 1)), (75, (pt s 2))] ?_
         refine iS 4 ?_
         refine sL 9 75 s 2 4 (.string ⟨List.toArray h.2.2.1⟩) 76 h3 rfl ?_
         refine iR 2 6 [(77, (pt s 1)), (78, (pt s 3))] ?_
         refine iS 7 ?_
         refine sL 9 78 s 3 4 (.string ⟨List.toArray h.2.2.2.1⟩) 79 h3 rfl ?_
         obtain ⟨c2, s3, H⟩ := Qb H
         refine iS 8 ?_
         refine cF 21 #[(.tmp 73), (.tmp 76), (.tmp 79)] #[31, 9, 9] 80 Tryz.call21 (Dc p A6 c7 e5 e6 e1 e2 e3 e4 d9 c9 h.2.2.1 h.2.2.2.1 o3 (Yd h3 [1, 0] rfl rfl) (fun w hm => Dp.mono _ (Nc h3 (l := [1, 0]) rfl hm) b4) c2 s3) ?_
         rintro e s4 ⟨k1, k2, rfl, o5⟩
         refine ⟨_, rfl, ?_⟩
         have s5 : SP [] w0 s4 [Qn q 95 #[(pt m 0), (Xj d0 q), (.string ⟨List.toArray d1⟩), (.string ⟨List.toArray d2⟩), (.string ⟨List.toArray d3⟩), (.bool d4)], Qn a2 97 #[(pt p 0), (.int .i64 c3), (.string ⟨List.toArray c4⟩), (.string ⟨List.toArray c5⟩), (.string ⟨List.toArray c6⟩)], Qn s 67 #[(.int .i64 h.1), (.int .i64 h.2.1), (.string ⟨List.toArray h.2.2.1⟩), (.string ⟨List.toArray h.2.2.2.1⟩), (.int .i64 h.2.2.2.2.1), (.int .i64 h.2.2.2.2.2.1), (.int .i64 h.2.2.2.2.2.2.1), (.string ⟨List.toArray h.2.2.2.2.2.2.2⟩)], Qn m 79 #[(.int .i64 b6.2.1), (.int .i64 b6.2.2.1), (.int .i64 b6.2.2.2.1), (.int .i64 b6.2.2.2.2.1), (.slice A6 (List.length (List.map stT d9)) c7), (.map (some a0))], V5 a0 b6.2.2.2.2.2, Qn p 81 #[(.int .i64 c2.2.1), (.int .i64 c2.2.2.1), (.int .i64 c2.2.2.2.1), (.int .i64 c2.2.2.2.2.1), (.slice A6 (List.length (List.map stT d9)) c7), (.slice k1 (List.length c2.2.2.2.2.2) k2)], Yc 9 Qx k1 k2 c2.2.2.2.2.2] := Vv h3 [1, 0] [2, 3, 4, 5, 6] rfl rfl o5 rfl
         clear o5
         refine iF ?_
         exact ⟨b6.2.1, b6.2.2.1, b6.2.2.2.1, b6.2.2.2.2.1, b6.2.2.2.2.2, c2.2.1, c2.2.2.1, c2.2.2.2.1, c2.2.2.2.2.1, c2.2.2.2.2.2, k1, k2, ⟨K, K, K, K, K, K, K, K, trivial⟩, SP.sel s5 [3, 4, 6, 5, 0, 1, 2] rfl rfl, H⟩
        ·have H := cf H j9
         refine At.skip K ?_
         exact ⟨e7, e8, e9, f0, f1, e1, e2, e3, e4, c9, e5, e6, ⟨K, K, K, K, K, K, K, K, trivial⟩, SP.sel f2 [0, 1, 2, 3, 4, 5, 6] rfl rfl, H⟩
       ·rintro ρ s6 ⟨b7, b8, b9, c0, c1, g8, g9, h1, h2, f3, f9, g0, hk, g1, H⟩
        unfold Zy at H
        first | refine At.known [(1, (.slice a6 (List.length a1) a7)), (5, (.bool u)), (6, (pt m 0)), (7, (pt p 0)), (8, (pt q 0)), (9, (pt a2 0)), (10, (.int .i64 a3)), (11, (pt s 0))] hk ?_ | rw [← Qv (l := [(1, (.slice a6 (List.length a1) a7)), (5, (.bool u)), (6, (pt m 0)), (7, (pt p 0)), (8, (pt q 0)), (9, (pt a2 0)), (10, (.int .i64 a3)), (11, (pt s 0))]) hk]
        refine aQ ?_
        refine aR ?_
        refine iR 2 2 [(82, (pt q 0)), (83, (pt s 1))] ?_
        refine iS 3 ?_
        refine sL 63 83 s 1 6 (.agg #[(.int .i64 h.2.1), (.string ⟨List.toArray h.2.2.1⟩), (.string ⟨List.toArray h.2.2.2.1⟩), (.int .i64 h.2.2.2.2.1), (.int .i64 h.2.2.2.2.2.1)]) 84 g1 rfl ?_
        refine iR 1 4 [(85, (pt s 6))] ?_
        refine iS 5 ?_
        refine sL 2 85 s 6 6 (.int .i64 h.2.2.2.2.2.2.1) 86 g1 rfl ?_
        refine iR 1 6 [(87, (pt s 7))] ?_
        refine iS 7 ?_
        refine sL 9 87 s 7 6 (.string ⟨List.toArray h.2.2.2.2.2.2.2⟩) 88 g1 rfl ?_
        obtain ⟨j, s7, H⟩ := Qb H
        refine iS 8 ?_
        refine cF 34 #[(.tmp 82), (.tmp 84), (.tmp 86), (.tmp 88)] #[60, 63, 2, 9] 89 Tryz.call34 (Y7 q m A6 c7 a0 b7 b8 b9 c0 d9 c1 d0 d1 d2 d3 d4 h.2.1 h.2.2.1 h.2.2.2.1 h.2.2.2.2.1 h.2.2.2.2.2.1 h.2.2.2.2.2.2.1 h.2.2.2.2.2.2.2 s6 (Yd g1 [0, 1, 4] rfl rfl) (fun w hm => Dp.mono _ (Nc g1 (l := [0, 1, 4]) rfl hm) b4) j s7) ?_
        rintro e s8 ⟨rfl, o6⟩
        refine ⟨_, rfl, ?_⟩
        have s9 : SP [] w0 s8 [Yc 9 Qx f9 g0 f3, Qn p 81 #[(.int .i64 g8), (.int .i64 g9), (.int .i64 h1), (.int .i64 h2), (.slice A6 (List.length (List.map stT d9)) c7), (.slice f9 (List.length f3) g0)], Qn a2 97 #[(pt p 0), (.int .i64 c3), (.string ⟨List.toArray c4⟩), (.string ⟨List.toArray c5⟩), (.string ⟨List.toArray c6⟩)], Qn s 67 #[(.int .i64 h.1), (.int .i64 h.2.1), (.string ⟨List.toArray h.2.2.1⟩), (.string ⟨List.toArray h.2.2.2.1⟩), (.int .i64 h.2.2.2.2.1), (.int .i64 h.2.2.2.2.2.1), (.int .i64 h.2.2.2.2.2.2.1), (.string ⟨List.toArray h.2.2.2.2.2.2.2⟩)], Qn m 79 #[(.int .i64 b7), (.int .i64 b8), (.int .i64 b9), (.int .i64 c0), (.slice A6 (List.length (List.map stT d9)) c7), (.map (some a0))], V5 a0 c1, Qn q 95 #[(pt m 0), (Xj j.2.2.2.2.2.2.1 q), (.string ⟨List.toArray j.2.2.2.2.2.2.2.1⟩), (.string ⟨List.toArray j.2.2.2.2.2.2.2.2.1⟩), (.string ⟨List.toArray j.2.2.2.2.2.2.2.2.2.1⟩), (.bool j.2.2.2.2.2.2.2.2.2.2)]] := Vv g1 [0, 1, 4] [2, 3, 5, 6] rfl rfl o6 rfl
        clear o6
        refine iR 3 11 [(81, (.tuple #[(.agg #[(.int .i64 j.1), (.string ⟨List.toArray j.2.1⟩), (.string ⟨List.toArray j.2.2.1⟩), (.int .i64 j.2.2.2.1), (.int .i64 j.2.2.2.2.1)]), (.bool j.2.2.2.2.2.1)])), (90, (.agg #[(.int .i64 j.1), (.string ⟨List.toArray j.2.1⟩), (.string ⟨List.toArray j.2.2.1⟩), (.int .i64 j.2.2.2.1), (.int .i64 j.2.2.2.2.1)])), (91, (.bool j.2.2.2.2.2.1))] ?_
        refine iS 12 ?_
        refine Qi.alloc (t := 63) (z := (.agg #[(.int .i64 0), (.string ⟨List.toArray ([] : List UInt8)⟩), (.string ⟨List.toArray ([] : List UInt8)⟩), (.int .i64 0), (.int .i64 0)])) (d := (some 12)) (k := 11) K rfl K s9 ?_
        intro f4 v5 t0
        refine iS 13 ?_
        refine Qi.store (t := 63) (x := (.tmp 12)) (y := (.tmp 90)) (g := f4) (off := 0) (i := 7) (v := (.agg #[(.int .i64 j.1), (.string ⟨List.toArray j.2.1⟩), (.string ⟨List.toArray j.2.2.1⟩), (.int .i64 j.2.2.2.1), (.int .i64 j.2.2.2.2.1)])) (cs' := #[(.int .i64 j.1), (.string ⟨List.toArray j.2.1⟩), (.string ⟨List.toArray j.2.2.1⟩), (.int .i64 j.2.2.2.1), (.int .i64 j.2.2.2.2.1)]) (d := none) (k := 12) K rfl K K t0 rfl K ?_
        intro t1 g2
        refine iR 1 14 [(13, (.bool j.2.2.2.2.2.1))] ?_
        refine iF ?_
        refine aQ ?_
        refine aR ?_
        refine iR 2 2 [(93, (pt a2 0)), (94, (pt s 1))] ?_
        refine iS 3 ?_
        refine sL 63 94 s 1 3 (.agg #[(.int .i64 h.2.1), (.string ⟨List.toArray h.2.2.1⟩), (.string ⟨List.toArray h.2.2.2.1⟩), (.int .i64 h.2.2.2.2.1), (.int .i64 h.2.2.2.2.2.1)]) 95 g2 rfl ?_
        refine iR 1 4 [(96, (pt s 6))] ?_
        refine iS 5 ?_
        refine sL 2 96 s 6 3 (.int .i64 h.2.2.2.2.2.2.1) 97 g2 rfl ?_
        refine iR 1 6 [(98, (pt s 7))] ?_
        refine iS 7 ?_
        refine sL 9 98 s 7 3 (.string ⟨List.toArray h.2.2.2.2.2.2.2⟩) 99 g2 rfl ?_
        obtain ⟨f, t2, H⟩ := Qb H
        refine iS 8 ?_
        refine cF 39 #[(.tmp 93), (.tmp 95), (.tmp 97), (.tmp 99)] #[73, 63, 2, 9] 100 Tryz.call39 (Dt a2 p A6 c7 f9 g0 g8 g9 h1 h2 d9 f3 c3 c4 c5 c6 h.2.1 h.2.2.1 h.2.2.2.1 h.2.2.2.2.1 h.2.2.2.2.2.1 h.2.2.2.2.2.2.1 h.2.2.2.2.2.2.2 t1 (Yd g2 [1, 0, 2] rfl rfl) (fun w hm => Dp.mono _ (Nc g2 (l := [1, 0, 2]) rfl hm) b4) f t2) ?_
        rintro e t3 ⟨h4, h5, rfl, o7⟩
        refine ⟨_, rfl, ?_⟩
        have t4 : SP [] w0 t3 [Qn s 67 #[(.int .i64 h.1), (.int .i64 h.2.1), (.string ⟨List.toArray h.2.2.1⟩), (.string ⟨List.toArray h.2.2.2.1⟩), (.int .i64 h.2.2.2.2.1), (.int .i64 h.2.2.2.2.2.1), (.int .i64 h.2.2.2.2.2.2.1), (.string ⟨List.toArray h.2.2.2.2.2.2.2⟩)], Qn m 79 #[(.int .i64 b7), (.int .i64 b8), (.int .i64 b9), (.int .i64 c0), (.slice A6 (List.length (List.map stT d9)) c7), (.map (some a0))], V5 a0 c1, Qn q 95 #[(pt m 0), (Xj j.2.2.2.2.2.2.1 q), (.string ⟨List.toArray j.2.2.2.2.2.2.2.1⟩), (.string ⟨List.toArray j.2.2.2.2.2.2.2.2.1⟩), (.string ⟨List.toArray j.2.2.2.2.2.2.2.2.2.1⟩), (.bool j.2.2.2.2.2.2.2.2.2.2)], Qn f4 63 #[(.int .i64 j.1), (.string ⟨List.toArray j.2.1⟩), (.string ⟨List.toArray j.2.2.1⟩), (.int .i64 j.2.2.2.1), (.int .i64 j.2.2.2.2.1)], Qn p 81 #[(.int .i64 f.2.2.2.2.2.2.1), (.int .i64 f.2.2.2.2.2.2.2.1), (.int .i64 f.2.2.2.2.2.2.2.2.1), (.int .i64 f.2.2.2.2.2.2.2.2.2.1), (.slice A6 (List.length (List.map stT d9)) c7), (.slice h4 (List.length f.2.2.2.2.2.2.2.2.2.2.1) h5)], Yc 9 Qx h4 h5 f.2.2.2.2.2.2.2.2.2.2.1, Qn a2 97 #[(pt p 0), (.int .i64 f.2.2.2.2.2.2.2.2.2.2.2.1), (.string ⟨List.toArray f.2.2.2.2.2.2.2.2.2.2.2.2.1⟩), (.string ⟨List.toArray f.2.2.2.2.2.2.2.2.2.2.2.2.2.1⟩), (.string ⟨List.toArray f.2.2.2.2.2.2.2.2.2.2.2.2.2.2⟩)]] := Vv g2 [1, 0, 2] [3, 4, 5, 6, 7] rfl rfl o7 rfl
        clear o7
        refine iR 3 11 [(92, (.tuple #[(.agg #[(.int .i64 f.1), (.string ⟨List.toArray f.2.1⟩), (.string ⟨List.toArray f.2.2.1⟩), (.int .i64 f.2.2.2.1), (.int .i64 f.2.2.2.2.1)]), (.bool f.2.2.2.2.2.1)])), (101, (.agg #[(.int .i64 f.1), (.string ⟨List.toArray f.2.1⟩), (.string ⟨List.toArray f.2.2.1⟩), (.int .i64 f.2.2.2.1), (.int .i64 f.2.2.2.2.1)])), (102, (.bool f.2.2.2.2.2.1))] ?_
        refine iS 12 ?_
        refine Qi.alloc (t := 63) (z := (.agg #[(.int .i64 0), (.string ⟨List.toArray ([] : List UInt8)⟩), (.string ⟨List.toArray ([] : List UInt8)⟩), (.int .i64 0), (.int .i64 0)])) (d := (some 14)) (k := 11) K rfl K t4 ?_
        intro g3 v6 t5
        refine iS 13 ?_
        refine Qi.store (t := 63) (x := (.tmp 14)) (y := (.tmp 101)) (g := g3) (off := 0) (i := 8) (v := (.agg #[(.int .i64 f.1), (.string ⟨List.toArray f.2.1⟩), (.string ⟨List.toArray f.2.2.1⟩), (.int .i64 f.2.2.2.1), (.int .i64 f.2.2.2.2.1)])) (cs' := #[(.int .i64 f.1), (.string ⟨List.toArray f.2.1⟩), (.string ⟨List.toArray f.2.2.1⟩), (.int .i64 f.2.2.2.1), (.int .i64 f.2.2.2.2.1)]) (d := none) (k := 12) K rfl K K t5 rfl K ?_
        intro t6 k3
        refine iR 1 14 [(15, (.bool f.2.2.2.2.2.1))] ?_
        refine iF ?_
        refine aQ ?_
        refine aR ?_
        refine iR 1 1 [(104, (pt q 0))] ?_
        obtain ⟨b2, t7, H⟩ := Qb H
        refine iS 2 ?_
        refine cF 35 #[(.tmp 104)] #[60] 105 Tryz.call35 (Gj q m A6 c7 a0 b7 b8 b9 c0 d9 c1 j.2.2.2.2.2.2.1 j.2.2.2.2.2.2.2.1 j.2.2.2.2.2.2.2.2.1 j.2.2.2.2.2.2.2.2.2.1 j.2.2.2.2.2.2.2.2.2.2 t6 (Yd k3 [1, 2, 3] rfl rfl) (fun w hm => Dp.mono _ (Nc k3 (l := [1, 2, 3]) rfl hm) b4) b2 t7) ?_
        rintro e o8 ⟨rfl, o9⟩
        refine ⟨_, rfl, ?_⟩
        have k4 : SP [] w0 o8 [Qn s 67 #[(.int .i64 h.1), (.int .i64 h.2.1), (.string ⟨List.toArray h.2.2.1⟩), (.string ⟨List.toArray h.2.2.2.1⟩), (.int .i64 h.2.2.2.2.1), (.int .i64 h.2.2.2.2.2.1), (.int .i64 h.2.2.2.2.2.2.1), (.string ⟨List.toArray h.2.2.2.2.2.2.2⟩)], Qn f4 63 #[(.int .i64 j.1), (.string ⟨List.toArray j.2.1⟩), (.string ⟨List.toArray j.2.2.1⟩), (.int .i64 j.2.2.2.1), (.int .i64 j.2.2.2.2.1)], Qn p 81 #[(.int .i64 f.2.2.2.2.2.2.1), (.int .i64 f.2.2.2.2.2.2.2.1), (.int .i64 f.2.2.2.2.2.2.2.2.1), (.int .i64 f.2.2.2.2.2.2.2.2.2.1), (.slice A6 (List.length (List.map stT d9)) c7), (.slice h4 (List.length f.2.2.2.2.2.2.2.2.2.2.1) h5)], Yc 9 Qx h4 h5 f.2.2.2.2.2.2.2.2.2.2.1, Qn a2 97 #[(pt p 0), (.int .i64 f.2.2.2.2.2.2.2.2.2.2.2.1), (.string ⟨List.toArray f.2.2.2.2.2.2.2.2.2.2.2.2.1⟩), (.string ⟨List.toArray f.2.2.2.2.2.2.2.2.2.2.2.2.2.1⟩), (.string ⟨List.toArray f.2.2.2.2.2.2.2.2.2.2.2.2.2.2⟩)], Qn g3 63 #[(.int .i64 f.1), (.string ⟨List.toArray f.2.1⟩), (.string ⟨List.toArray f.2.2.1⟩), (.int .i64 f.2.2.2.1), (.int .i64 f.2.2.2.2.1)], Qn m 79 #[(.int .i64 b7), (.int .i64 b8), (.int .i64 b9), (.int .i64 c0), (.slice A6 (List.length (List.map stT d9)) c7), (.map (some a0))], V5 a0 c1, Qn q 95 #[(pt m 0), (Xj j.2.2.2.2.2.2.1 q), (.string ⟨List.toArray j.2.2.2.2.2.2.2.1⟩), (.string ⟨List.toArray j.2.2.2.2.2.2.2.2.1⟩), (.string ⟨List.toArray j.2.2.2.2.2.2.2.2.2.1⟩), (.bool j.2.2.2.2.2.2.2.2.2.2)]] := Vv k3 [1, 2, 3] [0, 4, 5, 6, 7, 8] rfl rfl o9 rfl
        clear o9
        refine iR 5 7 [(103, (.tuple #[(.string ⟨List.toArray b2.1⟩), (.bool b2.2)])), (106, (.string ⟨List.toArray b2.1⟩)), (107, (.bool b2.2)), (16, (.string ⟨List.toArray b2.1⟩)), (17, (.bool b2.2))] ?_
        refine iF ?_
        refine aQ ?_
        refine aR ?_
        refine iR 1 1 [(109, (pt a2 0))] ?_
        obtain ⟨b3, t8, H⟩ := Qb H
        refine iS 2 ?_
        refine cF 40 #[(.tmp 109)] #[73] 110 Tryz.call40 (D0 a2 p A6 c7 h4 h5 f.2.2.2.2.2.2.1 f.2.2.2.2.2.2.2.1 f.2.2.2.2.2.2.2.2.1 f.2.2.2.2.2.2.2.2.2.1 d9 f.2.2.2.2.2.2.2.2.2.2.1 f.2.2.2.2.2.2.2.2.2.2.2.1 f.2.2.2.2.2.2.2.2.2.2.2.2.1 f.2.2.2.2.2.2.2.2.2.2.2.2.2.1 f.2.2.2.2.2.2.2.2.2.2.2.2.2.2 o8 (Yd k4 [2, 3, 4] rfl rfl) (fun w hm => Dp.mono _ (Nc k4 (l := [2, 3, 4]) rfl hm) b4) b3 t8) ?_
        rintro e p0 ⟨d6, d7, rfl, p1⟩
        refine ⟨_, rfl, ?_⟩
        have d8 : SP [] w0 p0 [Qn s 67 #[(.int .i64 h.1), (.int .i64 h.2.1), (.string ⟨List.toArray h.2.2.1⟩), (.string ⟨List.toArray h.2.2.2.1⟩), (.int .i64 h.2.2.2.2.1), (.int .i64 h.2.2.2.2.2.1), (.int .i64 h.2.2.2.2.2.2.1), (.string ⟨List.toArray h.2.2.2.2.2.2.2⟩)], Qn f4 63 #[(.int .i64 j.1), (.string ⟨List.toArray j.2.1⟩), (.string ⟨List.toArray j.2.2.1⟩), (.int .i64 j.2.2.2.1), (.int .i64 j.2.2.2.2.1)], Qn g3 63 #[(.int .i64 f.1), (.string ⟨List.toArray f.2.1⟩), (.string ⟨List.toArray f.2.2.1⟩), (.int .i64 f.2.2.2.1), (.int .i64 f.2.2.2.2.1)], Qn m 79 #[(.int .i64 b7), (.int .i64 b8), (.int .i64 b9), (.int .i64 c0), (.slice A6 (List.length (List.map stT d9)) c7), (.map (some a0))], V5 a0 c1, Qn q 95 #[(pt m 0), (Xj j.2.2.2.2.2.2.1 q), (.string ⟨List.toArray j.2.2.2.2.2.2.2.1⟩), (.string ⟨List.toArray j.2.2.2.2.2.2.2.2.1⟩), (.string ⟨List.toArray j.2.2.2.2.2.2.2.2.2.1⟩), (.bool j.2.2.2.2.2.2.2.2.2.2)], Qn p 81 #[(.int .i64 f.2.2.2.2.2.2.1), (.int .i64 f.2.2.2.2.2.2.2.1), (.int .i64 f.2.2.2.2.2.2.2.2.1), (.int .i64 f.2.2.2.2.2.2.2.2.2.1), (.slice A6 (List.length (List.map stT d9)) c7), (.slice d6 (List.length f.2.2.2.2.2.2.2.2.2.2.1) d7)], Yc 9 Qx d6 d7 f.2.2.2.2.2.2.2.2.2.2.1, Qn a2 97 #[(pt p 0), (.int .i64 f.2.2.2.2.2.2.2.2.2.2.2.1), (.string ⟨List.toArray f.2.2.2.2.2.2.2.2.2.2.2.2.1⟩), (.string ⟨List.toArray f.2.2.2.2.2.2.2.2.2.2.2.2.2.1⟩), (.string ⟨List.toArray f.2.2.2.2.2.2.2.2.2.2.2.2.2.2⟩)]] := Vv k4 [2, 3, 4] [0, 1, 5, 6, 7, 8] rfl rfl p1 rfl
        clear p1
        refine iR 5 7 [(108, (.tuple #[(.string ⟨List.toArray b3.1⟩), (.bool b3.2)])), (111, (.string ⟨List.toArray b3.1⟩)), (112, (.bool b3.2)), (18, (.string ⟨List.toArray b3.1⟩)), (19, (.bool b3.2))] ?_
        refine iF ?_
        refine aQ ?_
        refine At.join (fun ρ w => ∃ (h6 : (List (List UInt8))) (g4 : Bool) (h8 : Option Addr) (h9 : Nat), V6 ρ [(1, (.slice a6 (List.length a1) a7)), (5, (.bool u)), (6, (pt m 0)), (7, (pt p 0)), (8, (pt q 0)), (9, (pt a2 0)), (10, (.int .i64 a3)), (137, (.bool g4))] ∧ SP [] w0 w [Qn m 79 #[(.int .i64 b7), (.int .i64 b8), (.int .i64 b9), (.int .i64 c0), (.slice A6 (List.length (List.map stT d9)) c7), (.map (some a0))], V5 a0 c1, Yc 9 Qx h8 h9 h6, Qn p 81 #[(.int .i64 f.2.2.2.2.2.2.1), (.int .i64 f.2.2.2.2.2.2.2.1), (.int .i64 f.2.2.2.2.2.2.2.2.1), (.int .i64 f.2.2.2.2.2.2.2.2.2.1), (.slice A6 (List.length (List.map stT d9)) c7), (.slice h8 (List.length h6) h9)], Qn q 95 #[(pt m 0), (Xj j.2.2.2.2.2.2.1 q), (.string ⟨List.toArray j.2.2.2.2.2.2.2.1⟩), (.string ⟨List.toArray j.2.2.2.2.2.2.2.2.1⟩), (.string ⟨List.toArray j.2.2.2.2.2.2.2.2.2.1⟩), (.bool j.2.2.2.2.2.2.2.2.2.2)], Qn a2 97 #[(pt p 0), (.int .i64 f.2.2.2.2.2.2.2.2.2.2.2.1), (.string ⟨List.toArray f.2.2.2.2.2.2.2.2.2.2.2.2.1⟩), (.string ⟨List.toArray f.2.2.2.2.2.2.2.2.2.2.2.2.2.1⟩), (.string ⟨List.toArray f.2.2.2.2.2.2.2.2.2.2.2.2.2.2⟩)]] ∧ Vx (Vg (List.map stT d9) a1 u g7) a3 b7 b8 b9 c0 c1 j f h6 g4 = some r) ?_ ?_
        ·refine aR ?_
         refine iS 1 ?_
         refine sL 63 12 f4 0 1 (.agg #[(.int .i64 j.1), (.string ⟨List.toArray j.2.1⟩), (.string ⟨List.toArray j.2.2.1⟩), (.int .i64 j.2.2.2.1), (.int .i64 j.2.2.2.2.1)]) 113 d8 rfl ?_
         refine iS 2 ?_
         refine sL 63 14 g3 0 2 (.agg #[(.int .i64 f.1), (.string ⟨List.toArray f.2.1⟩), (.string ⟨List.toArray f.2.2.1⟩), (.int .i64 f.2.2.2.1), (.int .i64 f.2.2.2.2.1)]) 114 d8 rfl ?_
         refine iS 3 ?_
         refine Fm (op := .neq) (T := 63) (T' := 63) (x := (.tmp 113)) (y := (.tmp 114)) (vx := (.agg #[(.int .i64 j.1), (.string ⟨List.toArray j.2.1⟩), (.string ⟨List.toArray j.2.2.1⟩), (.int .i64 j.2.2.2.1), (.int .i64 j.2.2.2.2.1)])) (vy := (.agg #[(.int .i64 f.1), (.string ⟨List.toArray f.2.1⟩), (.string ⟨List.toArray f.2.2.1⟩), (.int .i64 f.2.2.2.1), (.int .i64 f.2.2.2.2.1)])) (v := (.bool (!((j.1 == f.1) && ((j.2.1 == f.2.1) && ((j.2.2.1 == f.2.2.1) && ((j.2.2.2.1 == f.2.2.2.1) && (j.2.2.2.2.1 == f.2.2.2.2.1)))))))) (d := (some 115)) (k := 2) K rfl K K (by clear H; intro w; simp only [F6]; go_simp; simp only [F5, E4, H8, F6, Bool.and_true] <;> simp only [Bool.not_and]) ?_
         refine iR 1 4 [(116, (.bool (!((j.1 == f.1) && ((j.2.1 == f.2.1) && ((j.2.2.1 == f.2.2.1) && ((j.2.2.2.1 == f.2.2.2.1) && (j.2.2.2.2.1 == f.2.2.2.2.1))))))))] ?_
         refine In.guard (t := 116) (b := (!((j.1 == f.1) && ((j.2.1 == f.2.1) && ((j.2.2.1 == f.2.2.1) && ((j.2.2.2.1 == f.2.2.2.1) && (j.2.2.2.2.1 == f.2.2.2.2.1))))))) K (fun k5 => ?_) (fun k5 => ?_)
         ·have H := ct H k5
          refine iR 21 25 [(117, undef), (118, undef), (119, undef), (120, (.bool true)), (121, (.bool true)), (122, undef), (123, undef), (124, undef), (125, (.bool true)), (126, (.bool true)), (127, undef), (128, undef), (129, undef), (130, (.bool true)), (131, (.bool true)), (132, undef), (133, undef), (134, undef), (135, undef), (136, undef), (137, (.bool true))] ?_
          refine iF ?_
          exact ⟨f.2.2.2.2.2.2.2.2.2.2.1, true, d6, d7, ⟨K, K, K, K, K, K, K, K, trivial⟩, SP.sel d8 [3, 4, 7, 6, 5, 8] rfl rfl, H⟩
         ·have H := cf H k5
          refine iR 5 9 [(117, (.bool j.2.2.2.2.2.1)), (118, (.bool f.2.2.2.2.2.1)), (119, (.bool (!(j.2.2.2.2.2.1 == f.2.2.2.2.2.1)))), (120, (.bool (!(j.2.2.2.2.2.1 == f.2.2.2.2.2.1)))), (121, (.bool (!(j.2.2.2.2.2.1 == f.2.2.2.2.2.1))))] ?_
          refine In.guard (t := 121) (b := (!(j.2.2.2.2.2.1 == f.2.2.2.2.2.1))) K (fun k6 => ?_) (fun k6 => ?_)
          ·have H := ct H k6
           refine iR 16 25 [(122, undef), (123, undef), (124, undef), (125, (.bool true)), (126, (.bool true)), (127, undef), (128, undef), (129, undef), (130, (.bool true)), (131, (.bool true)), (132, undef), (133, undef), (134, undef), (135, undef), (136, undef), (137, (.bool true))] ?_
           refine iF ?_
           exact ⟨f.2.2.2.2.2.2.2.2.2.2.1, true, d6, d7, ⟨K, K, K, K, K, K, K, K, trivial⟩, SP.sel d8 [3, 4, 7, 6, 5, 8] rfl rfl, H⟩
          ·have H := cf H k6
           refine iR 2 11 [(122, (.string ⟨List.toArray b2.1⟩)), (123, (.string ⟨List.toArray b3.1⟩))] ?_
           refine iS 12 ?_
           refine V0 (op := .neq) (T := 9) (T' := 9) (x := (.tmp 122)) (y := (.tmp 123)) (a := b2.1) (b := b3.1) (r := (.bool (!(b2.1 == b3.1)))) (d := (some 124)) (k := 11) K rfl K K rfl ?_
           refine iR 2 14 [(125, (.bool (!(b2.1 == b3.1)))), (126, (.bool (!(b2.1 == b3.1))))] ?_
           refine In.guard (t := 126) (b := (!(b2.1 == b3.1))) K (fun k7 => ?_) (fun k7 => ?_)
           ·have H := ct H k7
            refine iR 11 25 [(127, undef), (128, undef), (129, undef), (130, (.bool true)), (131, (.bool true)), (132, undef), (133, undef), (134, undef), (135, undef), (136, undef), (137, (.bool true))] ?_
            refine iF ?_
            exact ⟨f.2.2.2.2.2.2.2.2.2.2.1, true, d6, d7, ⟨K, K, K, K, K, K, K, K, trivial⟩, SP.sel d8 [3, 4, 7, 6, 5, 8] rfl rfl, H⟩
           ·have H := cf H k7
            refine iR 5 19 [(127, (.bool b2.2)), (128, (.bool b3.2)), (129, (.bool (!(b2.2 == b3.2)))), (130, (.bool (!(b2.2 == b3.2)))), (131, (.bool (!(b2.2 == b3.2))))] ?_
            refine In.guard (t := 131) (b := (!(b2.2 == b3.2))) K (fun k8 => ?_) (fun k8 => ?_)
            ·have H := ct H k8
             refine iR 6 25 [(132, undef), (133, undef), (134, undef), (135, undef), (136, undef), (137, (.bool true))] ?_
             refine iF ?_
             exact ⟨f.2.2.2.2.2.2.2.2.2.2.1, true, d6, d7, ⟨K, K, K, K, K, K, K, K, trivial⟩, SP.sel d8 [3, 4, 7, 6, 5, 8] rfl rfl, H⟩
            ·have H := cf H k8
             refine iR 1 20 [(132, (pt q 0))] ?_
             obtain ⟨i0, t9, H⟩ := Qb H
             refine iS 21 ?_
             refine cF 36 #[(.tmp 132)] #[60] 133 Tryz.call36 (N8 q m A6 c7 a0 b7 b8 b9 c0 d9 c1 j.2.2.2.2.2.2.1 j.2.2.2.2.2.2.2.1 j.2.2.2.2.2.2.2.2.1 j.2.2.2.2.2.2.2.2.2.1 j.2.2.2.2.2.2.2.2.2.2 p0 (Yd d8 [3, 4, 5] rfl rfl) (fun w hm => Dp.mono _ (Nc d8 (l := [3, 4, 5]) rfl hm) b4) i0 t9) ?_
             rintro e p2 ⟨rfl, p3⟩
             refine ⟨_, rfl, ?_⟩
             have k9 : SP [] w0 p2 [Qn s 67 #[(.int .i64 h.1), (.int .i64 h.2.1), (.string ⟨List.toArray h.2.2.1⟩), (.string ⟨List.toArray h.2.2.2.1⟩), (.int .i64 h.2.2.2.2.1), (.int .i64 h.2.2.2.2.2.1), (.int .i64 h.2.2.2.2.2.2.1), (.string ⟨List.toArray h.2.2.2.2.2.2.2⟩)], Qn f4 63 #[(.int .i64 j.1), (.string ⟨List.toArray j.2.1⟩), (.string ⟨List.toArray j.2.2.1⟩), (.int .i64 j.2.2.2.1), (.int .i64 j.2.2.2.2.1)], Qn g3 63 #[(.int .i64 f.1), (.string ⟨List.toArray f.2.1⟩), (.string ⟨List.toArray f.2.2.1⟩), (.int .i64 f.2.2.2.1), (.int .i64 f.2.2.2.2.1)], Qn p 81 #[(.int .i64 f.2.2.2.2.2.2.1), (.int .i64 f.2.2.2.2.2.2.2.1), (.int .i64 f.2.2.2.2.2.2.2.2.1), (.int .i64 f.2.2.2.2.2.2.2.2.2.1), (.slice A6 (List.length (List.map stT d9)) c7), (.slice d6 (List.length f.2.2.2.2.2.2.2.2.2.2.1) d7)], Yc 9 Qx d6 d7 f.2.2.2.2.2.2.2.2.2.2.1, Qn a2 97 #[(pt p 0), (.int .i64 f.2.2.2.2.2.2.2.2.2.2.2.1), (.string ⟨List.toArray f.2.2.2.2.2.2.2.2.2.2.2.2.1⟩), (.string ⟨List.toArray f.2.2.2.2.2.2.2.2.2.2.2.2.2.1⟩), (.string ⟨List.toArray f.2.2.2.2.2.2.2.2.2.2.2.2.2.2⟩)], Qn m 79 #[(.int .i64 b7), (.int .i64 b8), (.int .i64 b9), (.int .i64 c0), (.slice A6 (List.length (List.map stT d9)) c7), (.map (some a0))], V5 a0 c1, Qn q 95 #[(pt m 0), (Xj j.2.2.2.2.2.2.1 q), (.string ⟨List.toArray j.2.2.2.2.2.2.2.1⟩), (.string ⟨List.toArray j.2.2.2.2.2.2.2.2.1⟩), (.string ⟨List.toArray j.2.2.2.2.2.2.2.2.2.1⟩), (.bool j.2.2.2.2.2.2.2.2.2.2)]] := Vv d8 [3, 4, 5] [0, 1, 2, 6, 7, 8] rfl rfl p3 rfl
             clear p3
             refine iR 1 22 [(134, (pt a2 0))] ?_
             obtain ⟨i1, u0, H⟩ := Qb H
             refine iS 23 ?_
             refine cF 41 #[(.tmp 134)] #[73] 135 Tryz.call41 (Ds a2 p A6 c7 d6 d7 f.2.2.2.2.2.2.1 f.2.2.2.2.2.2.2.1 f.2.2.2.2.2.2.2.2.1 f.2.2.2.2.2.2.2.2.2.1 d9 f.2.2.2.2.2.2.2.2.2.2.1 f.2.2.2.2.2.2.2.2.2.2.2.1 f.2.2.2.2.2.2.2.2.2.2.2.2.1 f.2.2.2.2.2.2.2.2.2.2.2.2.2.1 f.2.2.2.2.2.2.2.2.2.2.2.2.2.2 p2 (Yd k9 [3, 4, 5] rfl rfl) (fun w hm => Dp.mono _ (Nc k9 (l := [3, 4, 5]) rfl hm) b4) i1 u0) ?_
             rintro e u1 ⟨l0, l1, rfl, p4⟩
             refine ⟨_, rfl, ?_⟩
             have u2 : SP [] w0 u1 [Qn s 67 #[(.int .i64 h.1), (.int .i64 h.2.1), (.string ⟨List.toArray h.2.2.1⟩), (.string ⟨List.toArray h.2.2.2.1⟩), (.int .i64 h.2.2.2.2.1), (.int .i64 h.2.2.2.2.2.1), (.int .i64 h.2.2.2.2.2.2.1), (.string ⟨List.toArray h.2.2.2.2.2.2.2⟩)], Qn f4 63 #[(.int .i64 j.1), (.string ⟨List.toArray j.2.1⟩), (.string ⟨List.toArray j.2.2.1⟩), (.int .i64 j.2.2.2.1), (.int .i64 j.2.2.2.2.1)], Qn g3 63 #[(.int .i64 f.1), (.string ⟨List.toArray f.2.1⟩), (.string ⟨List.toArray f.2.2.1⟩), (.int .i64 f.2.2.2.1), (.int .i64 f.2.2.2.2.1)], Qn m 79 #[(.int .i64 b7), (.int .i64 b8), (.int .i64 b9), (.int .i64 c0), (.slice A6 (List.length (List.map stT d9)) c7), (.map (some a0))], V5 a0 c1, Qn q 95 #[(pt m 0), (Xj j.2.2.2.2.2.2.1 q), (.string ⟨List.toArray j.2.2.2.2.2.2.2.1⟩), (.string ⟨List.toArray j.2.2.2.2.2.2.2.2.1⟩), (.string ⟨List.toArray j.2.2.2.2.2.2.2.2.2.1⟩), (.bool j.2.2.2.2.2.2.2.2.2.2)], Qn p 81 #[(.int .i64 f.2.2.2.2.2.2.1), (.int .i64 f.2.2.2.2.2.2.2.1), (.int .i64 f.2.2.2.2.2.2.2.2.1), (.int .i64 f.2.2.2.2.2.2.2.2.2.1), (.slice A6 (List.length (List.map stT d9)) c7), (.slice l0 (List.length f.2.2.2.2.2.2.2.2.2.2.1) l1)], Yc 9 Qx l0 l1 f.2.2.2.2.2.2.2.2.2.2.1, Qn a2 97 #[(pt p 0), (.int .i64 f.2.2.2.2.2.2.2.2.2.2.2.1), (.string ⟨List.toArray f.2.2.2.2.2.2.2.2.2.2.2.2.1⟩), (.string ⟨List.toArray f.2.2.2.2.2.2.2.2.2.2.2.2.2.1⟩), (.string ⟨List.toArray f.2.2.2.2.2.2.2.2.2.2.2.2.2.2⟩)]] := Vv k9 [3, 4, 5] [0, 1, 2, 6, 7, 8] rfl rfl p4 rfl
             clear p4
             refine iR 2 25 [(136, (.bool (!(i0 == i1)))), (137, (.bool (!(i0 == i1))))] ?_
             refine iF ?_
             exact ⟨f.2.2.2.2.2.2.2.2.2.2.1, (!(i0 == i1)), l0, l1, ⟨K, K, K, K, K, K, K, K, trivial⟩, SP.sel u2 [3, 4, 7, 6, 5, 8] rfl rfl, H⟩
        ·rintro ρ v7 ⟨h6, g4, h8, h9, hk, p5, H⟩
         unfold Vx at H
         first | refine At.known [(1, (.slice a6 (List.length a1) a7)), (5, (.bool u)), (6, (pt m 0)), (7, (pt p 0)), (8, (pt q 0)), (9, (pt a2 0)), (10, (.int .i64 a3)), (137, (.bool g4))] hk ?_ | rw [← Qv (l := [(1, (.slice a6 (List.length a1) a7)), (5, (.bool u)), (6, (pt m 0)), (7, (pt p 0)), (8, (pt q 0)), (9, (pt a2 0)), (10, (.int .i64 a3)), (137, (.bool g4))]) hk]
         refine V1 K (o := (.tmp 137)) K (b := g4) K (fun l2 => ?_) (fun l2 => ?_)
         ·have H := ct H l2
          refine aQ ?_
          refine aR ?_
          refine iR 1 1 [(4, (.bool false))] ?_
          refine iF ?_
          refine At.ret K ?_
          refine ⟨(.bool false), K, ?_⟩
          obtain rfl := Qe H
          exact ⟨rfl, SP.sel p5 [] rfl rfl⟩
         ·have H := cf H l2
          refine At.skip K ?_
          refine aR ?_
          refine iR 3 3 [(56, (.int .i64 a3)), (57, (.int .i64 (IntKind.wrap .i64 (a3 + 1)))), (10, (.int .i64 (IntKind.wrap .i64 (a3 + 1))))] ?_
          refine iF ?_
          exact ⟨b7, b8, b9, c0, c1, f.2.2.2.2.2.2.1, f.2.2.2.2.2.2.2.1, f.2.2.2.2.2.2.2.2.1, f.2.2.2.2.2.2.2.2.2.1, h6, j.2.2.2.2.2.2.1, j.2.2.2.2.2.2.2.1, j.2.2.2.2.2.2.2.2.1, j.2.2.2.2.2.2.2.2.2.1, j.2.2.2.2.2.2.2.2.2.2, f.2.2.2.2.2.2.2.2.2.2.2.1, f.2.2.2.2.2.2.2.2.2.2.2.2.1, f.2.2.2.2.2.2.2.2.2.2.2.2.2.1, f.2.2.2.2.2.2.2.2.2.2.2.2.2.2, (IntKind.wrap .i64 (a3 + 1)), h8, h9, ⟨K, K, K, K, K, K, K, trivial⟩, SP.sel p5 [0, 1, 2, 3, 4, 5] rfl rfl, H⟩
      ·have H := cf H j8
       refine At.exit K (id := 0) K ?_
       refine aQ ?_
       refine aR ?_
       refine iR 2 2 [(138, (.bool u)), (4, (.bool u))] ?_
       refine iF ?_
       refine At.ret K ?_
       refine ⟨(.bool u), K, ?_⟩
       obtain rfl := Qe H
       exact ⟨rfl, SP.sel h7 [] rfl rfl⟩
     ·exact ⟨a5.1, a5.2.1, a5.2.2.1, a5.2.2.2.1, a5.2.2.2.2, a4.1, a4.2.1, a4.2.2.1, a4.2.2.2.1, a4.2.2.2.2, b5.1, b5.2.1, b5.2.2.1, b5.2.2.2.1, b5.2.2.2.2, d5.1, d5.2.1, d5.2.2.1, d5.2.2.2, 0, j6, j7, ⟨K, K, K, K, K, K, K, trivial⟩, SP.sel r5 [2, 3, 6, 5, 1, 4] rfl rfl, H⟩
end Go.Proofs.YtmgfanhcdfobhaaGreatDoor
namespace Go.Proofs.YtmgfanhcdfobhaaGreatDoor
theorem M7 (w g i0 e : Int) {l : List Qg} (hv : VC l) (ops : List OpK) (hops : ops.length ≤ 40) (hoq : ∀ o ∈ ops, OpKQ o) :
    ∀ (d i f : Nat) (M : Uw) (ps : List (Str × Str)) (c : Int) (t k n : Str) (kn : Bool), d = ops.length - i → i ≤ ops.length → d < f → MB i M → ps.length ≤ i → Rel l M ps → SI c kn →
      Vg l ops true f w g i0 e M w g i0 e (gf ps) c t k n kn (sOf c kn) t k n (i : Int) = some true := by
  intro d
  induction d with
  | zero =>
    intro i f M ps c t k n kn hd hi hf hM hp hr hs
    obtain ⟨f, rfl⟩ : ∃ g, f = g + 1 := ⟨f - 1, by omega⟩
    show Zp (Vg l ops true f) l ops true w g i0 e M w g i0 e (gf ps) c t k n kn (sOf c kn) t k n (i : Int) = _
    unfold Zp
    rw [show decide ((i : Int) < ((ops.length : Nat) : Int)) = false from decide_eq_false (by omega), cond_false]
  | succ d ih =>
    intro i f M ps c t k n kn hd hi hf hM hp hr hs
    obtain ⟨f, rfl⟩ : ∃ g, f = g + 1 := ⟨f - 1, by omega⟩
    have hlt : i < ops.length := by omega
    have hx := hoq ops[i] (List.getElem_mem hlt)
    show Zp (Vg l ops true f) l ops true w g i0 e M w g i0 e (gf ps) c t k n kn (sOf c kn) t k n (i : Int) = _
    generalize hR : Vg l ops true f = R at *
    unfold Zp
    rw [show decide ((i : Int) < ((ops.length : Nat) : Int)) = true from decide_eq_true (by omega), cond_true, Jt hlt, Option.bind_some]
    generalize ops[i] = x at *
    have k12 : ∀ M' ps', MB (i + 1) M' → ps'.length ≤ i + 1 → Rel l M' ps' → Zy R l c t k n kn (sOf c kn) t k n (i : Int) x w g i0 e M' w g i0 e (gf ps') = some true := by
      intro M' ps' hM' hp' hr'
      unfold Zy Vx
      obtain ⟨z, hz⟩ : ∃ z, Ly l M' c t k n kn x.2.1 x.2.2.1 x.2.2.2.1 x.2.2.2.2.2.2.1 x.2.2.2.2.2.2.2 = z := ⟨_, rfl⟩
      have hi' := hear_inv l M' t k n x.2.1 x.2.2.1 x.2.2.2.1 x.2.2.2.2.2.2.1 x.2.2.2.2.2.2.2 hs
      rw [hz] at hi'
      rw [pHear hv _ _ _ _ _ _ _ _ _ _ _ _ _ _ _ _ _ hx.1 hx.2.2, hz, Option.bind_some, rHear hv _ _ _ _ hr' (by omega) _ _ _ hs _ _ _ _ _ _ _ hx.1 hx.2.2 z hz, Option.bind_some]
      simp only [who_p, over_p, who_r _ _ _ _ _ _ _ _ _ hi', over_r _ _ _ _ _ _ _ _ _ hi', Option.bind_some, beq_self_eq_true, Bool.and_self, Bool.not_true, cond_false]
      rw [show ((i : Int) + 1) = ((i + 1 : Nat) : Int) by omega, Xh (by omega), ← hR]
      exact ih (i + 1) f M' ps' _ _ _ _ _ (by omega) (by omega) (by omega) hM' hp' hr' hi'
    cases (x.1 == 1) with
    | false => rw [cond_false]; exact k12 M ps (mb_le hM (by omega)) (by omega) hr
    | true =>
      rw [cond_true, pVRevoke hv _ _ _ _ _ _ _ (by have := hM (x.2.2.1, x.2.2.2.1); omega), Option.bind_some, rVRevoke hv _ _ _ _ _ _ ps (by omega), Option.bind_some]
      exact k12 _ _ (mb_rev hM l _ _) (by have := rRevP_len l ps x.2.2.1 x.2.2.2.1; omega) (rel_step hr hM _ _)
theorem Hw (w g i0 e : Int) (l : List Qg) (ops : List OpK) (hl : l.length ≤ 140737488355328) (hq : ∀ t ∈ l, Mh t) (hops : ops.length ≤ 140737488355328) (hoq : ∀ o ∈ ops, OpKQ o) : J3 w g i0 e l ops = some true := by
  unfold J3
  obtain ⟨c, hc, hc'⟩ := cfg_great w g i0 e l hl hq
  obtain ⟨b, hb, hb'⟩ := Pp ops hops
  have hup : Zq w g i0 e l ops true true = some true := by unfold Zq; rw [cond_true]
  rw [shakeHead, Option.bind_some, hc, Option.bind_some]
  cases c with
  | true => rw [cond_true]; exact hup
  | false =>
    obtain ⟨s1, s2⟩ := hc' rfl
    rw [cond_false, hb, Option.bind_some]
    cases b with
    | true => exact hup
    | false =>
      unfold Zq X7 X8 X9
      rw [cond_false, pVNew w g i0 e l hl hq, Option.bind_some, rVNew w g i0 e l (by omega) hq s2, Option.bind_some]
      cases hk : Ht w g i0 e l with
      | false => rfl
      | true =>
        have hv := vc_of hk (by omega) hq s2
        rw [cond_true, cond_true, optE_s, Option.bind_some, optE_s]
        have := M7 w g i0 e hv ops (hb' rfl) hoq ops.length 0 Zj [] [] 1 [] [] [] false (by omega) (by omega) (by have := hb' rfl; unfold Zj; omega) mb_nil (by simp) (fun t k _ => rfl) ⟨.inr (.inl rfl), fun h => by cases h⟩
        rw [show ((0 : Nat) : Int) = 0 from rfl] at this
        exact this
end Go.Proofs.YtmgfanhcdfobhaaGreatDoor
namespace Go.Proofs.YtmgfanhcdfobhaaGreatDoor
open Go.RowKit Go.ChangeShapes Go.WideShapes Go.Deep
theorem own : ownKnob Tryz.prog.godebug = none := by kernel_rfl
theorem laidOut : laidOutB Tryz.prog = true := by kernel_rfl
section
variable {H : Type} {enc : TypeId × Value → H} {W : World} {spare : Nat → Bool} {held : Bool} {base b0 : Nat} {r : Reach}
end
end Go.Proofs.YtmgfanhcdfobhaaGreatDoor
namespace Go.Proofs.YtmgfanhcdfobhaaGreatDoor
open Go.RowKit Go.ChangeShapes Go.WideShapes Go.Deep
section
variable {H : Type} {enc : TypeId × Value → H} {P : Program} {W : World}
def Rds (enc : TypeId × Value → H) (P : Program) (W : World) (t : TypeId) {α : Type} (e : Enc α) (Q : Nat → α → Prop) : Prop :=
  ∀ (Zj : Nat) (cs : List Value) (x : DataW H × List MemPlace), DataW.trod enc P W 0 (fun _ => true) true Zj t cs = some x → ∃ a, cs = e.enc a ∧ ∀ r, (x.1.weights P t).all (· ≤ r) = true → Q r a
def RdsFs (enc : TypeId × Value → H) (P : Program) (W : World) (o : Nat) (fs : List (TypeId × Nat)) {α : Type} (e : Enc α) (Q : Nat → α → Prop) : Prop :=
  ∀ (Zj : Nat) (cs : List Value) (xs : List (DataW H × List MemPlace)), xs.length = fs.length → (∀ (i : Nat) f, fs[i]? = some f → DataW.trod enc P W 0 (fun _ => true) true Zj f.1 ((cs.drop f.2).take (P.cellsOf f.1)) = xs[i]?) →
    ∃ a, (cs.drop o).take e.sz = e.enc a ∧ ∀ r, (DataW.weightsEach P (fs.map (·.1)) (xs.map (·.1))).all (· ≤ r) = true → Q r a
theorem R3 {t : TypeId} {k : IntKind} (ht : P.underlying t = some (.int k)) : Rds enc P W t (Qc k) (fun _ n => (Lit.int k n).wf = true) := by
  intro Zj cs x h
  obtain ⟨n, rfl, rfl, hw⟩ := DataW.trod_int ht h
  exact ⟨n, rfl, fun _ _ => hw⟩
theorem Hj {t : TypeId} (ht : P.underlying t = some .string) : Rds enc P W t Qx (fun r s => s.length ≤ r) := by
  intro Zj cs x h
  obtain ⟨s, rfl, rfl, hs⟩ := DataW.trod_string ht h
  refine ⟨s.data.toList, rfl, fun r hr => ?_⟩
  simpa [DataW.weights] using hr
theorem Rds.conv {t : TypeId} {α β : Type} {e : Enc α} {e' : Enc β} {Q : Nat → α → Prop} {Q' : Nat → β → Prop} (h : Rds enc P W t e Q) (f : α → β) (he : ∀ a, e.enc a = e'.enc (f a)) (hQ : ∀ r a, Q r a → Q' r (f a)) : Rds enc P W t e' Q' := by
  intro Zj cs x hx
  obtain ⟨a, rfl, hq⟩ := h Zj cs x hx
  exact ⟨f a, he a, fun r hr => hQ r a (hq r hr)⟩
theorem Ke {t : TypeId} {o : Nat} {α : Type} {e : Enc α} {Q : Nat → α → Prop} (h : Rds enc P W t e Q) (hc : P.cellsOf t = e.sz) : RdsFs enc P W o [(t, o)] e Q := by
  intro Zj cs xs hl hf
  match xs, hl with
  | [x], _ =>
    have := hf 0 (t, o) rfl
    obtain ⟨a, ha, hq⟩ := h Zj _ _ this
    rw [hc] at ha
    refine ⟨a, ha, fun r hr => hq r ?_⟩
    simpa [DataW.weightsEach] using hr
theorem Gk {t : TypeId} {o : Nat} {fs : List (TypeId × Nat)} {α β : Type} {e : Enc α} {e' : Enc β} {Q : Nat → α → Prop} {Q' : Nat → β → Prop} (h : Rds enc P W t e Q) (hc : P.cellsOf t = e.sz) (hr : RdsFs enc P W (o + e.sz) fs e' Q') :
    RdsFs enc P W o ((t, o) :: fs) (Qj e e') (fun r a => Q r a.1 ∧ Q' r a.2) := by
  intro Zj cs xs hl hf
  match xs, hl with
  | x :: xs, hl =>
    have := hf 0 (t, o) rfl
    obtain ⟨a, ha, hq⟩ := h Zj _ _ this
    obtain ⟨b, hb, hq'⟩ := hr Zj cs xs (by simpa using hl) (fun i f hi => by have := hf (i + 1) f (by simpa using hi); simpa using this)
    refine ⟨(a, b), ?_, fun r hw => ?_⟩
    · show (cs.drop o).take (e.sz + e'.sz) = e.enc a ++ e'.enc b
      rw [hc] at ha
      rw [← ha, ← hb, List.take_add, List.drop_drop]
    · simp only [List.map_cons, DataW.weightsEach, List.all_append, Bool.and_eq_true] at hw
      exact ⟨hq r hw.1, hq' r hw.2⟩
theorem D1 {t : TypeId} {l : List (TypeId × Nat)} {α : Type} {e : Enc α} {Q : Nat → α → Prop} (hl : (match P.underlying t with | some (.struct fs) => some (fs.toList.map (fun f => (f.type, f.offset))) | _ => none) = some l) (hc : P.cellsOf t = e.sz)
    (hr : RdsFs enc P W 0 l e Q) : Rds enc P W t e Q := by
  intro Zj cs x hx
  split at hl
  · rename_i fs hs
    simp only [Option.some.injEq] at hl
    subst hl
    obtain ⟨xs, n, _, rfl, hlen, hxs, hg⟩ := DataW.trod_struct hs hx
    obtain ⟨a, ha, hq⟩ := hr n cs xs (by simpa using hxs) (fun i f hi => by
      rw [List.getElem?_map, Option.map_eq_some_iff] at hi
      obtain ⟨f', hf', rfl⟩ := hi
      exact hg i f' (by simpa using hf'))
    rw [List.drop_zero, List.take_of_length_le (by omega)] at ha
    refine ⟨a, ha, fun r hw => hq r ?_⟩
    simp only [DataW.weights, hs] at hw
    simpa [List.map_map, Function.comp_def] using hw
  · cases hl
theorem E2 {t : TypeId} {n : Nat} : ∀ {ds : List (DataW H)} {d : DataW H}, d ∈ ds → n ∈ d.weights P t → n ∈ DataW.weightsAll P t ds
  | d0 :: ds, d, hd, hn => by
    simp only [DataW.weightsAll, List.mem_append]
    rcases List.mem_cons.1 hd with rfl | h
    · exact .inl hn
    · exact .inr (E2 h hn)
theorem rds_row {t te : TypeId} {α : Type} {e : Enc α} {Q : Nat → α → Prop} (ht : P.underlying t = some (.slice te)) (h : Rds enc P W te e Q) (hc : P.cellsOf te = e.sz) (h0 : 0 < e.sz) {Zj : Nat} {cs : List Value} {x : DataW H × List MemPlace}
    (hx : DataW.trod enc P W 0 (fun _ => true) true Zj t cs = some x) :
    ∃ (A : Option Addr) (c : Nat) (l : List α), cs = [.slice A l.length c] ∧ RdT e W A c l ∧ ∀ r, (x.1.weights P t).all (· ≤ r) = true → l.length * P.bytesOf te ≤ r ∧ ∀ a ∈ l, Q r a := by
  rcases DataW.trod_slice ht hx with ⟨rfl, rfl⟩ | ⟨a, len, cap, elems, rest, n, _, rfl, rfl, _, hl, hm, hlen, hel, _, _⟩
  · exact ⟨none, 0, [], rfl, RdT.nil _ W, fun r _ => ⟨by simp, fun a ha => by cases ha⟩⟩
  · have each : ∀ i, i ≤ len → ∃ l : List α, l.length = i ∧ ∀ j (hj : j < l.length), W.cells? 0 (a.add (j * P.cellsOf te)) (P.cellsOf te) = some (e.enc l[j]) ∧ ∀ y, elems[j]? = some y → ∀ r, (y.1.weights P te).all (· ≤ r) = true → Q r l[j] := by
      intro i
      induction i with
      | zero => exact fun _ => ⟨[], rfl, fun j hj => by simp at hj⟩
      | succ i ih =>
        intro hi
        obtain ⟨l, hll, hlg⟩ := ih (by omega)
        have := hel i (by omega)
        rw [List.getElem?_eq_getElem (by omega), Option.bind_eq_some_iff] at this
        obtain ⟨cs', h1, h2⟩ := this
        obtain ⟨b, rfl, hb⟩ := h n cs' _ h2
        refine ⟨l ++ [b], by simp [hll], fun j hj => ?_⟩
        by_cases hji : j < l.length
        · rw [List.getElem_append_left hji]
          exact hlg j hji
        · obtain rfl : j = i := by simp at hj; omega
          subst hll
          rw [List.getElem_concat_length rfl]
          refine ⟨h1, fun y hy => ?_⟩
          rw [List.getElem?_eq_getElem (by omega), Option.some.injEq] at hy
          subst hy
          exact hb
    obtain ⟨l, hll, hlg⟩ := each len (Nat.le_refl _)
    subst hll
    refine ⟨some a, cap, l, rfl, ⟨by rw [Vz], hl, hm, fun hn => ?_⟩, fun r hw => ?_⟩
    · have cell : ∀ j (hj : j < l.length) k, k < e.sz → W.cell? ((a.add (j * e.sz)).add k) = (e.enc l[j])[k]? := by
        intro j hj k hk
        have := (hlg j hj).1
        rw [hc] at this
        exact (World.cells?_some this).2.2 k hk
      have c0 := cell 0 hn 0 h0
      rw [Nat.zero_mul, List.getElem?_eq_getElem (by rw [e.len]; exact h0)] at c0
      obtain ⟨b, off, spot⟩ := a
      obtain rfl : spot = none := by simpa [Addr.add] using World.cell?_spot c0
      have hadd : ∀ i j : Nat, ((⟨b, off, none⟩ : Addr).add i).add j = ⟨b, off + (i + j), none⟩ := by
        intro i j
        unfold Addr.add
        by_cases hi : i = 0 <;> by_cases hj : j = 0 <;> simp [hi, hj, Nat.add_assoc]
      rw [hadd] at c0
      refine ⟨b, off, rfl, block_lt_of_cell c0, fun j u hu => ?_⟩
      have hlen2 := (List.getElem?_eq_some_iff.1 hu).1
      rw [Vz] at hlen2
      have hq : j / e.sz < l.length := Nat.div_lt_of_lt_mul (by rw [Nat.mul_comm]; exact hlen2)
      have hk : j % e.sz < e.sz := Nat.mod_lt _ h0
      have hj : j = j / e.sz * e.sz + j % e.sz := by rw [Nat.mul_comm]; exact (Nat.div_add_mod j e.sz).symm
      have hce := cell (j / e.sz) hq (j % e.sz) hk
      rw [hadd, ← hj] at hce
      rw [hce]
      have hgt := Cg e (l := l) (i := j / e.sz) (x := l[j / e.sz]) (List.getElem?_eq_getElem hq) (j := j % e.sz) (u := (e.enc l[j / e.sz])[j % e.sz]'(by rw [e.len]; exact hk)) (List.getElem?_eq_getElem _)
      rw [← hj, hu] at hgt
      rw [List.getElem?_eq_getElem (by rw [e.len]; exact hk), ← hgt]
    · simp only [DataW.weights, ht, List.all_cons, Bool.and_eq_true, decide_eq_true_eq, List.all_append] at hw
      refine ⟨Nat.le_trans (Nat.mul_le_mul_right _ (by simp; omega)) hw.1, fun b hb => ?_⟩
      obtain ⟨j, hj, rfl⟩ := List.mem_iff_getElem.1 hb
      refine (hlg j hj).2 _ (List.getElem?_eq_getElem (by omega)) r ?_
      rw [List.all_eq_true] at hw ⊢
      intro m hm'
      exact hw.2.1 m (E2 (List.mem_map.2 ⟨_, List.getElem_mem (by omega), rfl⟩) hm')
variable {r0 : Reach} {b0 : Nat}
theorem open_agg {t : TypeId} {fs : Array Field} {α : Type} {e : Enc α} {Q : Nat → α → Prop} (hs : P.underlying t = some (.struct fs)) (h : Rds enc P W t e Q) {v : Value} {d : DataW H} {p : List MemPlace} (hv : Value.okWide P W r0 b0 t v)
    (hd : DataW.Trod enc P W 0 (fun _ => true) true t v d p) (hr : ∀ n ∈ d.weights P t, n ≤ reachBytes) : ∃ a, v = .agg ⟨e.enc a⟩ ∧ Q reachBytes a := by
  obtain ⟨cs, rfl, hsz⟩ := okWide_struct hs hv
  obtain ⟨Zj, hf⟩ := hd
  obtain ⟨a, ha, hq⟩ := h Zj _ _ hf
  refine ⟨a, ?_, hq _ (by rw [List.all_eq_true]; intro n hn; exact decide_eq_true (hr n hn))⟩
  simp only [Value.cells] at ha
  rw [← ha]
theorem open_row {t te : TypeId} {α : Type} {e : Enc α} {Q : Nat → α → Prop} (ht : P.underlying t = some (.slice te)) (h : Rds enc P W te e Q) (hc : P.cellsOf te = e.sz) (h0 : 0 < e.sz) {v : Value} {d : DataW H} {p : List MemPlace} (hv : Value.okWide P W r0 b0 t v)
    (hd : DataW.Trod enc P W 0 (fun _ => true) true t v d p) (hr : ∀ n ∈ d.weights P t, n ≤ reachBytes) : ∃ (A : Option Addr) (c : Nat) (l : List α), v = .slice A l.length c ∧ RdT e W A c l ∧ l.length * P.bytesOf te ≤ reachBytes ∧ ∀ a ∈ l, Q reachBytes a := by
  obtain ⟨A, n, c, rfl⟩ := okWide_slice ht hv
  obtain ⟨Zj, hf⟩ := hd
  obtain ⟨A', c', l, hl, hrd, hq⟩ := rds_row ht h hc h0 hf
  simp [Value.cells] at hl
  obtain ⟨rfl, rfl, rfl⟩ := hl
  have := hq reachBytes (by rw [List.all_eq_true]; intro n hn; exact decide_eq_true (hr n hn))
  exact ⟨A, c, l, rfl, hrd, this.1, this.2⟩
end
end Go.Proofs.YtmgfanhcdfobhaaGreatDoor
namespace Go.Proofs.YtmgfanhcdfobhaaGreatDoor
theorem reachM : reachBytes ≤ 140737488355328 := by decide
section
variable {H : Type} {enc : TypeId × Value → H} {P : Program} {W : World}
theorem rds_ds {t te : TypeId} {α : Type} {e : Enc α} {Q : Nat → α → Prop} (p : Dp α) (ht : P.underlying t = some (.slice te)) (h : Rds enc P W te e Q) (hc : P.cellsOf te = e.sz) (h0 : 0 < e.sz) (hb : Nat.ble 1 (P.bytesOf te) = true) (hp : ∀ r a, Q r a → p.ok W a) :
    Rds enc P W t (eDS e) (fun r x => (dDS e p).ok W x ∧ x.2.2.length ≤ r ∧ ∀ a ∈ x.2.2, Q r a) := by
  intro Zj cs x hx
  obtain ⟨A, c, l, rfl, hr, hq⟩ := rds_row ht h hc h0 hx
  refine ⟨(A, c, l), rfl, fun r hw => ?_⟩
  obtain ⟨h1, h2⟩ := hq r hw
  exact ⟨⟨hr, fun y hy => hp r y (h2 y hy)⟩, Nat.le_trans (Nat.le_mul_of_pos_right _ (Nat.le_of_ble_eq_true hb)) h1, h2⟩
def NetQ (r : Nat) (n : Int × Int) : Prop := (Lit.int .u32 n.1).wf = true ∧ (Lit.int .i64 n.2).wf = true
def TokQ (r : Nat) (x : List UInt8 × List UInt8 × Int) : Prop := x.1.length ≤ r ∧ x.2.1.length ≤ r ∧ (Lit.int .i64 x.2.2).wf = true
def TenDQ (W : World) (r : Nat) (y : Va) : Prop := y.1.length ≤ r ∧ (Lit.int .i64 y.2.1).wf = true ∧ (Lit.int .i64 y.2.2.1).wf = true ∧
  ((dDS eNet dT).ok W y.2.2.2.1 ∧ y.2.2.2.1.2.2.length ≤ r ∧ ∀ n ∈ y.2.2.2.1.2.2, NetQ r n) ∧ ((dDS eTok dT).ok W y.2.2.2.2 ∧ y.2.2.2.2.2.2.length ≤ r ∧ ∀ x ∈ y.2.2.2.2.2.2, TokQ r x)
def CfgQ (W : World) (r : Nat) (c : Int × Int × Int × Int × DS Va) : Prop := (Lit.int .i64 c.1).wf = true ∧ (Lit.int .i64 c.2.1).wf = true ∧ (Lit.int .i64 c.2.2.1).wf = true ∧ (Lit.int .i64 c.2.2.2.1).wf = true ∧
  ((dDS Js Ce).ok W c.2.2.2.2 ∧ c.2.2.2.2.2.2.length ≤ r ∧ ∀ y ∈ c.2.2.2.2.2.2, TenDQ W r y)
theorem net_rds : Rds enc Tryz.prog W 113 eNet NetQ :=
  D1 (l := [(111, 0), (3, 1)]) (by kernel_rfl) (by kernel_rfl) (Gk (R3 Tryz.underlying111) (by kernel_rfl) (Ke (R3 Tryz.underlying3) (by kernel_rfl)))
theorem tok_rds : Rds enc Tryz.prog W 48 eTok TokQ :=
  D1 (l := [(9, 0), (9, 1), (2, 2)]) (by kernel_rfl) (by kernel_rfl) (Gk (Hj Tryz.underlying9) (by kernel_rfl) (Gk (Hj Tryz.underlying9) (by kernel_rfl) (Ke (R3 Tryz.underlying2) (by kernel_rfl))))
theorem ten_rds : Rds enc Tryz.prog W 44 Js (TenDQ W) :=
  D1 (l := [(9, 0), (3, 1), (3, 2), (41, 3), (42, 4)]) (by kernel_rfl) (by kernel_rfl)
    (Gk (Hj Tryz.underlying9) (by kernel_rfl) (Gk (R3 Tryz.underlying3) (by kernel_rfl) (Gk (R3 Tryz.underlying3) (by kernel_rfl)
      (Gk (rds_ds dT Tryz.underlying41 net_rds (by kernel_rfl) (by decide) (by kernel_rfl) (fun _ _ _ => trivial)) (by kernel_rfl) (Ke (rds_ds dT Tryz.underlying42 tok_rds (by kernel_rfl) (by decide) (by kernel_rfl) (fun _ _ _ => trivial)) (by kernel_rfl))))))
theorem cfg_rds : Rds enc Tryz.prog W 24 (Qj (Qc .i64) (Qj (Qc .i64) (Qj (Qc .i64) (Qj (Qc .i64) (eDS Js))))) (CfgQ W) :=
  D1 (l := [(2, 0), (2, 1), (2, 2), (2, 3), (22, 4)]) (by kernel_rfl) (by kernel_rfl)
    (Gk (R3 Tryz.underlying2) (by kernel_rfl) (Gk (R3 Tryz.underlying2) (by kernel_rfl) (Gk (R3 Tryz.underlying2) (by kernel_rfl) (Gk (R3 Tryz.underlying2) (by kernel_rfl)
      (Ke (rds_ds Ce Tryz.underlying22 ten_rds (by kernel_rfl) (by decide) (by kernel_rfl) (fun _ _ h => ⟨trivial, trivial, trivial, h.2.2.2.1.1, h.2.2.2.2.1⟩)) (by kernel_rfl))))))
theorem open_cfg {r0 : Reach} {b0 : Nat} {v : Value} {d : DataW H} {p : List MemPlace} (hv : Value.okWide Tryz.prog W r0 b0 24 v) (hd : DataW.Trod enc Tryz.prog W 0 (fun _ => true) true 24 v d p) (hr : ∀ n ∈ d.weights Tryz.prog 24, n ≤ reachBytes) :
    ∃ (a b c e : Int) (A : Option Addr) (k : Nat) (l : List Va), v = .agg #[.int .i64 a, .int .i64 b, .int .i64 c, .int .i64 e, .slice A (List.length (List.map stT l)) k] ∧ CfgQ W reachBytes (a, b, c, e, A, k, l) := by
  obtain ⟨⟨a, b, c, e, A, k, l⟩, rfl, q⟩ := open_agg Tryz.underlying24 cfg_rds hv hd hr
  refine ⟨a, b, c, e, A, k, l, ?_, q⟩
  rw [List.length_map]
  rfl
theorem cfg_q {W : World} {a b c d : Int} {A : Option Addr} {k : Nat} {x : List Va} (h : CfgQ W reachBytes (a, b, c, d, A, k, x)) : (List.map stT x).length ≤ 140737488355328 ∧ ∀ t ∈ List.map stT x, Mh t := by
  have hM := reachM
  obtain ⟨_, _, _, _, _, h1, h2⟩ := h
  refine ⟨by rw [List.length_map]; exact Nat.le_trans h1 hM, fun t ht => ?_⟩
  obtain ⟨y, hy, rfl⟩ := List.mem_map.1 ht
  obtain ⟨q1, q2, q3, ⟨_, q4, q5⟩, _, q6, q7⟩ := h2 y hy
  refine ⟨Nat.le_trans q1 hM, Nat.le_trans q4 hM, Nat.le_trans q6 hM, fun n hn => ?_, fun z hz => ⟨Nat.le_trans (q7 z hz).1 hM, Nat.le_trans (q7 z hz).2.1 hM⟩⟩
  have := (q5 n hn).1
  simp [Lit.wf, IntKind.min, IntKind.max, IntKind.signed, IntKind.bits] at this
  omega
end
end Go.Proofs.YtmgfanhcdfobhaaGreatDoor
namespace Go.Proofs.YtmgfanhcdfobhaaGreatDoor
def MsgW (r : Nat) (m : Int × Str × Str × Int × Int) : Prop := (Lit.int .i64 m.1).wf = true ∧ m.2.1.length ≤ r ∧ m.2.2.1.length ≤ r ∧ (Lit.int .i64 m.2.2.2.1).wf = true ∧ (Lit.int .i64 m.2.2.2.2).wf = true
def OpKN (r : Nat) (o : Int × (Int × Str × Str × Int × Int) × Int × Str) : Prop := (Lit.int .i64 o.1).wf = true ∧ MsgW r o.2.1 ∧ (Lit.int .i64 o.2.2.1).wf = true ∧ o.2.2.2.length ≤ r
def flatK (o : Int × (Int × Str × Str × Int × Int) × Int × Str) : OpK := (o.1, o.2.1.1, o.2.1.2.1, o.2.1.2.2.1, o.2.1.2.2.2.1, o.2.1.2.2.2.2, o.2.2.1, o.2.2.2)
def OpKW (r : Nat) (o : OpK) : Prop := o.2.2.1.length ≤ r ∧ o.2.2.2.1.length ≤ r ∧ o.2.2.2.2.2.2.2.length ≤ r
section
variable {H : Type} {enc : TypeId × Value → H} {W : World}
theorem msg_rds : Rds enc Tryz.prog W 63 (Qj (Qc .i64) (Qj Qx (Qj Qx (Qj (Qc .i64) (Qc .i64))))) MsgW :=
  D1 (l := [(3, 0), (9, 1), (9, 2), (2, 3), (2, 4)]) (by kernel_rfl) (by kernel_rfl)
    (Gk (R3 Tryz.underlying3) (by kernel_rfl) (Gk (Hj Tryz.underlying9) (by kernel_rfl) (Gk (Hj Tryz.underlying9) (by kernel_rfl) (Gk (R3 Tryz.underlying2) (by kernel_rfl) (Ke (R3 Tryz.underlying2) (by kernel_rfl))))))
theorem opk_nest : Rds enc Tryz.prog W 67 (Qj (Qc .i64) (Qj (Qj (Qc .i64) (Qj Qx (Qj Qx (Qj (Qc .i64) (Qc .i64))))) (Qj (Qc .i64) Qx))) OpKN :=
  D1 (l := [(3, 0), (63, 1), (2, 6), (9, 7)]) (by kernel_rfl) (by kernel_rfl)
    (Gk (R3 Tryz.underlying3) (by kernel_rfl) (Gk msg_rds (by kernel_rfl) (Gk (R3 Tryz.underlying2) (by kernel_rfl) (Ke (Hj Tryz.underlying9) (by kernel_rfl)))))
theorem opk_rds : Rds enc Tryz.prog W 67 (Qj (Qc .i64) (Qj (Qc .i64) (Qj Qx (Qj Qx (Qj (Qc .i64) (Qj (Qc .i64) (Qj (Qc .i64) Qx))))))) OpKW :=
  Rds.conv opk_nest flatK (fun _ => rfl) (fun r a h => ⟨h.2.1.2.1, h.2.1.2.2.1, h.2.2.2⟩)
theorem opk_q {l : List OpK} (hl : l.length ≤ reachBytes) (h : ∀ o ∈ l, OpKW reachBytes o) : l.length ≤ 140737488355328 ∧ ∀ o ∈ l, OpKQ o := by
  have hM := reachM
  refine ⟨Nat.le_trans hl hM, fun o ho => ?_⟩
  obtain ⟨q1, q2, q3⟩ := h o ho
  exact ⟨Nat.le_trans q1 hM, Nat.le_trans q2 hM, Nat.le_trans q3 hM⟩
end
end Go.Proofs.YtmgfanhcdfobhaaGreatDoor
namespace Go.Proofs.YtmgfanhcdfobhaaGreatDoor
open Go.RowKit
abbrev Ox : List (String × DataW Unit) := [("math/bits.deBruijn32tab", Rows.laid_math_bits_deBruijn32tab), ("math/bits.deBruijn64tab", Rows.laid_math_bits_deBruijn64tab), ("internal/strconv.uint64pow10", Rows.laid_internal_strconv_uint64pow10)
  , ("unicode/utf8.acceptRanges", Rows.laid_unicode_utf8_acceptRanges), ("unicode/utf8.first", Rows.laid_unicode_utf8_first)
  ]
theorem gTab : Tryz.prog.globalNamed Ee = some 0 := by kernel_rfl
theorem gTabType : (Tryz.prog.globals[0]?).map (·.type) = some 183 := by kernel_rfl
theorem cellsTab : Tryz.prog.cellsOf 183 = 20 := by kernel_rfl
theorem cellsU64 : Tryz.prog.cellsOf 153 = 1 := by kernel_rfl
theorem laid_of {W : World} (h : laidMetH Tryz.prog Ox W) : Fn W := by
  have h1 := h.filter (fun x => x.1 == Ee)
  have e : Ox.filter (fun x => x.1 == Ee) = [(Ee, Lib.tabData .u64 Lib.pow10Tab)] := by kernel_rfl
  rw [e] at h1
  have ht : Lib.TabIs Tryz.prog W Ee .u64 Lib.pow10Tab := Lib.tabIs_of_head (rest := []) gTab gTabType Tryz.underlying183 Tryz.underlying153 cellsU64 cellsTab h1
  refine ⟨ht, fun g hg => ?_⟩
  obtain rfl := Option.some.inj (gTab.symm.trans hg)
  have := ht.cell gTab 0 (by decide)
  exact block_lt_of_cell this
def cells1 : DataW Unit → List Value
  | .lit (.int k z) => [.int k z]
  | .lit (.bool b) => [.bool b]
  | _ => []
def cells2 : DataW Unit → List Value
  | .agg l => l.flatMap cells1
  | d => cells1 d
def cells3 : DataW Unit → List Value
  | .agg l => l.flatMap cells2
  | d => cells2 d
def F1 (d : DataW Unit) : Obj → Obj
  | .cells _ t frozen => .cells (cells3 d).toArray t frozen
  | o => o
noncomputable def Iu (os : Os) : World :=
  { World.holding Tryz.prog os ⟨#[], #[], []⟩ with heap := ((((World.holding Tryz.prog os ⟨#[], #[], []⟩).heap.modify 4 (F1 Rows.laid_math_bits_deBruijn32tab)).modify 5 (F1 Rows.laid_math_bits_deBruijn64tab)).modify 0 (F1 Rows.laid_internal_strconv_uint64pow10)
    |>.modify 2 (F1 Rows.laid_unicode_utf8_acceptRanges) |>.modify 1 (F1 Rows.laid_unicode_utf8_first)
    ) }
end Go.Proofs.YtmgfanhcdfobhaaGreatDoor
namespace Go.Proofs.YtmgfanhcdfobhaaGreatDoor
open Go.ChangeShapes Go.WideShapes Go.ChangeAt Go.RowKit
open Go.ChangeMaps (open_string shut_string)
theorem Ff (H : Type) (enc : TypeId × Value → H) (W : World) (base : Nat) (args : Array Value) (ds gs : List (DataW H)) (before : List MemPlace) (vt : List TypeId)
    (hval : ∀ (j : Nat) t v, Tryz.f13.params[j]? = some t → args[j]? = some v → Value.okWide Tryz.prog W .any base t v)
    (hW : DataW.Whole enc Tryz.prog Tryz.f13.params.toList Rows.shakePlaysSpec.vars false W args.toList ds gs before) (hL : laidMetH Tryz.prog Rows.shakePlaysRow.laid W)
    (hZ : (DataW.weightsEach Tryz.prog (Tryz.f13.params.toList ++ vt) (ds ++ gs)).all (· ≤ reachBytes) = true) :
    Calls Tryz.prog 13 args W fun e W' => ∃ v, e = .returned v ∧ Rows.shakePlaysSpec.post enc Tryz.prog Tryz.f13 false true false false W args v W' := by
  have hW' := hW
  obtain ⟨p, q, hA0, hV, rfl, hfz, hnd⟩ := hW
  have hA : DataW.TrodAll enc Tryz.prog W 0 (fun _ => true) true Tryz.f13.params.toList args.toList ds p := hA0
  rw [Tryz.params13] at hA hval hZ
  obtain ⟨v0, vs0, d0, ds0, p0, q0, hargs, rfl, rfl, h0, r0⟩ := trodAll_cons hA
  obtain ⟨v1, vs1, d1, ds1, p1, q1, rfl, rfl, rfl, h1, r1⟩ := trodAll_cons r0
  obtain ⟨rfl, rfl, rfl⟩ := trodAll_nil r1
  obtain rfl : args = #[v0, v1] := by cases args; simp_all
  obtain ⟨rfl, rfl⟩ := trodVars_none hV
  have wz : ∀ (j : Nat) t d, _ → _ → ∀ n ∈ DataW.weights Tryz.prog t d, n ≤ reachBytes := fun j t d ht hd n hn => of_decide_eq_true (List.all_eq_true.1 hZ n (DataW.weights_mem_each (j := j) ht hd n hn))
  have k0 := h0
  have lt0 : ∀ x ∈ p0, x.block < W.heap.size := by obtain ⟨m, hm⟩ := k0; exact DataW.trod_lt m _ _ _ hm
  have k1 := h1
  have lt1 : ∀ x ∈ p1, x.block < W.heap.size := by obtain ⟨m, hm⟩ := k1; exact DataW.trod_lt m _ _ _ hm
  obtain ⟨a0_0, a0_1, a0_2, a0_3, A0_, c0_, l0_, rfl, q0_⟩ := open_cfg (hval 0 24 v0 rfl rfl) h0 (wz 0 24 d0 rfl rfl)
  obtain ⟨A1_, c1_, l1_, rfl, hr1_, hb1_, hq1_⟩ := open_row Tryz.underlying58 opk_rds (by kernel_rfl) (by decide) (hval 1 58 v1 rfl rfl) h1 (wz 1 58 d1 rfl rfl)
  have hl1_ : l1_.length ≤ reachBytes := Nat.le_trans (Nat.le_mul_of_pos_right _ (of_decide_eq_true (by kernel_rfl))) hb1_
  clear hA0
  refine (Du A0_ c0_ A1_ c1_ a0_0 a0_1 a0_2 a0_3 l0_ l1_ W (laid_of hL) q0_.2.2.2.2.1 hr1_ true (Hw _ _ _ _ _ _ (cfg_q q0_).1 (cfg_q q0_).2 (opk_q hl1_ hq1_).1 (opk_q hl1_ hq1_).2)).mono fun e W' ⟨he, bel0⟩ => ?_
  have bel := SP.keeps bel0
  subst he
  exact ⟨_, rfl, _, _, _, [], _, [], hW', trodAll_mk1 (shut_bool Tryz.underlying4 _), (trodAll_cons_mk (Below.trod laidOut (by kernel_rfl) (of_decide_eq_true (by kernel_rfl)) k0 bel lt0) (trodAll_cons_mk (Below.trod laidOut (by kernel_rfl) (of_decide_eq_true (by kernel_rfl)) k1 bel lt1) trodAll_mk0)), rfl, bel.frame _, fun h => by cases h⟩
theorem Fg (os : Os) : laidMet Tryz.prog Rows.shakePlaysRow.laid ((Iu os).forCall (fun _ _ => 0) ⟨#[], #[.agg #[.int .i64 0, .int .i64 0, .int .i64 0, .int .i64 0, .slice none 0 0], .slice none 0 0], []⟩).memory :=
  laidMet_of_run' 8 (by kernel_rfl) (by kernel_rfl)
theorem Hx (os : Os) {H : Type} (enc : TypeId × Value → H) : ∃ places, DataW.whole enc Tryz.prog ((Iu os).forCall (fun _ _ => 0) ⟨#[], #[.agg #[.int .i64 0, .int .i64 0, .int .i64 0, .int .i64 0, .slice none 0 0], .slice none 0 0], []⟩).memory Tryz.f13.params.toList Rows.shakePlaysSpec.vars false [.agg #[.int .i64 0, .int .i64 0, .int .i64 0, .int .i64 0, .slice none 0 0], .slice none 0 0] 8 = some ([.agg [.lit (.int .i64 0), .lit (.int .i64 0), .lit (.int .i64 0), .lit (.int .i64 0), .nil], .nil], [], places) :=
  ⟨[], by kernel_rfl⟩
theorem Hk (os : Os) (started : os.Started) (H : Type) (enc : TypeId × Value → H) (F : Stop.Interp) :
    ReturnsInHanded {} Tryz.checked os 13 .any ((OpenSpec.ofChange Rows.shakePlaysSpec).preRow enc Tryz.prog Tryz.f13 Rows.shakePlaysRow.domain false Rows.shakePlaysRow.laid) (((OpenSpec.ofChange Rows.shakePlaysSpec).at F).post enc Tryz.prog Tryz.f13 false true false false) := by
  obtain ⟨places, hx⟩ := Hx os enc
  refine returnsInHanded_of_row (C := Tryz.checked) (s := OpenSpec.ofChange Rows.shakePlaysSpec) own started (by kernel_rfl) Tryz.func13
    (witness_row_at (enc := enc) (C := Tryz.checked) false (Iu os) #[.agg #[.int .i64 0, .int .i64 0, .int .i64 0, .int .i64 0, .slice none 0 0], .slice none 0 0] rfl (by kernel_rfl) (by kernel_rfl) (by kernel_rfl)
      (OpenSpec.preRow_of_cond 8 hx (by kernel_rfl) (fun k hk => by cases hk) (by kernel_rfl) (Fg os))) ?_
  intro W base args ds gs before hval hW _ _ hZ hL _ _
  exact Ff H enc W base args ds gs before _ hval hW hL hZ
theorem Iv : Rows.ShakePlaysSaid :=
  OpenClaim.holds_of_cond 13 Tryz.f13 rfl rfl rfl rfl rfl rfl rfl ⟨rfl, rfl, rfl, rfl, rfl⟩ rfl rfl rfl rfl rfl (by kernel_rfl) Tryz.func13 (by kernel_rfl)
    (of_decide_eq_true (by kernel_rfl)) (by unfold Func.isWrapper; first | (rw [if_pos (by decide +kernel)]; kernel_rfl) | (rw [if_neg (by decide +kernel)]; exact ⟨rfl, rfl⟩))
    (fun os started H enc _ F => by rw [OpenClaim.pre_eq_preRow]; exact Hk os started H enc F)
theorem Ex (f : FuncId) (fn : Func) (hf : Tryz.pinned.checked.prog.funcNamed Rows.shakePlaysRow.func = some f) (hfn : Tryz.pinned.checked.prog.funcs[f]? = some fn) :
    false = Tryz.pinned.checked.prog.looks [] ∧ ∀ (j : Nat) t, fn.params[j]? = some t → Tryz.pinned.checked.prog.wantsStandIn t = false := by
  obtain rfl : f = 13 := Option.some.inj ((show Tryz.prog.funcNamed Rows.shakePlaysRow.func = some 13 by kernel_rfl).symm.trans hf) |>.symm
  obtain rfl : fn = Tryz.f13 := (Option.some.inj (Tryz.func13.symm.trans hfn)).symm
  refine ⟨by kernel_rfl, fun j t ht => ?_⟩
  have ha : (Tryz.f13.params.toList.all fun t => !Tryz.prog.wantsStandIn t) = true := by kernel_rfl
  rw [List.all_eq_true] at ha
  have := ha t (by rw [← Array.getElem?_toList] at ht; exact List.mem_of_getElem? ht)
  have h2 : Tryz.prog.wantsStandIn t = false := by simpa using this
  exact h2
theorem shakePlays_card : Rows.ShakePlaysCardSaid :=
  Claim7.holds_tied_plain_at .later [] _ _ _ _ Iv (fun _ h => by cases h) (by kernel_rfl) (fun _ h => by cases h) shakePlays_row_tie rfl ⟨rfl, rfl⟩ (by kernel_rfl) rfl Ex (by kernel_rfl)
#print axioms shakePlays_card
end Go.Proofs.YtmgfanhcdfobhaaGreatDoor
