import Derived.Test.YtoflbpmbkmephaaGreatDoorPkScriptTells3
set_option linter.unusedSimpArgs false
set_option linter.unusedVariables false
set_option linter.unusedSectionVars false
set_option maxRecDepth 100000
set_option maxHeartbeats 40000000
namespace Go.Proofs.YtoflbpmbkmephaaGreatDoor
open Go.RowKit
def Zp (p1 : (List UInt8)) : Option ((List UInt8)) :=
  (cond (p1 == ([] : List UInt8)) (some (([45] : List UInt8))) ((chk (Nat.ble (List.length p1) 281474976710656)).bind fun _ => ((Gq p1).bind fun z9 => (some (z9)))))
set_option maxHeartbeats 40000000 in
theorem Yg  (p1 : (List UInt8)) (w0 : World)  (r : ((List UInt8))) (H : Zp p1 = some r) :
  Calls Tryz.prog 81 #[(.string ⟨List.toArray p1⟩)] w0 (fun e w' => e = .returned (.string ⟨List.toArray r⟩) ∧ SP [] w0 w' []) := by
 unfold Zp at H
 refine Ql (n := 8) Tryz.func81 K K K ?_
 have f := Qy [] w0
 refine aQ ?_
 refine aR ?_
 refine iR 1 1 [(2, (.string ⟨List.toArray ([] : List UInt8)⟩))] ?_
 refine iF ?_
 refine aQ ?_
 refine aQ ?_
 refine aR ?_
 refine iR 1 1 [(3, (.string ⟨List.toArray p1⟩))] ?_
 refine iS 2 ?_
 refine Qu (op := .eql) (T := 9) (T' := 9) (x := (.tmp 3)) (y := (.const (.string ⟨List.toArray ([] : List UInt8)⟩))) (a := p1) (b := ([] : List UInt8)) (r := (.bool (p1 == ([] : List UInt8)))) (d := (some 4)) (k := 1) K rfl K K rfl ?_
 refine iF ?_
 refine Vm K (o := (.tmp 4)) K (b := (p1 == ([] : List UInt8))) K (fun c => ?_) (fun c => ?_)
 ·have H := ct H c
  refine aQ ?_
  refine aR ?_
  refine iR 1 1 [(2, (.string ⟨List.toArray ([45] : List UInt8)⟩))] ?_
  refine iF ?_
  refine At.ret K ?_
  refine ⟨(.string ⟨List.toArray ([45] : List UInt8)⟩), K, ?_⟩
  obtain rfl := Qb H
  exact ⟨rfl, SP.sel f [] rfl rfl⟩
 ·have H := cf H c
  refine At.skip K ?_
  refine aQ ?_
  refine aR ?_
  refine iR 1 1 [(5, (.string ⟨List.toArray p1⟩))] ?_
  obtain ⟨m, H⟩ := Dx H
  refine iS 2 ?_
  refine Co (S' := 9) (T := 48) (E := 5) (x := (.tmp 5)) (l := p1) (d := (some 6)) (k := 1) K rfl K K K K (Cp m) f ?_
  intro g4 c5 w6 g _
  have h : SP [] w0 w6 [rdE eU8 (some ⟨g4, 0, none⟩) c5 p1] := g
  clear g
  obtain ⟨z9, p, H⟩ := Qa H
  refine iS 3 ?_
  refine cF 66 #[(.tmp 6)] #[48] 7 Tryz.call66 (Ck (some ⟨g4, 0, none⟩) c5 p1 w6 (Hm (SP.get h (i := 0) rfl)) z9 p) ?_
  rintro e s ⟨rfl, j⟩
  refine ⟨_, rfl, ?_⟩
  have q := SP.call h j
  clear j
  refine iR 1 4 [(2, (.string ⟨List.toArray z9⟩))] ?_
  refine iF ?_
  refine At.ret K ?_
  refine ⟨(.string ⟨List.toArray z9⟩), K, ?_⟩
  obtain rfl := Qb H
  exact ⟨rfl, SP.sel q [] rfl rfl⟩
def Vi (p1 : Int) : Option ((List UInt8)) :=
  ((X9 p1).bind fun z2 => (some (z2)))
set_option maxHeartbeats 40000000 in
theorem Vk  (p1 : Int) (w0 : World)  (r : ((List UInt8))) (H : Vi p1 = some r) :
  Calls Tryz.prog 82 #[(.int .i64 p1)] w0 (fun e w' => e = .returned (.string ⟨List.toArray r⟩) ∧ SP [] w0 w' []) := by
 unfold Vi at H
 refine Ql (n := 5) Tryz.func82 K K K ?_
 have b := Qy [] w0
 refine aQ ?_
 refine aR ?_
 refine iR 1 1 [(2, (.string ⟨List.toArray ([] : List UInt8)⟩))] ?_
 refine iF ?_
 refine aQ ?_
 refine aR ?_
 refine iR 1 1 [(3, (.int .i64 p1))] ?_
 obtain ⟨z2, c, H⟩ := Qa H
 refine iS 2 ?_
 refine cF 110 #[(.tmp 3)] #[2] 4 Tryz.call110 (Gr  p1 w0  z2 c) ?_
 rintro e w4 ⟨rfl, a⟩
 refine ⟨_, rfl, ?_⟩
 have d := SP.call b a
 clear a
 refine iR 1 3 [(2, (.string ⟨List.toArray z2⟩))] ?_
 refine iF ?_
 refine At.ret K ?_
 refine ⟨(.string ⟨List.toArray z2⟩), K, ?_⟩
 obtain rfl := Qb H
 exact ⟨rfl, SP.sel d [] rfl rfl⟩
def Jb (v3 : Bool) : Option (Bool) :=
  (some (v3))
def Zi (p1 : Int) : Option (Bool) :=
  (cond (decide (p1 ≥ 0)) (Jb (decide (p1 ≤ 1099511627776))) (Jb false))
set_option maxHeartbeats 40000000 in
theorem V6  (p1 : Int) (w0 : World)  (r : (Bool)) (H : Zi p1 = some r) :
  Calls Tryz.prog 83 #[(.int .i64 p1)] w0 (fun e w' => e = .returned (.bool r) ∧ SP [] w0 w' []) := by
 unfold Zi at H
 refine Ql (n := 9) Tryz.func83 K K K ?_
 have c := Qy [] w0
 refine aQ ?_
 refine aR ?_
 refine iR 1 1 [(2, (.bool false))] ?_
 refine iF ?_
 refine aQ ?_
 refine At.join (fun ρ w => ∃ (v3 : Bool), Q7 ρ [(2, (.bool v3))] ∧ SP [] w0 w [] ∧ Jb v3 = some r) ?_ ?_
 ·refine aR ?_
  refine iR 3 3 [(3, (.int .i64 p1)), (4, (.bool (decide (p1 ≥ 0)))), (5, (.bool (decide (p1 ≥ 0))))] ?_
  refine In.guard (t := 5) (b := (decide (p1 ≥ 0))) K (fun a => ?_) (fun a => ?_)
  ·have H := ct H a
   refine iR 4 7 [(6, (.int .i64 p1)), (7, (.bool (decide (p1 ≤ 1099511627776)))), (8, (.bool (decide (p1 ≤ 1099511627776)))), (2, (.bool (decide (p1 ≤ 1099511627776))))] ?_
   refine iF ?_
   exact ⟨(decide (p1 ≤ 1099511627776)), ⟨K, trivial⟩, SP.sel c [] rfl rfl, H⟩
  ·have H := cf H a
   refine iR 4 7 [(6, undef), (7, undef), (8, (.bool false)), (2, (.bool false))] ?_
   refine iF ?_
   exact ⟨false, ⟨K, trivial⟩, SP.sel c [] rfl rfl, H⟩
 ·rintro ρ w4 ⟨v3, hk, d, H⟩
  unfold Jb at H
  first | refine At.known [(2, (.bool v3))] hk ?_ | rw [← Qc (l := [(2, (.bool v3))]) hk]
  refine At.ret K ?_
  refine ⟨(.bool v3), K, ?_⟩
  obtain rfl := Qb H
  exact ⟨rfl, SP.sel d [] rfl rfl⟩
def Qz (a : (List UInt8)) (b : Bool) : Option ((List UInt8)) :=
  (cond b (some (([] : List UInt8))) (some (a)))
def Xl (b : Int) (d : Int) (g : Int) (h : (List UInt8)) (e : Int) (f : (List UInt8)) (c : (List UInt8)) (i : (List UInt8)) (j : Int) (k : Int) (l : Int) (m : (List UInt8)) (n : Int) (o : (List UInt8)) (p : (List UInt8)) (q : (List UInt8)) (a : (List UInt8)) (r : Bool) : Option ((List UInt8)) :=
  (cond (a == ([] : List UInt8)) (Qz a true) (cond (!((j == b) && ((k == d) && ((l == g) && ((m == h) && ((n == e) && ((o == f) && ((p == c) && (q == i))))))))) (Qz a true) ((Zi d).bind fun s => (cond (!s) (Qz a true) ((Zi e).bind fun t => (cond (!t) (Qz a true) (cond r ((Zh f).bind fun u => (cond (!u) (Qz a true) (cond (b == 7) ((Zh c).bind fun v => (Qz a (!v))) (Qz a false)))) (cond (b == 7) ((Zh c).bind fun w => (Qz a (!w))) (Qz a false)))))))))
def Xm (a : Int) (b : Int) (c : Int) (d : (List UInt8)) (e : Int) (f : (List UInt8)) (g : (List UInt8)) (h : (List UInt8)) (i : Int) (j : Int) (k : Int) (l : (List UInt8)) (m : Int) (n : (List UInt8)) (o : (List UInt8)) (p : (List UInt8)) (q : (List UInt8)) : Option ((List UInt8)) :=
  (cond (a == 7) (Xl a b c d e f g h i j k l m n o p q true) (Xl a b c d e f g h i j k l m n o p q (a == 8)))
def Jo (a : Int) (b : Int) (c : Int) (d : (List UInt8)) (e : Int) (f : (List UInt8)) (g : (List UInt8)) (h : (List UInt8)) (i : Int) (j : Int) (k : (List UInt8)) (l : Int) (m : (List UInt8)) (n : (List UInt8)) (o : (List UInt8)) (p : (List UInt8)) : Option ((List UInt8)) :=
  (Xm a b c d e f g h i j 0 k l m n o p)
def Jp (a : Int) (b : Int) (c : Int) (d : (List UInt8)) (e : Int) (f : (List UInt8)) (g : (List UInt8)) (h : (List UInt8)) (i : Int) (j : Int) (k : Int) (l : (List UInt8)) (m : (List UInt8)) (n : (List UInt8)) (o : (List UInt8)) : Option ((List UInt8)) :=
  (Jo a b c d e f g h i j ([] : List UInt8) k l m n o)
def Jq (a : Int) (b : Int) (c : Int) (d : (List UInt8)) (e : Int) (f : (List UInt8)) (g : (List UInt8)) (h : (List UInt8)) (i : Int) (j : Int) (k : Int) (l : (List UInt8)) (m : (List UInt8)) (n : (List UInt8)) (o : (List UInt8)) : Option ((List UInt8)) :=
  (Jp a b c d e f g h i j k l m n o)
def Jr (a : Int) (b : Int) (c : Int) (d : (List UInt8)) (e : Int) (f : (List UInt8)) (g : (List UInt8)) (h : (List UInt8)) (i : Int) (j : Int) (k : Int) (l : (List UInt8)) (m : (List UInt8)) (n : (List UInt8)) : Option ((List UInt8)) :=
  (Jq a b c d e f g h i j k l m ([] : List UInt8) n)
def Js (a : Int) (b : Int) (c : Int) (d : (List UInt8)) (e : Int) (f : (List UInt8)) (g : (List UInt8)) (h : (List UInt8)) (i : Int) (j : Int) (k : (List UInt8)) (l : (List UInt8)) (m : (List UInt8)) : Option ((List UInt8)) :=
  (Jr a b c d e f g h i 0 j k l m)
def Jt (a : Int) (b : Int) (c : Int) (d : (List UInt8)) (e : Int) (f : (List UInt8)) (g : (List UInt8)) (h : (List UInt8)) (i : Int) (j : (List UInt8)) (k : (List UInt8)) (l : (List UInt8)) : Option ((List UInt8)) :=
  (Js a b c d e f g h i 0 j k l)
def Ju (a : Int) (b : Int) (c : Int) (d : (List UInt8)) (e : Int) (f : (List UInt8)) (g : (List UInt8)) (h : (List UInt8)) (i : Int) (j : (List UInt8)) (k : (List UInt8)) : Option ((List UInt8)) :=
  (Jt a b c d e f g h i j ([] : List UInt8) k)
def Jv (a : Int) (b : Int) (c : Int) (d : (List UInt8)) (e : Int) (f : (List UInt8)) (g : (List UInt8)) (h : (List UInt8)) (i : Int) (j : (List UInt8)) : Option ((List UInt8)) :=
  (Ju a b c d e f g h i ([] : List UInt8) j)
def Uv (a : Int) (b : Int) (f : Int) (g : (List UInt8)) (d : Int) (e : (List UInt8)) (h : (List UInt8)) (c : (List UInt8)) : Option ((List UInt8)) :=
  (cond (a == 1) ((Jc f).bind fun i => ((app ([99, 111, 110, 110, 101, 99, 116, 32] : List UInt8) i).bind fun j => ((app j ([32] : List UInt8)).bind fun k => ((Zp c).bind fun l => ((app k l).bind fun m => (Xm a b f g d e h c a 0 f ([] : List UInt8) 0 ([] : List UInt8) ([] : List UInt8) c m)))))) (cond (a == 2) ((Vi b).bind fun n => ((app ([98, 121, 116, 101, 115, 32] : List UInt8) n).bind fun o => ((app o ([32] : List UInt8)).bind fun p => ((Zp g).bind fun q => ((app p q).bind fun r => ((app r ([32] : List UInt8)).bind fun s => ((Zp c).bind fun t => ((app s t).bind fun u => (Jo a b f g d e h c a b g 0 ([] : List UInt8) ([] : List UInt8) c u))))))))) (cond (a == 3) ((Vi b).bind fun v => ((app ([98, 117, 100, 103, 101, 116, 32] : List UInt8) v).bind fun w => ((app w ([32] : List UInt8)).bind fun x => ((Vi d).bind fun y => ((app x y).bind fun z => (Jp a b f g d e h c a b d ([] : List UInt8) ([] : List UInt8) ([] : List UInt8) z)))))) (cond (a == 4) ((Vi b).bind fun a0 => ((app ([104, 97, 108, 102, 32] : List UInt8) a0).bind fun a1 => ((app a1 ([32] : List UInt8)).bind fun a2 => ((Zp c).bind fun a3 => ((app a2 a3).bind fun a4 => (Jq a b f g d e h c a b 0 ([] : List UInt8) ([] : List UInt8) c a4)))))) (cond (a == 5) ((Vi b).bind fun a5 => ((app ([114, 101, 115, 101, 116, 32] : List UInt8) a5).bind fun a6 => (Jr a b f g d e h c a b 0 ([] : List UInt8) ([] : List UInt8) a6))) (cond (a == 6) ((Vi d).bind fun a7 => ((app ([116, 105, 99, 107, 32] : List UInt8) a7).bind fun a8 => (Js a b f g d e h c a d ([] : List UInt8) ([] : List UInt8) a8))) (cond (a == 7) ((app ([114, 101, 118, 111, 107, 101, 32] : List UInt8) e).bind fun a9 => ((app a9 ([32] : List UInt8)).bind fun b0 => ((app b0 h).bind fun b1 => (Jt a b f g d e h c a e h b1)))) (cond (a == 8) ((app ([101, 118, 105, 99, 116, 32] : List UInt8) e).bind fun b2 => (Ju a b f g d e h c a e b2)) (cond (a == 9) (Jv a b f g d e h c a ([100, 114, 97, 105, 110] : List UInt8)) (Jv a b f g d e h c 0 ([] : List UInt8)))))))))))
set_option maxHeartbeats 40000000 in
theorem Xn  (c : Int) (m : Int) (a2 : Int) (a1 : (List UInt8)) (s : Int) (u : (List UInt8)) (a0 : (List UInt8)) (p : (List UInt8)) (w0 : World)  (r : ((List UInt8))) (H : Uv c m a2 a1 s u a0 p = some r) :
  Calls Tryz.prog 36 #[(.agg #[(.int .i64 c), (.int .i64 m), (.int .u32 a2), (.string ⟨List.toArray a1⟩), (.int .i64 s), (.string ⟨List.toArray u⟩), (.string ⟨List.toArray a0⟩), (.string ⟨List.toArray p⟩)])] w0 (fun e w' => e = .returned (.string ⟨List.toArray r⟩) ∧ SP [] w0 w' []) := by
 unfold Uv at H
 refine Ql (n := 188) Tryz.func36 K K K ?_
 have o6 := Qy [] w0
 refine aQ ?_
 refine aR ?_
 refine iS 1 ?_
 refine Yi (t := 52) (x := (.tmp 0)) (v := (.agg #[(.int .i64 c), (.int .i64 m), (.int .u32 a2), (.string ⟨List.toArray a1⟩), (.int .i64 s), (.string ⟨List.toArray u⟩), (.string ⟨List.toArray a0⟩), (.string ⟨List.toArray p⟩)])) (d := (some 1)) (k := 0) K rfl K o6 ?_
 intro g9 y5 o7
 refine iR 1 2 [(2, (.string ⟨List.toArray ([] : List UInt8)⟩))] ?_
 refine iF ?_
 refine aQ ?_
 refine aR ?_
 refine iS 1 ?_
 refine Qh.alloc (t := 52) (z := (.agg #[(.int .i64 0), (.int .i64 0), (.int .u32 0), (.string ⟨List.toArray ([] : List UInt8)⟩), (.int .i64 0), (.string ⟨List.toArray ([] : List UInt8)⟩), (.string ⟨List.toArray ([] : List UInt8)⟩), (.string ⟨List.toArray ([] : List UInt8)⟩)])) (d := (some 3)) (k := 0) K rfl K o7 ?_
 intro q y6 a3
 refine iF ?_
 refine aQ ?_
 refine aR ?_
 refine iR 1 1 [(4, (.string ⟨List.toArray ([] : List UInt8)⟩))] ?_
 refine iF ?_
 refine aQ ?_
 refine aQ ?_
 refine aR ?_
 refine iR 1 1 [(6, (pt g9 0))] ?_
 refine iS 2 ?_
 refine sL 3 6 g9 0 0 (.int .i64 c) 7 a3 rfl ?_
 refine iF ?_
 refine J2 K (id := 0) K ?_
 refine aQ ?_
 refine aR ?_
 refine iR 2 2 [(9, (.bool (c == 1))), (8, (.bool (c == 1)))] ?_
 refine iF ?_
 refine At.join (fun ρ w => ∃ (a6 : Int) (a7 : Int) (a8 : Int) (a9 : (List UInt8)) (b0 : Int) (b1 : (List UInt8)) (b2 : (List UInt8)) (b3 : (List UInt8)) (a4 : (List UInt8)), Q7 ρ [(1, (pt g9 0)), (3, (pt q 0)), (4, (.string ⟨List.toArray a4⟩))] ∧ SP [] w0 w [Qk g9 52 #[(.int .i64 c), (.int .i64 m), (.int .u32 a2), (.string ⟨List.toArray a1⟩), (.int .i64 s), (.string ⟨List.toArray u⟩), (.string ⟨List.toArray a0⟩), (.string ⟨List.toArray p⟩)], Qk q 52 #[(.int .i64 a6), (.int .i64 a7), (.int .u32 a8), (.string ⟨List.toArray a9⟩), (.int .i64 b0), (.string ⟨List.toArray b1⟩), (.string ⟨List.toArray b2⟩), (.string ⟨List.toArray b3⟩)]] ∧ Xm c m a2 a1 s u a0 p a6 a7 a8 a9 b0 b1 b2 b3 a4 = some r) ?_ ?_
 ·refine Vm K (o := (.tmp 8)) K (b := (c == 1)) K (fun j1 => ?_) (fun j1 => ?_)
  ·have H := ct H j1
   refine aQ ?_
   refine aR ?_
   refine iR 1 1 [(10, (pt g9 0))] ?_
   refine iS 2 ?_
   refine sL 3 10 g9 0 0 (.int .i64 c) 11 a3 rfl ?_
   refine iR 1 3 [(12, (pt g9 2))] ?_
   refine iS 4 ?_
   refine sL 50 12 g9 2 0 (.int .u32 a2) 13 a3 rfl ?_
   refine iR 1 5 [(14, (pt g9 7))] ?_
   refine iS 6 ?_
   refine sL 9 14 g9 7 0 (.string ⟨List.toArray p⟩) 15 a3 rfl ?_
   refine iR 1 7 [(16, (.agg #[(.int .i64 c), (.int .i64 0), (.int .u32 a2), (.string ⟨List.toArray ([] : List UInt8)⟩), (.int .i64 0), (.string ⟨List.toArray ([] : List UInt8)⟩), (.string ⟨List.toArray ([] : List UInt8)⟩), (.string ⟨List.toArray p⟩)]))] ?_
   refine iS 8 ?_
   refine Qh.store (t := 52) (x := (.tmp 3)) (y := (.tmp 16)) (g := q) (off := 0) (i := 1) (v := (.agg #[(.int .i64 c), (.int .i64 0), (.int .u32 a2), (.string ⟨List.toArray ([] : List UInt8)⟩), (.int .i64 0), (.string ⟨List.toArray ([] : List UInt8)⟩), (.string ⟨List.toArray ([] : List UInt8)⟩), (.string ⟨List.toArray p⟩)])) (cs' := #[(.int .i64 c), (.int .i64 0), (.int .u32 a2), (.string ⟨List.toArray ([] : List UInt8)⟩), (.int .i64 0), (.string ⟨List.toArray ([] : List UInt8)⟩), (.string ⟨List.toArray ([] : List UInt8)⟩), (.string ⟨List.toArray p⟩)]) (d := none) (k := 7) K rfl K K a3 rfl K ?_
   intro y7 o8
   refine iF ?_
   obtain ⟨b4, o9, H⟩ := Qa H
   obtain ⟨hl5689, H⟩ := Vb H
   obtain ⟨e6, hyl5688⟩ : ∃ y, ([99, 111, 110, 110, 101, 99, 116, 32] : List UInt8) ++ b4 = y := ⟨_, rfl⟩
   rw [hyl5688] at H
   obtain ⟨hl5691, H⟩ := Vb H
   obtain ⟨e7, hyl5690⟩ : ∃ y, e6 ++ ([32] : List UInt8) = y := ⟨_, rfl⟩
   rw [hyl5690] at H
   obtain ⟨c0, p0, H⟩ := Qa H
   obtain ⟨hl5699, H⟩ := Vb H
   obtain ⟨d6, hyl5698⟩ : ∃ y, e7 ++ c0 = y := ⟨_, rfl⟩
   rw [hyl5698] at H
   refine aG [GEq (pt g9 2), GEq (.int .u32 a2), GEq (.string ⟨List.toArray b4⟩), GEq (.string ⟨List.toArray e6⟩), GEq (.string ⟨List.toArray e7⟩), GEq (pt g9 7), GEq (.string ⟨List.toArray p⟩), GEq (.string ⟨List.toArray c0⟩), GEq (.string ⟨List.toArray d6⟩), GEq (.string ⟨List.toArray d6⟩)] [2, 7] (tG [] w0 [Qk g9 52 #[(.int .i64 c), (.int .i64 m), (.int .u32 a2), (.string ⟨List.toArray a1⟩), (.int .i64 s), (.string ⟨List.toArray u⟩), (.string ⟨List.toArray a0⟩), (.string ⟨List.toArray p⟩)], Qk q 52 #[(.int .i64 c), (.int .i64 0), (.int .u32 a2), (.string ⟨List.toArray ([] : List UInt8)⟩), (.int .i64 0), (.string ⟨List.toArray ([] : List UInt8)⟩), (.string ⟨List.toArray ([] : List UInt8)⟩), (.string ⟨List.toArray p⟩)]] [([], []), ([2], [(.string ⟨List.toArray b4⟩)]), ([2, 7], [(.string ⟨List.toArray b4⟩), (.string ⟨List.toArray c0⟩)])]) 10 2 ⟨trivial, SP.drew o8⟩ ?_ ?_
   iterate 10 refine And.intro ?_ ?_
   exact trivial
   ·exact oV (hC (hS 1 (pt g9 0)) (h0)) (pt g9 2)
   ·refine oL 0 ?_
    ·rintro ρ' w' hs j ⟨y8, p1⟩
     refine kM (kc (kA j 0 17) k0) fun f => ?_
     refine sL 50 17 g9 2 0 (.int .u32 a2) 18 p1 rfl ?_
     exact eK f
   ·refine oH 0 1 ?_
    ·rintro ρ' w' hs j ⟨y9, p2⟩
     refine kM (kc (kA j 1 18) k0) fun f => ?_
     refine cF 80 #[(.tmp 18)] #[50] 19 Tryz.call80 (Bw  a2 w'  b4 o9) ?_
     rintro e z0 ⟨rfl, l5⟩
     refine ⟨_, rfl, ?_⟩
     have p3 := SP.call p2 l5
     clear l5
     refine ⟨_, Qg f, rfl, ?_⟩
     exact (And.intro (And.intro rfl (trivial)) (p3))
   ·refine Owe.light K [1, 2] K (Qe ?_ (Qe ?_ Vl))
    ·rintro ρ' w' hs j ⟨⟨p4, -⟩, z1⟩
     refine kN [(19, (.string ⟨List.toArray b4⟩))] ⟨(Qv (h := 2) K).symm.trans p4, trivial⟩ fun f => ?_
     refine Qi (T := 9) (T' := 9) (x := (.const (.string ⟨List.toArray ([99, 111, 110, 110, 101, 99, 116, 32] : List UInt8)⟩))) (y := (.tmp 19)) (a := ([99, 111, 110, 110, 101, 99, 116, 32] : List UInt8)) (b := b4) (d := (some 20)) (k := 3) K rfl K K hl5689 ?_
     rw [hyl5688]
     exact eK f
    ·rintro ρ' w' hs j ⟨⟨p5, z2, -⟩, z3⟩
     refine kN [(19, (.string ⟨List.toArray b4⟩))] ⟨(Qv (h := 2) K).symm.trans p5, trivial⟩ fun f => ?_
     refine Qi (T := 9) (T' := 9) (x := (.const (.string ⟨List.toArray ([99, 111, 110, 110, 101, 99, 116, 32] : List UInt8)⟩))) (y := (.tmp 19)) (a := ([99, 111, 110, 110, 101, 99, 116, 32] : List UInt8)) (b := b4) (d := (some 20)) (k := 3) K rfl K K hl5689 ?_
     rw [hyl5688]
     exact eK f
   ·refine Owe.light K [1, 2] K (Qe ?_ (Qe ?_ Vl))
    ·rintro ρ' w' hs j ⟨⟨z4, -⟩, z5⟩
     refine kM (kc (kA j 3 20) k0) fun f => ?_
     refine Qi (T := 9) (T' := 9) (x := (.tmp 20)) (y := (.const (.string ⟨List.toArray ([32] : List UInt8)⟩))) (a := e6) (b := ([32] : List UInt8)) (d := (some 21)) (k := 4) K rfl K K hl5691 ?_
     rw [hyl5690]
     exact eK f
    ·rintro ρ' w' hs j ⟨⟨z6, z7, -⟩, z8⟩
     refine kM (kc (kA j 3 20) k0) fun f => ?_
     refine Qi (T := 9) (T' := 9) (x := (.tmp 20)) (y := (.const (.string ⟨List.toArray ([32] : List UInt8)⟩))) (a := e6) (b := ([32] : List UInt8)) (d := (some 21)) (k := 4) K rfl K K hl5691 ?_
     rw [hyl5690]
     exact eK f
   ·exact oV (hC (hS 1 (pt g9 0)) (h0)) (pt g9 7)
   ·refine Owe.light K [0, 1] K (Qe ?_ (Qe ?_ Vl))
    ·rintro ρ' w' hs j ⟨z9, p6⟩
     refine kM (kc (kA j 5 22) k0) fun f => ?_
     refine sL 9 22 g9 7 0 (.string ⟨List.toArray p⟩) 23 p6 rfl ?_
     exact eK f
    ·rintro ρ' w' hs j ⟨⟨aa0, -⟩, p7⟩
     refine kM (kc (kA j 5 22) k0) fun f => ?_
     refine sL 9 22 g9 7 0 (.string ⟨List.toArray p⟩) 23 p7 rfl ?_
     exact eK f
   ·refine oH 1 2 ?_
    ·rintro ρ' w' hs j ⟨⟨p8, -⟩, p9⟩
     refine kM (kc (kA j 6 23) k0) fun f => ?_
     refine cF 81 #[(.tmp 23)] #[9] 24 Tryz.call81 (Yg  p w'  c0 p0) ?_
     rintro e aa1 ⟨rfl, l6⟩
     refine ⟨_, rfl, ?_⟩
     have q0 := SP.call p9 l6
     clear l6
     refine ⟨_, Qg f, rfl, ?_⟩
     exact (And.intro (And.intro p8 (And.intro rfl (trivial))) (q0))
   ·refine oL 2 ?_
    ·rintro ρ' w' hs j ⟨⟨aa2, q1, -⟩, aa3⟩
     refine kN [(21, (.string ⟨List.toArray e7⟩)), (24, (.string ⟨List.toArray c0⟩))] ⟨j 4 21 K, (Qv (h := 7) K).symm.trans q1, trivial⟩ fun f => ?_
     refine Qi (T := 9) (T' := 9) (x := (.tmp 21)) (y := (.tmp 24)) (a := e7) (b := c0) (d := (some 25)) (k := 8) K rfl K K hl5699 ?_
     rw [hyl5698]
     exact eK f
   ·exact oV (hC (hA 8 25) (h0)) (.string ⟨List.toArray d6⟩)
   ·rintro ρ' w' hs hf ⟨⟨aa4, aa5, -⟩, l7⟩
    refine V3 [(1, (pt g9 0)), (3, (pt q 0)), (4, (.string ⟨List.toArray d6⟩))] ⟨(hs 1 K).trans K, (hs 3 K).trans K, hf 9 4 K, trivial⟩ ?_
    obtain ⟨aa6, q2⟩ : ∃ x, w' = x := ⟨_, rfl⟩
    rw [q2] at l7 ⊢
    exact ⟨c, 0, a2, ([] : List UInt8), 0, ([] : List UInt8), ([] : List UInt8), p, d6, ⟨K, K, K, trivial⟩, SP.sel l7 [0, 1] rfl rfl, H⟩
  ·have H := cf H j1
   refine aQ ?_
   refine aR ?_
   refine iR 2 2 [(27, (.bool (c == 2))), (26, (.bool (c == 2)))] ?_
   refine iF ?_
   refine At.join (fun ρ w => ∃ (e8 : Int) (e9 : Int) (f0 : (List UInt8)) (f1 : Int) (f2 : (List UInt8)) (f3 : (List UInt8)) (f4 : (List UInt8)) (c1 : (List UInt8)), Q7 ρ [(1, (pt g9 0)), (3, (pt q 0)), (4, (.string ⟨List.toArray c1⟩))] ∧ SP [] w0 w [Qk g9 52 #[(.int .i64 c), (.int .i64 m), (.int .u32 a2), (.string ⟨List.toArray a1⟩), (.int .i64 s), (.string ⟨List.toArray u⟩), (.string ⟨List.toArray a0⟩), (.string ⟨List.toArray p⟩)], Qk q 52 #[(.int .i64 e8), (.int .i64 e9), (.int .u32 0), (.string ⟨List.toArray f0⟩), (.int .i64 f1), (.string ⟨List.toArray f2⟩), (.string ⟨List.toArray f3⟩), (.string ⟨List.toArray f4⟩)]] ∧ Jo c m a2 a1 s u a0 p e8 e9 f0 f1 f2 f3 f4 c1 = some r) ?_ ?_
   ·refine Vm K (o := (.tmp 26)) K (b := (c == 2)) K (fun j2 => ?_) (fun j2 => ?_)
    ·have H := ct H j2
     refine aQ ?_
     refine aR ?_
     refine iR 1 1 [(28, (pt g9 0))] ?_
     refine iS 2 ?_
     refine sL 3 28 g9 0 0 (.int .i64 c) 29 a3 rfl ?_
     refine iR 1 3 [(30, (pt g9 1))] ?_
     refine iS 4 ?_
     refine sL 3 30 g9 1 0 (.int .i64 m) 31 a3 rfl ?_
     refine iR 1 5 [(32, (pt g9 3))] ?_
     refine iS 6 ?_
     refine sL 9 32 g9 3 0 (.string ⟨List.toArray a1⟩) 33 a3 rfl ?_
     refine iR 1 7 [(34, (pt g9 7))] ?_
     refine iS 8 ?_
     refine sL 9 34 g9 7 0 (.string ⟨List.toArray p⟩) 35 a3 rfl ?_
     refine iR 1 9 [(36, (.agg #[(.int .i64 c), (.int .i64 m), (.int .u32 0), (.string ⟨List.toArray a1⟩), (.int .i64 0), (.string ⟨List.toArray ([] : List UInt8)⟩), (.string ⟨List.toArray ([] : List UInt8)⟩), (.string ⟨List.toArray p⟩)]))] ?_
     refine iS 10 ?_
     refine Qh.store (t := 52) (x := (.tmp 3)) (y := (.tmp 36)) (g := q) (off := 0) (i := 1) (v := (.agg #[(.int .i64 c), (.int .i64 m), (.int .u32 0), (.string ⟨List.toArray a1⟩), (.int .i64 0), (.string ⟨List.toArray ([] : List UInt8)⟩), (.string ⟨List.toArray ([] : List UInt8)⟩), (.string ⟨List.toArray p⟩)])) (cs' := #[(.int .i64 c), (.int .i64 m), (.int .u32 0), (.string ⟨List.toArray a1⟩), (.int .i64 0), (.string ⟨List.toArray ([] : List UInt8)⟩), (.string ⟨List.toArray ([] : List UInt8)⟩), (.string ⟨List.toArray p⟩)]) (d := none) (k := 9) K rfl K K a3 rfl K ?_
     intro aa7 q3
     refine iF ?_
     obtain ⟨a5, q4, H⟩ := Qa H
     obtain ⟨hl8515, H⟩ := Vb H
     obtain ⟨d7, hyl8514⟩ : ∃ y, ([98, 121, 116, 101, 115, 32] : List UInt8) ++ a5 = y := ⟨_, rfl⟩
     rw [hyl8514] at H
     obtain ⟨hl8517, H⟩ := Vb H
     obtain ⟨c2, hyl8516⟩ : ∃ y, d7 ++ ([32] : List UInt8) = y := ⟨_, rfl⟩
     rw [hyl8516] at H
     obtain ⟨b5, q5, H⟩ := Qa H
     obtain ⟨hl8525, H⟩ := Vb H
     obtain ⟨f5, hyl8524⟩ : ∃ y, c2 ++ b5 = y := ⟨_, rfl⟩
     rw [hyl8524] at H
     obtain ⟨hl8527, H⟩ := Vb H
     obtain ⟨f6, hyl8526⟩ : ∃ y, f5 ++ ([32] : List UInt8) = y := ⟨_, rfl⟩
     rw [hyl8526] at H
     obtain ⟨c3, q6, H⟩ := Qa H
     obtain ⟨hl8535, H⟩ := Vb H
     obtain ⟨d8, hyl8534⟩ : ∃ y, f6 ++ c3 = y := ⟨_, rfl⟩
     rw [hyl8534] at H
     refine aG [GEq (pt g9 1), GEq (.int .i64 m), GEq (.string ⟨List.toArray a5⟩), GEq (.string ⟨List.toArray d7⟩), GEq (.string ⟨List.toArray c2⟩), GEq (pt g9 3), GEq (.string ⟨List.toArray a1⟩), GEq (.string ⟨List.toArray b5⟩), GEq (.string ⟨List.toArray f5⟩), GEq (.string ⟨List.toArray f6⟩), GEq (pt g9 7), GEq (.string ⟨List.toArray p⟩), GEq (.string ⟨List.toArray c3⟩), GEq (.string ⟨List.toArray d8⟩), GEq (.string ⟨List.toArray d8⟩)] [2, 7, 12] (tG [] w0 [Qk g9 52 #[(.int .i64 c), (.int .i64 m), (.int .u32 a2), (.string ⟨List.toArray a1⟩), (.int .i64 s), (.string ⟨List.toArray u⟩), (.string ⟨List.toArray a0⟩), (.string ⟨List.toArray p⟩)], Qk q 52 #[(.int .i64 c), (.int .i64 m), (.int .u32 0), (.string ⟨List.toArray a1⟩), (.int .i64 0), (.string ⟨List.toArray ([] : List UInt8)⟩), (.string ⟨List.toArray ([] : List UInt8)⟩), (.string ⟨List.toArray p⟩)]] [([], []), ([2], [(.string ⟨List.toArray a5⟩)]), ([2, 7], [(.string ⟨List.toArray a5⟩), (.string ⟨List.toArray b5⟩)]), ([2, 7, 12], [(.string ⟨List.toArray a5⟩), (.string ⟨List.toArray b5⟩), (.string ⟨List.toArray c3⟩)])]) 15 3 ⟨trivial, SP.drew q3⟩ ?_ ?_
     iterate 15 refine And.intro ?_ ?_
     exact trivial
     ·exact oV (hC (hS 1 (pt g9 0)) (h0)) (pt g9 1)
     ·refine oL 0 ?_
      ·rintro ρ' w' hs j ⟨aa8, q7⟩
       refine kM (kc (kA j 0 37) k0) fun f => ?_
       refine sL 3 37 g9 1 0 (.int .i64 m) 38 q7 rfl ?_
       exact eK f
     ·refine oH 0 1 ?_
      ·rintro ρ' w' hs j ⟨aa9, q8⟩
       refine kM (kc (kA j 1 38) k0) fun f => ?_
       refine cF 82 #[(.tmp 38)] #[2] 39 Tryz.call82 (Vk  m w'  a5 q4) ?_
       rintro e ab0 ⟨rfl, l8⟩
       refine ⟨_, rfl, ?_⟩
       have q9 := SP.call q8 l8
       clear l8
       refine ⟨_, Qg f, rfl, ?_⟩
       exact (And.intro (And.intro rfl (trivial)) (q9))
     ·refine Owe.light K [1, 2, 3] K (Qe ?_ (Qe ?_ (Qe ?_ Vl)))
      ·rintro ρ' w' hs j ⟨⟨r0, -⟩, ab1⟩
       refine kN [(39, (.string ⟨List.toArray a5⟩))] ⟨(Qv (h := 2) K).symm.trans r0, trivial⟩ fun f => ?_
       refine Qi (T := 9) (T' := 9) (x := (.const (.string ⟨List.toArray ([98, 121, 116, 101, 115, 32] : List UInt8)⟩))) (y := (.tmp 39)) (a := ([98, 121, 116, 101, 115, 32] : List UInt8)) (b := a5) (d := (some 40)) (k := 3) K rfl K K hl8515 ?_
       rw [hyl8514]
       exact eK f
      ·rintro ρ' w' hs j ⟨⟨r1, ab2, -⟩, ab3⟩
       refine kN [(39, (.string ⟨List.toArray a5⟩))] ⟨(Qv (h := 2) K).symm.trans r1, trivial⟩ fun f => ?_
       refine Qi (T := 9) (T' := 9) (x := (.const (.string ⟨List.toArray ([98, 121, 116, 101, 115, 32] : List UInt8)⟩))) (y := (.tmp 39)) (a := ([98, 121, 116, 101, 115, 32] : List UInt8)) (b := a5) (d := (some 40)) (k := 3) K rfl K K hl8515 ?_
       rw [hyl8514]
       exact eK f
      ·rintro ρ' w' hs j ⟨⟨r2, ab4, ab5, -⟩, ab6⟩
       refine kN [(39, (.string ⟨List.toArray a5⟩))] ⟨(Qv (h := 2) K).symm.trans r2, trivial⟩ fun f => ?_
       refine Qi (T := 9) (T' := 9) (x := (.const (.string ⟨List.toArray ([98, 121, 116, 101, 115, 32] : List UInt8)⟩))) (y := (.tmp 39)) (a := ([98, 121, 116, 101, 115, 32] : List UInt8)) (b := a5) (d := (some 40)) (k := 3) K rfl K K hl8515 ?_
       rw [hyl8514]
       exact eK f
     ·refine Owe.light K [1, 2, 3] K (Qe ?_ (Qe ?_ (Qe ?_ Vl)))
      ·rintro ρ' w' hs j ⟨⟨ab7, -⟩, ab8⟩
       refine kM (kc (kA j 3 40) k0) fun f => ?_
       refine Qi (T := 9) (T' := 9) (x := (.tmp 40)) (y := (.const (.string ⟨List.toArray ([32] : List UInt8)⟩))) (a := d7) (b := ([32] : List UInt8)) (d := (some 41)) (k := 4) K rfl K K hl8517 ?_
       rw [hyl8516]
       exact eK f
      ·rintro ρ' w' hs j ⟨⟨ab9, ac0, -⟩, ac1⟩
       refine kM (kc (kA j 3 40) k0) fun f => ?_
       refine Qi (T := 9) (T' := 9) (x := (.tmp 40)) (y := (.const (.string ⟨List.toArray ([32] : List UInt8)⟩))) (a := d7) (b := ([32] : List UInt8)) (d := (some 41)) (k := 4) K rfl K K hl8517 ?_
       rw [hyl8516]
       exact eK f
      ·rintro ρ' w' hs j ⟨⟨ac2, ac3, ac4, -⟩, ac5⟩
       refine kM (kc (kA j 3 40) k0) fun f => ?_
       refine Qi (T := 9) (T' := 9) (x := (.tmp 40)) (y := (.const (.string ⟨List.toArray ([32] : List UInt8)⟩))) (a := d7) (b := ([32] : List UInt8)) (d := (some 41)) (k := 4) K rfl K K hl8517 ?_
       rw [hyl8516]
       exact eK f
     ·exact oV (hC (hS 1 (pt g9 0)) (h0)) (pt g9 3)
     ·refine Owe.light K [0, 1] K (Qe ?_ (Qe ?_ Vl))
      ·rintro ρ' w' hs j ⟨ac6, r3⟩
       refine kM (kc (kA j 5 42) k0) fun f => ?_
       refine sL 9 42 g9 3 0 (.string ⟨List.toArray a1⟩) 43 r3 rfl ?_
       exact eK f
      ·rintro ρ' w' hs j ⟨⟨ac7, -⟩, r4⟩
       refine kM (kc (kA j 5 42) k0) fun f => ?_
       refine sL 9 42 g9 3 0 (.string ⟨List.toArray a1⟩) 43 r4 rfl ?_
       exact eK f
     ·refine oH 1 2 ?_
      ·rintro ρ' w' hs j ⟨⟨r5, -⟩, r6⟩
       refine kM (kc (kA j 6 43) k0) fun f => ?_
       refine cF 81 #[(.tmp 43)] #[9] 44 Tryz.call81 (Yg  a1 w'  b5 q5) ?_
       rintro e ac8 ⟨rfl, l9⟩
       refine ⟨_, rfl, ?_⟩
       have r7 := SP.call r6 l9
       clear l9
       refine ⟨_, Qg f, rfl, ?_⟩
       exact (And.intro (And.intro r5 (And.intro rfl (trivial))) (r7))
     ·refine Owe.light K [2, 3] K (Qe ?_ (Qe ?_ Vl))
      ·rintro ρ' w' hs j ⟨⟨ac9, r8, -⟩, ad0⟩
       refine kN [(41, (.string ⟨List.toArray c2⟩)), (44, (.string ⟨List.toArray b5⟩))] ⟨j 4 41 K, (Qv (h := 7) K).symm.trans r8, trivial⟩ fun f => ?_
       refine Qi (T := 9) (T' := 9) (x := (.tmp 41)) (y := (.tmp 44)) (a := c2) (b := b5) (d := (some 45)) (k := 8) K rfl K K hl8525 ?_
       rw [hyl8524]
       exact eK f
      ·rintro ρ' w' hs j ⟨⟨ad1, r9, ad2, -⟩, ad3⟩
       refine kN [(41, (.string ⟨List.toArray c2⟩)), (44, (.string ⟨List.toArray b5⟩))] ⟨j 4 41 K, (Qv (h := 7) K).symm.trans r9, trivial⟩ fun f => ?_
       refine Qi (T := 9) (T' := 9) (x := (.tmp 41)) (y := (.tmp 44)) (a := c2) (b := b5) (d := (some 45)) (k := 8) K rfl K K hl8525 ?_
       rw [hyl8524]
       exact eK f
     ·refine Owe.light K [2, 3] K (Qe ?_ (Qe ?_ Vl))
      ·rintro ρ' w' hs j ⟨⟨ad4, ad5, -⟩, ad6⟩
       refine kM (kc (kA j 8 45) k0) fun f => ?_
       refine Qi (T := 9) (T' := 9) (x := (.tmp 45)) (y := (.const (.string ⟨List.toArray ([32] : List UInt8)⟩))) (a := f5) (b := ([32] : List UInt8)) (d := (some 46)) (k := 9) K rfl K K hl8527 ?_
       rw [hyl8526]
       exact eK f
      ·rintro ρ' w' hs j ⟨⟨ad7, ad8, ad9, -⟩, ae0⟩
       refine kM (kc (kA j 8 45) k0) fun f => ?_
       refine Qi (T := 9) (T' := 9) (x := (.tmp 45)) (y := (.const (.string ⟨List.toArray ([32] : List UInt8)⟩))) (a := f5) (b := ([32] : List UInt8)) (d := (some 46)) (k := 9) K rfl K K hl8527 ?_
       rw [hyl8526]
       exact eK f
     ·exact oV (hC (hS 1 (pt g9 0)) (h0)) (pt g9 7)
     ·refine Owe.light K [0, 1, 2] K (Qe ?_ (Qe ?_ (Qe ?_ Vl)))
      ·rintro ρ' w' hs j ⟨ae1, s0⟩
       refine kM (kc (kA j 10 47) k0) fun f => ?_
       refine sL 9 47 g9 7 0 (.string ⟨List.toArray p⟩) 48 s0 rfl ?_
       exact eK f
      ·rintro ρ' w' hs j ⟨⟨ae2, -⟩, s1⟩
       refine kM (kc (kA j 10 47) k0) fun f => ?_
       refine sL 9 47 g9 7 0 (.string ⟨List.toArray p⟩) 48 s1 rfl ?_
       exact eK f
      ·rintro ρ' w' hs j ⟨⟨ae3, ae4, -⟩, s2⟩
       refine kM (kc (kA j 10 47) k0) fun f => ?_
       refine sL 9 47 g9 7 0 (.string ⟨List.toArray p⟩) 48 s2 rfl ?_
       exact eK f
     ·refine oH 2 3 ?_
      ·rintro ρ' w' hs j ⟨⟨s3, s4, -⟩, s5⟩
       refine kM (kc (kA j 11 48) k0) fun f => ?_
       refine cF 81 #[(.tmp 48)] #[9] 49 Tryz.call81 (Yg  p w'  c3 q6) ?_
       rintro e ae5 ⟨rfl, m0⟩
       refine ⟨_, rfl, ?_⟩
       have s6 := SP.call s5 m0
       clear m0
       refine ⟨_, Qg f, rfl, ?_⟩
       exact (And.intro (And.intro s3 (And.intro s4 (And.intro rfl (trivial)))) (s6))
     ·refine oL 3 ?_
      ·rintro ρ' w' hs j ⟨⟨ae6, ae7, s7, -⟩, ae8⟩
       refine kN [(46, (.string ⟨List.toArray f6⟩)), (49, (.string ⟨List.toArray c3⟩))] ⟨j 9 46 K, (Qv (h := 12) K).symm.trans s7, trivial⟩ fun f => ?_
       refine Qi (T := 9) (T' := 9) (x := (.tmp 46)) (y := (.tmp 49)) (a := f6) (b := c3) (d := (some 50)) (k := 13) K rfl K K hl8535 ?_
       rw [hyl8534]
       exact eK f
     ·exact oV (hC (hA 13 50) (h0)) (.string ⟨List.toArray d8⟩)
     ·rintro ρ' w' hs hf ⟨⟨ae9, af0, af1, -⟩, m1⟩
      refine V3 [(1, (pt g9 0)), (3, (pt q 0)), (4, (.string ⟨List.toArray d8⟩))] ⟨(hs 1 K).trans K, (hs 3 K).trans K, hf 14 4 K, trivial⟩ ?_
      obtain ⟨af2, s8⟩ : ∃ x, w' = x := ⟨_, rfl⟩
      rw [s8] at m1 ⊢
      exact ⟨c, m, a1, 0, ([] : List UInt8), ([] : List UInt8), p, d8, ⟨K, K, K, trivial⟩, SP.sel m1 [0, 1] rfl rfl, H⟩
    ·have H := cf H j2
     refine aQ ?_
     refine aR ?_
     refine iR 2 2 [(52, (.bool (c == 3))), (51, (.bool (c == 3)))] ?_
     refine iF ?_
     refine At.join (fun ρ w => ∃ (f7 : Int) (f8 : Int) (f9 : Int) (g0 : (List UInt8)) (g1 : (List UInt8)) (g2 : (List UInt8)) (c4 : (List UInt8)), Q7 ρ [(1, (pt g9 0)), (3, (pt q 0)), (4, (.string ⟨List.toArray c4⟩))] ∧ SP [] w0 w [Qk g9 52 #[(.int .i64 c), (.int .i64 m), (.int .u32 a2), (.string ⟨List.toArray a1⟩), (.int .i64 s), (.string ⟨List.toArray u⟩), (.string ⟨List.toArray a0⟩), (.string ⟨List.toArray p⟩)], Qk q 52 #[(.int .i64 f7), (.int .i64 f8), (.int .u32 0), (.string ⟨List.toArray ([] : List UInt8)⟩), (.int .i64 f9), (.string ⟨List.toArray g0⟩), (.string ⟨List.toArray g1⟩), (.string ⟨List.toArray g2⟩)]] ∧ Jp c m a2 a1 s u a0 p f7 f8 f9 g0 g1 g2 c4 = some r) ?_ ?_
     ·refine Vm K (o := (.tmp 51)) K (b := (c == 3)) K (fun j3 => ?_) (fun j3 => ?_)
      ·have H := ct H j3
       refine aQ ?_
       refine aR ?_
       refine iR 1 1 [(53, (pt g9 0))] ?_
       refine iS 2 ?_
       refine sL 3 53 g9 0 0 (.int .i64 c) 54 a3 rfl ?_
       refine iR 1 3 [(55, (pt g9 1))] ?_
       refine iS 4 ?_
       refine sL 3 55 g9 1 0 (.int .i64 m) 56 a3 rfl ?_
       refine iR 1 5 [(57, (pt g9 4))] ?_
       refine iS 6 ?_
       refine sL 2 57 g9 4 0 (.int .i64 s) 58 a3 rfl ?_
       refine iR 1 7 [(59, (.agg #[(.int .i64 c), (.int .i64 m), (.int .u32 0), (.string ⟨List.toArray ([] : List UInt8)⟩), (.int .i64 s), (.string ⟨List.toArray ([] : List UInt8)⟩), (.string ⟨List.toArray ([] : List UInt8)⟩), (.string ⟨List.toArray ([] : List UInt8)⟩)]))] ?_
       refine iS 8 ?_
       refine Qh.store (t := 52) (x := (.tmp 3)) (y := (.tmp 59)) (g := q) (off := 0) (i := 1) (v := (.agg #[(.int .i64 c), (.int .i64 m), (.int .u32 0), (.string ⟨List.toArray ([] : List UInt8)⟩), (.int .i64 s), (.string ⟨List.toArray ([] : List UInt8)⟩), (.string ⟨List.toArray ([] : List UInt8)⟩), (.string ⟨List.toArray ([] : List UInt8)⟩)])) (cs' := #[(.int .i64 c), (.int .i64 m), (.int .u32 0), (.string ⟨List.toArray ([] : List UInt8)⟩), (.int .i64 s), (.string ⟨List.toArray ([] : List UInt8)⟩), (.string ⟨List.toArray ([] : List UInt8)⟩), (.string ⟨List.toArray ([] : List UInt8)⟩)]) (d := none) (k := 7) K rfl K K a3 rfl K ?_
       intro af3 s9
       refine iF ?_
       obtain ⟨b6, t0, H⟩ := Qa H
       obtain ⟨hl9962, H⟩ := Vb H
       obtain ⟨g3, hyl9961⟩ : ∃ y, ([98, 117, 100, 103, 101, 116, 32] : List UInt8) ++ b6 = y := ⟨_, rfl⟩
       rw [hyl9961] at H
       obtain ⟨hl9964, H⟩ := Vb H
       obtain ⟨g4, hyl9963⟩ : ∃ y, g3 ++ ([32] : List UInt8) = y := ⟨_, rfl⟩
       rw [hyl9963] at H
       obtain ⟨c5, t1, H⟩ := Qa H
       obtain ⟨hl9972, H⟩ := Vb H
       obtain ⟨d9, hyl9971⟩ : ∃ y, g4 ++ c5 = y := ⟨_, rfl⟩
       rw [hyl9971] at H
       refine aG [GEq (pt g9 1), GEq (.int .i64 m), GEq (.string ⟨List.toArray b6⟩), GEq (.string ⟨List.toArray g3⟩), GEq (.string ⟨List.toArray g4⟩), GEq (pt g9 4), GEq (.int .i64 s), GEq (.string ⟨List.toArray c5⟩), GEq (.string ⟨List.toArray d9⟩), GEq (.string ⟨List.toArray d9⟩)] [2, 7] (tG [] w0 [Qk g9 52 #[(.int .i64 c), (.int .i64 m), (.int .u32 a2), (.string ⟨List.toArray a1⟩), (.int .i64 s), (.string ⟨List.toArray u⟩), (.string ⟨List.toArray a0⟩), (.string ⟨List.toArray p⟩)], Qk q 52 #[(.int .i64 c), (.int .i64 m), (.int .u32 0), (.string ⟨List.toArray ([] : List UInt8)⟩), (.int .i64 s), (.string ⟨List.toArray ([] : List UInt8)⟩), (.string ⟨List.toArray ([] : List UInt8)⟩), (.string ⟨List.toArray ([] : List UInt8)⟩)]] [([], []), ([2], [(.string ⟨List.toArray b6⟩)]), ([2, 7], [(.string ⟨List.toArray b6⟩), (.string ⟨List.toArray c5⟩)])]) 10 2 ⟨trivial, SP.drew s9⟩ ?_ ?_
       iterate 10 refine And.intro ?_ ?_
       exact trivial
       ·exact oV (hC (hS 1 (pt g9 0)) (h0)) (pt g9 1)
       ·refine oL 0 ?_
        ·rintro ρ' w' hs j ⟨af4, t2⟩
         refine kM (kc (kA j 0 60) k0) fun f => ?_
         refine sL 3 60 g9 1 0 (.int .i64 m) 61 t2 rfl ?_
         exact eK f
       ·refine oH 0 1 ?_
        ·rintro ρ' w' hs j ⟨af5, t3⟩
         refine kM (kc (kA j 1 61) k0) fun f => ?_
         refine cF 82 #[(.tmp 61)] #[2] 62 Tryz.call82 (Vk  m w'  b6 t0) ?_
         rintro e af6 ⟨rfl, m2⟩
         refine ⟨_, rfl, ?_⟩
         have t4 := SP.call t3 m2
         clear m2
         refine ⟨_, Qg f, rfl, ?_⟩
         exact (And.intro (And.intro rfl (trivial)) (t4))
       ·refine Owe.light K [1, 2] K (Qe ?_ (Qe ?_ Vl))
        ·rintro ρ' w' hs j ⟨⟨t5, -⟩, af7⟩
         refine kN [(62, (.string ⟨List.toArray b6⟩))] ⟨(Qv (h := 2) K).symm.trans t5, trivial⟩ fun f => ?_
         refine Qi (T := 9) (T' := 9) (x := (.const (.string ⟨List.toArray ([98, 117, 100, 103, 101, 116, 32] : List UInt8)⟩))) (y := (.tmp 62)) (a := ([98, 117, 100, 103, 101, 116, 32] : List UInt8)) (b := b6) (d := (some 63)) (k := 3) K rfl K K hl9962 ?_
         rw [hyl9961]
         exact eK f
        ·rintro ρ' w' hs j ⟨⟨t6, af8, -⟩, af9⟩
         refine kN [(62, (.string ⟨List.toArray b6⟩))] ⟨(Qv (h := 2) K).symm.trans t6, trivial⟩ fun f => ?_
         refine Qi (T := 9) (T' := 9) (x := (.const (.string ⟨List.toArray ([98, 117, 100, 103, 101, 116, 32] : List UInt8)⟩))) (y := (.tmp 62)) (a := ([98, 117, 100, 103, 101, 116, 32] : List UInt8)) (b := b6) (d := (some 63)) (k := 3) K rfl K K hl9962 ?_
         rw [hyl9961]
         exact eK f
       ·refine Owe.light K [1, 2] K (Qe ?_ (Qe ?_ Vl))
        ·rintro ρ' w' hs j ⟨⟨ag0, -⟩, ag1⟩
         refine kM (kc (kA j 3 63) k0) fun f => ?_
         refine Qi (T := 9) (T' := 9) (x := (.tmp 63)) (y := (.const (.string ⟨List.toArray ([32] : List UInt8)⟩))) (a := g3) (b := ([32] : List UInt8)) (d := (some 64)) (k := 4) K rfl K K hl9964 ?_
         rw [hyl9963]
         exact eK f
        ·rintro ρ' w' hs j ⟨⟨ag2, ag3, -⟩, ag4⟩
         refine kM (kc (kA j 3 63) k0) fun f => ?_
         refine Qi (T := 9) (T' := 9) (x := (.tmp 63)) (y := (.const (.string ⟨List.toArray ([32] : List UInt8)⟩))) (a := g3) (b := ([32] : List UInt8)) (d := (some 64)) (k := 4) K rfl K K hl9964 ?_
         rw [hyl9963]
         exact eK f
       ·exact oV (hC (hS 1 (pt g9 0)) (h0)) (pt g9 4)
       ·refine Owe.light K [0, 1] K (Qe ?_ (Qe ?_ Vl))
        ·rintro ρ' w' hs j ⟨ag5, t7⟩
         refine kM (kc (kA j 5 65) k0) fun f => ?_
         refine sL 2 65 g9 4 0 (.int .i64 s) 66 t7 rfl ?_
         exact eK f
        ·rintro ρ' w' hs j ⟨⟨ag6, -⟩, t8⟩
         refine kM (kc (kA j 5 65) k0) fun f => ?_
         refine sL 2 65 g9 4 0 (.int .i64 s) 66 t8 rfl ?_
         exact eK f
       ·refine oH 1 2 ?_
        ·rintro ρ' w' hs j ⟨⟨t9, -⟩, u0⟩
         refine kM (kc (kA j 6 66) k0) fun f => ?_
         refine cF 82 #[(.tmp 66)] #[2] 67 Tryz.call82 (Vk  s w'  c5 t1) ?_
         rintro e ag7 ⟨rfl, m3⟩
         refine ⟨_, rfl, ?_⟩
         have u1 := SP.call u0 m3
         clear m3
         refine ⟨_, Qg f, rfl, ?_⟩
         exact (And.intro (And.intro t9 (And.intro rfl (trivial))) (u1))
       ·refine oL 2 ?_
        ·rintro ρ' w' hs j ⟨⟨ag8, u2, -⟩, ag9⟩
         refine kN [(64, (.string ⟨List.toArray g4⟩)), (67, (.string ⟨List.toArray c5⟩))] ⟨j 4 64 K, (Qv (h := 7) K).symm.trans u2, trivial⟩ fun f => ?_
         refine Qi (T := 9) (T' := 9) (x := (.tmp 64)) (y := (.tmp 67)) (a := g4) (b := c5) (d := (some 68)) (k := 8) K rfl K K hl9972 ?_
         rw [hyl9971]
         exact eK f
       ·exact oV (hC (hA 8 68) (h0)) (.string ⟨List.toArray d9⟩)
       ·rintro ρ' w' hs hf ⟨⟨ah0, ah1, -⟩, m4⟩
        refine V3 [(1, (pt g9 0)), (3, (pt q 0)), (4, (.string ⟨List.toArray d9⟩))] ⟨(hs 1 K).trans K, (hs 3 K).trans K, hf 9 4 K, trivial⟩ ?_
        obtain ⟨ah2, u3⟩ : ∃ x, w' = x := ⟨_, rfl⟩
        rw [u3] at m4 ⊢
        exact ⟨c, m, s, ([] : List UInt8), ([] : List UInt8), ([] : List UInt8), d9, ⟨K, K, K, trivial⟩, SP.sel m4 [0, 1] rfl rfl, H⟩
      ·have H := cf H j3
       refine aQ ?_
       refine aR ?_
       refine iR 2 2 [(70, (.bool (c == 4))), (69, (.bool (c == 4)))] ?_
       refine iF ?_
       refine At.join (fun ρ w => ∃ (g5 : Int) (g6 : Int) (g7 : Int) (g8 : (List UInt8)) (h1 : (List UInt8)) (h2 : (List UInt8)) (c6 : (List UInt8)), Q7 ρ [(1, (pt g9 0)), (3, (pt q 0)), (4, (.string ⟨List.toArray c6⟩))] ∧ SP [] w0 w [Qk g9 52 #[(.int .i64 c), (.int .i64 m), (.int .u32 a2), (.string ⟨List.toArray a1⟩), (.int .i64 s), (.string ⟨List.toArray u⟩), (.string ⟨List.toArray a0⟩), (.string ⟨List.toArray p⟩)], Qk q 52 #[(.int .i64 g5), (.int .i64 g6), (.int .u32 0), (.string ⟨List.toArray ([] : List UInt8)⟩), (.int .i64 g7), (.string ⟨List.toArray g8⟩), (.string ⟨List.toArray h1⟩), (.string ⟨List.toArray h2⟩)]] ∧ Jq c m a2 a1 s u a0 p g5 g6 g7 g8 h1 h2 c6 = some r) ?_ ?_
       ·refine Vm K (o := (.tmp 69)) K (b := (c == 4)) K (fun j4 => ?_) (fun j4 => ?_)
        ·have H := ct H j4
         refine aQ ?_
         refine aR ?_
         refine iR 1 1 [(71, (pt g9 0))] ?_
         refine iS 2 ?_
         refine sL 3 71 g9 0 0 (.int .i64 c) 72 a3 rfl ?_
         refine iR 1 3 [(73, (pt g9 1))] ?_
         refine iS 4 ?_
         refine sL 3 73 g9 1 0 (.int .i64 m) 74 a3 rfl ?_
         refine iR 1 5 [(75, (pt g9 7))] ?_
         refine iS 6 ?_
         refine sL 9 75 g9 7 0 (.string ⟨List.toArray p⟩) 76 a3 rfl ?_
         refine iR 1 7 [(77, (.agg #[(.int .i64 c), (.int .i64 m), (.int .u32 0), (.string ⟨List.toArray ([] : List UInt8)⟩), (.int .i64 0), (.string ⟨List.toArray ([] : List UInt8)⟩), (.string ⟨List.toArray ([] : List UInt8)⟩), (.string ⟨List.toArray p⟩)]))] ?_
         refine iS 8 ?_
         refine Qh.store (t := 52) (x := (.tmp 3)) (y := (.tmp 77)) (g := q) (off := 0) (i := 1) (v := (.agg #[(.int .i64 c), (.int .i64 m), (.int .u32 0), (.string ⟨List.toArray ([] : List UInt8)⟩), (.int .i64 0), (.string ⟨List.toArray ([] : List UInt8)⟩), (.string ⟨List.toArray ([] : List UInt8)⟩), (.string ⟨List.toArray p⟩)])) (cs' := #[(.int .i64 c), (.int .i64 m), (.int .u32 0), (.string ⟨List.toArray ([] : List UInt8)⟩), (.int .i64 0), (.string ⟨List.toArray ([] : List UInt8)⟩), (.string ⟨List.toArray ([] : List UInt8)⟩), (.string ⟨List.toArray p⟩)]) (d := none) (k := 7) K rfl K K a3 rfl K ?_
         intro ah3 u4
         refine iF ?_
         obtain ⟨b7, u5, H⟩ := Qa H
         obtain ⟨hl10651, H⟩ := Vb H
         obtain ⟨h3, hyl10650⟩ : ∃ y, ([104, 97, 108, 102, 32] : List UInt8) ++ b7 = y := ⟨_, rfl⟩
         rw [hyl10650] at H
         obtain ⟨hl10653, H⟩ := Vb H
         obtain ⟨h4, hyl10652⟩ : ∃ y, h3 ++ ([32] : List UInt8) = y := ⟨_, rfl⟩
         rw [hyl10652] at H
         obtain ⟨c7, u6, H⟩ := Qa H
         obtain ⟨hl10661, H⟩ := Vb H
         obtain ⟨e0, hyl10660⟩ : ∃ y, h4 ++ c7 = y := ⟨_, rfl⟩
         rw [hyl10660] at H
         refine aG [GEq (pt g9 1), GEq (.int .i64 m), GEq (.string ⟨List.toArray b7⟩), GEq (.string ⟨List.toArray h3⟩), GEq (.string ⟨List.toArray h4⟩), GEq (pt g9 7), GEq (.string ⟨List.toArray p⟩), GEq (.string ⟨List.toArray c7⟩), GEq (.string ⟨List.toArray e0⟩), GEq (.string ⟨List.toArray e0⟩)] [2, 7] (tG [] w0 [Qk g9 52 #[(.int .i64 c), (.int .i64 m), (.int .u32 a2), (.string ⟨List.toArray a1⟩), (.int .i64 s), (.string ⟨List.toArray u⟩), (.string ⟨List.toArray a0⟩), (.string ⟨List.toArray p⟩)], Qk q 52 #[(.int .i64 c), (.int .i64 m), (.int .u32 0), (.string ⟨List.toArray ([] : List UInt8)⟩), (.int .i64 0), (.string ⟨List.toArray ([] : List UInt8)⟩), (.string ⟨List.toArray ([] : List UInt8)⟩), (.string ⟨List.toArray p⟩)]] [([], []), ([2], [(.string ⟨List.toArray b7⟩)]), ([2, 7], [(.string ⟨List.toArray b7⟩), (.string ⟨List.toArray c7⟩)])]) 10 2 ⟨trivial, SP.drew u4⟩ ?_ ?_
         iterate 10 refine And.intro ?_ ?_
         exact trivial
         ·exact oV (hC (hS 1 (pt g9 0)) (h0)) (pt g9 1)
         ·refine oL 0 ?_
          ·rintro ρ' w' hs j ⟨ah4, u7⟩
           refine kM (kc (kA j 0 78) k0) fun f => ?_
           refine sL 3 78 g9 1 0 (.int .i64 m) 79 u7 rfl ?_
           exact eK f
         ·refine oH 0 1 ?_
          ·rintro ρ' w' hs j ⟨ah5, u8⟩
           refine kM (kc (kA j 1 79) k0) fun f => ?_
           refine cF 82 #[(.tmp 79)] #[2] 80 Tryz.call82 (Vk  m w'  b7 u5) ?_
           rintro e ah6 ⟨rfl, m5⟩
           refine ⟨_, rfl, ?_⟩
           have u9 := SP.call u8 m5
           clear m5
           refine ⟨_, Qg f, rfl, ?_⟩
           exact (And.intro (And.intro rfl (trivial)) (u9))
         ·refine Owe.light K [1, 2] K (Qe ?_ (Qe ?_ Vl))
          ·rintro ρ' w' hs j ⟨⟨v0, -⟩, ah7⟩
           refine kN [(80, (.string ⟨List.toArray b7⟩))] ⟨(Qv (h := 2) K).symm.trans v0, trivial⟩ fun f => ?_
           refine Qi (T := 9) (T' := 9) (x := (.const (.string ⟨List.toArray ([104, 97, 108, 102, 32] : List UInt8)⟩))) (y := (.tmp 80)) (a := ([104, 97, 108, 102, 32] : List UInt8)) (b := b7) (d := (some 81)) (k := 3) K rfl K K hl10651 ?_
           rw [hyl10650]
           exact eK f
          ·rintro ρ' w' hs j ⟨⟨v1, ah8, -⟩, ah9⟩
           refine kN [(80, (.string ⟨List.toArray b7⟩))] ⟨(Qv (h := 2) K).symm.trans v1, trivial⟩ fun f => ?_
           refine Qi (T := 9) (T' := 9) (x := (.const (.string ⟨List.toArray ([104, 97, 108, 102, 32] : List UInt8)⟩))) (y := (.tmp 80)) (a := ([104, 97, 108, 102, 32] : List UInt8)) (b := b7) (d := (some 81)) (k := 3) K rfl K K hl10651 ?_
           rw [hyl10650]
           exact eK f
         ·refine Owe.light K [1, 2] K (Qe ?_ (Qe ?_ Vl))
          ·rintro ρ' w' hs j ⟨⟨ai0, -⟩, ai1⟩
           refine kM (kc (kA j 3 81) k0) fun f => ?_
           refine Qi (T := 9) (T' := 9) (x := (.tmp 81)) (y := (.const (.string ⟨List.toArray ([32] : List UInt8)⟩))) (a := h3) (b := ([32] : List UInt8)) (d := (some 82)) (k := 4) K rfl K K hl10653 ?_
           rw [hyl10652]
           exact eK f
          ·rintro ρ' w' hs j ⟨⟨ai2, ai3, -⟩, ai4⟩
           refine kM (kc (kA j 3 81) k0) fun f => ?_
           refine Qi (T := 9) (T' := 9) (x := (.tmp 81)) (y := (.const (.string ⟨List.toArray ([32] : List UInt8)⟩))) (a := h3) (b := ([32] : List UInt8)) (d := (some 82)) (k := 4) K rfl K K hl10653 ?_
           rw [hyl10652]
           exact eK f
         ·exact oV (hC (hS 1 (pt g9 0)) (h0)) (pt g9 7)
         ·refine Owe.light K [0, 1] K (Qe ?_ (Qe ?_ Vl))
          ·rintro ρ' w' hs j ⟨ai5, v2⟩
           refine kM (kc (kA j 5 83) k0) fun f => ?_
           refine sL 9 83 g9 7 0 (.string ⟨List.toArray p⟩) 84 v2 rfl ?_
           exact eK f
          ·rintro ρ' w' hs j ⟨⟨ai6, -⟩, v3⟩
           refine kM (kc (kA j 5 83) k0) fun f => ?_
           refine sL 9 83 g9 7 0 (.string ⟨List.toArray p⟩) 84 v3 rfl ?_
           exact eK f
         ·refine oH 1 2 ?_
          ·rintro ρ' w' hs j ⟨⟨v4, -⟩, v5⟩
           refine kM (kc (kA j 6 84) k0) fun f => ?_
           refine cF 81 #[(.tmp 84)] #[9] 85 Tryz.call81 (Yg  p w'  c7 u6) ?_
           rintro e ai7 ⟨rfl, m6⟩
           refine ⟨_, rfl, ?_⟩
           have v6 := SP.call v5 m6
           clear m6
           refine ⟨_, Qg f, rfl, ?_⟩
           exact (And.intro (And.intro v4 (And.intro rfl (trivial))) (v6))
         ·refine oL 2 ?_
          ·rintro ρ' w' hs j ⟨⟨ai8, v7, -⟩, ai9⟩
           refine kN [(82, (.string ⟨List.toArray h4⟩)), (85, (.string ⟨List.toArray c7⟩))] ⟨j 4 82 K, (Qv (h := 7) K).symm.trans v7, trivial⟩ fun f => ?_
           refine Qi (T := 9) (T' := 9) (x := (.tmp 82)) (y := (.tmp 85)) (a := h4) (b := c7) (d := (some 86)) (k := 8) K rfl K K hl10661 ?_
           rw [hyl10660]
           exact eK f
         ·exact oV (hC (hA 8 86) (h0)) (.string ⟨List.toArray e0⟩)
         ·rintro ρ' w' hs hf ⟨⟨aj0, aj1, -⟩, m7⟩
          refine V3 [(1, (pt g9 0)), (3, (pt q 0)), (4, (.string ⟨List.toArray e0⟩))] ⟨(hs 1 K).trans K, (hs 3 K).trans K, hf 9 4 K, trivial⟩ ?_
          obtain ⟨aj2, v8⟩ : ∃ x, w' = x := ⟨_, rfl⟩
          rw [v8] at m7 ⊢
          exact ⟨c, m, 0, ([] : List UInt8), ([] : List UInt8), p, e0, ⟨K, K, K, trivial⟩, SP.sel m7 [0, 1] rfl rfl, H⟩
        ·have H := cf H j4
         refine aQ ?_
         refine aR ?_
         refine iR 2 2 [(88, (.bool (c == 5))), (87, (.bool (c == 5)))] ?_
         refine iF ?_
         refine At.join (fun ρ w => ∃ (h5 : Int) (h6 : Int) (h7 : Int) (h8 : (List UInt8)) (h9 : (List UInt8)) (c8 : (List UInt8)), Q7 ρ [(1, (pt g9 0)), (3, (pt q 0)), (4, (.string ⟨List.toArray c8⟩))] ∧ SP [] w0 w [Qk g9 52 #[(.int .i64 c), (.int .i64 m), (.int .u32 a2), (.string ⟨List.toArray a1⟩), (.int .i64 s), (.string ⟨List.toArray u⟩), (.string ⟨List.toArray a0⟩), (.string ⟨List.toArray p⟩)], Qk q 52 #[(.int .i64 h5), (.int .i64 h6), (.int .u32 0), (.string ⟨List.toArray ([] : List UInt8)⟩), (.int .i64 h7), (.string ⟨List.toArray h8⟩), (.string ⟨List.toArray h9⟩), (.string ⟨List.toArray ([] : List UInt8)⟩)]] ∧ Jr c m a2 a1 s u a0 p h5 h6 h7 h8 h9 c8 = some r) ?_ ?_
         ·refine Vm K (o := (.tmp 87)) K (b := (c == 5)) K (fun j5 => ?_) (fun j5 => ?_)
          ·have H := ct H j5
           refine aQ ?_
           refine aR ?_
           refine iR 1 1 [(89, (pt g9 0))] ?_
           refine iS 2 ?_
           refine sL 3 89 g9 0 0 (.int .i64 c) 90 a3 rfl ?_
           refine iR 1 3 [(91, (pt g9 1))] ?_
           refine iS 4 ?_
           refine sL 3 91 g9 1 0 (.int .i64 m) 92 a3 rfl ?_
           refine iR 1 5 [(93, (.agg #[(.int .i64 c), (.int .i64 m), (.int .u32 0), (.string ⟨List.toArray ([] : List UInt8)⟩), (.int .i64 0), (.string ⟨List.toArray ([] : List UInt8)⟩), (.string ⟨List.toArray ([] : List UInt8)⟩), (.string ⟨List.toArray ([] : List UInt8)⟩)]))] ?_
           refine iS 6 ?_
           refine Qh.store (t := 52) (x := (.tmp 3)) (y := (.tmp 93)) (g := q) (off := 0) (i := 1) (v := (.agg #[(.int .i64 c), (.int .i64 m), (.int .u32 0), (.string ⟨List.toArray ([] : List UInt8)⟩), (.int .i64 0), (.string ⟨List.toArray ([] : List UInt8)⟩), (.string ⟨List.toArray ([] : List UInt8)⟩), (.string ⟨List.toArray ([] : List UInt8)⟩)])) (cs' := #[(.int .i64 c), (.int .i64 m), (.int .u32 0), (.string ⟨List.toArray ([] : List UInt8)⟩), (.int .i64 0), (.string ⟨List.toArray ([] : List UInt8)⟩), (.string ⟨List.toArray ([] : List UInt8)⟩), (.string ⟨List.toArray ([] : List UInt8)⟩)]) (d := none) (k := 5) K rfl K K a3 rfl K ?_
           intro v9 m8
           refine iF ?_
           refine aR ?_
           refine iR 1 1 [(94, (pt g9 1))] ?_
           refine iS 2 ?_
           refine sL 3 94 g9 1 0 (.int .i64 m) 95 m8 rfl ?_
           obtain ⟨j6, w1, H⟩ := Qa H
           refine iS 3 ?_
           refine cF 82 #[(.tmp 95)] #[2] 96 Tryz.call82 (Vk  m v9  j6 w1) ?_
           rintro e aj3 ⟨rfl, m9⟩
           refine ⟨_, rfl, ?_⟩
           have w2 := SP.call m8 m9
           clear m9
           obtain ⟨hl10995, H⟩ := Vb H
           obtain ⟨n0, hyl10994⟩ : ∃ y, ([114, 101, 115, 101, 116, 32] : List UInt8) ++ j6 = y := ⟨_, rfl⟩
           rw [hyl10994] at H
           refine iS 4 ?_
           refine Qi (T := 9) (T' := 9) (x := (.const (.string ⟨List.toArray ([114, 101, 115, 101, 116, 32] : List UInt8)⟩))) (y := (.tmp 96)) (a := ([114, 101, 115, 101, 116, 32] : List UInt8)) (b := j6) (d := (some 97)) (k := 3) K rfl K K hl10995 ?_
           rw [hyl10994]
           refine iR 1 5 [(4, (.string ⟨List.toArray n0⟩))] ?_
           refine iF ?_
           exact ⟨c, m, 0, ([] : List UInt8), ([] : List UInt8), n0, ⟨K, K, K, trivial⟩, SP.sel w2 [0, 1] rfl rfl, H⟩
          ·have H := cf H j5
           refine aQ ?_
           refine aR ?_
           refine iR 2 2 [(99, (.bool (c == 6))), (98, (.bool (c == 6)))] ?_
           refine iF ?_
           refine At.join (fun ρ w => ∃ (i0 : Int) (i1 : Int) (i2 : (List UInt8)) (i3 : (List UInt8)) (c9 : (List UInt8)), Q7 ρ [(1, (pt g9 0)), (3, (pt q 0)), (4, (.string ⟨List.toArray c9⟩))] ∧ SP [] w0 w [Qk g9 52 #[(.int .i64 c), (.int .i64 m), (.int .u32 a2), (.string ⟨List.toArray a1⟩), (.int .i64 s), (.string ⟨List.toArray u⟩), (.string ⟨List.toArray a0⟩), (.string ⟨List.toArray p⟩)], Qk q 52 #[(.int .i64 i0), (.int .i64 0), (.int .u32 0), (.string ⟨List.toArray ([] : List UInt8)⟩), (.int .i64 i1), (.string ⟨List.toArray i2⟩), (.string ⟨List.toArray i3⟩), (.string ⟨List.toArray ([] : List UInt8)⟩)]] ∧ Js c m a2 a1 s u a0 p i0 i1 i2 i3 c9 = some r) ?_ ?_
           ·refine Vm K (o := (.tmp 98)) K (b := (c == 6)) K (fun j7 => ?_) (fun j7 => ?_)
            ·have H := ct H j7
             refine aQ ?_
             refine aR ?_
             refine iR 1 1 [(100, (pt g9 0))] ?_
             refine iS 2 ?_
             refine sL 3 100 g9 0 0 (.int .i64 c) 101 a3 rfl ?_
             refine iR 1 3 [(102, (pt g9 4))] ?_
             refine iS 4 ?_
             refine sL 2 102 g9 4 0 (.int .i64 s) 103 a3 rfl ?_
             refine iR 1 5 [(104, (.agg #[(.int .i64 c), (.int .i64 0), (.int .u32 0), (.string ⟨List.toArray ([] : List UInt8)⟩), (.int .i64 s), (.string ⟨List.toArray ([] : List UInt8)⟩), (.string ⟨List.toArray ([] : List UInt8)⟩), (.string ⟨List.toArray ([] : List UInt8)⟩)]))] ?_
             refine iS 6 ?_
             refine Qh.store (t := 52) (x := (.tmp 3)) (y := (.tmp 104)) (g := q) (off := 0) (i := 1) (v := (.agg #[(.int .i64 c), (.int .i64 0), (.int .u32 0), (.string ⟨List.toArray ([] : List UInt8)⟩), (.int .i64 s), (.string ⟨List.toArray ([] : List UInt8)⟩), (.string ⟨List.toArray ([] : List UInt8)⟩), (.string ⟨List.toArray ([] : List UInt8)⟩)])) (cs' := #[(.int .i64 c), (.int .i64 0), (.int .u32 0), (.string ⟨List.toArray ([] : List UInt8)⟩), (.int .i64 s), (.string ⟨List.toArray ([] : List UInt8)⟩), (.string ⟨List.toArray ([] : List UInt8)⟩), (.string ⟨List.toArray ([] : List UInt8)⟩)]) (d := none) (k := 5) K rfl K K a3 rfl K ?_
             intro w3 n1
             refine iF ?_
             refine aR ?_
             refine iR 1 1 [(105, (pt g9 4))] ?_
             refine iS 2 ?_
             refine sL 2 105 g9 4 0 (.int .i64 s) 106 n1 rfl ?_
             obtain ⟨j8, w4, H⟩ := Qa H
             refine iS 3 ?_
             refine cF 82 #[(.tmp 106)] #[2] 107 Tryz.call82 (Vk  s w3  j8 w4) ?_
             rintro e aj4 ⟨rfl, n2⟩
             refine ⟨_, rfl, ?_⟩
             have w5 := SP.call n1 n2
             clear n2
             obtain ⟨hl11134, H⟩ := Vb H
             obtain ⟨n3, hyl11133⟩ : ∃ y, ([116, 105, 99, 107, 32] : List UInt8) ++ j8 = y := ⟨_, rfl⟩
             rw [hyl11133] at H
             refine iS 4 ?_
             refine Qi (T := 9) (T' := 9) (x := (.const (.string ⟨List.toArray ([116, 105, 99, 107, 32] : List UInt8)⟩))) (y := (.tmp 107)) (a := ([116, 105, 99, 107, 32] : List UInt8)) (b := j8) (d := (some 108)) (k := 3) K rfl K K hl11134 ?_
             rw [hyl11133]
             refine iR 1 5 [(4, (.string ⟨List.toArray n3⟩))] ?_
             refine iF ?_
             exact ⟨c, s, ([] : List UInt8), ([] : List UInt8), n3, ⟨K, K, K, trivial⟩, SP.sel w5 [0, 1] rfl rfl, H⟩
            ·have H := cf H j7
             refine aQ ?_
             refine aR ?_
             refine iR 2 2 [(110, (.bool (c == 7))), (109, (.bool (c == 7)))] ?_
             refine iF ?_
             refine At.join (fun ρ w => ∃ (i4 : Int) (i5 : (List UInt8)) (i6 : (List UInt8)) (d0 : (List UInt8)), Q7 ρ [(1, (pt g9 0)), (3, (pt q 0)), (4, (.string ⟨List.toArray d0⟩))] ∧ SP [] w0 w [Qk g9 52 #[(.int .i64 c), (.int .i64 m), (.int .u32 a2), (.string ⟨List.toArray a1⟩), (.int .i64 s), (.string ⟨List.toArray u⟩), (.string ⟨List.toArray a0⟩), (.string ⟨List.toArray p⟩)], Qk q 52 #[(.int .i64 i4), (.int .i64 0), (.int .u32 0), (.string ⟨List.toArray ([] : List UInt8)⟩), (.int .i64 0), (.string ⟨List.toArray i5⟩), (.string ⟨List.toArray i6⟩), (.string ⟨List.toArray ([] : List UInt8)⟩)]] ∧ Jt c m a2 a1 s u a0 p i4 i5 i6 d0 = some r) ?_ ?_
             ·refine Vm K (o := (.tmp 109)) K (b := (c == 7)) K (fun j9 => ?_) (fun j9 => ?_)
              ·have H := ct H j9
               refine aQ ?_
               refine aR ?_
               refine iR 1 1 [(111, (pt g9 0))] ?_
               refine iS 2 ?_
               refine sL 3 111 g9 0 0 (.int .i64 c) 112 a3 rfl ?_
               refine iR 1 3 [(113, (pt g9 5))] ?_
               refine iS 4 ?_
               refine sL 9 113 g9 5 0 (.string ⟨List.toArray u⟩) 114 a3 rfl ?_
               refine iR 1 5 [(115, (pt g9 6))] ?_
               refine iS 6 ?_
               refine sL 9 115 g9 6 0 (.string ⟨List.toArray a0⟩) 116 a3 rfl ?_
               refine iR 1 7 [(117, (.agg #[(.int .i64 c), (.int .i64 0), (.int .u32 0), (.string ⟨List.toArray ([] : List UInt8)⟩), (.int .i64 0), (.string ⟨List.toArray u⟩), (.string ⟨List.toArray a0⟩), (.string ⟨List.toArray ([] : List UInt8)⟩)]))] ?_
               refine iS 8 ?_
               refine Qh.store (t := 52) (x := (.tmp 3)) (y := (.tmp 117)) (g := q) (off := 0) (i := 1) (v := (.agg #[(.int .i64 c), (.int .i64 0), (.int .u32 0), (.string ⟨List.toArray ([] : List UInt8)⟩), (.int .i64 0), (.string ⟨List.toArray u⟩), (.string ⟨List.toArray a0⟩), (.string ⟨List.toArray ([] : List UInt8)⟩)])) (cs' := #[(.int .i64 c), (.int .i64 0), (.int .u32 0), (.string ⟨List.toArray ([] : List UInt8)⟩), (.int .i64 0), (.string ⟨List.toArray u⟩), (.string ⟨List.toArray a0⟩), (.string ⟨List.toArray ([] : List UInt8)⟩)]) (d := none) (k := 7) K rfl K K a3 rfl K ?_
               intro aj5 k1
               refine iF ?_
               refine aR ?_
               refine iR 1 1 [(118, (pt g9 5))] ?_
               refine iS 2 ?_
               refine sL 9 118 g9 5 0 (.string ⟨List.toArray u⟩) 119 k1 rfl ?_
               obtain ⟨hl11197, H⟩ := Vb H
               obtain ⟨n4, hyl11196⟩ : ∃ y, ([114, 101, 118, 111, 107, 101, 32] : List UInt8) ++ u = y := ⟨_, rfl⟩
               rw [hyl11196] at H
               refine iS 3 ?_
               refine Qi (T := 9) (T' := 9) (x := (.const (.string ⟨List.toArray ([114, 101, 118, 111, 107, 101, 32] : List UInt8)⟩))) (y := (.tmp 119)) (a := ([114, 101, 118, 111, 107, 101, 32] : List UInt8)) (b := u) (d := (some 120)) (k := 2) K rfl K K hl11197 ?_
               rw [hyl11196]
               obtain ⟨hl11199, H⟩ := Vb H
               obtain ⟨n5, hyl11198⟩ : ∃ y, n4 ++ ([32] : List UInt8) = y := ⟨_, rfl⟩
               rw [hyl11198] at H
               refine iS 4 ?_
               refine Qi (T := 9) (T' := 9) (x := (.tmp 120)) (y := (.const (.string ⟨List.toArray ([32] : List UInt8)⟩))) (a := n4) (b := ([32] : List UInt8)) (d := (some 121)) (k := 3) K rfl K K hl11199 ?_
               rw [hyl11198]
               refine iR 1 5 [(122, (pt g9 6))] ?_
               refine iS 6 ?_
               refine sL 9 122 g9 6 0 (.string ⟨List.toArray a0⟩) 123 k1 rfl ?_
               obtain ⟨hl11201, H⟩ := Vb H
               obtain ⟨n6, hyl11200⟩ : ∃ y, n5 ++ a0 = y := ⟨_, rfl⟩
               rw [hyl11200] at H
               refine iS 7 ?_
               refine Qi (T := 9) (T' := 9) (x := (.tmp 121)) (y := (.tmp 123)) (a := n5) (b := a0) (d := (some 124)) (k := 6) K rfl K K hl11201 ?_
               rw [hyl11200]
               refine iR 1 8 [(4, (.string ⟨List.toArray n6⟩))] ?_
               refine iF ?_
               exact ⟨c, u, a0, n6, ⟨K, K, K, trivial⟩, SP.sel k1 [0, 1] rfl rfl, H⟩
              ·have H := cf H j9
               refine aQ ?_
               refine aR ?_
               refine iR 2 2 [(126, (.bool (c == 8))), (125, (.bool (c == 8)))] ?_
               refine iF ?_
               refine At.join (fun ρ w => ∃ (i7 : Int) (i8 : (List UInt8)) (d1 : (List UInt8)), Q7 ρ [(1, (pt g9 0)), (3, (pt q 0)), (4, (.string ⟨List.toArray d1⟩))] ∧ SP [] w0 w [Qk g9 52 #[(.int .i64 c), (.int .i64 m), (.int .u32 a2), (.string ⟨List.toArray a1⟩), (.int .i64 s), (.string ⟨List.toArray u⟩), (.string ⟨List.toArray a0⟩), (.string ⟨List.toArray p⟩)], Qk q 52 #[(.int .i64 i7), (.int .i64 0), (.int .u32 0), (.string ⟨List.toArray ([] : List UInt8)⟩), (.int .i64 0), (.string ⟨List.toArray i8⟩), (.string ⟨List.toArray ([] : List UInt8)⟩), (.string ⟨List.toArray ([] : List UInt8)⟩)]] ∧ Ju c m a2 a1 s u a0 p i7 i8 d1 = some r) ?_ ?_
               ·refine Vm K (o := (.tmp 125)) K (b := (c == 8)) K (fun k2 => ?_) (fun k2 => ?_)
                ·have H := ct H k2
                 refine aQ ?_
                 refine aR ?_
                 refine iR 1 1 [(127, (pt g9 0))] ?_
                 refine iS 2 ?_
                 refine sL 3 127 g9 0 0 (.int .i64 c) 128 a3 rfl ?_
                 refine iR 1 3 [(129, (pt g9 5))] ?_
                 refine iS 4 ?_
                 refine sL 9 129 g9 5 0 (.string ⟨List.toArray u⟩) 130 a3 rfl ?_
                 refine iR 1 5 [(131, (.agg #[(.int .i64 c), (.int .i64 0), (.int .u32 0), (.string ⟨List.toArray ([] : List UInt8)⟩), (.int .i64 0), (.string ⟨List.toArray u⟩), (.string ⟨List.toArray ([] : List UInt8)⟩), (.string ⟨List.toArray ([] : List UInt8)⟩)]))] ?_
                 refine iS 6 ?_
                 refine Qh.store (t := 52) (x := (.tmp 3)) (y := (.tmp 131)) (g := q) (off := 0) (i := 1) (v := (.agg #[(.int .i64 c), (.int .i64 0), (.int .u32 0), (.string ⟨List.toArray ([] : List UInt8)⟩), (.int .i64 0), (.string ⟨List.toArray u⟩), (.string ⟨List.toArray ([] : List UInt8)⟩), (.string ⟨List.toArray ([] : List UInt8)⟩)])) (cs' := #[(.int .i64 c), (.int .i64 0), (.int .u32 0), (.string ⟨List.toArray ([] : List UInt8)⟩), (.int .i64 0), (.string ⟨List.toArray u⟩), (.string ⟨List.toArray ([] : List UInt8)⟩), (.string ⟨List.toArray ([] : List UInt8)⟩)]) (d := none) (k := 5) K rfl K K a3 rfl K ?_
                 intro aj6 n7
                 refine iF ?_
                 refine aR ?_
                 refine iR 1 1 [(132, (pt g9 5))] ?_
                 refine iS 2 ?_
                 refine sL 9 132 g9 5 0 (.string ⟨List.toArray u⟩) 133 n7 rfl ?_
                 obtain ⟨hl11230, H⟩ := Vb H
                 obtain ⟨n8, hyl11229⟩ : ∃ y, ([101, 118, 105, 99, 116, 32] : List UInt8) ++ u = y := ⟨_, rfl⟩
                 rw [hyl11229] at H
                 refine iS 3 ?_
                 refine Qi (T := 9) (T' := 9) (x := (.const (.string ⟨List.toArray ([101, 118, 105, 99, 116, 32] : List UInt8)⟩))) (y := (.tmp 133)) (a := ([101, 118, 105, 99, 116, 32] : List UInt8)) (b := u) (d := (some 134)) (k := 2) K rfl K K hl11230 ?_
                 rw [hyl11229]
                 refine iR 1 4 [(4, (.string ⟨List.toArray n8⟩))] ?_
                 refine iF ?_
                 exact ⟨c, u, n8, ⟨K, K, K, trivial⟩, SP.sel n7 [0, 1] rfl rfl, H⟩
                ·have H := cf H k2
                 refine aQ ?_
                 refine aR ?_
                 refine iR 2 2 [(136, (.bool (c == 9))), (135, (.bool (c == 9)))] ?_
                 refine iF ?_
                 refine At.join (fun ρ w => ∃ (i9 : Int) (d2 : (List UInt8)), Q7 ρ [(1, (pt g9 0)), (3, (pt q 0)), (4, (.string ⟨List.toArray d2⟩))] ∧ SP [] w0 w [Qk g9 52 #[(.int .i64 c), (.int .i64 m), (.int .u32 a2), (.string ⟨List.toArray a1⟩), (.int .i64 s), (.string ⟨List.toArray u⟩), (.string ⟨List.toArray a0⟩), (.string ⟨List.toArray p⟩)], Qk q 52 #[(.int .i64 i9), (.int .i64 0), (.int .u32 0), (.string ⟨List.toArray ([] : List UInt8)⟩), (.int .i64 0), (.string ⟨List.toArray ([] : List UInt8)⟩), (.string ⟨List.toArray ([] : List UInt8)⟩), (.string ⟨List.toArray ([] : List UInt8)⟩)]] ∧ Jv c m a2 a1 s u a0 p i9 d2 = some r) ?_ ?_
                 ·refine Vm K (o := (.tmp 135)) K (b := (c == 9)) K (fun k3 => ?_) (fun k3 => ?_)
                  ·have H := ct H k3
                   refine aQ ?_
                   refine aR ?_
                   refine iR 1 1 [(137, (pt g9 0))] ?_
                   refine iS 2 ?_
                   refine sL 3 137 g9 0 0 (.int .i64 c) 138 a3 rfl ?_
                   refine iR 1 3 [(139, (.agg #[(.int .i64 c), (.int .i64 0), (.int .u32 0), (.string ⟨List.toArray ([] : List UInt8)⟩), (.int .i64 0), (.string ⟨List.toArray ([] : List UInt8)⟩), (.string ⟨List.toArray ([] : List UInt8)⟩), (.string ⟨List.toArray ([] : List UInt8)⟩)]))] ?_
                   refine iS 4 ?_
                   refine Qh.store (t := 52) (x := (.tmp 3)) (y := (.tmp 139)) (g := q) (off := 0) (i := 1) (v := (.agg #[(.int .i64 c), (.int .i64 0), (.int .u32 0), (.string ⟨List.toArray ([] : List UInt8)⟩), (.int .i64 0), (.string ⟨List.toArray ([] : List UInt8)⟩), (.string ⟨List.toArray ([] : List UInt8)⟩), (.string ⟨List.toArray ([] : List UInt8)⟩)])) (cs' := #[(.int .i64 c), (.int .i64 0), (.int .u32 0), (.string ⟨List.toArray ([] : List UInt8)⟩), (.int .i64 0), (.string ⟨List.toArray ([] : List UInt8)⟩), (.string ⟨List.toArray ([] : List UInt8)⟩), (.string ⟨List.toArray ([] : List UInt8)⟩)]) (d := none) (k := 3) K rfl K K a3 rfl K ?_
                   intro aj7 w6
                   refine iF ?_
                   refine aR ?_
                   refine iR 1 1 [(4, (.string ⟨List.toArray ([100, 114, 97, 105, 110] : List UInt8)⟩))] ?_
                   refine iF ?_
                   exact ⟨c, ([100, 114, 97, 105, 110] : List UInt8), ⟨K, K, K, trivial⟩, SP.sel w6 [0, 1] rfl rfl, H⟩
                  ·have H := cf H k3
                   refine At.skip K ?_
                   exact ⟨0, ([] : List UInt8), ⟨K, K, K, trivial⟩, SP.sel a3 [0, 1] rfl rfl, H⟩
                 ·rintro ρ aj8 ⟨i9, d2, hk, w7, H⟩
                  unfold Jv at H
                  first | refine At.known [(1, (pt g9 0)), (3, (pt q 0)), (4, (.string ⟨List.toArray d2⟩))] hk ?_ | rw [← Qc (l := [(1, (pt g9 0)), (3, (pt q 0)), (4, (.string ⟨List.toArray d2⟩))]) hk]
                  exact ⟨i9, ([] : List UInt8), d2, ⟨K, K, K, trivial⟩, SP.sel w7 [0, 1] rfl rfl, H⟩
               ·rintro ρ aj9 ⟨i7, i8, d1, hk, w8, H⟩
                unfold Ju at H
                first | refine At.known [(1, (pt g9 0)), (3, (pt q 0)), (4, (.string ⟨List.toArray d1⟩))] hk ?_ | rw [← Qc (l := [(1, (pt g9 0)), (3, (pt q 0)), (4, (.string ⟨List.toArray d1⟩))]) hk]
                exact ⟨i7, i8, ([] : List UInt8), d1, ⟨K, K, K, trivial⟩, SP.sel w8 [0, 1] rfl rfl, H⟩
             ·rintro ρ ak0 ⟨i4, i5, i6, d0, hk, w9, H⟩
              unfold Jt at H
              first | refine At.known [(1, (pt g9 0)), (3, (pt q 0)), (4, (.string ⟨List.toArray d0⟩))] hk ?_ | rw [← Qc (l := [(1, (pt g9 0)), (3, (pt q 0)), (4, (.string ⟨List.toArray d0⟩))]) hk]
              exact ⟨i4, 0, i5, i6, d0, ⟨K, K, K, trivial⟩, SP.sel w9 [0, 1] rfl rfl, H⟩
           ·rintro ρ ak1 ⟨i0, i1, i2, i3, c9, hk, x0, H⟩
            unfold Js at H
            first | refine At.known [(1, (pt g9 0)), (3, (pt q 0)), (4, (.string ⟨List.toArray c9⟩))] hk ?_ | rw [← Qc (l := [(1, (pt g9 0)), (3, (pt q 0)), (4, (.string ⟨List.toArray c9⟩))]) hk]
            exact ⟨i0, 0, i1, i2, i3, c9, ⟨K, K, K, trivial⟩, SP.sel x0 [0, 1] rfl rfl, H⟩
         ·rintro ρ ak2 ⟨h5, h6, h7, h8, h9, c8, hk, x1, H⟩
          unfold Jr at H
          first | refine At.known [(1, (pt g9 0)), (3, (pt q 0)), (4, (.string ⟨List.toArray c8⟩))] hk ?_ | rw [← Qc (l := [(1, (pt g9 0)), (3, (pt q 0)), (4, (.string ⟨List.toArray c8⟩))]) hk]
          exact ⟨h5, h6, h7, h8, h9, ([] : List UInt8), c8, ⟨K, K, K, trivial⟩, SP.sel x1 [0, 1] rfl rfl, H⟩
       ·rintro ρ ak3 ⟨g5, g6, g7, g8, h1, h2, c6, hk, x2, H⟩
        unfold Jq at H
        first | refine At.known [(1, (pt g9 0)), (3, (pt q 0)), (4, (.string ⟨List.toArray c6⟩))] hk ?_ | rw [← Qc (l := [(1, (pt g9 0)), (3, (pt q 0)), (4, (.string ⟨List.toArray c6⟩))]) hk]
        exact ⟨g5, g6, g7, g8, h1, h2, c6, ⟨K, K, K, trivial⟩, SP.sel x2 [0, 1] rfl rfl, H⟩
     ·rintro ρ ak4 ⟨f7, f8, f9, g0, g1, g2, c4, hk, x3, H⟩
      unfold Jp at H
      first | refine At.known [(1, (pt g9 0)), (3, (pt q 0)), (4, (.string ⟨List.toArray c4⟩))] hk ?_ | rw [← Qc (l := [(1, (pt g9 0)), (3, (pt q 0)), (4, (.string ⟨List.toArray c4⟩))]) hk]
      exact ⟨f7, f8, ([] : List UInt8), f9, g0, g1, g2, c4, ⟨K, K, K, trivial⟩, SP.sel x3 [0, 1] rfl rfl, H⟩
   ·rintro ρ ak5 ⟨e8, e9, f0, f1, f2, f3, f4, c1, hk, x4, H⟩
    unfold Jo at H
    first | refine At.known [(1, (pt g9 0)), (3, (pt q 0)), (4, (.string ⟨List.toArray c1⟩))] hk ?_ | rw [← Qc (l := [(1, (pt g9 0)), (3, (pt q 0)), (4, (.string ⟨List.toArray c1⟩))]) hk]
    exact ⟨e8, e9, 0, f0, f1, f2, f3, f4, c1, ⟨K, K, K, trivial⟩, SP.sel x4 [0, 1] rfl rfl, H⟩
 ·rintro ρ ak6 ⟨a6, a7, a8, a9, b0, b1, b2, b3, a4, hk, j0, H⟩
  unfold Xm at H
  first | refine At.known [(1, (pt g9 0)), (3, (pt q 0)), (4, (.string ⟨List.toArray a4⟩))] hk ?_ | rw [← Qc (l := [(1, (pt g9 0)), (3, (pt q 0)), (4, (.string ⟨List.toArray a4⟩))]) hk]
  refine aQ ?_
  refine At.join (fun ρ w => ∃ (b8 : Bool), Q7 ρ [(1, (pt g9 0)), (3, (pt q 0)), (4, (.string ⟨List.toArray a4⟩)), (5, (.bool b8))] ∧ SP [] w0 w [Qk g9 52 #[(.int .i64 c), (.int .i64 m), (.int .u32 a2), (.string ⟨List.toArray a1⟩), (.int .i64 s), (.string ⟨List.toArray u⟩), (.string ⟨List.toArray a0⟩), (.string ⟨List.toArray p⟩)], Qk q 52 #[(.int .i64 a6), (.int .i64 a7), (.int .u32 a8), (.string ⟨List.toArray a9⟩), (.int .i64 b0), (.string ⟨List.toArray b1⟩), (.string ⟨List.toArray b2⟩), (.string ⟨List.toArray b3⟩)]] ∧ Xl c m a2 a1 s u a0 p a6 a7 a8 a9 b0 b1 b2 b3 a4 b8 = some r) ?_ ?_
  ·refine aR ?_
   refine iR 1 1 [(140, (pt g9 0))] ?_
   refine iS 2 ?_
   refine sL 3 140 g9 0 0 (.int .i64 c) 141 j0 rfl ?_
   refine iR 2 4 [(142, (.bool (c == 7))), (143, (.bool (c == 7)))] ?_
   refine In.guard (t := 143) (b := (c == 7)) K (fun k4 => ?_) (fun k4 => ?_)
   ·have H := ct H k4
    refine iR 5 9 [(144, undef), (145, undef), (146, undef), (147, (.bool true)), (5, (.bool true))] ?_
    refine iF ?_
    exact ⟨true, ⟨K, K, K, K, trivial⟩, SP.sel j0 [0, 1] rfl rfl, H⟩
   ·have H := cf H k4
    refine iR 1 5 [(144, (pt g9 0))] ?_
    refine iS 6 ?_
    refine sL 3 144 g9 0 0 (.int .i64 c) 145 j0 rfl ?_
    refine iR 3 9 [(146, (.bool (c == 8))), (147, (.bool (c == 8))), (5, (.bool (c == 8)))] ?_
    refine iF ?_
    exact ⟨(c == 8), ⟨K, K, K, K, trivial⟩, SP.sel j0 [0, 1] rfl rfl, H⟩
  ·rintro ρ x5 ⟨b8, hk, d3, H⟩
   unfold Xl at H
   first | refine At.known [(1, (pt g9 0)), (3, (pt q 0)), (4, (.string ⟨List.toArray a4⟩)), (5, (.bool b8))] hk ?_ | rw [← Qc (l := [(1, (pt g9 0)), (3, (pt q 0)), (4, (.string ⟨List.toArray a4⟩)), (5, (.bool b8))]) hk]
   refine aQ ?_
   refine aQ ?_
   refine At.join (fun ρ w => ∃ (d4 : Bool), Q7 ρ [(4, (.string ⟨List.toArray a4⟩)), (186, (.bool d4))] ∧ SP [] w0 w [] ∧ Qz a4 d4 = some r) ?_ ?_
   ·refine aR ?_
    refine iR 1 1 [(148, (.string ⟨List.toArray a4⟩))] ?_
    refine iS 2 ?_
    refine Qu (op := .eql) (T := 9) (T' := 9) (x := (.tmp 148)) (y := (.const (.string ⟨List.toArray ([] : List UInt8)⟩))) (a := a4) (b := ([] : List UInt8)) (r := (.bool (a4 == ([] : List UInt8)))) (d := (some 149)) (k := 1) K rfl K K rfl ?_
    refine iR 1 3 [(150, (.bool (a4 == ([] : List UInt8))))] ?_
    refine In.guard (t := 150) (b := (a4 == ([] : List UInt8))) K (fun k5 => ?_) (fun k5 => ?_)
    ·have H := ct H k5
     refine iR 36 39 [(151, undef), (152, undef), (153, undef), (154, (.bool true)), (155, (.bool true)), (156, undef), (157, undef), (158, undef), (159, undef), (160, (.bool true)), (161, (.bool true)), (162, undef), (163, undef), (164, undef), (165, undef), (166, (.bool true)), (167, (.bool true)), (168, undef), (169, undef), (170, undef), (171, undef), (172, undef), (173, undef), (174, undef), (175, (.bool true)), (176, (.bool true)), (177, undef), (178, undef), (179, undef), (180, undef), (181, undef), (182, undef), (183, undef), (184, undef), (185, undef), (186, (.bool true))] ?_
     refine iF ?_
     exact ⟨true, ⟨K, K, trivial⟩, SP.sel d3 [] rfl rfl, H⟩
    ·have H := cf H k5
     refine iS 4 ?_
     refine sL 52 3 q 0 1 (.agg #[(.int .i64 a6), (.int .i64 a7), (.int .u32 a8), (.string ⟨List.toArray a9⟩), (.int .i64 b0), (.string ⟨List.toArray b1⟩), (.string ⟨List.toArray b2⟩), (.string ⟨List.toArray b3⟩)]) 151 d3 rfl ?_
     refine iS 5 ?_
     refine sL 52 1 g9 0 0 (.agg #[(.int .i64 c), (.int .i64 m), (.int .u32 a2), (.string ⟨List.toArray a1⟩), (.int .i64 s), (.string ⟨List.toArray u⟩), (.string ⟨List.toArray a0⟩), (.string ⟨List.toArray p⟩)]) 152 d3 rfl ?_
     refine iS 6 ?_
     refine Db (op := .neq) (T := 52) (T' := 52) (x := (.tmp 151)) (y := (.tmp 152)) (vx := (.agg #[(.int .i64 a6), (.int .i64 a7), (.int .u32 a8), (.string ⟨List.toArray a9⟩), (.int .i64 b0), (.string ⟨List.toArray b1⟩), (.string ⟨List.toArray b2⟩), (.string ⟨List.toArray b3⟩)])) (vy := (.agg #[(.int .i64 c), (.int .i64 m), (.int .u32 a2), (.string ⟨List.toArray a1⟩), (.int .i64 s), (.string ⟨List.toArray u⟩), (.string ⟨List.toArray a0⟩), (.string ⟨List.toArray p⟩)])) (v := (.bool (!((a6 == c) && ((a7 == m) && ((a8 == a2) && ((a9 == a1) && ((b0 == s) && ((b1 == u) && ((b2 == a0) && (b3 == p))))))))))) (d := (some 153)) (k := 5) K rfl K K (by clear H; intro w; simp only [Gd]; go_simp; simp only [Gm, Nn, Re, Gd, Bool.and_true] <;> simp only [Bool.not_and]) ?_
     refine iR 2 8 [(154, (.bool (!((a6 == c) && ((a7 == m) && ((a8 == a2) && ((a9 == a1) && ((b0 == s) && ((b1 == u) && ((b2 == a0) && (b3 == p))))))))))), (155, (.bool (!((a6 == c) && ((a7 == m) && ((a8 == a2) && ((a9 == a1) && ((b0 == s) && ((b1 == u) && ((b2 == a0) && (b3 == p)))))))))))] ?_
     refine In.guard (t := 155) (b := (!((a6 == c) && ((a7 == m) && ((a8 == a2) && ((a9 == a1) && ((b0 == s) && ((b1 == u) && ((b2 == a0) && (b3 == p)))))))))) K (fun k6 => ?_) (fun k6 => ?_)
     ·have H := ct H k6
      refine iR 31 39 [(156, undef), (157, undef), (158, undef), (159, undef), (160, (.bool true)), (161, (.bool true)), (162, undef), (163, undef), (164, undef), (165, undef), (166, (.bool true)), (167, (.bool true)), (168, undef), (169, undef), (170, undef), (171, undef), (172, undef), (173, undef), (174, undef), (175, (.bool true)), (176, (.bool true)), (177, undef), (178, undef), (179, undef), (180, undef), (181, undef), (182, undef), (183, undef), (184, undef), (185, undef), (186, (.bool true))] ?_
      refine iF ?_
      exact ⟨true, ⟨K, K, trivial⟩, SP.sel d3 [] rfl rfl, H⟩
     ·have H := cf H k6
      refine iR 1 9 [(156, (pt g9 1))] ?_
      refine iS 10 ?_
      refine sL 3 156 g9 1 0 (.int .i64 m) 157 d3 rfl ?_
      obtain ⟨e1, x6, H⟩ := Qa H
      refine iS 11 ?_
      refine cF 83 #[(.tmp 157)] #[2] 158 Tryz.call83 (V6  m x5  e1 x6) ?_
      rintro e x7 ⟨rfl, n9⟩
      refine ⟨_, rfl, ?_⟩
      have k7 := SP.call d3 n9
      clear n9
      refine iR 3 14 [(159, (.bool (!e1))), (160, (.bool (!e1))), (161, (.bool (!e1)))] ?_
      refine In.guard (t := 161) (b := (!e1)) K (fun k8 => ?_) (fun k8 => ?_)
      ·have H := ct H k8
       refine iR 25 39 [(162, undef), (163, undef), (164, undef), (165, undef), (166, (.bool true)), (167, (.bool true)), (168, undef), (169, undef), (170, undef), (171, undef), (172, undef), (173, undef), (174, undef), (175, (.bool true)), (176, (.bool true)), (177, undef), (178, undef), (179, undef), (180, undef), (181, undef), (182, undef), (183, undef), (184, undef), (185, undef), (186, (.bool true))] ?_
       refine iF ?_
       exact ⟨true, ⟨K, K, trivial⟩, SP.sel k7 [] rfl rfl, H⟩
      ·have H := cf H k8
       refine iR 1 15 [(162, (pt g9 4))] ?_
       refine iS 16 ?_
       refine sL 2 162 g9 4 0 (.int .i64 s) 163 k7 rfl ?_
       obtain ⟨e2, x8, H⟩ := Qa H
       refine iS 17 ?_
       refine cF 83 #[(.tmp 163)] #[2] 164 Tryz.call83 (V6  s x7  e2 x8) ?_
       rintro e o0 ⟨rfl, o1⟩
       refine ⟨_, rfl, ?_⟩
       have b9 := SP.call k7 o1
       clear o1
       refine iR 3 20 [(165, (.bool (!e2))), (166, (.bool (!e2))), (167, (.bool (!e2)))] ?_
       refine In.guard (t := 167) (b := (!e2)) K (fun k9 => ?_) (fun k9 => ?_)
       ·have H := ct H k9
        refine iR 19 39 [(168, undef), (169, undef), (170, undef), (171, undef), (172, undef), (173, undef), (174, undef), (175, (.bool true)), (176, (.bool true)), (177, undef), (178, undef), (179, undef), (180, undef), (181, undef), (182, undef), (183, undef), (184, undef), (185, undef), (186, (.bool true))] ?_
        refine iF ?_
        exact ⟨true, ⟨K, K, trivial⟩, SP.sel b9 [] rfl rfl, H⟩
       ·have H := cf H k9
        refine iR 2 22 [(168, (.bool b8)), (169, (.bool b8))] ?_
        refine In.guard (t := 169) (b := b8) K (fun l0 => ?_) (fun l0 => ?_)
        ·have H := ct H l0
         refine iR 1 23 [(170, (pt g9 5))] ?_
         refine iS 24 ?_
         refine sL 9 170 g9 5 0 (.string ⟨List.toArray u⟩) 171 b9 rfl ?_
         obtain ⟨d5, x9, H⟩ := Qa H
         refine iS 25 ?_
         refine cF 75 #[(.tmp 171)] #[9] 172 Tryz.call75 (Xk  u o0  d5 x9) ?_
         rintro e y0 ⟨rfl, o2⟩
         refine ⟨_, rfl, ?_⟩
         have e3 := SP.call b9 o2
         clear o2
         refine iR 4 29 [(173, (.bool (!d5))), (174, (.bool (!d5))), (175, (.bool (!d5))), (176, (.bool (!d5)))] ?_
         refine In.guard (t := 176) (b := (!d5)) K (fun l1 => ?_) (fun l1 => ?_)
         ·have H := ct H l1
          refine iR 10 39 [(177, undef), (178, undef), (179, undef), (180, undef), (181, undef), (182, undef), (183, undef), (184, undef), (185, undef), (186, (.bool true))] ?_
          refine iF ?_
          exact ⟨true, ⟨K, K, trivial⟩, SP.sel e3 [] rfl rfl, H⟩
         ·have H := cf H l1
          refine iR 1 30 [(177, (pt g9 0))] ?_
          refine iS 31 ?_
          refine sL 3 177 g9 0 0 (.int .i64 c) 178 e3 rfl ?_
          refine iR 2 33 [(179, (.bool (c == 7))), (180, (.bool (c == 7)))] ?_
          refine In.guard (t := 180) (b := (c == 7)) K (fun l2 => ?_) (fun l2 => ?_)
          ·have H := ct H l2
           refine iR 1 34 [(181, (pt g9 6))] ?_
           refine iS 35 ?_
           refine sL 9 181 g9 6 0 (.string ⟨List.toArray a0⟩) 182 e3 rfl ?_
           obtain ⟨e4, y1, H⟩ := Qa H
           refine iS 36 ?_
           refine cF 75 #[(.tmp 182)] #[9] 183 Tryz.call75 (Xk  a0 y0  e4 y1) ?_
           rintro e ak7 ⟨rfl, o3⟩
           refine ⟨_, rfl, ?_⟩
           have y2 := SP.call e3 o3
           clear o3
           refine iR 3 39 [(184, (.bool (!e4))), (185, (.bool (!e4))), (186, (.bool (!e4)))] ?_
           refine iF ?_
           exact ⟨(!e4), ⟨K, K, trivial⟩, SP.sel y2 [] rfl rfl, H⟩
          ·have H := cf H l2
           refine iR 6 39 [(181, undef), (182, undef), (183, undef), (184, undef), (185, (.bool false)), (186, (.bool false))] ?_
           refine iF ?_
           exact ⟨false, ⟨K, K, trivial⟩, SP.sel e3 [] rfl rfl, H⟩
        ·have H := cf H l0
         refine iR 8 30 [(170, undef), (171, undef), (172, undef), (173, undef), (174, (.bool false)), (175, (.bool false)), (176, (.bool false)), (177, (pt g9 0))] ?_
         refine iS 31 ?_
         refine sL 3 177 g9 0 0 (.int .i64 c) 178 b9 rfl ?_
         refine iR 2 33 [(179, (.bool (c == 7))), (180, (.bool (c == 7)))] ?_
         refine In.guard (t := 180) (b := (c == 7)) K (fun l3 => ?_) (fun l3 => ?_)
         ·have H := ct H l3
          refine iR 1 34 [(181, (pt g9 6))] ?_
          refine iS 35 ?_
          refine sL 9 181 g9 6 0 (.string ⟨List.toArray a0⟩) 182 b9 rfl ?_
          obtain ⟨e5, y3, H⟩ := Qa H
          refine iS 36 ?_
          refine cF 75 #[(.tmp 182)] #[9] 183 Tryz.call75 (Xk  a0 o0  e5 y3) ?_
          rintro e ak8 ⟨rfl, o4⟩
          refine ⟨_, rfl, ?_⟩
          have y4 := SP.call b9 o4
          clear o4
          refine iR 3 39 [(184, (.bool (!e5))), (185, (.bool (!e5))), (186, (.bool (!e5)))] ?_
          refine iF ?_
          exact ⟨(!e5), ⟨K, K, trivial⟩, SP.sel y4 [] rfl rfl, H⟩
         ·have H := cf H l3
          refine iR 6 39 [(181, undef), (182, undef), (183, undef), (184, undef), (185, (.bool false)), (186, (.bool false))] ?_
          refine iF ?_
          exact ⟨false, ⟨K, K, trivial⟩, SP.sel b9 [] rfl rfl, H⟩
   ·rintro ρ ak9 ⟨d4, hk, o5, H⟩
    unfold Qz at H
    first | refine At.known [(4, (.string ⟨List.toArray a4⟩)), (186, (.bool d4))] hk ?_ | rw [← Qc (l := [(4, (.string ⟨List.toArray a4⟩)), (186, (.bool d4))]) hk]
    refine Vm K (o := (.tmp 186)) K (b := d4) K (fun l4 => ?_) (fun l4 => ?_)
    ·have H := ct H l4
     refine aQ ?_
     refine aR ?_
     refine iR 1 1 [(2, (.string ⟨List.toArray ([] : List UInt8)⟩))] ?_
     refine iF ?_
     refine At.ret K ?_
     refine ⟨(.string ⟨List.toArray ([] : List UInt8)⟩), K, ?_⟩
     obtain rfl := Qb H
     exact ⟨rfl, SP.sel o5 [] rfl rfl⟩
    ·have H := cf H l4
     refine At.skip K ?_
     refine aQ ?_
     refine aR ?_
     refine iR 2 2 [(187, (.string ⟨List.toArray a4⟩)), (2, (.string ⟨List.toArray a4⟩))] ?_
     refine iF ?_
     refine At.ret K ?_
     refine ⟨(.string ⟨List.toArray a4⟩), K, ?_⟩
     obtain rfl := Qb H
     exact ⟨rfl, SP.sel o5 [] rfl rfl⟩
def Zv (a : (List (List UInt8)) → Int → Int → Option ((List (List UInt8)))) (b : Int) (c : (List (List UInt8))) (d : Int) : Option ((List (List UInt8))) :=
  (a c d (IntKind.wrap .i64 (b + 1)))
def Zw (b : (List (List UInt8)) → Int → Int → Option ((List (List UInt8)))) (p1 : (List UInt8)) (c : (List (List UInt8))) (d : Int) (a : Int) (e : Bool) : Option ((List (List UInt8))) :=
  (cond e ((sub p1 d a).bind fun f => ((app c ([f] : List (List UInt8))).bind fun g => (Zv b a g (IntKind.wrap .i64 (a + 1))))) (Zv b a c d))
def Zx (c : (List (List UInt8)) → Int → Int → Option ((List (List UInt8)))) (p1 : (List UInt8)) (b : (List (List UInt8))) (d : Int) (a : Int) : Option ((List (List UInt8))) :=
  (cond (decide (a ≤ ((List.length p1 : Nat) : Int))) (cond (a == ((List.length p1 : Nat) : Int)) (Zw c p1 b d a true) ((idx p1 a).bind fun e => (Zw c p1 b d a (((e).toNat : Int) == 32)))) (some (b)))
def Vz (p1 : (List UInt8)) : Nat → (List (List UInt8)) → Int → Int → Option ((List (List UInt8)))
  | 0, _, _, _ => none
  | f + 1, a, b, c => Zx  (Vz p1 f) p1 a b c
def Uc (p1 : (List UInt8)) : Option ((List (List UInt8))) :=
  (Vz p1 Y1 ([] : List (List UInt8)) 0 0)
set_option maxHeartbeats 40000000 in
theorem Ra  (p1 : (List UInt8)) (w0 : World)  (r : ((List (List UInt8)))) (H : Uc p1 = some r) :
  Calls Tryz.prog 70 #[(.string ⟨List.toArray p1⟩)] w0 (fun e w' => ∃ (A2 : Option Addr) (c3 : Nat), e = .returned (.slice A2 (List.length r) c3) ∧ SP [] w0 w' [Vu 9 Qn A2 c3 r]) := by
 unfold Uc at H
 refine Ql (n := 32) Tryz.func70 K K K ?_
 have b4 := Qy [] w0
 refine aQ ?_
 refine aR ?_
 refine iR 1 1 [(2, (.slice none (List.length ([] : List (List UInt8))) 0))] ?_
 refine iF ?_
 refine aQ ?_
 refine aR ?_
 refine iR 1 1 [(3, (.slice none (List.length ([] : List (List UInt8))) 0))] ?_
 refine iF ?_
 refine aQ ?_
 refine aR ?_
 refine iR 1 1 [(4, (.int .i64 0))] ?_
 refine iF ?_
 refine aQ ?_
 refine aQ ?_
 refine aR ?_
 refine iR 1 1 [(5, (.int .i64 0))] ?_
 refine iF ?_
 refine J2 K (id := 0) K ?_
 refine Du K (fun f5 ρ w => ∃ (g : (List (List UInt8))) (q : Int) (f : Int) (h : Option Addr) (p : Nat), Q7 ρ [(0, (.string ⟨List.toArray p1⟩)), (3, (.slice h (List.length g) p)), (4, (.int .i64 q)), (5, (.int .i64 f))] ∧ SP [] w0 w [Vu 9 Qn h p g] ∧ Vz p1 f5 g q f = some r) (by rintro ρ w ⟨g, q, f, h, p, hk, hs, H⟩; cases H) ?_ Y1 ?_
 ·rintro f5 ρ c4 ⟨g, q, f, h, p, hk, a5, H⟩
  refine At.known [(0, (.string ⟨List.toArray p1⟩)), (3, (.slice h (List.length g) p)), (4, (.int .i64 q)), (5, (.int .i64 f))] hk ?_
  replace H := (show Zx (Vz p1 f5) p1 g q f = some r from H)
  unfold Zx at H
  refine aQ ?_
  refine aQ ?_
  refine aR ?_
  refine iR 4 4 [(6, (.int .i64 f)), (7, (.string ⟨List.toArray p1⟩)), (8, (.int .i64 ((List.length p1 : Nat) : Int))), (9, (.bool (decide (f ≤ ((List.length p1 : Nat) : Int)))))] ?_
  refine iF ?_
  refine Vm K (o := (.tmp 9)) K (b := (decide (f ≤ ((List.length p1 : Nat) : Int)))) K (fun a6 => ?_) (fun a6 => ?_)
  ·have H := ct H a6
   refine At.skip K ?_
   refine aQ ?_
   refine J2 K (id := 1) K ?_
   refine aQ ?_
   refine At.join (fun ρ w => ∃ (z : Bool), Q7 ρ [(0, (.string ⟨List.toArray p1⟩)), (3, (.slice h (List.length g) p)), (4, (.int .i64 q)), (5, (.int .i64 f)), (21, (.bool z))] ∧ SP [] w0 w [Vu 9 Qn h p g] ∧ Zw (Vz p1 f5) p1 g q f z = some r) ?_ ?_
   ·refine aR ?_
    refine iR 5 5 [(12, (.int .i64 f)), (13, (.string ⟨List.toArray p1⟩)), (14, (.int .i64 ((List.length p1 : Nat) : Int))), (15, (.bool (f == ((List.length p1 : Nat) : Int)))), (16, (.bool (f == ((List.length p1 : Nat) : Int))))] ?_
    refine In.guard (t := 16) (b := (f == ((List.length p1 : Nat) : Int))) K (fun a7 => ?_) (fun a7 => ?_)
    ·have H := ct H a7
     refine iR 5 10 [(17, undef), (18, undef), (19, undef), (20, undef), (21, (.bool true))] ?_
     refine iF ?_
     exact ⟨true, ⟨K, K, K, K, K, trivial⟩, SP.sel a5 [0] rfl rfl, H⟩
    ·have H := cf H a7
     refine iR 2 7 [(17, (.string ⟨List.toArray p1⟩)), (18, (.int .i64 f))] ?_
     obtain ⟨a4, b5, c5, b6, H⟩ := Vf H
     refine iS 8 ?_
     refine Zd (a := p1) (u := a4) (T := 9) (x := (.tmp 17)) (ix := (.tmp 18)) (ki := .i64) (iz := f) (d := (some 19)) (k := 7) K rfl K K K b5 b6 ?_
     refine iR 2 10 [(20, (.bool (((a4).toNat : Int) == 32))), (21, (.bool (((a4).toNat : Int) == 32)))] ?_
     refine iF ?_
     exact ⟨(((a4).toNat : Int) == 32), ⟨K, K, K, K, K, trivial⟩, SP.sel a5 [0] rfl rfl, H⟩
   ·rintro ρ c6 ⟨z, hk, a9, H⟩
    unfold Zw at H
    first | refine At.known [(0, (.string ⟨List.toArray p1⟩)), (3, (.slice h (List.length g) p)), (4, (.int .i64 q)), (5, (.int .i64 f)), (21, (.bool z))] hk ?_ | rw [← Qc (l := [(0, (.string ⟨List.toArray p1⟩)), (3, (.slice h (List.length g) p)), (4, (.int .i64 q)), (5, (.int .i64 f)), (21, (.bool z))]) hk]
    refine At.join (fun ρ w => ∃ (v : (List (List UInt8))) (a0 : Int) (a1 : Option Addr) (a2 : Nat), Q7 ρ [(0, (.string ⟨List.toArray p1⟩)), (3, (.slice a1 (List.length v) a2)), (4, (.int .i64 a0)), (5, (.int .i64 f))] ∧ SP [] w0 w [Vu 9 Qn a1 a2 v] ∧ Zv (Vz p1 f5) f v a0 = some r) ?_ ?_
    ·refine Vm K (o := (.tmp 21)) K (b := z) K (fun a8 => ?_) (fun a8 => ?_)
     ·have H := ct H a8
      refine aQ ?_
      refine aR ?_
      refine iR 4 4 [(22, (.slice h (List.length g) p)), (23, (.string ⟨List.toArray p1⟩)), (24, (.int .i64 q)), (25, (.int .i64 f))] ?_
      obtain ⟨b7, b8, b9, H⟩ := Nm H
      obtain ⟨a3, hyl155⟩ : ∃ y, (List.drop (Int.toNat q) (List.take (Int.toNat f) p1)) = y := ⟨_, rfl⟩
      rw [hyl155] at H
      refine iS 5 ?_
      refine Xf (a := p1) (T := 9) (x := (.tmp 23)) (lo := (some (.tmp 24))) (hi := (some (.tmp 25))) (i := q) (j := f) (d := (some 26)) (k := 4) K rfl K K ⟨.i64, K⟩ ⟨.i64, K⟩ b7 b8 b9 ?_
      rw [hyl155]
      refine iS 6 ?_
      refine Vy (e := Qn) (T := 79) (E := 9) (len := 1) (parts := #[(0, (.tmp 26))]) (cs := #[(.string ⟨List.toArray a3⟩)]) ([a3] : List (List UInt8)) (d := (some 27)) (k := 5) K rfl (fun _ => K) a9 rfl rfl rfl rfl ?_
      intro c0 c7 b0
      obtain ⟨hl160, H⟩ := Vb H
      obtain ⟨b1, hyl161⟩ : ∃ y, g ++ ([a3] : List (List UInt8)) = y := ⟨_, rfl⟩
      rw [hyl161] at H
      refine iS 7 ?_
      refine Qh.append (e := Qn) (l := g) (m := ([a3] : List (List UInt8))) (A := h) (c := p) (T := 79) (TX := 79) (E := 9) (b := 16) (s := (.tmp 22)) (x := (.tmp 27)) (i := 0) (vx := (.slice (some ⟨c0, 0, none⟩) (List.length ([a3] : List (List UInt8))) (List.length ([a3] : List (List UInt8))))) (d := (some 28)) (k := 6) K rfl K K K K rfl b0 rfl (Ep (E := 9) K (Q9 (SP.get b0 (i := 1) rfl))) hl160 ?_
      rw [hyl161]
      intro b2 b3 c8 c1
      refine iR 1 8 [(3, (.slice b2 (List.length b1) b3))] ?_
      refine iF ?_
      refine aR ?_
      refine iR 3 3 [(29, (.int .i64 f)), (30, (.int .i64 (IntKind.wrap .i64 (f + 1)))), (4, (.int .i64 (IntKind.wrap .i64 (f + 1))))] ?_
      refine iF ?_
      exact ⟨b1, (IntKind.wrap .i64 (f + 1)), b2, b3, ⟨K, K, K, K, trivial⟩, SP.sel c1 [0] rfl rfl, H⟩
     ·have H := cf H a8
      refine At.skip K ?_
      exact ⟨g, q, h, p, ⟨K, K, K, K, trivial⟩, SP.sel a9 [0] rfl rfl, H⟩
    ·rintro ρ c9 ⟨v, a0, a1, a2, hk, c2, H⟩
     unfold Zv at H
     first | refine At.known [(0, (.string ⟨List.toArray p1⟩)), (3, (.slice a1 (List.length v) a2)), (4, (.int .i64 a0)), (5, (.int .i64 f))] hk ?_ | rw [← Qc (l := [(0, (.string ⟨List.toArray p1⟩)), (3, (.slice a1 (List.length v) a2)), (4, (.int .i64 a0)), (5, (.int .i64 f))]) hk]
     refine aR ?_
     refine iR 3 3 [(10, (.int .i64 f)), (11, (.int .i64 (IntKind.wrap .i64 (f + 1)))), (5, (.int .i64 (IntKind.wrap .i64 (f + 1))))] ?_
     refine iF ?_
     exact ⟨v, a0, (IntKind.wrap .i64 (f + 1)), a1, a2, ⟨K, K, K, K, trivial⟩, SP.sel c2 [0] rfl rfl, H⟩
  ·have H := cf H a6
   refine At.exit K (id := 0) K ?_
   refine aQ ?_
   refine aR ?_
   refine iR 2 2 [(31, (.slice h (List.length g) p)), (2, (.slice h (List.length g) p))] ?_
   refine iF ?_
   refine At.ret K ?_
   refine ⟨(.slice h (List.length g) p), K, ?_⟩
   obtain rfl := Qb H
   exact ⟨h, p, rfl, SP.sel a5 [0] rfl rfl⟩
 ·exact ⟨([] : List (List UInt8)), 0, 0, none, 0, ⟨K, K, K, K, trivial⟩, SP.sel (X6 b4 9 Qn) [0] rfl rfl, H⟩
def Yh (z3 : ((List UInt8) × Bool)) (a : Bool) : Option ((List UInt8) × Bool) :=
  (some (z3.1, a))
def Xb (p1 : (List UInt8)) : Option ((List UInt8) × Bool) :=
  (cond (p1 == ([45] : List UInt8)) (some (([] : List UInt8), true)) ((Ub p1).bind fun z3 => (cond z3.2 (Yh z3 (decide (((List.length z3.1 : Nat) : Int) > 0))) (Yh z3 false))))
set_option maxHeartbeats 40000000 in
theorem Uk  (p1 : (List UInt8)) (w0 : World)  (r : ((List UInt8) × Bool)) (H : Xb p1 = some r) :
  Calls Tryz.prog 74 #[(.string ⟨List.toArray p1⟩)] w0 (fun e w' => e = .returned (.tuple #[(.string ⟨List.toArray r.1⟩), (.bool r.2)]) ∧ SP [] w0 w' []) := by
 unfold Xb at H
 refine Ql (n := 21) Tryz.func74 K K K ?_
 have m := Qy [] w0
 refine aQ ?_
 refine aR ?_
 refine iR 2 2 [(2, (.string ⟨List.toArray ([] : List UInt8)⟩)), (3, (.bool false))] ?_
 refine iF ?_
 refine aQ ?_
 refine aQ ?_
 refine aR ?_
 refine iR 1 1 [(6, (.string ⟨List.toArray p1⟩))] ?_
 refine iS 2 ?_
 refine Qu (op := .eql) (T := 9) (T' := 9) (x := (.tmp 6)) (y := (.const (.string ⟨List.toArray ([45] : List UInt8)⟩))) (a := p1) (b := ([45] : List UInt8)) (r := (.bool (p1 == ([45] : List UInt8)))) (d := (some 7)) (k := 1) K rfl K K rfl ?_
 refine iF ?_
 refine Vm K (o := (.tmp 7)) K (b := (p1 == ([45] : List UInt8))) K (fun g => ?_) (fun g => ?_)
 ·have H := ct H g
  refine aQ ?_
  refine aR ?_
  refine iR 2 2 [(2, (.string ⟨List.toArray ([] : List UInt8)⟩)), (3, (.bool true))] ?_
  refine iF ?_
  refine At.ret K ?_
  refine ⟨(.tuple #[(.string ⟨List.toArray ([] : List UInt8)⟩), (.bool true)]), K, ?_⟩
  obtain rfl := Qb H
  exact ⟨rfl, SP.sel m [] rfl rfl⟩
 ·have H := cf H g
  refine At.skip K ?_
  refine aQ ?_
  refine aR ?_
  refine iR 1 1 [(9, (.string ⟨List.toArray p1⟩))] ?_
  obtain ⟨z3, q, H⟩ := Qa H
  refine iS 2 ?_
  refine cF 95 #[(.tmp 9)] #[9] 10 Tryz.call95 (Bh  p1 w0  z3 q) ?_
  rintro e w5 ⟨A7, c8, rfl, p⟩
  refine ⟨_, rfl, ?_⟩
  have h := SP.call m p
  clear p
  refine iR 5 7 [(8, (.tuple #[(.slice A7 (List.length z3.1) c8), (.bool z3.2)])), (11, (.slice A7 (List.length z3.1) c8)), (12, (.bool z3.2)), (4, (.slice A7 (List.length z3.1) c8)), (5, (.bool z3.2))] ?_
  refine iF ?_
  refine aQ ?_
  refine At.join (fun ρ w => ∃ (f : Bool), Q7 ρ [(2, (.string ⟨List.toArray z3.1⟩)), (3, (.bool f))] ∧ SP [] w0 w [] ∧ Yh z3 f = some r) ?_ ?_
  ·refine aR ?_
   refine iR 1 1 [(13, (.slice A7 (List.length z3.1) c8))] ?_
   refine iS 2 ?_
   refine Dh (T := 48) (S' := 9) (E := 5) (x := (.tmp 13)) (A := A7) (c := c8) (l := z3.1) (d := (some 14)) (k := 1) K rfl K K K K (Q9 (SP.get h (i := 0) rfl)) ?_
   refine iR 2 4 [(15, (.bool z3.2)), (16, (.bool z3.2))] ?_
   refine In.guard (t := 16) (b := z3.2) K (fun j => ?_) (fun j => ?_)
   ·have H := ct H j
    refine iR 6 10 [(17, (.slice A7 (List.length z3.1) c8)), (18, (.int .i64 ((List.length z3.1 : Nat) : Int))), (19, (.bool (decide (((List.length z3.1 : Nat) : Int) > 0)))), (20, (.bool (decide (((List.length z3.1 : Nat) : Int) > 0)))), (2, (.string ⟨List.toArray z3.1⟩)), (3, (.bool (decide (((List.length z3.1 : Nat) : Int) > 0))))] ?_
    refine iF ?_
    exact ⟨(decide (((List.length z3.1 : Nat) : Int) > 0)), ⟨K, K, trivial⟩, SP.sel h [] rfl rfl, H⟩
   ·have H := cf H j
    refine iR 6 10 [(17, undef), (18, undef), (19, undef), (20, (.bool false)), (2, (.string ⟨List.toArray z3.1⟩)), (3, (.bool false))] ?_
    refine iF ?_
    exact ⟨false, ⟨K, K, trivial⟩, SP.sel h [] rfl rfl, H⟩
  ·rintro ρ u ⟨f, hk, s, H⟩
   unfold Yh at H
   first | refine At.known [(2, (.string ⟨List.toArray z3.1⟩)), (3, (.bool f))] hk ?_ | rw [← Qc (l := [(2, (.string ⟨List.toArray z3.1⟩)), (3, (.bool f))]) hk]
   refine At.ret K ?_
   refine ⟨(.tuple #[(.string ⟨List.toArray z3.1⟩), (.bool f)]), K, ?_⟩
   obtain rfl := Qb H
   exact ⟨rfl, SP.sel s [] rfl rfl⟩
def Vv (p1 : (List (List UInt8))) (p5 : Int) : Option ((List UInt8)) :=
  (cond (decide (p5 ≥ ((List.length p1 : Nat) : Int))) (some (([] : List UInt8))) ((idx p1 p5).bind fun x7 => (some (x7))))
set_option maxHeartbeats 40000000 in
theorem Vp (A2 : Option Addr) (c3 : Nat) (p1 : (List (List UInt8))) (p5 : Int) (w0 : World) (g : RdT Qn w0 A2 c3 p1) (r : ((List UInt8))) (H : Vv p1 p5 = some r) :
  Calls Tryz.prog 72 #[(.slice A2 (List.length p1) c3), (.int .i64 p5)] w0 (fun e w' => e = .returned (.string ⟨List.toArray r⟩) ∧ SP [] w0 w' []) := by
 unfold Vv at H
 refine Ql (n := 13) Tryz.func72 K K K ?_
 have a := Qy [] w0
 refine aQ ?_
 refine aR ?_
 refine iR 1 1 [(4, (.string ⟨List.toArray ([] : List UInt8)⟩))] ?_
 refine iF ?_
 refine aQ ?_
 refine aQ ?_
 refine aR ?_
 refine iR 4 4 [(5, (.int .i64 p5)), (6, (.slice A2 (List.length p1) c3)), (7, (.int .i64 ((List.length p1 : Nat) : Int))), (8, (.bool (decide (p5 ≥ ((List.length p1 : Nat) : Int)))))] ?_
 refine iF ?_
 refine Vm K (o := (.tmp 8)) K (b := (decide (p5 ≥ ((List.length p1 : Nat) : Int)))) K (fun f => ?_) (fun f => ?_)
 ·have H := ct H f
  refine aQ ?_
  refine aR ?_
  refine iR 1 1 [(4, (.string ⟨List.toArray ([] : List UInt8)⟩))] ?_
  refine iF ?_
  refine At.ret K ?_
  refine ⟨(.string ⟨List.toArray ([] : List UInt8)⟩), K, ?_⟩
  obtain rfl := Qb H
  exact ⟨rfl, SP.sel a [] rfl rfl⟩
 ·have H := cf H f
  refine At.skip K ?_
  refine aQ ?_
  refine aR ?_
  refine iR 2 2 [(9, (.slice A2 (List.length p1) c3)), (10, (.int .i64 p5))] ?_
  obtain ⟨x7, h, i, m, H⟩ := Vf H
  refine iS 3 ?_
  refine Z6 (e := Qn) (l := p1) (A := A2) (c := c3) (T := 79) (E := 9) (x := (.tmp 9)) (ix := (.tmp 10)) (ki := .i64) (iz := p5) (d := (some 11)) (k := 2) K rfl K K K K (RdT.sp g a) h i ?_
  intro p q s t hc13
  refine iS 4 ?_
  refine sC 9 11 p (q + Int.toNat p5 * Qn.sz) (.string ⟨List.toArray x7⟩) 12 (J3 (e := Qn) (Yr (RdT.sp g a) s h i) m (j := 0) rfl) ?_
  refine iR 1 5 [(4, (.string ⟨List.toArray x7⟩))] ?_
  refine iF ?_
  refine At.ret K ?_
  refine ⟨(.string ⟨List.toArray x7⟩), K, ?_⟩
  obtain rfl := Qb H
  exact ⟨rfl, SP.sel a [] rfl rfl⟩
def Jd (a : Int) (b : Int) (c : Int) (d : (List UInt8)) (e : Int) (f : (List UInt8)) (g : (List UInt8)) (h : (List UInt8)) (i : Bool) : Option (Int × Int × Int × (List UInt8) × Int × (List UInt8) × (List UInt8) × (List UInt8) × Bool) :=
  (cond (!i) (some (0, 0, 0, ([] : List UInt8), 0, ([] : List UInt8), ([] : List UInt8), ([] : List UInt8), false)) (some (a, b, c, d, e, f, g, h, true)))
def Q2 (a : (Int × Bool)) (b : ((List UInt8) × Bool)) (c : Bool) : Option (Int × Int × Int × (List UInt8) × Int × (List UInt8) × (List UInt8) × (List UInt8) × Bool) :=
  (Jd 1 0 a.1 ([] : List UInt8) 0 ([] : List UInt8) ([] : List UInt8) b.1 c)
def Je (a : Int) (b : Int) (c : (List UInt8)) (d : Int) (e : (List UInt8)) (f : (List UInt8)) (g : (List UInt8)) (h : Bool) : Option (Int × Int × Int × (List UInt8) × Int × (List UInt8) × (List UInt8) × (List UInt8) × Bool) :=
  (Jd a b 0 c d e f g h)
def Qp (a : (Int × Bool)) (b : ((List UInt8) × Bool)) (c : ((List UInt8) × Bool)) (d : Bool) : Option (Int × Int × Int × (List UInt8) × Int × (List UInt8) × (List UInt8) × (List UInt8) × Bool) :=
  (Je 2 a.1 b.1 0 ([] : List UInt8) ([] : List UInt8) c.1 d)
def Jf (a : Int) (b : Int) (c : Int) (d : (List UInt8)) (e : (List UInt8)) (f : (List UInt8)) (g : Bool) : Option (Int × Int × Int × (List UInt8) × Int × (List UInt8) × (List UInt8) × (List UInt8) × Bool) :=
  (Je a b ([] : List UInt8) c d e f g)
def Q3 (a : (Int × Bool)) (b : (Int × Bool)) (c : Bool) : Option (Int × Int × Int × (List UInt8) × Int × (List UInt8) × (List UInt8) × (List UInt8) × Bool) :=
  (Jf 3 a.1 b.1 ([] : List UInt8) ([] : List UInt8) ([] : List UInt8) c)
def Jg (a : Int) (b : Int) (c : Int) (d : (List UInt8)) (e : (List UInt8)) (f : (List UInt8)) (g : Bool) : Option (Int × Int × Int × (List UInt8) × Int × (List UInt8) × (List UInt8) × (List UInt8) × Bool) :=
  (Jf a b c d e f g)
def Q4 (a : (Int × Bool)) (b : ((List UInt8) × Bool)) (c : Bool) : Option (Int × Int × Int × (List UInt8) × Int × (List UInt8) × (List UInt8) × (List UInt8) × Bool) :=
  (Jg 4 a.1 0 ([] : List UInt8) ([] : List UInt8) b.1 c)
def Jh (a : Int) (b : Int) (c : Int) (d : (List UInt8)) (e : (List UInt8)) (f : Bool) : Option (Int × Int × Int × (List UInt8) × Int × (List UInt8) × (List UInt8) × (List UInt8) × Bool) :=
  (Jg a b c d e ([] : List UInt8) f)
def V2 (a : (Int × Bool)) (b : Bool) : Option (Int × Int × Int × (List UInt8) × Int × (List UInt8) × (List UInt8) × (List UInt8) × Bool) :=
  (Jh 5 a.1 0 ([] : List UInt8) ([] : List UInt8) b)
def Y4 (a : Int) (b : Int) (c : (List UInt8)) (d : (List UInt8)) (e : Bool) : Option (Int × Int × Int × (List UInt8) × Int × (List UInt8) × (List UInt8) × (List UInt8) × Bool) :=
  (Jh a 0 b c d e)
def Vq (a : (Int × Bool)) (b : Bool) : Option (Int × Int × Int × (List UInt8) × Int × (List UInt8) × (List UInt8) × (List UInt8) × Bool) :=
  (Y4 6 a.1 ([] : List UInt8) ([] : List UInt8) b)
def Y5 (a : Int) (b : (List UInt8)) (c : (List UInt8)) (d : Bool) : Option (Int × Int × Int × (List UInt8) × Int × (List UInt8) × (List UInt8) × (List UInt8) × Bool) :=
  (Y4 a 0 b c d)
def Qx (a : ((List UInt8))) (b : ((List UInt8))) (c : Bool) : Option (Int × Int × Int × (List UInt8) × Int × (List UInt8) × (List UInt8) × (List UInt8) × Bool) :=
  (Y5 7 a b c)
def Y6 (a : Int) (b : (List UInt8)) (c : Bool) : Option (Int × Int × Int × (List UInt8) × Int × (List UInt8) × (List UInt8) × (List UInt8) × Bool) :=
  (Y5 a b ([] : List UInt8) c)
def Vr (a : ((List UInt8))) (b : Bool) : Option (Int × Int × Int × (List UInt8) × Int × (List UInt8) × (List UInt8) × (List UInt8) × Bool) :=
  (Y6 8 a b)
def X2 (a : Int) (b : Bool) : Option (Int × Int × Int × (List UInt8) × Int × (List UInt8) × (List UInt8) × (List UInt8) × Bool) :=
  (Y6 a ([] : List UInt8) b)
def Ud (p1 : (List UInt8)) : Option (Int × Int × Int × (List UInt8) × Int × (List UInt8) × (List UInt8) × (List UInt8) × Bool) :=
  ((Uc p1).bind fun z6 => ((Vv z6 1).bind fun j => ((Zo j).bind fun a => ((Vv z6 2).bind fun k => ((Zo k).bind fun e => ((Vv z6 1).bind fun l => ((Uu l).bind fun f => ((Vv z6 2).bind fun m => ((Xb m).bind fun b => ((Vv z6 3).bind fun n => ((Xb n).bind fun d => ((idx z6 0).bind fun c => (cond (c == ([99, 111, 110, 110, 101, 99, 116] : List UInt8)) (cond f.2 (cond b.2 (Q2 f b (((List.length z6 : Nat) : Int) == 3)) (Q2 f b false)) (Q2 f b false)) (cond (c == ([98, 121, 116, 101, 115] : List UInt8)) (cond a.2 (cond b.2 (cond d.2 (Qp a b d (((List.length z6 : Nat) : Int) == 4)) (Qp a b d false)) (Qp a b d false)) (Qp a b d false)) (cond (c == ([98, 117, 100, 103, 101, 116] : List UInt8)) (cond a.2 (cond e.2 (Q3 a e (((List.length z6 : Nat) : Int) == 3)) (Q3 a e false)) (Q3 a e false)) (cond (c == ([104, 97, 108, 102] : List UInt8)) (cond a.2 (cond b.2 (Q4 a b (((List.length z6 : Nat) : Int) == 3)) (Q4 a b false)) (Q4 a b false)) (cond (c == ([114, 101, 115, 101, 116] : List UInt8)) (cond a.2 (V2 a (((List.length z6 : Nat) : Int) == 2)) (V2 a false)) (cond (c == ([116, 105, 99, 107] : List UInt8)) (cond a.2 (Vq a (((List.length z6 : Nat) : Int) == 2)) (Vq a false)) (cond (c == ([114, 101, 118, 111, 107, 101] : List UInt8)) ((Vv z6 1).bind fun g => ((Vv z6 2).bind fun h => ((Zh g).bind fun o => (cond o ((Zh h).bind fun p => (cond p (Qx g h (((List.length z6 : Nat) : Int) == 3)) (Qx g h false))) (Qx g h false))))) (cond (c == ([101, 118, 105, 99, 116] : List UInt8)) ((Vv z6 1).bind fun i => ((Zh i).bind fun q => (cond q (Vr i (((List.length z6 : Nat) : Int) == 2)) (Vr i false)))) (cond (c == ([100, 114, 97, 105, 110] : List UInt8)) (X2 9 (((List.length z6 : Nat) : Int) == 1)) (X2 0 false))))))))))))))))))))))
set_option maxHeartbeats 40000000 in
theorem Bi  (p1 : (List UInt8)) (w0 : World)  (r : (Int × Int × Int × (List UInt8) × Int × (List UInt8) × (List UInt8) × (List UInt8) × Bool)) (H : Ud p1 = some r) :
  Calls Tryz.prog 32 #[(.string ⟨List.toArray p1⟩)] w0 (fun e w' => e = .returned (.tuple #[(.agg #[(.int .i64 r.1), (.int .i64 r.2.1), (.int .u32 r.2.2.1), (.string ⟨List.toArray r.2.2.2.1⟩), (.int .i64 r.2.2.2.2.1), (.string ⟨List.toArray r.2.2.2.2.2.1⟩), (.string ⟨List.toArray r.2.2.2.2.2.2.1⟩), (.string ⟨List.toArray r.2.2.2.2.2.2.2.1⟩)]), (.bool r.2.2.2.2.2.2.2.2)]) ∧ SP [] w0 w' []) := by
 unfold Ud at H
 refine Ql (n := 175) Tryz.func32 K K K ?_
 have o0 := Qy [] w0
 refine aQ ?_
 refine aR ?_
 refine iS 1 ?_
 refine Qh.alloc (t := 52) (z := (.agg #[(.int .i64 0), (.int .i64 0), (.int .u32 0), (.string ⟨List.toArray ([] : List UInt8)⟩), (.int .i64 0), (.string ⟨List.toArray ([] : List UInt8)⟩), (.string ⟨List.toArray ([] : List UInt8)⟩), (.string ⟨List.toArray ([] : List UInt8)⟩)])) (d := (some 2)) (k := 0) K rfl K o0 ?_
 intro g2 w3 o1
 refine iR 1 2 [(3, (.bool false))] ?_
 refine iF ?_
 refine aQ ?_
 refine aR ?_
 refine iR 1 1 [(17, (.string ⟨List.toArray p1⟩))] ?_
 obtain ⟨z6, o2, H⟩ := Qa H
 refine iS 2 ?_
 refine cF 70 #[(.tmp 17)] #[9] 18 Tryz.call70 (Ra  p1 w3  z6 o2) ?_
 rintro e w8 ⟨q, s, rfl, k1⟩
 refine ⟨_, rfl, ?_⟩
 have o3 := SP.call o1 k1
 clear k1
 refine iR 1 3 [(4, (.slice q (List.length z6) s))] ?_
 refine iF ?_
 refine aQ ?_
 refine aR ?_
 refine iS 1 ?_
 refine Qh.alloc (t := 52) (z := (.agg #[(.int .i64 0), (.int .i64 0), (.int .u32 0), (.string ⟨List.toArray ([] : List UInt8)⟩), (.int .i64 0), (.string ⟨List.toArray ([] : List UInt8)⟩), (.string ⟨List.toArray ([] : List UInt8)⟩), (.string ⟨List.toArray ([] : List UInt8)⟩)])) (d := (some 5)) (k := 0) K rfl K o3 ?_
 intro f o4 k2
 refine iF ?_
 refine aQ ?_
 refine aR ?_
 refine iR 1 1 [(20, (.slice q (List.length z6) s))] ?_
 obtain ⟨k3, o5, H⟩ := Qa H
 refine iS 2 ?_
 refine cF 72 #[(.tmp 20), (.const (.int .i64 (1)))] #[79, 3] 21 Tryz.call72 (Vp q s z6 1 o4 (Q9 (SP.get k2 (i := 1) rfl)) k3 o5) ?_
 rintro e o6 ⟨rfl, k4⟩
 refine ⟨_, rfl, ?_⟩
 have o7 := SP.call k2 k4
 clear k4
 obtain ⟨h, o8, H⟩ := Qa H
 refine iS 3 ?_
 refine cF 71 #[(.tmp 21)] #[9] 22 Tryz.call71 (Z4  k3 o6  h o8) ?_
 rintro e o9 ⟨rfl, k5⟩
 refine ⟨_, rfl, ?_⟩
 have k6 := SP.call o7 k5
 clear k5
 refine iR 5 8 [(19, (.tuple #[(.int .i64 h.1), (.bool h.2)])), (23, (.int .i64 h.1)), (24, (.bool h.2)), (6, (.int .i64 h.1)), (7, (.bool h.2))] ?_
 refine iF ?_
 refine aQ ?_
 refine aR ?_
 refine iR 1 1 [(26, (.slice q (List.length z6) s))] ?_
 obtain ⟨k7, p0, H⟩ := Qa H
 refine iS 2 ?_
 refine cF 72 #[(.tmp 26), (.const (.int .i64 (2)))] #[79, 3] 27 Tryz.call72 (Vp q s z6 2 o9 (Q9 (SP.get k6 (i := 1) rfl)) k7 p0) ?_
 rintro e w32 ⟨rfl, k8⟩
 refine ⟨_, rfl, ?_⟩
 have p2 := SP.call k6 k8
 clear k8
 obtain ⟨u, p3, H⟩ := Qa H
 refine iS 3 ?_
 refine cF 71 #[(.tmp 27)] #[9] 28 Tryz.call71 (Z4  k7 w32  u p3) ?_
 rintro e p4 ⟨rfl, k9⟩
 refine ⟨_, rfl, ?_⟩
 have l0 := SP.call p2 k9
 clear k9
 refine iR 5 8 [(25, (.tuple #[(.int .i64 u.1), (.bool u.2)])), (29, (.int .i64 u.1)), (30, (.bool u.2)), (8, (.int .i64 u.1)), (9, (.bool u.2))] ?_
 refine iF ?_
 refine aQ ?_
 refine aR ?_
 refine iR 1 1 [(32, (.slice q (List.length z6) s))] ?_
 obtain ⟨l1, p5, H⟩ := Qa H
 refine iS 2 ?_
 refine cF 72 #[(.tmp 32), (.const (.int .i64 (1)))] #[79, 3] 33 Tryz.call72 (Vp q s z6 1 p4 (Q9 (SP.get l0 (i := 1) rfl)) l1 p5) ?_
 rintro e p6 ⟨rfl, l2⟩
 refine ⟨_, rfl, ?_⟩
 have p7 := SP.call l0 l2
 clear l2
 obtain ⟨a1, p8, H⟩ := Qa H
 refine iS 3 ?_
 refine cF 73 #[(.tmp 33)] #[9] 34 Tryz.call73 (Bx  l1 p6  a1 p8) ?_
 rintro e p9 ⟨rfl, l3⟩
 refine ⟨_, rfl, ?_⟩
 have l4 := SP.call p7 l3
 clear l3
 refine iR 5 8 [(31, (.tuple #[(.int .u32 a1.1), (.bool a1.2)])), (35, (.int .u32 a1.1)), (36, (.bool a1.2)), (10, (.int .u32 a1.1)), (11, (.bool a1.2))] ?_
 refine iF ?_
 refine aQ ?_
 refine aR ?_
 refine iR 1 1 [(38, (.slice q (List.length z6) s))] ?_
 obtain ⟨l5, q0, H⟩ := Qa H
 refine iS 2 ?_
 refine cF 72 #[(.tmp 38), (.const (.int .i64 (2)))] #[79, 3] 39 Tryz.call72 (Vp q s z6 2 p9 (Q9 (SP.get l4 (i := 1) rfl)) l5 q0) ?_
 rintro e q1 ⟨rfl, l6⟩
 refine ⟨_, rfl, ?_⟩
 have q2 := SP.call l4 l6
 clear l6
 obtain ⟨m, q3, H⟩ := Qa H
 refine iS 3 ?_
 refine cF 74 #[(.tmp 39)] #[9] 40 Tryz.call74 (Uk  l5 q1  m q3) ?_
 rintro e q4 ⟨rfl, l7⟩
 refine ⟨_, rfl, ?_⟩
 have l8 := SP.call q2 l7
 clear l7
 refine iR 5 8 [(37, (.tuple #[(.string ⟨List.toArray m.1⟩), (.bool m.2)])), (41, (.string ⟨List.toArray m.1⟩)), (42, (.bool m.2)), (12, (.string ⟨List.toArray m.1⟩)), (13, (.bool m.2))] ?_
 refine iF ?_
 refine aQ ?_
 refine aR ?_
 refine iR 1 1 [(44, (.slice q (List.length z6) s))] ?_
 obtain ⟨l9, q5, H⟩ := Qa H
 refine iS 2 ?_
 refine cF 72 #[(.tmp 44), (.const (.int .i64 (3)))] #[79, 3] 45 Tryz.call72 (Vp q s z6 3 q4 (Q9 (SP.get l8 (i := 1) rfl)) l9 q5) ?_
 rintro e q6 ⟨rfl, m0⟩
 refine ⟨_, rfl, ?_⟩
 have q7 := SP.call l8 m0
 clear m0
 obtain ⟨a0, q8, H⟩ := Qa H
 refine iS 3 ?_
 refine cF 74 #[(.tmp 45)] #[9] 46 Tryz.call74 (Uk  l9 q6  a0 q8) ?_
 rintro e m1 ⟨rfl, m2⟩
 refine ⟨_, rfl, ?_⟩
 have a2 := SP.call q7 m2
 clear m2
 refine iR 5 8 [(43, (.tuple #[(.string ⟨List.toArray a0.1⟩), (.bool a0.2)])), (47, (.string ⟨List.toArray a0.1⟩)), (48, (.bool a0.2)), (14, (.string ⟨List.toArray a0.1⟩)), (15, (.bool a0.2))] ?_
 refine iF ?_
 refine aQ ?_
 refine aR ?_
 refine iR 1 1 [(16, (.bool false))] ?_
 refine iF ?_
 refine aQ ?_
 refine aQ ?_
 refine aR ?_
 refine iR 1 1 [(49, (.slice q (List.length z6) s))] ?_
 obtain ⟨p, m3, m4, q9, H⟩ := Vf H
 refine iS 2 ?_
 refine Z6 (e := Qn) (l := z6) (A := q) (c := s) (T := 79) (E := 9) (x := (.tmp 49)) (ix := (.const (.int .i64 (0)))) (ki := .i64) (iz := 0) (d := (some 50)) (k := 1) K rfl K K K K (Q9 (SP.get a2 (i := 1) rfl)) m3 m4 ?_
 intro r0 r1 r2 u2 hc84
 refine iS 3 ?_
 refine sC 9 50 r0 (r1 + Int.toNat 0 * Qn.sz) (.string ⟨List.toArray p⟩) 51 (J3 (e := Qn) (Yr (Q9 (SP.get a2 (i := 1) rfl)) r2 m3 m4) q9 (j := 0) rfl) ?_
 refine iF ?_
 refine J2 K (id := 0) K ?_
 refine aQ ?_
 refine aR ?_
 refine iS 1 ?_
 refine Qu (op := .eql) (T := 9) (T' := 9) (x := (.tmp 51)) (y := (.const (.string ⟨List.toArray ([99, 111, 110, 110, 101, 99, 116] : List UInt8)⟩))) (a := p) (b := ([99, 111, 110, 110, 101, 99, 116] : List UInt8)) (r := (.bool (p == ([99, 111, 110, 110, 101, 99, 116] : List UInt8)))) (d := (some 53)) (k := 0) K rfl K K rfl ?_
 refine iR 1 2 [(52, (.bool (p == ([99, 111, 110, 110, 101, 99, 116] : List UInt8))))] ?_
 refine iF ?_
 refine At.join (fun ρ w => ∃ (a7 : Int) (a8 : Int) (a9 : Int) (b0 : (List UInt8)) (b1 : Int) (b2 : (List UInt8)) (b3 : (List UInt8)) (b4 : (List UInt8)) (a6 : Bool), Q7 ρ [(2, (pt g2 0)), (5, (pt f 0)), (16, (.bool a6))] ∧ SP [] w0 w [Qk g2 52 #[(.int .i64 0), (.int .i64 0), (.int .u32 0), (.string ⟨List.toArray ([] : List UInt8)⟩), (.int .i64 0), (.string ⟨List.toArray ([] : List UInt8)⟩), (.string ⟨List.toArray ([] : List UInt8)⟩), (.string ⟨List.toArray ([] : List UInt8)⟩)], Qk f 52 #[(.int .i64 a7), (.int .i64 a8), (.int .u32 a9), (.string ⟨List.toArray b0⟩), (.int .i64 b1), (.string ⟨List.toArray b2⟩), (.string ⟨List.toArray b3⟩), (.string ⟨List.toArray b4⟩)]] ∧ Jd a7 a8 a9 b0 b1 b2 b3 b4 a6 = some r) ?_ ?_
 ·refine Vm K (o := (.tmp 52)) K (b := (p == ([99, 111, 110, 110, 101, 99, 116] : List UInt8))) K (fun g8 => ?_) (fun g8 => ?_)
  ·have H := ct H g8
   refine aQ ?_
   refine aR ?_
   refine iR 3 3 [(54, (.int .u32 a1.1)), (55, (.string ⟨List.toArray m.1⟩)), (56, (.agg #[(.int .i64 1), (.int .i64 0), (.int .u32 a1.1), (.string ⟨List.toArray ([] : List UInt8)⟩), (.int .i64 0), (.string ⟨List.toArray ([] : List UInt8)⟩), (.string ⟨List.toArray ([] : List UInt8)⟩), (.string ⟨List.toArray m.1⟩)]))] ?_
   refine iS 4 ?_
   refine Qh.store (t := 52) (x := (.tmp 5)) (y := (.tmp 56)) (g := f) (off := 0) (i := 2) (v := (.agg #[(.int .i64 1), (.int .i64 0), (.int .u32 a1.1), (.string ⟨List.toArray ([] : List UInt8)⟩), (.int .i64 0), (.string ⟨List.toArray ([] : List UInt8)⟩), (.string ⟨List.toArray ([] : List UInt8)⟩), (.string ⟨List.toArray m.1⟩)])) (cs' := #[(.int .i64 1), (.int .i64 0), (.int .u32 a1.1), (.string ⟨List.toArray ([] : List UInt8)⟩), (.int .i64 0), (.string ⟨List.toArray ([] : List UInt8)⟩), (.string ⟨List.toArray ([] : List UInt8)⟩), (.string ⟨List.toArray m.1⟩)]) (d := none) (k := 3) K rfl K K a2 rfl K ?_
   intro u3 g9
   refine iF ?_
   refine At.join (fun ρ w => ∃ (b5 : Bool), Q7 ρ [(2, (pt g2 0)), (5, (pt f 0)), (16, (.bool b5))] ∧ SP [] w0 w [Qk g2 52 #[(.int .i64 0), (.int .i64 0), (.int .u32 0), (.string ⟨List.toArray ([] : List UInt8)⟩), (.int .i64 0), (.string ⟨List.toArray ([] : List UInt8)⟩), (.string ⟨List.toArray ([] : List UInt8)⟩), (.string ⟨List.toArray ([] : List UInt8)⟩)], Qk f 52 #[(.int .i64 1), (.int .i64 0), (.int .u32 a1.1), (.string ⟨List.toArray ([] : List UInt8)⟩), (.int .i64 0), (.string ⟨List.toArray ([] : List UInt8)⟩), (.string ⟨List.toArray ([] : List UInt8)⟩), (.string ⟨List.toArray m.1⟩)]] ∧ Q2 a1 m b5 = some r) ?_ ?_
   ·refine aR ?_
    refine iR 2 2 [(57, (.bool a1.2)), (58, (.bool a1.2))] ?_
    refine In.guard (t := 58) (b := a1.2) K (fun h1 => ?_) (fun h1 => ?_)
    ·have H := ct H h1
     refine iR 3 5 [(59, (.bool m.2)), (60, (.bool m.2)), (61, (.bool m.2))] ?_
     refine In.guard (t := 61) (b := m.2) K (fun h2 => ?_) (fun h2 => ?_)
     ·have H := ct H h2
      refine iR 5 10 [(62, (.slice q (List.length z6) s)), (63, (.int .i64 ((List.length z6 : Nat) : Int))), (64, (.bool (((List.length z6 : Nat) : Int) == 3))), (65, (.bool (((List.length z6 : Nat) : Int) == 3))), (16, (.bool (((List.length z6 : Nat) : Int) == 3)))] ?_
      refine iF ?_
      exact ⟨(((List.length z6 : Nat) : Int) == 3), ⟨K, K, K, trivial⟩, SP.sel g9 [0, 2] rfl rfl, H⟩
     ·have H := cf H h2
      refine iR 5 10 [(62, undef), (63, undef), (64, undef), (65, (.bool false)), (16, (.bool false))] ?_
      refine iF ?_
      exact ⟨false, ⟨K, K, K, trivial⟩, SP.sel g9 [0, 2] rfl rfl, H⟩
    ·have H := cf H h1
     refine iR 8 10 [(59, undef), (60, (.bool false)), (61, (.bool false)), (62, undef), (63, undef), (64, undef), (65, (.bool false)), (16, (.bool false))] ?_
     refine iF ?_
     exact ⟨false, ⟨K, K, K, trivial⟩, SP.sel g9 [0, 2] rfl rfl, H⟩
   ·rintro ρ u4 ⟨b5, hk, r3, H⟩
    unfold Q2 at H
    first | refine At.known [(2, (pt g2 0)), (5, (pt f 0)), (16, (.bool b5))] hk ?_ | rw [← Qc (l := [(2, (pt g2 0)), (5, (pt f 0)), (16, (.bool b5))]) hk]
    exact ⟨1, 0, a1.1, ([] : List UInt8), 0, ([] : List UInt8), ([] : List UInt8), m.1, b5, ⟨K, K, K, trivial⟩, SP.sel r3 [0, 1] rfl rfl, H⟩
  ·have H := cf H g8
   refine aQ ?_
   refine aR ?_
   refine iS 1 ?_
   refine Qu (op := .eql) (T := 9) (T' := 9) (x := (.tmp 51)) (y := (.const (.string ⟨List.toArray ([98, 121, 116, 101, 115] : List UInt8)⟩))) (a := p) (b := ([98, 121, 116, 101, 115] : List UInt8)) (r := (.bool (p == ([98, 121, 116, 101, 115] : List UInt8)))) (d := (some 67)) (k := 0) K rfl K K rfl ?_
   refine iR 1 2 [(66, (.bool (p == ([98, 121, 116, 101, 115] : List UInt8))))] ?_
   refine iF ?_
   refine At.join (fun ρ w => ∃ (d1 : Int) (d2 : Int) (d3 : (List UInt8)) (d4 : Int) (d5 : (List UInt8)) (d6 : (List UInt8)) (d7 : (List UInt8)) (b6 : Bool), Q7 ρ [(2, (pt g2 0)), (5, (pt f 0)), (16, (.bool b6))] ∧ SP [] w0 w [Qk g2 52 #[(.int .i64 0), (.int .i64 0), (.int .u32 0), (.string ⟨List.toArray ([] : List UInt8)⟩), (.int .i64 0), (.string ⟨List.toArray ([] : List UInt8)⟩), (.string ⟨List.toArray ([] : List UInt8)⟩), (.string ⟨List.toArray ([] : List UInt8)⟩)], Qk f 52 #[(.int .i64 d1), (.int .i64 d2), (.int .u32 0), (.string ⟨List.toArray d3⟩), (.int .i64 d4), (.string ⟨List.toArray d5⟩), (.string ⟨List.toArray d6⟩), (.string ⟨List.toArray d7⟩)]] ∧ Je d1 d2 d3 d4 d5 d6 d7 b6 = some r) ?_ ?_
   ·refine Vm K (o := (.tmp 66)) K (b := (p == ([98, 121, 116, 101, 115] : List UInt8))) K (fun h3 => ?_) (fun h3 => ?_)
    ·have H := ct H h3
     refine aQ ?_
     refine aR ?_
     refine iR 4 4 [(68, (.int .i64 h.1)), (69, (.string ⟨List.toArray m.1⟩)), (70, (.string ⟨List.toArray a0.1⟩)), (71, (.agg #[(.int .i64 2), (.int .i64 h.1), (.int .u32 0), (.string ⟨List.toArray m.1⟩), (.int .i64 0), (.string ⟨List.toArray ([] : List UInt8)⟩), (.string ⟨List.toArray ([] : List UInt8)⟩), (.string ⟨List.toArray a0.1⟩)]))] ?_
     refine iS 5 ?_
     refine Qh.store (t := 52) (x := (.tmp 5)) (y := (.tmp 71)) (g := f) (off := 0) (i := 2) (v := (.agg #[(.int .i64 2), (.int .i64 h.1), (.int .u32 0), (.string ⟨List.toArray m.1⟩), (.int .i64 0), (.string ⟨List.toArray ([] : List UInt8)⟩), (.string ⟨List.toArray ([] : List UInt8)⟩), (.string ⟨List.toArray a0.1⟩)])) (cs' := #[(.int .i64 2), (.int .i64 h.1), (.int .u32 0), (.string ⟨List.toArray m.1⟩), (.int .i64 0), (.string ⟨List.toArray ([] : List UInt8)⟩), (.string ⟨List.toArray ([] : List UInt8)⟩), (.string ⟨List.toArray a0.1⟩)]) (d := none) (k := 4) K rfl K K a2 rfl K ?_
     intro u5 d8
     refine iF ?_
     refine At.join (fun ρ w => ∃ (b7 : Bool), Q7 ρ [(2, (pt g2 0)), (5, (pt f 0)), (16, (.bool b7))] ∧ SP [] w0 w [Qk g2 52 #[(.int .i64 0), (.int .i64 0), (.int .u32 0), (.string ⟨List.toArray ([] : List UInt8)⟩), (.int .i64 0), (.string ⟨List.toArray ([] : List UInt8)⟩), (.string ⟨List.toArray ([] : List UInt8)⟩), (.string ⟨List.toArray ([] : List UInt8)⟩)], Qk f 52 #[(.int .i64 2), (.int .i64 h.1), (.int .u32 0), (.string ⟨List.toArray m.1⟩), (.int .i64 0), (.string ⟨List.toArray ([] : List UInt8)⟩), (.string ⟨List.toArray ([] : List UInt8)⟩), (.string ⟨List.toArray a0.1⟩)]] ∧ Qp h m a0 b7 = some r) ?_ ?_
     ·refine aR ?_
      refine iR 2 2 [(72, (.bool h.2)), (73, (.bool h.2))] ?_
      refine In.guard (t := 73) (b := h.2) K (fun h4 => ?_) (fun h4 => ?_)
      ·have H := ct H h4
       refine iR 3 5 [(74, (.bool m.2)), (75, (.bool m.2)), (76, (.bool m.2))] ?_
       refine In.guard (t := 76) (b := m.2) K (fun h5 => ?_) (fun h5 => ?_)
       ·have H := ct H h5
        refine iR 3 8 [(77, (.bool a0.2)), (78, (.bool a0.2)), (79, (.bool a0.2))] ?_
        refine In.guard (t := 79) (b := a0.2) K (fun h6 => ?_) (fun h6 => ?_)
        ·have H := ct H h6
         refine iR 5 13 [(80, (.slice q (List.length z6) s)), (81, (.int .i64 ((List.length z6 : Nat) : Int))), (82, (.bool (((List.length z6 : Nat) : Int) == 4))), (83, (.bool (((List.length z6 : Nat) : Int) == 4))), (16, (.bool (((List.length z6 : Nat) : Int) == 4)))] ?_
         refine iF ?_
         exact ⟨(((List.length z6 : Nat) : Int) == 4), ⟨K, K, K, trivial⟩, SP.sel d8 [0, 2] rfl rfl, H⟩
        ·have H := cf H h6
         refine iR 5 13 [(80, undef), (81, undef), (82, undef), (83, (.bool false)), (16, (.bool false))] ?_
         refine iF ?_
         exact ⟨false, ⟨K, K, K, trivial⟩, SP.sel d8 [0, 2] rfl rfl, H⟩
       ·have H := cf H h5
        refine iR 8 13 [(77, undef), (78, (.bool false)), (79, (.bool false)), (80, undef), (81, undef), (82, undef), (83, (.bool false)), (16, (.bool false))] ?_
        refine iF ?_
        exact ⟨false, ⟨K, K, K, trivial⟩, SP.sel d8 [0, 2] rfl rfl, H⟩
      ·have H := cf H h4
       refine iR 11 13 [(74, undef), (75, (.bool false)), (76, (.bool false)), (77, undef), (78, (.bool false)), (79, (.bool false)), (80, undef), (81, undef), (82, undef), (83, (.bool false)), (16, (.bool false))] ?_
       refine iF ?_
       exact ⟨false, ⟨K, K, K, trivial⟩, SP.sel d8 [0, 2] rfl rfl, H⟩
     ·rintro ρ u6 ⟨b7, hk, r4, H⟩
      unfold Qp at H
      first | refine At.known [(2, (pt g2 0)), (5, (pt f 0)), (16, (.bool b7))] hk ?_ | rw [← Qc (l := [(2, (pt g2 0)), (5, (pt f 0)), (16, (.bool b7))]) hk]
      exact ⟨2, h.1, m.1, 0, ([] : List UInt8), ([] : List UInt8), a0.1, b7, ⟨K, K, K, trivial⟩, SP.sel r4 [0, 1] rfl rfl, H⟩
    ·have H := cf H h3
     refine aQ ?_
     refine aR ?_
     refine iS 1 ?_
     refine Qu (op := .eql) (T := 9) (T' := 9) (x := (.tmp 51)) (y := (.const (.string ⟨List.toArray ([98, 117, 100, 103, 101, 116] : List UInt8)⟩))) (a := p) (b := ([98, 117, 100, 103, 101, 116] : List UInt8)) (r := (.bool (p == ([98, 117, 100, 103, 101, 116] : List UInt8)))) (d := (some 85)) (k := 0) K rfl K K rfl ?_
     refine iR 1 2 [(84, (.bool (p == ([98, 117, 100, 103, 101, 116] : List UInt8))))] ?_
     refine iF ?_
     refine At.join (fun ρ w => ∃ (d9 : Int) (e0 : Int) (e1 : Int) (e2 : (List UInt8)) (e3 : (List UInt8)) (e4 : (List UInt8)) (b8 : Bool), Q7 ρ [(2, (pt g2 0)), (5, (pt f 0)), (16, (.bool b8))] ∧ SP [] w0 w [Qk g2 52 #[(.int .i64 0), (.int .i64 0), (.int .u32 0), (.string ⟨List.toArray ([] : List UInt8)⟩), (.int .i64 0), (.string ⟨List.toArray ([] : List UInt8)⟩), (.string ⟨List.toArray ([] : List UInt8)⟩), (.string ⟨List.toArray ([] : List UInt8)⟩)], Qk f 52 #[(.int .i64 d9), (.int .i64 e0), (.int .u32 0), (.string ⟨List.toArray ([] : List UInt8)⟩), (.int .i64 e1), (.string ⟨List.toArray e2⟩), (.string ⟨List.toArray e3⟩), (.string ⟨List.toArray e4⟩)]] ∧ Jf d9 e0 e1 e2 e3 e4 b8 = some r) ?_ ?_
     ·refine Vm K (o := (.tmp 84)) K (b := (p == ([98, 117, 100, 103, 101, 116] : List UInt8))) K (fun h7 => ?_) (fun h7 => ?_)
      ·have H := ct H h7
       refine aQ ?_
       refine aR ?_
       refine iR 3 3 [(86, (.int .i64 h.1)), (87, (.int .i64 u.1)), (88, (.agg #[(.int .i64 3), (.int .i64 h.1), (.int .u32 0), (.string ⟨List.toArray ([] : List UInt8)⟩), (.int .i64 u.1), (.string ⟨List.toArray ([] : List UInt8)⟩), (.string ⟨List.toArray ([] : List UInt8)⟩), (.string ⟨List.toArray ([] : List UInt8)⟩)]))] ?_
       refine iS 4 ?_
       refine Qh.store (t := 52) (x := (.tmp 5)) (y := (.tmp 88)) (g := f) (off := 0) (i := 2) (v := (.agg #[(.int .i64 3), (.int .i64 h.1), (.int .u32 0), (.string ⟨List.toArray ([] : List UInt8)⟩), (.int .i64 u.1), (.string ⟨List.toArray ([] : List UInt8)⟩), (.string ⟨List.toArray ([] : List UInt8)⟩), (.string ⟨List.toArray ([] : List UInt8)⟩)])) (cs' := #[(.int .i64 3), (.int .i64 h.1), (.int .u32 0), (.string ⟨List.toArray ([] : List UInt8)⟩), (.int .i64 u.1), (.string ⟨List.toArray ([] : List UInt8)⟩), (.string ⟨List.toArray ([] : List UInt8)⟩), (.string ⟨List.toArray ([] : List UInt8)⟩)]) (d := none) (k := 3) K rfl K K a2 rfl K ?_
       intro u7 h8
       refine iF ?_
       refine At.join (fun ρ w => ∃ (b9 : Bool), Q7 ρ [(2, (pt g2 0)), (5, (pt f 0)), (16, (.bool b9))] ∧ SP [] w0 w [Qk g2 52 #[(.int .i64 0), (.int .i64 0), (.int .u32 0), (.string ⟨List.toArray ([] : List UInt8)⟩), (.int .i64 0), (.string ⟨List.toArray ([] : List UInt8)⟩), (.string ⟨List.toArray ([] : List UInt8)⟩), (.string ⟨List.toArray ([] : List UInt8)⟩)], Qk f 52 #[(.int .i64 3), (.int .i64 h.1), (.int .u32 0), (.string ⟨List.toArray ([] : List UInt8)⟩), (.int .i64 u.1), (.string ⟨List.toArray ([] : List UInt8)⟩), (.string ⟨List.toArray ([] : List UInt8)⟩), (.string ⟨List.toArray ([] : List UInt8)⟩)]] ∧ Q3 h u b9 = some r) ?_ ?_
       ·refine aR ?_
        refine iR 2 2 [(89, (.bool h.2)), (90, (.bool h.2))] ?_
        refine In.guard (t := 90) (b := h.2) K (fun h9 => ?_) (fun h9 => ?_)
        ·have H := ct H h9
         refine iR 3 5 [(91, (.bool u.2)), (92, (.bool u.2)), (93, (.bool u.2))] ?_
         refine In.guard (t := 93) (b := u.2) K (fun i0 => ?_) (fun i0 => ?_)
         ·have H := ct H i0
          refine iR 5 10 [(94, (.slice q (List.length z6) s)), (95, (.int .i64 ((List.length z6 : Nat) : Int))), (96, (.bool (((List.length z6 : Nat) : Int) == 3))), (97, (.bool (((List.length z6 : Nat) : Int) == 3))), (16, (.bool (((List.length z6 : Nat) : Int) == 3)))] ?_
          refine iF ?_
          exact ⟨(((List.length z6 : Nat) : Int) == 3), ⟨K, K, K, trivial⟩, SP.sel h8 [0, 2] rfl rfl, H⟩
         ·have H := cf H i0
          refine iR 5 10 [(94, undef), (95, undef), (96, undef), (97, (.bool false)), (16, (.bool false))] ?_
          refine iF ?_
          exact ⟨false, ⟨K, K, K, trivial⟩, SP.sel h8 [0, 2] rfl rfl, H⟩
        ·have H := cf H h9
         refine iR 8 10 [(91, undef), (92, (.bool false)), (93, (.bool false)), (94, undef), (95, undef), (96, undef), (97, (.bool false)), (16, (.bool false))] ?_
         refine iF ?_
         exact ⟨false, ⟨K, K, K, trivial⟩, SP.sel h8 [0, 2] rfl rfl, H⟩
       ·rintro ρ u8 ⟨b9, hk, r5, H⟩
        unfold Q3 at H
        first | refine At.known [(2, (pt g2 0)), (5, (pt f 0)), (16, (.bool b9))] hk ?_ | rw [← Qc (l := [(2, (pt g2 0)), (5, (pt f 0)), (16, (.bool b9))]) hk]
        exact ⟨3, h.1, u.1, ([] : List UInt8), ([] : List UInt8), ([] : List UInt8), b9, ⟨K, K, K, trivial⟩, SP.sel r5 [0, 1] rfl rfl, H⟩
      ·have H := cf H h7
       refine aQ ?_
       refine aR ?_
       refine iS 1 ?_
       refine Qu (op := .eql) (T := 9) (T' := 9) (x := (.tmp 51)) (y := (.const (.string ⟨List.toArray ([104, 97, 108, 102] : List UInt8)⟩))) (a := p) (b := ([104, 97, 108, 102] : List UInt8)) (r := (.bool (p == ([104, 97, 108, 102] : List UInt8)))) (d := (some 99)) (k := 0) K rfl K K rfl ?_
       refine iR 1 2 [(98, (.bool (p == ([104, 97, 108, 102] : List UInt8))))] ?_
       refine iF ?_
       refine At.join (fun ρ w => ∃ (e5 : Int) (e6 : Int) (e7 : Int) (e8 : (List UInt8)) (e9 : (List UInt8)) (f0 : (List UInt8)) (c0 : Bool), Q7 ρ [(2, (pt g2 0)), (5, (pt f 0)), (16, (.bool c0))] ∧ SP [] w0 w [Qk g2 52 #[(.int .i64 0), (.int .i64 0), (.int .u32 0), (.string ⟨List.toArray ([] : List UInt8)⟩), (.int .i64 0), (.string ⟨List.toArray ([] : List UInt8)⟩), (.string ⟨List.toArray ([] : List UInt8)⟩), (.string ⟨List.toArray ([] : List UInt8)⟩)], Qk f 52 #[(.int .i64 e5), (.int .i64 e6), (.int .u32 0), (.string ⟨List.toArray ([] : List UInt8)⟩), (.int .i64 e7), (.string ⟨List.toArray e8⟩), (.string ⟨List.toArray e9⟩), (.string ⟨List.toArray f0⟩)]] ∧ Jg e5 e6 e7 e8 e9 f0 c0 = some r) ?_ ?_
       ·refine Vm K (o := (.tmp 98)) K (b := (p == ([104, 97, 108, 102] : List UInt8))) K (fun i1 => ?_) (fun i1 => ?_)
        ·have H := ct H i1
         refine aQ ?_
         refine aR ?_
         refine iR 3 3 [(100, (.int .i64 h.1)), (101, (.string ⟨List.toArray m.1⟩)), (102, (.agg #[(.int .i64 4), (.int .i64 h.1), (.int .u32 0), (.string ⟨List.toArray ([] : List UInt8)⟩), (.int .i64 0), (.string ⟨List.toArray ([] : List UInt8)⟩), (.string ⟨List.toArray ([] : List UInt8)⟩), (.string ⟨List.toArray m.1⟩)]))] ?_
         refine iS 4 ?_
         refine Qh.store (t := 52) (x := (.tmp 5)) (y := (.tmp 102)) (g := f) (off := 0) (i := 2) (v := (.agg #[(.int .i64 4), (.int .i64 h.1), (.int .u32 0), (.string ⟨List.toArray ([] : List UInt8)⟩), (.int .i64 0), (.string ⟨List.toArray ([] : List UInt8)⟩), (.string ⟨List.toArray ([] : List UInt8)⟩), (.string ⟨List.toArray m.1⟩)])) (cs' := #[(.int .i64 4), (.int .i64 h.1), (.int .u32 0), (.string ⟨List.toArray ([] : List UInt8)⟩), (.int .i64 0), (.string ⟨List.toArray ([] : List UInt8)⟩), (.string ⟨List.toArray ([] : List UInt8)⟩), (.string ⟨List.toArray m.1⟩)]) (d := none) (k := 3) K rfl K K a2 rfl K ?_
         intro u9 i2
         refine iF ?_
         refine At.join (fun ρ w => ∃ (c1 : Bool), Q7 ρ [(2, (pt g2 0)), (5, (pt f 0)), (16, (.bool c1))] ∧ SP [] w0 w [Qk g2 52 #[(.int .i64 0), (.int .i64 0), (.int .u32 0), (.string ⟨List.toArray ([] : List UInt8)⟩), (.int .i64 0), (.string ⟨List.toArray ([] : List UInt8)⟩), (.string ⟨List.toArray ([] : List UInt8)⟩), (.string ⟨List.toArray ([] : List UInt8)⟩)], Qk f 52 #[(.int .i64 4), (.int .i64 h.1), (.int .u32 0), (.string ⟨List.toArray ([] : List UInt8)⟩), (.int .i64 0), (.string ⟨List.toArray ([] : List UInt8)⟩), (.string ⟨List.toArray ([] : List UInt8)⟩), (.string ⟨List.toArray m.1⟩)]] ∧ Q4 h m c1 = some r) ?_ ?_
         ·refine aR ?_
          refine iR 2 2 [(103, (.bool h.2)), (104, (.bool h.2))] ?_
          refine In.guard (t := 104) (b := h.2) K (fun i3 => ?_) (fun i3 => ?_)
          ·have H := ct H i3
           refine iR 3 5 [(105, (.bool m.2)), (106, (.bool m.2)), (107, (.bool m.2))] ?_
           refine In.guard (t := 107) (b := m.2) K (fun i4 => ?_) (fun i4 => ?_)
           ·have H := ct H i4
            refine iR 5 10 [(108, (.slice q (List.length z6) s)), (109, (.int .i64 ((List.length z6 : Nat) : Int))), (110, (.bool (((List.length z6 : Nat) : Int) == 3))), (111, (.bool (((List.length z6 : Nat) : Int) == 3))), (16, (.bool (((List.length z6 : Nat) : Int) == 3)))] ?_
            refine iF ?_
            exact ⟨(((List.length z6 : Nat) : Int) == 3), ⟨K, K, K, trivial⟩, SP.sel i2 [0, 2] rfl rfl, H⟩
           ·have H := cf H i4
            refine iR 5 10 [(108, undef), (109, undef), (110, undef), (111, (.bool false)), (16, (.bool false))] ?_
            refine iF ?_
            exact ⟨false, ⟨K, K, K, trivial⟩, SP.sel i2 [0, 2] rfl rfl, H⟩
          ·have H := cf H i3
           refine iR 8 10 [(105, undef), (106, (.bool false)), (107, (.bool false)), (108, undef), (109, undef), (110, undef), (111, (.bool false)), (16, (.bool false))] ?_
           refine iF ?_
           exact ⟨false, ⟨K, K, K, trivial⟩, SP.sel i2 [0, 2] rfl rfl, H⟩
         ·rintro ρ v0 ⟨c1, hk, r6, H⟩
          unfold Q4 at H
          first | refine At.known [(2, (pt g2 0)), (5, (pt f 0)), (16, (.bool c1))] hk ?_ | rw [← Qc (l := [(2, (pt g2 0)), (5, (pt f 0)), (16, (.bool c1))]) hk]
          exact ⟨4, h.1, 0, ([] : List UInt8), ([] : List UInt8), m.1, c1, ⟨K, K, K, trivial⟩, SP.sel r6 [0, 1] rfl rfl, H⟩
        ·have H := cf H i1
         refine aQ ?_
         refine aR ?_
         refine iS 1 ?_
         refine Qu (op := .eql) (T := 9) (T' := 9) (x := (.tmp 51)) (y := (.const (.string ⟨List.toArray ([114, 101, 115, 101, 116] : List UInt8)⟩))) (a := p) (b := ([114, 101, 115, 101, 116] : List UInt8)) (r := (.bool (p == ([114, 101, 115, 101, 116] : List UInt8)))) (d := (some 113)) (k := 0) K rfl K K rfl ?_
         refine iR 1 2 [(112, (.bool (p == ([114, 101, 115, 101, 116] : List UInt8))))] ?_
         refine iF ?_
         refine At.join (fun ρ w => ∃ (f1 : Int) (f2 : Int) (f3 : Int) (f4 : (List UInt8)) (f5 : (List UInt8)) (c2 : Bool), Q7 ρ [(2, (pt g2 0)), (5, (pt f 0)), (16, (.bool c2))] ∧ SP [] w0 w [Qk g2 52 #[(.int .i64 0), (.int .i64 0), (.int .u32 0), (.string ⟨List.toArray ([] : List UInt8)⟩), (.int .i64 0), (.string ⟨List.toArray ([] : List UInt8)⟩), (.string ⟨List.toArray ([] : List UInt8)⟩), (.string ⟨List.toArray ([] : List UInt8)⟩)], Qk f 52 #[(.int .i64 f1), (.int .i64 f2), (.int .u32 0), (.string ⟨List.toArray ([] : List UInt8)⟩), (.int .i64 f3), (.string ⟨List.toArray f4⟩), (.string ⟨List.toArray f5⟩), (.string ⟨List.toArray ([] : List UInt8)⟩)]] ∧ Jh f1 f2 f3 f4 f5 c2 = some r) ?_ ?_
         ·refine Vm K (o := (.tmp 112)) K (b := (p == ([114, 101, 115, 101, 116] : List UInt8))) K (fun i5 => ?_) (fun i5 => ?_)
          ·have H := ct H i5
           refine aQ ?_
           refine aR ?_
           refine iR 2 2 [(114, (.int .i64 h.1)), (115, (.agg #[(.int .i64 5), (.int .i64 h.1), (.int .u32 0), (.string ⟨List.toArray ([] : List UInt8)⟩), (.int .i64 0), (.string ⟨List.toArray ([] : List UInt8)⟩), (.string ⟨List.toArray ([] : List UInt8)⟩), (.string ⟨List.toArray ([] : List UInt8)⟩)]))] ?_
           refine iS 3 ?_
           refine Qh.store (t := 52) (x := (.tmp 5)) (y := (.tmp 115)) (g := f) (off := 0) (i := 2) (v := (.agg #[(.int .i64 5), (.int .i64 h.1), (.int .u32 0), (.string ⟨List.toArray ([] : List UInt8)⟩), (.int .i64 0), (.string ⟨List.toArray ([] : List UInt8)⟩), (.string ⟨List.toArray ([] : List UInt8)⟩), (.string ⟨List.toArray ([] : List UInt8)⟩)])) (cs' := #[(.int .i64 5), (.int .i64 h.1), (.int .u32 0), (.string ⟨List.toArray ([] : List UInt8)⟩), (.int .i64 0), (.string ⟨List.toArray ([] : List UInt8)⟩), (.string ⟨List.toArray ([] : List UInt8)⟩), (.string ⟨List.toArray ([] : List UInt8)⟩)]) (d := none) (k := 2) K rfl K K a2 rfl K ?_
           intro v1 m5
           refine iF ?_
           refine At.join (fun ρ w => ∃ (c3 : Bool), Q7 ρ [(2, (pt g2 0)), (5, (pt f 0)), (16, (.bool c3))] ∧ SP [] w0 w [Qk g2 52 #[(.int .i64 0), (.int .i64 0), (.int .u32 0), (.string ⟨List.toArray ([] : List UInt8)⟩), (.int .i64 0), (.string ⟨List.toArray ([] : List UInt8)⟩), (.string ⟨List.toArray ([] : List UInt8)⟩), (.string ⟨List.toArray ([] : List UInt8)⟩)], Qk f 52 #[(.int .i64 5), (.int .i64 h.1), (.int .u32 0), (.string ⟨List.toArray ([] : List UInt8)⟩), (.int .i64 0), (.string ⟨List.toArray ([] : List UInt8)⟩), (.string ⟨List.toArray ([] : List UInt8)⟩), (.string ⟨List.toArray ([] : List UInt8)⟩)]] ∧ V2 h c3 = some r) ?_ ?_
           ·refine aR ?_
            refine iR 2 2 [(116, (.bool h.2)), (117, (.bool h.2))] ?_
            refine In.guard (t := 117) (b := h.2) K (fun i6 => ?_) (fun i6 => ?_)
            ·have H := ct H i6
             refine iR 5 7 [(118, (.slice q (List.length z6) s)), (119, (.int .i64 ((List.length z6 : Nat) : Int))), (120, (.bool (((List.length z6 : Nat) : Int) == 2))), (121, (.bool (((List.length z6 : Nat) : Int) == 2))), (16, (.bool (((List.length z6 : Nat) : Int) == 2)))] ?_
             refine iF ?_
             exact ⟨(((List.length z6 : Nat) : Int) == 2), ⟨K, K, K, trivial⟩, SP.sel m5 [0, 2] rfl rfl, H⟩
            ·have H := cf H i6
             refine iR 5 7 [(118, undef), (119, undef), (120, undef), (121, (.bool false)), (16, (.bool false))] ?_
             refine iF ?_
             exact ⟨false, ⟨K, K, K, trivial⟩, SP.sel m5 [0, 2] rfl rfl, H⟩
           ·rintro ρ v2 ⟨c3, hk, r7, H⟩
            unfold V2 at H
            first | refine At.known [(2, (pt g2 0)), (5, (pt f 0)), (16, (.bool c3))] hk ?_ | rw [← Qc (l := [(2, (pt g2 0)), (5, (pt f 0)), (16, (.bool c3))]) hk]
            exact ⟨5, h.1, 0, ([] : List UInt8), ([] : List UInt8), c3, ⟨K, K, K, trivial⟩, SP.sel r7 [0, 1] rfl rfl, H⟩
          ·have H := cf H i5
           refine aQ ?_
           refine aR ?_
           refine iS 1 ?_
           refine Qu (op := .eql) (T := 9) (T' := 9) (x := (.tmp 51)) (y := (.const (.string ⟨List.toArray ([116, 105, 99, 107] : List UInt8)⟩))) (a := p) (b := ([116, 105, 99, 107] : List UInt8)) (r := (.bool (p == ([116, 105, 99, 107] : List UInt8)))) (d := (some 123)) (k := 0) K rfl K K rfl ?_
           refine iR 1 2 [(122, (.bool (p == ([116, 105, 99, 107] : List UInt8))))] ?_
           refine iF ?_
           refine At.join (fun ρ w => ∃ (f6 : Int) (f7 : Int) (f8 : (List UInt8)) (f9 : (List UInt8)) (c4 : Bool), Q7 ρ [(2, (pt g2 0)), (5, (pt f 0)), (16, (.bool c4))] ∧ SP [] w0 w [Qk g2 52 #[(.int .i64 0), (.int .i64 0), (.int .u32 0), (.string ⟨List.toArray ([] : List UInt8)⟩), (.int .i64 0), (.string ⟨List.toArray ([] : List UInt8)⟩), (.string ⟨List.toArray ([] : List UInt8)⟩), (.string ⟨List.toArray ([] : List UInt8)⟩)], Qk f 52 #[(.int .i64 f6), (.int .i64 0), (.int .u32 0), (.string ⟨List.toArray ([] : List UInt8)⟩), (.int .i64 f7), (.string ⟨List.toArray f8⟩), (.string ⟨List.toArray f9⟩), (.string ⟨List.toArray ([] : List UInt8)⟩)]] ∧ Y4 f6 f7 f8 f9 c4 = some r) ?_ ?_
           ·refine Vm K (o := (.tmp 122)) K (b := (p == ([116, 105, 99, 107] : List UInt8))) K (fun i7 => ?_) (fun i7 => ?_)
            ·have H := ct H i7
             refine aQ ?_
             refine aR ?_
             refine iR 2 2 [(124, (.int .i64 h.1)), (125, (.agg #[(.int .i64 6), (.int .i64 0), (.int .u32 0), (.string ⟨List.toArray ([] : List UInt8)⟩), (.int .i64 h.1), (.string ⟨List.toArray ([] : List UInt8)⟩), (.string ⟨List.toArray ([] : List UInt8)⟩), (.string ⟨List.toArray ([] : List UInt8)⟩)]))] ?_
             refine iS 3 ?_
             refine Qh.store (t := 52) (x := (.tmp 5)) (y := (.tmp 125)) (g := f) (off := 0) (i := 2) (v := (.agg #[(.int .i64 6), (.int .i64 0), (.int .u32 0), (.string ⟨List.toArray ([] : List UInt8)⟩), (.int .i64 h.1), (.string ⟨List.toArray ([] : List UInt8)⟩), (.string ⟨List.toArray ([] : List UInt8)⟩), (.string ⟨List.toArray ([] : List UInt8)⟩)])) (cs' := #[(.int .i64 6), (.int .i64 0), (.int .u32 0), (.string ⟨List.toArray ([] : List UInt8)⟩), (.int .i64 h.1), (.string ⟨List.toArray ([] : List UInt8)⟩), (.string ⟨List.toArray ([] : List UInt8)⟩), (.string ⟨List.toArray ([] : List UInt8)⟩)]) (d := none) (k := 2) K rfl K K a2 rfl K ?_
             intro v3 m6
             refine iF ?_
             refine At.join (fun ρ w => ∃ (c5 : Bool), Q7 ρ [(2, (pt g2 0)), (5, (pt f 0)), (16, (.bool c5))] ∧ SP [] w0 w [Qk g2 52 #[(.int .i64 0), (.int .i64 0), (.int .u32 0), (.string ⟨List.toArray ([] : List UInt8)⟩), (.int .i64 0), (.string ⟨List.toArray ([] : List UInt8)⟩), (.string ⟨List.toArray ([] : List UInt8)⟩), (.string ⟨List.toArray ([] : List UInt8)⟩)], Qk f 52 #[(.int .i64 6), (.int .i64 0), (.int .u32 0), (.string ⟨List.toArray ([] : List UInt8)⟩), (.int .i64 h.1), (.string ⟨List.toArray ([] : List UInt8)⟩), (.string ⟨List.toArray ([] : List UInt8)⟩), (.string ⟨List.toArray ([] : List UInt8)⟩)]] ∧ Vq h c5 = some r) ?_ ?_
             ·refine aR ?_
              refine iR 2 2 [(126, (.bool h.2)), (127, (.bool h.2))] ?_
              refine In.guard (t := 127) (b := h.2) K (fun i8 => ?_) (fun i8 => ?_)
              ·have H := ct H i8
               refine iR 5 7 [(128, (.slice q (List.length z6) s)), (129, (.int .i64 ((List.length z6 : Nat) : Int))), (130, (.bool (((List.length z6 : Nat) : Int) == 2))), (131, (.bool (((List.length z6 : Nat) : Int) == 2))), (16, (.bool (((List.length z6 : Nat) : Int) == 2)))] ?_
               refine iF ?_
               exact ⟨(((List.length z6 : Nat) : Int) == 2), ⟨K, K, K, trivial⟩, SP.sel m6 [0, 2] rfl rfl, H⟩
              ·have H := cf H i8
               refine iR 5 7 [(128, undef), (129, undef), (130, undef), (131, (.bool false)), (16, (.bool false))] ?_
               refine iF ?_
               exact ⟨false, ⟨K, K, K, trivial⟩, SP.sel m6 [0, 2] rfl rfl, H⟩
             ·rintro ρ v4 ⟨c5, hk, r8, H⟩
              unfold Vq at H
              first | refine At.known [(2, (pt g2 0)), (5, (pt f 0)), (16, (.bool c5))] hk ?_ | rw [← Qc (l := [(2, (pt g2 0)), (5, (pt f 0)), (16, (.bool c5))]) hk]
              exact ⟨6, h.1, ([] : List UInt8), ([] : List UInt8), c5, ⟨K, K, K, trivial⟩, SP.sel r8 [0, 1] rfl rfl, H⟩
            ·have H := cf H i7
             refine aQ ?_
             refine aR ?_
             refine iS 1 ?_
             refine Qu (op := .eql) (T := 9) (T' := 9) (x := (.tmp 51)) (y := (.const (.string ⟨List.toArray ([114, 101, 118, 111, 107, 101] : List UInt8)⟩))) (a := p) (b := ([114, 101, 118, 111, 107, 101] : List UInt8)) (r := (.bool (p == ([114, 101, 118, 111, 107, 101] : List UInt8)))) (d := (some 133)) (k := 0) K rfl K K rfl ?_
             refine iR 1 2 [(132, (.bool (p == ([114, 101, 118, 111, 107, 101] : List UInt8))))] ?_
             refine iF ?_
             refine At.join (fun ρ w => ∃ (g0 : Int) (g1 : (List UInt8)) (g3 : (List UInt8)) (c6 : Bool), Q7 ρ [(2, (pt g2 0)), (5, (pt f 0)), (16, (.bool c6))] ∧ SP [] w0 w [Qk g2 52 #[(.int .i64 0), (.int .i64 0), (.int .u32 0), (.string ⟨List.toArray ([] : List UInt8)⟩), (.int .i64 0), (.string ⟨List.toArray ([] : List UInt8)⟩), (.string ⟨List.toArray ([] : List UInt8)⟩), (.string ⟨List.toArray ([] : List UInt8)⟩)], Qk f 52 #[(.int .i64 g0), (.int .i64 0), (.int .u32 0), (.string ⟨List.toArray ([] : List UInt8)⟩), (.int .i64 0), (.string ⟨List.toArray g1⟩), (.string ⟨List.toArray g3⟩), (.string ⟨List.toArray ([] : List UInt8)⟩)]] ∧ Y5 g0 g1 g3 c6 = some r) ?_ ?_
             ·refine Vm K (o := (.tmp 132)) K (b := (p == ([114, 101, 118, 111, 107, 101] : List UInt8))) K (fun i9 => ?_) (fun i9 => ?_)
              ·have H := ct H i9
               refine aQ ?_
               refine aR ?_
               refine iR 1 1 [(134, (.slice q (List.length z6) s))] ?_
               obtain ⟨a3, r9, H⟩ := Qa H
               refine iS 2 ?_
               refine cF 72 #[(.tmp 134), (.const (.int .i64 (1)))] #[79, 3] 135 Tryz.call72 (Vp q s z6 1 m1 (Q9 (SP.get a2 (i := 1) rfl)) a3 r9) ?_
               rintro e s0 ⟨rfl, m7⟩
               refine ⟨_, rfl, ?_⟩
               have m8 := SP.call a2 m7
               clear m7
               refine iR 1 3 [(136, (.slice q (List.length z6) s))] ?_
               obtain ⟨a4, s1, H⟩ := Qa H
               refine iS 4 ?_
               refine cF 72 #[(.tmp 136), (.const (.int .i64 (2)))] #[79, 3] 137 Tryz.call72 (Vp q s z6 2 s0 (Q9 (SP.get m8 (i := 1) rfl)) a4 s1) ?_
               rintro e v5 ⟨rfl, m9⟩
               refine ⟨_, rfl, ?_⟩
               have s2 := SP.call m8 m9
               clear m9
               refine iR 1 5 [(138, (.agg #[(.int .i64 7), (.int .i64 0), (.int .u32 0), (.string ⟨List.toArray ([] : List UInt8)⟩), (.int .i64 0), (.string ⟨List.toArray a3⟩), (.string ⟨List.toArray a4⟩), (.string ⟨List.toArray ([] : List UInt8)⟩)]))] ?_
               refine iS 6 ?_
               refine Qh.store (t := 52) (x := (.tmp 5)) (y := (.tmp 138)) (g := f) (off := 0) (i := 2) (v := (.agg #[(.int .i64 7), (.int .i64 0), (.int .u32 0), (.string ⟨List.toArray ([] : List UInt8)⟩), (.int .i64 0), (.string ⟨List.toArray a3⟩), (.string ⟨List.toArray a4⟩), (.string ⟨List.toArray ([] : List UInt8)⟩)])) (cs' := #[(.int .i64 7), (.int .i64 0), (.int .u32 0), (.string ⟨List.toArray ([] : List UInt8)⟩), (.int .i64 0), (.string ⟨List.toArray a3⟩), (.string ⟨List.toArray a4⟩), (.string ⟨List.toArray ([] : List UInt8)⟩)]) (d := none) (k := 5) K rfl K K s2 rfl K ?_
               intro s3 n0
               refine iF ?_
               refine At.join (fun ρ w => ∃ (c7 : Bool), Q7 ρ [(2, (pt g2 0)), (5, (pt f 0)), (16, (.bool c7))] ∧ SP [] w0 w [Qk g2 52 #[(.int .i64 0), (.int .i64 0), (.int .u32 0), (.string ⟨List.toArray ([] : List UInt8)⟩), (.int .i64 0), (.string ⟨List.toArray ([] : List UInt8)⟩), (.string ⟨List.toArray ([] : List UInt8)⟩), (.string ⟨List.toArray ([] : List UInt8)⟩)], Qk f 52 #[(.int .i64 7), (.int .i64 0), (.int .u32 0), (.string ⟨List.toArray ([] : List UInt8)⟩), (.int .i64 0), (.string ⟨List.toArray a3⟩), (.string ⟨List.toArray a4⟩), (.string ⟨List.toArray ([] : List UInt8)⟩)]] ∧ Qx a3 a4 c7 = some r) ?_ ?_
               ·refine aR ?_
                refine iR 1 1 [(139, (pt f 5))] ?_
                refine iS 2 ?_
                refine sL 9 139 f 5 2 (.string ⟨List.toArray a3⟩) 140 n0 rfl ?_
                obtain ⟨j0, s4, H⟩ := Qa H
                refine iS 3 ?_
                refine cF 75 #[(.tmp 140)] #[9] 141 Tryz.call75 (Xk  a3 s3  j0 s4) ?_
                rintro e s5 ⟨rfl, n1⟩
                refine ⟨_, rfl, ?_⟩
                have j1 := SP.call n0 n1
                clear n1
                refine iR 1 4 [(142, (.bool j0))] ?_
                refine In.guard (t := 142) (b := j0) K (fun j2 => ?_) (fun j2 => ?_)
                ·have H := ct H j2
                 refine iR 1 5 [(143, (pt f 6))] ?_
                 refine iS 6 ?_
                 refine sL 9 143 f 6 2 (.string ⟨List.toArray a4⟩) 144 j1 rfl ?_
                 obtain ⟨g4, s6, H⟩ := Qa H
                 refine iS 7 ?_
                 refine cF 75 #[(.tmp 144)] #[9] 145 Tryz.call75 (Xk  a4 s5  g4 s6) ?_
                 rintro e v6 ⟨rfl, n2⟩
                 refine ⟨_, rfl, ?_⟩
                 have n3 := SP.call j1 n2
                 clear n2
                 refine iR 2 9 [(146, (.bool g4)), (147, (.bool g4))] ?_
                 refine In.guard (t := 147) (b := g4) K (fun j3 => ?_) (fun j3 => ?_)
                 ·have H := ct H j3
                  refine iR 5 14 [(148, (.slice q (List.length z6) s)), (149, (.int .i64 ((List.length z6 : Nat) : Int))), (150, (.bool (((List.length z6 : Nat) : Int) == 3))), (151, (.bool (((List.length z6 : Nat) : Int) == 3))), (16, (.bool (((List.length z6 : Nat) : Int) == 3)))] ?_
                  refine iF ?_
                  exact ⟨(((List.length z6 : Nat) : Int) == 3), ⟨K, K, K, trivial⟩, SP.sel n3 [0, 2] rfl rfl, H⟩
                 ·have H := cf H j3
                  refine iR 5 14 [(148, undef), (149, undef), (150, undef), (151, (.bool false)), (16, (.bool false))] ?_
                  refine iF ?_
                  exact ⟨false, ⟨K, K, K, trivial⟩, SP.sel n3 [0, 2] rfl rfl, H⟩
                ·have H := cf H j2
                 refine iR 10 14 [(143, undef), (144, undef), (145, undef), (146, (.bool false)), (147, (.bool false)), (148, undef), (149, undef), (150, undef), (151, (.bool false)), (16, (.bool false))] ?_
                 refine iF ?_
                 exact ⟨false, ⟨K, K, K, trivial⟩, SP.sel j1 [0, 2] rfl rfl, H⟩
               ·rintro ρ v7 ⟨c7, hk, s7, H⟩
                unfold Qx at H
                first | refine At.known [(2, (pt g2 0)), (5, (pt f 0)), (16, (.bool c7))] hk ?_ | rw [← Qc (l := [(2, (pt g2 0)), (5, (pt f 0)), (16, (.bool c7))]) hk]
                exact ⟨7, a3, a4, c7, ⟨K, K, K, trivial⟩, SP.sel s7 [0, 1] rfl rfl, H⟩
              ·have H := cf H i9
               refine aQ ?_
               refine aR ?_
               refine iS 1 ?_
               refine Qu (op := .eql) (T := 9) (T' := 9) (x := (.tmp 51)) (y := (.const (.string ⟨List.toArray ([101, 118, 105, 99, 116] : List UInt8)⟩))) (a := p) (b := ([101, 118, 105, 99, 116] : List UInt8)) (r := (.bool (p == ([101, 118, 105, 99, 116] : List UInt8)))) (d := (some 153)) (k := 0) K rfl K K rfl ?_
               refine iR 1 2 [(152, (.bool (p == ([101, 118, 105, 99, 116] : List UInt8))))] ?_
               refine iF ?_
               refine At.join (fun ρ w => ∃ (g5 : Int) (g6 : (List UInt8)) (c8 : Bool), Q7 ρ [(2, (pt g2 0)), (5, (pt f 0)), (16, (.bool c8))] ∧ SP [] w0 w [Qk g2 52 #[(.int .i64 0), (.int .i64 0), (.int .u32 0), (.string ⟨List.toArray ([] : List UInt8)⟩), (.int .i64 0), (.string ⟨List.toArray ([] : List UInt8)⟩), (.string ⟨List.toArray ([] : List UInt8)⟩), (.string ⟨List.toArray ([] : List UInt8)⟩)], Qk f 52 #[(.int .i64 g5), (.int .i64 0), (.int .u32 0), (.string ⟨List.toArray ([] : List UInt8)⟩), (.int .i64 0), (.string ⟨List.toArray g6⟩), (.string ⟨List.toArray ([] : List UInt8)⟩), (.string ⟨List.toArray ([] : List UInt8)⟩)]] ∧ Y6 g5 g6 c8 = some r) ?_ ?_
               ·refine Vm K (o := (.tmp 152)) K (b := (p == ([101, 118, 105, 99, 116] : List UInt8))) K (fun j4 => ?_) (fun j4 => ?_)
                ·have H := ct H j4
                 refine aQ ?_
                 refine aR ?_
                 refine iR 1 1 [(154, (.slice q (List.length z6) s))] ?_
                 obtain ⟨a5, s8, H⟩ := Qa H
                 refine iS 2 ?_
                 refine cF 72 #[(.tmp 154), (.const (.int .i64 (1)))] #[79, 3] 155 Tryz.call72 (Vp q s z6 1 m1 (Q9 (SP.get a2 (i := 1) rfl)) a5 s8) ?_
                 rintro e v8 ⟨rfl, n4⟩
                 refine ⟨_, rfl, ?_⟩
                 have s9 := SP.call a2 n4
                 clear n4
                 refine iR 1 3 [(156, (.agg #[(.int .i64 8), (.int .i64 0), (.int .u32 0), (.string ⟨List.toArray ([] : List UInt8)⟩), (.int .i64 0), (.string ⟨List.toArray a5⟩), (.string ⟨List.toArray ([] : List UInt8)⟩), (.string ⟨List.toArray ([] : List UInt8)⟩)]))] ?_
                 refine iS 4 ?_
                 refine Qh.store (t := 52) (x := (.tmp 5)) (y := (.tmp 156)) (g := f) (off := 0) (i := 2) (v := (.agg #[(.int .i64 8), (.int .i64 0), (.int .u32 0), (.string ⟨List.toArray ([] : List UInt8)⟩), (.int .i64 0), (.string ⟨List.toArray a5⟩), (.string ⟨List.toArray ([] : List UInt8)⟩), (.string ⟨List.toArray ([] : List UInt8)⟩)])) (cs' := #[(.int .i64 8), (.int .i64 0), (.int .u32 0), (.string ⟨List.toArray ([] : List UInt8)⟩), (.int .i64 0), (.string ⟨List.toArray a5⟩), (.string ⟨List.toArray ([] : List UInt8)⟩), (.string ⟨List.toArray ([] : List UInt8)⟩)]) (d := none) (k := 3) K rfl K K s9 rfl K ?_
                 intro t0 n5
                 refine iF ?_
                 refine At.join (fun ρ w => ∃ (c9 : Bool), Q7 ρ [(2, (pt g2 0)), (5, (pt f 0)), (16, (.bool c9))] ∧ SP [] w0 w [Qk g2 52 #[(.int .i64 0), (.int .i64 0), (.int .u32 0), (.string ⟨List.toArray ([] : List UInt8)⟩), (.int .i64 0), (.string ⟨List.toArray ([] : List UInt8)⟩), (.string ⟨List.toArray ([] : List UInt8)⟩), (.string ⟨List.toArray ([] : List UInt8)⟩)], Qk f 52 #[(.int .i64 8), (.int .i64 0), (.int .u32 0), (.string ⟨List.toArray ([] : List UInt8)⟩), (.int .i64 0), (.string ⟨List.toArray a5⟩), (.string ⟨List.toArray ([] : List UInt8)⟩), (.string ⟨List.toArray ([] : List UInt8)⟩)]] ∧ Vr a5 c9 = some r) ?_ ?_
                 ·refine aR ?_
                  refine iR 1 1 [(157, (pt f 5))] ?_
                  refine iS 2 ?_
                  refine sL 9 157 f 5 2 (.string ⟨List.toArray a5⟩) 158 n5 rfl ?_
                  obtain ⟨j5, t1, H⟩ := Qa H
                  refine iS 3 ?_
                  refine cF 75 #[(.tmp 158)] #[9] 159 Tryz.call75 (Xk  a5 t0  j5 t1) ?_
                  rintro e v9 ⟨rfl, n6⟩
                  refine ⟨_, rfl, ?_⟩
                  have n7 := SP.call n5 n6
                  clear n6
                  refine iR 1 4 [(160, (.bool j5))] ?_
                  refine In.guard (t := 160) (b := j5) K (fun j6 => ?_) (fun j6 => ?_)
                  ·have H := ct H j6
                   refine iR 5 9 [(161, (.slice q (List.length z6) s)), (162, (.int .i64 ((List.length z6 : Nat) : Int))), (163, (.bool (((List.length z6 : Nat) : Int) == 2))), (164, (.bool (((List.length z6 : Nat) : Int) == 2))), (16, (.bool (((List.length z6 : Nat) : Int) == 2)))] ?_
                   refine iF ?_
                   exact ⟨(((List.length z6 : Nat) : Int) == 2), ⟨K, K, K, trivial⟩, SP.sel n7 [0, 2] rfl rfl, H⟩
                  ·have H := cf H j6
                   refine iR 5 9 [(161, undef), (162, undef), (163, undef), (164, (.bool false)), (16, (.bool false))] ?_
                   refine iF ?_
                   exact ⟨false, ⟨K, K, K, trivial⟩, SP.sel n7 [0, 2] rfl rfl, H⟩
                 ·rintro ρ w1 ⟨c9, hk, t2, H⟩
                  unfold Vr at H
                  first | refine At.known [(2, (pt g2 0)), (5, (pt f 0)), (16, (.bool c9))] hk ?_ | rw [← Qc (l := [(2, (pt g2 0)), (5, (pt f 0)), (16, (.bool c9))]) hk]
                  exact ⟨8, a5, c9, ⟨K, K, K, trivial⟩, SP.sel t2 [0, 1] rfl rfl, H⟩
                ·have H := cf H j4
                 refine aQ ?_
                 refine aR ?_
                 refine iS 1 ?_
                 refine Qu (op := .eql) (T := 9) (T' := 9) (x := (.tmp 51)) (y := (.const (.string ⟨List.toArray ([100, 114, 97, 105, 110] : List UInt8)⟩))) (a := p) (b := ([100, 114, 97, 105, 110] : List UInt8)) (r := (.bool (p == ([100, 114, 97, 105, 110] : List UInt8)))) (d := (some 166)) (k := 0) K rfl K K rfl ?_
                 refine iR 1 2 [(165, (.bool (p == ([100, 114, 97, 105, 110] : List UInt8))))] ?_
                 refine iF ?_
                 refine At.join (fun ρ w => ∃ (g7 : Int) (d0 : Bool), Q7 ρ [(2, (pt g2 0)), (5, (pt f 0)), (16, (.bool d0))] ∧ SP [] w0 w [Qk g2 52 #[(.int .i64 0), (.int .i64 0), (.int .u32 0), (.string ⟨List.toArray ([] : List UInt8)⟩), (.int .i64 0), (.string ⟨List.toArray ([] : List UInt8)⟩), (.string ⟨List.toArray ([] : List UInt8)⟩), (.string ⟨List.toArray ([] : List UInt8)⟩)], Qk f 52 #[(.int .i64 g7), (.int .i64 0), (.int .u32 0), (.string ⟨List.toArray ([] : List UInt8)⟩), (.int .i64 0), (.string ⟨List.toArray ([] : List UInt8)⟩), (.string ⟨List.toArray ([] : List UInt8)⟩), (.string ⟨List.toArray ([] : List UInt8)⟩)]] ∧ X2 g7 d0 = some r) ?_ ?_
                 ·refine Vm K (o := (.tmp 165)) K (b := (p == ([100, 114, 97, 105, 110] : List UInt8))) K (fun j7 => ?_) (fun j7 => ?_)
                  ·have H := ct H j7
                   refine aQ ?_
                   refine aR ?_
                   refine iR 1 1 [(167, (.agg #[(.int .i64 9), (.int .i64 0), (.int .u32 0), (.string ⟨List.toArray ([] : List UInt8)⟩), (.int .i64 0), (.string ⟨List.toArray ([] : List UInt8)⟩), (.string ⟨List.toArray ([] : List UInt8)⟩), (.string ⟨List.toArray ([] : List UInt8)⟩)]))] ?_
                   refine iS 2 ?_
                   refine Qh.store (t := 52) (x := (.tmp 5)) (y := (.tmp 167)) (g := f) (off := 0) (i := 2) (v := (.agg #[(.int .i64 9), (.int .i64 0), (.int .u32 0), (.string ⟨List.toArray ([] : List UInt8)⟩), (.int .i64 0), (.string ⟨List.toArray ([] : List UInt8)⟩), (.string ⟨List.toArray ([] : List UInt8)⟩), (.string ⟨List.toArray ([] : List UInt8)⟩)])) (cs' := #[(.int .i64 9), (.int .i64 0), (.int .u32 0), (.string ⟨List.toArray ([] : List UInt8)⟩), (.int .i64 0), (.string ⟨List.toArray ([] : List UInt8)⟩), (.string ⟨List.toArray ([] : List UInt8)⟩), (.string ⟨List.toArray ([] : List UInt8)⟩)]) (d := none) (k := 1) K rfl K K a2 rfl K ?_
                   intro w2 t3
                   refine iF ?_
                   refine aR ?_
                   refine iR 4 4 [(168, (.slice q (List.length z6) s)), (169, (.int .i64 ((List.length z6 : Nat) : Int))), (170, (.bool (((List.length z6 : Nat) : Int) == 1))), (16, (.bool (((List.length z6 : Nat) : Int) == 1)))] ?_
                   refine iF ?_
                   exact ⟨9, (((List.length z6 : Nat) : Int) == 1), ⟨K, K, K, trivial⟩, SP.sel t3 [0, 2] rfl rfl, H⟩
                  ·have H := cf H j7
                   refine At.skip K ?_
                   exact ⟨0, false, ⟨K, K, K, trivial⟩, SP.sel a2 [0, 2] rfl rfl, H⟩
                 ·rintro ρ w4 ⟨g7, d0, hk, t4, H⟩
                  unfold X2 at H
                  first | refine At.known [(2, (pt g2 0)), (5, (pt f 0)), (16, (.bool d0))] hk ?_ | rw [← Qc (l := [(2, (pt g2 0)), (5, (pt f 0)), (16, (.bool d0))]) hk]
                  exact ⟨g7, ([] : List UInt8), d0, ⟨K, K, K, trivial⟩, SP.sel t4 [0, 1] rfl rfl, H⟩
               ·rintro ρ w5 ⟨g5, g6, c8, hk, t5, H⟩
                unfold Y6 at H
                first | refine At.known [(2, (pt g2 0)), (5, (pt f 0)), (16, (.bool c8))] hk ?_ | rw [← Qc (l := [(2, (pt g2 0)), (5, (pt f 0)), (16, (.bool c8))]) hk]
                exact ⟨g5, g6, ([] : List UInt8), c8, ⟨K, K, K, trivial⟩, SP.sel t5 [0, 1] rfl rfl, H⟩
             ·rintro ρ w6 ⟨g0, g1, g3, c6, hk, t6, H⟩
              unfold Y5 at H
              first | refine At.known [(2, (pt g2 0)), (5, (pt f 0)), (16, (.bool c6))] hk ?_ | rw [← Qc (l := [(2, (pt g2 0)), (5, (pt f 0)), (16, (.bool c6))]) hk]
              exact ⟨g0, 0, g1, g3, c6, ⟨K, K, K, trivial⟩, SP.sel t6 [0, 1] rfl rfl, H⟩
           ·rintro ρ w7 ⟨f6, f7, f8, f9, c4, hk, t7, H⟩
            unfold Y4 at H
            first | refine At.known [(2, (pt g2 0)), (5, (pt f 0)), (16, (.bool c4))] hk ?_ | rw [← Qc (l := [(2, (pt g2 0)), (5, (pt f 0)), (16, (.bool c4))]) hk]
            exact ⟨f6, 0, f7, f8, f9, c4, ⟨K, K, K, trivial⟩, SP.sel t7 [0, 1] rfl rfl, H⟩
         ·rintro ρ w9 ⟨f1, f2, f3, f4, f5, c2, hk, t8, H⟩
          unfold Jh at H
          first | refine At.known [(2, (pt g2 0)), (5, (pt f 0)), (16, (.bool c2))] hk ?_ | rw [← Qc (l := [(2, (pt g2 0)), (5, (pt f 0)), (16, (.bool c2))]) hk]
          exact ⟨f1, f2, f3, f4, f5, ([] : List UInt8), c2, ⟨K, K, K, trivial⟩, SP.sel t8 [0, 1] rfl rfl, H⟩
       ·rintro ρ x0 ⟨e5, e6, e7, e8, e9, f0, c0, hk, t9, H⟩
        unfold Jg at H
        first | refine At.known [(2, (pt g2 0)), (5, (pt f 0)), (16, (.bool c0))] hk ?_ | rw [← Qc (l := [(2, (pt g2 0)), (5, (pt f 0)), (16, (.bool c0))]) hk]
        exact ⟨e5, e6, e7, e8, e9, f0, c0, ⟨K, K, K, trivial⟩, SP.sel t9 [0, 1] rfl rfl, H⟩
     ·rintro ρ x1 ⟨d9, e0, e1, e2, e3, e4, b8, hk, u0, H⟩
      unfold Jf at H
      first | refine At.known [(2, (pt g2 0)), (5, (pt f 0)), (16, (.bool b8))] hk ?_ | rw [← Qc (l := [(2, (pt g2 0)), (5, (pt f 0)), (16, (.bool b8))]) hk]
      exact ⟨d9, e0, ([] : List UInt8), e1, e2, e3, e4, b8, ⟨K, K, K, trivial⟩, SP.sel u0 [0, 1] rfl rfl, H⟩
   ·rintro ρ x2 ⟨d1, d2, d3, d4, d5, d6, d7, b6, hk, u1, H⟩
    unfold Je at H
    first | refine At.known [(2, (pt g2 0)), (5, (pt f 0)), (16, (.bool b6))] hk ?_ | rw [← Qc (l := [(2, (pt g2 0)), (5, (pt f 0)), (16, (.bool b6))]) hk]
    exact ⟨d1, d2, 0, d3, d4, d5, d6, d7, b6, ⟨K, K, K, trivial⟩, SP.sel u1 [0, 1] rfl rfl, H⟩
 ·rintro ρ x3 ⟨a7, a8, a9, b0, b1, b2, b3, b4, a6, hk, j8, H⟩
  unfold Jd at H
  first | refine At.known [(2, (pt g2 0)), (5, (pt f 0)), (16, (.bool a6))] hk ?_ | rw [← Qc (l := [(2, (pt g2 0)), (5, (pt f 0)), (16, (.bool a6))]) hk]
  refine aQ ?_
  refine aQ ?_
  refine aR ?_
  refine iR 2 2 [(171, (.bool a6)), (172, (.bool (!a6)))] ?_
  refine iF ?_
  refine Vm K (o := (.tmp 172)) K (b := (!a6)) K (fun j9 => ?_) (fun j9 => ?_)
  ·have H := ct H j9
   refine aQ ?_
   refine aR ?_
   refine iR 1 1 [(173, (.agg #[(.int .i64 0), (.int .i64 0), (.int .u32 0), (.string ⟨List.toArray ([] : List UInt8)⟩), (.int .i64 0), (.string ⟨List.toArray ([] : List UInt8)⟩), (.string ⟨List.toArray ([] : List UInt8)⟩), (.string ⟨List.toArray ([] : List UInt8)⟩)]))] ?_
   refine iS 2 ?_
   refine Qh.store (t := 52) (x := (.tmp 2)) (y := (.tmp 173)) (g := g2) (off := 0) (i := 0) (v := (.agg #[(.int .i64 0), (.int .i64 0), (.int .u32 0), (.string ⟨List.toArray ([] : List UInt8)⟩), (.int .i64 0), (.string ⟨List.toArray ([] : List UInt8)⟩), (.string ⟨List.toArray ([] : List UInt8)⟩), (.string ⟨List.toArray ([] : List UInt8)⟩)])) (cs' := #[(.int .i64 0), (.int .i64 0), (.int .u32 0), (.string ⟨List.toArray ([] : List UInt8)⟩), (.int .i64 0), (.string ⟨List.toArray ([] : List UInt8)⟩), (.string ⟨List.toArray ([] : List UInt8)⟩), (.string ⟨List.toArray ([] : List UInt8)⟩)]) (d := none) (k := 1) K rfl K K j8 rfl K ?_
   intro x4 n8
   refine iR 1 3 [(3, (.bool false))] ?_
   refine iF ?_
   refine At.ret K ?_
   refine ⟨(.tuple #[(.agg #[(.int .i64 0), (.int .i64 0), (.int .u32 0), (.string ⟨List.toArray ([] : List UInt8)⟩), (.int .i64 0), (.string ⟨List.toArray ([] : List UInt8)⟩), (.string ⟨List.toArray ([] : List UInt8)⟩), (.string ⟨List.toArray ([] : List UInt8)⟩)]), (.bool false)]), Ex K (Gt (a := 2) (t := 52) (g := g2) (off := 0) K (SP.get n8 (i := 0) rfl) K) (Dz (t := 3) K), ?_⟩
   obtain rfl := Qb H
   exact ⟨rfl, SP.sel n8 [] rfl rfl⟩
  ·have H := cf H j9
   refine At.skip K ?_
   refine aQ ?_
   refine aR ?_
   refine iS 1 ?_
   refine sL 52 5 f 0 1 (.agg #[(.int .i64 a7), (.int .i64 a8), (.int .u32 a9), (.string ⟨List.toArray b0⟩), (.int .i64 b1), (.string ⟨List.toArray b2⟩), (.string ⟨List.toArray b3⟩), (.string ⟨List.toArray b4⟩)]) 174 j8 rfl ?_
   refine iS 2 ?_
   refine Qh.store (t := 52) (x := (.tmp 2)) (y := (.tmp 174)) (g := g2) (off := 0) (i := 0) (v := (.agg #[(.int .i64 a7), (.int .i64 a8), (.int .u32 a9), (.string ⟨List.toArray b0⟩), (.int .i64 b1), (.string ⟨List.toArray b2⟩), (.string ⟨List.toArray b3⟩), (.string ⟨List.toArray b4⟩)])) (cs' := #[(.int .i64 a7), (.int .i64 a8), (.int .u32 a9), (.string ⟨List.toArray b0⟩), (.int .i64 b1), (.string ⟨List.toArray b2⟩), (.string ⟨List.toArray b3⟩), (.string ⟨List.toArray b4⟩)]) (d := none) (k := 1) K rfl K K j8 rfl K ?_
   intro x5 n9
   refine iR 1 3 [(3, (.bool true))] ?_
   refine iF ?_
   refine At.ret K ?_
   refine ⟨(.tuple #[(.agg #[(.int .i64 a7), (.int .i64 a8), (.int .u32 a9), (.string ⟨List.toArray b0⟩), (.int .i64 b1), (.string ⟨List.toArray b2⟩), (.string ⟨List.toArray b3⟩), (.string ⟨List.toArray b4⟩)]), (.bool true)]), Ex K (Gt (a := 2) (t := 52) (g := g2) (off := 0) K (SP.get n9 (i := 0) rfl) K) (Dz (t := 3) K), ?_⟩
   obtain rfl := Qb H
   exact ⟨rfl, SP.sel n9 [] rfl rfl⟩
def Zk (a : Int) (b : Bool) : Option ((List UInt8)) :=
  (cond b (some (([] : List UInt8))) ((Vi a).bind fun c => ((app ([101, 114, 114, 32] : List UInt8) c).bind fun d => (some (d)))))
def Xx (a : (List UInt8) → Int → Option ((List UInt8))) (b : Int) (c : (List UInt8)) : Option ((List UInt8)) :=
  (a c (IntKind.wrap .i64 (b + 1)))
def Yu (a : (List UInt8) → Int → Option ((List UInt8))) (b : Int) (d : (Int × (List UInt8) × Bool × Bool)) (c : (List UInt8)) : Option ((List UInt8)) :=
  (cond d.2.2.2 ((app c ([33] : List UInt8)).bind fun e => (Xx a b e)) (Xx a b c))
def V0 (b : (List UInt8) → Int → Option ((List UInt8))) (e : (List UInt8)) (c : Int) (a : (Int × (List UInt8) × Bool × Bool)) (f : Bool) : Option ((List UInt8)) :=
  (cond f (some (([] : List UInt8))) ((app e ([32] : List UInt8)).bind fun g => ((Vi a.1).bind fun h => ((app g h).bind fun i => ((app i ([61] : List UInt8)).bind fun j => ((Zp a.2.1).bind fun k => ((app j k).bind fun d => (cond a.2.2.1 ((app d ([43] : List UInt8)).bind fun l => (Yu b c a l)) (Yu b c a d)))))))))
def Xc (d : (List UInt8) → Int → Option ((List UInt8))) (e : (List (Int × (List UInt8) × Bool × Bool))) (c : (List UInt8)) (a : Int) : Option ((List UInt8)) :=
  (cond (decide (a < ((List.length e : Nat) : Int))) ((idx e a).bind fun b => ((Zi b.1).bind fun f => (cond (!f) (V0 d c a b true) (cond (decide (a > 0)) ((idx e (IntKind.wrap .i64 (a - 1))).bind fun g => (V0 d c a b (decide (g.1 ≥ b.1)))) (V0 d c a b false))))) (some (c)))
def Qw (a : (List (Int × (List UInt8) × Bool × Bool))) : Nat → (List UInt8) → Int → Option ((List UInt8))
  | 0, _, _ => none
  | f + 1, b, c => Xc  (Qw a f) a b c
def Zl (a : Int) (b : Int) (c : Int) (d : (List (Int × (List UInt8) × Bool × Bool))) (e : Bool) : Option ((List UInt8)) :=
  (cond e (some (([] : List UInt8))) (cond (a != 0) (cond (b != 0) (Zk a true) (cond (c != 0) (Zk a true) (Zk a (decide (((List.length d : Nat) : Int) > 0))))) ((Vi b).bind fun f => ((app ([111, 107, 32] : List UInt8) f).bind fun g => ((app g ([32] : List UInt8)).bind fun h => ((Vi c).bind fun i => ((app h i).bind fun j => (Qw d Y1 j 0))))))))
def Uw (a : Int) (b : Int) (c : Int) (d : (List (Int × (List UInt8) × Bool × Bool))) : Option ((List UInt8)) :=
  ((Zi a).bind fun e => (cond (!e) (Zl a b c d true) ((Zi b).bind fun f => (cond (!f) (Zl a b c d true) ((Zi c).bind fun g => (Zl a b c d (!g)))))))
set_option maxHeartbeats 40000000 in
theorem Nw (A5 : Option Addr) (c6 : Nat) (a3 : Int) (a2 : Int) (a0 : Int) (u : (List (Int × (List UInt8) × Bool × Bool))) (w0 : World) (c4 : RdT (Qf (Jw .i64) (Qf Qn (Qf Qm Qm))) w0 A5 c6 u) (r : ((List UInt8))) (H : Uw a3 a2 a0 u = some r) :
  Calls Tryz.prog 38 #[(.agg #[(.int .i64 a3), (.int .i64 a2), (.int .i64 a0), (.slice A5 (List.length u) c6)])] w0 (fun e w' => e = .returned (.string ⟨List.toArray r⟩) ∧ SP [] w0 w' []) := by
 unfold Uw at H
 refine Ql (n := 104) Tryz.func38 K K K ?_
 have i2 := Qy [] w0
 refine aQ ?_
 refine aR ?_
 refine iS 1 ?_
 refine Yi (t := 55) (x := (.tmp 0)) (v := (.agg #[(.int .i64 a3), (.int .i64 a2), (.int .i64 a0), (.slice A5 (List.length u) c6)])) (d := (some 1)) (k := 0) K rfl K i2 ?_
 intro g8 w9 f3
 refine iR 1 2 [(2, (.string ⟨List.toArray ([] : List UInt8)⟩))] ?_
 refine iF ?_
 refine aQ ?_
 refine aQ ?_
 refine At.join (fun ρ w => ∃ (b4 : Bool), Q7 ρ [(1, (pt g8 0)), (21, (.bool b4))] ∧ SP [] w0 w [Qk g8 55 #[(.int .i64 a3), (.int .i64 a2), (.int .i64 a0), (.slice A5 (List.length u) c6)]] ∧ Zl a3 a2 a0 u b4 = some r) ?_ ?_
 ·refine aR ?_
  refine iR 1 1 [(6, (pt g8 0))] ?_
  refine iS 2 ?_
  refine sL 27 6 g8 0 0 (.int .i64 a3) 7 f3 rfl ?_
  obtain ⟨c5, i3, H⟩ := Qa H
  refine iS 3 ?_
  refine cF 83 #[(.tmp 7)] #[2] 8 Tryz.call83 (V6  a3 w9  c5 i3) ?_
  rintro e i4 ⟨rfl, f4⟩
  refine ⟨_, rfl, ?_⟩
  have d3 := SP.call f3 f4
  clear f4
  refine iR 2 5 [(9, (.bool (!c5))), (10, (.bool (!c5)))] ?_
  refine In.guard (t := 10) (b := (!c5)) K (fun d4 => ?_) (fun d4 => ?_)
  ·have H := ct H d4
   refine iR 11 16 [(11, undef), (12, undef), (13, undef), (14, undef), (15, (.bool true)), (16, (.bool true)), (17, undef), (18, undef), (19, undef), (20, undef), (21, (.bool true))] ?_
   refine iF ?_
   exact ⟨true, ⟨K, K, trivial⟩, SP.sel d3 [0] rfl rfl, H⟩
  ·have H := cf H d4
   refine iR 1 6 [(11, (pt g8 1))] ?_
   refine iS 7 ?_
   refine sL 3 11 g8 1 0 (.int .i64 a2) 12 d3 rfl ?_
   obtain ⟨c2, i5, H⟩ := Qa H
   refine iS 8 ?_
   refine cF 83 #[(.tmp 12)] #[2] 13 Tryz.call83 (V6  a2 i4  c2 i5) ?_
   rintro e i6 ⟨rfl, f5⟩
   refine ⟨_, rfl, ?_⟩
   have d5 := SP.call d3 f5
   clear f5
   refine iR 3 11 [(14, (.bool (!c2))), (15, (.bool (!c2))), (16, (.bool (!c2)))] ?_
   refine In.guard (t := 16) (b := (!c2)) K (fun d6 => ?_) (fun d6 => ?_)
   ·have H := ct H d6
    refine iR 5 16 [(17, undef), (18, undef), (19, undef), (20, undef), (21, (.bool true))] ?_
    refine iF ?_
    exact ⟨true, ⟨K, K, trivial⟩, SP.sel d5 [0] rfl rfl, H⟩
   ·have H := cf H d6
    refine iR 1 12 [(17, (pt g8 2))] ?_
    refine iS 13 ?_
    refine sL 3 17 g8 2 0 (.int .i64 a0) 18 d5 rfl ?_
    obtain ⟨c7, i7, H⟩ := Qa H
    refine iS 14 ?_
    refine cF 83 #[(.tmp 18)] #[2] 19 Tryz.call83 (V6  a0 i6  c7 i7) ?_
    rintro e p5 ⟨rfl, f6⟩
    refine ⟨_, rfl, ?_⟩
    have i8 := SP.call d5 f6
    clear f6
    refine iR 2 16 [(20, (.bool (!c7))), (21, (.bool (!c7)))] ?_
    refine iF ?_
    exact ⟨(!c7), ⟨K, K, trivial⟩, SP.sel i8 [0] rfl rfl, H⟩
 ·rintro ρ p6 ⟨b4, hk, a8, H⟩
  unfold Zl at H
  first | refine At.known [(1, (pt g8 0)), (21, (.bool b4))] hk ?_ | rw [← Qc (l := [(1, (pt g8 0)), (21, (.bool b4))]) hk]
  refine Vm K (o := (.tmp 21)) K (b := b4) K (fun d7 => ?_) (fun d7 => ?_)
  ·have H := ct H d7
   refine aQ ?_
   refine aR ?_
   refine iR 1 1 [(2, (.string ⟨List.toArray ([] : List UInt8)⟩))] ?_
   refine iF ?_
   refine At.ret K ?_
   refine ⟨(.string ⟨List.toArray ([] : List UInt8)⟩), K, ?_⟩
   obtain rfl := Qb H
   exact ⟨rfl, SP.sel a8 [] rfl rfl⟩
  ·have H := cf H d7
   refine At.skip K ?_
   refine aQ ?_
   refine aQ ?_
   refine aR ?_
   refine iR 1 1 [(22, (pt g8 0))] ?_
   refine iS 2 ?_
   refine sL 27 22 g8 0 0 (.int .i64 a3) 23 a8 rfl ?_
   refine iR 1 3 [(24, (.bool (a3 != 0)))] ?_
   refine iF ?_
   refine Vm K (o := (.tmp 24)) K (b := (a3 != 0)) K (fun d8 => ?_) (fun d8 => ?_)
   ·have H := ct H d8
    refine aQ ?_
    refine aQ ?_
    refine At.join (fun ρ w => ∃ (b5 : Bool), Q7 ρ [(1, (pt g8 0)), (38, (.bool b5))] ∧ SP [] w0 w [Qk g8 55 #[(.int .i64 a3), (.int .i64 a2), (.int .i64 a0), (.slice A5 (List.length u) c6)]] ∧ Zk a3 b5 = some r) ?_ ?_
    ·refine aR ?_
     refine iR 1 1 [(25, (pt g8 1))] ?_
     refine iS 2 ?_
     refine sL 3 25 g8 1 0 (.int .i64 a2) 26 a8 rfl ?_
     refine iR 2 4 [(27, (.bool (a2 != 0))), (28, (.bool (a2 != 0)))] ?_
     refine In.guard (t := 28) (b := (a2 != 0)) K (fun d9 => ?_) (fun d9 => ?_)
     ·have H := ct H d9
      refine iR 10 14 [(29, undef), (30, undef), (31, undef), (32, (.bool true)), (33, (.bool true)), (34, undef), (35, undef), (36, undef), (37, undef), (38, (.bool true))] ?_
      refine iF ?_
      exact ⟨true, ⟨K, K, trivial⟩, SP.sel a8 [0] rfl rfl, H⟩
     ·have H := cf H d9
      refine iR 1 5 [(29, (pt g8 2))] ?_
      refine iS 6 ?_
      refine sL 3 29 g8 2 0 (.int .i64 a0) 30 a8 rfl ?_
      refine iR 3 9 [(31, (.bool (a0 != 0))), (32, (.bool (a0 != 0))), (33, (.bool (a0 != 0)))] ?_
      refine In.guard (t := 33) (b := (a0 != 0)) K (fun e0 => ?_) (fun e0 => ?_)
      ·have H := ct H e0
       refine iR 5 14 [(34, undef), (35, undef), (36, undef), (37, undef), (38, (.bool true))] ?_
       refine iF ?_
       exact ⟨true, ⟨K, K, trivial⟩, SP.sel a8 [0] rfl rfl, H⟩
      ·have H := cf H e0
       refine iR 1 10 [(34, (pt g8 3))] ?_
       refine iS 11 ?_
       refine sL 53 34 g8 3 0 (.slice A5 (List.length u) c6) 35 a8 rfl ?_
       refine iR 3 14 [(36, (.int .i64 ((List.length u : Nat) : Int))), (37, (.bool (decide (((List.length u : Nat) : Int) > 0)))), (38, (.bool (decide (((List.length u : Nat) : Int) > 0))))] ?_
       refine iF ?_
       exact ⟨(decide (((List.length u : Nat) : Int) > 0)), ⟨K, K, trivial⟩, SP.sel a8 [0] rfl rfl, H⟩
    ·rintro ρ i9 ⟨b5, hk, e1, H⟩
     unfold Zk at H
     first | refine At.known [(1, (pt g8 0)), (38, (.bool b5))] hk ?_ | rw [← Qc (l := [(1, (pt g8 0)), (38, (.bool b5))]) hk]
     refine Vm K (o := (.tmp 38)) K (b := b5) K (fun e2 => ?_) (fun e2 => ?_)
     ·have H := ct H e2
      refine aQ ?_
      refine aR ?_
      refine iR 1 1 [(2, (.string ⟨List.toArray ([] : List UInt8)⟩))] ?_
      refine iF ?_
      refine At.ret K ?_
      refine ⟨(.string ⟨List.toArray ([] : List UInt8)⟩), K, ?_⟩
      obtain rfl := Qb H
      exact ⟨rfl, SP.sel e1 [] rfl rfl⟩
     ·have H := cf H e2
      refine At.skip K ?_
      refine aQ ?_
      refine aR ?_
      refine iR 1 1 [(39, (pt g8 0))] ?_
      refine iS 2 ?_
      refine sL 27 39 g8 0 0 (.int .i64 a3) 40 e1 rfl ?_
      obtain ⟨e3, j0, H⟩ := Qa H
      refine iS 3 ?_
      refine cF 82 #[(.tmp 40)] #[2] 41 Tryz.call82 (Vk  a3 i9  e3 j0) ?_
      rintro e p7 ⟨rfl, f7⟩
      refine ⟨_, rfl, ?_⟩
      have j1 := SP.call e1 f7
      clear f7
      obtain ⟨hl50, H⟩ := Vb H
      obtain ⟨f8, hyl49⟩ : ∃ y, ([101, 114, 114, 32] : List UInt8) ++ e3 = y := ⟨_, rfl⟩
      rw [hyl49] at H
      refine iS 4 ?_
      refine Qi (T := 9) (T' := 9) (x := (.const (.string ⟨List.toArray ([101, 114, 114, 32] : List UInt8)⟩))) (y := (.tmp 41)) (a := ([101, 114, 114, 32] : List UInt8)) (b := e3) (d := (some 42)) (k := 3) K rfl K K hl50 ?_
      rw [hyl49]
      refine iR 1 5 [(2, (.string ⟨List.toArray f8⟩))] ?_
      refine iF ?_
      refine At.ret K ?_
      refine ⟨(.string ⟨List.toArray f8⟩), K, ?_⟩
      obtain rfl := Qb H
      exact ⟨rfl, SP.sel j1 [] rfl rfl⟩
   ·have H := cf H d8
    refine At.skip K ?_
    refine aQ ?_
    obtain ⟨a9, j2, H⟩ := Qa H
    obtain ⟨hl60, H⟩ := Vb H
    obtain ⟨c8, hyl59⟩ : ∃ y, ([111, 107, 32] : List UInt8) ++ a9 = y := ⟨_, rfl⟩
    rw [hyl59] at H
    obtain ⟨hl62, H⟩ := Vb H
    obtain ⟨c9, hyl61⟩ : ∃ y, c8 ++ ([32] : List UInt8) = y := ⟨_, rfl⟩
    rw [hyl61] at H
    obtain ⟨b6, j3, H⟩ := Qa H
    obtain ⟨hl70, H⟩ := Vb H
    obtain ⟨c3, hyl69⟩ : ∃ y, c9 ++ b6 = y := ⟨_, rfl⟩
    rw [hyl69] at H
    refine aG [GEq (pt g8 1), GEq (.int .i64 a2), GEq (.string ⟨List.toArray a9⟩), GEq (.string ⟨List.toArray c8⟩), GEq (.string ⟨List.toArray c9⟩), GEq (pt g8 2), GEq (.int .i64 a0), GEq (.string ⟨List.toArray b6⟩), GEq (.string ⟨List.toArray c3⟩), GEq (.string ⟨List.toArray c3⟩)] [2, 7] (tG [] w0 [Qk g8 55 #[(.int .i64 a3), (.int .i64 a2), (.int .i64 a0), (.slice A5 (List.length u) c6)]] [([], []), ([2], [(.string ⟨List.toArray a9⟩)]), ([2, 7], [(.string ⟨List.toArray a9⟩), (.string ⟨List.toArray b6⟩)])]) 10 2 ⟨trivial, SP.drew a8⟩ ?_ ?_
    iterate 10 refine And.intro ?_ ?_
    exact trivial
    ·exact oV (hC (hS 1 (pt g8 0)) (h0)) (pt g8 1)
    ·refine oL 0 ?_
     ·rintro ρ' w' hs f ⟨p8, j4⟩
      refine kM (kc (kA f 0 43) k0) fun p => ?_
      refine sL 3 43 g8 1 0 (.int .i64 a2) 44 j4 rfl ?_
      exact eK p
    ·refine oH 0 1 ?_
     ·rintro ρ' w' hs f ⟨p9, j5⟩
      refine kM (kc (kA f 1 44) k0) fun p => ?_
      refine cF 82 #[(.tmp 44)] #[2] 45 Tryz.call82 (Vk  a2 w'  a9 j2) ?_
      rintro e q0 ⟨rfl, g0⟩
      refine ⟨_, rfl, ?_⟩
      have j6 := SP.call j5 g0
      clear g0
      refine ⟨_, Qg p, rfl, ?_⟩
      exact (And.intro (And.intro rfl (trivial)) (j6))
    ·refine Owe.light K [1, 2] K (Qe ?_ (Qe ?_ Vl))
     ·rintro ρ' w' hs f ⟨⟨j7, -⟩, q1⟩
      refine kN [(45, (.string ⟨List.toArray a9⟩))] ⟨(Qv (h := 2) K).symm.trans j7, trivial⟩ fun p => ?_
      refine Qi (T := 9) (T' := 9) (x := (.const (.string ⟨List.toArray ([111, 107, 32] : List UInt8)⟩))) (y := (.tmp 45)) (a := ([111, 107, 32] : List UInt8)) (b := a9) (d := (some 46)) (k := 3) K rfl K K hl60 ?_
      rw [hyl59]
      exact eK p
     ·rintro ρ' w' hs f ⟨⟨j8, q2, -⟩, q3⟩
      refine kN [(45, (.string ⟨List.toArray a9⟩))] ⟨(Qv (h := 2) K).symm.trans j8, trivial⟩ fun p => ?_
      refine Qi (T := 9) (T' := 9) (x := (.const (.string ⟨List.toArray ([111, 107, 32] : List UInt8)⟩))) (y := (.tmp 45)) (a := ([111, 107, 32] : List UInt8)) (b := a9) (d := (some 46)) (k := 3) K rfl K K hl60 ?_
      rw [hyl59]
      exact eK p
    ·refine Owe.light K [1, 2] K (Qe ?_ (Qe ?_ Vl))
     ·rintro ρ' w' hs f ⟨⟨q4, -⟩, q5⟩
      refine kM (kc (kA f 3 46) k0) fun p => ?_
      refine Qi (T := 9) (T' := 9) (x := (.tmp 46)) (y := (.const (.string ⟨List.toArray ([32] : List UInt8)⟩))) (a := c8) (b := ([32] : List UInt8)) (d := (some 47)) (k := 4) K rfl K K hl62 ?_
      rw [hyl61]
      exact eK p
     ·rintro ρ' w' hs f ⟨⟨q6, q7, -⟩, q8⟩
      refine kM (kc (kA f 3 46) k0) fun p => ?_
      refine Qi (T := 9) (T' := 9) (x := (.tmp 46)) (y := (.const (.string ⟨List.toArray ([32] : List UInt8)⟩))) (a := c8) (b := ([32] : List UInt8)) (d := (some 47)) (k := 4) K rfl K K hl62 ?_
      rw [hyl61]
      exact eK p
    ·exact oV (hC (hS 1 (pt g8 0)) (h0)) (pt g8 2)
    ·refine Owe.light K [0, 1] K (Qe ?_ (Qe ?_ Vl))
     ·rintro ρ' w' hs f ⟨q9, j9⟩
      refine kM (kc (kA f 5 48) k0) fun p => ?_
      refine sL 3 48 g8 2 0 (.int .i64 a0) 49 j9 rfl ?_
      exact eK p
     ·rintro ρ' w' hs f ⟨⟨r0, -⟩, k1⟩
      refine kM (kc (kA f 5 48) k0) fun p => ?_
      refine sL 3 48 g8 2 0 (.int .i64 a0) 49 k1 rfl ?_
      exact eK p
    ·refine oH 1 2 ?_
     ·rintro ρ' w' hs f ⟨⟨k2, -⟩, k3⟩
      refine kM (kc (kA f 6 49) k0) fun p => ?_
      refine cF 82 #[(.tmp 49)] #[2] 50 Tryz.call82 (Vk  a0 w'  b6 j3) ?_
      rintro e r1 ⟨rfl, g1⟩
      refine ⟨_, rfl, ?_⟩
      have k4 := SP.call k3 g1
      clear g1
      refine ⟨_, Qg p, rfl, ?_⟩
      exact (And.intro (And.intro k2 (And.intro rfl (trivial))) (k4))
    ·refine oL 2 ?_
     ·rintro ρ' w' hs f ⟨⟨r2, k5, -⟩, r3⟩
      refine kN [(47, (.string ⟨List.toArray c9⟩)), (50, (.string ⟨List.toArray b6⟩))] ⟨f 4 47 K, (Qv (h := 7) K).symm.trans k5, trivial⟩ fun p => ?_
      refine Qi (T := 9) (T' := 9) (x := (.tmp 47)) (y := (.tmp 50)) (a := c9) (b := b6) (d := (some 51)) (k := 8) K rfl K K hl70 ?_
      rw [hyl69]
      exact eK p
    ·exact oV (hC (hA 8 51) (h0)) (.string ⟨List.toArray c3⟩)
    ·rintro ρ' w' hs hf ⟨⟨r4, r5, -⟩, g2⟩
     refine V3 [(1, (pt g8 0)), (3, (.string ⟨List.toArray c3⟩))] ⟨(hs 1 K).trans K, hf 9 3 K, trivial⟩ ?_
     obtain ⟨r6, k6⟩ : ∃ x, w' = x := ⟨_, rfl⟩
     rw [k6] at g2 ⊢
     refine aQ ?_
     refine aQ ?_
     refine aR ?_
     refine iR 1 1 [(4, (.int .i64 0))] ?_
     refine iF ?_
     refine J2 K (id := 0) K ?_
     refine Du K (fun f9 ρ w => ∃ (a4 : (List UInt8)) (q : Int), Q7 ρ [(1, (pt g8 0)), (3, (.string ⟨List.toArray a4⟩)), (4, (.int .i64 q))] ∧ SP [] w0 w [Qk g8 55 #[(.int .i64 a3), (.int .i64 a2), (.int .i64 a0), (.slice A5 (List.length u) c6)]] ∧ Qw u f9 a4 q = some r) (by rintro ρ w ⟨a4, q, hk, hs, H⟩; cases H) ?_ Y1 ?_
     ·rintro f9 ρ r7 ⟨a4, q, hk, b7, H⟩
      refine At.known [(1, (pt g8 0)), (3, (.string ⟨List.toArray a4⟩)), (4, (.int .i64 q))] hk ?_
      replace H := (show Xc (Qw u f9) u a4 q = some r from H)
      unfold Xc at H
      refine aQ ?_
      refine aQ ?_
      refine aR ?_
      refine iR 2 2 [(52, (.int .i64 q)), (53, (pt g8 3))] ?_
      refine iS 3 ?_
      refine sL 53 53 g8 3 0 (.slice A5 (List.length u) c6) 54 b7 rfl ?_
      refine iR 2 5 [(55, (.int .i64 ((List.length u : Nat) : Int))), (56, (.bool (decide (q < ((List.length u : Nat) : Int)))))] ?_
      refine iF ?_
      refine Vm K (o := (.tmp 56)) K (b := (decide (q < ((List.length u : Nat) : Int)))) K (fun e4 => ?_) (fun e4 => ?_)
      ·have H := ct H e4
       refine At.skip K ?_
       refine aQ ?_
       refine J2 K (id := 1) K ?_
       refine aQ ?_
       refine aR ?_
       refine iR 1 1 [(59, (pt g8 3))] ?_
       refine iS 2 ?_
       refine sL 53 59 g8 3 0 (.slice A5 (List.length u) c6) 60 b7 rfl ?_
       refine iR 1 3 [(61, (.int .i64 q))] ?_
       obtain ⟨m, g3, g4, k7, H⟩ := Vf H
       refine iS 4 ?_
       refine Z6 (e := (Qf (Jw .i64) (Qf Qn (Qf Qm Qm)))) (l := u) (A := A5) (c := c6) (T := 53) (E := 108) (x := (.tmp 60)) (ix := (.tmp 61)) (ki := .i64) (iz := q) (d := (some 62)) (k := 3) K rfl K K K K (RdT.sp c4 b7) g3 g4 ?_
       intro k8 k9 l0 r8 hc749
       refine iS 5 ?_
       refine Qh.cells (t := 108) (x := (.tmp 62)) (b := k8) (off := (k9 + Int.toNat q * (Qf (Jw .i64) (Qf Qn (Qf Qm Qm))).sz)) (xs := [(.int .i64 m.1), (.string ⟨List.toArray m.2.1⟩), (.bool m.2.2.1), (.bool m.2.2.2)]) (d := (some 63)) (k := 4) K rfl K K K (Bn (e := (Qf (Jw .i64) (Qf Qn (Qf Qm Qm)))) (Yr (RdT.sp c4 b7) l0 g3 g4) k7 rfl) ?_
       refine iS 6 ?_
       refine Qh.alloc (t := 108) (z := (.agg #[(.int .i64 0), (.string ⟨List.toArray ([] : List UInt8)⟩), (.bool false), (.bool false)])) (d := (some 5)) (k := 5) K rfl K b7 ?_
       intro s r9 l1
       refine iS 7 ?_
       refine Qh.store (t := 108) (x := (.tmp 5)) (y := (.tmp 63)) (g := s) (off := 0) (i := 1) (v := (.agg #[(.int .i64 m.1), (.string ⟨List.toArray m.2.1⟩), (.bool m.2.2.1), (.bool m.2.2.2)])) (cs' := #[(.int .i64 m.1), (.string ⟨List.toArray m.2.1⟩), (.bool m.2.2.1), (.bool m.2.2.2)]) (d := none) (k := 6) K rfl K K l1 rfl K ?_
       intro s0 e5
       refine iF ?_
       refine aQ ?_
       refine aQ ?_
       refine At.join (fun ρ w => ∃ (b8 : Bool), Q7 ρ [(1, (pt g8 0)), (3, (.string ⟨List.toArray a4⟩)), (4, (.int .i64 q)), (5, (pt s 0)), (83, (.bool b8))] ∧ SP [] w0 w [Qk g8 55 #[(.int .i64 a3), (.int .i64 a2), (.int .i64 a0), (.slice A5 (List.length u) c6)], Qk s 108 #[(.int .i64 m.1), (.string ⟨List.toArray m.2.1⟩), (.bool m.2.2.1), (.bool m.2.2.2)]] ∧ V0 (Qw u f9) a4 q m b8 = some r) ?_ ?_
       ·obtain ⟨a5, e6, H⟩ := Qa H
        rcases Bool.eq_false_or_eq_true (!a5) with a6 | a6
        ·have H := ct H a6
         refine aG [GEq (pt s 0), GEq (.int .i64 m.1), GEq (.bool a5), GEq (.bool (!a5)), GEq (.bool (!a5)), GEq undef, GEq undef, GEq undef, GEq undef, GEq undef, GEq undef, GEq undef, GEq undef, GEq undef, GEq undef, GEq undef, GEq undef, GEq undef, GEq undef, GEq (.bool true)] [2] (tG [] w0 [Qk g8 55 #[(.int .i64 a3), (.int .i64 a2), (.int .i64 a0), (.slice A5 (List.length u) c6)], Qk s 108 #[(.int .i64 m.1), (.string ⟨List.toArray m.2.1⟩), (.bool m.2.2.1), (.bool m.2.2.2)]] [([], []), ([2], [(.bool a5)])]) 20 1 ⟨trivial, SP.drew e5⟩ ?_ ?_
         iterate 20 refine And.intro ?_ ?_
         exact trivial
         ·exact oV (hC (hS 5 (pt s 0)) (h0)) (pt s 0)
         ·refine oL 0 ?_
          ·rintro ρ' w' hs f ⟨s1, l2⟩
           refine kM (kc (kA f 0 64) k0) fun p => ?_
           refine sL 3 64 s 0 1 (.int .i64 m.1) 65 l2 rfl ?_
           exact eK p
         ·refine oH 0 1 ?_
          ·rintro ρ' w' hs f ⟨s2, l3⟩
           refine kM (kc (kA f 1 65) k0) fun p => ?_
           refine cF 83 #[(.tmp 65)] #[2] 66 Tryz.call83 (V6  m.1 w'  a5 e6) ?_
           rintro e s3 ⟨rfl, g5⟩
           refine ⟨_, rfl, ?_⟩
           have l4 := SP.call l3 g5
           clear g5
           refine ⟨_, Qg p, rfl, ?_⟩
           exact (And.intro (And.intro rfl (trivial)) (l4))
         ·exact oV (hC (hA 2 66) (h0)) (.bool (!a5))
         ·exact oV (hC (hA 3 67) (h0)) (.bool (!a5))
         ·exact oW (hC (hB 4 68 a6) (h0)) 69
         ·exact oW (hC (hB 4 68 a6) (h0)) 70
         ·exact oW (hC (hB 4 68 a6) (h0)) 71
         ·exact oW (hC (hA 7 71) (h0)) 72
         ·exact oW (hC (hA 7 71) (h0)) 73
         ·exact oW (hC (hA 7 71) (h0)) 74
         ·exact oW (hC (hA 7 71) (h0)) 75
         ·exact oW (hC (hA 7 71) (h0)) 76
         ·exact oW (hC (hA 7 71) (h0)) 77
         ·exact oW (hC (hA 7 71) (h0)) 78
         ·exact oW (hC (hA 7 71) (h0)) 79
         ·exact oW (hC (hA 7 71) (h0)) 80
         ·exact oW (hC (hA 7 71) (h0)) 81
         ·exact oW (hC (hB 4 68 a6) (h0)) 82
         ·exact oV (hC (hB 4 68 a6) (hC (hA 18 82) (h0))) (.bool true)
         ·rintro ρ' w' hs hf ⟨⟨s4, -⟩, g6⟩
          refine V3 [(1, (pt g8 0)), (3, (.string ⟨List.toArray a4⟩)), (4, (.int .i64 q)), (5, (pt s 0)), (83, (.bool true))] ⟨(hs 1 K).trans K, (hs 3 K).trans K, (hs 4 K).trans K, (hs 5 K).trans K, hf 19 83 K, trivial⟩ ?_
          obtain ⟨s5, l5⟩ : ∃ x, w' = x := ⟨_, rfl⟩
          rw [l5] at g6 ⊢
          exact ⟨true, ⟨K, K, K, K, K, trivial⟩, SP.sel g6 [0, 1] rfl rfl, H⟩
        ·have H := cf H a6
         rcases Bool.eq_false_or_eq_true (decide (q > 0)) with a1 | a1
         ·have H := ct H a1
          obtain ⟨a7, g7, g9, l6, H⟩ := Vf H
          refine aG [GEq (pt s 0), GEq (.int .i64 m.1), GEq (.bool a5), GEq (.bool (!a5)), GEq (.bool (!a5)), GEq (.int .i64 q), GEq (.bool (decide (q > 0))), GEq (.bool (decide (q > 0))), GEq (pt g8 3), GEq (.slice A5 (List.length u) c6), GEq (.int .i64 q), GEq (.int .i64 (IntKind.wrap .i64 (q - 1))), El A5 (Qf (Jw .i64) (Qf Qn (Qf Qm Qm))).sz (IntKind.wrap .i64 (q - 1)), El A5 (Qf (Jw .i64) (Qf Qn (Qf Qm Qm))).sz (IntKind.wrap .i64 (q - 1)), GEq (.int .i64 a7.1), GEq (pt s 0), GEq (.int .i64 m.1), GEq (.bool (decide (a7.1 ≥ m.1))), GEq (.bool (decide (a7.1 ≥ m.1))), GEq (.bool (decide (a7.1 ≥ m.1)))] [2] (tG [] w0 [Qk g8 55 #[(.int .i64 a3), (.int .i64 a2), (.int .i64 a0), (.slice A5 (List.length u) c6)], Qk s 108 #[(.int .i64 m.1), (.string ⟨List.toArray m.2.1⟩), (.bool m.2.2.1), (.bool m.2.2.2)]] [([], []), ([2], [(.bool a5)])]) 20 1 ⟨trivial, SP.drew e5⟩ ?_ ?_
          iterate 20 refine And.intro ?_ ?_
          exact trivial
          ·exact oV (hC (hS 5 (pt s 0)) (h0)) (pt s 0)
          ·refine oL 0 ?_
           ·rintro ρ' w' hs f ⟨s6, l7⟩
            refine kM (kc (kA f 0 64) k0) fun p => ?_
            refine sL 3 64 s 0 1 (.int .i64 m.1) 65 l7 rfl ?_
            exact eK p
          ·refine oH 0 1 ?_
           ·rintro ρ' w' hs f ⟨s7, l8⟩
            refine kM (kc (kA f 1 65) k0) fun p => ?_
            refine cF 83 #[(.tmp 65)] #[2] 66 Tryz.call83 (V6  m.1 w'  a5 e6) ?_
            rintro e s8 ⟨rfl, h1⟩
            refine ⟨_, rfl, ?_⟩
            have l9 := SP.call l8 h1
            clear h1
            refine ⟨_, Qg p, rfl, ?_⟩
            exact (And.intro (And.intro rfl (trivial)) (l9))
          ·exact oV (hC (hA 2 66) (h0)) (.bool (!a5))
          ·exact oV (hC (hA 3 67) (h0)) (.bool (!a5))
          ·exact oV (hC (hS 4 (.int .i64 q)) (hC (hB 4 68 a6) (h0))) (.int .i64 q)
          ·exact oV (hC (hA 5 69) (hC (hB 4 68 a6) (h0))) (.bool (decide (q > 0)))
          ·exact oV (hC (hA 6 70) (hC (hB 4 68 a6) (h0))) (.bool (decide (q > 0)))
          ·exact oV (hC (hS 1 (pt g8 0)) (hC (hB 7 71 a1) (h0))) (pt g8 3)
          ·refine oL 1 ?_
           ·rintro ρ' w' hs f ⟨⟨s9, -⟩, m0⟩
            have m1 := f 8 72 K
            have b0 := f 7 71 K
            refine kN [(72, (pt g8 3)), (71, (.bool true))] ⟨m1, (Eq.trans b0 (congrArg Value.bool a1)), trivial⟩ fun p => ?_
            refine sL 53 72 g8 3 0 (.slice A5 (List.length u) c6) 73 m0 rfl ?_
            exact eK p
          ·exact oV (hC (hS 4 (.int .i64 q)) (hC (hB 7 71 a1) (h0))) (.int .i64 q)
          ·exact oV (hC (hA 10 74) (hC (hB 7 71 a1) (h0))) (.int .i64 (IntKind.wrap .i64 (q - 1)))
          ·refine oL 1 ?_
           ·rintro ρ' w' hs f ⟨⟨t0, -⟩, m2⟩
            have m3 := f 9 73 K
            have m4 := f 11 75 K
            have b0 := f 7 71 K
            refine kN [(73, (.slice A5 (List.length u) c6)), (75, (.int .i64 (IntKind.wrap .i64 (q - 1)))), (71, (.bool true))] ⟨m3, m4, (Eq.trans b0 (congrArg Value.bool a1)), trivial⟩ fun p => ?_
            refine Z6 (e := (Qf (Jw .i64) (Qf Qn (Qf Qm Qm)))) (l := u) (A := A5) (c := c6) (T := 53) (E := 108) (x := (.tmp 73)) (ix := (.tmp 75)) (ki := .i64) (iz := (IntKind.wrap .i64 (q - 1))) (d := (some 76)) (k := 12) K rfl K K K K (RdT.sp c4 m2) g7 g9 ?_
            intro m5 m6 m7 t1 hc1009
            exact ⟨rfl, _, Qg p, ⟨m5, m6, m7, rfl⟩⟩
          ·refine oL 1 ?_
           ·rintro ρ' w' hs f ⟨⟨t2, -⟩, t3⟩
            obtain ⟨e7, e8, m8, m9⟩ := f 12 76 K
            have b0 := f 7 71 K
            refine kN [(76, (.pointer (some ⟨e7, (e8 + Int.toNat (IntKind.wrap .i64 (q - 1)) * (Qf (Jw .i64) (Qf Qn (Qf Qm Qm))).sz), none⟩))), (71, (.bool true))] ⟨m9, (Eq.trans b0 (congrArg Value.bool a1)), trivial⟩ fun p => ?_
            refine Qh.run (k := 13) (v := (.pointer (some ⟨e7, (e8 + Int.toNat (IntKind.wrap .i64 (q - 1)) * (Qf (Jw .i64) (Qf Qn (Qf Qm Qm))).sz), none⟩))) K ?_
            exact ⟨rfl, _, Qg p, ⟨e7, e8, m8, rfl⟩⟩
          ·refine oL 1 ?_
           ·rintro ρ' w' hs f ⟨⟨t4, -⟩, n0⟩
            obtain ⟨h2, h3, n1, n2⟩ := f 13 77 K
            have b0 := f 7 71 K
            refine kN [(77, (.pointer (some ⟨h2, (h3 + Int.toNat (IntKind.wrap .i64 (q - 1)) * (Qf (Jw .i64) (Qf Qn (Qf Qm Qm))).sz), none⟩))), (71, (.bool true))] ⟨n2, (Eq.trans b0 (congrArg Value.bool a1)), trivial⟩ fun p => ?_
            refine sC 3 77 h2 (h3 + Int.toNat (IntKind.wrap .i64 (q - 1)) * (Qf (Jw .i64) (Qf Qn (Qf Qm Qm))).sz) (.int .i64 a7.1) 78 (J3 (e := (Qf (Jw .i64) (Qf Qn (Qf Qm Qm)))) (Yr (RdT.sp c4 n0) n1 g7 g9) l6 (j := 0) rfl) ?_
            exact eK p
          ·exact oV (hC (hS 5 (pt s 0)) (hC (hB 7 71 a1) (h0))) (pt s 0)
          ·refine oL 1 ?_
           ·rintro ρ' w' hs f ⟨⟨t5, -⟩, n3⟩
            have n4 := f 15 79 K
            have b0 := f 7 71 K
            refine kN [(79, (pt s 0)), (71, (.bool true))] ⟨n4, (Eq.trans b0 (congrArg Value.bool a1)), trivial⟩ fun p => ?_
            refine sL 3 79 s 0 1 (.int .i64 m.1) 80 n3 rfl ?_
            exact eK p
          ·exact oV (hC (hA 14 78) (hC (hA 16 80) (hC (hB 7 71 a1) (h0)))) (.bool (decide (a7.1 ≥ m.1)))
          ·exact oV (hC (hB 7 71 a1) (hC (hA 17 81) (hC (hB 4 68 a6) (h0)))) (.bool (decide (a7.1 ≥ m.1)))
          ·exact oV (hC (hB 4 68 a6) (hC (hA 18 82) (h0))) (.bool (decide (a7.1 ≥ m.1)))
          ·rintro ρ' w' hs hf ⟨⟨t6, -⟩, h4⟩
           refine V3 [(1, (pt g8 0)), (3, (.string ⟨List.toArray a4⟩)), (4, (.int .i64 q)), (5, (pt s 0)), (83, (.bool (decide (a7.1 ≥ m.1))))] ⟨(hs 1 K).trans K, (hs 3 K).trans K, (hs 4 K).trans K, (hs 5 K).trans K, hf 19 83 K, trivial⟩ ?_
           obtain ⟨t7, n5⟩ : ∃ x, w' = x := ⟨_, rfl⟩
           rw [n5] at h4 ⊢
           exact ⟨(decide (a7.1 ≥ m.1)), ⟨K, K, K, K, K, trivial⟩, SP.sel h4 [0, 1] rfl rfl, H⟩
         ·have H := cf H a1
          refine aG [GEq (pt s 0), GEq (.int .i64 m.1), GEq (.bool a5), GEq (.bool (!a5)), GEq (.bool (!a5)), GEq (.int .i64 q), GEq (.bool (decide (q > 0))), GEq (.bool (decide (q > 0))), GEq undef, GEq undef, GEq undef, GEq undef, GEq undef, GEq undef, GEq undef, GEq undef, GEq undef, GEq undef, GEq (.bool false), GEq (.bool false)] [2] (tG [] w0 [Qk g8 55 #[(.int .i64 a3), (.int .i64 a2), (.int .i64 a0), (.slice A5 (List.length u) c6)], Qk s 108 #[(.int .i64 m.1), (.string ⟨List.toArray m.2.1⟩), (.bool m.2.2.1), (.bool m.2.2.2)]] [([], []), ([2], [(.bool a5)])]) 20 1 ⟨trivial, SP.drew e5⟩ ?_ ?_
          iterate 20 refine And.intro ?_ ?_
          exact trivial
          ·exact oV (hC (hS 5 (pt s 0)) (h0)) (pt s 0)
          ·refine oL 0 ?_
           ·rintro ρ' w' hs f ⟨t8, n6⟩
            refine kM (kc (kA f 0 64) k0) fun p => ?_
            refine sL 3 64 s 0 1 (.int .i64 m.1) 65 n6 rfl ?_
            exact eK p
          ·refine oH 0 1 ?_
           ·rintro ρ' w' hs f ⟨t9, n7⟩
            refine kM (kc (kA f 1 65) k0) fun p => ?_
            refine cF 83 #[(.tmp 65)] #[2] 66 Tryz.call83 (V6  m.1 w'  a5 e6) ?_
            rintro e u0 ⟨rfl, h5⟩
            refine ⟨_, rfl, ?_⟩
            have n8 := SP.call n7 h5
            clear h5
            refine ⟨_, Qg p, rfl, ?_⟩
            exact (And.intro (And.intro rfl (trivial)) (n8))
          ·exact oV (hC (hA 2 66) (h0)) (.bool (!a5))
          ·exact oV (hC (hA 3 67) (h0)) (.bool (!a5))
          ·exact oV (hC (hS 4 (.int .i64 q)) (hC (hB 4 68 a6) (h0))) (.int .i64 q)
          ·exact oV (hC (hA 5 69) (hC (hB 4 68 a6) (h0))) (.bool (decide (q > 0)))
          ·exact oV (hC (hA 6 70) (hC (hB 4 68 a6) (h0))) (.bool (decide (q > 0)))
          ·exact oW (hC (hB 7 71 a1) (h0)) 72
          ·exact oW (hC (hB 7 71 a1) (h0)) 73
          ·exact oW (hC (hB 7 71 a1) (h0)) 74
          ·exact oW (hC (hB 7 71 a1) (h0)) 75
          ·exact oW (hC (hB 7 71 a1) (h0)) 76
          ·exact oW (hC (hB 7 71 a1) (h0)) 77
          ·exact oW (hC (hB 7 71 a1) (h0)) 78
          ·exact oW (hC (hB 7 71 a1) (h0)) 79
          ·exact oW (hC (hB 7 71 a1) (h0)) 80
          ·exact oW (hC (hB 7 71 a1) (h0)) 81
          ·exact oV (hC (hB 7 71 a1) (hC (hA 17 81) (hC (hB 4 68 a6) (h0)))) (.bool false)
          ·exact oV (hC (hB 4 68 a6) (hC (hA 18 82) (h0))) (.bool false)
          ·rintro ρ' w' hs hf ⟨⟨u1, -⟩, h6⟩
           refine V3 [(1, (pt g8 0)), (3, (.string ⟨List.toArray a4⟩)), (4, (.int .i64 q)), (5, (pt s 0)), (83, (.bool false))] ⟨(hs 1 K).trans K, (hs 3 K).trans K, (hs 4 K).trans K, (hs 5 K).trans K, hf 19 83 K, trivial⟩ ?_
           obtain ⟨u2, n9⟩ : ∃ x, w' = x := ⟨_, rfl⟩
           rw [n9] at h6 ⊢
           exact ⟨false, ⟨K, K, K, K, K, trivial⟩, SP.sel h6 [0, 1] rfl rfl, H⟩
       ·rintro ρ u3 ⟨b8, hk, h7, H⟩
        unfold V0 at H
        first | refine At.known [(1, (pt g8 0)), (3, (.string ⟨List.toArray a4⟩)), (4, (.int .i64 q)), (5, (pt s 0)), (83, (.bool b8))] hk ?_ | rw [← Qc (l := [(1, (pt g8 0)), (3, (.string ⟨List.toArray a4⟩)), (4, (.int .i64 q)), (5, (pt s 0)), (83, (.bool b8))]) hk]
        refine Vm K (o := (.tmp 83)) K (b := b8) K (fun e9 => ?_) (fun e9 => ?_)
        ·have H := ct H e9
         refine aQ ?_
         refine aR ?_
         refine iR 1 1 [(2, (.string ⟨List.toArray ([] : List UInt8)⟩))] ?_
         refine iF ?_
         refine At.ret K ?_
         refine ⟨(.string ⟨List.toArray ([] : List UInt8)⟩), K, ?_⟩
         obtain rfl := Qb H
         exact ⟨rfl, SP.sel h7 [] rfl rfl⟩
        ·have H := cf H e9
         refine At.skip K ?_
         refine aQ ?_
         obtain ⟨hl855, H⟩ := Vb H
         obtain ⟨b9, hyl854⟩ : ∃ y, a4 ++ ([32] : List UInt8) = y := ⟨_, rfl⟩
         rw [hyl854] at H
         obtain ⟨b1, o0, H⟩ := Qa H
         obtain ⟨hl863, H⟩ := Vb H
         obtain ⟨d0, hyl862⟩ : ∃ y, b9 ++ b1 = y := ⟨_, rfl⟩
         rw [hyl862] at H
         obtain ⟨hl865, H⟩ := Vb H
         obtain ⟨d1, hyl864⟩ : ∃ y, d0 ++ ([61] : List UInt8) = y := ⟨_, rfl⟩
         rw [hyl864] at H
         obtain ⟨c0, o1, H⟩ := Qa H
         obtain ⟨hl873, H⟩ := Vb H
         obtain ⟨b3, hyl872⟩ : ∃ y, d1 ++ c0 = y := ⟨_, rfl⟩
         rw [hyl872] at H
         refine aG [GEq (.string ⟨List.toArray a4⟩), GEq (.string ⟨List.toArray b9⟩), GEq (pt s 0), GEq (.int .i64 m.1), GEq (.string ⟨List.toArray b1⟩), GEq (.string ⟨List.toArray d0⟩), GEq (.string ⟨List.toArray d1⟩), GEq (pt s 1), GEq (.string ⟨List.toArray m.2.1⟩), GEq (.string ⟨List.toArray c0⟩), GEq (.string ⟨List.toArray b3⟩), GEq (.string ⟨List.toArray b3⟩)] [4, 9] (tG [] w0 [Qk g8 55 #[(.int .i64 a3), (.int .i64 a2), (.int .i64 a0), (.slice A5 (List.length u) c6)], Qk s 108 #[(.int .i64 m.1), (.string ⟨List.toArray m.2.1⟩), (.bool m.2.2.1), (.bool m.2.2.2)]] [([], []), ([4], [(.string ⟨List.toArray b1⟩)]), ([4, 9], [(.string ⟨List.toArray b1⟩), (.string ⟨List.toArray c0⟩)])]) 12 2 ⟨trivial, SP.drew h7⟩ ?_ ?_
         iterate 12 refine And.intro ?_ ?_
         exact trivial
         ·exact oV (hC (hS 3 (.string ⟨List.toArray a4⟩)) (h0)) (.string ⟨List.toArray a4⟩)
         ·refine Owe.light K [0, 1, 2] K (Qe ?_ (Qe ?_ (Qe ?_ Vl)))
          ·rintro ρ' w' hs f ⟨u4, u5⟩
           refine kM (kc (kA f 0 84) k0) fun p => ?_
           refine Qi (T := 9) (T' := 9) (x := (.tmp 84)) (y := (.const (.string ⟨List.toArray ([32] : List UInt8)⟩))) (a := a4) (b := ([32] : List UInt8)) (d := (some 85)) (k := 1) K rfl K K hl855 ?_
           rw [hyl854]
           exact eK p
          ·rintro ρ' w' hs f ⟨⟨u6, -⟩, u7⟩
           refine kM (kc (kA f 0 84) k0) fun p => ?_
           refine Qi (T := 9) (T' := 9) (x := (.tmp 84)) (y := (.const (.string ⟨List.toArray ([32] : List UInt8)⟩))) (a := a4) (b := ([32] : List UInt8)) (d := (some 85)) (k := 1) K rfl K K hl855 ?_
           rw [hyl854]
           exact eK p
          ·rintro ρ' w' hs f ⟨⟨u8, u9, -⟩, v0⟩
           refine kM (kc (kA f 0 84) k0) fun p => ?_
           refine Qi (T := 9) (T' := 9) (x := (.tmp 84)) (y := (.const (.string ⟨List.toArray ([32] : List UInt8)⟩))) (a := a4) (b := ([32] : List UInt8)) (d := (some 85)) (k := 1) K rfl K K hl855 ?_
           rw [hyl854]
           exact eK p
         ·exact oV (hC (hS 5 (pt s 0)) (h0)) (pt s 0)
         ·refine oL 0 ?_
          ·rintro ρ' w' hs f ⟨v1, o2⟩
           refine kM (kc (kA f 2 86) k0) fun p => ?_
           refine sL 3 86 s 0 1 (.int .i64 m.1) 87 o2 rfl ?_
           exact eK p
         ·refine oH 0 1 ?_
          ·rintro ρ' w' hs f ⟨v2, o3⟩
           refine kM (kc (kA f 3 87) k0) fun p => ?_
           refine cF 82 #[(.tmp 87)] #[2] 88 Tryz.call82 (Vk  m.1 w'  b1 o0) ?_
           rintro e v3 ⟨rfl, h8⟩
           refine ⟨_, rfl, ?_⟩
           have o4 := SP.call o3 h8
           clear h8
           refine ⟨_, Qg p, rfl, ?_⟩
           exact (And.intro (And.intro rfl (trivial)) (o4))
         ·refine Owe.light K [1, 2] K (Qe ?_ (Qe ?_ Vl))
          ·rintro ρ' w' hs f ⟨⟨o5, -⟩, v4⟩
           refine kN [(85, (.string ⟨List.toArray b9⟩)), (88, (.string ⟨List.toArray b1⟩))] ⟨f 1 85 K, (Qv (h := 4) K).symm.trans o5, trivial⟩ fun p => ?_
           refine Qi (T := 9) (T' := 9) (x := (.tmp 85)) (y := (.tmp 88)) (a := b9) (b := b1) (d := (some 89)) (k := 5) K rfl K K hl863 ?_
           rw [hyl862]
           exact eK p
          ·rintro ρ' w' hs f ⟨⟨o6, v5, -⟩, v6⟩
           refine kN [(85, (.string ⟨List.toArray b9⟩)), (88, (.string ⟨List.toArray b1⟩))] ⟨f 1 85 K, (Qv (h := 4) K).symm.trans o6, trivial⟩ fun p => ?_
           refine Qi (T := 9) (T' := 9) (x := (.tmp 85)) (y := (.tmp 88)) (a := b9) (b := b1) (d := (some 89)) (k := 5) K rfl K K hl863 ?_
           rw [hyl862]
           exact eK p
         ·refine Owe.light K [1, 2] K (Qe ?_ (Qe ?_ Vl))
          ·rintro ρ' w' hs f ⟨⟨v7, -⟩, v8⟩
           refine kM (kc (kA f 5 89) k0) fun p => ?_
           refine Qi (T := 9) (T' := 9) (x := (.tmp 89)) (y := (.const (.string ⟨List.toArray ([61] : List UInt8)⟩))) (a := d0) (b := ([61] : List UInt8)) (d := (some 90)) (k := 6) K rfl K K hl865 ?_
           rw [hyl864]
           exact eK p
          ·rintro ρ' w' hs f ⟨⟨v9, w1, -⟩, w2⟩
           refine kM (kc (kA f 5 89) k0) fun p => ?_
           refine Qi (T := 9) (T' := 9) (x := (.tmp 89)) (y := (.const (.string ⟨List.toArray ([61] : List UInt8)⟩))) (a := d0) (b := ([61] : List UInt8)) (d := (some 90)) (k := 6) K rfl K K hl865 ?_
           rw [hyl864]
           exact eK p
         ·exact oV (hC (hS 5 (pt s 0)) (h0)) (pt s 1)
         ·refine Owe.light K [0, 1] K (Qe ?_ (Qe ?_ Vl))
          ·rintro ρ' w' hs f ⟨w3, o7⟩
           refine kM (kc (kA f 7 91) k0) fun p => ?_
           refine sL 9 91 s 1 1 (.string ⟨List.toArray m.2.1⟩) 92 o7 rfl ?_
           exact eK p
          ·rintro ρ' w' hs f ⟨⟨w4, -⟩, o8⟩
           refine kM (kc (kA f 7 91) k0) fun p => ?_
           refine sL 9 91 s 1 1 (.string ⟨List.toArray m.2.1⟩) 92 o8 rfl ?_
           exact eK p
         ·refine oH 1 2 ?_
          ·rintro ρ' w' hs f ⟨⟨o9, -⟩, p0⟩
           refine kM (kc (kA f 8 92) k0) fun p => ?_
           refine cF 81 #[(.tmp 92)] #[9] 93 Tryz.call81 (Yg  m.2.1 w'  c0 o1) ?_
           rintro e w5 ⟨rfl, h9⟩
           refine ⟨_, rfl, ?_⟩
           have p1 := SP.call p0 h9
           clear h9
           refine ⟨_, Qg p, rfl, ?_⟩
           exact (And.intro (And.intro o9 (And.intro rfl (trivial))) (p1))
         ·refine oL 2 ?_
          ·rintro ρ' w' hs f ⟨⟨w6, p2, -⟩, w7⟩
           refine kN [(90, (.string ⟨List.toArray d1⟩)), (93, (.string ⟨List.toArray c0⟩))] ⟨f 6 90 K, (Qv (h := 9) K).symm.trans p2, trivial⟩ fun p => ?_
           refine Qi (T := 9) (T' := 9) (x := (.tmp 90)) (y := (.tmp 93)) (a := d1) (b := c0) (d := (some 94)) (k := 10) K rfl K K hl873 ?_
           rw [hyl872]
           exact eK p
         ·exact oV (hC (hA 10 94) (h0)) (.string ⟨List.toArray b3⟩)
         ·rintro ρ' w' hs hf ⟨⟨w8, x0, -⟩, d2⟩
          refine V3 [(1, (pt g8 0)), (3, (.string ⟨List.toArray b3⟩)), (4, (.int .i64 q)), (5, (pt s 0))] ⟨(hs 1 K).trans K, hf 11 3 K, (hs 4 K).trans K, (hs 5 K).trans K, trivial⟩ ?_
          obtain ⟨x1, p3⟩ : ∃ x, w' = x := ⟨_, rfl⟩
          rw [p3] at d2 ⊢
          refine aQ ?_
          refine aQ ?_
          refine aR ?_
          refine iR 1 1 [(95, (pt s 2))] ?_
          refine iS 2 ?_
          refine sL 4 95 s 2 1 (.bool m.2.2.1) 96 d2 rfl ?_
          refine iF ?_
          refine At.join (fun ρ w => ∃ (b2 : (List UInt8)), Q7 ρ [(1, (pt g8 0)), (3, (.string ⟨List.toArray b2⟩)), (4, (.int .i64 q)), (5, (pt s 0))] ∧ SP [] w0 w [Qk g8 55 #[(.int .i64 a3), (.int .i64 a2), (.int .i64 a0), (.slice A5 (List.length u) c6)], Qk s 108 #[(.int .i64 m.1), (.string ⟨List.toArray m.2.1⟩), (.bool m.2.2.1), (.bool m.2.2.2)]] ∧ Yu (Qw u f9) q m b2 = some r) ?_ ?_
          ·refine Vm K (o := (.tmp 96)) K (b := m.2.2.1) K (fun f0 => ?_) (fun f0 => ?_)
           ·have H := ct H f0
            refine aR ?_
            refine iR 1 1 [(97, (.string ⟨List.toArray b3⟩))] ?_
            obtain ⟨hl955, H⟩ := Vb H
            obtain ⟨i0, hyl954⟩ : ∃ y, b3 ++ ([43] : List UInt8) = y := ⟨_, rfl⟩
            rw [hyl954] at H
            refine iS 2 ?_
            refine Qi (T := 9) (T' := 9) (x := (.tmp 97)) (y := (.const (.string ⟨List.toArray ([43] : List UInt8)⟩))) (a := b3) (b := ([43] : List UInt8)) (d := (some 98)) (k := 1) K rfl K K hl955 ?_
            rw [hyl954]
            refine iR 1 3 [(3, (.string ⟨List.toArray i0⟩))] ?_
            refine iF ?_
            exact ⟨i0, ⟨K, K, K, K, trivial⟩, SP.sel d2 [0, 1] rfl rfl, H⟩
           ·have H := cf H f0
            refine At.skip K ?_
            exact ⟨b3, ⟨K, K, K, K, trivial⟩, SP.sel d2 [0, 1] rfl rfl, H⟩
          ·rintro ρ x2 ⟨b2, hk, f1, H⟩
           unfold Yu at H
           first | refine At.known [(1, (pt g8 0)), (3, (.string ⟨List.toArray b2⟩)), (4, (.int .i64 q)), (5, (pt s 0))] hk ?_ | rw [← Qc (l := [(1, (pt g8 0)), (3, (.string ⟨List.toArray b2⟩)), (4, (.int .i64 q)), (5, (pt s 0))]) hk]
           refine aQ ?_
           refine aR ?_
           refine iR 1 1 [(99, (pt s 3))] ?_
           refine iS 2 ?_
           refine sL 4 99 s 3 1 (.bool m.2.2.2) 100 f1 rfl ?_
           refine iF ?_
           refine At.join (fun ρ w => ∃ (c1 : (List UInt8)), Q7 ρ [(1, (pt g8 0)), (3, (.string ⟨List.toArray c1⟩)), (4, (.int .i64 q))] ∧ SP [] w0 w [Qk g8 55 #[(.int .i64 a3), (.int .i64 a2), (.int .i64 a0), (.slice A5 (List.length u) c6)]] ∧ Xx (Qw u f9) q c1 = some r) ?_ ?_
           ·refine Vm K (o := (.tmp 100)) K (b := m.2.2.2) K (fun f2 => ?_) (fun f2 => ?_)
            ·have H := ct H f2
             refine aR ?_
             refine iR 1 1 [(101, (.string ⟨List.toArray b2⟩))] ?_
             obtain ⟨hl952, H⟩ := Vb H
             obtain ⟨i1, hyl951⟩ : ∃ y, b2 ++ ([33] : List UInt8) = y := ⟨_, rfl⟩
             rw [hyl951] at H
             refine iS 2 ?_
             refine Qi (T := 9) (T' := 9) (x := (.tmp 101)) (y := (.const (.string ⟨List.toArray ([33] : List UInt8)⟩))) (a := b2) (b := ([33] : List UInt8)) (d := (some 102)) (k := 1) K rfl K K hl952 ?_
             rw [hyl951]
             refine iR 1 3 [(3, (.string ⟨List.toArray i1⟩))] ?_
             refine iF ?_
             exact ⟨i1, ⟨K, K, K, trivial⟩, SP.sel f1 [0] rfl rfl, H⟩
            ·have H := cf H f2
             refine At.skip K ?_
             exact ⟨b2, ⟨K, K, K, trivial⟩, SP.sel f1 [0] rfl rfl, H⟩
           ·rintro ρ x3 ⟨c1, hk, p4, H⟩
            unfold Xx at H
            first | refine At.known [(1, (pt g8 0)), (3, (.string ⟨List.toArray c1⟩)), (4, (.int .i64 q))] hk ?_ | rw [← Qc (l := [(1, (pt g8 0)), (3, (.string ⟨List.toArray c1⟩)), (4, (.int .i64 q))]) hk]
            refine aR ?_
            refine iR 3 3 [(57, (.int .i64 q)), (58, (.int .i64 (IntKind.wrap .i64 (q + 1)))), (4, (.int .i64 (IntKind.wrap .i64 (q + 1))))] ?_
            refine iF ?_
            exact ⟨c1, (IntKind.wrap .i64 (q + 1)), ⟨K, K, K, trivial⟩, SP.sel p4 [0] rfl rfl, H⟩
      ·have H := cf H e4
       refine At.exit K (id := 0) K ?_
       refine aQ ?_
       refine aR ?_
       refine iR 2 2 [(103, (.string ⟨List.toArray a4⟩)), (2, (.string ⟨List.toArray a4⟩))] ?_
       refine iF ?_
       refine At.ret K ?_
       refine ⟨(.string ⟨List.toArray a4⟩), K, ?_⟩
       obtain rfl := Qb H
       exact ⟨rfl, SP.sel b7 [] rfl rfl⟩
     ·exact ⟨c3, 0, ⟨K, K, K, trivial⟩, SP.sel g2 [0] rfl rfl, H⟩
def Yv (f : Int → Option (Int × (List UInt8) × Bool × Bool × Bool)) (a : (Int × Bool)) (b : Bool) (c : Bool) (d : ((List UInt8) × Bool)) (e : Bool) : Option (Int × (List UInt8) × Bool × Bool × Bool) :=
  (some (a.1, d.1, c, b, e))
def Xy (c : Int → Option (Int × (List UInt8) × Bool × Bool × Bool)) (a : (Int × Bool)) (d : Bool) (e : Bool) (f : (List UInt8)) : Option (Int × (List UInt8) × Bool × Bool × Bool) :=
  ((Xb f).bind fun b => (cond a.2 (Yv c a d e b b.2) (Yv c a d e b false)))
def Yw (b : Int → Option (Int × (List UInt8) × Bool × Bool × Bool)) (c : (Int × Bool)) (d : Bool) (a : (List UInt8)) (e : Bool) : Option (Int × (List UInt8) × Bool × Bool × Bool) :=
  (cond e ((sub a 0 (IntKind.wrap .i64 (((List.length a : Nat) : Int) - 1))).bind fun f => (Xy b c d true f)) (Xy b c d false a))
def Xz (b : Int → Option (Int × (List UInt8) × Bool × Bool × Bool)) (c : (Int × Bool)) (d : Bool) (a : (List UInt8)) : Option (Int × (List UInt8) × Bool × Bool × Bool) :=
  (cond (decide (((List.length a : Nat) : Int) > 0)) ((idx a (IntKind.wrap .i64 (((List.length a : Nat) : Int) - 1))).bind fun e => (Yw b c d a (((e).toNat : Int) == 43))) (Yw b c d a false))
def Zy (b : Int → Option (Int × (List UInt8) × Bool × Bool × Bool)) (c : (Int × Bool)) (a : (List UInt8)) (d : Bool) : Option (Int × (List UInt8) × Bool × Bool × Bool) :=
  (cond d ((sub a 0 (IntKind.wrap .i64 (((List.length a : Nat) : Int) - 1))).bind fun e => (Xz b c true e)) (Xz b c false a))
def X0 (c : Int → Option (Int × (List UInt8) × Bool × Bool × Bool)) (p1 : (List UInt8)) (b : Int) (e : Bool) : Option (Int × (List UInt8) × Bool × Bool × Bool) :=
  (cond e (c (IntKind.wrap .i64 (b + 1))) (cond (b == ((List.length p1 : Nat) : Int)) (some (0, ([] : List UInt8), false, false, false)) ((sub p1 0 b).bind fun f => ((Zo f).bind fun d => ((sub p1 (IntKind.wrap .i64 (b + 1)) ((List.length p1 : Nat) : Int)).bind fun a => (cond (decide (((List.length a : Nat) : Int) > 0)) ((idx a (IntKind.wrap .i64 (((List.length a : Nat) : Int) - 1))).bind fun g => (Zy c d a (((g).toNat : Int) == 33))) (Zy c d a false)))))))
def Xd (b : Int → Option (Int × (List UInt8) × Bool × Bool × Bool)) (p1 : (List UInt8)) (a : Int) : Option (Int × (List UInt8) × Bool × Bool × Bool) :=
  (cond (decide (a < ((List.length p1 : Nat) : Int))) ((idx p1 a).bind fun c => (X0 b p1 a (((c).toNat : Int) != 61))) (X0 b p1 a false))
def Q5 (p1 : (List UInt8)) : Nat → Int → Option (Int × (List UInt8) × Bool × Bool × Bool)
  | 0, _ => none
  | f + 1, a => Xd  (Q5 p1 f) p1 a
def Gj (p1 : (List UInt8)) : Option (Int × (List UInt8) × Bool × Bool × Bool) :=
  (Q5 p1 Y1 0)
set_option maxHeartbeats 40000000 in
theorem By  (p1 : (List UInt8)) (w0 : World)  (r : (Int × (List UInt8) × Bool × Bool × Bool)) (H : Gj p1 = some r) :
  Calls Tryz.prog 78 #[(.string ⟨List.toArray p1⟩)] w0 (fun e w' => e = .returned (.tuple #[(.agg #[(.int .i64 r.1), (.string ⟨List.toArray r.2.1⟩), (.bool r.2.2.1), (.bool r.2.2.2.1)]), (.bool r.2.2.2.2)]) ∧ SP [] w0 w' []) := by
 unfold Gj at H
 refine Ql (n := 87) Tryz.func78 K K K ?_
 have d1 := Qy [] w0
 refine aQ ?_
 refine aR ?_
 refine iS 1 ?_
 refine Qh.alloc (t := 108) (z := (.agg #[(.int .i64 0), (.string ⟨List.toArray ([] : List UInt8)⟩), (.bool false), (.bool false)])) (d := (some 2)) (k := 0) K rfl K d1 ?_
 intro g2 w3 d2
 refine iR 1 2 [(3, (.bool false))] ?_
 refine iF ?_
 refine aQ ?_
 refine aR ?_
 refine iR 1 1 [(4, (.int .i64 0))] ?_
 refine iF ?_
 refine aQ ?_
 refine J2 K (id := 0) K ?_
 refine Du K (fun a1 ρ w => ∃ (f : Int), Q7 ρ [(0, (.string ⟨List.toArray p1⟩)), (2, (pt g2 0)), (4, (.int .i64 f))] ∧ SP [] w0 w [Qk g2 108 #[(.int .i64 0), (.string ⟨List.toArray ([] : List UInt8)⟩), (.bool false), (.bool false)]] ∧ Q5 p1 a1 f = some r) (by rintro ρ w ⟨f, hk, hs, H⟩; cases H) ?_ Y1 ?_
 ·rintro a1 ρ g5 ⟨f, hk, c0, H⟩
  refine At.known [(0, (.string ⟨List.toArray p1⟩)), (2, (pt g2 0)), (4, (.int .i64 f))] hk ?_
  replace H := (show Xd (Q5 p1 a1) p1 f = some r from H)
  unfold Xd at H
  refine aQ ?_
  refine aQ ?_
  refine At.join (fun ρ w => ∃ (a3 : Bool), Q7 ρ [(0, (.string ⟨List.toArray p1⟩)), (2, (pt g2 0)), (4, (.int .i64 f)), (20, (.bool a3))] ∧ SP [] w0 w [Qk g2 108 #[(.int .i64 0), (.string ⟨List.toArray ([] : List UInt8)⟩), (.bool false), (.bool false)]] ∧ X0 (Q5 p1 a1) p1 f a3 = some r) ?_ ?_
  ·refine aR ?_
   refine iR 5 5 [(11, (.int .i64 f)), (12, (.string ⟨List.toArray p1⟩)), (13, (.int .i64 ((List.length p1 : Nat) : Int))), (14, (.bool (decide (f < ((List.length p1 : Nat) : Int))))), (15, (.bool (decide (f < ((List.length p1 : Nat) : Int)))))] ?_
   refine In.guard (t := 15) (b := (decide (f < ((List.length p1 : Nat) : Int)))) K (fun b0 => ?_) (fun b0 => ?_)
   ·have H := ct H b0
    refine iR 2 7 [(16, (.string ⟨List.toArray p1⟩)), (17, (.int .i64 f))] ?_
    obtain ⟨a7, d3, g6, d4, H⟩ := Vf H
    refine iS 8 ?_
    refine Zd (a := p1) (u := a7) (T := 9) (x := (.tmp 16)) (ix := (.tmp 17)) (ki := .i64) (iz := f) (d := (some 18)) (k := 7) K rfl K K K d3 d4 ?_
    refine iR 2 10 [(19, (.bool (((a7).toNat : Int) != 61))), (20, (.bool (((a7).toNat : Int) != 61)))] ?_
    refine iF ?_
    exact ⟨(((a7).toNat : Int) != 61), ⟨K, K, K, K, trivial⟩, SP.sel c0 [0] rfl rfl, H⟩
   ·have H := cf H b0
    refine iR 5 10 [(16, undef), (17, undef), (18, undef), (19, undef), (20, (.bool false))] ?_
    refine iF ?_
    exact ⟨false, ⟨K, K, K, K, trivial⟩, SP.sel c0 [0] rfl rfl, H⟩
  ·rintro ρ d5 ⟨a3, hk, b1, H⟩
   unfold X0 at H
   first | refine At.known [(0, (.string ⟨List.toArray p1⟩)), (2, (pt g2 0)), (4, (.int .i64 f)), (20, (.bool a3))] hk ?_ | rw [← Qc (l := [(0, (.string ⟨List.toArray p1⟩)), (2, (pt g2 0)), (4, (.int .i64 f)), (20, (.bool a3))]) hk]
   refine Vm K (o := (.tmp 20)) K (b := a3) K (fun b2 => ?_) (fun b2 => ?_)
   ·have H := ct H b2
    refine At.skip K ?_
    refine J2 K (id := 1) K ?_
    refine aR ?_
    refine iR 3 3 [(21, (.int .i64 f)), (22, (.int .i64 (IntKind.wrap .i64 (f + 1)))), (4, (.int .i64 (IntKind.wrap .i64 (f + 1))))] ?_
    refine iF ?_
    exact ⟨(IntKind.wrap .i64 (f + 1)), ⟨K, K, K, trivial⟩, SP.sel b1 [0] rfl rfl, H⟩
   ·have H := cf H b2
    refine At.exit K (id := 0) K ?_
    refine aQ ?_
    refine aQ ?_
    refine aR ?_
    refine iR 4 4 [(23, (.int .i64 f)), (24, (.string ⟨List.toArray p1⟩)), (25, (.int .i64 ((List.length p1 : Nat) : Int))), (26, (.bool (f == ((List.length p1 : Nat) : Int))))] ?_
    refine iF ?_
    refine Vm K (o := (.tmp 26)) K (b := (f == ((List.length p1 : Nat) : Int))) K (fun b3 => ?_) (fun b3 => ?_)
    ·have H := ct H b3
     refine aQ ?_
     refine aR ?_
     refine iR 1 1 [(27, (.agg #[(.int .i64 0), (.string ⟨List.toArray ([] : List UInt8)⟩), (.bool false), (.bool false)]))] ?_
     refine iS 2 ?_
     refine Qh.store (t := 108) (x := (.tmp 2)) (y := (.tmp 27)) (g := g2) (off := 0) (i := 0) (v := (.agg #[(.int .i64 0), (.string ⟨List.toArray ([] : List UInt8)⟩), (.bool false), (.bool false)])) (cs' := #[(.int .i64 0), (.string ⟨List.toArray ([] : List UInt8)⟩), (.bool false), (.bool false)]) (d := none) (k := 1) K rfl K K b1 rfl K ?_
     intro g7 c1
     refine iR 1 3 [(3, (.bool false))] ?_
     refine iF ?_
     refine At.ret K ?_
     refine ⟨(.tuple #[(.agg #[(.int .i64 0), (.string ⟨List.toArray ([] : List UInt8)⟩), (.bool false), (.bool false)]), (.bool false)]), Ex K (Gt (a := 2) (t := 108) (g := g2) (off := 0) K (SP.get c1 (i := 0) rfl) K) (Dz (t := 3) K), ?_⟩
     obtain rfl := Qb H
     exact ⟨rfl, SP.sel c1 [] rfl rfl⟩
    ·have H := cf H b3
     refine At.skip K ?_
     refine aQ ?_
     refine aR ?_
     refine iR 2 2 [(29, (.string ⟨List.toArray p1⟩)), (30, (.int .i64 f))] ?_
     obtain ⟨d6, d7, d8, H⟩ := Nm H
     obtain ⟨d9, hyl288⟩ : ∃ y, (List.drop (Int.toNat 0) (List.take (Int.toNat f) p1)) = y := ⟨_, rfl⟩
     rw [hyl288] at H
     refine iS 3 ?_
     refine Xf (a := p1) (T := 9) (x := (.tmp 29)) (lo := none) (hi := (some (.tmp 30))) (i := 0) (j := f) (d := (some 31)) (k := 2) K rfl K K rfl ⟨.i64, K⟩ d6 d7 d8 ?_
     rw [hyl288]
     obtain ⟨c, e0, H⟩ := Qa H
     refine iS 4 ?_
     refine cF 71 #[(.tmp 31)] #[9] 32 Tryz.call71 (Z4  d9 d5  c e0) ?_
     rintro e g8 ⟨rfl, c2⟩
     refine ⟨_, rfl, ?_⟩
     have e1 := SP.call b1 c2
     clear c2
     refine iR 5 9 [(28, (.tuple #[(.int .i64 c.1), (.bool c.2)])), (33, (.int .i64 c.1)), (34, (.bool c.2)), (5, (.int .i64 c.1)), (6, (.bool c.2))] ?_
     refine iF ?_
     refine aQ ?_
     refine aR ?_
     refine iR 2 2 [(35, (.int .i64 c.1)), (36, (.agg #[(.int .i64 c.1), (.string ⟨List.toArray ([] : List UInt8)⟩), (.bool false), (.bool false)]))] ?_
     refine iS 3 ?_
     refine Qh.alloc (t := 108) (z := (.agg #[(.int .i64 0), (.string ⟨List.toArray ([] : List UInt8)⟩), (.bool false), (.bool false)])) (d := (some 7)) (k := 2) K rfl K e1 ?_
     intro p g9 e2
     refine iS 4 ?_
     refine Qh.store (t := 108) (x := (.tmp 7)) (y := (.tmp 36)) (g := p) (off := 0) (i := 1) (v := (.agg #[(.int .i64 c.1), (.string ⟨List.toArray ([] : List UInt8)⟩), (.bool false), (.bool false)])) (cs' := #[(.int .i64 c.1), (.string ⟨List.toArray ([] : List UInt8)⟩), (.bool false), (.bool false)]) (d := none) (k := 3) K rfl K K e2 rfl K ?_
     intro h1 c3
     refine iF ?_
     refine aQ ?_
     refine aR ?_
     refine iR 3 3 [(37, (.string ⟨List.toArray p1⟩)), (38, (.int .i64 f)), (39, (.int .i64 (IntKind.wrap .i64 (f + 1))))] ?_
     obtain ⟨e3, e4, e5, H⟩ := Nm H
     obtain ⟨m, hyl305⟩ : ∃ y, (List.drop (Int.toNat (IntKind.wrap .i64 (f + 1))) (List.take (Int.toNat ((List.length p1 : Nat) : Int)) p1)) = y := ⟨_, rfl⟩
     rw [hyl305] at H
     refine iS 4 ?_
     refine Xf (a := p1) (T := 9) (x := (.tmp 37)) (lo := (some (.tmp 39))) (hi := none) (i := (IntKind.wrap .i64 (f + 1))) (j := ((List.length p1 : Nat) : Int)) (d := (some 40)) (k := 3) K rfl K K ⟨.i64, K⟩ rfl e3 e4 e5 ?_
     rw [hyl305]
     refine iR 1 5 [(8, (.string ⟨List.toArray m⟩))] ?_
     refine iF ?_
     refine aQ ?_
     refine aQ ?_
     refine At.join (fun ρ w => ∃ (a4 : Bool), Q7 ρ [(2, (pt g2 0)), (6, (.bool c.2)), (7, (pt p 0)), (8, (.string ⟨List.toArray m⟩)), (51, (.bool a4))] ∧ SP [] w0 w [Qk g2 108 #[(.int .i64 0), (.string ⟨List.toArray ([] : List UInt8)⟩), (.bool false), (.bool false)], Qk p 108 #[(.int .i64 c.1), (.string ⟨List.toArray ([] : List UInt8)⟩), (.bool false), (.bool false)]] ∧ Zy (Q5 p1 a1) c m a4 = some r) ?_ ?_
     ·refine aR ?_
      refine iR 4 4 [(41, (.string ⟨List.toArray m⟩)), (42, (.int .i64 ((List.length m : Nat) : Int))), (43, (.bool (decide (((List.length m : Nat) : Int) > 0)))), (44, (.bool (decide (((List.length m : Nat) : Int) > 0))))] ?_
      refine In.guard (t := 44) (b := (decide (((List.length m : Nat) : Int) > 0))) K (fun b4 => ?_) (fun b4 => ?_)
      ·have H := ct H b4
       refine iR 4 8 [(45, (.string ⟨List.toArray m⟩)), (46, (.string ⟨List.toArray m⟩)), (47, (.int .i64 ((List.length m : Nat) : Int))), (48, (.int .i64 (IntKind.wrap .i64 (((List.length m : Nat) : Int) - 1))))] ?_
       obtain ⟨a8, e6, h2, e7, H⟩ := Vf H
       refine iS 9 ?_
       refine Zd (a := m) (u := a8) (T := 9) (x := (.tmp 45)) (ix := (.tmp 48)) (ki := .i64) (iz := (IntKind.wrap .i64 (((List.length m : Nat) : Int) - 1))) (d := (some 49)) (k := 8) K rfl K K K e6 e7 ?_
       refine iR 2 11 [(50, (.bool (((a8).toNat : Int) == 33))), (51, (.bool (((a8).toNat : Int) == 33)))] ?_
       refine iF ?_
       exact ⟨(((a8).toNat : Int) == 33), ⟨K, K, K, K, K, trivial⟩, SP.sel c3 [0, 1] rfl rfl, H⟩
      ·have H := cf H b4
       refine iR 7 11 [(45, undef), (46, undef), (47, undef), (48, undef), (49, undef), (50, undef), (51, (.bool false))] ?_
       refine iF ?_
       exact ⟨false, ⟨K, K, K, K, K, trivial⟩, SP.sel c3 [0, 1] rfl rfl, H⟩
     ·rintro ρ h3 ⟨a4, hk, c4, H⟩
      unfold Zy at H
      first | refine At.known [(2, (pt g2 0)), (6, (.bool c.2)), (7, (pt p 0)), (8, (.string ⟨List.toArray m⟩)), (51, (.bool a4))] hk ?_ | rw [← Qc (l := [(2, (pt g2 0)), (6, (.bool c.2)), (7, (pt p 0)), (8, (.string ⟨List.toArray m⟩)), (51, (.bool a4))]) hk]
      refine At.join (fun ρ w => ∃ (s : Bool) (h : (List UInt8)), Q7 ρ [(2, (pt g2 0)), (6, (.bool c.2)), (7, (pt p 0)), (8, (.string ⟨List.toArray h⟩))] ∧ SP [] w0 w [Qk g2 108 #[(.int .i64 0), (.string ⟨List.toArray ([] : List UInt8)⟩), (.bool false), (.bool false)], Qk p 108 #[(.int .i64 c.1), (.string ⟨List.toArray ([] : List UInt8)⟩), (.bool false), (.bool s)]] ∧ Xz (Q5 p1 a1) c s h = some r) ?_ ?_
      ·refine Vm K (o := (.tmp 51)) K (b := a4) K (fun b5 => ?_) (fun b5 => ?_)
       ·have H := ct H b5
        refine aQ ?_
        refine aR ?_
        refine iR 1 1 [(52, (pt p 3))] ?_
        refine iS 2 ?_
        refine Qh.store (t := 4) (x := (.tmp 52)) (y := (.const (.bool true))) (g := p) (off := 3) (i := 1) (v := (.bool true)) (cs' := #[(.int .i64 c.1), (.string ⟨List.toArray ([] : List UInt8)⟩), (.bool false), (.bool true)]) (d := none) (k := 1) K rfl K K c4 rfl K ?_
        intro h4 e8
        refine iF ?_
        refine aR ?_
        refine iR 4 4 [(53, (.string ⟨List.toArray m⟩)), (54, (.string ⟨List.toArray m⟩)), (55, (.int .i64 ((List.length m : Nat) : Int))), (56, (.int .i64 (IntKind.wrap .i64 (((List.length m : Nat) : Int) - 1))))] ?_
        obtain ⟨e9, f0, f1, H⟩ := Nm H
        obtain ⟨c5, hyl392⟩ : ∃ y, (List.drop (Int.toNat 0) (List.take (Int.toNat (IntKind.wrap .i64 (((List.length m : Nat) : Int) - 1))) m)) = y := ⟨_, rfl⟩
        rw [hyl392] at H
        refine iS 5 ?_
        refine Xf (a := m) (T := 9) (x := (.tmp 53)) (lo := none) (hi := (some (.tmp 56))) (i := 0) (j := (IntKind.wrap .i64 (((List.length m : Nat) : Int) - 1))) (d := (some 57)) (k := 4) K rfl K K rfl ⟨.i64, K⟩ e9 f0 f1 ?_
        rw [hyl392]
        refine iR 1 6 [(8, (.string ⟨List.toArray c5⟩))] ?_
        refine iF ?_
        exact ⟨true, c5, ⟨K, K, K, K, trivial⟩, SP.sel e8 [0, 1] rfl rfl, H⟩
       ·have H := cf H b5
        refine At.skip K ?_
        exact ⟨false, m, ⟨K, K, K, K, trivial⟩, SP.sel c4 [0, 1] rfl rfl, H⟩
      ·rintro ρ h5 ⟨s, h, hk, c6, H⟩
       unfold Xz at H
       first | refine At.known [(2, (pt g2 0)), (6, (.bool c.2)), (7, (pt p 0)), (8, (.string ⟨List.toArray h⟩))] hk ?_ | rw [← Qc (l := [(2, (pt g2 0)), (6, (.bool c.2)), (7, (pt p 0)), (8, (.string ⟨List.toArray h⟩))]) hk]
       refine aQ ?_
       refine aQ ?_
       refine At.join (fun ρ w => ∃ (a5 : Bool), Q7 ρ [(2, (pt g2 0)), (6, (.bool c.2)), (7, (pt p 0)), (8, (.string ⟨List.toArray h⟩)), (68, (.bool a5))] ∧ SP [] w0 w [Qk g2 108 #[(.int .i64 0), (.string ⟨List.toArray ([] : List UInt8)⟩), (.bool false), (.bool false)], Qk p 108 #[(.int .i64 c.1), (.string ⟨List.toArray ([] : List UInt8)⟩), (.bool false), (.bool s)]] ∧ Yw (Q5 p1 a1) c s h a5 = some r) ?_ ?_
       ·refine aR ?_
        refine iR 4 4 [(58, (.string ⟨List.toArray h⟩)), (59, (.int .i64 ((List.length h : Nat) : Int))), (60, (.bool (decide (((List.length h : Nat) : Int) > 0)))), (61, (.bool (decide (((List.length h : Nat) : Int) > 0))))] ?_
        refine In.guard (t := 61) (b := (decide (((List.length h : Nat) : Int) > 0))) K (fun b6 => ?_) (fun b6 => ?_)
        ·have H := ct H b6
         refine iR 4 8 [(62, (.string ⟨List.toArray h⟩)), (63, (.string ⟨List.toArray h⟩)), (64, (.int .i64 ((List.length h : Nat) : Int))), (65, (.int .i64 (IntKind.wrap .i64 (((List.length h : Nat) : Int) - 1))))] ?_
         obtain ⟨a9, f2, h6, f3, H⟩ := Vf H
         refine iS 9 ?_
         refine Zd (a := h) (u := a9) (T := 9) (x := (.tmp 62)) (ix := (.tmp 65)) (ki := .i64) (iz := (IntKind.wrap .i64 (((List.length h : Nat) : Int) - 1))) (d := (some 66)) (k := 8) K rfl K K K f2 f3 ?_
         refine iR 2 11 [(67, (.bool (((a9).toNat : Int) == 43))), (68, (.bool (((a9).toNat : Int) == 43)))] ?_
         refine iF ?_
         exact ⟨(((a9).toNat : Int) == 43), ⟨K, K, K, K, K, trivial⟩, SP.sel c6 [0, 1] rfl rfl, H⟩
        ·have H := cf H b6
         refine iR 7 11 [(62, undef), (63, undef), (64, undef), (65, undef), (66, undef), (67, undef), (68, (.bool false))] ?_
         refine iF ?_
         exact ⟨false, ⟨K, K, K, K, K, trivial⟩, SP.sel c6 [0, 1] rfl rfl, H⟩
       ·rintro ρ h7 ⟨a5, hk, c7, H⟩
        unfold Yw at H
        first | refine At.known [(2, (pt g2 0)), (6, (.bool c.2)), (7, (pt p 0)), (8, (.string ⟨List.toArray h⟩)), (68, (.bool a5))] hk ?_ | rw [← Qc (l := [(2, (pt g2 0)), (6, (.bool c.2)), (7, (pt p 0)), (8, (.string ⟨List.toArray h⟩)), (68, (.bool a5))]) hk]
        refine At.join (fun ρ w => ∃ (a0 : Bool) (a2 : (List UInt8)), Q7 ρ [(2, (pt g2 0)), (6, (.bool c.2)), (7, (pt p 0)), (8, (.string ⟨List.toArray a2⟩))] ∧ SP [] w0 w [Qk g2 108 #[(.int .i64 0), (.string ⟨List.toArray ([] : List UInt8)⟩), (.bool false), (.bool false)], Qk p 108 #[(.int .i64 c.1), (.string ⟨List.toArray ([] : List UInt8)⟩), (.bool a0), (.bool s)]] ∧ Xy (Q5 p1 a1) c s a0 a2 = some r) ?_ ?_
        ·refine Vm K (o := (.tmp 68)) K (b := a5) K (fun b7 => ?_) (fun b7 => ?_)
         ·have H := ct H b7
          refine aQ ?_
          refine aR ?_
          refine iR 1 1 [(69, (pt p 2))] ?_
          refine iS 2 ?_
          refine Qh.store (t := 4) (x := (.tmp 69)) (y := (.const (.bool true))) (g := p) (off := 2) (i := 1) (v := (.bool true)) (cs' := #[(.int .i64 c.1), (.string ⟨List.toArray ([] : List UInt8)⟩), (.bool true), (.bool s)]) (d := none) (k := 1) K rfl K K c7 rfl K ?_
          intro h8 f4
          refine iF ?_
          refine aR ?_
          refine iR 4 4 [(70, (.string ⟨List.toArray h⟩)), (71, (.string ⟨List.toArray h⟩)), (72, (.int .i64 ((List.length h : Nat) : Int))), (73, (.int .i64 (IntKind.wrap .i64 (((List.length h : Nat) : Int) - 1))))] ?_
          obtain ⟨f5, f6, f7, H⟩ := Nm H
          obtain ⟨c8, hyl379⟩ : ∃ y, (List.drop (Int.toNat 0) (List.take (Int.toNat (IntKind.wrap .i64 (((List.length h : Nat) : Int) - 1))) h)) = y := ⟨_, rfl⟩
          rw [hyl379] at H
          refine iS 5 ?_
          refine Xf (a := h) (T := 9) (x := (.tmp 70)) (lo := none) (hi := (some (.tmp 73))) (i := 0) (j := (IntKind.wrap .i64 (((List.length h : Nat) : Int) - 1))) (d := (some 74)) (k := 4) K rfl K K rfl ⟨.i64, K⟩ f5 f6 f7 ?_
          rw [hyl379]
          refine iR 1 6 [(8, (.string ⟨List.toArray c8⟩))] ?_
          refine iF ?_
          exact ⟨true, c8, ⟨K, K, K, K, trivial⟩, SP.sel f4 [0, 1] rfl rfl, H⟩
         ·have H := cf H b7
          refine At.skip K ?_
          exact ⟨false, h, ⟨K, K, K, K, trivial⟩, SP.sel c7 [0, 1] rfl rfl, H⟩
        ·rintro ρ f8 ⟨a0, a2, hk, f9, H⟩
         unfold Xy at H
         first | refine At.known [(2, (pt g2 0)), (6, (.bool c.2)), (7, (pt p 0)), (8, (.string ⟨List.toArray a2⟩))] hk ?_ | rw [← Qc (l := [(2, (pt g2 0)), (6, (.bool c.2)), (7, (pt p 0)), (8, (.string ⟨List.toArray a2⟩))]) hk]
         refine aQ ?_
         refine aR ?_
         refine iR 1 1 [(76, (.string ⟨List.toArray a2⟩))] ?_
         obtain ⟨q, g0, H⟩ := Qa H
         refine iS 2 ?_
         refine cF 74 #[(.tmp 76)] #[9] 77 Tryz.call74 (Uk  a2 f8  q g0) ?_
         rintro e h9 ⟨rfl, c9⟩
         refine ⟨_, rfl, ?_⟩
         have g1 := SP.call f9 c9
         clear c9
         refine iR 5 7 [(75, (.tuple #[(.string ⟨List.toArray q.1⟩), (.bool q.2)])), (78, (.string ⟨List.toArray q.1⟩)), (79, (.bool q.2)), (9, (.string ⟨List.toArray q.1⟩)), (10, (.bool q.2))] ?_
         refine iF ?_
         refine aQ ?_
         refine aR ?_
         refine iR 2 2 [(80, (.string ⟨List.toArray q.1⟩)), (81, (pt p 1))] ?_
         refine iS 3 ?_
         refine Qh.store (t := 9) (x := (.tmp 81)) (y := (.tmp 80)) (g := p) (off := 1) (i := 1) (v := (.string ⟨List.toArray q.1⟩)) (cs' := #[(.int .i64 c.1), (.string ⟨List.toArray q.1⟩), (.bool a0), (.bool s)]) (d := none) (k := 2) K rfl K K g1 rfl K ?_
         intro i0 b8
         refine iF ?_
         refine aQ ?_
         refine At.join (fun ρ w => ∃ (a6 : Bool), Q7 ρ [(2, (pt g2 0)), (3, (.bool a6))] ∧ SP [] w0 w [Qk g2 108 #[(.int .i64 c.1), (.string ⟨List.toArray q.1⟩), (.bool a0), (.bool s)]] ∧ Yv (Q5 p1 a1) c s a0 q a6 = some r) ?_ ?_
         ·refine aR ?_
          refine iS 1 ?_
          refine sL 108 7 p 0 1 (.agg #[(.int .i64 c.1), (.string ⟨List.toArray q.1⟩), (.bool a0), (.bool s)]) 82 b8 rfl ?_
          refine iR 2 3 [(83, (.bool c.2)), (84, (.bool c.2))] ?_
          refine In.guard (t := 84) (b := c.2) K (fun b9 => ?_) (fun b9 => ?_)
          ·have H := ct H b9
           refine iR 2 5 [(85, (.bool q.2)), (86, (.bool q.2))] ?_
           refine iS 6 ?_
           refine Qh.store (t := 108) (x := (.tmp 2)) (y := (.tmp 82)) (g := g2) (off := 0) (i := 0) (v := (.agg #[(.int .i64 c.1), (.string ⟨List.toArray q.1⟩), (.bool a0), (.bool s)])) (cs' := #[(.int .i64 c.1), (.string ⟨List.toArray q.1⟩), (.bool a0), (.bool s)]) (d := none) (k := 5) K rfl K K b8 rfl K ?_
           intro i1 g3
           refine iR 1 7 [(3, (.bool q.2))] ?_
           refine iF ?_
           exact ⟨q.2, ⟨K, K, trivial⟩, SP.sel g3 [0] rfl rfl, H⟩
          ·have H := cf H b9
           refine iR 2 5 [(85, undef), (86, (.bool false))] ?_
           refine iS 6 ?_
           refine Qh.store (t := 108) (x := (.tmp 2)) (y := (.tmp 82)) (g := g2) (off := 0) (i := 0) (v := (.agg #[(.int .i64 c.1), (.string ⟨List.toArray q.1⟩), (.bool a0), (.bool s)])) (cs' := #[(.int .i64 c.1), (.string ⟨List.toArray q.1⟩), (.bool a0), (.bool s)]) (d := none) (k := 5) K rfl K K b8 rfl K ?_
           intro i2 g4
           refine iR 1 7 [(3, (.bool false))] ?_
           refine iF ?_
           exact ⟨false, ⟨K, K, trivial⟩, SP.sel g4 [0] rfl rfl, H⟩
         ·rintro ρ i3 ⟨a6, hk, d0, H⟩
          unfold Yv at H
          first | refine At.known [(2, (pt g2 0)), (3, (.bool a6))] hk ?_ | rw [← Qc (l := [(2, (pt g2 0)), (3, (.bool a6))]) hk]
          refine At.ret K ?_
          refine ⟨(.tuple #[(.agg #[(.int .i64 c.1), (.string ⟨List.toArray q.1⟩), (.bool a0), (.bool s)]), (.bool a6)]), Ex K (Gt (a := 2) (t := 108) (g := g2) (off := 0) K (SP.get d0 (i := 0) rfl) K) (Dz (t := 3) K), ?_⟩
          obtain rfl := Qb H
          exact ⟨rfl, SP.sel d0 [] rfl rfl⟩
 ·exact ⟨0, ⟨K, K, K, trivial⟩, SP.sel d2 [0] rfl rfl, H⟩
def Zm (a : (Int × Bool)) (b : Bool) : Option (Int × Int × Int × (List (Int × (List UInt8) × Bool × Bool)) × Bool) :=
  (cond b (some (0, 0, 0, ([] : List (Int × (List UInt8) × Bool × Bool)), false)) (some (a.1, 0, 0, ([] : List (Int × (List UInt8) × Bool × Bool)), true)))
def Zn (b : Int → Int → Int → (List (Int × (List UInt8) × Bool × Bool)) → Int → Option (Int × Int × Int × (List (Int × (List UInt8) × Bool × Bool)) × Bool)) (c : Int) (d : Int) (e : Int) (f : (List (Int × (List UInt8) × Bool × Bool))) (g : Int) (a : (Int × (List UInt8) × Bool × Bool × Bool)) (h : Bool) : Option (Int × Int × Int × (List (Int × (List UInt8) × Bool × Bool)) × Bool) :=
  (cond h (some (0, 0, 0, ([] : List (Int × (List UInt8) × Bool × Bool)), false)) ((app f ([(a.1, a.2.1, a.2.2.1, a.2.2.2.1)] : List (Int × (List UInt8) × Bool × Bool))).bind fun i => (b c d e i (IntKind.wrap .i64 (g + 1)))))
def Xe (g : Int → Int → Int → (List (Int × (List UInt8) × Bool × Bool)) → Int → Option (Int × Int × Int × (List (Int × (List UInt8) × Bool × Bool)) × Bool)) (z8 : ((List (List UInt8)))) (d : Int) (e : Int) (f : Int) (b : (List (Int × (List UInt8) × Bool × Bool))) (a : Int) : Option (Int × Int × Int × (List (Int × (List UInt8) × Bool × Bool)) × Bool) :=
  (cond (decide (a < ((List.length z8 : Nat) : Int))) ((idx z8 a).bind fun h => ((Gj h).bind fun c => (cond (!c.2.2.2.2) (Zn g d e f b a c true) (cond (decide (a > 3)) ((idx b (IntKind.wrap .i64 (a - 4))).bind fun i => (Zn g d e f b a c (decide (i.1 ≥ c.1)))) (Zn g d e f b a c false))))) (some (d, e, f, b, true)))
def Vs (z8 : ((List (List UInt8)))) : Nat → Int → Int → Int → (List (Int × (List UInt8) × Bool × Bool)) → Int → Option (Int × Int × Int × (List (Int × (List UInt8) × Bool × Bool)) × Bool)
  | 0, _, _, _, _, _ => none
  | f + 1, a, b, c, d, e => Xe  (Vs z8 f) z8 a b c d e
def Vt (z8 : ((List (List UInt8)))) (a : (Int × Bool)) (b : (Int × Bool)) (c : Bool) : Option (Int × Int × Int × (List (Int × (List UInt8) × Bool × Bool)) × Bool) :=
  (cond c (some (0, 0, 0, ([] : List (Int × (List UInt8) × Bool × Bool)), false)) (Vs z8 Y1 0 a.1 b.1 ([] : List (Int × (List UInt8) × Bool × Bool)) 3))
def Ux (p1 : (List UInt8)) : Option (Int × Int × Int × (List (Int × (List UInt8) × Bool × Bool)) × Bool) :=
  ((Uc p1).bind fun z8 => ((Vv z8 1).bind fun c => ((Zo c).bind fun a => ((idx z8 0).bind fun d => (cond (d == ([101, 114, 114] : List UInt8)) (cond (!a.2) (Zm a true) (cond (a.1 == 0) (Zm a true) (Zm a (((List.length z8 : Nat) : Int) != 2)))) ((Vv z8 2).bind fun e => ((Zo e).bind fun b => ((idx z8 0).bind fun f => (cond (!(f == ([111, 107] : List UInt8))) (Vt z8 a b true) (cond (!a.2) (Vt z8 a b true) (Vt z8 a b (!b.2))))))))))))
set_option maxHeartbeats 40000000 in
theorem Bz  (p1 : (List UInt8)) (w0 : World)  (r : (Int × Int × Int × (List (Int × (List UInt8) × Bool × Bool)) × Bool)) (H : Ux p1 = some r) :
  Calls Tryz.prog 34 #[(.string ⟨List.toArray p1⟩)] w0 (fun e w' => ∃ (A2 : Option Addr) (c3 : Nat), e = .returned (.tuple #[(.agg #[(.int .i64 r.1), (.int .i64 r.2.1), (.int .i64 r.2.2.1), (.slice A2 (List.length r.2.2.2.1) c3)]), (.bool r.2.2.2.2)]) ∧ SP [] w0 w' [Vu 108 (Qf (Jw .i64) (Qf Qn (Qf Qm Qm))) A2 c3 r.2.2.2.1]) := by
 unfold Ux at H
 refine Ql (n := 101) Tryz.func34 K K K ?_
 have h4 := Qy [] w0
 refine aQ ?_
 refine aR ?_
 refine iS 1 ?_
 refine Qh.alloc (t := 55) (z := (.agg #[(.int .i64 0), (.int .i64 0), (.int .i64 0), (.slice none (List.length ([] : List (Int × (List UInt8) × Bool × Bool))) 0)])) (d := (some 2)) (k := 0) K rfl K h4 ?_
 intro g4 w5 h5
 refine iR 1 2 [(3, (.bool false))] ?_
 refine iF ?_
 refine aQ ?_
 refine aR ?_
 refine iR 1 1 [(13, (.string ⟨List.toArray p1⟩))] ?_
 obtain ⟨z8, h6, H⟩ := Qa H
 refine iS 2 ?_
 refine cF 70 #[(.tmp 13)] #[9] 14 Tryz.call70 (Ra  p1 w5  z8 h6) ?_
 rintro e h7 ⟨q, u, rfl, e0⟩
 refine ⟨_, rfl, ?_⟩
 have e1 := SP.call h5 e0
 clear e0
 refine iR 1 3 [(4, (.slice q (List.length z8) u))] ?_
 refine iF ?_
 refine aQ ?_
 refine aR ?_
 refine iR 1 1 [(16, (.slice q (List.length z8) u))] ?_
 obtain ⟨e2, h8, H⟩ := Qa H
 refine iS 2 ?_
 refine cF 72 #[(.tmp 16), (.const (.int .i64 (1)))] #[79, 3] 17 Tryz.call72 (Vp q u z8 1 h7 (Q9 (SP.get e1 (i := 1) rfl)) e2 h8) ?_
 rintro e h9 ⟨rfl, e3⟩
 refine ⟨_, rfl, ?_⟩
 have i0 := SP.call e1 e3
 clear e3
 obtain ⟨p, i1, H⟩ := Qa H
 refine iS 3 ?_
 refine cF 71 #[(.tmp 17)] #[9] 18 Tryz.call71 (Z4  e2 h9  p i1) ?_
 rintro e i2 ⟨rfl, e4⟩
 refine ⟨_, rfl, ?_⟩
 have b5 := SP.call i0 e4
 clear e4
 refine iR 5 8 [(15, (.tuple #[(.int .i64 p.1), (.bool p.2)])), (19, (.int .i64 p.1)), (20, (.bool p.2)), (5, (.int .i64 p.1)), (6, (.bool p.2))] ?_
 refine iF ?_
 refine aQ ?_
 refine aQ ?_
 refine aR ?_
 refine iR 1 1 [(21, (.slice q (List.length z8) u))] ?_
 obtain ⟨c2, e5, e6, i3, H⟩ := Vf H
 refine iS 2 ?_
 refine Z6 (e := Qn) (l := z8) (A := q) (c := u) (T := 79) (E := 9) (x := (.tmp 21)) (ix := (.const (.int .i64 (0)))) (ki := .i64) (iz := 0) (d := (some 22)) (k := 1) K rfl K K K K (Q9 (SP.get b5 (i := 1) rfl)) e5 e6 ?_
 intro i4 i5 i6 n6 hc34
 refine iS 3 ?_
 refine sC 9 22 i4 (i5 + Int.toNat 0 * Qn.sz) (.string ⟨List.toArray c2⟩) 23 (J3 (e := Qn) (Yr (Q9 (SP.get b5 (i := 1) rfl)) i6 e5 e6) i3 (j := 0) rfl) ?_
 refine iS 4 ?_
 refine Qu (op := .eql) (T := 9) (T' := 9) (x := (.tmp 23)) (y := (.const (.string ⟨List.toArray ([101, 114, 114] : List UInt8)⟩))) (a := c2) (b := ([101, 114, 114] : List UInt8)) (r := (.bool (c2 == ([101, 114, 114] : List UInt8)))) (d := (some 24)) (k := 3) K rfl K K rfl ?_
 refine iF ?_
 refine Vm K (o := (.tmp 24)) K (b := (c2 == ([101, 114, 114] : List UInt8))) K (fun c5 => ?_) (fun c5 => ?_)
 ·have H := ct H c5
  refine aQ ?_
  refine aQ ?_
  refine At.join (fun ρ w => ∃ (b6 : Bool), Q7 ρ [(2, (pt g4 0)), (5, (.int .i64 p.1)), (35, (.bool b6))] ∧ SP [] w0 w [Qk g4 55 #[(.int .i64 0), (.int .i64 0), (.int .i64 0), (.slice none (List.length ([] : List (Int × (List UInt8) × Bool × Bool))) 0)]] ∧ Zm p b6 = some r) ?_ ?_
  ·refine aR ?_
   refine iR 3 3 [(25, (.bool p.2)), (26, (.bool (!p.2))), (27, (.bool (!p.2)))] ?_
   refine In.guard (t := 27) (b := (!p.2)) K (fun c6 => ?_) (fun c6 => ?_)
   ·have H := ct H c6
    refine iR 8 11 [(28, undef), (29, undef), (30, (.bool true)), (31, (.bool true)), (32, undef), (33, undef), (34, undef), (35, (.bool true))] ?_
    refine iF ?_
    exact ⟨true, ⟨K, K, K, trivial⟩, SP.sel b5 [0] rfl rfl, H⟩
   ·have H := cf H c6
    refine iR 4 7 [(28, (.int .i64 p.1)), (29, (.bool (p.1 == 0))), (30, (.bool (p.1 == 0))), (31, (.bool (p.1 == 0)))] ?_
    refine In.guard (t := 31) (b := (p.1 == 0)) K (fun c7 => ?_) (fun c7 => ?_)
    ·have H := ct H c7
     refine iR 4 11 [(32, undef), (33, undef), (34, undef), (35, (.bool true))] ?_
     refine iF ?_
     exact ⟨true, ⟨K, K, K, trivial⟩, SP.sel b5 [0] rfl rfl, H⟩
    ·have H := cf H c7
     refine iR 4 11 [(32, (.slice q (List.length z8) u)), (33, (.int .i64 ((List.length z8 : Nat) : Int))), (34, (.bool (((List.length z8 : Nat) : Int) != 2))), (35, (.bool (((List.length z8 : Nat) : Int) != 2)))] ?_
     refine iF ?_
     exact ⟨(((List.length z8 : Nat) : Int) != 2), ⟨K, K, K, trivial⟩, SP.sel b5 [0] rfl rfl, H⟩
  ·rintro ρ n7 ⟨b6, hk, e7, H⟩
   unfold Zm at H
   first | refine At.known [(2, (pt g4 0)), (5, (.int .i64 p.1)), (35, (.bool b6))] hk ?_ | rw [← Qc (l := [(2, (pt g4 0)), (5, (.int .i64 p.1)), (35, (.bool b6))]) hk]
   refine Vm K (o := (.tmp 35)) K (b := b6) K (fun c8 => ?_) (fun c8 => ?_)
   ·have H := ct H c8
    refine aQ ?_
    refine aR ?_
    refine iR 1 1 [(36, (.agg #[(.int .i64 0), (.int .i64 0), (.int .i64 0), (.slice none (List.length ([] : List (Int × (List UInt8) × Bool × Bool))) 0)]))] ?_
    refine iS 2 ?_
    refine Qh.store (t := 55) (x := (.tmp 2)) (y := (.tmp 36)) (g := g4) (off := 0) (i := 0) (v := (.agg #[(.int .i64 0), (.int .i64 0), (.int .i64 0), (.slice none (List.length ([] : List (Int × (List UInt8) × Bool × Bool))) 0)])) (cs' := #[(.int .i64 0), (.int .i64 0), (.int .i64 0), (.slice none (List.length ([] : List (Int × (List UInt8) × Bool × Bool))) 0)]) (d := none) (k := 1) K rfl K K e7 rfl K ?_
    intro i7 e8
    refine iR 1 3 [(3, (.bool false))] ?_
    refine iF ?_
    refine At.ret K ?_
    have i8 : SP [] w0 i7 [Qk g4 55 #[(.int .i64 0), (.int .i64 0), (.int .i64 0), (.slice none (List.length ([] : List (Int × (List UInt8) × Bool × Bool))) 0)], Vu 108 (Qf (Jw .i64) (Qf Qn (Qf Qm Qm))) none 0 ([] : List (Int × (List UInt8) × Bool × Bool))] := X6 e8 108 (Qf (Jw .i64) (Qf Qn (Qf Qm Qm)))
    refine ⟨(.tuple #[(.agg #[(.int .i64 0), (.int .i64 0), (.int .i64 0), (.slice none (List.length ([] : List (Int × (List UInt8) × Bool × Bool))) 0)]), (.bool false)]), Ex K (Gt (a := 2) (t := 55) (g := g4) (off := 0) K (SP.get e8 (i := 0) rfl) K) (Dz (t := 3) K), ?_⟩
    obtain rfl := Qb H
    exact ⟨none, 0, rfl, SP.sel i8 [1] rfl rfl⟩
   ·have H := cf H c8
    refine At.skip K ?_
    refine aQ ?_
    refine aR ?_
    refine iR 2 2 [(37, (.int .i64 p.1)), (38, (.agg #[(.int .i64 p.1), (.int .i64 0), (.int .i64 0), (.slice none (List.length ([] : List (Int × (List UInt8) × Bool × Bool))) 0)]))] ?_
    refine iS 3 ?_
    refine Qh.store (t := 55) (x := (.tmp 2)) (y := (.tmp 38)) (g := g4) (off := 0) (i := 0) (v := (.agg #[(.int .i64 p.1), (.int .i64 0), (.int .i64 0), (.slice none (List.length ([] : List (Int × (List UInt8) × Bool × Bool))) 0)])) (cs' := #[(.int .i64 p.1), (.int .i64 0), (.int .i64 0), (.slice none (List.length ([] : List (Int × (List UInt8) × Bool × Bool))) 0)]) (d := none) (k := 2) K rfl K K e7 rfl K ?_
    intro i9 e9
    refine iR 1 4 [(3, (.bool true))] ?_
    refine iF ?_
    refine At.ret K ?_
    have j0 : SP [] w0 i9 [Qk g4 55 #[(.int .i64 p.1), (.int .i64 0), (.int .i64 0), (.slice none (List.length ([] : List (Int × (List UInt8) × Bool × Bool))) 0)], Vu 108 (Qf (Jw .i64) (Qf Qn (Qf Qm Qm))) none 0 ([] : List (Int × (List UInt8) × Bool × Bool))] := X6 e9 108 (Qf (Jw .i64) (Qf Qn (Qf Qm Qm)))
    refine ⟨(.tuple #[(.agg #[(.int .i64 p.1), (.int .i64 0), (.int .i64 0), (.slice none (List.length ([] : List (Int × (List UInt8) × Bool × Bool))) 0)]), (.bool true)]), Ex K (Gt (a := 2) (t := 55) (g := g4) (off := 0) K (SP.get e9 (i := 0) rfl) K) (Dz (t := 3) K), ?_⟩
    obtain rfl := Qb H
    exact ⟨none, 0, rfl, SP.sel j0 [1] rfl rfl⟩
 ·have H := cf H c5
  refine At.skip K ?_
  refine aQ ?_
  refine aR ?_
  refine iR 1 1 [(40, (.slice q (List.length z8) u))] ?_
  obtain ⟨f0, j1, H⟩ := Qa H
  refine iS 2 ?_
  refine cF 72 #[(.tmp 40), (.const (.int .i64 (2)))] #[79, 3] 41 Tryz.call72 (Vp q u z8 2 i2 (Q9 (SP.get b5 (i := 1) rfl)) f0 j1) ?_
  rintro e j2 ⟨rfl, f1⟩
  refine ⟨_, rfl, ?_⟩
  have j3 := SP.call b5 f1
  clear f1
  obtain ⟨a5, j4, H⟩ := Qa H
  refine iS 3 ?_
  refine cF 71 #[(.tmp 41)] #[9] 42 Tryz.call71 (Z4  f0 j2  a5 j4) ?_
  rintro e n8 ⟨rfl, f2⟩
  refine ⟨_, rfl, ?_⟩
  have b9 := SP.call j3 f2
  clear f2
  refine iR 5 8 [(39, (.tuple #[(.int .i64 a5.1), (.bool a5.2)])), (43, (.int .i64 a5.1)), (44, (.bool a5.2)), (7, (.int .i64 a5.1)), (8, (.bool a5.2))] ?_
  refine iF ?_
  refine aQ ?_
  refine aQ ?_
  refine At.join (fun ρ w => ∃ (b7 : Bool), Q7 ρ [(2, (pt g4 0)), (4, (.slice q (List.length z8) u)), (5, (.int .i64 p.1)), (7, (.int .i64 a5.1)), (56, (.bool b7))] ∧ SP [] w0 w [Qk g4 55 #[(.int .i64 0), (.int .i64 0), (.int .i64 0), (.slice none (List.length ([] : List (Int × (List UInt8) × Bool × Bool))) 0)], Vu 9 Qn q u z8] ∧ Vt z8 p a5 b7 = some r) ?_ ?_
  ·refine aR ?_
   refine iR 1 1 [(45, (.slice q (List.length z8) u))] ?_
   obtain ⟨c0, f3, f4, j5, H⟩ := Vf H
   refine iS 2 ?_
   refine Z6 (e := Qn) (l := z8) (A := q) (c := u) (T := 79) (E := 9) (x := (.tmp 45)) (ix := (.const (.int .i64 (0)))) (ki := .i64) (iz := 0) (d := (some 46)) (k := 1) K rfl K K K K (Q9 (SP.get b9 (i := 1) rfl)) f3 f4 ?_
   intro j6 j7 j8 n9 hc646
   refine iS 3 ?_
   refine sC 9 46 j6 (j7 + Int.toNat 0 * Qn.sz) (.string ⟨List.toArray c0⟩) 47 (J3 (e := Qn) (Yr (Q9 (SP.get b9 (i := 1) rfl)) j8 f3 f4) j5 (j := 0) rfl) ?_
   refine iS 4 ?_
   refine Qu (op := .neq) (T := 9) (T' := 9) (x := (.tmp 47)) (y := (.const (.string ⟨List.toArray ([111, 107] : List UInt8)⟩))) (a := c0) (b := ([111, 107] : List UInt8)) (r := (.bool (!(c0 == ([111, 107] : List UInt8))))) (d := (some 48)) (k := 3) K rfl K K rfl ?_
   refine iR 1 5 [(49, (.bool (!(c0 == ([111, 107] : List UInt8)))))] ?_
   refine In.guard (t := 49) (b := (!(c0 == ([111, 107] : List UInt8)))) K (fun c9 => ?_) (fun c9 => ?_)
   ·have H := ct H c9
    refine iR 7 12 [(50, undef), (51, undef), (52, (.bool true)), (53, (.bool true)), (54, undef), (55, undef), (56, (.bool true))] ?_
    refine iF ?_
    exact ⟨true, ⟨K, K, K, K, K, trivial⟩, SP.sel b9 [0, 1] rfl rfl, H⟩
   ·have H := cf H c9
    refine iR 4 9 [(50, (.bool p.2)), (51, (.bool (!p.2))), (52, (.bool (!p.2))), (53, (.bool (!p.2)))] ?_
    refine In.guard (t := 53) (b := (!p.2)) K (fun d0 => ?_) (fun d0 => ?_)
    ·have H := ct H d0
     refine iR 3 12 [(54, undef), (55, undef), (56, (.bool true))] ?_
     refine iF ?_
     exact ⟨true, ⟨K, K, K, K, K, trivial⟩, SP.sel b9 [0, 1] rfl rfl, H⟩
    ·have H := cf H d0
     refine iR 3 12 [(54, (.bool a5.2)), (55, (.bool (!a5.2))), (56, (.bool (!a5.2)))] ?_
     refine iF ?_
     exact ⟨(!a5.2), ⟨K, K, K, K, K, trivial⟩, SP.sel b9 [0, 1] rfl rfl, H⟩
  ·rintro ρ o0 ⟨b7, hk, f5, H⟩
   unfold Vt at H
   first | refine At.known [(2, (pt g4 0)), (4, (.slice q (List.length z8) u)), (5, (.int .i64 p.1)), (7, (.int .i64 a5.1)), (56, (.bool b7))] hk ?_ | rw [← Qc (l := [(2, (pt g4 0)), (4, (.slice q (List.length z8) u)), (5, (.int .i64 p.1)), (7, (.int .i64 a5.1)), (56, (.bool b7))]) hk]
   refine Vm K (o := (.tmp 56)) K (b := b7) K (fun d1 => ?_) (fun d1 => ?_)
   ·have H := ct H d1
    refine aQ ?_
    refine aR ?_
    refine iR 1 1 [(57, (.agg #[(.int .i64 0), (.int .i64 0), (.int .i64 0), (.slice none (List.length ([] : List (Int × (List UInt8) × Bool × Bool))) 0)]))] ?_
    refine iS 2 ?_
    refine Qh.store (t := 55) (x := (.tmp 2)) (y := (.tmp 57)) (g := g4) (off := 0) (i := 0) (v := (.agg #[(.int .i64 0), (.int .i64 0), (.int .i64 0), (.slice none (List.length ([] : List (Int × (List UInt8) × Bool × Bool))) 0)])) (cs' := #[(.int .i64 0), (.int .i64 0), (.int .i64 0), (.slice none (List.length ([] : List (Int × (List UInt8) × Bool × Bool))) 0)]) (d := none) (k := 1) K rfl K K f5 rfl K ?_
    intro j9 f7
    refine iR 1 3 [(3, (.bool false))] ?_
    refine iF ?_
    refine At.ret K ?_
    have k1 : SP [] w0 j9 [Qk g4 55 #[(.int .i64 0), (.int .i64 0), (.int .i64 0), (.slice none (List.length ([] : List (Int × (List UInt8) × Bool × Bool))) 0)], Vu 9 Qn q u z8, Vu 108 (Qf (Jw .i64) (Qf Qn (Qf Qm Qm))) none 0 ([] : List (Int × (List UInt8) × Bool × Bool))] := X6 f7 108 (Qf (Jw .i64) (Qf Qn (Qf Qm Qm)))
    refine ⟨(.tuple #[(.agg #[(.int .i64 0), (.int .i64 0), (.int .i64 0), (.slice none (List.length ([] : List (Int × (List UInt8) × Bool × Bool))) 0)]), (.bool false)]), Ex K (Gt (a := 2) (t := 55) (g := g4) (off := 0) K (SP.get f7 (i := 0) rfl) K) (Dz (t := 3) K), ?_⟩
    obtain rfl := Qb H
    exact ⟨none, 0, rfl, SP.sel k1 [2] rfl rfl⟩
   ·have H := cf H d1
    refine At.skip K ?_
    refine aQ ?_
    refine aR ?_
    refine iR 3 3 [(58, (.int .i64 p.1)), (59, (.int .i64 a5.1)), (60, (.agg #[(.int .i64 0), (.int .i64 p.1), (.int .i64 a5.1), (.slice none (List.length ([] : List (Int × (List UInt8) × Bool × Bool))) 0)]))] ?_
    refine iS 4 ?_
    refine Qh.alloc (t := 55) (z := (.agg #[(.int .i64 0), (.int .i64 0), (.int .i64 0), (.slice none (List.length ([] : List (Int × (List UInt8) × Bool × Bool))) 0)])) (d := (some 9)) (k := 3) K rfl K f5 ?_
    intro a2 o1 k2
    refine iS 5 ?_
    refine Qh.store (t := 55) (x := (.tmp 9)) (y := (.tmp 60)) (g := a2) (off := 0) (i := 2) (v := (.agg #[(.int .i64 0), (.int .i64 p.1), (.int .i64 a5.1), (.slice none (List.length ([] : List (Int × (List UInt8) × Bool × Bool))) 0)])) (cs' := #[(.int .i64 0), (.int .i64 p.1), (.int .i64 a5.1), (.slice none (List.length ([] : List (Int × (List UInt8) × Bool × Bool))) 0)]) (d := none) (k := 4) K rfl K K k2 rfl K ?_
    intro o2 k3
    refine iF ?_
    refine aQ ?_
    refine aQ ?_
    refine aR ?_
    refine iR 1 1 [(10, (.int .i64 3))] ?_
    refine iF ?_
    refine J2 K (id := 0) K ?_
    refine Du K (fun f6 ρ w => ∃ (a8 : Int) (a9 : Int) (b0 : Int) (a0 : (List (Int × (List UInt8) × Bool × Bool))) (h : Int) (a1 : Option Addr) (a3 : Nat), Q7 ρ [(2, (pt g4 0)), (4, (.slice q (List.length z8) u)), (9, (pt a2 0)), (10, (.int .i64 h))] ∧ SP [] w0 w [Qk g4 55 #[(.int .i64 0), (.int .i64 0), (.int .i64 0), (.slice none (List.length ([] : List (Int × (List UInt8) × Bool × Bool))) 0)], Vu 108 (Qf (Jw .i64) (Qf Qn (Qf Qm Qm))) a1 a3 a0, Qk a2 55 #[(.int .i64 a8), (.int .i64 a9), (.int .i64 b0), (.slice a1 (List.length a0) a3)], Vu 9 Qn q u z8] ∧ Vs z8 f6 a8 a9 b0 a0 h = some r) (by rintro ρ w ⟨a8, a9, b0, a0, h, a1, a3, hk, hs, H⟩; cases H) ?_ Y1 ?_
    ·rintro f6 ρ k4 ⟨a8, a9, b0, a0, h, a1, a3, hk, c1, H⟩
     refine At.known [(2, (pt g4 0)), (4, (.slice q (List.length z8) u)), (9, (pt a2 0)), (10, (.int .i64 h))] hk ?_
     replace H := (show Xe (Vs z8 f6) z8 a8 a9 b0 a0 h = some r from H)
     unfold Xe at H
     refine aQ ?_
     refine aQ ?_
     refine aR ?_
     refine iR 4 4 [(61, (.int .i64 h)), (62, (.slice q (List.length z8) u)), (63, (.int .i64 ((List.length z8 : Nat) : Int))), (64, (.bool (decide (h < ((List.length z8 : Nat) : Int)))))] ?_
     refine iF ?_
     refine Vm K (o := (.tmp 64)) K (b := (decide (h < ((List.length z8 : Nat) : Int)))) K (fun d2 => ?_) (fun d2 => ?_)
     ·have H := ct H d2
      refine At.skip K ?_
      refine aQ ?_
      refine J2 K (id := 1) K ?_
      refine aQ ?_
      refine aR ?_
      refine iR 2 2 [(68, (.slice q (List.length z8) u)), (69, (.int .i64 h))] ?_
      obtain ⟨f8, f9, g0, k5, H⟩ := Vf H
      refine iS 3 ?_
      refine Z6 (e := Qn) (l := z8) (A := q) (c := u) (T := 79) (E := 9) (x := (.tmp 68)) (ix := (.tmp 69)) (ki := .i64) (iz := h) (d := (some 70)) (k := 2) K rfl K K K K (Q9 (SP.get c1 (i := 3) rfl)) f9 g0 ?_
      intro k6 k7 k8 o3 hc516
      refine iS 4 ?_
      refine sC 9 70 k6 (k7 + Int.toNat h * Qn.sz) (.string ⟨List.toArray f8⟩) 71 (J3 (e := Qn) (Yr (Q9 (SP.get c1 (i := 3) rfl)) k8 f9 g0) k5 (j := 0) rfl) ?_
      obtain ⟨f, k9, H⟩ := Qa H
      refine iS 5 ?_
      refine cF 78 #[(.tmp 71)] #[9] 72 Tryz.call78 (By  f8 k4  f k9) ?_
      rintro e o4 ⟨rfl, g1⟩
      refine ⟨_, rfl, ?_⟩
      have l0 := SP.call c1 g1
      clear g1
      refine iR 3 8 [(67, (.tuple #[(.agg #[(.int .i64 f.1), (.string ⟨List.toArray f.2.1⟩), (.bool f.2.2.1), (.bool f.2.2.2.1)]), (.bool f.2.2.2.2)])), (73, (.agg #[(.int .i64 f.1), (.string ⟨List.toArray f.2.1⟩), (.bool f.2.2.1), (.bool f.2.2.2.1)])), (74, (.bool f.2.2.2.2))] ?_
      refine iS 9 ?_
      refine Qh.alloc (t := 108) (z := (.agg #[(.int .i64 0), (.string ⟨List.toArray ([] : List UInt8)⟩), (.bool false), (.bool false)])) (d := (some 11)) (k := 8) K rfl K l0 ?_
      intro a6 o5 l1
      refine iS 10 ?_
      refine Qh.store (t := 108) (x := (.tmp 11)) (y := (.tmp 73)) (g := a6) (off := 0) (i := 4) (v := (.agg #[(.int .i64 f.1), (.string ⟨List.toArray f.2.1⟩), (.bool f.2.2.1), (.bool f.2.2.2.1)])) (cs' := #[(.int .i64 f.1), (.string ⟨List.toArray f.2.1⟩), (.bool f.2.2.1), (.bool f.2.2.2.1)]) (d := none) (k := 9) K rfl K K l1 rfl K ?_
      intro o6 d3
      refine iR 1 11 [(12, (.bool f.2.2.2.2))] ?_
      refine iF ?_
      refine aQ ?_
      refine aQ ?_
      refine At.join (fun ρ w => ∃ (b8 : Bool), Q7 ρ [(2, (pt g4 0)), (4, (.slice q (List.length z8) u)), (9, (pt a2 0)), (10, (.int .i64 h)), (11, (pt a6 0)), (92, (.bool b8))] ∧ SP [] w0 w [Qk g4 55 #[(.int .i64 0), (.int .i64 0), (.int .i64 0), (.slice none (List.length ([] : List (Int × (List UInt8) × Bool × Bool))) 0)], Vu 108 (Qf (Jw .i64) (Qf Qn (Qf Qm Qm))) a1 a3 a0, Qk a2 55 #[(.int .i64 a8), (.int .i64 a9), (.int .i64 b0), (.slice a1 (List.length a0) a3)], Qk a6 108 #[(.int .i64 f.1), (.string ⟨List.toArray f.2.1⟩), (.bool f.2.2.1), (.bool f.2.2.2.1)], Vu 9 Qn q u z8] ∧ Zn (Vs z8 f6) a8 a9 b0 a0 h f b8 = some r) ?_ ?_
      ·rcases Bool.eq_false_or_eq_true (!f.2.2.2.2) with a7 | a7
       ·have H := ct H a7
        refine aG [GEq (.bool f.2.2.2.2), GEq (.bool (!f.2.2.2.2)), GEq (.bool (!f.2.2.2.2)), GEq undef, GEq undef, GEq undef, GEq undef, GEq undef, GEq undef, GEq undef, GEq undef, GEq undef, GEq undef, GEq undef, GEq undef, GEq undef, GEq undef, GEq (.bool true)] [] (tG [] w0 [Qk g4 55 #[(.int .i64 0), (.int .i64 0), (.int .i64 0), (.slice none (List.length ([] : List (Int × (List UInt8) × Bool × Bool))) 0)], Vu 108 (Qf (Jw .i64) (Qf Qn (Qf Qm Qm))) a1 a3 a0, Qk a2 55 #[(.int .i64 a8), (.int .i64 a9), (.int .i64 b0), (.slice a1 (List.length a0) a3)], Vu 9 Qn q u z8, Qk a6 108 #[(.int .i64 f.1), (.string ⟨List.toArray f.2.1⟩), (.bool f.2.2.1), (.bool f.2.2.2.1)]] [([], [])]) 18 0 ⟨trivial, SP.drew d3⟩ ?_ ?_
        iterate 18 refine And.intro ?_ ?_
        exact trivial
        ·exact oV (hC (hS 12 (.bool f.2.2.2.2)) (h0)) (.bool f.2.2.2.2)
        ·exact oV (hC (hA 0 75) (h0)) (.bool (!f.2.2.2.2))
        ·exact oV (hC (hA 1 76) (h0)) (.bool (!f.2.2.2.2))
        ·exact oW (hC (hB 2 77 a7) (h0)) 78
        ·exact oW (hC (hB 2 77 a7) (h0)) 79
        ·exact oW (hC (hB 2 77 a7) (h0)) 80
        ·exact oW (hC (hA 5 80) (h0)) 81
        ·exact oW (hC (hA 5 80) (h0)) 82
        ·exact oW (hC (hA 5 80) (h0)) 83
        ·exact oW (hC (hA 5 80) (h0)) 84
        ·exact oW (hC (hA 5 80) (h0)) 85
        ·exact oW (hC (hA 5 80) (h0)) 86
        ·exact oW (hC (hA 5 80) (h0)) 87
        ·exact oW (hC (hA 5 80) (h0)) 88
        ·exact oW (hC (hA 5 80) (h0)) 89
        ·exact oW (hC (hA 5 80) (h0)) 90
        ·exact oW (hC (hB 2 77 a7) (h0)) 91
        ·exact oV (hC (hB 2 77 a7) (hC (hA 16 91) (h0))) (.bool true)
        ·rintro ρ' w' hs hf ⟨o7, g2⟩
         refine V3 [(2, (pt g4 0)), (4, (.slice q (List.length z8) u)), (9, (pt a2 0)), (10, (.int .i64 h)), (11, (pt a6 0)), (92, (.bool true))] ⟨(hs 2 K).trans K, (hs 4 K).trans K, (hs 9 K).trans K, (hs 10 K).trans K, (hs 11 K).trans K, hf 17 92 K, trivial⟩ ?_
         obtain ⟨o8, l2⟩ : ∃ x, w' = x := ⟨_, rfl⟩
         rw [l2] at g2 ⊢
         exact ⟨true, ⟨K, K, K, K, K, K, trivial⟩, SP.sel g2 [0, 1, 2, 4, 3] rfl rfl, H⟩
       ·have H := cf H a7
        rcases Bool.eq_false_or_eq_true (decide (h > 3)) with a4 | a4
        ·have H := ct H a4
         obtain ⟨b2, g3, g5, l3, H⟩ := Vf H
         refine aG [GEq (.bool f.2.2.2.2), GEq (.bool (!f.2.2.2.2)), GEq (.bool (!f.2.2.2.2)), GEq (.int .i64 h), GEq (.bool (decide (h > 3))), GEq (.bool (decide (h > 3))), GEq (pt a2 3), GEq (.slice a1 (List.length a0) a3), GEq (.int .i64 h), GEq (.int .i64 (IntKind.wrap .i64 (h - 4))), El a1 (Qf (Jw .i64) (Qf Qn (Qf Qm Qm))).sz (IntKind.wrap .i64 (h - 4)), El a1 (Qf (Jw .i64) (Qf Qn (Qf Qm Qm))).sz (IntKind.wrap .i64 (h - 4)), GEq (.int .i64 b2.1), GEq (pt a6 0), GEq (.int .i64 f.1), GEq (.bool (decide (b2.1 ≥ f.1))), GEq (.bool (decide (b2.1 ≥ f.1))), GEq (.bool (decide (b2.1 ≥ f.1)))] [] (tG [] w0 [Qk g4 55 #[(.int .i64 0), (.int .i64 0), (.int .i64 0), (.slice none (List.length ([] : List (Int × (List UInt8) × Bool × Bool))) 0)], Vu 108 (Qf (Jw .i64) (Qf Qn (Qf Qm Qm))) a1 a3 a0, Qk a2 55 #[(.int .i64 a8), (.int .i64 a9), (.int .i64 b0), (.slice a1 (List.length a0) a3)], Vu 9 Qn q u z8, Qk a6 108 #[(.int .i64 f.1), (.string ⟨List.toArray f.2.1⟩), (.bool f.2.2.1), (.bool f.2.2.2.1)]] [([], [])]) 18 0 ⟨trivial, SP.drew d3⟩ ?_ ?_
         iterate 18 refine And.intro ?_ ?_
         exact trivial
         ·exact oV (hC (hS 12 (.bool f.2.2.2.2)) (h0)) (.bool f.2.2.2.2)
         ·exact oV (hC (hA 0 75) (h0)) (.bool (!f.2.2.2.2))
         ·exact oV (hC (hA 1 76) (h0)) (.bool (!f.2.2.2.2))
         ·exact oV (hC (hS 10 (.int .i64 h)) (hC (hB 2 77 a7) (h0))) (.int .i64 h)
         ·exact oV (hC (hA 3 78) (hC (hB 2 77 a7) (h0))) (.bool (decide (h > 3)))
         ·exact oV (hC (hA 4 79) (hC (hB 2 77 a7) (h0))) (.bool (decide (h > 3)))
         ·exact oV (hC (hS 9 (pt a2 0)) (hC (hB 5 80 a4) (h0))) (pt a2 3)
         ·refine oL 0 ?_
          ·rintro ρ' w' hs b1 ⟨o9, l4⟩
           have l5 := b1 6 81 K
           have b3 := b1 5 80 K
           refine kN [(81, (pt a2 3)), (80, (.bool true))] ⟨l5, (Eq.trans b3 (congrArg Value.bool a4)), trivial⟩ fun b4 => ?_
           refine sL 53 81 a2 3 2 (.slice a1 (List.length a0) a3) 82 l4 rfl ?_
           exact eK b4
         ·exact oV (hC (hS 10 (.int .i64 h)) (hC (hB 5 80 a4) (h0))) (.int .i64 h)
         ·exact oV (hC (hA 8 83) (hC (hB 5 80 a4) (h0))) (.int .i64 (IntKind.wrap .i64 (h - 4)))
         ·refine oL 0 ?_
          ·rintro ρ' w' hs b1 ⟨p0, l6⟩
           have l7 := b1 7 82 K
           have l8 := b1 9 84 K
           have b3 := b1 5 80 K
           refine kN [(82, (.slice a1 (List.length a0) a3)), (84, (.int .i64 (IntKind.wrap .i64 (h - 4)))), (80, (.bool true))] ⟨l7, l8, (Eq.trans b3 (congrArg Value.bool a4)), trivial⟩ fun b4 => ?_
           refine Z6 (e := (Qf (Jw .i64) (Qf Qn (Qf Qm Qm)))) (l := a0) (A := a1) (c := a3) (T := 53) (E := 108) (x := (.tmp 82)) (ix := (.tmp 84)) (ki := .i64) (iz := (IntKind.wrap .i64 (h - 4))) (d := (some 85)) (k := 10) K rfl K K K K (Q9 (SP.get l6 (i := 1) rfl)) g3 g5 ?_
           intro l9 m0 m1 p2 hc616
           exact ⟨rfl, _, Qg b4, ⟨l9, m0, m1, rfl⟩⟩
         ·refine oL 0 ?_
          ·rintro ρ' w' hs b1 ⟨p3, p4⟩
           obtain ⟨d4, d5, m2, m3⟩ := b1 10 85 K
           have b3 := b1 5 80 K
           refine kN [(85, (.pointer (some ⟨d4, (d5 + Int.toNat (IntKind.wrap .i64 (h - 4)) * (Qf (Jw .i64) (Qf Qn (Qf Qm Qm))).sz), none⟩))), (80, (.bool true))] ⟨m3, (Eq.trans b3 (congrArg Value.bool a4)), trivial⟩ fun b4 => ?_
           refine Qh.run (k := 11) (v := (.pointer (some ⟨d4, (d5 + Int.toNat (IntKind.wrap .i64 (h - 4)) * (Qf (Jw .i64) (Qf Qn (Qf Qm Qm))).sz), none⟩))) K ?_
           exact ⟨rfl, _, Qg b4, ⟨d4, d5, m2, rfl⟩⟩
         ·refine oL 0 ?_
          ·rintro ρ' w' hs b1 ⟨p5, m4⟩
           obtain ⟨g6, g7, m5, m6⟩ := b1 11 86 K
           have b3 := b1 5 80 K
           refine kN [(86, (.pointer (some ⟨g6, (g7 + Int.toNat (IntKind.wrap .i64 (h - 4)) * (Qf (Jw .i64) (Qf Qn (Qf Qm Qm))).sz), none⟩))), (80, (.bool true))] ⟨m6, (Eq.trans b3 (congrArg Value.bool a4)), trivial⟩ fun b4 => ?_
           refine sC 3 86 g6 (g7 + Int.toNat (IntKind.wrap .i64 (h - 4)) * (Qf (Jw .i64) (Qf Qn (Qf Qm Qm))).sz) (.int .i64 b2.1) 87 (J3 (e := (Qf (Jw .i64) (Qf Qn (Qf Qm Qm)))) (Yr (Q9 (SP.get m4 (i := 1) rfl)) m5 g3 g5) l3 (j := 0) rfl) ?_
           exact eK b4
         ·exact oV (hC (hS 11 (pt a6 0)) (hC (hB 5 80 a4) (h0))) (pt a6 0)
         ·refine oL 0 ?_
          ·rintro ρ' w' hs b1 ⟨p6, m7⟩
           have m8 := b1 13 88 K
           have b3 := b1 5 80 K
           refine kN [(88, (pt a6 0)), (80, (.bool true))] ⟨m8, (Eq.trans b3 (congrArg Value.bool a4)), trivial⟩ fun b4 => ?_
           refine sL 3 88 a6 0 4 (.int .i64 f.1) 89 m7 rfl ?_
           exact eK b4
         ·exact oV (hC (hA 12 87) (hC (hA 14 89) (hC (hB 5 80 a4) (h0)))) (.bool (decide (b2.1 ≥ f.1)))
         ·exact oV (hC (hB 5 80 a4) (hC (hA 15 90) (hC (hB 2 77 a7) (h0)))) (.bool (decide (b2.1 ≥ f.1)))
         ·exact oV (hC (hB 2 77 a7) (hC (hA 16 91) (h0))) (.bool (decide (b2.1 ≥ f.1)))
         ·rintro ρ' w' hs hf ⟨p7, g8⟩
          refine V3 [(2, (pt g4 0)), (4, (.slice q (List.length z8) u)), (9, (pt a2 0)), (10, (.int .i64 h)), (11, (pt a6 0)), (92, (.bool (decide (b2.1 ≥ f.1))))] ⟨(hs 2 K).trans K, (hs 4 K).trans K, (hs 9 K).trans K, (hs 10 K).trans K, (hs 11 K).trans K, hf 17 92 K, trivial⟩ ?_
          obtain ⟨p8, m9⟩ : ∃ x, w' = x := ⟨_, rfl⟩
          rw [m9] at g8 ⊢
          exact ⟨(decide (b2.1 ≥ f.1)), ⟨K, K, K, K, K, K, trivial⟩, SP.sel g8 [0, 1, 2, 4, 3] rfl rfl, H⟩
        ·have H := cf H a4
         refine aG [GEq (.bool f.2.2.2.2), GEq (.bool (!f.2.2.2.2)), GEq (.bool (!f.2.2.2.2)), GEq (.int .i64 h), GEq (.bool (decide (h > 3))), GEq (.bool (decide (h > 3))), GEq undef, GEq undef, GEq undef, GEq undef, GEq undef, GEq undef, GEq undef, GEq undef, GEq undef, GEq undef, GEq (.bool false), GEq (.bool false)] [] (tG [] w0 [Qk g4 55 #[(.int .i64 0), (.int .i64 0), (.int .i64 0), (.slice none (List.length ([] : List (Int × (List UInt8) × Bool × Bool))) 0)], Vu 108 (Qf (Jw .i64) (Qf Qn (Qf Qm Qm))) a1 a3 a0, Qk a2 55 #[(.int .i64 a8), (.int .i64 a9), (.int .i64 b0), (.slice a1 (List.length a0) a3)], Vu 9 Qn q u z8, Qk a6 108 #[(.int .i64 f.1), (.string ⟨List.toArray f.2.1⟩), (.bool f.2.2.1), (.bool f.2.2.2.1)]] [([], [])]) 18 0 ⟨trivial, SP.drew d3⟩ ?_ ?_
         iterate 18 refine And.intro ?_ ?_
         exact trivial
         ·exact oV (hC (hS 12 (.bool f.2.2.2.2)) (h0)) (.bool f.2.2.2.2)
         ·exact oV (hC (hA 0 75) (h0)) (.bool (!f.2.2.2.2))
         ·exact oV (hC (hA 1 76) (h0)) (.bool (!f.2.2.2.2))
         ·exact oV (hC (hS 10 (.int .i64 h)) (hC (hB 2 77 a7) (h0))) (.int .i64 h)
         ·exact oV (hC (hA 3 78) (hC (hB 2 77 a7) (h0))) (.bool (decide (h > 3)))
         ·exact oV (hC (hA 4 79) (hC (hB 2 77 a7) (h0))) (.bool (decide (h > 3)))
         ·exact oW (hC (hB 5 80 a4) (h0)) 81
         ·exact oW (hC (hB 5 80 a4) (h0)) 82
         ·exact oW (hC (hB 5 80 a4) (h0)) 83
         ·exact oW (hC (hB 5 80 a4) (h0)) 84
         ·exact oW (hC (hB 5 80 a4) (h0)) 85
         ·exact oW (hC (hB 5 80 a4) (h0)) 86
         ·exact oW (hC (hB 5 80 a4) (h0)) 87
         ·exact oW (hC (hB 5 80 a4) (h0)) 88
         ·exact oW (hC (hB 5 80 a4) (h0)) 89
         ·exact oW (hC (hB 5 80 a4) (h0)) 90
         ·exact oV (hC (hB 5 80 a4) (hC (hA 15 90) (hC (hB 2 77 a7) (h0)))) (.bool false)
         ·exact oV (hC (hB 2 77 a7) (hC (hA 16 91) (h0))) (.bool false)
         ·rintro ρ' w' hs hf ⟨p9, g9⟩
          refine V3 [(2, (pt g4 0)), (4, (.slice q (List.length z8) u)), (9, (pt a2 0)), (10, (.int .i64 h)), (11, (pt a6 0)), (92, (.bool false))] ⟨(hs 2 K).trans K, (hs 4 K).trans K, (hs 9 K).trans K, (hs 10 K).trans K, (hs 11 K).trans K, hf 17 92 K, trivial⟩ ?_
          obtain ⟨q0, n0⟩ : ∃ x, w' = x := ⟨_, rfl⟩
          rw [n0] at g9 ⊢
          exact ⟨false, ⟨K, K, K, K, K, K, trivial⟩, SP.sel g9 [0, 1, 2, 4, 3] rfl rfl, H⟩
      ·rintro ρ q1 ⟨b8, hk, c4, H⟩
       unfold Zn at H
       first | refine At.known [(2, (pt g4 0)), (4, (.slice q (List.length z8) u)), (9, (pt a2 0)), (10, (.int .i64 h)), (11, (pt a6 0)), (92, (.bool b8))] hk ?_ | rw [← Qc (l := [(2, (pt g4 0)), (4, (.slice q (List.length z8) u)), (9, (pt a2 0)), (10, (.int .i64 h)), (11, (pt a6 0)), (92, (.bool b8))]) hk]
       refine Vm K (o := (.tmp 92)) K (b := b8) K (fun d6 => ?_) (fun d6 => ?_)
       ·have H := ct H d6
        refine aQ ?_
        refine aR ?_
        refine iR 1 1 [(93, (.agg #[(.int .i64 0), (.int .i64 0), (.int .i64 0), (.slice none (List.length ([] : List (Int × (List UInt8) × Bool × Bool))) 0)]))] ?_
        refine iS 2 ?_
        refine Qh.store (t := 55) (x := (.tmp 2)) (y := (.tmp 93)) (g := g4) (off := 0) (i := 0) (v := (.agg #[(.int .i64 0), (.int .i64 0), (.int .i64 0), (.slice none (List.length ([] : List (Int × (List UInt8) × Bool × Bool))) 0)])) (cs' := #[(.int .i64 0), (.int .i64 0), (.int .i64 0), (.slice none (List.length ([] : List (Int × (List UInt8) × Bool × Bool))) 0)]) (d := none) (k := 1) K rfl K K c4 rfl K ?_
        intro n1 h1
        refine iR 1 3 [(3, (.bool false))] ?_
        refine iF ?_
        refine At.ret K ?_
        have n2 : SP [] w0 n1 [Qk g4 55 #[(.int .i64 0), (.int .i64 0), (.int .i64 0), (.slice none (List.length ([] : List (Int × (List UInt8) × Bool × Bool))) 0)], Vu 108 (Qf (Jw .i64) (Qf Qn (Qf Qm Qm))) a1 a3 a0, Qk a2 55 #[(.int .i64 a8), (.int .i64 a9), (.int .i64 b0), (.slice a1 (List.length a0) a3)], Qk a6 108 #[(.int .i64 f.1), (.string ⟨List.toArray f.2.1⟩), (.bool f.2.2.1), (.bool f.2.2.2.1)], Vu 9 Qn q u z8, Vu 108 (Qf (Jw .i64) (Qf Qn (Qf Qm Qm))) none 0 ([] : List (Int × (List UInt8) × Bool × Bool))] := X6 h1 108 (Qf (Jw .i64) (Qf Qn (Qf Qm Qm)))
        refine ⟨(.tuple #[(.agg #[(.int .i64 0), (.int .i64 0), (.int .i64 0), (.slice none (List.length ([] : List (Int × (List UInt8) × Bool × Bool))) 0)]), (.bool false)]), Ex K (Gt (a := 2) (t := 55) (g := g4) (off := 0) K (SP.get h1 (i := 0) rfl) K) (Dz (t := 3) K), ?_⟩
        obtain rfl := Qb H
        exact ⟨none, 0, rfl, SP.sel n2 [5] rfl rfl⟩
       ·have H := cf H d6
        refine At.skip K ?_
        refine aR ?_
        refine iR 1 1 [(94, (pt a2 3))] ?_
        refine iS 2 ?_
        refine sL 53 94 a2 3 2 (.slice a1 (List.length a0) a3) 95 c4 rfl ?_
        refine iS 3 ?_
        refine sL 108 11 a6 0 3 (.agg #[(.int .i64 f.1), (.string ⟨List.toArray f.2.1⟩), (.bool f.2.2.1), (.bool f.2.2.2.1)]) 96 c4 rfl ?_
        refine iS 4 ?_
        refine Vy (e := (Qf (Jw .i64) (Qf Qn (Qf Qm Qm)))) (T := 53) (E := 108) (len := 1) (parts := #[(0, (.tmp 96))]) (cs := #[(.int .i64 f.1), (.string ⟨List.toArray f.2.1⟩), (.bool f.2.2.1), (.bool f.2.2.2.1)]) ([(f.1, f.2.1, f.2.2.1, f.2.2.2.1)] : List (Int × (List UInt8) × Bool × Bool)) (d := (some 97)) (k := 3) K rfl (fun _ => K) c4 rfl rfl rfl rfl ?_
        intro n3 q2 h2
        obtain ⟨hl586, H⟩ := Vb H
        obtain ⟨d7, hyl587⟩ : ∃ y, a0 ++ ([(f.1, f.2.1, f.2.2.1, f.2.2.2.1)] : List (Int × (List UInt8) × Bool × Bool)) = y := ⟨_, rfl⟩
        rw [hyl587] at H
        refine iS 5 ?_
        refine Qh.append (e := (Qf (Jw .i64) (Qf Qn (Qf Qm Qm)))) (l := a0) (m := ([(f.1, f.2.1, f.2.2.1, f.2.2.2.1)] : List (Int × (List UInt8) × Bool × Bool))) (A := a1) (c := a3) (T := 53) (TX := 53) (E := 108) (b := 32) (s := (.tmp 95)) (x := (.tmp 97)) (i := 1) (vx := (.slice (some ⟨n3, 0, none⟩) (List.length ([(f.1, f.2.1, f.2.2.1, f.2.2.2.1)] : List (Int × (List UInt8) × Bool × Bool))) (List.length ([(f.1, f.2.1, f.2.2.1, f.2.2.2.1)] : List (Int × (List UInt8) × Bool × Bool))))) (d := (some 98)) (k := 4) K rfl K K K K rfl h2 rfl (Ep (E := 108) K (Q9 (SP.get h2 (i := 5) rfl))) hl586 ?_
        rw [hyl587]
        intro d8 d9 q3 n4
        refine iR 1 6 [(99, (pt a2 3))] ?_
        refine iS 7 ?_
        refine Qh.store (t := 53) (x := (.tmp 99)) (y := (.tmp 98)) (g := a2) (off := 3) (i := 2) (v := (.slice d8 (List.length d7) d9)) (cs' := #[(.int .i64 a8), (.int .i64 a9), (.int .i64 b0), (.slice d8 (List.length d7) d9)]) (d := none) (k := 6) K rfl K K n4 rfl K ?_
        intro q4 n5
        refine iF ?_
        refine aR ?_
        refine iR 3 3 [(65, (.int .i64 h)), (66, (.int .i64 (IntKind.wrap .i64 (h + 1)))), (10, (.int .i64 (IntKind.wrap .i64 (h + 1))))] ?_
        refine iF ?_
        exact ⟨a8, a9, b0, d7, (IntKind.wrap .i64 (h + 1)), d8, d9, ⟨K, K, K, K, trivial⟩, SP.sel n5 [0, 1, 2, 4] rfl rfl, H⟩
     ·have H := cf H d2
      refine At.exit K (id := 0) K ?_
      refine aQ ?_
      refine aR ?_
      refine iS 1 ?_
      refine sL 55 9 a2 0 2 (.agg #[(.int .i64 a8), (.int .i64 a9), (.int .i64 b0), (.slice a1 (List.length a0) a3)]) 100 c1 rfl ?_
      refine iS 2 ?_
      refine Qh.store (t := 55) (x := (.tmp 2)) (y := (.tmp 100)) (g := g4) (off := 0) (i := 0) (v := (.agg #[(.int .i64 a8), (.int .i64 a9), (.int .i64 b0), (.slice a1 (List.length a0) a3)])) (cs' := #[(.int .i64 a8), (.int .i64 a9), (.int .i64 b0), (.slice a1 (List.length a0) a3)]) (d := none) (k := 1) K rfl K K c1 rfl K ?_
      intro q5 h3
      refine iR 1 3 [(3, (.bool true))] ?_
      refine iF ?_
      refine At.ret K ?_
      refine ⟨(.tuple #[(.agg #[(.int .i64 a8), (.int .i64 a9), (.int .i64 b0), (.slice a1 (List.length a0) a3)]), (.bool true)]), Ex K (Gt (a := 2) (t := 55) (g := g4) (off := 0) K (SP.get h3 (i := 0) rfl) K) (Dz (t := 3) K), ?_⟩
      obtain rfl := Qb H
      exact ⟨a1, a3, rfl, SP.sel h3 [1] rfl rfl⟩
    ·exact ⟨0, p.1, a5.1, ([] : List (Int × (List UInt8) × Bool × Bool)), 3, none, 0, ⟨K, K, K, K, trivial⟩, SP.sel (X6 k3 108 (Qf (Jw .i64) (Qf Qn (Qf Qm Qm)))) [0, 3, 2, 1] rfl rfl, H⟩
end Go.Proofs.YtoflbpmbkmephaaGreatDoor
