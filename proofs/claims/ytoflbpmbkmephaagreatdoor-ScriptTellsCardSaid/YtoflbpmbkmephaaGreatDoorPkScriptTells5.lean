import Derived.Test.YtoflbpmbkmephaaGreatDoorPkScriptTells4
set_option linter.unusedSimpArgs false
set_option linter.unusedVariables false
set_option linter.unusedSectionVars false
set_option maxRecDepth 100000
set_option maxHeartbeats 40000000
namespace Go.Proofs.YtoflbpmbkmephaaGreatDoor
open Go.RowKit
def Q6 (a : Bool) : Option (Bool) :=
  (some (a))
def V9 (e : Int) (f : Int) (g : Int) (h : (List UInt8)) (i : Int) (j : (List UInt8)) (k : (List UInt8)) (l : (List UInt8)) (p9 : (List UInt8)) (m : Int) (n : Int) (o : Int) (p : (List (Int × (List UInt8) × Bool × Bool))) (q : (Bool)) (r : Bool) : Option (Bool) :=
  (cond r (some (q)) ((Jz p9).bind fun a => ((Ud p9).bind fun b => ((Nu p9).bind fun c => ((Ux p9).bind fun d => (cond q ((Us e f g h i j k l).bind fun s => ((Uv e f g h i j k l).bind fun t => (cond (s == t) (cond ((a.1 == b.1) && ((a.2.1 == b.2.1) && ((a.2.2.1 == b.2.2.1) && ((a.2.2.2.1 == b.2.2.2.1) && ((a.2.2.2.2.1 == b.2.2.2.2.1) && ((a.2.2.2.2.2.1 == b.2.2.2.2.2.1) && ((a.2.2.2.2.2.2.1 == b.2.2.2.2.2.2.1) && (a.2.2.2.2.2.2.2.1 == b.2.2.2.2.2.2.2.1)))))))) (cond (a.2.2.2.2.2.2.2.2 == b.2.2.2.2.2.2.2.2) ((Nt m n o p).bind fun u => ((Uw m n o p).bind fun v => (cond (u == v) ((Yd c.1 c.2.1 c.2.2.1 c.2.2.2.1 d.1 d.2.1 d.2.2.1 d.2.2.2.1).bind fun w => (cond w (Q6 (c.2.2.2.2 == d.2.2.2.2)) (Q6 false))) (Q6 false)))) (Q6 false)) (Q6 false)) (Q6 false)))) (Q6 false)))))))
def Y7 (a : Int) (b : Int) (c : Int) (d : (List UInt8)) (e : Int) (f : (List UInt8)) (g : (List UInt8)) (h : (List UInt8)) (p9 : (List UInt8)) (i : Int) (j : Int) (k : Int) (l : (List (Int × (List UInt8) × Bool × Bool))) : Option (Bool) :=
  ((Gi ).bind fun m => ((Nv a b c d e f g h).bind fun n => (cond n (V9 a b c d e f g h p9 i j k l m true) ((Ue i j k l).bind fun o => (cond o (V9 a b c d e f g h p9 i j k l m true) (V9 a b c d e f g h p9 i j k l m (decide (((List.length p9 : Nat) : Int) > 9000))))))))
set_option maxHeartbeats 40000000 in
theorem R6 (b7 : Option Addr) (b8 : Nat) (a1 : Int) (a2 : Int) (a3 : Int) (a4 : (List UInt8)) (a5 : Int) (a6 : (List UInt8)) (a7 : (List UInt8)) (a8 : (List UInt8)) (p9 : (List UInt8)) (b4 : Int) (b5 : Int) (b6 : Int) (b2 : (List (Int × (List UInt8) × Bool × Bool))) (w0 : World) (hL : Gu w0) (e7 : RdT (Qf (Jw .i64) (Qf Qn (Qf Qm Qm))) w0 b7 b8 b2) (r : (Bool)) (H : Y7 a1 a2 a3 a4 a5 a6 a7 a8 p9 b4 b5 b6 b2 = some r) :
  Calls Tryz.prog 9 #[(.agg #[(.int .i64 a1), (.int .i64 a2), (.int .u32 a3), (.string ⟨List.toArray a4⟩), (.int .i64 a5), (.string ⟨List.toArray a6⟩), (.string ⟨List.toArray a7⟩), (.string ⟨List.toArray a8⟩)]), (.string ⟨List.toArray p9⟩), (.agg #[(.int .i64 b4), (.int .i64 b5), (.int .i64 b6), (.slice b7 (List.length b2) b8)])] w0 (fun e w' => e = .returned (.bool r) ∧ SP [] w0 w' []) := by
 unfold Y7 at H
 refine Ql (n := 84) Tryz.func9 K K K ?_
 have m6 := Qy [] w0
 refine aQ ?_
 refine aR ?_
 refine iS 1 ?_
 refine Yi (t := 52) (x := (.tmp 0)) (v := (.agg #[(.int .i64 a1), (.int .i64 a2), (.int .u32 a3), (.string ⟨List.toArray a4⟩), (.int .i64 a5), (.string ⟨List.toArray a6⟩), (.string ⟨List.toArray a7⟩), (.string ⟨List.toArray a8⟩)])) (d := (some 3)) (k := 0) K rfl K m6 ?_
 intro a9 w18 m7
 refine iS 2 ?_
 refine Yi (t := 55) (x := (.tmp 2)) (v := (.agg #[(.int .i64 b4), (.int .i64 b5), (.int .i64 b6), (.slice b7 (List.length b2) b8)])) (d := (some 5)) (k := 1) K rfl K m7 ?_
 intro b9 m8 h7
 refine iR 1 3 [(6, (.bool false))] ?_
 refine iF ?_
 refine aQ ?_
 refine aR ?_
 obtain ⟨b1, m9, H⟩ := Qa H
 refine iS 1 ?_
 refine cF 28 #[] #[] 16 Tryz.call28 (Bv   m8 (Qt hL (SP.keeps h7)) b1 m9) ?_
 rintro e n0 ⟨rfl, h8⟩
 refine ⟨_, rfl, ?_⟩
 have h9 := SP.call h7 h8
 clear h8
 refine iR 1 2 [(7, (.bool b1))] ?_
 refine iF ?_
 refine aQ ?_
 refine aQ ?_
 refine At.join (fun ρ w => ∃ (f0 : Bool), Q7 ρ [(1, (.string ⟨List.toArray p9⟩)), (3, (pt a9 0)), (5, (pt b9 0)), (7, (.bool b1)), (27, (.bool f0))] ∧ SP [] w0 w [Qk a9 52 #[(.int .i64 a1), (.int .i64 a2), (.int .u32 a3), (.string ⟨List.toArray a4⟩), (.int .i64 a5), (.string ⟨List.toArray a6⟩), (.string ⟨List.toArray a7⟩), (.string ⟨List.toArray a8⟩)], Qk b9 55 #[(.int .i64 b4), (.int .i64 b5), (.int .i64 b6), (.slice b7 (List.length b2) b8)]] ∧ V9 a1 a2 a3 a4 a5 a6 a7 a8 p9 b4 b5 b6 b2 b1 f0 = some r) ?_ ?_
 ·refine aR ?_
  refine iS 1 ?_
  refine sL 52 3 a9 0 0 (.agg #[(.int .i64 a1), (.int .i64 a2), (.int .u32 a3), (.string ⟨List.toArray a4⟩), (.int .i64 a5), (.string ⟨List.toArray a6⟩), (.string ⟨List.toArray a7⟩), (.string ⟨List.toArray a8⟩)]) 17 h9 rfl ?_
  obtain ⟨g0, n1, H⟩ := Qa H
  refine iS 2 ?_
  refine cF 29 #[(.tmp 17)] #[52] 18 Tryz.call29 (Bg  a1 a2 a3 a4 a5 a6 a7 a8 n0  g0 n1) ?_
  rintro e n2 ⟨rfl, i0⟩
  refine ⟨_, rfl, ?_⟩
  have f8 := SP.call h9 i0
  clear i0
  refine iR 1 3 [(19, (.bool g0))] ?_
  refine In.guard (t := 19) (b := g0) K (fun g1 => ?_) (fun g1 => ?_)
  ·have H := ct H g1
   refine iR 8 11 [(20, undef), (21, undef), (22, (.bool true)), (23, (.bool true)), (24, undef), (25, undef), (26, undef), (27, (.bool true))] ?_
   refine iF ?_
   exact ⟨true, ⟨K, K, K, K, K, trivial⟩, SP.sel f8 [0, 1] rfl rfl, H⟩
  ·have H := cf H g1
   refine iS 4 ?_
   refine sL 55 5 b9 0 1 (.agg #[(.int .i64 b4), (.int .i64 b5), (.int .i64 b6), (.slice b7 (List.length b2) b8)]) 20 f8 rfl ?_
   obtain ⟨f9, n3, H⟩ := Qa H
   refine iS 5 ?_
   refine cF 30 #[(.tmp 20)] #[55] 21 Tryz.call30 (Dq b7 b8 b4 b5 b6 b2 n2 (RdT.sp e7 f8) f9 n3) ?_
   rintro e ab7 ⟨rfl, i1⟩
   refine ⟨_, rfl, ?_⟩
   have i2 := SP.call f8 i1
   clear i1
   refine iR 2 7 [(22, (.bool f9)), (23, (.bool f9))] ?_
   refine In.guard (t := 23) (b := f9) K (fun g2 => ?_) (fun g2 => ?_)
   ·have H := ct H g2
    refine iR 4 11 [(24, undef), (25, undef), (26, undef), (27, (.bool true))] ?_
    refine iF ?_
    exact ⟨true, ⟨K, K, K, K, K, trivial⟩, SP.sel i2 [0, 1] rfl rfl, H⟩
   ·have H := cf H g2
    refine iR 4 11 [(24, (.string ⟨List.toArray p9⟩)), (25, (.int .i64 ((List.length p9 : Nat) : Int))), (26, (.bool (decide (((List.length p9 : Nat) : Int) > 9000)))), (27, (.bool (decide (((List.length p9 : Nat) : Int) > 9000))))] ?_
    refine iF ?_
    exact ⟨(decide (((List.length p9 : Nat) : Int) > 9000)), ⟨K, K, K, K, K, trivial⟩, SP.sel i2 [0, 1] rfl rfl, H⟩
 ·rintro ρ n4 ⟨f0, hk, g3, H⟩
  unfold V9 at H
  first | refine At.known [(1, (.string ⟨List.toArray p9⟩)), (3, (pt a9 0)), (5, (pt b9 0)), (7, (.bool b1)), (27, (.bool f0))] hk ?_ | rw [← Qc (l := [(1, (.string ⟨List.toArray p9⟩)), (3, (pt a9 0)), (5, (pt b9 0)), (7, (.bool b1)), (27, (.bool f0))]) hk]
  refine Vm K (o := (.tmp 27)) K (b := f0) K (fun g4 => ?_) (fun g4 => ?_)
  ·have H := ct H g4
   refine aQ ?_
   refine aR ?_
   refine iR 2 2 [(28, (.bool b1)), (6, (.bool b1))] ?_
   refine iF ?_
   refine At.ret K ?_
   refine ⟨(.bool b1), K, ?_⟩
   obtain rfl := Qb H
   exact ⟨rfl, SP.sel g3 [] rfl rfl⟩
  ·have H := cf H g4
   refine At.skip K ?_
   refine aQ ?_
   refine aR ?_
   refine iR 1 1 [(30, (.string ⟨List.toArray p9⟩))] ?_
   obtain ⟨c, n5, H⟩ := Qa H
   refine iS 2 ?_
   refine cF 31 #[(.tmp 30)] #[9] 31 Tryz.call31 (Ns  p9 n4 (Qt hL (SP.keeps g3)) c n5) ?_
   rintro e w51 ⟨rfl, i3⟩
   refine ⟨_, rfl, ?_⟩
   have n6 := SP.call g3 i3
   clear i3
   refine iR 3 5 [(29, (.tuple #[(.agg #[(.int .i64 c.1), (.int .i64 c.2.1), (.int .u32 c.2.2.1), (.string ⟨List.toArray c.2.2.2.1⟩), (.int .i64 c.2.2.2.2.1), (.string ⟨List.toArray c.2.2.2.2.2.1⟩), (.string ⟨List.toArray c.2.2.2.2.2.2.1⟩), (.string ⟨List.toArray c.2.2.2.2.2.2.2.1⟩)]), (.bool c.2.2.2.2.2.2.2.2)])), (32, (.agg #[(.int .i64 c.1), (.int .i64 c.2.1), (.int .u32 c.2.2.1), (.string ⟨List.toArray c.2.2.2.1⟩), (.int .i64 c.2.2.2.2.1), (.string ⟨List.toArray c.2.2.2.2.2.1⟩), (.string ⟨List.toArray c.2.2.2.2.2.2.1⟩), (.string ⟨List.toArray c.2.2.2.2.2.2.2.1⟩)])), (33, (.bool c.2.2.2.2.2.2.2.2))] ?_
   refine iS 6 ?_
   refine Qh.alloc (t := 52) (z := (.agg #[(.int .i64 0), (.int .i64 0), (.int .u32 0), (.string ⟨List.toArray ([] : List UInt8)⟩), (.int .i64 0), (.string ⟨List.toArray ([] : List UInt8)⟩), (.string ⟨List.toArray ([] : List UInt8)⟩), (.string ⟨List.toArray ([] : List UInt8)⟩)])) (d := (some 8)) (k := 5) K rfl K n6 ?_
   intro c9 w56 n7
   refine iS 7 ?_
   refine Qh.store (t := 52) (x := (.tmp 8)) (y := (.tmp 32)) (g := c9) (off := 0) (i := 2) (v := (.agg #[(.int .i64 c.1), (.int .i64 c.2.1), (.int .u32 c.2.2.1), (.string ⟨List.toArray c.2.2.2.1⟩), (.int .i64 c.2.2.2.2.1), (.string ⟨List.toArray c.2.2.2.2.2.1⟩), (.string ⟨List.toArray c.2.2.2.2.2.2.1⟩), (.string ⟨List.toArray c.2.2.2.2.2.2.2.1⟩)])) (cs' := #[(.int .i64 c.1), (.int .i64 c.2.1), (.int .u32 c.2.2.1), (.string ⟨List.toArray c.2.2.2.1⟩), (.int .i64 c.2.2.2.2.1), (.string ⟨List.toArray c.2.2.2.2.2.1⟩), (.string ⟨List.toArray c.2.2.2.2.2.2.1⟩), (.string ⟨List.toArray c.2.2.2.2.2.2.2.1⟩)]) (d := none) (k := 6) K rfl K K n7 rfl K ?_
   intro n8 n9
   refine iR 1 8 [(9, (.bool c.2.2.2.2.2.2.2.2))] ?_
   refine iF ?_
   refine aQ ?_
   refine aR ?_
   refine iR 1 1 [(35, (.string ⟨List.toArray p9⟩))] ?_
   obtain ⟨f, o0, H⟩ := Qa H
   refine iS 2 ?_
   refine cF 32 #[(.tmp 35)] #[9] 36 Tryz.call32 (Bi  p9 n8  f o0) ?_
   rintro e w64 ⟨rfl, i4⟩
   refine ⟨_, rfl, ?_⟩
   have o1 := SP.call n9 i4
   clear i4
   refine iR 3 5 [(34, (.tuple #[(.agg #[(.int .i64 f.1), (.int .i64 f.2.1), (.int .u32 f.2.2.1), (.string ⟨List.toArray f.2.2.2.1⟩), (.int .i64 f.2.2.2.2.1), (.string ⟨List.toArray f.2.2.2.2.2.1⟩), (.string ⟨List.toArray f.2.2.2.2.2.2.1⟩), (.string ⟨List.toArray f.2.2.2.2.2.2.2.1⟩)]), (.bool f.2.2.2.2.2.2.2.2)])), (37, (.agg #[(.int .i64 f.1), (.int .i64 f.2.1), (.int .u32 f.2.2.1), (.string ⟨List.toArray f.2.2.2.1⟩), (.int .i64 f.2.2.2.2.1), (.string ⟨List.toArray f.2.2.2.2.2.1⟩), (.string ⟨List.toArray f.2.2.2.2.2.2.1⟩), (.string ⟨List.toArray f.2.2.2.2.2.2.2.1⟩)])), (38, (.bool f.2.2.2.2.2.2.2.2))] ?_
   refine iS 6 ?_
   refine Qh.alloc (t := 52) (z := (.agg #[(.int .i64 0), (.int .i64 0), (.int .u32 0), (.string ⟨List.toArray ([] : List UInt8)⟩), (.int .i64 0), (.string ⟨List.toArray ([] : List UInt8)⟩), (.string ⟨List.toArray ([] : List UInt8)⟩), (.string ⟨List.toArray ([] : List UInt8)⟩)])) (d := (some 10)) (k := 5) K rfl K o1 ?_
   intro d0 w69 o2
   refine iS 7 ?_
   refine Qh.store (t := 52) (x := (.tmp 10)) (y := (.tmp 37)) (g := d0) (off := 0) (i := 3) (v := (.agg #[(.int .i64 f.1), (.int .i64 f.2.1), (.int .u32 f.2.2.1), (.string ⟨List.toArray f.2.2.2.1⟩), (.int .i64 f.2.2.2.2.1), (.string ⟨List.toArray f.2.2.2.2.2.1⟩), (.string ⟨List.toArray f.2.2.2.2.2.2.1⟩), (.string ⟨List.toArray f.2.2.2.2.2.2.2.1⟩)])) (cs' := #[(.int .i64 f.1), (.int .i64 f.2.1), (.int .u32 f.2.2.1), (.string ⟨List.toArray f.2.2.2.1⟩), (.int .i64 f.2.2.2.2.1), (.string ⟨List.toArray f.2.2.2.2.2.1⟩), (.string ⟨List.toArray f.2.2.2.2.2.2.1⟩), (.string ⟨List.toArray f.2.2.2.2.2.2.2.1⟩)]) (d := none) (k := 6) K rfl K K o2 rfl K ?_
   intro o3 i5
   refine iR 1 8 [(11, (.bool f.2.2.2.2.2.2.2.2))] ?_
   refine iF ?_
   refine aQ ?_
   refine aR ?_
   refine iR 1 1 [(40, (.string ⟨List.toArray p9⟩))] ?_
   obtain ⟨p, o4, H⟩ := Qa H
   refine iS 2 ?_
   refine cF 33 #[(.tmp 40)] #[9] 41 Tryz.call33 (Rn  p9 o3 (Qt hL (SP.keeps i5)) p o4) ?_
   rintro e w77 ⟨c5, c6, rfl, i6⟩
   refine ⟨_, rfl, ?_⟩
   have o5 := SP.call i5 i6
   clear i6
   refine iR 3 5 [(39, (.tuple #[(.agg #[(.int .i64 p.1), (.int .i64 p.2.1), (.int .i64 p.2.2.1), (.slice c5 (List.length p.2.2.2.1) c6)]), (.bool p.2.2.2.2)])), (42, (.agg #[(.int .i64 p.1), (.int .i64 p.2.1), (.int .i64 p.2.2.1), (.slice c5 (List.length p.2.2.2.1) c6)])), (43, (.bool p.2.2.2.2))] ?_
   refine iS 6 ?_
   refine Qh.alloc (t := 55) (z := (.agg #[(.int .i64 0), (.int .i64 0), (.int .i64 0), (.slice none (List.length ([] : List (Int × (List UInt8) × Bool × Bool))) 0)])) (d := (some 12)) (k := 5) K rfl K o5 ?_
   intro d4 w84 o6
   refine iS 7 ?_
   refine Qh.store (t := 55) (x := (.tmp 12)) (y := (.tmp 42)) (g := d4) (off := 0) (i := 5) (v := (.agg #[(.int .i64 p.1), (.int .i64 p.2.1), (.int .i64 p.2.2.1), (.slice c5 (List.length p.2.2.2.1) c6)])) (cs' := #[(.int .i64 p.1), (.int .i64 p.2.1), (.int .i64 p.2.2.1), (.slice c5 (List.length p.2.2.2.1) c6)]) (d := none) (k := 6) K rfl K K o6 rfl K ?_
   intro o7 o8
   refine iR 1 8 [(13, (.bool p.2.2.2.2))] ?_
   refine iF ?_
   refine aQ ?_
   refine aR ?_
   refine iR 1 1 [(45, (.string ⟨List.toArray p9⟩))] ?_
   obtain ⟨q, o9, H⟩ := Qa H
   refine iS 2 ?_
   refine cF 34 #[(.tmp 45)] #[9] 46 Tryz.call34 (Bz  p9 o7  q o9) ?_
   rintro e w92 ⟨c7, c8, rfl, i7⟩
   refine ⟨_, rfl, ?_⟩
   have p0 := SP.call o8 i7
   clear i7
   refine iR 3 5 [(44, (.tuple #[(.agg #[(.int .i64 q.1), (.int .i64 q.2.1), (.int .i64 q.2.2.1), (.slice c7 (List.length q.2.2.2.1) c8)]), (.bool q.2.2.2.2)])), (47, (.agg #[(.int .i64 q.1), (.int .i64 q.2.1), (.int .i64 q.2.2.1), (.slice c7 (List.length q.2.2.2.1) c8)])), (48, (.bool q.2.2.2.2))] ?_
   refine iS 6 ?_
   refine Qh.alloc (t := 55) (z := (.agg #[(.int .i64 0), (.int .i64 0), (.int .i64 0), (.slice none (List.length ([] : List (Int × (List UInt8) × Bool × Bool))) 0)])) (d := (some 14)) (k := 5) K rfl K p0 ?_
   intro d5 w99 p1
   refine iS 7 ?_
   refine Qh.store (t := 55) (x := (.tmp 14)) (y := (.tmp 47)) (g := d5) (off := 0) (i := 7) (v := (.agg #[(.int .i64 q.1), (.int .i64 q.2.1), (.int .i64 q.2.2.1), (.slice c7 (List.length q.2.2.2.1) c8)])) (cs' := #[(.int .i64 q.1), (.int .i64 q.2.1), (.int .i64 q.2.2.1), (.slice c7 (List.length q.2.2.2.1) c8)]) (d := none) (k := 6) K rfl K K p1 rfl K ?_
   intro ac6 e9
   refine iR 1 8 [(15, (.bool q.2.2.2.2))] ?_
   refine iF ?_
   refine aQ ?_
   refine At.join (fun ρ w => ∃ (f1 : Bool), Q7 ρ [(6, (.bool f1))] ∧ SP [] w0 w [] ∧ Q6 f1 = some r) ?_ ?_
   ·rcases Bool.eq_false_or_eq_true b1 with b0 | b0
    ·have H := ct H b0
     obtain ⟨s, f2, H⟩ := Qa H
     obtain ⟨u, f3, H⟩ := Qa H
     rcases Bool.eq_false_or_eq_true (s == u) with c4 | c4
     ·have H := ct H c4
      rcases Bool.eq_false_or_eq_true ((c.1 == f.1) && ((c.2.1 == f.2.1) && ((c.2.2.1 == f.2.2.1) && ((c.2.2.2.1 == f.2.2.2.1) && ((c.2.2.2.2.1 == f.2.2.2.2.1) && ((c.2.2.2.2.2.1 == f.2.2.2.2.2.1) && ((c.2.2.2.2.2.2.1 == f.2.2.2.2.2.2.1) && (c.2.2.2.2.2.2.2.1 == f.2.2.2.2.2.2.2.1)))))))) with d1 | d1
      ·have H := ct H d1
       rcases Bool.eq_false_or_eq_true (c.2.2.2.2.2.2.2.2 == f.2.2.2.2.2.2.2.2) with c2 | c2
       ·have H := ct H c2
        obtain ⟨b3, g5, H⟩ := Qa H
        obtain ⟨c0, g6, H⟩ := Qa H
        rcases Bool.eq_false_or_eq_true (b3 == c0) with d2 | d2
        ·have H := ct H d2
         obtain ⟨d3, i8, H⟩ := Qa H
         rcases Bool.eq_false_or_eq_true d3 with d6 | d6
         ·have H := ct H d6
          refine aG [GEq (.bool b1), GEq (.bool b1), GEq (.agg #[(.int .i64 a1), (.int .i64 a2), (.int .u32 a3), (.string ⟨List.toArray a4⟩), (.int .i64 a5), (.string ⟨List.toArray a6⟩), (.string ⟨List.toArray a7⟩), (.string ⟨List.toArray a8⟩)]), GEq (.string ⟨List.toArray s⟩), GEq (.agg #[(.int .i64 a1), (.int .i64 a2), (.int .u32 a3), (.string ⟨List.toArray a4⟩), (.int .i64 a5), (.string ⟨List.toArray a6⟩), (.string ⟨List.toArray a7⟩), (.string ⟨List.toArray a8⟩)]), GEq (.string ⟨List.toArray u⟩), GEq (.bool (s == u)), GEq (.bool (s == u)), GEq (.bool (s == u)), GEq (.agg #[(.int .i64 c.1), (.int .i64 c.2.1), (.int .u32 c.2.2.1), (.string ⟨List.toArray c.2.2.2.1⟩), (.int .i64 c.2.2.2.2.1), (.string ⟨List.toArray c.2.2.2.2.2.1⟩), (.string ⟨List.toArray c.2.2.2.2.2.2.1⟩), (.string ⟨List.toArray c.2.2.2.2.2.2.2.1⟩)]), GEq (.agg #[(.int .i64 f.1), (.int .i64 f.2.1), (.int .u32 f.2.2.1), (.string ⟨List.toArray f.2.2.2.1⟩), (.int .i64 f.2.2.2.2.1), (.string ⟨List.toArray f.2.2.2.2.2.1⟩), (.string ⟨List.toArray f.2.2.2.2.2.2.1⟩), (.string ⟨List.toArray f.2.2.2.2.2.2.2.1⟩)]), GEq (.bool ((c.1 == f.1) && ((c.2.1 == f.2.1) && ((c.2.2.1 == f.2.2.1) && ((c.2.2.2.1 == f.2.2.2.1) && ((c.2.2.2.2.1 == f.2.2.2.2.1) && ((c.2.2.2.2.2.1 == f.2.2.2.2.2.1) && ((c.2.2.2.2.2.2.1 == f.2.2.2.2.2.2.1) && (c.2.2.2.2.2.2.2.1 == f.2.2.2.2.2.2.2.1))))))))), GEq (.bool ((c.1 == f.1) && ((c.2.1 == f.2.1) && ((c.2.2.1 == f.2.2.1) && ((c.2.2.2.1 == f.2.2.2.1) && ((c.2.2.2.2.1 == f.2.2.2.2.1) && ((c.2.2.2.2.2.1 == f.2.2.2.2.2.1) && ((c.2.2.2.2.2.2.1 == f.2.2.2.2.2.2.1) && (c.2.2.2.2.2.2.2.1 == f.2.2.2.2.2.2.2.1))))))))), GEq (.bool ((c.1 == f.1) && ((c.2.1 == f.2.1) && ((c.2.2.1 == f.2.2.1) && ((c.2.2.2.1 == f.2.2.2.1) && ((c.2.2.2.2.1 == f.2.2.2.2.1) && ((c.2.2.2.2.2.1 == f.2.2.2.2.2.1) && ((c.2.2.2.2.2.2.1 == f.2.2.2.2.2.2.1) && (c.2.2.2.2.2.2.2.1 == f.2.2.2.2.2.2.2.1))))))))), GEq (.bool c.2.2.2.2.2.2.2.2), GEq (.bool f.2.2.2.2.2.2.2.2), GEq (.bool (c.2.2.2.2.2.2.2.2 == f.2.2.2.2.2.2.2.2)), GEq (.bool (c.2.2.2.2.2.2.2.2 == f.2.2.2.2.2.2.2.2)), GEq (.bool (c.2.2.2.2.2.2.2.2 == f.2.2.2.2.2.2.2.2)), GEq (.agg #[(.int .i64 b4), (.int .i64 b5), (.int .i64 b6), (.slice b7 (List.length b2) b8)]), GEq (.string ⟨List.toArray b3⟩), GEq (.agg #[(.int .i64 b4), (.int .i64 b5), (.int .i64 b6), (.slice b7 (List.length b2) b8)]), GEq (.string ⟨List.toArray c0⟩), GEq (.bool (b3 == c0)), GEq (.bool (b3 == c0)), GEq (.bool (b3 == c0)), GEq (.agg #[(.int .i64 p.1), (.int .i64 p.2.1), (.int .i64 p.2.2.1), (.slice c5 (List.length p.2.2.2.1) c6)]), GEq (.agg #[(.int .i64 q.1), (.int .i64 q.2.1), (.int .i64 q.2.2.1), (.slice c7 (List.length q.2.2.2.1) c8)]), GEq (.bool d3), GEq (.bool d3), GEq (.bool d3), GEq (.bool p.2.2.2.2), GEq (.bool q.2.2.2.2), GEq (.bool (p.2.2.2.2 == q.2.2.2.2)), GEq (.bool (p.2.2.2.2 == q.2.2.2.2)), GEq (.bool (p.2.2.2.2 == q.2.2.2.2))] [3, 5, 20, 22, 28] (tG [] w0 [Qk a9 52 #[(.int .i64 a1), (.int .i64 a2), (.int .u32 a3), (.string ⟨List.toArray a4⟩), (.int .i64 a5), (.string ⟨List.toArray a6⟩), (.string ⟨List.toArray a7⟩), (.string ⟨List.toArray a8⟩)], Qk b9 55 #[(.int .i64 b4), (.int .i64 b5), (.int .i64 b6), (.slice b7 (List.length b2) b8)], Qk c9 52 #[(.int .i64 c.1), (.int .i64 c.2.1), (.int .u32 c.2.2.1), (.string ⟨List.toArray c.2.2.2.1⟩), (.int .i64 c.2.2.2.2.1), (.string ⟨List.toArray c.2.2.2.2.2.1⟩), (.string ⟨List.toArray c.2.2.2.2.2.2.1⟩), (.string ⟨List.toArray c.2.2.2.2.2.2.2.1⟩)], Qk d0 52 #[(.int .i64 f.1), (.int .i64 f.2.1), (.int .u32 f.2.2.1), (.string ⟨List.toArray f.2.2.2.1⟩), (.int .i64 f.2.2.2.2.1), (.string ⟨List.toArray f.2.2.2.2.2.1⟩), (.string ⟨List.toArray f.2.2.2.2.2.2.1⟩), (.string ⟨List.toArray f.2.2.2.2.2.2.2.1⟩)], Vu 108 (Qf (Jw .i64) (Qf Qn (Qf Qm Qm))) c5 c6 p.2.2.2.1, Qk d4 55 #[(.int .i64 p.1), (.int .i64 p.2.1), (.int .i64 p.2.2.1), (.slice c5 (List.length p.2.2.2.1) c6)], Vu 108 (Qf (Jw .i64) (Qf Qn (Qf Qm Qm))) c7 c8 q.2.2.2.1, Qk d5 55 #[(.int .i64 q.1), (.int .i64 q.2.1), (.int .i64 q.2.2.1), (.slice c7 (List.length q.2.2.2.1) c8)]] [([], []), ([3], [(.string ⟨List.toArray s⟩)]), ([3, 5], [(.string ⟨List.toArray s⟩), (.string ⟨List.toArray u⟩)]), ([3, 5, 20], [(.string ⟨List.toArray s⟩), (.string ⟨List.toArray u⟩), (.string ⟨List.toArray b3⟩)]), ([3, 5, 20, 22], [(.string ⟨List.toArray s⟩), (.string ⟨List.toArray u⟩), (.string ⟨List.toArray b3⟩), (.string ⟨List.toArray c0⟩)]), ([3, 5, 20, 22, 28], [(.string ⟨List.toArray s⟩), (.string ⟨List.toArray u⟩), (.string ⟨List.toArray b3⟩), (.string ⟨List.toArray c0⟩), (.bool d3)])]) 36 5 ⟨trivial, SP.drew e9⟩ ?_ ?_
          iterate 36 refine And.intro ?_ ?_
          exact trivial
          ·exact oV (hC (hS 7 (.bool b1)) (h0)) (.bool b1)
          ·exact oV (hC (hA 0 49) (h0)) (.bool b1)
          ·refine oL 0 ?_
           ·rintro ρ' w' hs j ⟨ac7, p2⟩
            have e3 : ρ' 3 = (pt a9 0) := (hs 3 K).trans K
            have a0 := j 1 50 K
            refine kN [(3, (pt a9 0)), (50, (.bool true))] ⟨e3, (Eq.trans a0 (congrArg Value.bool b0)), trivial⟩ fun m => ?_
            refine sL 52 3 a9 0 0 (.agg #[(.int .i64 a1), (.int .i64 a2), (.int .u32 a3), (.string ⟨List.toArray a4⟩), (.int .i64 a5), (.string ⟨List.toArray a6⟩), (.string ⟨List.toArray a7⟩), (.string ⟨List.toArray a8⟩)]) 51 p2 rfl ?_
            exact eK m
          ·refine oH 0 1 ?_
           ·rintro ρ' w' hs j ⟨ac8, i9⟩
            have d7 := j 2 51 K
            have a0 := j 1 50 K
            refine kN [(51, (.agg #[(.int .i64 a1), (.int .i64 a2), (.int .u32 a3), (.string ⟨List.toArray a4⟩), (.int .i64 a5), (.string ⟨List.toArray a6⟩), (.string ⟨List.toArray a7⟩), (.string ⟨List.toArray a8⟩)])), (50, (.bool true))] ⟨d7, (Eq.trans a0 (congrArg Value.bool b0)), trivial⟩ fun m => ?_
            refine cF 35 #[(.tmp 51)] #[52] 52 Tryz.call35 (Z0  a1 a2 a3 a4 a5 a6 a7 a8 w' (Qt hL (SP.keeps i9)) s f2) ?_
            rintro e ac9 ⟨rfl, j0⟩
            refine ⟨_, rfl, ?_⟩
            have p3 := SP.call i9 j0
            clear j0
            refine ⟨_, Qg m, rfl, ?_⟩
            exact (And.intro (And.intro rfl (trivial)) (p3))
          ·refine Owe.light K [0, 1] K (Qe ?_ (Qe ?_ Vl))
           ·rintro ρ' w' hs j ⟨ad0, p4⟩
            have e3 : ρ' 3 = (pt a9 0) := (hs 3 K).trans K
            have a0 := j 1 50 K
            refine kN [(3, (pt a9 0)), (50, (.bool true))] ⟨e3, (Eq.trans a0 (congrArg Value.bool b0)), trivial⟩ fun m => ?_
            refine sL 52 3 a9 0 0 (.agg #[(.int .i64 a1), (.int .i64 a2), (.int .u32 a3), (.string ⟨List.toArray a4⟩), (.int .i64 a5), (.string ⟨List.toArray a6⟩), (.string ⟨List.toArray a7⟩), (.string ⟨List.toArray a8⟩)]) 53 p4 rfl ?_
            exact eK m
           ·rintro ρ' w' hs j ⟨⟨ad1, -⟩, p5⟩
            have e3 : ρ' 3 = (pt a9 0) := (hs 3 K).trans K
            have a0 := j 1 50 K
            refine kN [(3, (pt a9 0)), (50, (.bool true))] ⟨e3, (Eq.trans a0 (congrArg Value.bool b0)), trivial⟩ fun m => ?_
            refine sL 52 3 a9 0 0 (.agg #[(.int .i64 a1), (.int .i64 a2), (.int .u32 a3), (.string ⟨List.toArray a4⟩), (.int .i64 a5), (.string ⟨List.toArray a6⟩), (.string ⟨List.toArray a7⟩), (.string ⟨List.toArray a8⟩)]) 53 p5 rfl ?_
            exact eK m
          ·refine oH 1 2 ?_
           ·rintro ρ' w' hs j ⟨⟨p6, -⟩, p7⟩
            have d8 := j 4 53 K
            have a0 := j 1 50 K
            refine kN [(53, (.agg #[(.int .i64 a1), (.int .i64 a2), (.int .u32 a3), (.string ⟨List.toArray a4⟩), (.int .i64 a5), (.string ⟨List.toArray a6⟩), (.string ⟨List.toArray a7⟩), (.string ⟨List.toArray a8⟩)])), (50, (.bool true))] ⟨d8, (Eq.trans a0 (congrArg Value.bool b0)), trivial⟩ fun m => ?_
            refine cF 36 #[(.tmp 53)] #[52] 54 Tryz.call36 (Xn  a1 a2 a3 a4 a5 a6 a7 a8 w'  u f3) ?_
            rintro e ad2 ⟨rfl, j1⟩
            refine ⟨_, rfl, ?_⟩
            have p8 := SP.call p7 j1
            clear j1
            refine ⟨_, Qg m, rfl, ?_⟩
            exact (And.intro (And.intro p6 (And.intro rfl (trivial))) (p8))
          ·refine oL 2 ?_
           ·rintro ρ' w' hs j ⟨⟨q0, q1, -⟩, ad3⟩
            have d9 : ρ' 52 = (.string ⟨List.toArray s⟩) := (Qv (h := 3) K).symm.trans q0
            have e0 : ρ' 54 = (.string ⟨List.toArray u⟩) := (Qv (h := 5) K).symm.trans q1
            have a0 := j 1 50 K
            refine kN [(52, (.string ⟨List.toArray s⟩)), (54, (.string ⟨List.toArray u⟩)), (50, (.bool true))] ⟨d9, e0, (Eq.trans a0 (congrArg Value.bool b0)), trivial⟩ fun m => ?_
            refine Qu (op := .eql) (T := 9) (T' := 9) (x := (.tmp 52)) (y := (.tmp 54)) (a := s) (b := u) (r := (.bool (s == u))) (d := (some 55)) (k := 6) K rfl K K rfl ?_
            exact eK m
          ·exact oV (hC (hB 1 50 b0) (hC (hA 6 55) (h0))) (.bool (s == u))
          ·exact oV (hC (hA 7 56) (h0)) (.bool (s == u))
          ·refine oL 2 ?_
           ·rintro ρ' w' hs j ⟨⟨ad4, ad5, -⟩, q2⟩
            have e8 : ρ' 8 = (pt c9 0) := (hs 8 K).trans K
            have c3 := j 8 57 K
            refine kN [(8, (pt c9 0)), (57, (.bool true))] ⟨e8, (Eq.trans c3 (congrArg Value.bool c4)), trivial⟩ fun m => ?_
            refine sL 52 8 c9 0 2 (.agg #[(.int .i64 c.1), (.int .i64 c.2.1), (.int .u32 c.2.2.1), (.string ⟨List.toArray c.2.2.2.1⟩), (.int .i64 c.2.2.2.2.1), (.string ⟨List.toArray c.2.2.2.2.2.1⟩), (.string ⟨List.toArray c.2.2.2.2.2.2.1⟩), (.string ⟨List.toArray c.2.2.2.2.2.2.2.1⟩)]) 58 q2 rfl ?_
            exact eK m
          ·refine oL 2 ?_
           ·rintro ρ' w' hs j ⟨⟨ad6, ad7, -⟩, q3⟩
            have e2 : ρ' 10 = (pt d0 0) := (hs 10 K).trans K
            have c3 := j 8 57 K
            refine kN [(10, (pt d0 0)), (57, (.bool true))] ⟨e2, (Eq.trans c3 (congrArg Value.bool c4)), trivial⟩ fun m => ?_
            refine sL 52 10 d0 0 3 (.agg #[(.int .i64 f.1), (.int .i64 f.2.1), (.int .u32 f.2.2.1), (.string ⟨List.toArray f.2.2.2.1⟩), (.int .i64 f.2.2.2.2.1), (.string ⟨List.toArray f.2.2.2.2.2.1⟩), (.string ⟨List.toArray f.2.2.2.2.2.2.1⟩), (.string ⟨List.toArray f.2.2.2.2.2.2.2.1⟩)]) 59 q3 rfl ?_
            exact eK m
          ·refine oL 2 ?_
           ·rintro ρ' w' hs j ⟨⟨ad8, ad9, -⟩, ae0⟩
            have e4 := j 9 58 K
            have e6 := j 10 59 K
            have c3 := j 8 57 K
            refine kN [(58, (.agg #[(.int .i64 c.1), (.int .i64 c.2.1), (.int .u32 c.2.2.1), (.string ⟨List.toArray c.2.2.2.1⟩), (.int .i64 c.2.2.2.2.1), (.string ⟨List.toArray c.2.2.2.2.2.1⟩), (.string ⟨List.toArray c.2.2.2.2.2.2.1⟩), (.string ⟨List.toArray c.2.2.2.2.2.2.2.1⟩)])), (59, (.agg #[(.int .i64 f.1), (.int .i64 f.2.1), (.int .u32 f.2.2.1), (.string ⟨List.toArray f.2.2.2.1⟩), (.int .i64 f.2.2.2.2.1), (.string ⟨List.toArray f.2.2.2.2.2.1⟩), (.string ⟨List.toArray f.2.2.2.2.2.2.1⟩), (.string ⟨List.toArray f.2.2.2.2.2.2.2.1⟩)])), (57, (.bool true))] ⟨e4, e6, (Eq.trans c3 (congrArg Value.bool c4)), trivial⟩ fun m => ?_
            refine Db (op := .eql) (T := 52) (T' := 52) (x := (.tmp 58)) (y := (.tmp 59)) (vx := (.agg #[(.int .i64 c.1), (.int .i64 c.2.1), (.int .u32 c.2.2.1), (.string ⟨List.toArray c.2.2.2.1⟩), (.int .i64 c.2.2.2.2.1), (.string ⟨List.toArray c.2.2.2.2.2.1⟩), (.string ⟨List.toArray c.2.2.2.2.2.2.1⟩), (.string ⟨List.toArray c.2.2.2.2.2.2.2.1⟩)])) (vy := (.agg #[(.int .i64 f.1), (.int .i64 f.2.1), (.int .u32 f.2.2.1), (.string ⟨List.toArray f.2.2.2.1⟩), (.int .i64 f.2.2.2.2.1), (.string ⟨List.toArray f.2.2.2.2.2.1⟩), (.string ⟨List.toArray f.2.2.2.2.2.2.1⟩), (.string ⟨List.toArray f.2.2.2.2.2.2.2.1⟩)])) (v := (.bool ((c.1 == f.1) && ((c.2.1 == f.2.1) && ((c.2.2.1 == f.2.2.1) && ((c.2.2.2.1 == f.2.2.2.1) && ((c.2.2.2.2.1 == f.2.2.2.2.1) && ((c.2.2.2.2.2.1 == f.2.2.2.2.2.1) && ((c.2.2.2.2.2.2.1 == f.2.2.2.2.2.2.1) && (c.2.2.2.2.2.2.2.1 == f.2.2.2.2.2.2.2.1)))))))))) (d := (some 60)) (k := 11) K rfl K K (by clear H; intro w; simp only [Gd]; go_simp; simp only [Gm, Nn, Re, Gd, Bool.and_true] <;> simp only [Bool.not_and]) ?_
            exact eK m
          ·exact oV (hC (hB 8 57 c4) (hC (hA 11 60) (h0))) (.bool ((c.1 == f.1) && ((c.2.1 == f.2.1) && ((c.2.2.1 == f.2.2.1) && ((c.2.2.2.1 == f.2.2.2.1) && ((c.2.2.2.2.1 == f.2.2.2.2.1) && ((c.2.2.2.2.2.1 == f.2.2.2.2.2.1) && ((c.2.2.2.2.2.2.1 == f.2.2.2.2.2.2.1) && (c.2.2.2.2.2.2.2.1 == f.2.2.2.2.2.2.2.1)))))))))
          ·exact oV (hC (hA 12 61) (h0)) (.bool ((c.1 == f.1) && ((c.2.1 == f.2.1) && ((c.2.2.1 == f.2.2.1) && ((c.2.2.2.1 == f.2.2.2.1) && ((c.2.2.2.2.1 == f.2.2.2.2.1) && ((c.2.2.2.2.2.1 == f.2.2.2.2.2.1) && ((c.2.2.2.2.2.2.1 == f.2.2.2.2.2.2.1) && (c.2.2.2.2.2.2.2.1 == f.2.2.2.2.2.2.2.1)))))))))
          ·exact oV (hC (hS 9 (.bool c.2.2.2.2.2.2.2.2)) (hC (hB 13 62 d1) (h0))) (.bool c.2.2.2.2.2.2.2.2)
          ·exact oV (hC (hS 11 (.bool f.2.2.2.2.2.2.2.2)) (hC (hB 13 62 d1) (h0))) (.bool f.2.2.2.2.2.2.2.2)
          ·exact oV (hC (hA 14 63) (hC (hA 15 64) (hC (hB 13 62 d1) (h0)))) (.bool (c.2.2.2.2.2.2.2.2 == f.2.2.2.2.2.2.2.2))
          ·exact oV (hC (hB 13 62 d1) (hC (hA 16 65) (h0))) (.bool (c.2.2.2.2.2.2.2.2 == f.2.2.2.2.2.2.2.2))
          ·exact oV (hC (hA 17 66) (h0)) (.bool (c.2.2.2.2.2.2.2.2 == f.2.2.2.2.2.2.2.2))
          ·refine oL 2 ?_
           ·rintro ρ' w' hs j ⟨⟨ae1, ae2, -⟩, q4⟩
            have e5 : ρ' 5 = (pt b9 0) := (hs 5 K).trans K
            have c1 := j 18 67 K
            refine kN [(5, (pt b9 0)), (67, (.bool true))] ⟨e5, (Eq.trans c1 (congrArg Value.bool c2)), trivial⟩ fun m => ?_
            refine sL 55 5 b9 0 1 (.agg #[(.int .i64 b4), (.int .i64 b5), (.int .i64 b6), (.slice b7 (List.length b2) b8)]) 68 q4 rfl ?_
            exact eK m
          ·refine oH 2 3 ?_
           ·rintro ρ' w' hs j ⟨⟨q5, q6, -⟩, g7⟩
            have f4 := j 19 68 K
            have c1 := j 18 67 K
            refine kN [(68, (.agg #[(.int .i64 b4), (.int .i64 b5), (.int .i64 b6), (.slice b7 (List.length b2) b8)])), (67, (.bool true))] ⟨f4, (Eq.trans c1 (congrArg Value.bool c2)), trivial⟩ fun m => ?_
            refine cF 37 #[(.tmp 68)] #[55] 69 Tryz.call37 (Ut b7 b8 b4 b5 b6 b2 w' (Qt hL (SP.keeps g7)) (RdT.sp e7 g7) b3 g5) ?_
            rintro e ae3 ⟨rfl, j2⟩
            refine ⟨_, rfl, ?_⟩
            have q7 := SP.call g7 j2
            clear j2
            refine ⟨_, Qg m, rfl, ?_⟩
            exact (And.intro (And.intro q5 (And.intro q6 (And.intro rfl (trivial)))) (q7))
          ·refine Owe.light K [2, 3] K (Qe ?_ (Qe ?_ Vl))
           ·rintro ρ' w' hs j ⟨⟨ae4, ae5, -⟩, q8⟩
            have e5 : ρ' 5 = (pt b9 0) := (hs 5 K).trans K
            have c1 := j 18 67 K
            refine kN [(5, (pt b9 0)), (67, (.bool true))] ⟨e5, (Eq.trans c1 (congrArg Value.bool c2)), trivial⟩ fun m => ?_
            refine sL 55 5 b9 0 1 (.agg #[(.int .i64 b4), (.int .i64 b5), (.int .i64 b6), (.slice b7 (List.length b2) b8)]) 70 q8 rfl ?_
            exact eK m
           ·rintro ρ' w' hs j ⟨⟨ae6, ae7, ae8, -⟩, q9⟩
            have e5 : ρ' 5 = (pt b9 0) := (hs 5 K).trans K
            have c1 := j 18 67 K
            refine kN [(5, (pt b9 0)), (67, (.bool true))] ⟨e5, (Eq.trans c1 (congrArg Value.bool c2)), trivial⟩ fun m => ?_
            refine sL 55 5 b9 0 1 (.agg #[(.int .i64 b4), (.int .i64 b5), (.int .i64 b6), (.slice b7 (List.length b2) b8)]) 70 q9 rfl ?_
            exact eK m
          ·refine oH 3 4 ?_
           ·rintro ρ' w' hs j ⟨⟨r0, r1, r2, -⟩, j3⟩
            have f5 := j 21 70 K
            have c1 := j 18 67 K
            refine kN [(70, (.agg #[(.int .i64 b4), (.int .i64 b5), (.int .i64 b6), (.slice b7 (List.length b2) b8)])), (67, (.bool true))] ⟨f5, (Eq.trans c1 (congrArg Value.bool c2)), trivial⟩ fun m => ?_
            refine cF 38 #[(.tmp 70)] #[55] 71 Tryz.call38 (Nw b7 b8 b4 b5 b6 b2 w' (RdT.sp e7 j3) c0 g6) ?_
            rintro e ae9 ⟨rfl, j4⟩
            refine ⟨_, rfl, ?_⟩
            have r3 := SP.call j3 j4
            clear j4
            refine ⟨_, Qg m, rfl, ?_⟩
            exact (And.intro (And.intro r0 (And.intro r1 (And.intro r2 (And.intro rfl (trivial))))) (r3))
          ·refine oL 4 ?_
           ·rintro ρ' w' hs j ⟨⟨af0, af1, r4, r5, -⟩, af2⟩
            have f6 : ρ' 69 = (.string ⟨List.toArray b3⟩) := (Qv (h := 20) K).symm.trans r4
            have f7 : ρ' 71 = (.string ⟨List.toArray c0⟩) := (Qv (h := 22) K).symm.trans r5
            have c1 := j 18 67 K
            refine kN [(69, (.string ⟨List.toArray b3⟩)), (71, (.string ⟨List.toArray c0⟩)), (67, (.bool true))] ⟨f6, f7, (Eq.trans c1 (congrArg Value.bool c2)), trivial⟩ fun m => ?_
            refine Qu (op := .eql) (T := 9) (T' := 9) (x := (.tmp 69)) (y := (.tmp 71)) (a := b3) (b := c0) (r := (.bool (b3 == c0))) (d := (some 72)) (k := 23) K rfl K K rfl ?_
            exact eK m
          ·exact oV (hC (hB 18 67 c2) (hC (hA 23 72) (h0))) (.bool (b3 == c0))
          ·exact oV (hC (hA 24 73) (h0)) (.bool (b3 == c0))
          ·refine oL 4 ?_
           ·rintro ρ' w' hs j ⟨⟨af3, af4, af5, af6, -⟩, r6⟩
            have g8 : ρ' 12 = (pt d4 0) := (hs 12 K).trans K
            have e1 := j 25 74 K
            refine kN [(12, (pt d4 0)), (74, (.bool true))] ⟨g8, (Eq.trans e1 (congrArg Value.bool d2)), trivial⟩ fun m => ?_
            refine sL 55 12 d4 0 5 (.agg #[(.int .i64 p.1), (.int .i64 p.2.1), (.int .i64 p.2.2.1), (.slice c5 (List.length p.2.2.2.1) c6)]) 75 r6 rfl ?_
            exact eK m
          ·refine oL 4 ?_
           ·rintro ρ' w' hs j ⟨⟨af7, af8, af9, ag0, -⟩, r7⟩
            have g9 : ρ' 14 = (pt d5 0) := (hs 14 K).trans K
            have e1 := j 25 74 K
            refine kN [(14, (pt d5 0)), (74, (.bool true))] ⟨g9, (Eq.trans e1 (congrArg Value.bool d2)), trivial⟩ fun m => ?_
            refine sL 55 14 d5 0 7 (.agg #[(.int .i64 q.1), (.int .i64 q.2.1), (.int .i64 q.2.2.1), (.slice c7 (List.length q.2.2.2.1) c8)]) 76 r7 rfl ?_
            exact eK m
          ·refine oH 4 5 ?_
           ·rintro ρ' w' hs j ⟨⟨r8, r9, s0, s1, -⟩, h1⟩
            have h2 := j 26 75 K
            have h3 := j 27 76 K
            have e1 := j 25 74 K
            refine kN [(75, (.agg #[(.int .i64 p.1), (.int .i64 p.2.1), (.int .i64 p.2.2.1), (.slice c5 (List.length p.2.2.2.1) c6)])), (76, (.agg #[(.int .i64 q.1), (.int .i64 q.2.1), (.int .i64 q.2.2.1), (.slice c7 (List.length q.2.2.2.1) c8)])), (74, (.bool true))] ⟨h2, h3, (Eq.trans e1 (congrArg Value.bool d2)), trivial⟩ fun m => ?_
            refine cF 39 #[(.tmp 75), (.tmp 76)] #[55, 55] 77 Tryz.call39 (Uj c5 c6 c7 c8 p.1 p.2.1 p.2.2.1 p.2.2.2.1 q.1 q.2.1 q.2.2.1 q.2.2.2.1 w' (Q9 (SP.get h1 (i := 4) rfl)) (Q9 (SP.get h1 (i := 6) rfl)) d3 i8) ?_
            rintro e ag1 ⟨rfl, j5⟩
            refine ⟨_, rfl, ?_⟩
            have s2 := SP.call h1 j5
            clear j5
            refine ⟨_, Qg m, rfl, ?_⟩
            exact (And.intro (And.intro r8 (And.intro r9 (And.intro s0 (And.intro s1 (And.intro rfl (trivial)))))) (s2))
          ·exact oV (hC (hB 25 74 d2) (hC (hA 28 77) (h0))) (.bool d3)
          ·exact oV (hC (hA 29 78) (h0)) (.bool d3)
          ·exact oV (hC (hS 13 (.bool p.2.2.2.2)) (hC (hB 30 79 d6) (h0))) (.bool p.2.2.2.2)
          ·exact oV (hC (hS 15 (.bool q.2.2.2.2)) (hC (hB 30 79 d6) (h0))) (.bool q.2.2.2.2)
          ·exact oV (hC (hA 31 80) (hC (hA 32 81) (hC (hB 30 79 d6) (h0)))) (.bool (p.2.2.2.2 == q.2.2.2.2))
          ·exact oV (hC (hB 30 79 d6) (hC (hA 33 82) (h0))) (.bool (p.2.2.2.2 == q.2.2.2.2))
          ·exact oV (hC (hA 34 83) (h0)) (.bool (p.2.2.2.2 == q.2.2.2.2))
          ·rintro ρ' w' hs hf ⟨⟨ag2, ag3, ag4, ag5, ag6, -⟩, j6⟩
           refine V3 [(6, (.bool (p.2.2.2.2 == q.2.2.2.2)))] ⟨hf 35 6 K, trivial⟩ ?_
           obtain ⟨ag7, s3⟩ : ∃ x, w' = x := ⟨_, rfl⟩
           rw [s3] at j6 ⊢
           exact ⟨(p.2.2.2.2 == q.2.2.2.2), ⟨K, trivial⟩, SP.sel j6 [] rfl rfl, H⟩
         ·have H := cf H d6
          refine aG [GEq (.bool b1), GEq (.bool b1), GEq (.agg #[(.int .i64 a1), (.int .i64 a2), (.int .u32 a3), (.string ⟨List.toArray a4⟩), (.int .i64 a5), (.string ⟨List.toArray a6⟩), (.string ⟨List.toArray a7⟩), (.string ⟨List.toArray a8⟩)]), GEq (.string ⟨List.toArray s⟩), GEq (.agg #[(.int .i64 a1), (.int .i64 a2), (.int .u32 a3), (.string ⟨List.toArray a4⟩), (.int .i64 a5), (.string ⟨List.toArray a6⟩), (.string ⟨List.toArray a7⟩), (.string ⟨List.toArray a8⟩)]), GEq (.string ⟨List.toArray u⟩), GEq (.bool (s == u)), GEq (.bool (s == u)), GEq (.bool (s == u)), GEq (.agg #[(.int .i64 c.1), (.int .i64 c.2.1), (.int .u32 c.2.2.1), (.string ⟨List.toArray c.2.2.2.1⟩), (.int .i64 c.2.2.2.2.1), (.string ⟨List.toArray c.2.2.2.2.2.1⟩), (.string ⟨List.toArray c.2.2.2.2.2.2.1⟩), (.string ⟨List.toArray c.2.2.2.2.2.2.2.1⟩)]), GEq (.agg #[(.int .i64 f.1), (.int .i64 f.2.1), (.int .u32 f.2.2.1), (.string ⟨List.toArray f.2.2.2.1⟩), (.int .i64 f.2.2.2.2.1), (.string ⟨List.toArray f.2.2.2.2.2.1⟩), (.string ⟨List.toArray f.2.2.2.2.2.2.1⟩), (.string ⟨List.toArray f.2.2.2.2.2.2.2.1⟩)]), GEq (.bool ((c.1 == f.1) && ((c.2.1 == f.2.1) && ((c.2.2.1 == f.2.2.1) && ((c.2.2.2.1 == f.2.2.2.1) && ((c.2.2.2.2.1 == f.2.2.2.2.1) && ((c.2.2.2.2.2.1 == f.2.2.2.2.2.1) && ((c.2.2.2.2.2.2.1 == f.2.2.2.2.2.2.1) && (c.2.2.2.2.2.2.2.1 == f.2.2.2.2.2.2.2.1))))))))), GEq (.bool ((c.1 == f.1) && ((c.2.1 == f.2.1) && ((c.2.2.1 == f.2.2.1) && ((c.2.2.2.1 == f.2.2.2.1) && ((c.2.2.2.2.1 == f.2.2.2.2.1) && ((c.2.2.2.2.2.1 == f.2.2.2.2.2.1) && ((c.2.2.2.2.2.2.1 == f.2.2.2.2.2.2.1) && (c.2.2.2.2.2.2.2.1 == f.2.2.2.2.2.2.2.1))))))))), GEq (.bool ((c.1 == f.1) && ((c.2.1 == f.2.1) && ((c.2.2.1 == f.2.2.1) && ((c.2.2.2.1 == f.2.2.2.1) && ((c.2.2.2.2.1 == f.2.2.2.2.1) && ((c.2.2.2.2.2.1 == f.2.2.2.2.2.1) && ((c.2.2.2.2.2.2.1 == f.2.2.2.2.2.2.1) && (c.2.2.2.2.2.2.2.1 == f.2.2.2.2.2.2.2.1))))))))), GEq (.bool c.2.2.2.2.2.2.2.2), GEq (.bool f.2.2.2.2.2.2.2.2), GEq (.bool (c.2.2.2.2.2.2.2.2 == f.2.2.2.2.2.2.2.2)), GEq (.bool (c.2.2.2.2.2.2.2.2 == f.2.2.2.2.2.2.2.2)), GEq (.bool (c.2.2.2.2.2.2.2.2 == f.2.2.2.2.2.2.2.2)), GEq (.agg #[(.int .i64 b4), (.int .i64 b5), (.int .i64 b6), (.slice b7 (List.length b2) b8)]), GEq (.string ⟨List.toArray b3⟩), GEq (.agg #[(.int .i64 b4), (.int .i64 b5), (.int .i64 b6), (.slice b7 (List.length b2) b8)]), GEq (.string ⟨List.toArray c0⟩), GEq (.bool (b3 == c0)), GEq (.bool (b3 == c0)), GEq (.bool (b3 == c0)), GEq (.agg #[(.int .i64 p.1), (.int .i64 p.2.1), (.int .i64 p.2.2.1), (.slice c5 (List.length p.2.2.2.1) c6)]), GEq (.agg #[(.int .i64 q.1), (.int .i64 q.2.1), (.int .i64 q.2.2.1), (.slice c7 (List.length q.2.2.2.1) c8)]), GEq (.bool d3), GEq (.bool d3), GEq (.bool d3), GEq undef, GEq undef, GEq undef, GEq (.bool false), GEq (.bool false)] [3, 5, 20, 22, 28] (tG [] w0 [Qk a9 52 #[(.int .i64 a1), (.int .i64 a2), (.int .u32 a3), (.string ⟨List.toArray a4⟩), (.int .i64 a5), (.string ⟨List.toArray a6⟩), (.string ⟨List.toArray a7⟩), (.string ⟨List.toArray a8⟩)], Qk b9 55 #[(.int .i64 b4), (.int .i64 b5), (.int .i64 b6), (.slice b7 (List.length b2) b8)], Qk c9 52 #[(.int .i64 c.1), (.int .i64 c.2.1), (.int .u32 c.2.2.1), (.string ⟨List.toArray c.2.2.2.1⟩), (.int .i64 c.2.2.2.2.1), (.string ⟨List.toArray c.2.2.2.2.2.1⟩), (.string ⟨List.toArray c.2.2.2.2.2.2.1⟩), (.string ⟨List.toArray c.2.2.2.2.2.2.2.1⟩)], Qk d0 52 #[(.int .i64 f.1), (.int .i64 f.2.1), (.int .u32 f.2.2.1), (.string ⟨List.toArray f.2.2.2.1⟩), (.int .i64 f.2.2.2.2.1), (.string ⟨List.toArray f.2.2.2.2.2.1⟩), (.string ⟨List.toArray f.2.2.2.2.2.2.1⟩), (.string ⟨List.toArray f.2.2.2.2.2.2.2.1⟩)], Vu 108 (Qf (Jw .i64) (Qf Qn (Qf Qm Qm))) c5 c6 p.2.2.2.1, Qk d4 55 #[(.int .i64 p.1), (.int .i64 p.2.1), (.int .i64 p.2.2.1), (.slice c5 (List.length p.2.2.2.1) c6)], Vu 108 (Qf (Jw .i64) (Qf Qn (Qf Qm Qm))) c7 c8 q.2.2.2.1, Qk d5 55 #[(.int .i64 q.1), (.int .i64 q.2.1), (.int .i64 q.2.2.1), (.slice c7 (List.length q.2.2.2.1) c8)]] [([], []), ([3], [(.string ⟨List.toArray s⟩)]), ([3, 5], [(.string ⟨List.toArray s⟩), (.string ⟨List.toArray u⟩)]), ([3, 5, 20], [(.string ⟨List.toArray s⟩), (.string ⟨List.toArray u⟩), (.string ⟨List.toArray b3⟩)]), ([3, 5, 20, 22], [(.string ⟨List.toArray s⟩), (.string ⟨List.toArray u⟩), (.string ⟨List.toArray b3⟩), (.string ⟨List.toArray c0⟩)]), ([3, 5, 20, 22, 28], [(.string ⟨List.toArray s⟩), (.string ⟨List.toArray u⟩), (.string ⟨List.toArray b3⟩), (.string ⟨List.toArray c0⟩), (.bool d3)])]) 36 5 ⟨trivial, SP.drew e9⟩ ?_ ?_
          iterate 36 refine And.intro ?_ ?_
          exact trivial
          ·exact oV (hC (hS 7 (.bool b1)) (h0)) (.bool b1)
          ·exact oV (hC (hA 0 49) (h0)) (.bool b1)
          ·refine oL 0 ?_
           ·rintro ρ' w' hs j ⟨ag8, s4⟩
            have e3 : ρ' 3 = (pt a9 0) := (hs 3 K).trans K
            have a0 := j 1 50 K
            refine kN [(3, (pt a9 0)), (50, (.bool true))] ⟨e3, (Eq.trans a0 (congrArg Value.bool b0)), trivial⟩ fun m => ?_
            refine sL 52 3 a9 0 0 (.agg #[(.int .i64 a1), (.int .i64 a2), (.int .u32 a3), (.string ⟨List.toArray a4⟩), (.int .i64 a5), (.string ⟨List.toArray a6⟩), (.string ⟨List.toArray a7⟩), (.string ⟨List.toArray a8⟩)]) 51 s4 rfl ?_
            exact eK m
          ·refine oH 0 1 ?_
           ·rintro ρ' w' hs j ⟨ag9, j7⟩
            have d7 := j 2 51 K
            have a0 := j 1 50 K
            refine kN [(51, (.agg #[(.int .i64 a1), (.int .i64 a2), (.int .u32 a3), (.string ⟨List.toArray a4⟩), (.int .i64 a5), (.string ⟨List.toArray a6⟩), (.string ⟨List.toArray a7⟩), (.string ⟨List.toArray a8⟩)])), (50, (.bool true))] ⟨d7, (Eq.trans a0 (congrArg Value.bool b0)), trivial⟩ fun m => ?_
            refine cF 35 #[(.tmp 51)] #[52] 52 Tryz.call35 (Z0  a1 a2 a3 a4 a5 a6 a7 a8 w' (Qt hL (SP.keeps j7)) s f2) ?_
            rintro e ah0 ⟨rfl, j8⟩
            refine ⟨_, rfl, ?_⟩
            have s5 := SP.call j7 j8
            clear j8
            refine ⟨_, Qg m, rfl, ?_⟩
            exact (And.intro (And.intro rfl (trivial)) (s5))
          ·refine Owe.light K [0, 1] K (Qe ?_ (Qe ?_ Vl))
           ·rintro ρ' w' hs j ⟨ah1, s6⟩
            have e3 : ρ' 3 = (pt a9 0) := (hs 3 K).trans K
            have a0 := j 1 50 K
            refine kN [(3, (pt a9 0)), (50, (.bool true))] ⟨e3, (Eq.trans a0 (congrArg Value.bool b0)), trivial⟩ fun m => ?_
            refine sL 52 3 a9 0 0 (.agg #[(.int .i64 a1), (.int .i64 a2), (.int .u32 a3), (.string ⟨List.toArray a4⟩), (.int .i64 a5), (.string ⟨List.toArray a6⟩), (.string ⟨List.toArray a7⟩), (.string ⟨List.toArray a8⟩)]) 53 s6 rfl ?_
            exact eK m
           ·rintro ρ' w' hs j ⟨⟨ah2, -⟩, s7⟩
            have e3 : ρ' 3 = (pt a9 0) := (hs 3 K).trans K
            have a0 := j 1 50 K
            refine kN [(3, (pt a9 0)), (50, (.bool true))] ⟨e3, (Eq.trans a0 (congrArg Value.bool b0)), trivial⟩ fun m => ?_
            refine sL 52 3 a9 0 0 (.agg #[(.int .i64 a1), (.int .i64 a2), (.int .u32 a3), (.string ⟨List.toArray a4⟩), (.int .i64 a5), (.string ⟨List.toArray a6⟩), (.string ⟨List.toArray a7⟩), (.string ⟨List.toArray a8⟩)]) 53 s7 rfl ?_
            exact eK m
          ·refine oH 1 2 ?_
           ·rintro ρ' w' hs j ⟨⟨s8, -⟩, s9⟩
            have d8 := j 4 53 K
            have a0 := j 1 50 K
            refine kN [(53, (.agg #[(.int .i64 a1), (.int .i64 a2), (.int .u32 a3), (.string ⟨List.toArray a4⟩), (.int .i64 a5), (.string ⟨List.toArray a6⟩), (.string ⟨List.toArray a7⟩), (.string ⟨List.toArray a8⟩)])), (50, (.bool true))] ⟨d8, (Eq.trans a0 (congrArg Value.bool b0)), trivial⟩ fun m => ?_
            refine cF 36 #[(.tmp 53)] #[52] 54 Tryz.call36 (Xn  a1 a2 a3 a4 a5 a6 a7 a8 w'  u f3) ?_
            rintro e ah3 ⟨rfl, j9⟩
            refine ⟨_, rfl, ?_⟩
            have t0 := SP.call s9 j9
            clear j9
            refine ⟨_, Qg m, rfl, ?_⟩
            exact (And.intro (And.intro s8 (And.intro rfl (trivial))) (t0))
          ·refine oL 2 ?_
           ·rintro ρ' w' hs j ⟨⟨t1, t2, -⟩, ah4⟩
            have d9 : ρ' 52 = (.string ⟨List.toArray s⟩) := (Qv (h := 3) K).symm.trans t1
            have e0 : ρ' 54 = (.string ⟨List.toArray u⟩) := (Qv (h := 5) K).symm.trans t2
            have a0 := j 1 50 K
            refine kN [(52, (.string ⟨List.toArray s⟩)), (54, (.string ⟨List.toArray u⟩)), (50, (.bool true))] ⟨d9, e0, (Eq.trans a0 (congrArg Value.bool b0)), trivial⟩ fun m => ?_
            refine Qu (op := .eql) (T := 9) (T' := 9) (x := (.tmp 52)) (y := (.tmp 54)) (a := s) (b := u) (r := (.bool (s == u))) (d := (some 55)) (k := 6) K rfl K K rfl ?_
            exact eK m
          ·exact oV (hC (hB 1 50 b0) (hC (hA 6 55) (h0))) (.bool (s == u))
          ·exact oV (hC (hA 7 56) (h0)) (.bool (s == u))
          ·refine oL 2 ?_
           ·rintro ρ' w' hs j ⟨⟨ah5, ah6, -⟩, t3⟩
            have e8 : ρ' 8 = (pt c9 0) := (hs 8 K).trans K
            have c3 := j 8 57 K
            refine kN [(8, (pt c9 0)), (57, (.bool true))] ⟨e8, (Eq.trans c3 (congrArg Value.bool c4)), trivial⟩ fun m => ?_
            refine sL 52 8 c9 0 2 (.agg #[(.int .i64 c.1), (.int .i64 c.2.1), (.int .u32 c.2.2.1), (.string ⟨List.toArray c.2.2.2.1⟩), (.int .i64 c.2.2.2.2.1), (.string ⟨List.toArray c.2.2.2.2.2.1⟩), (.string ⟨List.toArray c.2.2.2.2.2.2.1⟩), (.string ⟨List.toArray c.2.2.2.2.2.2.2.1⟩)]) 58 t3 rfl ?_
            exact eK m
          ·refine oL 2 ?_
           ·rintro ρ' w' hs j ⟨⟨ah7, ah8, -⟩, t4⟩
            have e2 : ρ' 10 = (pt d0 0) := (hs 10 K).trans K
            have c3 := j 8 57 K
            refine kN [(10, (pt d0 0)), (57, (.bool true))] ⟨e2, (Eq.trans c3 (congrArg Value.bool c4)), trivial⟩ fun m => ?_
            refine sL 52 10 d0 0 3 (.agg #[(.int .i64 f.1), (.int .i64 f.2.1), (.int .u32 f.2.2.1), (.string ⟨List.toArray f.2.2.2.1⟩), (.int .i64 f.2.2.2.2.1), (.string ⟨List.toArray f.2.2.2.2.2.1⟩), (.string ⟨List.toArray f.2.2.2.2.2.2.1⟩), (.string ⟨List.toArray f.2.2.2.2.2.2.2.1⟩)]) 59 t4 rfl ?_
            exact eK m
          ·refine oL 2 ?_
           ·rintro ρ' w' hs j ⟨⟨ah9, ai0, -⟩, ai1⟩
            have e4 := j 9 58 K
            have e6 := j 10 59 K
            have c3 := j 8 57 K
            refine kN [(58, (.agg #[(.int .i64 c.1), (.int .i64 c.2.1), (.int .u32 c.2.2.1), (.string ⟨List.toArray c.2.2.2.1⟩), (.int .i64 c.2.2.2.2.1), (.string ⟨List.toArray c.2.2.2.2.2.1⟩), (.string ⟨List.toArray c.2.2.2.2.2.2.1⟩), (.string ⟨List.toArray c.2.2.2.2.2.2.2.1⟩)])), (59, (.agg #[(.int .i64 f.1), (.int .i64 f.2.1), (.int .u32 f.2.2.1), (.string ⟨List.toArray f.2.2.2.1⟩), (.int .i64 f.2.2.2.2.1), (.string ⟨List.toArray f.2.2.2.2.2.1⟩), (.string ⟨List.toArray f.2.2.2.2.2.2.1⟩), (.string ⟨List.toArray f.2.2.2.2.2.2.2.1⟩)])), (57, (.bool true))] ⟨e4, e6, (Eq.trans c3 (congrArg Value.bool c4)), trivial⟩ fun m => ?_
            refine Db (op := .eql) (T := 52) (T' := 52) (x := (.tmp 58)) (y := (.tmp 59)) (vx := (.agg #[(.int .i64 c.1), (.int .i64 c.2.1), (.int .u32 c.2.2.1), (.string ⟨List.toArray c.2.2.2.1⟩), (.int .i64 c.2.2.2.2.1), (.string ⟨List.toArray c.2.2.2.2.2.1⟩), (.string ⟨List.toArray c.2.2.2.2.2.2.1⟩), (.string ⟨List.toArray c.2.2.2.2.2.2.2.1⟩)])) (vy := (.agg #[(.int .i64 f.1), (.int .i64 f.2.1), (.int .u32 f.2.2.1), (.string ⟨List.toArray f.2.2.2.1⟩), (.int .i64 f.2.2.2.2.1), (.string ⟨List.toArray f.2.2.2.2.2.1⟩), (.string ⟨List.toArray f.2.2.2.2.2.2.1⟩), (.string ⟨List.toArray f.2.2.2.2.2.2.2.1⟩)])) (v := (.bool ((c.1 == f.1) && ((c.2.1 == f.2.1) && ((c.2.2.1 == f.2.2.1) && ((c.2.2.2.1 == f.2.2.2.1) && ((c.2.2.2.2.1 == f.2.2.2.2.1) && ((c.2.2.2.2.2.1 == f.2.2.2.2.2.1) && ((c.2.2.2.2.2.2.1 == f.2.2.2.2.2.2.1) && (c.2.2.2.2.2.2.2.1 == f.2.2.2.2.2.2.2.1)))))))))) (d := (some 60)) (k := 11) K rfl K K (by clear H; intro w; simp only [Gd]; go_simp; simp only [Gm, Nn, Re, Gd, Bool.and_true] <;> simp only [Bool.not_and]) ?_
            exact eK m
          ·exact oV (hC (hB 8 57 c4) (hC (hA 11 60) (h0))) (.bool ((c.1 == f.1) && ((c.2.1 == f.2.1) && ((c.2.2.1 == f.2.2.1) && ((c.2.2.2.1 == f.2.2.2.1) && ((c.2.2.2.2.1 == f.2.2.2.2.1) && ((c.2.2.2.2.2.1 == f.2.2.2.2.2.1) && ((c.2.2.2.2.2.2.1 == f.2.2.2.2.2.2.1) && (c.2.2.2.2.2.2.2.1 == f.2.2.2.2.2.2.2.1)))))))))
          ·exact oV (hC (hA 12 61) (h0)) (.bool ((c.1 == f.1) && ((c.2.1 == f.2.1) && ((c.2.2.1 == f.2.2.1) && ((c.2.2.2.1 == f.2.2.2.1) && ((c.2.2.2.2.1 == f.2.2.2.2.1) && ((c.2.2.2.2.2.1 == f.2.2.2.2.2.1) && ((c.2.2.2.2.2.2.1 == f.2.2.2.2.2.2.1) && (c.2.2.2.2.2.2.2.1 == f.2.2.2.2.2.2.2.1)))))))))
          ·exact oV (hC (hS 9 (.bool c.2.2.2.2.2.2.2.2)) (hC (hB 13 62 d1) (h0))) (.bool c.2.2.2.2.2.2.2.2)
          ·exact oV (hC (hS 11 (.bool f.2.2.2.2.2.2.2.2)) (hC (hB 13 62 d1) (h0))) (.bool f.2.2.2.2.2.2.2.2)
          ·exact oV (hC (hA 14 63) (hC (hA 15 64) (hC (hB 13 62 d1) (h0)))) (.bool (c.2.2.2.2.2.2.2.2 == f.2.2.2.2.2.2.2.2))
          ·exact oV (hC (hB 13 62 d1) (hC (hA 16 65) (h0))) (.bool (c.2.2.2.2.2.2.2.2 == f.2.2.2.2.2.2.2.2))
          ·exact oV (hC (hA 17 66) (h0)) (.bool (c.2.2.2.2.2.2.2.2 == f.2.2.2.2.2.2.2.2))
          ·refine oL 2 ?_
           ·rintro ρ' w' hs j ⟨⟨ai2, ai3, -⟩, t5⟩
            have e5 : ρ' 5 = (pt b9 0) := (hs 5 K).trans K
            have c1 := j 18 67 K
            refine kN [(5, (pt b9 0)), (67, (.bool true))] ⟨e5, (Eq.trans c1 (congrArg Value.bool c2)), trivial⟩ fun m => ?_
            refine sL 55 5 b9 0 1 (.agg #[(.int .i64 b4), (.int .i64 b5), (.int .i64 b6), (.slice b7 (List.length b2) b8)]) 68 t5 rfl ?_
            exact eK m
          ·refine oH 2 3 ?_
           ·rintro ρ' w' hs j ⟨⟨t6, t7, -⟩, h4⟩
            have f4 := j 19 68 K
            have c1 := j 18 67 K
            refine kN [(68, (.agg #[(.int .i64 b4), (.int .i64 b5), (.int .i64 b6), (.slice b7 (List.length b2) b8)])), (67, (.bool true))] ⟨f4, (Eq.trans c1 (congrArg Value.bool c2)), trivial⟩ fun m => ?_
            refine cF 37 #[(.tmp 68)] #[55] 69 Tryz.call37 (Ut b7 b8 b4 b5 b6 b2 w' (Qt hL (SP.keeps h4)) (RdT.sp e7 h4) b3 g5) ?_
            rintro e ai4 ⟨rfl, k1⟩
            refine ⟨_, rfl, ?_⟩
            have t8 := SP.call h4 k1
            clear k1
            refine ⟨_, Qg m, rfl, ?_⟩
            exact (And.intro (And.intro t6 (And.intro t7 (And.intro rfl (trivial)))) (t8))
          ·refine Owe.light K [2, 3] K (Qe ?_ (Qe ?_ Vl))
           ·rintro ρ' w' hs j ⟨⟨ai5, ai6, -⟩, t9⟩
            have e5 : ρ' 5 = (pt b9 0) := (hs 5 K).trans K
            have c1 := j 18 67 K
            refine kN [(5, (pt b9 0)), (67, (.bool true))] ⟨e5, (Eq.trans c1 (congrArg Value.bool c2)), trivial⟩ fun m => ?_
            refine sL 55 5 b9 0 1 (.agg #[(.int .i64 b4), (.int .i64 b5), (.int .i64 b6), (.slice b7 (List.length b2) b8)]) 70 t9 rfl ?_
            exact eK m
           ·rintro ρ' w' hs j ⟨⟨ai7, ai8, ai9, -⟩, u0⟩
            have e5 : ρ' 5 = (pt b9 0) := (hs 5 K).trans K
            have c1 := j 18 67 K
            refine kN [(5, (pt b9 0)), (67, (.bool true))] ⟨e5, (Eq.trans c1 (congrArg Value.bool c2)), trivial⟩ fun m => ?_
            refine sL 55 5 b9 0 1 (.agg #[(.int .i64 b4), (.int .i64 b5), (.int .i64 b6), (.slice b7 (List.length b2) b8)]) 70 u0 rfl ?_
            exact eK m
          ·refine oH 3 4 ?_
           ·rintro ρ' w' hs j ⟨⟨u1, u2, u3, -⟩, k2⟩
            have f5 := j 21 70 K
            have c1 := j 18 67 K
            refine kN [(70, (.agg #[(.int .i64 b4), (.int .i64 b5), (.int .i64 b6), (.slice b7 (List.length b2) b8)])), (67, (.bool true))] ⟨f5, (Eq.trans c1 (congrArg Value.bool c2)), trivial⟩ fun m => ?_
            refine cF 38 #[(.tmp 70)] #[55] 71 Tryz.call38 (Nw b7 b8 b4 b5 b6 b2 w' (RdT.sp e7 k2) c0 g6) ?_
            rintro e aj0 ⟨rfl, k3⟩
            refine ⟨_, rfl, ?_⟩
            have u4 := SP.call k2 k3
            clear k3
            refine ⟨_, Qg m, rfl, ?_⟩
            exact (And.intro (And.intro u1 (And.intro u2 (And.intro u3 (And.intro rfl (trivial))))) (u4))
          ·refine oL 4 ?_
           ·rintro ρ' w' hs j ⟨⟨aj1, aj2, u5, u6, -⟩, aj3⟩
            have f6 : ρ' 69 = (.string ⟨List.toArray b3⟩) := (Qv (h := 20) K).symm.trans u5
            have f7 : ρ' 71 = (.string ⟨List.toArray c0⟩) := (Qv (h := 22) K).symm.trans u6
            have c1 := j 18 67 K
            refine kN [(69, (.string ⟨List.toArray b3⟩)), (71, (.string ⟨List.toArray c0⟩)), (67, (.bool true))] ⟨f6, f7, (Eq.trans c1 (congrArg Value.bool c2)), trivial⟩ fun m => ?_
            refine Qu (op := .eql) (T := 9) (T' := 9) (x := (.tmp 69)) (y := (.tmp 71)) (a := b3) (b := c0) (r := (.bool (b3 == c0))) (d := (some 72)) (k := 23) K rfl K K rfl ?_
            exact eK m
          ·exact oV (hC (hB 18 67 c2) (hC (hA 23 72) (h0))) (.bool (b3 == c0))
          ·exact oV (hC (hA 24 73) (h0)) (.bool (b3 == c0))
          ·refine oL 4 ?_
           ·rintro ρ' w' hs j ⟨⟨aj4, aj5, aj6, aj7, -⟩, u7⟩
            have g8 : ρ' 12 = (pt d4 0) := (hs 12 K).trans K
            have e1 := j 25 74 K
            refine kN [(12, (pt d4 0)), (74, (.bool true))] ⟨g8, (Eq.trans e1 (congrArg Value.bool d2)), trivial⟩ fun m => ?_
            refine sL 55 12 d4 0 5 (.agg #[(.int .i64 p.1), (.int .i64 p.2.1), (.int .i64 p.2.2.1), (.slice c5 (List.length p.2.2.2.1) c6)]) 75 u7 rfl ?_
            exact eK m
          ·refine oL 4 ?_
           ·rintro ρ' w' hs j ⟨⟨aj8, aj9, ak0, ak1, -⟩, u8⟩
            have g9 : ρ' 14 = (pt d5 0) := (hs 14 K).trans K
            have e1 := j 25 74 K
            refine kN [(14, (pt d5 0)), (74, (.bool true))] ⟨g9, (Eq.trans e1 (congrArg Value.bool d2)), trivial⟩ fun m => ?_
            refine sL 55 14 d5 0 7 (.agg #[(.int .i64 q.1), (.int .i64 q.2.1), (.int .i64 q.2.2.1), (.slice c7 (List.length q.2.2.2.1) c8)]) 76 u8 rfl ?_
            exact eK m
          ·refine oH 4 5 ?_
           ·rintro ρ' w' hs j ⟨⟨u9, v0, v1, v2, -⟩, h5⟩
            have h2 := j 26 75 K
            have h3 := j 27 76 K
            have e1 := j 25 74 K
            refine kN [(75, (.agg #[(.int .i64 p.1), (.int .i64 p.2.1), (.int .i64 p.2.2.1), (.slice c5 (List.length p.2.2.2.1) c6)])), (76, (.agg #[(.int .i64 q.1), (.int .i64 q.2.1), (.int .i64 q.2.2.1), (.slice c7 (List.length q.2.2.2.1) c8)])), (74, (.bool true))] ⟨h2, h3, (Eq.trans e1 (congrArg Value.bool d2)), trivial⟩ fun m => ?_
            refine cF 39 #[(.tmp 75), (.tmp 76)] #[55, 55] 77 Tryz.call39 (Uj c5 c6 c7 c8 p.1 p.2.1 p.2.2.1 p.2.2.2.1 q.1 q.2.1 q.2.2.1 q.2.2.2.1 w' (Q9 (SP.get h5 (i := 4) rfl)) (Q9 (SP.get h5 (i := 6) rfl)) d3 i8) ?_
            rintro e ak2 ⟨rfl, k4⟩
            refine ⟨_, rfl, ?_⟩
            have v3 := SP.call h5 k4
            clear k4
            refine ⟨_, Qg m, rfl, ?_⟩
            exact (And.intro (And.intro u9 (And.intro v0 (And.intro v1 (And.intro v2 (And.intro rfl (trivial)))))) (v3))
          ·exact oV (hC (hB 25 74 d2) (hC (hA 28 77) (h0))) (.bool d3)
          ·exact oV (hC (hA 29 78) (h0)) (.bool d3)
          ·exact oW (hC (hB 30 79 d6) (h0)) 80
          ·exact oW (hC (hB 30 79 d6) (h0)) 81
          ·exact oW (hC (hB 30 79 d6) (h0)) 82
          ·exact oV (hC (hB 30 79 d6) (hC (hA 33 82) (h0))) (.bool false)
          ·exact oV (hC (hA 34 83) (h0)) (.bool false)
          ·rintro ρ' w' hs hf ⟨⟨ak3, ak4, ak5, ak6, ak7, -⟩, k5⟩
           refine V3 [(6, (.bool false))] ⟨hf 35 6 K, trivial⟩ ?_
           obtain ⟨ak8, v4⟩ : ∃ x, w' = x := ⟨_, rfl⟩
           rw [v4] at k5 ⊢
           exact ⟨false, ⟨K, trivial⟩, SP.sel k5 [] rfl rfl, H⟩
        ·have H := cf H d2
         refine aG [GEq (.bool b1), GEq (.bool b1), GEq (.agg #[(.int .i64 a1), (.int .i64 a2), (.int .u32 a3), (.string ⟨List.toArray a4⟩), (.int .i64 a5), (.string ⟨List.toArray a6⟩), (.string ⟨List.toArray a7⟩), (.string ⟨List.toArray a8⟩)]), GEq (.string ⟨List.toArray s⟩), GEq (.agg #[(.int .i64 a1), (.int .i64 a2), (.int .u32 a3), (.string ⟨List.toArray a4⟩), (.int .i64 a5), (.string ⟨List.toArray a6⟩), (.string ⟨List.toArray a7⟩), (.string ⟨List.toArray a8⟩)]), GEq (.string ⟨List.toArray u⟩), GEq (.bool (s == u)), GEq (.bool (s == u)), GEq (.bool (s == u)), GEq (.agg #[(.int .i64 c.1), (.int .i64 c.2.1), (.int .u32 c.2.2.1), (.string ⟨List.toArray c.2.2.2.1⟩), (.int .i64 c.2.2.2.2.1), (.string ⟨List.toArray c.2.2.2.2.2.1⟩), (.string ⟨List.toArray c.2.2.2.2.2.2.1⟩), (.string ⟨List.toArray c.2.2.2.2.2.2.2.1⟩)]), GEq (.agg #[(.int .i64 f.1), (.int .i64 f.2.1), (.int .u32 f.2.2.1), (.string ⟨List.toArray f.2.2.2.1⟩), (.int .i64 f.2.2.2.2.1), (.string ⟨List.toArray f.2.2.2.2.2.1⟩), (.string ⟨List.toArray f.2.2.2.2.2.2.1⟩), (.string ⟨List.toArray f.2.2.2.2.2.2.2.1⟩)]), GEq (.bool ((c.1 == f.1) && ((c.2.1 == f.2.1) && ((c.2.2.1 == f.2.2.1) && ((c.2.2.2.1 == f.2.2.2.1) && ((c.2.2.2.2.1 == f.2.2.2.2.1) && ((c.2.2.2.2.2.1 == f.2.2.2.2.2.1) && ((c.2.2.2.2.2.2.1 == f.2.2.2.2.2.2.1) && (c.2.2.2.2.2.2.2.1 == f.2.2.2.2.2.2.2.1))))))))), GEq (.bool ((c.1 == f.1) && ((c.2.1 == f.2.1) && ((c.2.2.1 == f.2.2.1) && ((c.2.2.2.1 == f.2.2.2.1) && ((c.2.2.2.2.1 == f.2.2.2.2.1) && ((c.2.2.2.2.2.1 == f.2.2.2.2.2.1) && ((c.2.2.2.2.2.2.1 == f.2.2.2.2.2.2.1) && (c.2.2.2.2.2.2.2.1 == f.2.2.2.2.2.2.2.1))))))))), GEq (.bool ((c.1 == f.1) && ((c.2.1 == f.2.1) && ((c.2.2.1 == f.2.2.1) && ((c.2.2.2.1 == f.2.2.2.1) && ((c.2.2.2.2.1 == f.2.2.2.2.1) && ((c.2.2.2.2.2.1 == f.2.2.2.2.2.1) && ((c.2.2.2.2.2.2.1 == f.2.2.2.2.2.2.1) && (c.2.2.2.2.2.2.2.1 == f.2.2.2.2.2.2.2.1))))))))), GEq (.bool c.2.2.2.2.2.2.2.2), GEq (.bool f.2.2.2.2.2.2.2.2), GEq (.bool (c.2.2.2.2.2.2.2.2 == f.2.2.2.2.2.2.2.2)), GEq (.bool (c.2.2.2.2.2.2.2.2 == f.2.2.2.2.2.2.2.2)), GEq (.bool (c.2.2.2.2.2.2.2.2 == f.2.2.2.2.2.2.2.2)), GEq (.agg #[(.int .i64 b4), (.int .i64 b5), (.int .i64 b6), (.slice b7 (List.length b2) b8)]), GEq (.string ⟨List.toArray b3⟩), GEq (.agg #[(.int .i64 b4), (.int .i64 b5), (.int .i64 b6), (.slice b7 (List.length b2) b8)]), GEq (.string ⟨List.toArray c0⟩), GEq (.bool (b3 == c0)), GEq (.bool (b3 == c0)), GEq (.bool (b3 == c0)), GEq undef, GEq undef, GEq undef, GEq (.bool false), GEq (.bool false), GEq undef, GEq undef, GEq undef, GEq (.bool false), GEq (.bool false)] [3, 5, 20, 22] (tG [] w0 [Qk a9 52 #[(.int .i64 a1), (.int .i64 a2), (.int .u32 a3), (.string ⟨List.toArray a4⟩), (.int .i64 a5), (.string ⟨List.toArray a6⟩), (.string ⟨List.toArray a7⟩), (.string ⟨List.toArray a8⟩)], Qk b9 55 #[(.int .i64 b4), (.int .i64 b5), (.int .i64 b6), (.slice b7 (List.length b2) b8)], Qk c9 52 #[(.int .i64 c.1), (.int .i64 c.2.1), (.int .u32 c.2.2.1), (.string ⟨List.toArray c.2.2.2.1⟩), (.int .i64 c.2.2.2.2.1), (.string ⟨List.toArray c.2.2.2.2.2.1⟩), (.string ⟨List.toArray c.2.2.2.2.2.2.1⟩), (.string ⟨List.toArray c.2.2.2.2.2.2.2.1⟩)], Qk d0 52 #[(.int .i64 f.1), (.int .i64 f.2.1), (.int .u32 f.2.2.1), (.string ⟨List.toArray f.2.2.2.1⟩), (.int .i64 f.2.2.2.2.1), (.string ⟨List.toArray f.2.2.2.2.2.1⟩), (.string ⟨List.toArray f.2.2.2.2.2.2.1⟩), (.string ⟨List.toArray f.2.2.2.2.2.2.2.1⟩)], Vu 108 (Qf (Jw .i64) (Qf Qn (Qf Qm Qm))) c5 c6 p.2.2.2.1, Qk d4 55 #[(.int .i64 p.1), (.int .i64 p.2.1), (.int .i64 p.2.2.1), (.slice c5 (List.length p.2.2.2.1) c6)], Vu 108 (Qf (Jw .i64) (Qf Qn (Qf Qm Qm))) c7 c8 q.2.2.2.1, Qk d5 55 #[(.int .i64 q.1), (.int .i64 q.2.1), (.int .i64 q.2.2.1), (.slice c7 (List.length q.2.2.2.1) c8)]] [([], []), ([3], [(.string ⟨List.toArray s⟩)]), ([3, 5], [(.string ⟨List.toArray s⟩), (.string ⟨List.toArray u⟩)]), ([3, 5, 20], [(.string ⟨List.toArray s⟩), (.string ⟨List.toArray u⟩), (.string ⟨List.toArray b3⟩)]), ([3, 5, 20, 22], [(.string ⟨List.toArray s⟩), (.string ⟨List.toArray u⟩), (.string ⟨List.toArray b3⟩), (.string ⟨List.toArray c0⟩)])]) 36 4 ⟨trivial, SP.drew e9⟩ ?_ ?_
         iterate 36 refine And.intro ?_ ?_
         exact trivial
         ·exact oV (hC (hS 7 (.bool b1)) (h0)) (.bool b1)
         ·exact oV (hC (hA 0 49) (h0)) (.bool b1)
         ·refine oL 0 ?_
          ·rintro ρ' w' hs j ⟨ak9, v5⟩
           have e3 : ρ' 3 = (pt a9 0) := (hs 3 K).trans K
           have a0 := j 1 50 K
           refine kN [(3, (pt a9 0)), (50, (.bool true))] ⟨e3, (Eq.trans a0 (congrArg Value.bool b0)), trivial⟩ fun m => ?_
           refine sL 52 3 a9 0 0 (.agg #[(.int .i64 a1), (.int .i64 a2), (.int .u32 a3), (.string ⟨List.toArray a4⟩), (.int .i64 a5), (.string ⟨List.toArray a6⟩), (.string ⟨List.toArray a7⟩), (.string ⟨List.toArray a8⟩)]) 51 v5 rfl ?_
           exact eK m
         ·refine oH 0 1 ?_
          ·rintro ρ' w' hs j ⟨al0, k6⟩
           have d7 := j 2 51 K
           have a0 := j 1 50 K
           refine kN [(51, (.agg #[(.int .i64 a1), (.int .i64 a2), (.int .u32 a3), (.string ⟨List.toArray a4⟩), (.int .i64 a5), (.string ⟨List.toArray a6⟩), (.string ⟨List.toArray a7⟩), (.string ⟨List.toArray a8⟩)])), (50, (.bool true))] ⟨d7, (Eq.trans a0 (congrArg Value.bool b0)), trivial⟩ fun m => ?_
           refine cF 35 #[(.tmp 51)] #[52] 52 Tryz.call35 (Z0  a1 a2 a3 a4 a5 a6 a7 a8 w' (Qt hL (SP.keeps k6)) s f2) ?_
           rintro e al1 ⟨rfl, k7⟩
           refine ⟨_, rfl, ?_⟩
           have v6 := SP.call k6 k7
           clear k7
           refine ⟨_, Qg m, rfl, ?_⟩
           exact (And.intro (And.intro rfl (trivial)) (v6))
         ·refine Owe.light K [0, 1] K (Qe ?_ (Qe ?_ Vl))
          ·rintro ρ' w' hs j ⟨al2, v7⟩
           have e3 : ρ' 3 = (pt a9 0) := (hs 3 K).trans K
           have a0 := j 1 50 K
           refine kN [(3, (pt a9 0)), (50, (.bool true))] ⟨e3, (Eq.trans a0 (congrArg Value.bool b0)), trivial⟩ fun m => ?_
           refine sL 52 3 a9 0 0 (.agg #[(.int .i64 a1), (.int .i64 a2), (.int .u32 a3), (.string ⟨List.toArray a4⟩), (.int .i64 a5), (.string ⟨List.toArray a6⟩), (.string ⟨List.toArray a7⟩), (.string ⟨List.toArray a8⟩)]) 53 v7 rfl ?_
           exact eK m
          ·rintro ρ' w' hs j ⟨⟨al3, -⟩, v8⟩
           have e3 : ρ' 3 = (pt a9 0) := (hs 3 K).trans K
           have a0 := j 1 50 K
           refine kN [(3, (pt a9 0)), (50, (.bool true))] ⟨e3, (Eq.trans a0 (congrArg Value.bool b0)), trivial⟩ fun m => ?_
           refine sL 52 3 a9 0 0 (.agg #[(.int .i64 a1), (.int .i64 a2), (.int .u32 a3), (.string ⟨List.toArray a4⟩), (.int .i64 a5), (.string ⟨List.toArray a6⟩), (.string ⟨List.toArray a7⟩), (.string ⟨List.toArray a8⟩)]) 53 v8 rfl ?_
           exact eK m
         ·refine oH 1 2 ?_
          ·rintro ρ' w' hs j ⟨⟨v9, -⟩, w1⟩
           have d8 := j 4 53 K
           have a0 := j 1 50 K
           refine kN [(53, (.agg #[(.int .i64 a1), (.int .i64 a2), (.int .u32 a3), (.string ⟨List.toArray a4⟩), (.int .i64 a5), (.string ⟨List.toArray a6⟩), (.string ⟨List.toArray a7⟩), (.string ⟨List.toArray a8⟩)])), (50, (.bool true))] ⟨d8, (Eq.trans a0 (congrArg Value.bool b0)), trivial⟩ fun m => ?_
           refine cF 36 #[(.tmp 53)] #[52] 54 Tryz.call36 (Xn  a1 a2 a3 a4 a5 a6 a7 a8 w'  u f3) ?_
           rintro e al4 ⟨rfl, k8⟩
           refine ⟨_, rfl, ?_⟩
           have w2 := SP.call w1 k8
           clear k8
           refine ⟨_, Qg m, rfl, ?_⟩
           exact (And.intro (And.intro v9 (And.intro rfl (trivial))) (w2))
         ·refine oL 2 ?_
          ·rintro ρ' w' hs j ⟨⟨w3, w4, -⟩, al5⟩
           have d9 : ρ' 52 = (.string ⟨List.toArray s⟩) := (Qv (h := 3) K).symm.trans w3
           have e0 : ρ' 54 = (.string ⟨List.toArray u⟩) := (Qv (h := 5) K).symm.trans w4
           have a0 := j 1 50 K
           refine kN [(52, (.string ⟨List.toArray s⟩)), (54, (.string ⟨List.toArray u⟩)), (50, (.bool true))] ⟨d9, e0, (Eq.trans a0 (congrArg Value.bool b0)), trivial⟩ fun m => ?_
           refine Qu (op := .eql) (T := 9) (T' := 9) (x := (.tmp 52)) (y := (.tmp 54)) (a := s) (b := u) (r := (.bool (s == u))) (d := (some 55)) (k := 6) K rfl K K rfl ?_
           exact eK m
         ·exact oV (hC (hB 1 50 b0) (hC (hA 6 55) (h0))) (.bool (s == u))
         ·exact oV (hC (hA 7 56) (h0)) (.bool (s == u))
         ·refine oL 2 ?_
          ·rintro ρ' w' hs j ⟨⟨al6, al7, -⟩, w5⟩
           have e8 : ρ' 8 = (pt c9 0) := (hs 8 K).trans K
           have c3 := j 8 57 K
           refine kN [(8, (pt c9 0)), (57, (.bool true))] ⟨e8, (Eq.trans c3 (congrArg Value.bool c4)), trivial⟩ fun m => ?_
           refine sL 52 8 c9 0 2 (.agg #[(.int .i64 c.1), (.int .i64 c.2.1), (.int .u32 c.2.2.1), (.string ⟨List.toArray c.2.2.2.1⟩), (.int .i64 c.2.2.2.2.1), (.string ⟨List.toArray c.2.2.2.2.2.1⟩), (.string ⟨List.toArray c.2.2.2.2.2.2.1⟩), (.string ⟨List.toArray c.2.2.2.2.2.2.2.1⟩)]) 58 w5 rfl ?_
           exact eK m
         ·refine oL 2 ?_
          ·rintro ρ' w' hs j ⟨⟨al8, al9, -⟩, w6⟩
           have e2 : ρ' 10 = (pt d0 0) := (hs 10 K).trans K
           have c3 := j 8 57 K
           refine kN [(10, (pt d0 0)), (57, (.bool true))] ⟨e2, (Eq.trans c3 (congrArg Value.bool c4)), trivial⟩ fun m => ?_
           refine sL 52 10 d0 0 3 (.agg #[(.int .i64 f.1), (.int .i64 f.2.1), (.int .u32 f.2.2.1), (.string ⟨List.toArray f.2.2.2.1⟩), (.int .i64 f.2.2.2.2.1), (.string ⟨List.toArray f.2.2.2.2.2.1⟩), (.string ⟨List.toArray f.2.2.2.2.2.2.1⟩), (.string ⟨List.toArray f.2.2.2.2.2.2.2.1⟩)]) 59 w6 rfl ?_
           exact eK m
         ·refine oL 2 ?_
          ·rintro ρ' w' hs j ⟨⟨am0, am1, -⟩, am2⟩
           have e4 := j 9 58 K
           have e6 := j 10 59 K
           have c3 := j 8 57 K
           refine kN [(58, (.agg #[(.int .i64 c.1), (.int .i64 c.2.1), (.int .u32 c.2.2.1), (.string ⟨List.toArray c.2.2.2.1⟩), (.int .i64 c.2.2.2.2.1), (.string ⟨List.toArray c.2.2.2.2.2.1⟩), (.string ⟨List.toArray c.2.2.2.2.2.2.1⟩), (.string ⟨List.toArray c.2.2.2.2.2.2.2.1⟩)])), (59, (.agg #[(.int .i64 f.1), (.int .i64 f.2.1), (.int .u32 f.2.2.1), (.string ⟨List.toArray f.2.2.2.1⟩), (.int .i64 f.2.2.2.2.1), (.string ⟨List.toArray f.2.2.2.2.2.1⟩), (.string ⟨List.toArray f.2.2.2.2.2.2.1⟩), (.string ⟨List.toArray f.2.2.2.2.2.2.2.1⟩)])), (57, (.bool true))] ⟨e4, e6, (Eq.trans c3 (congrArg Value.bool c4)), trivial⟩ fun m => ?_
           refine Db (op := .eql) (T := 52) (T' := 52) (x := (.tmp 58)) (y := (.tmp 59)) (vx := (.agg #[(.int .i64 c.1), (.int .i64 c.2.1), (.int .u32 c.2.2.1), (.string ⟨List.toArray c.2.2.2.1⟩), (.int .i64 c.2.2.2.2.1), (.string ⟨List.toArray c.2.2.2.2.2.1⟩), (.string ⟨List.toArray c.2.2.2.2.2.2.1⟩), (.string ⟨List.toArray c.2.2.2.2.2.2.2.1⟩)])) (vy := (.agg #[(.int .i64 f.1), (.int .i64 f.2.1), (.int .u32 f.2.2.1), (.string ⟨List.toArray f.2.2.2.1⟩), (.int .i64 f.2.2.2.2.1), (.string ⟨List.toArray f.2.2.2.2.2.1⟩), (.string ⟨List.toArray f.2.2.2.2.2.2.1⟩), (.string ⟨List.toArray f.2.2.2.2.2.2.2.1⟩)])) (v := (.bool ((c.1 == f.1) && ((c.2.1 == f.2.1) && ((c.2.2.1 == f.2.2.1) && ((c.2.2.2.1 == f.2.2.2.1) && ((c.2.2.2.2.1 == f.2.2.2.2.1) && ((c.2.2.2.2.2.1 == f.2.2.2.2.2.1) && ((c.2.2.2.2.2.2.1 == f.2.2.2.2.2.2.1) && (c.2.2.2.2.2.2.2.1 == f.2.2.2.2.2.2.2.1)))))))))) (d := (some 60)) (k := 11) K rfl K K (by clear H; intro w; simp only [Gd]; go_simp; simp only [Gm, Nn, Re, Gd, Bool.and_true] <;> simp only [Bool.not_and]) ?_
           exact eK m
         ·exact oV (hC (hB 8 57 c4) (hC (hA 11 60) (h0))) (.bool ((c.1 == f.1) && ((c.2.1 == f.2.1) && ((c.2.2.1 == f.2.2.1) && ((c.2.2.2.1 == f.2.2.2.1) && ((c.2.2.2.2.1 == f.2.2.2.2.1) && ((c.2.2.2.2.2.1 == f.2.2.2.2.2.1) && ((c.2.2.2.2.2.2.1 == f.2.2.2.2.2.2.1) && (c.2.2.2.2.2.2.2.1 == f.2.2.2.2.2.2.2.1)))))))))
         ·exact oV (hC (hA 12 61) (h0)) (.bool ((c.1 == f.1) && ((c.2.1 == f.2.1) && ((c.2.2.1 == f.2.2.1) && ((c.2.2.2.1 == f.2.2.2.1) && ((c.2.2.2.2.1 == f.2.2.2.2.1) && ((c.2.2.2.2.2.1 == f.2.2.2.2.2.1) && ((c.2.2.2.2.2.2.1 == f.2.2.2.2.2.2.1) && (c.2.2.2.2.2.2.2.1 == f.2.2.2.2.2.2.2.1)))))))))
         ·exact oV (hC (hS 9 (.bool c.2.2.2.2.2.2.2.2)) (hC (hB 13 62 d1) (h0))) (.bool c.2.2.2.2.2.2.2.2)
         ·exact oV (hC (hS 11 (.bool f.2.2.2.2.2.2.2.2)) (hC (hB 13 62 d1) (h0))) (.bool f.2.2.2.2.2.2.2.2)
         ·exact oV (hC (hA 14 63) (hC (hA 15 64) (hC (hB 13 62 d1) (h0)))) (.bool (c.2.2.2.2.2.2.2.2 == f.2.2.2.2.2.2.2.2))
         ·exact oV (hC (hB 13 62 d1) (hC (hA 16 65) (h0))) (.bool (c.2.2.2.2.2.2.2.2 == f.2.2.2.2.2.2.2.2))
         ·exact oV (hC (hA 17 66) (h0)) (.bool (c.2.2.2.2.2.2.2.2 == f.2.2.2.2.2.2.2.2))
         ·refine oL 2 ?_
          ·rintro ρ' w' hs j ⟨⟨am3, am4, -⟩, w7⟩
           have e5 : ρ' 5 = (pt b9 0) := (hs 5 K).trans K
           have c1 := j 18 67 K
           refine kN [(5, (pt b9 0)), (67, (.bool true))] ⟨e5, (Eq.trans c1 (congrArg Value.bool c2)), trivial⟩ fun m => ?_
           refine sL 55 5 b9 0 1 (.agg #[(.int .i64 b4), (.int .i64 b5), (.int .i64 b6), (.slice b7 (List.length b2) b8)]) 68 w7 rfl ?_
           exact eK m
         ·refine oH 2 3 ?_
          ·rintro ρ' w' hs j ⟨⟨w8, w9, -⟩, h6⟩
           have f4 := j 19 68 K
           have c1 := j 18 67 K
           refine kN [(68, (.agg #[(.int .i64 b4), (.int .i64 b5), (.int .i64 b6), (.slice b7 (List.length b2) b8)])), (67, (.bool true))] ⟨f4, (Eq.trans c1 (congrArg Value.bool c2)), trivial⟩ fun m => ?_
           refine cF 37 #[(.tmp 68)] #[55] 69 Tryz.call37 (Ut b7 b8 b4 b5 b6 b2 w' (Qt hL (SP.keeps h6)) (RdT.sp e7 h6) b3 g5) ?_
           rintro e am5 ⟨rfl, k9⟩
           refine ⟨_, rfl, ?_⟩
           have x0 := SP.call h6 k9
           clear k9
           refine ⟨_, Qg m, rfl, ?_⟩
           exact (And.intro (And.intro w8 (And.intro w9 (And.intro rfl (trivial)))) (x0))
         ·refine Owe.light K [2, 3] K (Qe ?_ (Qe ?_ Vl))
          ·rintro ρ' w' hs j ⟨⟨am6, am7, -⟩, x1⟩
           have e5 : ρ' 5 = (pt b9 0) := (hs 5 K).trans K
           have c1 := j 18 67 K
           refine kN [(5, (pt b9 0)), (67, (.bool true))] ⟨e5, (Eq.trans c1 (congrArg Value.bool c2)), trivial⟩ fun m => ?_
           refine sL 55 5 b9 0 1 (.agg #[(.int .i64 b4), (.int .i64 b5), (.int .i64 b6), (.slice b7 (List.length b2) b8)]) 70 x1 rfl ?_
           exact eK m
          ·rintro ρ' w' hs j ⟨⟨am8, am9, an0, -⟩, x2⟩
           have e5 : ρ' 5 = (pt b9 0) := (hs 5 K).trans K
           have c1 := j 18 67 K
           refine kN [(5, (pt b9 0)), (67, (.bool true))] ⟨e5, (Eq.trans c1 (congrArg Value.bool c2)), trivial⟩ fun m => ?_
           refine sL 55 5 b9 0 1 (.agg #[(.int .i64 b4), (.int .i64 b5), (.int .i64 b6), (.slice b7 (List.length b2) b8)]) 70 x2 rfl ?_
           exact eK m
         ·refine oH 3 4 ?_
          ·rintro ρ' w' hs j ⟨⟨x3, x4, x5, -⟩, l0⟩
           have f5 := j 21 70 K
           have c1 := j 18 67 K
           refine kN [(70, (.agg #[(.int .i64 b4), (.int .i64 b5), (.int .i64 b6), (.slice b7 (List.length b2) b8)])), (67, (.bool true))] ⟨f5, (Eq.trans c1 (congrArg Value.bool c2)), trivial⟩ fun m => ?_
           refine cF 38 #[(.tmp 70)] #[55] 71 Tryz.call38 (Nw b7 b8 b4 b5 b6 b2 w' (RdT.sp e7 l0) c0 g6) ?_
           rintro e an1 ⟨rfl, l1⟩
           refine ⟨_, rfl, ?_⟩
           have x6 := SP.call l0 l1
           clear l1
           refine ⟨_, Qg m, rfl, ?_⟩
           exact (And.intro (And.intro x3 (And.intro x4 (And.intro x5 (And.intro rfl (trivial))))) (x6))
         ·refine oL 4 ?_
          ·rintro ρ' w' hs j ⟨⟨an2, an3, x7, x8, -⟩, an4⟩
           have f6 : ρ' 69 = (.string ⟨List.toArray b3⟩) := (Qv (h := 20) K).symm.trans x7
           have f7 : ρ' 71 = (.string ⟨List.toArray c0⟩) := (Qv (h := 22) K).symm.trans x8
           have c1 := j 18 67 K
           refine kN [(69, (.string ⟨List.toArray b3⟩)), (71, (.string ⟨List.toArray c0⟩)), (67, (.bool true))] ⟨f6, f7, (Eq.trans c1 (congrArg Value.bool c2)), trivial⟩ fun m => ?_
           refine Qu (op := .eql) (T := 9) (T' := 9) (x := (.tmp 69)) (y := (.tmp 71)) (a := b3) (b := c0) (r := (.bool (b3 == c0))) (d := (some 72)) (k := 23) K rfl K K rfl ?_
           exact eK m
         ·exact oV (hC (hB 18 67 c2) (hC (hA 23 72) (h0))) (.bool (b3 == c0))
         ·exact oV (hC (hA 24 73) (h0)) (.bool (b3 == c0))
         ·exact oW (hC (hB 25 74 d2) (h0)) 75
         ·exact oW (hC (hB 25 74 d2) (h0)) 76
         ·exact oW (hC (hB 25 74 d2) (h0)) 77
         ·exact oV (hC (hB 25 74 d2) (hC (hA 28 77) (h0))) (.bool false)
         ·exact oV (hC (hA 29 78) (h0)) (.bool false)
         ·exact oW (hC (hA 30 79) (h0)) 80
         ·exact oW (hC (hA 30 79) (h0)) 81
         ·exact oW (hC (hA 30 79) (h0)) 82
         ·exact oV (hC (hA 30 79) (hC (hA 33 82) (h0))) (.bool false)
         ·exact oV (hC (hA 34 83) (h0)) (.bool false)
         ·rintro ρ' w' hs hf ⟨⟨an5, an6, an7, an8, -⟩, l2⟩
          refine V3 [(6, (.bool false))] ⟨hf 35 6 K, trivial⟩ ?_
          obtain ⟨an9, x9⟩ : ∃ x, w' = x := ⟨_, rfl⟩
          rw [x9] at l2 ⊢
          exact ⟨false, ⟨K, trivial⟩, SP.sel l2 [] rfl rfl, H⟩
       ·have H := cf H c2
        refine aG [GEq (.bool b1), GEq (.bool b1), GEq (.agg #[(.int .i64 a1), (.int .i64 a2), (.int .u32 a3), (.string ⟨List.toArray a4⟩), (.int .i64 a5), (.string ⟨List.toArray a6⟩), (.string ⟨List.toArray a7⟩), (.string ⟨List.toArray a8⟩)]), GEq (.string ⟨List.toArray s⟩), GEq (.agg #[(.int .i64 a1), (.int .i64 a2), (.int .u32 a3), (.string ⟨List.toArray a4⟩), (.int .i64 a5), (.string ⟨List.toArray a6⟩), (.string ⟨List.toArray a7⟩), (.string ⟨List.toArray a8⟩)]), GEq (.string ⟨List.toArray u⟩), GEq (.bool (s == u)), GEq (.bool (s == u)), GEq (.bool (s == u)), GEq (.agg #[(.int .i64 c.1), (.int .i64 c.2.1), (.int .u32 c.2.2.1), (.string ⟨List.toArray c.2.2.2.1⟩), (.int .i64 c.2.2.2.2.1), (.string ⟨List.toArray c.2.2.2.2.2.1⟩), (.string ⟨List.toArray c.2.2.2.2.2.2.1⟩), (.string ⟨List.toArray c.2.2.2.2.2.2.2.1⟩)]), GEq (.agg #[(.int .i64 f.1), (.int .i64 f.2.1), (.int .u32 f.2.2.1), (.string ⟨List.toArray f.2.2.2.1⟩), (.int .i64 f.2.2.2.2.1), (.string ⟨List.toArray f.2.2.2.2.2.1⟩), (.string ⟨List.toArray f.2.2.2.2.2.2.1⟩), (.string ⟨List.toArray f.2.2.2.2.2.2.2.1⟩)]), GEq (.bool ((c.1 == f.1) && ((c.2.1 == f.2.1) && ((c.2.2.1 == f.2.2.1) && ((c.2.2.2.1 == f.2.2.2.1) && ((c.2.2.2.2.1 == f.2.2.2.2.1) && ((c.2.2.2.2.2.1 == f.2.2.2.2.2.1) && ((c.2.2.2.2.2.2.1 == f.2.2.2.2.2.2.1) && (c.2.2.2.2.2.2.2.1 == f.2.2.2.2.2.2.2.1))))))))), GEq (.bool ((c.1 == f.1) && ((c.2.1 == f.2.1) && ((c.2.2.1 == f.2.2.1) && ((c.2.2.2.1 == f.2.2.2.1) && ((c.2.2.2.2.1 == f.2.2.2.2.1) && ((c.2.2.2.2.2.1 == f.2.2.2.2.2.1) && ((c.2.2.2.2.2.2.1 == f.2.2.2.2.2.2.1) && (c.2.2.2.2.2.2.2.1 == f.2.2.2.2.2.2.2.1))))))))), GEq (.bool ((c.1 == f.1) && ((c.2.1 == f.2.1) && ((c.2.2.1 == f.2.2.1) && ((c.2.2.2.1 == f.2.2.2.1) && ((c.2.2.2.2.1 == f.2.2.2.2.1) && ((c.2.2.2.2.2.1 == f.2.2.2.2.2.1) && ((c.2.2.2.2.2.2.1 == f.2.2.2.2.2.2.1) && (c.2.2.2.2.2.2.2.1 == f.2.2.2.2.2.2.2.1))))))))), GEq (.bool c.2.2.2.2.2.2.2.2), GEq (.bool f.2.2.2.2.2.2.2.2), GEq (.bool (c.2.2.2.2.2.2.2.2 == f.2.2.2.2.2.2.2.2)), GEq (.bool (c.2.2.2.2.2.2.2.2 == f.2.2.2.2.2.2.2.2)), GEq (.bool (c.2.2.2.2.2.2.2.2 == f.2.2.2.2.2.2.2.2)), GEq undef, GEq undef, GEq undef, GEq undef, GEq undef, GEq (.bool false), GEq (.bool false), GEq undef, GEq undef, GEq undef, GEq (.bool false), GEq (.bool false), GEq undef, GEq undef, GEq undef, GEq (.bool false), GEq (.bool false)] [3, 5] (tG [] w0 [Qk a9 52 #[(.int .i64 a1), (.int .i64 a2), (.int .u32 a3), (.string ⟨List.toArray a4⟩), (.int .i64 a5), (.string ⟨List.toArray a6⟩), (.string ⟨List.toArray a7⟩), (.string ⟨List.toArray a8⟩)], Qk b9 55 #[(.int .i64 b4), (.int .i64 b5), (.int .i64 b6), (.slice b7 (List.length b2) b8)], Qk c9 52 #[(.int .i64 c.1), (.int .i64 c.2.1), (.int .u32 c.2.2.1), (.string ⟨List.toArray c.2.2.2.1⟩), (.int .i64 c.2.2.2.2.1), (.string ⟨List.toArray c.2.2.2.2.2.1⟩), (.string ⟨List.toArray c.2.2.2.2.2.2.1⟩), (.string ⟨List.toArray c.2.2.2.2.2.2.2.1⟩)], Qk d0 52 #[(.int .i64 f.1), (.int .i64 f.2.1), (.int .u32 f.2.2.1), (.string ⟨List.toArray f.2.2.2.1⟩), (.int .i64 f.2.2.2.2.1), (.string ⟨List.toArray f.2.2.2.2.2.1⟩), (.string ⟨List.toArray f.2.2.2.2.2.2.1⟩), (.string ⟨List.toArray f.2.2.2.2.2.2.2.1⟩)], Vu 108 (Qf (Jw .i64) (Qf Qn (Qf Qm Qm))) c5 c6 p.2.2.2.1, Qk d4 55 #[(.int .i64 p.1), (.int .i64 p.2.1), (.int .i64 p.2.2.1), (.slice c5 (List.length p.2.2.2.1) c6)], Vu 108 (Qf (Jw .i64) (Qf Qn (Qf Qm Qm))) c7 c8 q.2.2.2.1, Qk d5 55 #[(.int .i64 q.1), (.int .i64 q.2.1), (.int .i64 q.2.2.1), (.slice c7 (List.length q.2.2.2.1) c8)]] [([], []), ([3], [(.string ⟨List.toArray s⟩)]), ([3, 5], [(.string ⟨List.toArray s⟩), (.string ⟨List.toArray u⟩)])]) 36 2 ⟨trivial, SP.drew e9⟩ ?_ ?_
        iterate 36 refine And.intro ?_ ?_
        exact trivial
        ·exact oV (hC (hS 7 (.bool b1)) (h0)) (.bool b1)
        ·exact oV (hC (hA 0 49) (h0)) (.bool b1)
        ·refine oL 0 ?_
         ·rintro ρ' w' hs j ⟨ao0, y0⟩
          have e3 : ρ' 3 = (pt a9 0) := (hs 3 K).trans K
          have a0 := j 1 50 K
          refine kN [(3, (pt a9 0)), (50, (.bool true))] ⟨e3, (Eq.trans a0 (congrArg Value.bool b0)), trivial⟩ fun m => ?_
          refine sL 52 3 a9 0 0 (.agg #[(.int .i64 a1), (.int .i64 a2), (.int .u32 a3), (.string ⟨List.toArray a4⟩), (.int .i64 a5), (.string ⟨List.toArray a6⟩), (.string ⟨List.toArray a7⟩), (.string ⟨List.toArray a8⟩)]) 51 y0 rfl ?_
          exact eK m
        ·refine oH 0 1 ?_
         ·rintro ρ' w' hs j ⟨ao1, l3⟩
          have d7 := j 2 51 K
          have a0 := j 1 50 K
          refine kN [(51, (.agg #[(.int .i64 a1), (.int .i64 a2), (.int .u32 a3), (.string ⟨List.toArray a4⟩), (.int .i64 a5), (.string ⟨List.toArray a6⟩), (.string ⟨List.toArray a7⟩), (.string ⟨List.toArray a8⟩)])), (50, (.bool true))] ⟨d7, (Eq.trans a0 (congrArg Value.bool b0)), trivial⟩ fun m => ?_
          refine cF 35 #[(.tmp 51)] #[52] 52 Tryz.call35 (Z0  a1 a2 a3 a4 a5 a6 a7 a8 w' (Qt hL (SP.keeps l3)) s f2) ?_
          rintro e ao2 ⟨rfl, l4⟩
          refine ⟨_, rfl, ?_⟩
          have y1 := SP.call l3 l4
          clear l4
          refine ⟨_, Qg m, rfl, ?_⟩
          exact (And.intro (And.intro rfl (trivial)) (y1))
        ·refine Owe.light K [0, 1] K (Qe ?_ (Qe ?_ Vl))
         ·rintro ρ' w' hs j ⟨ao3, y2⟩
          have e3 : ρ' 3 = (pt a9 0) := (hs 3 K).trans K
          have a0 := j 1 50 K
          refine kN [(3, (pt a9 0)), (50, (.bool true))] ⟨e3, (Eq.trans a0 (congrArg Value.bool b0)), trivial⟩ fun m => ?_
          refine sL 52 3 a9 0 0 (.agg #[(.int .i64 a1), (.int .i64 a2), (.int .u32 a3), (.string ⟨List.toArray a4⟩), (.int .i64 a5), (.string ⟨List.toArray a6⟩), (.string ⟨List.toArray a7⟩), (.string ⟨List.toArray a8⟩)]) 53 y2 rfl ?_
          exact eK m
         ·rintro ρ' w' hs j ⟨⟨ao4, -⟩, y3⟩
          have e3 : ρ' 3 = (pt a9 0) := (hs 3 K).trans K
          have a0 := j 1 50 K
          refine kN [(3, (pt a9 0)), (50, (.bool true))] ⟨e3, (Eq.trans a0 (congrArg Value.bool b0)), trivial⟩ fun m => ?_
          refine sL 52 3 a9 0 0 (.agg #[(.int .i64 a1), (.int .i64 a2), (.int .u32 a3), (.string ⟨List.toArray a4⟩), (.int .i64 a5), (.string ⟨List.toArray a6⟩), (.string ⟨List.toArray a7⟩), (.string ⟨List.toArray a8⟩)]) 53 y3 rfl ?_
          exact eK m
        ·refine oH 1 2 ?_
         ·rintro ρ' w' hs j ⟨⟨y4, -⟩, y5⟩
          have d8 := j 4 53 K
          have a0 := j 1 50 K
          refine kN [(53, (.agg #[(.int .i64 a1), (.int .i64 a2), (.int .u32 a3), (.string ⟨List.toArray a4⟩), (.int .i64 a5), (.string ⟨List.toArray a6⟩), (.string ⟨List.toArray a7⟩), (.string ⟨List.toArray a8⟩)])), (50, (.bool true))] ⟨d8, (Eq.trans a0 (congrArg Value.bool b0)), trivial⟩ fun m => ?_
          refine cF 36 #[(.tmp 53)] #[52] 54 Tryz.call36 (Xn  a1 a2 a3 a4 a5 a6 a7 a8 w'  u f3) ?_
          rintro e ao5 ⟨rfl, l5⟩
          refine ⟨_, rfl, ?_⟩
          have y6 := SP.call y5 l5
          clear l5
          refine ⟨_, Qg m, rfl, ?_⟩
          exact (And.intro (And.intro y4 (And.intro rfl (trivial))) (y6))
        ·refine oL 2 ?_
         ·rintro ρ' w' hs j ⟨⟨y7, y8, -⟩, ao6⟩
          have d9 : ρ' 52 = (.string ⟨List.toArray s⟩) := (Qv (h := 3) K).symm.trans y7
          have e0 : ρ' 54 = (.string ⟨List.toArray u⟩) := (Qv (h := 5) K).symm.trans y8
          have a0 := j 1 50 K
          refine kN [(52, (.string ⟨List.toArray s⟩)), (54, (.string ⟨List.toArray u⟩)), (50, (.bool true))] ⟨d9, e0, (Eq.trans a0 (congrArg Value.bool b0)), trivial⟩ fun m => ?_
          refine Qu (op := .eql) (T := 9) (T' := 9) (x := (.tmp 52)) (y := (.tmp 54)) (a := s) (b := u) (r := (.bool (s == u))) (d := (some 55)) (k := 6) K rfl K K rfl ?_
          exact eK m
        ·exact oV (hC (hB 1 50 b0) (hC (hA 6 55) (h0))) (.bool (s == u))
        ·exact oV (hC (hA 7 56) (h0)) (.bool (s == u))
        ·refine oL 2 ?_
         ·rintro ρ' w' hs j ⟨⟨ao7, ao8, -⟩, y9⟩
          have e8 : ρ' 8 = (pt c9 0) := (hs 8 K).trans K
          have c3 := j 8 57 K
          refine kN [(8, (pt c9 0)), (57, (.bool true))] ⟨e8, (Eq.trans c3 (congrArg Value.bool c4)), trivial⟩ fun m => ?_
          refine sL 52 8 c9 0 2 (.agg #[(.int .i64 c.1), (.int .i64 c.2.1), (.int .u32 c.2.2.1), (.string ⟨List.toArray c.2.2.2.1⟩), (.int .i64 c.2.2.2.2.1), (.string ⟨List.toArray c.2.2.2.2.2.1⟩), (.string ⟨List.toArray c.2.2.2.2.2.2.1⟩), (.string ⟨List.toArray c.2.2.2.2.2.2.2.1⟩)]) 58 y9 rfl ?_
          exact eK m
        ·refine oL 2 ?_
         ·rintro ρ' w' hs j ⟨⟨ao9, ap0, -⟩, z0⟩
          have e2 : ρ' 10 = (pt d0 0) := (hs 10 K).trans K
          have c3 := j 8 57 K
          refine kN [(10, (pt d0 0)), (57, (.bool true))] ⟨e2, (Eq.trans c3 (congrArg Value.bool c4)), trivial⟩ fun m => ?_
          refine sL 52 10 d0 0 3 (.agg #[(.int .i64 f.1), (.int .i64 f.2.1), (.int .u32 f.2.2.1), (.string ⟨List.toArray f.2.2.2.1⟩), (.int .i64 f.2.2.2.2.1), (.string ⟨List.toArray f.2.2.2.2.2.1⟩), (.string ⟨List.toArray f.2.2.2.2.2.2.1⟩), (.string ⟨List.toArray f.2.2.2.2.2.2.2.1⟩)]) 59 z0 rfl ?_
          exact eK m
        ·refine oL 2 ?_
         ·rintro ρ' w' hs j ⟨⟨ap1, ap2, -⟩, ap3⟩
          have e4 := j 9 58 K
          have e6 := j 10 59 K
          have c3 := j 8 57 K
          refine kN [(58, (.agg #[(.int .i64 c.1), (.int .i64 c.2.1), (.int .u32 c.2.2.1), (.string ⟨List.toArray c.2.2.2.1⟩), (.int .i64 c.2.2.2.2.1), (.string ⟨List.toArray c.2.2.2.2.2.1⟩), (.string ⟨List.toArray c.2.2.2.2.2.2.1⟩), (.string ⟨List.toArray c.2.2.2.2.2.2.2.1⟩)])), (59, (.agg #[(.int .i64 f.1), (.int .i64 f.2.1), (.int .u32 f.2.2.1), (.string ⟨List.toArray f.2.2.2.1⟩), (.int .i64 f.2.2.2.2.1), (.string ⟨List.toArray f.2.2.2.2.2.1⟩), (.string ⟨List.toArray f.2.2.2.2.2.2.1⟩), (.string ⟨List.toArray f.2.2.2.2.2.2.2.1⟩)])), (57, (.bool true))] ⟨e4, e6, (Eq.trans c3 (congrArg Value.bool c4)), trivial⟩ fun m => ?_
          refine Db (op := .eql) (T := 52) (T' := 52) (x := (.tmp 58)) (y := (.tmp 59)) (vx := (.agg #[(.int .i64 c.1), (.int .i64 c.2.1), (.int .u32 c.2.2.1), (.string ⟨List.toArray c.2.2.2.1⟩), (.int .i64 c.2.2.2.2.1), (.string ⟨List.toArray c.2.2.2.2.2.1⟩), (.string ⟨List.toArray c.2.2.2.2.2.2.1⟩), (.string ⟨List.toArray c.2.2.2.2.2.2.2.1⟩)])) (vy := (.agg #[(.int .i64 f.1), (.int .i64 f.2.1), (.int .u32 f.2.2.1), (.string ⟨List.toArray f.2.2.2.1⟩), (.int .i64 f.2.2.2.2.1), (.string ⟨List.toArray f.2.2.2.2.2.1⟩), (.string ⟨List.toArray f.2.2.2.2.2.2.1⟩), (.string ⟨List.toArray f.2.2.2.2.2.2.2.1⟩)])) (v := (.bool ((c.1 == f.1) && ((c.2.1 == f.2.1) && ((c.2.2.1 == f.2.2.1) && ((c.2.2.2.1 == f.2.2.2.1) && ((c.2.2.2.2.1 == f.2.2.2.2.1) && ((c.2.2.2.2.2.1 == f.2.2.2.2.2.1) && ((c.2.2.2.2.2.2.1 == f.2.2.2.2.2.2.1) && (c.2.2.2.2.2.2.2.1 == f.2.2.2.2.2.2.2.1)))))))))) (d := (some 60)) (k := 11) K rfl K K (by clear H; intro w; simp only [Gd]; go_simp; simp only [Gm, Nn, Re, Gd, Bool.and_true] <;> simp only [Bool.not_and]) ?_
          exact eK m
        ·exact oV (hC (hB 8 57 c4) (hC (hA 11 60) (h0))) (.bool ((c.1 == f.1) && ((c.2.1 == f.2.1) && ((c.2.2.1 == f.2.2.1) && ((c.2.2.2.1 == f.2.2.2.1) && ((c.2.2.2.2.1 == f.2.2.2.2.1) && ((c.2.2.2.2.2.1 == f.2.2.2.2.2.1) && ((c.2.2.2.2.2.2.1 == f.2.2.2.2.2.2.1) && (c.2.2.2.2.2.2.2.1 == f.2.2.2.2.2.2.2.1)))))))))
        ·exact oV (hC (hA 12 61) (h0)) (.bool ((c.1 == f.1) && ((c.2.1 == f.2.1) && ((c.2.2.1 == f.2.2.1) && ((c.2.2.2.1 == f.2.2.2.1) && ((c.2.2.2.2.1 == f.2.2.2.2.1) && ((c.2.2.2.2.2.1 == f.2.2.2.2.2.1) && ((c.2.2.2.2.2.2.1 == f.2.2.2.2.2.2.1) && (c.2.2.2.2.2.2.2.1 == f.2.2.2.2.2.2.2.1)))))))))
        ·exact oV (hC (hS 9 (.bool c.2.2.2.2.2.2.2.2)) (hC (hB 13 62 d1) (h0))) (.bool c.2.2.2.2.2.2.2.2)
        ·exact oV (hC (hS 11 (.bool f.2.2.2.2.2.2.2.2)) (hC (hB 13 62 d1) (h0))) (.bool f.2.2.2.2.2.2.2.2)
        ·exact oV (hC (hA 14 63) (hC (hA 15 64) (hC (hB 13 62 d1) (h0)))) (.bool (c.2.2.2.2.2.2.2.2 == f.2.2.2.2.2.2.2.2))
        ·exact oV (hC (hB 13 62 d1) (hC (hA 16 65) (h0))) (.bool (c.2.2.2.2.2.2.2.2 == f.2.2.2.2.2.2.2.2))
        ·exact oV (hC (hA 17 66) (h0)) (.bool (c.2.2.2.2.2.2.2.2 == f.2.2.2.2.2.2.2.2))
        ·exact oW (hC (hB 18 67 c2) (h0)) 68
        ·exact oW (hC (hB 18 67 c2) (h0)) 69
        ·exact oW (hC (hB 18 67 c2) (h0)) 70
        ·exact oW (hC (hB 18 67 c2) (h0)) 71
        ·exact oW (hC (hB 18 67 c2) (h0)) 72
        ·exact oV (hC (hB 18 67 c2) (hC (hA 23 72) (h0))) (.bool false)
        ·exact oV (hC (hA 24 73) (h0)) (.bool false)
        ·exact oW (hC (hA 25 74) (h0)) 75
        ·exact oW (hC (hA 25 74) (h0)) 76
        ·exact oW (hC (hA 25 74) (h0)) 77
        ·exact oV (hC (hA 25 74) (hC (hA 28 77) (h0))) (.bool false)
        ·exact oV (hC (hA 29 78) (h0)) (.bool false)
        ·exact oW (hC (hA 30 79) (h0)) 80
        ·exact oW (hC (hA 30 79) (h0)) 81
        ·exact oW (hC (hA 30 79) (h0)) 82
        ·exact oV (hC (hA 30 79) (hC (hA 33 82) (h0))) (.bool false)
        ·exact oV (hC (hA 34 83) (h0)) (.bool false)
        ·rintro ρ' w' hs hf ⟨⟨ap4, ap5, -⟩, l6⟩
         refine V3 [(6, (.bool false))] ⟨hf 35 6 K, trivial⟩ ?_
         obtain ⟨ap6, z1⟩ : ∃ x, w' = x := ⟨_, rfl⟩
         rw [z1] at l6 ⊢
         exact ⟨false, ⟨K, trivial⟩, SP.sel l6 [] rfl rfl, H⟩
      ·have H := cf H d1
       refine aG [GEq (.bool b1), GEq (.bool b1), GEq (.agg #[(.int .i64 a1), (.int .i64 a2), (.int .u32 a3), (.string ⟨List.toArray a4⟩), (.int .i64 a5), (.string ⟨List.toArray a6⟩), (.string ⟨List.toArray a7⟩), (.string ⟨List.toArray a8⟩)]), GEq (.string ⟨List.toArray s⟩), GEq (.agg #[(.int .i64 a1), (.int .i64 a2), (.int .u32 a3), (.string ⟨List.toArray a4⟩), (.int .i64 a5), (.string ⟨List.toArray a6⟩), (.string ⟨List.toArray a7⟩), (.string ⟨List.toArray a8⟩)]), GEq (.string ⟨List.toArray u⟩), GEq (.bool (s == u)), GEq (.bool (s == u)), GEq (.bool (s == u)), GEq (.agg #[(.int .i64 c.1), (.int .i64 c.2.1), (.int .u32 c.2.2.1), (.string ⟨List.toArray c.2.2.2.1⟩), (.int .i64 c.2.2.2.2.1), (.string ⟨List.toArray c.2.2.2.2.2.1⟩), (.string ⟨List.toArray c.2.2.2.2.2.2.1⟩), (.string ⟨List.toArray c.2.2.2.2.2.2.2.1⟩)]), GEq (.agg #[(.int .i64 f.1), (.int .i64 f.2.1), (.int .u32 f.2.2.1), (.string ⟨List.toArray f.2.2.2.1⟩), (.int .i64 f.2.2.2.2.1), (.string ⟨List.toArray f.2.2.2.2.2.1⟩), (.string ⟨List.toArray f.2.2.2.2.2.2.1⟩), (.string ⟨List.toArray f.2.2.2.2.2.2.2.1⟩)]), GEq (.bool ((c.1 == f.1) && ((c.2.1 == f.2.1) && ((c.2.2.1 == f.2.2.1) && ((c.2.2.2.1 == f.2.2.2.1) && ((c.2.2.2.2.1 == f.2.2.2.2.1) && ((c.2.2.2.2.2.1 == f.2.2.2.2.2.1) && ((c.2.2.2.2.2.2.1 == f.2.2.2.2.2.2.1) && (c.2.2.2.2.2.2.2.1 == f.2.2.2.2.2.2.2.1))))))))), GEq (.bool ((c.1 == f.1) && ((c.2.1 == f.2.1) && ((c.2.2.1 == f.2.2.1) && ((c.2.2.2.1 == f.2.2.2.1) && ((c.2.2.2.2.1 == f.2.2.2.2.1) && ((c.2.2.2.2.2.1 == f.2.2.2.2.2.1) && ((c.2.2.2.2.2.2.1 == f.2.2.2.2.2.2.1) && (c.2.2.2.2.2.2.2.1 == f.2.2.2.2.2.2.2.1))))))))), GEq (.bool ((c.1 == f.1) && ((c.2.1 == f.2.1) && ((c.2.2.1 == f.2.2.1) && ((c.2.2.2.1 == f.2.2.2.1) && ((c.2.2.2.2.1 == f.2.2.2.2.1) && ((c.2.2.2.2.2.1 == f.2.2.2.2.2.1) && ((c.2.2.2.2.2.2.1 == f.2.2.2.2.2.2.1) && (c.2.2.2.2.2.2.2.1 == f.2.2.2.2.2.2.2.1))))))))), GEq undef, GEq undef, GEq undef, GEq (.bool false), GEq (.bool false), GEq undef, GEq undef, GEq undef, GEq undef, GEq undef, GEq (.bool false), GEq (.bool false), GEq undef, GEq undef, GEq undef, GEq (.bool false), GEq (.bool false), GEq undef, GEq undef, GEq undef, GEq (.bool false), GEq (.bool false)] [3, 5] (tG [] w0 [Qk a9 52 #[(.int .i64 a1), (.int .i64 a2), (.int .u32 a3), (.string ⟨List.toArray a4⟩), (.int .i64 a5), (.string ⟨List.toArray a6⟩), (.string ⟨List.toArray a7⟩), (.string ⟨List.toArray a8⟩)], Qk b9 55 #[(.int .i64 b4), (.int .i64 b5), (.int .i64 b6), (.slice b7 (List.length b2) b8)], Qk c9 52 #[(.int .i64 c.1), (.int .i64 c.2.1), (.int .u32 c.2.2.1), (.string ⟨List.toArray c.2.2.2.1⟩), (.int .i64 c.2.2.2.2.1), (.string ⟨List.toArray c.2.2.2.2.2.1⟩), (.string ⟨List.toArray c.2.2.2.2.2.2.1⟩), (.string ⟨List.toArray c.2.2.2.2.2.2.2.1⟩)], Qk d0 52 #[(.int .i64 f.1), (.int .i64 f.2.1), (.int .u32 f.2.2.1), (.string ⟨List.toArray f.2.2.2.1⟩), (.int .i64 f.2.2.2.2.1), (.string ⟨List.toArray f.2.2.2.2.2.1⟩), (.string ⟨List.toArray f.2.2.2.2.2.2.1⟩), (.string ⟨List.toArray f.2.2.2.2.2.2.2.1⟩)], Vu 108 (Qf (Jw .i64) (Qf Qn (Qf Qm Qm))) c5 c6 p.2.2.2.1, Qk d4 55 #[(.int .i64 p.1), (.int .i64 p.2.1), (.int .i64 p.2.2.1), (.slice c5 (List.length p.2.2.2.1) c6)], Vu 108 (Qf (Jw .i64) (Qf Qn (Qf Qm Qm))) c7 c8 q.2.2.2.1, Qk d5 55 #[(.int .i64 q.1), (.int .i64 q.2.1), (.int .i64 q.2.2.1), (.slice c7 (List.length q.2.2.2.1) c8)]] [([], []), ([3], [(.string ⟨List.toArray s⟩)]), ([3, 5], [(.string ⟨List.toArray s⟩), (.string ⟨List.toArray u⟩)])]) 36 2 ⟨trivial, SP.drew e9⟩ ?_ ?_
       iterate 36 refine And.intro ?_ ?_
       exact trivial
       ·exact oV (hC (hS 7 (.bool b1)) (h0)) (.bool b1)
       ·exact oV (hC (hA 0 49) (h0)) (.bool b1)
       ·refine oL 0 ?_
        ·rintro ρ' w' hs j ⟨ap7, z2⟩
         have e3 : ρ' 3 = (pt a9 0) := (hs 3 K).trans K
         have a0 := j 1 50 K
         refine kN [(3, (pt a9 0)), (50, (.bool true))] ⟨e3, (Eq.trans a0 (congrArg Value.bool b0)), trivial⟩ fun m => ?_
         refine sL 52 3 a9 0 0 (.agg #[(.int .i64 a1), (.int .i64 a2), (.int .u32 a3), (.string ⟨List.toArray a4⟩), (.int .i64 a5), (.string ⟨List.toArray a6⟩), (.string ⟨List.toArray a7⟩), (.string ⟨List.toArray a8⟩)]) 51 z2 rfl ?_
         exact eK m
       ·refine oH 0 1 ?_
        ·rintro ρ' w' hs j ⟨ap8, l7⟩
         have d7 := j 2 51 K
         have a0 := j 1 50 K
         refine kN [(51, (.agg #[(.int .i64 a1), (.int .i64 a2), (.int .u32 a3), (.string ⟨List.toArray a4⟩), (.int .i64 a5), (.string ⟨List.toArray a6⟩), (.string ⟨List.toArray a7⟩), (.string ⟨List.toArray a8⟩)])), (50, (.bool true))] ⟨d7, (Eq.trans a0 (congrArg Value.bool b0)), trivial⟩ fun m => ?_
         refine cF 35 #[(.tmp 51)] #[52] 52 Tryz.call35 (Z0  a1 a2 a3 a4 a5 a6 a7 a8 w' (Qt hL (SP.keeps l7)) s f2) ?_
         rintro e ap9 ⟨rfl, l8⟩
         refine ⟨_, rfl, ?_⟩
         have z3 := SP.call l7 l8
         clear l8
         refine ⟨_, Qg m, rfl, ?_⟩
         exact (And.intro (And.intro rfl (trivial)) (z3))
       ·refine Owe.light K [0, 1] K (Qe ?_ (Qe ?_ Vl))
        ·rintro ρ' w' hs j ⟨aq0, z4⟩
         have e3 : ρ' 3 = (pt a9 0) := (hs 3 K).trans K
         have a0 := j 1 50 K
         refine kN [(3, (pt a9 0)), (50, (.bool true))] ⟨e3, (Eq.trans a0 (congrArg Value.bool b0)), trivial⟩ fun m => ?_
         refine sL 52 3 a9 0 0 (.agg #[(.int .i64 a1), (.int .i64 a2), (.int .u32 a3), (.string ⟨List.toArray a4⟩), (.int .i64 a5), (.string ⟨List.toArray a6⟩), (.string ⟨List.toArray a7⟩), (.string ⟨List.toArray a8⟩)]) 53 z4 rfl ?_
         exact eK m
        ·rintro ρ' w' hs j ⟨⟨aq1, -⟩, z5⟩
         have e3 : ρ' 3 = (pt a9 0) := (hs 3 K).trans K
         have a0 := j 1 50 K
         refine kN [(3, (pt a9 0)), (50, (.bool true))] ⟨e3, (Eq.trans a0 (congrArg Value.bool b0)), trivial⟩ fun m => ?_
         refine sL 52 3 a9 0 0 (.agg #[(.int .i64 a1), (.int .i64 a2), (.int .u32 a3), (.string ⟨List.toArray a4⟩), (.int .i64 a5), (.string ⟨List.toArray a6⟩), (.string ⟨List.toArray a7⟩), (.string ⟨List.toArray a8⟩)]) 53 z5 rfl ?_
         exact eK m
       ·refine oH 1 2 ?_
        ·rintro ρ' w' hs j ⟨⟨z6, -⟩, z7⟩
         have d8 := j 4 53 K
         have a0 := j 1 50 K
         refine kN [(53, (.agg #[(.int .i64 a1), (.int .i64 a2), (.int .u32 a3), (.string ⟨List.toArray a4⟩), (.int .i64 a5), (.string ⟨List.toArray a6⟩), (.string ⟨List.toArray a7⟩), (.string ⟨List.toArray a8⟩)])), (50, (.bool true))] ⟨d8, (Eq.trans a0 (congrArg Value.bool b0)), trivial⟩ fun m => ?_
         refine cF 36 #[(.tmp 53)] #[52] 54 Tryz.call36 (Xn  a1 a2 a3 a4 a5 a6 a7 a8 w'  u f3) ?_
         rintro e aq2 ⟨rfl, l9⟩
         refine ⟨_, rfl, ?_⟩
         have z8 := SP.call z7 l9
         clear l9
         refine ⟨_, Qg m, rfl, ?_⟩
         exact (And.intro (And.intro z6 (And.intro rfl (trivial))) (z8))
       ·refine oL 2 ?_
        ·rintro ρ' w' hs j ⟨⟨z9, aa0, -⟩, aq3⟩
         have d9 : ρ' 52 = (.string ⟨List.toArray s⟩) := (Qv (h := 3) K).symm.trans z9
         have e0 : ρ' 54 = (.string ⟨List.toArray u⟩) := (Qv (h := 5) K).symm.trans aa0
         have a0 := j 1 50 K
         refine kN [(52, (.string ⟨List.toArray s⟩)), (54, (.string ⟨List.toArray u⟩)), (50, (.bool true))] ⟨d9, e0, (Eq.trans a0 (congrArg Value.bool b0)), trivial⟩ fun m => ?_
         refine Qu (op := .eql) (T := 9) (T' := 9) (x := (.tmp 52)) (y := (.tmp 54)) (a := s) (b := u) (r := (.bool (s == u))) (d := (some 55)) (k := 6) K rfl K K rfl ?_
         exact eK m
       ·exact oV (hC (hB 1 50 b0) (hC (hA 6 55) (h0))) (.bool (s == u))
       ·exact oV (hC (hA 7 56) (h0)) (.bool (s == u))
       ·refine oL 2 ?_
        ·rintro ρ' w' hs j ⟨⟨aq4, aq5, -⟩, aa1⟩
         have e8 : ρ' 8 = (pt c9 0) := (hs 8 K).trans K
         have c3 := j 8 57 K
         refine kN [(8, (pt c9 0)), (57, (.bool true))] ⟨e8, (Eq.trans c3 (congrArg Value.bool c4)), trivial⟩ fun m => ?_
         refine sL 52 8 c9 0 2 (.agg #[(.int .i64 c.1), (.int .i64 c.2.1), (.int .u32 c.2.2.1), (.string ⟨List.toArray c.2.2.2.1⟩), (.int .i64 c.2.2.2.2.1), (.string ⟨List.toArray c.2.2.2.2.2.1⟩), (.string ⟨List.toArray c.2.2.2.2.2.2.1⟩), (.string ⟨List.toArray c.2.2.2.2.2.2.2.1⟩)]) 58 aa1 rfl ?_
         exact eK m
       ·refine oL 2 ?_
        ·rintro ρ' w' hs j ⟨⟨aq6, aq7, -⟩, aa2⟩
         have e2 : ρ' 10 = (pt d0 0) := (hs 10 K).trans K
         have c3 := j 8 57 K
         refine kN [(10, (pt d0 0)), (57, (.bool true))] ⟨e2, (Eq.trans c3 (congrArg Value.bool c4)), trivial⟩ fun m => ?_
         refine sL 52 10 d0 0 3 (.agg #[(.int .i64 f.1), (.int .i64 f.2.1), (.int .u32 f.2.2.1), (.string ⟨List.toArray f.2.2.2.1⟩), (.int .i64 f.2.2.2.2.1), (.string ⟨List.toArray f.2.2.2.2.2.1⟩), (.string ⟨List.toArray f.2.2.2.2.2.2.1⟩), (.string ⟨List.toArray f.2.2.2.2.2.2.2.1⟩)]) 59 aa2 rfl ?_
         exact eK m
       ·refine oL 2 ?_
        ·rintro ρ' w' hs j ⟨⟨aq8, aq9, -⟩, ar0⟩
         have e4 := j 9 58 K
         have e6 := j 10 59 K
         have c3 := j 8 57 K
         refine kN [(58, (.agg #[(.int .i64 c.1), (.int .i64 c.2.1), (.int .u32 c.2.2.1), (.string ⟨List.toArray c.2.2.2.1⟩), (.int .i64 c.2.2.2.2.1), (.string ⟨List.toArray c.2.2.2.2.2.1⟩), (.string ⟨List.toArray c.2.2.2.2.2.2.1⟩), (.string ⟨List.toArray c.2.2.2.2.2.2.2.1⟩)])), (59, (.agg #[(.int .i64 f.1), (.int .i64 f.2.1), (.int .u32 f.2.2.1), (.string ⟨List.toArray f.2.2.2.1⟩), (.int .i64 f.2.2.2.2.1), (.string ⟨List.toArray f.2.2.2.2.2.1⟩), (.string ⟨List.toArray f.2.2.2.2.2.2.1⟩), (.string ⟨List.toArray f.2.2.2.2.2.2.2.1⟩)])), (57, (.bool true))] ⟨e4, e6, (Eq.trans c3 (congrArg Value.bool c4)), trivial⟩ fun m => ?_
         refine Db (op := .eql) (T := 52) (T' := 52) (x := (.tmp 58)) (y := (.tmp 59)) (vx := (.agg #[(.int .i64 c.1), (.int .i64 c.2.1), (.int .u32 c.2.2.1), (.string ⟨List.toArray c.2.2.2.1⟩), (.int .i64 c.2.2.2.2.1), (.string ⟨List.toArray c.2.2.2.2.2.1⟩), (.string ⟨List.toArray c.2.2.2.2.2.2.1⟩), (.string ⟨List.toArray c.2.2.2.2.2.2.2.1⟩)])) (vy := (.agg #[(.int .i64 f.1), (.int .i64 f.2.1), (.int .u32 f.2.2.1), (.string ⟨List.toArray f.2.2.2.1⟩), (.int .i64 f.2.2.2.2.1), (.string ⟨List.toArray f.2.2.2.2.2.1⟩), (.string ⟨List.toArray f.2.2.2.2.2.2.1⟩), (.string ⟨List.toArray f.2.2.2.2.2.2.2.1⟩)])) (v := (.bool ((c.1 == f.1) && ((c.2.1 == f.2.1) && ((c.2.2.1 == f.2.2.1) && ((c.2.2.2.1 == f.2.2.2.1) && ((c.2.2.2.2.1 == f.2.2.2.2.1) && ((c.2.2.2.2.2.1 == f.2.2.2.2.2.1) && ((c.2.2.2.2.2.2.1 == f.2.2.2.2.2.2.1) && (c.2.2.2.2.2.2.2.1 == f.2.2.2.2.2.2.2.1)))))))))) (d := (some 60)) (k := 11) K rfl K K (by clear H; intro w; simp only [Gd]; go_simp; simp only [Gm, Nn, Re, Gd, Bool.and_true] <;> simp only [Bool.not_and]) ?_
         exact eK m
       ·exact oV (hC (hB 8 57 c4) (hC (hA 11 60) (h0))) (.bool ((c.1 == f.1) && ((c.2.1 == f.2.1) && ((c.2.2.1 == f.2.2.1) && ((c.2.2.2.1 == f.2.2.2.1) && ((c.2.2.2.2.1 == f.2.2.2.2.1) && ((c.2.2.2.2.2.1 == f.2.2.2.2.2.1) && ((c.2.2.2.2.2.2.1 == f.2.2.2.2.2.2.1) && (c.2.2.2.2.2.2.2.1 == f.2.2.2.2.2.2.2.1)))))))))
       ·exact oV (hC (hA 12 61) (h0)) (.bool ((c.1 == f.1) && ((c.2.1 == f.2.1) && ((c.2.2.1 == f.2.2.1) && ((c.2.2.2.1 == f.2.2.2.1) && ((c.2.2.2.2.1 == f.2.2.2.2.1) && ((c.2.2.2.2.2.1 == f.2.2.2.2.2.1) && ((c.2.2.2.2.2.2.1 == f.2.2.2.2.2.2.1) && (c.2.2.2.2.2.2.2.1 == f.2.2.2.2.2.2.2.1)))))))))
       ·exact oW (hC (hB 13 62 d1) (h0)) 63
       ·exact oW (hC (hB 13 62 d1) (h0)) 64
       ·exact oW (hC (hB 13 62 d1) (h0)) 65
       ·exact oV (hC (hB 13 62 d1) (hC (hA 16 65) (h0))) (.bool false)
       ·exact oV (hC (hA 17 66) (h0)) (.bool false)
       ·exact oW (hC (hA 18 67) (h0)) 68
       ·exact oW (hC (hA 18 67) (h0)) 69
       ·exact oW (hC (hA 18 67) (h0)) 70
       ·exact oW (hC (hA 18 67) (h0)) 71
       ·exact oW (hC (hA 18 67) (h0)) 72
       ·exact oV (hC (hA 18 67) (hC (hA 23 72) (h0))) (.bool false)
       ·exact oV (hC (hA 24 73) (h0)) (.bool false)
       ·exact oW (hC (hA 25 74) (h0)) 75
       ·exact oW (hC (hA 25 74) (h0)) 76
       ·exact oW (hC (hA 25 74) (h0)) 77
       ·exact oV (hC (hA 25 74) (hC (hA 28 77) (h0))) (.bool false)
       ·exact oV (hC (hA 29 78) (h0)) (.bool false)
       ·exact oW (hC (hA 30 79) (h0)) 80
       ·exact oW (hC (hA 30 79) (h0)) 81
       ·exact oW (hC (hA 30 79) (h0)) 82
       ·exact oV (hC (hA 30 79) (hC (hA 33 82) (h0))) (.bool false)
       ·exact oV (hC (hA 34 83) (h0)) (.bool false)
       ·rintro ρ' w' hs hf ⟨⟨ar1, ar2, -⟩, m0⟩
        refine V3 [(6, (.bool false))] ⟨hf 35 6 K, trivial⟩ ?_
        obtain ⟨ar3, aa3⟩ : ∃ x, w' = x := ⟨_, rfl⟩
        rw [aa3] at m0 ⊢
        exact ⟨false, ⟨K, trivial⟩, SP.sel m0 [] rfl rfl, H⟩
     ·have H := cf H c4
      refine aG [GEq (.bool b1), GEq (.bool b1), GEq (.agg #[(.int .i64 a1), (.int .i64 a2), (.int .u32 a3), (.string ⟨List.toArray a4⟩), (.int .i64 a5), (.string ⟨List.toArray a6⟩), (.string ⟨List.toArray a7⟩), (.string ⟨List.toArray a8⟩)]), GEq (.string ⟨List.toArray s⟩), GEq (.agg #[(.int .i64 a1), (.int .i64 a2), (.int .u32 a3), (.string ⟨List.toArray a4⟩), (.int .i64 a5), (.string ⟨List.toArray a6⟩), (.string ⟨List.toArray a7⟩), (.string ⟨List.toArray a8⟩)]), GEq (.string ⟨List.toArray u⟩), GEq (.bool (s == u)), GEq (.bool (s == u)), GEq (.bool (s == u)), GEq undef, GEq undef, GEq undef, GEq (.bool false), GEq (.bool false), GEq undef, GEq undef, GEq undef, GEq (.bool false), GEq (.bool false), GEq undef, GEq undef, GEq undef, GEq undef, GEq undef, GEq (.bool false), GEq (.bool false), GEq undef, GEq undef, GEq undef, GEq (.bool false), GEq (.bool false), GEq undef, GEq undef, GEq undef, GEq (.bool false), GEq (.bool false)] [3, 5] (tG [] w0 [Qk a9 52 #[(.int .i64 a1), (.int .i64 a2), (.int .u32 a3), (.string ⟨List.toArray a4⟩), (.int .i64 a5), (.string ⟨List.toArray a6⟩), (.string ⟨List.toArray a7⟩), (.string ⟨List.toArray a8⟩)], Qk b9 55 #[(.int .i64 b4), (.int .i64 b5), (.int .i64 b6), (.slice b7 (List.length b2) b8)], Qk c9 52 #[(.int .i64 c.1), (.int .i64 c.2.1), (.int .u32 c.2.2.1), (.string ⟨List.toArray c.2.2.2.1⟩), (.int .i64 c.2.2.2.2.1), (.string ⟨List.toArray c.2.2.2.2.2.1⟩), (.string ⟨List.toArray c.2.2.2.2.2.2.1⟩), (.string ⟨List.toArray c.2.2.2.2.2.2.2.1⟩)], Qk d0 52 #[(.int .i64 f.1), (.int .i64 f.2.1), (.int .u32 f.2.2.1), (.string ⟨List.toArray f.2.2.2.1⟩), (.int .i64 f.2.2.2.2.1), (.string ⟨List.toArray f.2.2.2.2.2.1⟩), (.string ⟨List.toArray f.2.2.2.2.2.2.1⟩), (.string ⟨List.toArray f.2.2.2.2.2.2.2.1⟩)], Vu 108 (Qf (Jw .i64) (Qf Qn (Qf Qm Qm))) c5 c6 p.2.2.2.1, Qk d4 55 #[(.int .i64 p.1), (.int .i64 p.2.1), (.int .i64 p.2.2.1), (.slice c5 (List.length p.2.2.2.1) c6)], Vu 108 (Qf (Jw .i64) (Qf Qn (Qf Qm Qm))) c7 c8 q.2.2.2.1, Qk d5 55 #[(.int .i64 q.1), (.int .i64 q.2.1), (.int .i64 q.2.2.1), (.slice c7 (List.length q.2.2.2.1) c8)]] [([], []), ([3], [(.string ⟨List.toArray s⟩)]), ([3, 5], [(.string ⟨List.toArray s⟩), (.string ⟨List.toArray u⟩)])]) 36 2 ⟨trivial, SP.drew e9⟩ ?_ ?_
      iterate 36 refine And.intro ?_ ?_
      exact trivial
      ·exact oV (hC (hS 7 (.bool b1)) (h0)) (.bool b1)
      ·exact oV (hC (hA 0 49) (h0)) (.bool b1)
      ·refine oL 0 ?_
       ·rintro ρ' w' hs j ⟨ar4, aa4⟩
        have e3 : ρ' 3 = (pt a9 0) := (hs 3 K).trans K
        have a0 := j 1 50 K
        refine kN [(3, (pt a9 0)), (50, (.bool true))] ⟨e3, (Eq.trans a0 (congrArg Value.bool b0)), trivial⟩ fun m => ?_
        refine sL 52 3 a9 0 0 (.agg #[(.int .i64 a1), (.int .i64 a2), (.int .u32 a3), (.string ⟨List.toArray a4⟩), (.int .i64 a5), (.string ⟨List.toArray a6⟩), (.string ⟨List.toArray a7⟩), (.string ⟨List.toArray a8⟩)]) 51 aa4 rfl ?_
        exact eK m
      ·refine oH 0 1 ?_
       ·rintro ρ' w' hs j ⟨ar5, m1⟩
        have d7 := j 2 51 K
        have a0 := j 1 50 K
        refine kN [(51, (.agg #[(.int .i64 a1), (.int .i64 a2), (.int .u32 a3), (.string ⟨List.toArray a4⟩), (.int .i64 a5), (.string ⟨List.toArray a6⟩), (.string ⟨List.toArray a7⟩), (.string ⟨List.toArray a8⟩)])), (50, (.bool true))] ⟨d7, (Eq.trans a0 (congrArg Value.bool b0)), trivial⟩ fun m => ?_
        refine cF 35 #[(.tmp 51)] #[52] 52 Tryz.call35 (Z0  a1 a2 a3 a4 a5 a6 a7 a8 w' (Qt hL (SP.keeps m1)) s f2) ?_
        rintro e ar6 ⟨rfl, m2⟩
        refine ⟨_, rfl, ?_⟩
        have aa5 := SP.call m1 m2
        clear m2
        refine ⟨_, Qg m, rfl, ?_⟩
        exact (And.intro (And.intro rfl (trivial)) (aa5))
      ·refine Owe.light K [0, 1] K (Qe ?_ (Qe ?_ Vl))
       ·rintro ρ' w' hs j ⟨ar7, aa6⟩
        have e3 : ρ' 3 = (pt a9 0) := (hs 3 K).trans K
        have a0 := j 1 50 K
        refine kN [(3, (pt a9 0)), (50, (.bool true))] ⟨e3, (Eq.trans a0 (congrArg Value.bool b0)), trivial⟩ fun m => ?_
        refine sL 52 3 a9 0 0 (.agg #[(.int .i64 a1), (.int .i64 a2), (.int .u32 a3), (.string ⟨List.toArray a4⟩), (.int .i64 a5), (.string ⟨List.toArray a6⟩), (.string ⟨List.toArray a7⟩), (.string ⟨List.toArray a8⟩)]) 53 aa6 rfl ?_
        exact eK m
       ·rintro ρ' w' hs j ⟨⟨ar8, -⟩, aa7⟩
        have e3 : ρ' 3 = (pt a9 0) := (hs 3 K).trans K
        have a0 := j 1 50 K
        refine kN [(3, (pt a9 0)), (50, (.bool true))] ⟨e3, (Eq.trans a0 (congrArg Value.bool b0)), trivial⟩ fun m => ?_
        refine sL 52 3 a9 0 0 (.agg #[(.int .i64 a1), (.int .i64 a2), (.int .u32 a3), (.string ⟨List.toArray a4⟩), (.int .i64 a5), (.string ⟨List.toArray a6⟩), (.string ⟨List.toArray a7⟩), (.string ⟨List.toArray a8⟩)]) 53 aa7 rfl ?_
        exact eK m
      ·refine oH 1 2 ?_
       ·rintro ρ' w' hs j ⟨⟨aa8, -⟩, aa9⟩
        have d8 := j 4 53 K
        have a0 := j 1 50 K
        refine kN [(53, (.agg #[(.int .i64 a1), (.int .i64 a2), (.int .u32 a3), (.string ⟨List.toArray a4⟩), (.int .i64 a5), (.string ⟨List.toArray a6⟩), (.string ⟨List.toArray a7⟩), (.string ⟨List.toArray a8⟩)])), (50, (.bool true))] ⟨d8, (Eq.trans a0 (congrArg Value.bool b0)), trivial⟩ fun m => ?_
        refine cF 36 #[(.tmp 53)] #[52] 54 Tryz.call36 (Xn  a1 a2 a3 a4 a5 a6 a7 a8 w'  u f3) ?_
        rintro e ar9 ⟨rfl, m3⟩
        refine ⟨_, rfl, ?_⟩
        have ab0 := SP.call aa9 m3
        clear m3
        refine ⟨_, Qg m, rfl, ?_⟩
        exact (And.intro (And.intro aa8 (And.intro rfl (trivial))) (ab0))
      ·refine oL 2 ?_
       ·rintro ρ' w' hs j ⟨⟨ab1, ab2, -⟩, as0⟩
        have d9 : ρ' 52 = (.string ⟨List.toArray s⟩) := (Qv (h := 3) K).symm.trans ab1
        have e0 : ρ' 54 = (.string ⟨List.toArray u⟩) := (Qv (h := 5) K).symm.trans ab2
        have a0 := j 1 50 K
        refine kN [(52, (.string ⟨List.toArray s⟩)), (54, (.string ⟨List.toArray u⟩)), (50, (.bool true))] ⟨d9, e0, (Eq.trans a0 (congrArg Value.bool b0)), trivial⟩ fun m => ?_
        refine Qu (op := .eql) (T := 9) (T' := 9) (x := (.tmp 52)) (y := (.tmp 54)) (a := s) (b := u) (r := (.bool (s == u))) (d := (some 55)) (k := 6) K rfl K K rfl ?_
        exact eK m
      ·exact oV (hC (hB 1 50 b0) (hC (hA 6 55) (h0))) (.bool (s == u))
      ·exact oV (hC (hA 7 56) (h0)) (.bool (s == u))
      ·exact oW (hC (hB 8 57 c4) (h0)) 58
      ·exact oW (hC (hB 8 57 c4) (h0)) 59
      ·exact oW (hC (hB 8 57 c4) (h0)) 60
      ·exact oV (hC (hB 8 57 c4) (hC (hA 11 60) (h0))) (.bool false)
      ·exact oV (hC (hA 12 61) (h0)) (.bool false)
      ·exact oW (hC (hA 13 62) (h0)) 63
      ·exact oW (hC (hA 13 62) (h0)) 64
      ·exact oW (hC (hA 13 62) (h0)) 65
      ·exact oV (hC (hA 13 62) (hC (hA 16 65) (h0))) (.bool false)
      ·exact oV (hC (hA 17 66) (h0)) (.bool false)
      ·exact oW (hC (hA 18 67) (h0)) 68
      ·exact oW (hC (hA 18 67) (h0)) 69
      ·exact oW (hC (hA 18 67) (h0)) 70
      ·exact oW (hC (hA 18 67) (h0)) 71
      ·exact oW (hC (hA 18 67) (h0)) 72
      ·exact oV (hC (hA 18 67) (hC (hA 23 72) (h0))) (.bool false)
      ·exact oV (hC (hA 24 73) (h0)) (.bool false)
      ·exact oW (hC (hA 25 74) (h0)) 75
      ·exact oW (hC (hA 25 74) (h0)) 76
      ·exact oW (hC (hA 25 74) (h0)) 77
      ·exact oV (hC (hA 25 74) (hC (hA 28 77) (h0))) (.bool false)
      ·exact oV (hC (hA 29 78) (h0)) (.bool false)
      ·exact oW (hC (hA 30 79) (h0)) 80
      ·exact oW (hC (hA 30 79) (h0)) 81
      ·exact oW (hC (hA 30 79) (h0)) 82
      ·exact oV (hC (hA 30 79) (hC (hA 33 82) (h0))) (.bool false)
      ·exact oV (hC (hA 34 83) (h0)) (.bool false)
      ·rintro ρ' w' hs hf ⟨⟨as1, as2, -⟩, m4⟩
       refine V3 [(6, (.bool false))] ⟨hf 35 6 K, trivial⟩ ?_
       obtain ⟨as3, ab3⟩ : ∃ x, w' = x := ⟨_, rfl⟩
       rw [ab3] at m4 ⊢
       exact ⟨false, ⟨K, trivial⟩, SP.sel m4 [] rfl rfl, H⟩
    ·have H := cf H b0
     refine aG [GEq (.bool b1), GEq (.bool b1), GEq undef, GEq undef, GEq undef, GEq undef, GEq undef, GEq (.bool false), GEq (.bool false), GEq undef, GEq undef, GEq undef, GEq (.bool false), GEq (.bool false), GEq undef, GEq undef, GEq undef, GEq (.bool false), GEq (.bool false), GEq undef, GEq undef, GEq undef, GEq undef, GEq undef, GEq (.bool false), GEq (.bool false), GEq undef, GEq undef, GEq undef, GEq (.bool false), GEq (.bool false), GEq undef, GEq undef, GEq undef, GEq (.bool false), GEq (.bool false)] [] (tG [] w0 [Qk a9 52 #[(.int .i64 a1), (.int .i64 a2), (.int .u32 a3), (.string ⟨List.toArray a4⟩), (.int .i64 a5), (.string ⟨List.toArray a6⟩), (.string ⟨List.toArray a7⟩), (.string ⟨List.toArray a8⟩)], Qk b9 55 #[(.int .i64 b4), (.int .i64 b5), (.int .i64 b6), (.slice b7 (List.length b2) b8)], Qk c9 52 #[(.int .i64 c.1), (.int .i64 c.2.1), (.int .u32 c.2.2.1), (.string ⟨List.toArray c.2.2.2.1⟩), (.int .i64 c.2.2.2.2.1), (.string ⟨List.toArray c.2.2.2.2.2.1⟩), (.string ⟨List.toArray c.2.2.2.2.2.2.1⟩), (.string ⟨List.toArray c.2.2.2.2.2.2.2.1⟩)], Qk d0 52 #[(.int .i64 f.1), (.int .i64 f.2.1), (.int .u32 f.2.2.1), (.string ⟨List.toArray f.2.2.2.1⟩), (.int .i64 f.2.2.2.2.1), (.string ⟨List.toArray f.2.2.2.2.2.1⟩), (.string ⟨List.toArray f.2.2.2.2.2.2.1⟩), (.string ⟨List.toArray f.2.2.2.2.2.2.2.1⟩)], Vu 108 (Qf (Jw .i64) (Qf Qn (Qf Qm Qm))) c5 c6 p.2.2.2.1, Qk d4 55 #[(.int .i64 p.1), (.int .i64 p.2.1), (.int .i64 p.2.2.1), (.slice c5 (List.length p.2.2.2.1) c6)], Vu 108 (Qf (Jw .i64) (Qf Qn (Qf Qm Qm))) c7 c8 q.2.2.2.1, Qk d5 55 #[(.int .i64 q.1), (.int .i64 q.2.1), (.int .i64 q.2.2.1), (.slice c7 (List.length q.2.2.2.1) c8)]] [([], [])]) 36 0 ⟨trivial, SP.drew e9⟩ ?_ ?_
     iterate 36 refine And.intro ?_ ?_
     exact trivial
     ·exact oV (hC (hS 7 (.bool b1)) (h0)) (.bool b1)
     ·exact oV (hC (hA 0 49) (h0)) (.bool b1)
     ·exact oW (hC (hB 1 50 b0) (h0)) 51
     ·exact oW (hC (hB 1 50 b0) (h0)) 52
     ·exact oW (hC (hB 1 50 b0) (h0)) 53
     ·exact oW (hC (hB 1 50 b0) (h0)) 54
     ·exact oW (hC (hB 1 50 b0) (h0)) 55
     ·exact oV (hC (hB 1 50 b0) (hC (hA 6 55) (h0))) (.bool false)
     ·exact oV (hC (hA 7 56) (h0)) (.bool false)
     ·exact oW (hC (hA 8 57) (h0)) 58
     ·exact oW (hC (hA 8 57) (h0)) 59
     ·exact oW (hC (hA 8 57) (h0)) 60
     ·exact oV (hC (hA 8 57) (hC (hA 11 60) (h0))) (.bool false)
     ·exact oV (hC (hA 12 61) (h0)) (.bool false)
     ·exact oW (hC (hA 13 62) (h0)) 63
     ·exact oW (hC (hA 13 62) (h0)) 64
     ·exact oW (hC (hA 13 62) (h0)) 65
     ·exact oV (hC (hA 13 62) (hC (hA 16 65) (h0))) (.bool false)
     ·exact oV (hC (hA 17 66) (h0)) (.bool false)
     ·exact oW (hC (hA 18 67) (h0)) 68
     ·exact oW (hC (hA 18 67) (h0)) 69
     ·exact oW (hC (hA 18 67) (h0)) 70
     ·exact oW (hC (hA 18 67) (h0)) 71
     ·exact oW (hC (hA 18 67) (h0)) 72
     ·exact oV (hC (hA 18 67) (hC (hA 23 72) (h0))) (.bool false)
     ·exact oV (hC (hA 24 73) (h0)) (.bool false)
     ·exact oW (hC (hA 25 74) (h0)) 75
     ·exact oW (hC (hA 25 74) (h0)) 76
     ·exact oW (hC (hA 25 74) (h0)) 77
     ·exact oV (hC (hA 25 74) (hC (hA 28 77) (h0))) (.bool false)
     ·exact oV (hC (hA 29 78) (h0)) (.bool false)
     ·exact oW (hC (hA 30 79) (h0)) 80
     ·exact oW (hC (hA 30 79) (h0)) 81
     ·exact oW (hC (hA 30 79) (h0)) 82
     ·exact oV (hC (hA 30 79) (hC (hA 33 82) (h0))) (.bool false)
     ·exact oV (hC (hA 34 83) (h0)) (.bool false)
     ·rintro ρ' w' hs hf ⟨as4, m5⟩
      refine V3 [(6, (.bool false))] ⟨hf 35 6 K, trivial⟩ ?_
      obtain ⟨as5, ab4⟩ : ∃ x, w' = x := ⟨_, rfl⟩
      rw [ab4] at m5 ⊢
      exact ⟨false, ⟨K, trivial⟩, SP.sel m5 [] rfl rfl, H⟩
   ·rintro ρ as6 ⟨f1, hk, ab5, H⟩
    unfold Q6 at H
    first | refine At.known [(6, (.bool f1))] hk ?_ | rw [← Qc (l := [(6, (.bool f1))]) hk]
    refine At.ret K ?_
    refine ⟨(.bool f1), K, ?_⟩
    obtain rfl := Qb H
    exact ⟨rfl, SP.sel ab5 [] rfl rfl⟩
end Go.Proofs.YtoflbpmbkmephaaGreatDoor
namespace Go.Proofs.YtoflbpmbkmephaaGreatDoor
theorem Lz (x : Int) : IntKind.wrap .u32 x = x % 4294967296 := by
  unfold IntKind.wrap
  simp only [IntKind.bits, IntKind.signed]
  simp
theorem bShr32 (a k : Nat) (hk : k ≤ 32) : Ia .u32 (a : Int) (k : Int) = ((a / 2 ^ k : Nat) : Int) := by
  unfold Ia
  have : min ((k : Int).toNat) (IntKind.bits .u32) = k := by simp only [Int.toNat_natCast, IntKind.bits]; omega
  rw [this, Int.fdiv_eq_ediv_of_nonneg _ (by exact_mod_cast Nat.zero_le (2 ^ k))]
  push_cast
  rfl
end Go.Proofs.YtoflbpmbkmephaaGreatDoor
namespace Go.Proofs.YtoflbpmbkmephaaGreatDoor
open Go.Lib (decDigits)
def isLet (c : UInt8) : Bool := (decide (97 ≤ c.toNat) && decide (c.toNat ≤ 122)) || (decide (48 ≤ c.toNat) && decide (c.toNat ≤ 57))
def isNm (c : UInt8) : Bool := isLet c || c == 45
def Uy (s : List UInt8) : Bool := decide (1 ≤ s.length) && decide (s.length ≤ 20) && s.all isNm && !(s.headD 0 == 45) && !(s.getLastD 0 == 45)
def Ro : List UInt8 := [97, 98, 99, 100, 101, 102, 103, 104, 105, 106, 107, 108, 109, 110, 111, 112, 113, 114, 115, 116, 117, 118, 119, 120, 121, 122, 48, 49, 50, 51, 52, 53, 54, 55, 56, 57, 45]
theorem Ip (c : UInt8) : Ro.contains c = isNm c := by
  have h : ∀ n : Fin 256, Ro.contains (UInt8.ofNat n.val) = isNm (UInt8.ofNat n.val) := by decide +kernel
  have e := h ⟨c.toNat, c.toNat_lt⟩
  have : UInt8.ofNat c.toNat = c := by simp
  rw [this] at e
  exact e
theorem B0 {α : Type} (p : α → Bool) : ∀ l : List α, l.dropWhile p = [] ↔ ∀ x ∈ l, p x = true
  | [] => by simp
  | x :: l => by
    rw [List.dropWhile_cons]
    by_cases h : p x = true
    · rw [if_pos h, B0 p l]; simp [h]
    · rw [if_neg h]; simp [h]
theorem Em {α : Type} (p : α → Bool) : ∀ (l : List α) (x : α) (r : List α), l.dropWhile p = x :: r → p x = false
  | [], x, r, h => by simp at h
  | y :: l, x, r, h => by
    rw [List.dropWhile_cons] at h
    by_cases hy : p y = true
    · rw [if_pos hy] at h; exact Em p l x r h
    · rw [if_neg hy] at h; injection h with h1 _; subst h1; simpa using hy
theorem trimS_nil (l cs : List UInt8) : Lib.trimS l cs = [] ↔ ∀ x ∈ l, cs.contains x = true := by
  unfold Lib.trimS Lib.trimLeftS Lib.trimRightS
  rw [B0]
  constructor
  · intro h
    cases hd : l.reverse.dropWhile (cs.contains ·) with
    | nil =>
      have := (B0 _ _).1 hd
      intro x hx
      exact this x (by simpa using hx)
    | cons y r =>
      have h1 := Em _ _ _ _ hd
      have h2 := h y (by rw [hd]; simp)
      rw [h2] at h1
      cases h1
  · intro h x hx
    refine h x ?_
    have : x ∈ l.reverse.dropWhile (cs.contains ·) := by simpa using hx
    have := List.IsSuffix.subset (List.dropWhile_suffix _) this
    simpa using this
theorem lTrim (s : List UInt8) (h : s.length ≤ 9000) : G0 s Ro = some (Lib.trimS s Ro) := by
  unfold G0
  rw [show (Nat.ble s.length 9223372036854775807 && (Nat.ble Ro.length 4294967280 && Ro.all (fun b => Nat.ble b.toNat 127))) = true by
    rw [Nat.ble_eq_true_of_le (by omega)]
    decide]
  rfl
theorem headD_idx {s : List UInt8} (h : 1 ≤ s.length) : idx s 0 = some (s.headD 0) := by
  cases s with
  | nil => simp at h
  | cons c r => rfl
theorem last_idx {s : List UInt8} (h : 1 ≤ s.length) (h2 : s.length ≤ 9000) : idx s (IntKind.wrap .i64 (((List.length s : Nat) : Int) - 1)) = some (s.getLastD 0) := by
  rw [Z2 (by omega), show (((List.length s : Nat) : Int) - 1) = ((s.length - 1 : Nat) : Int) by omega, Er]
  cases s with
  | nil => simp at h
  | cons c r => rw [List.getLastD_cons, List.getLastD_eq_getLast?, ← List.getLast?_eq_getElem?]; cases r <;> simp [List.getLast?_cons]
theorem byte45 (c : UInt8) : (((c.toNat : Nat) : Int) != 45) = !(c == 45) := by
  by_cases h : c = 45
  · subst h; rfl
  · rw [show (c == 45) = false by simpa using h]
    rw [Bool.not_false, bne_iff_ne]
    intro e
    exact h (UInt8.toNat_inj.1 (show c.toNat = (45 : UInt8).toNat from by have h9 : (45 : UInt8).toNat = 45 := rfl; omega))
theorem byteEq45 (c : UInt8) : (((c.toNat : Nat) : Int) == 45) = (c == 45) := by
  have := byte45 c
  rw [bne, Bool.not_inj_iff] at this
  exact this
theorem lName (s : List UInt8) (h : s.length ≤ 9000) : Ur s = some (Uy s) := by
  unfold Ur Uy X4
  by_cases h1 : 1 ≤ s.length
  · have hne : (s == ([] : List UInt8)) = false := by cases s with | nil => simp at h1 | cons c r => rfl
    rw [hne, decide_eq_true h1]
    simp only [Bool.not_false, cond_true]
    by_cases h2 : s.length ≤ 20
    · rw [show decide (((List.length s : Nat) : Int) ≤ 20) = true by simp; omega, decide_eq_true h2]
      have ht := lTrim s h
      unfold Ro at ht
      rw [ht]
      simp only [cond_true, Option.bind_some]
      have hall : (Lib.trimS s Ro == ([] : List UInt8)) = s.all isNm := by
        rw [Bool.eq_iff_iff, beq_iff_eq, trimS_nil, List.all_eq_true]
        exact ⟨fun h x hx => by rw [← Ip]; exact h x hx, fun h x hx => by rw [Ip]; exact h x hx⟩
      unfold Ro at hall
      rw [hall]
      cases s.all isNm with
      | false => rfl
      | true =>
        simp only [cond_true, headD_idx h1, Option.bind_some, byte45, last_idx h1 h]
        cases s.headD 0 == 45 <;> simp
    · rw [show decide (((List.length s : Nat) : Int) ≤ 20) = false by simp; omega, decide_eq_false h2]
      rfl
  · have : s = [] := List.length_eq_zero_iff.1 (by omega)
    subst this
    rfl
def Oj (s : List UInt8) (i : Nat) : Bool := ((s.getD i 0 == 45) && (decide (0 < i) && decide (i + 1 < s.length))) || isLet (s.getD i 0)
def L0 (s : List UInt8) : Bool := (List.range s.length).all (Oj s) && decide (1 ≤ s.length) && decide (s.length ≤ 20)
theorem M8 (s : List UInt8) (hs : s.length ≤ 9000) : ∀ (d k f : Nat), d = s.length - k → k ≤ s.length → d < f → (∀ j, j < k → Oj s j = true) → Qs s f ((k : Nat) : Int) = some (L0 s) := by
  intro d
  induction d with
  | zero =>
    intro k f hd hk hf hall
    obtain ⟨f, rfl⟩ : ∃ g, f = g + 1 := ⟨f - 1, by omega⟩
    show Z8 (Qs s f) s _ = _
    unfold Z8 Yt L0
    have ha : (List.range s.length).all (Oj s) = true := by rw [List.all_eq_true]; intro j hj; exact hall j (by have := List.mem_range.1 hj; omega)
    rw [show decide (((k : Nat) : Int) < ((List.length s : Nat) : Int)) = false by simp; omega, ha]
    simp only [cond_false, Bool.true_and]
    by_cases h1 : 1 ≤ s.length
    · rw [show decide (((List.length s : Nat) : Int) ≥ 1) = true by simp; omega, decide_eq_true h1]
      simp only [cond_true, Bool.true_and]
      congr 1
      rw [decide_eq_decide]
      omega
    · rw [show decide (((List.length s : Nat) : Int) ≥ 1) = false by simp; omega, decide_eq_false h1]
      rfl
  | succ d ih =>
    intro k f hd hk hf hall
    obtain ⟨f, rfl⟩ : ∃ g, f = g + 1 := ⟨f - 1, by omega⟩
    have hlt : k < s.length := by omega
    show Z8 (Qs s f) s _ = _
    unfold Z8
    have hgd : s.getD k 0 = s[k] := by simp [List.getD, List.getElem?_eq_getElem hlt]
    have w1 : IntKind.wrap .i64 (((List.length s : Nat) : Int) - 1) = ((s.length - 1 : Nat) : Int) := by rw [Z2 (by omega)]; omega
    have w4 : IntKind.wrap .i64 ((k : Int) + 1) = ((k + 1 : Nat) : Int) := by rw [Z2 (by omega)]; omega
    rw [show decide (((k : Nat) : Int) < ((List.length s : Nat) : Int)) = true by simp; omega, show idx s ((k : Nat) : Int) = some s[k] from U6 hlt]
    simp only [cond_true, Option.bind_some, byteEq45, w1]
    have d0 : decide (((k : Nat) : Int) > 0) = decide (0 < k) := by rw [decide_eq_decide]; omega
    have d1 : decide (((k : Nat) : Int) < ((s.length - 1 : Nat) : Int)) = decide (k + 1 < s.length) := by rw [decide_eq_decide]; omega
    rw [d0, d1]
    have yes : Oj s k = true → Qs s f ((k + 1 : Nat) : Int) = some (L0 s) := fun hok => ih (k + 1) f (by omega) (by omega) (by omega) fun j hj => by
      by_cases hjk : j = k
      · subst hjk; exact hok
      · exact hall j (by omega)
    have no : Oj s k = false → some false = some (L0 s) := fun hno => by
      congr 1
      unfold L0
      have : (List.range s.length).all (Oj s) = false := by
        rw [Bool.eq_false_iff]
        intro h
        rw [List.all_eq_true] at h
        have := h k (List.mem_range.2 hlt)
        rw [hno] at this
        cases this
      rw [this]
      rfl
    have key : (cond (s[k] == 45) (cond (decide (0 < k)) (Vo (Qs s f) ((k : Nat) : Int) s[k] (decide (k + 1 < s.length))) (Vo (Qs s f) ((k : Nat) : Int) s[k] false)) (Vo (Qs s f) ((k : Nat) : Int) s[k] false)) =
        Vo (Qs s f) ((k : Nat) : Int) s[k] ((s[k] == 45) && (decide (0 < k) && decide (k + 1 < s.length))) := by
      cases s[k] == 45 <;> cases decide (0 < k) <;> simp
    rw [key]
    have hok : Oj s k = (((s[k] == 45) && (decide (0 < k) && decide (k + 1 < s.length))) || isLet s[k]) := by unfold Oj; rw [hgd]
    rw [hok] at yes no
    generalize ((s[k] == 45) && (decide (0 < k) && decide (k + 1 < s.length))) = line at yes no ⊢
    unfold Vo V4
    simp only [w4]
    cases line with
    | true => exact yes rfl
    | false =>
      simp only [Bool.false_or] at yes no
      unfold isLet at yes no
      generalize s[k].toNat = x at yes no ⊢
      simp only [Bool.not_false, cond_true]
      by_cases h1 : x < 97
      · rw [show decide (((x : Nat) : Int) < 97) = true by simp; omega]
        by_cases h2 : x < 48
        · rw [show decide (((x : Nat) : Int) < 48) = true by simp; omega]
          exact no (by simp; omega)
        · rw [show decide (((x : Nat) : Int) < 48) = false by simp; omega]
          by_cases h3 : 57 < x
          · rw [show decide (((x : Nat) : Int) > 57) = true by simp; omega]
            exact no (by simp; omega)
          · rw [show decide (((x : Nat) : Int) > 57) = false by simp; omega]
            exact yes (by simp; omega)
      · rw [show decide (((x : Nat) : Int) < 97) = false by simp; omega]
        by_cases h2 : 122 < x
        · rw [show decide (((x : Nat) : Int) > 122) = true by simp; omega, show decide (((x : Nat) : Int) < 48) = false by simp; omega, show decide (((x : Nat) : Int) > 57) = true by simp; omega]
          exact no (by simp; omega)
        · rw [show decide (((x : Nat) : Int) > 122) = false by simp; omega]
          exact yes (by simp; omega)
theorem let45 : isLet 45 = false := by decide
theorem nameR_eq (s : List UInt8) : L0 s = Uy s := by
  rw [Bool.eq_iff_iff]
  unfold L0 Uy
  simp only [Bool.and_eq_true, List.all_eq_true, List.mem_range, decide_eq_true_eq, Bool.not_eq_true']
  have hget : ∀ i (hi : i < s.length), s.getD i 0 = s[i] := fun i hi => by simp [List.getD, List.getElem?_eq_getElem hi]
  have hhead : ∀ h : 0 < s.length, s.headD 0 = s[0] := fun h => by cases s with | nil => simp at h | cons c r => rfl
  have hlast : ∀ h : 0 < s.length, s.getLastD 0 = s[s.length - 1] := fun h => by
    have h2 := List.getLast_eq_getElem (l := s) (by intro e; subst e; simp at h)
    rw [← h2, List.getLastD_eq_getLast?, List.getLast?_eq_some_getLast (by intro e; subst e; simp at h)]
    rfl
  constructor
  · rintro ⟨⟨h1, h2⟩, h3⟩
    refine ⟨⟨⟨⟨h2, h3⟩, fun x hx => ?_⟩, ?_⟩, ?_⟩
    · obtain ⟨i, hi, rfl⟩ := List.mem_iff_getElem.1 hx
      have := h1 i hi
      unfold Oj at this
      rw [hget i hi, Bool.or_eq_true, Bool.and_eq_true] at this
      unfold isNm
      rcases this with h | h
      · rw [h.1]; simp
      · rw [h]; rfl
    · have := h1 0 (by omega)
      unfold Oj at this
      rw [hget 0 (by omega)] at this
      rw [hhead (by omega)]
      simp only [Nat.lt_irrefl, decide_false, Bool.false_and, Bool.and_false, Bool.false_or] at this
      rw [Bool.eq_false_iff]
      intro e
      rw [beq_iff_eq.1 e, let45] at this
      cases this
    · have := h1 (s.length - 1) (by omega)
      unfold Oj at this
      rw [hget _ (by omega), show decide (s.length - 1 + 1 < s.length) = false by simp; omega] at this
      rw [hlast (by omega)]
      simp only [Bool.and_false, Bool.false_or] at this
      rw [Bool.eq_false_iff]
      intro e
      rw [beq_iff_eq.1 e, let45] at this
      cases this
  · rintro ⟨⟨⟨⟨h2, h3⟩, h4⟩, h5⟩, h6⟩
    refine ⟨⟨fun i hi => ?_, h2⟩, h3⟩
    have hm := h4 s[i] (List.getElem_mem hi)
    unfold Oj
    rw [hget i hi]
    unfold isNm at hm
    rw [Bool.or_eq_true] at hm ⊢
    rcases hm with hm | hm
    · exact .inr hm
    · refine .inl ?_
      have e45 := beq_iff_eq.1 hm
      rw [hm]
      have i0 : 0 < i := by
        rcases Nat.eq_zero_or_pos i with rfl | h
        · rw [hhead (by omega), hm] at h5; cases h5
        · exact h
      have i1 : i + 1 < s.length := by
        rcases Nat.lt_or_ge (i + 1) s.length with h | h
        · exact h
        · have : i = s.length - 1 := by omega
          subst this
          rw [hlast (by omega), hm] at h6; cases h6
      simp [i0, i1]
theorem rName (s : List UInt8) (h : s.length ≤ 9000) : Zh s = some (Uy s) := by
  unfold Zh
  rw [← nameR_eq]
  exact M8 s h s.length 0 Y1 (by omega) (by omega) (by rw [Cs]; omega) (fun j hj => absurd hj (by omega))
def Cl (a : Nat) : List UInt8 := decDigits (a / 16777216 % 256) ++ 46 :: (decDigits (a / 65536 % 256) ++ 46 :: (decDigits (a / 256 % 256) ++ 46 :: decDigits (a % 256)))
theorem Mk {n : Nat} (h : n ≤ 1099511627776) : Ds (n : Int) = decDigits n := by unfold Ds; rw [if_pos (by omega), Int.toNat_natCast]
theorem D3 {n : Nat} (h : n < 256) : (decDigits n).length ≤ 3 := dec_len (by omega) (by omega)
theorem E6 (a : Nat) (ha : a < 4294967296) (f i : Nat) (acc : List (List UInt8)) (hi : i < 4) (hacc : acc.length ≤ 4) :
    Yo (a : Int) (f + 1) acc (i : Int) = Yo (a : Int) f (acc ++ [decDigits (a / 2 ^ (24 - 8 * i) % 256)]) ((i + 1 : Nat) : Int) := by
  show Ji (Yo (a : Int) f) (a : Int) acc (i : Int) = _
  unfold Ji
  have w1 : IntKind.wrap .i64 (24 - IntKind.wrap .i64 (8 * (i : Int))) = ((24 - 8 * i : Nat) : Int) := by rw [Z2 (x := 8 * (i : Int)) (by omega), Z2 (by omega)]; omega
  have w2 : IntKind.wrap .i64 (IntKind.wrap .u8 (((a / 2 ^ (24 - 8 * i) : Nat) : Int))) = ((a / 2 ^ (24 - 8 * i) % 256 : Nat) : Int) := by
    rw [wrap8]
    generalize a / 2 ^ (24 - 8 * i) = q
    rw [Z2 (by omega)]
    omega
  have w4 : IntKind.wrap .i64 ((i : Int) + 1) = ((i + 1 : Nat) : Int) := by rw [Z2 (by omega)]; omega
  rw [show decide ((i : Int) < 4) = true by simp; omega, w1, show decide (0 ≤ ((24 - 8 * i : Nat) : Int)) = true by simp, bShr32 a _ (by omega), w2, Ha, Mk (by have := Nat.mod_lt (a / 2 ^ (24 - 8 * i)) (show 0 < 256 by omega); omega), w4]
  simp only [cond_true, chk, Option.bind_some, Z7 (show acc.length + [decDigits (a / 2 ^ (24 - 8 * i) % 256)].length ≤ 2147483648 by simp only [List.length_cons, List.length_nil]; omega)]
theorem join4 (x y z t : List UInt8) : Lib.join [x, y, z, t] [46] = x ++ 46 :: (y ++ 46 :: (z ++ 46 :: t)) := by
  simp [Lib.join, List.intercalate, List.intersperse]
theorem Hz (a : Nat) : (Cl a).length ≤ 15 := by
  have h1 := D3 (n := a / 16777216 % 256) (by omega)
  have h2 := D3 (n := a / 65536 % 256) (by omega)
  have h3 := D3 (n := a / 256 % 256) (by omega)
  have h4 := D3 (n := a % 256) (by omega)
  simp only [Cl, List.length_append, List.length_cons]
  omega
theorem lDots (a : Nat) (ha : a < 4294967296) : Gp (a : Int) = some (Cl a) := by
  unfold Gp
  obtain ⟨f, hf⟩ : ∃ f, Y1 = f + 1 + 1 + 1 + 1 + 1 := ⟨Y1 - 5, by rw [Cs]⟩
  rw [hf]
  have s0 := E6 a ha (f + 1 + 1 + 1 + 1) 0 [] (by omega) (by simp)
  have s1 := E6 a ha (f + 1 + 1 + 1) 1 [decDigits (a / 2 ^ 24 % 256)] (by omega) (by simp)
  have s2 := E6 a ha (f + 1 + 1) 2 [decDigits (a / 2 ^ 24 % 256), decDigits (a / 2 ^ 16 % 256)] (by omega) (by simp)
  have s3 := E6 a ha (f + 1) 3 [decDigits (a / 2 ^ 24 % 256), decDigits (a / 2 ^ 16 % 256), decDigits (a / 2 ^ 8 % 256)] (by omega) (by simp)
  refine s0.trans (s1.trans (s2.trans (s3.trans ?_)))
  show Ji (Yo (a : Int) f) (a : Int) [decDigits (a / 2 ^ 24 % 256), decDigits (a / 2 ^ 16 % 256), decDigits (a / 2 ^ 8 % 256), decDigits (a / 2 ^ 0 % 256)] 4 = _
  unfold Ji U1
  rw [join4]
  have e : decDigits (a / 2 ^ 24 % 256) ++ 46 :: (decDigits (a / 2 ^ 16 % 256) ++ 46 :: (decDigits (a / 2 ^ 8 % 256) ++ 46 :: decDigits (a / 2 ^ 0 % 256))) = Cl a := by
    unfold Cl
    rw [Nat.pow_zero, Nat.div_one]
  rw [e, Nat.ble_eq_true_of_le (show (Cl a).length ≤ 140737488355328 by have := Hz a; omega)]
  rfl
theorem w32 {b : Int} (h0 : 0 ≤ b) (h1 : b ≤ 32) : IntKind.wrap .i64 (32 - b) = ((32 - b.toNat : Nat) : Int) := by rw [Z2 (by omega)]; omega
end Go.Proofs.YtoflbpmbkmephaaGreatDoor
namespace Go.Proofs.YtoflbpmbkmephaaGreatDoor
open Go.Lib (decDigits)
open Go.RowKit
theorem Ea (a : Nat) (ha : a < 4294967296) (f i : Nat) (out : List UInt8) (hi : i < 4) (ho : out.length ≤ 100) :
    V5 (a : Int) (f + 1) out (i : Int) = V5 (a : Int) f (out ++ decDigits (a / 2 ^ (8 * i) % 256) ++ (if 0 < i then [46] else [])) ((i : Int) - 1) := by
  show Z9 (V5 (a : Int) f) (a : Int) out (i : Int) = _
  unfold Z9
  have w1 : IntKind.wrap .i64 (8 * (i : Int)) = ((8 * i : Nat) : Int) := by rw [Z2 (by omega)]; omega
  have w2 : IntKind.wrap .i64 (Int.tmod (((a / 2 ^ (8 * i) : Nat) : Int)) 256) = ((a / 2 ^ (8 * i) % 256 : Nat) : Int) := by
    have := Ez (a / 2 ^ (8 * i)) 256
    rw [show ((256 : Nat) : Int) = 256 from rfl] at this
    rw [this]
    exact Z2 (by omega)
  have w4 : IntKind.wrap .i64 ((i : Int) - 1) = (i : Int) - 1 := Z2 (by omega)
  have hd := D3 (n := a / 2 ^ (8 * i) % 256) (by omega)
  rw [show decide ((i : Int) ≥ 0) = true by simp, w1, show decide (0 ≤ ((8 * i : Nat) : Int)) = true by (simp only [decide_eq_true_eq]; omega), bShr32 a _ (by omega), w2, Mh, Mk (by have := Nat.mod_lt (a / 2 ^ (8 * i)) (show 0 < 256 by omega); omega)]
  simp only [cond_true, chk, Option.bind_some]
  rw [Z7 (by omega)]
  simp only [Option.bind_some]
  by_cases h0 : 0 < i
  · rw [show decide ((i : Int) > 0) = true by simp; omega, if_pos h0, Z7 (by simp only [List.length_append, List.length_cons, List.length_nil]; omega)]
    simp only [cond_true, Option.bind_some, Ye, w4]
  · rw [show decide ((i : Int) > 0) = false by simp; omega, if_neg h0]
    simp only [cond_false, Ye, w4, List.append_nil]
theorem rDots (a : Nat) (ha : a < 4294967296) : Jc (a : Int) = some (Cl a) := by
  unfold Jc
  obtain ⟨f, hf⟩ : ∃ f, Y1 = f + 1 + 1 + 1 + 1 + 1 := ⟨Y1 - 5, by rw [Cs]⟩
  rw [hf]
  have d3 := D3 (n := a / 2 ^ (8 * 3) % 256) (by omega)
  have d2 := D3 (n := a / 2 ^ (8 * 2) % 256) (by omega)
  have d1 := D3 (n := a / 2 ^ (8 * 1) % 256) (by omega)
  have s0 := Ea a ha (f + 1 + 1 + 1 + 1) 3 [] (by omega) (by simp)
  have s1 := Ea a ha (f + 1 + 1 + 1) 2 _ (by omega) (show ([] ++ decDigits (a / 2 ^ (8 * 3) % 256) ++ [46]).length ≤ 100 by simp only [List.length_append, List.length_cons, List.length_nil]; omega)
  have s2 := Ea a ha (f + 1 + 1) 1 _ (by omega) (show ([] ++ decDigits (a / 2 ^ (8 * 3) % 256) ++ [46] ++ decDigits (a / 2 ^ (8 * 2) % 256) ++ [46]).length ≤ 100 by simp only [List.length_append, List.length_cons, List.length_nil]; omega)
  have s3 := Ea a ha (f + 1) 0 _ (by omega) (show ([] ++ decDigits (a / 2 ^ (8 * 3) % 256) ++ [46] ++ decDigits (a / 2 ^ (8 * 2) % 256) ++ [46] ++ decDigits (a / 2 ^ (8 * 1) % 256) ++ [46]).length ≤ 100 by simp only [List.length_append, List.length_cons, List.length_nil]; omega)
  refine s0.trans (s1.trans (s2.trans (s3.trans ?_)))
  show Z9 (V5 (a : Int) f) (a : Int) _ (-1) = _
  unfold Z9
  show some _ = some _
  unfold Cl
  simp
end Go.Proofs.YtoflbpmbkmephaaGreatDoor
namespace Go.Proofs.YtoflbpmbkmephaaGreatDoor
open Go.Lib (decDigits)
def Ef (c : UInt8) (s : List UInt8) : List UInt8 × List UInt8 × Bool := if Lib.indexByte s c < 0 then (s, [], false) else (s.take (Lib.indexByte s c).toNat, s.drop ((Lib.indexByte s c).toNat + 1), true)
theorem rCut_loop (c : UInt8) (s : List UInt8) (hs : s.length ≤ 9000) : ∀ (d k f : Nat), d = s.length - k → k ≤ s.length → d < f → c ∉ s.take k → Xr s c f ((k : Nat) : Int) = some (Ef c s) := by
  intro d
  induction d with
  | zero =>
    intro k f hd hk hf hn
    obtain ⟨f, rfl⟩ : ∃ g, f = g + 1 := ⟨f - 1, by omega⟩
    show Xq (Xr s c f) s c _ = _
    unfold Xq Ef
    rw [List.take_of_length_le (by omega)] at hn
    rw [show decide (((k : Nat) : Int) < ((List.length s : Nat) : Int)) = false by simp; omega]
    rcases Yj c s with ⟨h1, _, _⟩ | ⟨i, h1, h2, h3, _, _⟩
    · rw [h1]; rfl
    · exact absurd (List.mem_of_getElem? h3) hn
  | succ d ih =>
    intro k f hd hk hf hn
    obtain ⟨f, rfl⟩ : ∃ g, f = g + 1 := ⟨f - 1, by omega⟩
    have hlt : k < s.length := by omega
    show Xq (Xr s c f) s c _ = _
    unfold Xq
    have w4 : IntKind.wrap .i64 ((k : Int) + 1) = ((k + 1 : Nat) : Int) := by rw [Z2 (by omega)]; omega
    rw [show decide (((k : Nat) : Int) < ((List.length s : Nat) : Int)) = true by simp; omega, show idx s ((k : Nat) : Int) = some s[k] from U6 hlt]
    simp only [cond_true, Option.bind_some, w4]
    by_cases hc : s[k] = c
    · rw [show (((s[k].toNat : Nat) : Int) == ((c.toNat : Nat) : Int)) = true by rw [hc]; simp]
      have s1 : sub s 0 ((k : Nat) : Int) = some (s.take k) := G5 s (i := 0) (j := k) (by omega) (by omega)
      have s2 : sub s ((k + 1 : Nat) : Int) ((s.length : Nat) : Int) = some (s.drop (k + 1)) := by rw [G5 s (by omega) (Nat.le_refl _), List.take_length]
      simp only [cond_true, s1, s2, Option.bind_some]
      unfold Ef
      rcases Yj c s with ⟨h1, _, h3⟩ | ⟨i, h1, h2, h3, h4, _⟩
      · exact absurd (by rw [← hc]; exact List.getElem_mem hlt) h3
      · have hik : i = k := by
          rcases Nat.lt_trichotomy i k with h | h | h
          · exfalso
            refine hn (List.mem_of_getElem? (i := i) ?_)
            rw [List.getElem?_take, if_pos h]
            exact h3
          · exact h
          · exfalso
            refine h4 (List.mem_of_getElem? (i := k) ?_)
            rw [List.getElem?_take, if_pos h, List.getElem?_eq_getElem hlt, hc]
        subst hik
        rw [h1, if_neg (by omega), Int.toNat_natCast]
    · rw [show (((s[k].toNat : Nat) : Int) == ((c.toNat : Nat) : Int)) = false by
        rw [beq_eq_false_iff_ne]
        intro e
        exact hc (UInt8.toNat_inj.1 (by omega))]
      refine ih (k + 1) f (by omega) (by omega) (by omega) ?_
      rw [List.take_succ_eq_append_getElem hlt, List.mem_append, List.mem_singleton]
      rintro (h | h)
      · exact hn h
      · exact hc h.symm
theorem rCut (c : UInt8) (s : List UInt8) (hs : s.length ≤ 9000) : Ni s c = some (Ef c s) := by
  unfold Ni
  exact rCut_loop c s hs s.length 0 Y1 (by omega) (by omega) (by rw [Cs]; omega) (by simp)
def finA (st : Option (Nat × Nat)) : Option Nat := match st with | none => none | some (a, m) => if m = 4 then some a else none
theorem K1 (s : List UInt8) : Rb s = finA ((Va 46 s).foldl X3 (some (0, 0))) := rfl
theorem H0 (ps : List (List UInt8)) : finA (ps.foldl X3 none) = none := by rw [Dc]; rfl
theorem K2 {a m : Nat} {p : List UInt8} (h : Qj p = none) : X3 (some (a, m)) p = none := by simp only [X3, h]
theorem Ml {a m n : Nat} {p : List UInt8} (h : Qj p = some n) (hn : 255 < n) : X3 (some (a, m)) p = none := by simp only [X3, h, if_pos (Or.inl hn : 255 < n ∨ 4 ≤ m)]
theorem step_many {a m : Nat} {p : List UInt8} (hm : 4 ≤ m) : X3 (some (a, m)) p = none := by
  unfold X3
  cases Qj p with
  | none => rfl
  | some n => exact if_pos (Or.inr hm)
theorem Bj {a m n : Nat} {p : List UInt8} (h : Qj p = some n) (hn : n ≤ 255) (hm : m < 4) : X3 (some (a, m)) p = some (a * 256 + n, m + 1) := by simp only [X3, h, if_neg (by omega : ¬ (255 < n ∨ 4 ≤ m))]
theorem M9 : ∀ (d i f a : Nat) (v : List UInt8), d = 4 - i → i ≤ 3 → d < f → a < 256 ^ i → v.length ≤ 9000 → Xa f v (a : Int) (i : Int) = some (B9 (finA ((Va 46 v).foldl X3 (some (a, i))))) := by
  intro d
  induction d with
  | zero => intro i f a v hd hi; omega
  | succ d ih =>
    intro i f a v hd hi hf ha hv
    obtain ⟨f, rfl⟩ : ∃ g, f = g + 1 := ⟨f - 1, by omega⟩
    show Ja (Xa f) v (a : Int) (i : Int) = _
    unfold Ja Yf
    rw [show decide ((i : Int) < 4) = true by simp; omega, rCut 46 v hv]
    simp only [cond_true, Option.bind_some]
    have hp3 : a < 16777216 := by
      have h3 := Nat.pow_le_pow_right (show 0 < 256 by omega) hi
      have h6 : (256 : Nat) ^ 3 = 16777216 := by decide
      omega
    have wa : ∀ n : Nat, n ≤ 255 → IntKind.wrap .u32 (IntKind.wrap .u32 (256 * (a : Int)) + IntKind.wrap .u32 ((n : Nat) : Int)) = ((a * 256 + n : Nat) : Int) := fun n hn => by
      rw [Lz, Lz, Lz]; omega
    have w4 : IntKind.wrap .i64 ((i : Int) + 1) = ((i + 1 : Nat) : Int) := by rw [Z2 (by omega)]; omega
    have d3 : decide ((i : Int) < 3) = decide (i < 3) := by rw [decide_eq_decide]; omega
    unfold Ef
    rcases Yj 46 v with ⟨h1, h2, _⟩ | ⟨k, h1, h2, h3, h4, h5⟩
    · rw [h1, h2]
      simp only [show ((-1 : Int) < 0) from by omega, if_true, Ht v (by unfold maxLen; omega), Option.bind_some, List.foldl_cons, List.foldl_nil, d3, w4]
      rcases Option.eq_none_or_eq_some (Qj v) with hp | ⟨n, hp⟩
      · rw [K2 hp, show (Qq (Qj v)).2 = false by rw [hp]; rfl]
        rfl
      · rw [show decide ((Qq (Qj v)).1 > 255) = decide (255 < n) by rw [decide_eq_decide, hp]; show ((n : Int) > 255) ↔ _; omega, show (Qq (Qj v)).2 = true by rw [hp]; rfl, show (Qq (Qj v)).1 = (n : Int) by rw [hp]; rfl]
        simp only [Bool.not_true, cond_false]
        by_cases hn : 255 < n
        · rw [Ml hp hn, decide_eq_true hn]
          rfl
        · rw [Bj hp (by omega) (by omega), decide_eq_false hn, wa n (by omega)]
          by_cases hi3 : i < 3
          · rw [decide_eq_true hi3]
            simp only [finA, if_neg (show ¬ i + 1 = 4 by omega)]
            rfl
          · rw [decide_eq_false hi3]
            have hi4 : i = 3 := by omega
            subst hi4
            simp only [finA, if_true]
            obtain ⟨f, rfl⟩ : ∃ g, f = g + 1 := ⟨f - 1, by omega⟩
            rfl
    · rw [h1, h5]
      have hk0 : ¬ ((k : Int) < 0) := by omega
      have htl : (v.take k).length ≤ maxLen := by unfold maxLen; rw [List.length_take]; omega
      simp only [hk0, if_false, Int.toNat_natCast, Ht (v.take k) htl, Option.bind_some, List.foldl_cons, d3, w4]
      rcases Option.eq_none_or_eq_some (Qj (v.take k)) with hp | ⟨n, hp⟩
      · rw [K2 hp, H0, show (Qq (Qj (v.take k))).2 = false by rw [hp]; rfl]
        rfl
      · rw [show decide ((Qq (Qj (v.take k))).1 > 255) = decide (255 < n) by rw [decide_eq_decide, hp]; show ((n : Int) > 255) ↔ _; omega, show (Qq (Qj (v.take k))).2 = true by rw [hp]; rfl, show (Qq (Qj (v.take k))).1 = (n : Int) by rw [hp]; rfl]
        simp only [Bool.not_true, cond_false]
        by_cases hn : 255 < n
        · rw [Ml hp hn, H0, decide_eq_true hn]
          rfl
        · rw [Bj hp (by omega) (by omega), decide_eq_false hn, wa n (by omega)]
          by_cases hi3 : i < 3
          · rw [decide_eq_true hi3]
            exact ih (i + 1) f (a * 256 + n) (v.drop (k + 1)) (by omega) (by omega) (by omega) (by rw [Nat.pow_succ]; omega) (by rw [List.length_drop]; omega)
          · rw [decide_eq_false hi3]
            have hi4 : i = 3 := by omega
            subst hi4
            cases hsp : Va 46 (v.drop (k + 1)) with
            | nil => exact absurd hsp (Nx _ _)
            | cons q qs =>
              rw [List.foldl_cons, step_many (by omega), H0]
              rfl
theorem rAddr (s : List UInt8) (hs : s.length ≤ 9000) : Uu s = some (B9 (Rb s)) := by
  unfold Uu
  rw [K1]
  exact M9 4 0 Y1 0 s (by omega) (by omega) (by rw [Cs]; omega) (by decide) hs
theorem cutL_len (c : UInt8) (s : List UInt8) : (Ef c s).1.length ≤ s.length ∧ (Ef c s).2.1.length ≤ s.length := by
  unfold Ef
  split
  · simp
  · simp only [List.length_take, List.length_drop]; omega
theorem Di (c : UInt8) : ∀ (x r : List UInt8), c ∉ x → Va c (x ++ c :: r) = x :: Va c r
  | [], r, _ => by simp [Va]
  | y :: x, r, h => by
    have hy : y ≠ c := fun e => h (by simp [e])
    have ih := Di c x r (fun hm => h (by simp [hm]))
    rw [List.cons_append]
    conv => lhs; unfold Va
    rw [if_neg hy, ih]
theorem Eb (c : UInt8) : ∀ (x : List UInt8), c ∉ x → Va c x = [x]
  | [], _ => rfl
  | y :: x, h => by
    have hy : y ≠ c := fun e => h (by simp [e])
    have ih := Eb c x (fun hm => h (by simp [hm]))
    unfold Va
    rw [if_neg hy, ih]
def G3 (c : UInt8) : List (List UInt8) → List UInt8
  | [] => []
  | [p] => p
  | p :: q :: ps => p ++ c :: G3 c (q :: ps)
theorem Iq (c : UInt8) : ∀ s : List UInt8, G3 c (Va c s) = s
  | [] => rfl
  | x :: r => by
    have ih := Iq c r
    unfold Va
    by_cases h : x = c
    · rw [if_pos h]
      cases hs : Va c r with
      | nil => exact absurd hs (Nx c r)
      | cons p ps => rw [hs] at ih; show [] ++ c :: G3 c (p :: ps) = _; rw [ih, h]; rfl
    · rw [if_neg h]
      cases hs : Va c r with
      | nil => exact absurd hs (Nx c r)
      | cons p ps =>
        rw [hs] at ih
        simp only
        cases ps with
        | nil => rw [← ih]; rfl
        | cons q qs => rw [← ih]; rfl
theorem Ir {n : Nat} {c : UInt8} (hc : R7 c = false) : c ∉ decDigits n := fun h => by
  have := dec_all n
  rw [List.all_eq_true] at this
  rw [this c h] at hc
  cases hc
theorem Oa (a : Nat) : Va 46 (Cl a) = [decDigits (a / 16777216 % 256), decDigits (a / 65536 % 256), decDigits (a / 256 % 256), decDigits (a % 256)] := by
  unfold Cl
  rw [Di 46 _ _ (Ir (by decide)), Di 46 _ _ (Ir (by decide)), Di 46 _ _ (Ir (by decide)), Eb 46 _ (Ir (by decide))]
theorem addr_dots {a : Nat} (ha : a < 4294967296) : Rb (Cl a) = some a := by
  rw [K1, Oa]
  have p : ∀ n : Nat, n < 256 → Qj (decDigits n) = some n := fun n hn => Kw (by unfold G7; omega)
  simp only [List.foldl_cons, List.foldl_nil]
  rw [Bj (p (a / 16777216 % 256) (by omega)) (by omega) (by omega), Bj (p (a / 65536 % 256) (by omega)) (by omega) (by omega), Bj (p (a / 256 % 256) (by omega)) (by omega) (by omega), Bj (p (a % 256) (by omega)) (by omega) (by omega)]
  simp only [finA, if_true]
  congr 1
  omega
theorem cutL_app (c : UInt8) (x y : List UInt8) (h : c ∉ x) : Ef c (x ++ c :: y) = (x, y, true) := by
  unfold Ef
  rcases Yj c (x ++ c :: y) with ⟨_, _, h3⟩ | ⟨i, h1, h2, h3, h4, _⟩
  · exact absurd (by simp) h3
  · have hi : i = x.length := by
      rcases Nat.lt_trichotomy i x.length with h' | h' | h'
      · rw [List.getElem?_append_left h'] at h3
        exact absurd (List.mem_of_getElem? h3) h
      · exact h'
      · exfalso
        refine h4 (List.mem_of_getElem? (i := x.length) ?_)
        rw [List.getElem?_take, if_pos h']
        simp
    subst hi
    rw [h1, if_neg (by omega), Int.toNat_natCast]
    simp
theorem cutL_true {c : UInt8} {s x y : List UInt8} (h : Ef c s = (x, y, true)) : s = x ++ c :: y := by
  unfold Ef at h
  rcases Yj c s with ⟨h1, _, _⟩ | ⟨i, h1, h2, h3, _, _⟩
  · rw [h1, if_pos (by omega)] at h
    simp at h
  · rw [h1, if_neg (by omega), Int.toNat_natCast] at h
    injection h with hx h
    injection h with hy _
    subst hx hy
    have hc : s[i] = c := by rw [List.getElem?_eq_getElem h2] at h3; exact Option.some.inj h3
    rw [← hc, ← List.drop_eq_getElem_cons h2, List.take_append_drop]
end Go.Proofs.YtoflbpmbkmephaaGreatDoor
namespace Go.Proofs.YtoflbpmbkmephaaGreatDoor
open Go.RowKit
theorem byte32 (c : UInt8) : (((c.toNat : Nat) : Int) == 32) = (c == 32) := by
  by_cases h : c = 32
  · subst h; rfl
  · rw [beq_eq_false_iff_ne.2 h, beq_eq_false_iff_ne]
    intro e
    apply h
    apply UInt8.toNat_inj.1
    show c.toNat = 32
    omega
theorem H1 (c : UInt8) (s : List UInt8) (a k : Nat) (hk : k < s.length) (ha : a ≤ k) (hx : s[k] = c) (hn : c ∉ (s.take k).drop a) : Va c (s.drop a) = (s.take k).drop a :: Va c (s.drop (k + 1)) := by
  have : s.drop a = (s.take k).drop a ++ c :: s.drop (k + 1) := by
    have h1 : s = s.take k ++ s.drop k := (List.take_append_drop k s).symm
    have h2 : s.drop k = c :: s.drop (k + 1) := by rw [List.drop_eq_getElem_cons hk, hx]
    conv => lhs; rw [h1]
    rw [List.drop_append_of_le_length (by rw [List.length_take]; omega), h2]
  rw [this, Di c _ _ hn]
theorem E7 (c : UInt8) (s : List UInt8) (a k : Nat) (hk : k < s.length) (ha : a ≤ k) (hx : s[k] ≠ c) (hn : c ∉ (s.take k).drop a) : c ∉ (s.take (k + 1)).drop a := by
  rw [List.take_succ_eq_append_getElem hk, List.drop_append_of_le_length (by rw [List.length_take]; omega), List.mem_append]
  rintro (h | h)
  · exact hn h
  · exact hx (List.mem_singleton.1 h).symm
theorem L1 (s : List UInt8) (hs : s.length ≤ 9000) : ∀ (d k f a : Nat) (out : List (List UInt8)), d = s.length + 1 - k → k ≤ s.length + 1 → d < f → a ≤ k → out.length ≤ k →
    (k ≤ s.length → (32 : UInt8) ∉ (s.take k).drop a ∧ Va 32 s = out ++ Va 32 (s.drop a)) → (k = s.length + 1 → out = Va 32 s) →
    Vz s f out ((a : Nat) : Int) ((k : Nat) : Int) = some (Va 32 s) := by
  intro d
  induction d with
  | zero =>
    intro k f a out h1 h2 h3 h4 h5 h6 h7
    obtain ⟨f, rfl⟩ : ∃ g, f = g + 1 := ⟨f - 1, by omega⟩
    show Zx (Vz s f) s _ _ _ = _
    unfold Zx
    rw [show decide (((k : Nat) : Int) ≤ ((s.length : Nat) : Int)) = false by rw [decide_eq_false_iff_not]; omega, h7 (by omega)]
    rfl
  | succ d ih =>
    intro k f a out h1 h2 h3 h4 h5 h6 h7
    obtain ⟨f, rfl⟩ : ∃ g, f = g + 1 := ⟨f - 1, by omega⟩
    obtain ⟨h6, h8⟩ := h6 (by omega)
    have w1 : IntKind.wrap .i64 (((k : Nat) : Int) + 1) = ((k + 1 : Nat) : Int) := by rw [Z2 (by omega)]; omega
    show Zx (Vz s f) s _ _ _ = _
    unfold Zx
    rw [show decide (((k : Nat) : Int) ≤ ((s.length : Nat) : Int)) = true by rw [decide_eq_true_eq]; omega]
    have hsub := G5 s (i := a) (j := k) h4 (by omega)
    by_cases hk : k = s.length
    · rw [show (((k : Nat) : Int) == ((s.length : Nat) : Int)) = true by rw [beq_iff_eq]; omega]
      simp only [cond_true, Zw, hsub, Option.bind_some]
      rw [Z7 (by simp; omega), w1]
      simp only [Option.bind_some, Zv, w1]
      refine ih (k + 1) f (k + 1) _ (by omega) (by omega) (by omega) (by omega) (by simp; omega) (fun h => by omega) fun _ => ?_
      rw [h8]
      congr 1
      rw [Eb 32 (s.drop a) (by rw [hk, List.take_length] at h6; exact h6), hk, List.take_length]
    · have hlt : k < s.length := by omega
      rw [show (((k : Nat) : Int) == ((s.length : Nat) : Int)) = false by rw [beq_eq_false_iff_ne]; omega, U6 hlt]
      simp only [cond_true, cond_false, Option.bind_some, byte32]
      cases hx : (s[k] == 32) with
      | true =>
        have hx := eq_of_beq hx
        simp only [Zw, cond_true, hsub, Option.bind_some]
        rw [Z7 (by simp; omega), w1]
        simp only [Option.bind_some, Zv, w1]
        refine ih (k + 1) f (k + 1) _ (by omega) (by omega) (by omega) (by omega) (by simp; omega) (fun _ => ⟨by simp, ?_⟩) fun h => by omega
        rw [h8, H1 32 s a k hlt h4 hx h6]
        simp
      | false =>
        have hx : s[k] ≠ 32 := by simpa using hx
        simp only [Zw, cond_false, Zv, w1]
        exact ih (k + 1) f a out (by omega) (by omega) (by omega) (by omega) (by omega) (fun _ => ⟨E7 32 s a k hlt h4 hx h6, h8⟩) fun h => by omega
theorem rWords (s : List UInt8) (hs : s.length ≤ 9000) : Uc s = some (Va 32 s) :=
  L1 s hs (s.length + 1) 0 Y1 0 [] (by omega) (by omega) (by unfold Y1; omega) (by omega) (by simp) (fun _ => ⟨by simp, by simp⟩) (fun h => by omega)
end Go.Proofs.YtoflbpmbkmephaaGreatDoor
namespace Go.Proofs.YtoflbpmbkmephaaGreatDoor
open Go.RowKit
theorem Dr (c : UInt8) : ∀ s : List UInt8, (Va c s).length = s.count c + 1
  | [] => rfl
  | x :: r => by
    have ih := Dr c r
    unfold Va
    by_cases h : x = c
    · subst h
      rw [if_pos rfl, List.length_cons, ih, List.count_cons_self]
    · rw [if_neg h, List.count_cons_of_ne h]
      cases hs : Va c r with
      | nil => exact absurd hs (Nx c r)
      | cons p ps => rw [hs] at ih; simpa using ih
theorem lIndex (s : List UInt8) (c : UInt8) : Ri s [c] = some (Lib.indexByte s c) := rfl
theorem Mm {α : Type} (l : List α) (n : Nat) (x z : α) (h : 0 < n) : (l ++ List.replicate n z).set l.length x = l ++ x :: List.replicate (n - 1) z := by
  obtain ⟨m, rfl⟩ : ∃ m, n = m + 1 := ⟨n - 1, by omega⟩
  simp [List.replicate_succ]
theorem Mn {α : Type} (l : List α) (n : Nat) (z : α) (h : 0 < n) : (l ++ List.replicate n z)[l.length]? = some z := by
  obtain ⟨m, rfl⟩ : ∃ m, n = m + 1 := ⟨n - 1, by omega⟩
  simp [List.replicate_succ]
theorem split_end (done : List (List UInt8)) (r : List UInt8) (m : Nat) (hm : 0 < m) (hl : done.length + m ≤ 2000000) :
    Ya r (done ++ List.replicate m []) ((done.length : Nat) : Int) = some (done ++ [r]) := by
  unfold Ya
  rw [Er, Mn done m [] hm]
  simp only [Option.bind_some, Int.toNat_natCast]
  rw [Mm done m r [] hm, show IntKind.wrap .i64 (((done.length : Nat) : Int) + 1) = ((done.length + 1 : Nat) : Int) by rw [Z2 (by omega)]; omega]
  have := G5 (done ++ r :: List.replicate (m - 1) []) (i := 0) (j := done.length + 1) (by omega) (by simp)
  rw [show ((0 : Nat) : Int) = 0 from rfl] at this
  rw [this, List.drop_zero, show done ++ r :: List.replicate (m - 1) [] = (done ++ [r]) ++ List.replicate (m - 1) [] by simp, List.take_left' (by simp)]
  rfl
theorem Ob (s : List UInt8) (c : UInt8) (M : Int) (hs : s.length ≤ 1000000) : ∀ (m : Nat) (r : List UInt8) (done : List (List UInt8)) (f : Nat), r.length ≤ 1000000 → (Va c r).length = m → m < f → done.length + m ≤ 2000000 → M = ((done.length + m : Nat) : Int) →
    Yb s [c] 0 M f r (done ++ List.replicate m []) ((done.length : Nat) : Int) = some (done ++ Va c r) ∨ ¬ (M ≤ ((s.length : Nat) : Int) + 1) := by
  intro m
  induction m with
  | zero =>
    intro r done f hr hm
    have := Nx c r
    simp at hm
    exact absurd hm this
  | succ m ih =>
    intro r done f hr hm hf hd hM
    by_cases hle : M ≤ ((s.length : Nat) : Int) + 1
    · left
      obtain ⟨f, rfl⟩ : ∃ g, f = g + 1 := ⟨f - 1, by omega⟩
      show Y8 (Yb s [c] 0 M f) s [c] 0 M _ _ _ = _
      unfold Y8
      have hif : (if IntKind.wrap .i64 (((s.length : Nat) : Int) + 1) < M then IntKind.wrap .i64 (((s.length : Nat) : Int) + 1) else M) = M := by
        rw [Z2 (by omega), if_neg (by omega)]
      rw [hif, hM, show IntKind.wrap .i64 (((done.length + (m + 1) : Nat) : Int) - 1) = ((done.length + m : Nat) : Int) by rw [Z2 (by omega)]; omega]
      rcases Yj c r with ⟨h1, h2, h3⟩ | ⟨i, h1, h2, h3, h4, h5⟩
      · rw [h2] at hm
        have : m = 0 := by simpa using hm.symm
        subst this
        rw [show decide (((done.length : Nat) : Int) < ((done.length + 0 : Nat) : Int)) = false by rw [decide_eq_false_iff_not]; omega, h2]
        exact split_end done r 1 (by omega) (by omega)
      · rw [h5, List.length_cons] at hm
        have hm' : (Va c (r.drop (i + 1))).length = m := by omega
        have hpos : 0 < m := by
          have := Nx c (r.drop (i + 1))
          have : 0 < (Va c (r.drop (i + 1))).length := List.length_pos_iff.2 this
          omega
        rw [show decide (((done.length : Nat) : Int) < ((done.length + m : Nat) : Int)) = true by rw [decide_eq_true_eq]; omega, lIndex, h1]
        simp only [cond_true, Option.bind_some]
        rw [show decide ((i : Int) < 0) = false by rw [decide_eq_false_iff_not]; omega, Int.add_zero, E0 (by omega)]
        have s1 := G5 r (i := 0) (j := i) (by omega) (by omega)
        rw [show ((0 : Nat) : Int) = 0 from rfl] at s1
        have s2 := G5 r (i := i + 1) (j := r.length) (by omega) (by omega)
        rw [s1, Er, Mn done (m + 1) [] (by omega), show IntKind.wrap .i64 ((i : Int) + ((([c] : List UInt8).length : Nat) : Int)) = ((i + 1 : Nat) : Int) by rw [Z2 (by simp; omega)]; simp, s2]
        simp only [cond_false, Option.bind_some, Int.toNat_natCast, List.drop_zero, List.take_length]
        rw [Mm done (m + 1) _ [] (by omega), show IntKind.wrap .i64 (((done.length : Nat) : Int) + 1) = ((done.length + 1 : Nat) : Int) by rw [Z2 (by omega)]; omega]
        have := ih (r.drop (i + 1)) (done ++ [r.take i]) f (by rw [List.length_drop]; omega) hm' (by omega) (by simp; omega) (by rw [hM]; simp; omega)
        rcases this with this | this
        · rw [List.length_append, List.append_assoc] at this
          rw [show m + 1 - 1 = m by omega, h5, ← hM]
          refine Eq.trans ?_ (this.trans ?_)
          · rfl
          · simp
        · exact absurd hle this
    · exact .inr hle
theorem lSplit (s : List UInt8) (c : UInt8) (hs : s.length ≤ 1000000) : U7 s [c] = some (Va c s) := by
  unfold U7 Gh
  have hc := Dr c s
  have hcl : s.count c ≤ s.length := List.count_le_length
  simp only [Rf, Lib.countByte]
  rw [show ((-1 : Int) == 0) = false from rfl, show (([c] : List UInt8) == []) = false from rfl, show decide ((-1 : Int) < 0) = true from rfl]
  simp only [cond_false, cond_true, Option.bind_some]
  rw [show IntKind.wrap .i64 (((s.count c : Nat) : Int) + 1) = (((Va c s).length : Nat) : Int) by rw [Z2 (by omega), hc]; omega]
  unfold Y9
  have hif : (if IntKind.wrap .i64 (((s.length : Nat) : Int) + 1) < (((Va c s).length : Nat) : Int) then IntKind.wrap .i64 (((s.length : Nat) : Int) + 1) else (((Va c s).length : Nat) : Int)) = (((Va c s).length : Nat) : Int) := by
    rw [Z2 (by omega), if_neg (by omega)]
  rw [hif, show decide (0 ≤ (((Va c s).length : Nat) : Int) ∧ (((Va c s).length : Nat) : Int) ≤ 2147483648) = true by rw [decide_eq_true_eq]; omega]
  simp only [chk, Option.bind_some, Int.toNat_natCast]
  have := Ob s c (((Va c s).length : Nat) : Int) hs (Va c s).length s [] Y1 (by omega) rfl (by unfold Y1; omega) (by simp; omega) (by simp)
  rcases this with this | this
  · rw [List.nil_append, List.nil_append] at this
    rw [show ((([] : List (List UInt8)).length : Nat) : Int) = 0 from rfl] at this
    rw [this]
    rfl
  · omega
end Go.Proofs.YtoflbpmbkmephaaGreatDoor
namespace Go.Proofs.YtoflbpmbkmephaaGreatDoor
open Go.RowKit
theorem bShr_nat (k : IntKind) (a b : Nat) (hb : b ≤ k.bits) : Ia k (a : Int) (b : Int) = ((a / 2 ^ b : Nat) : Int) := by
  unfold Ia
  rw [Int.toNat_natCast, Nat.min_eq_left hb, Int.fdiv_eq_ediv_of_nonneg _ (by exact Int.le_of_lt (Int.pow_pos (by omega)))]
  have : ((2 : Int) ^ b) = ((2 ^ b : Nat) : Int) := by push_cast; rfl
  rw [this]
  rfl
theorem D4 {α : Type} (l : List α) (i : Nat) (d : α) (h : i < l.length) : idx l (i : Int) = some (l.getD i d) := by rw [U6 h]; simp [List.getD, h]
def Ry : List UInt8 := [48, 49, 50, 51, 52, 53, 54, 55, 56, 57, 97, 98, 99, 100, 101, 102]
def hexC (c : UInt8) : List UInt8 := [Ry.getD (c.toNat / 16) 0, Ry.getD (c.toNat % 16) 0]
def F8 (b : List UInt8) : List UInt8 := b.flatMap hexC
theorem Gk : ∀ b : List UInt8, (F8 b).length = 2 * b.length
  | [] => rfl
  | c :: b => by
    have := Gk b
    simp [F8, hexC] at *
    omega
theorem K3 (b : List UInt8) (c : UInt8) : F8 (b ++ [c]) = F8 b ++ hexC c := by simp [F8]
theorem K4 {α : Type} (l : List α) (i : Nat) (d : α) (h : i < l.length) : l.take (i + 1) = l.take i ++ [l.getD i d] := by
  rw [List.take_add_one, List.getElem?_eq_getElem h]
  simp [List.getD, h]
theorem hi_ref (c : UInt8) : IntKind.wrap .u8 (Int.tdiv ((c.toNat : Nat) : Int) 16) = ((c.toNat / 16 : Nat) : Int) := by
  have h := c.toNat_lt
  have := Ey c.toNat 16
  rw [show ((16 : Nat) : Int) = 16 from rfl] at this
  rw [this, wrap8]
  omega
theorem lo_ref (c : UInt8) : Int.tmod ((c.toNat : Nat) : Int) 16 = ((c.toNat % 16 : Nat) : Int) := by
  have := Ez c.toNat 16
  rw [show ((16 : Nat) : Int) = 16 from rfl] at this
  exact this
theorem hi_prog (c : UInt8) : Ia .u8 ((c.toNat : Nat) : Int) 4 = ((c.toNat / 16 : Nat) : Int) := bShr_nat .u8 c.toNat 4 (by decide)
theorem lo_prog (c : UInt8) : bAnd .u8 ((c.toNat : Nat) : Int) 15 = ((c.toNat % 16 : Nat) : Int) := by
  have h := c.toNat_lt
  unfold bAnd
  have : (BitVec.ofInt 8 ((c.toNat : Nat) : Int) &&& BitVec.ofInt 8 15).toNat = c.toNat % 16 := by
    rw [BitVec.toNat_and, BitVec.ofInt_natCast, BitVec.toNat_ofNat, Nat.mod_eq_of_lt (by omega)]
    show c.toNat &&& 15 = _
    exact Nat.and_two_pow_sub_one_eq_mod c.toNat 4
  show IntKind.wrap .u8 ((BitVec.ofInt 8 ((c.toNat : Nat) : Int) &&& BitVec.ofInt 8 15).toNat : Int) = _
  rw [this, wrap8]
  omega
theorem E8 : Ry.length = 16 := rfl
theorem K5 (b : List UInt8) (hb : b.length ≤ 1000000) : ∀ (d i f : Nat), d = b.length - i → i ≤ b.length → d < f → Xt b f (F8 (b.take i)) (i : Int) = some (F8 b) := by
  intro d
  induction d with
  | zero =>
    intro i f hd hi hf
    obtain ⟨f, rfl⟩ : ∃ g, f = g + 1 := ⟨f - 1, by omega⟩
    have : i = b.length := by omega
    subst this
    show Xs (Xt b f) b (F8 (b.take b.length)) ((b.length : Nat) : Int) = _
    unfold Xs
    rw [show decide (((b.length : Nat) : Int) < ((b.length : Nat) : Int)) = false by simp, cond_false, List.take_length]
  | succ d ih =>
    intro i f hd hi hf
    obtain ⟨f, rfl⟩ : ∃ g, f = g + 1 := ⟨f - 1, by omega⟩
    show Xs (Xt b f) b (F8 (b.take i)) (i : Int) = _
    unfold Xs
    have hl : (F8 (b.take i)).length ≤ 2000000 := by rw [Gk, List.length_take]; omega
    rw [show decide ((i : Int) < ((b.length : Nat) : Int)) = true by simp; omega, cond_true, D4 b i 0 (by omega)]
    have hlt := (b.getD i 0).toNat_lt
    have e1 : idx ([48, 49, 50, 51, 52, 53, 54, 55, 56, 57, 97, 98, 99, 100, 101, 102] : List UInt8) (((b.getD i 0).toNat / 16 : Nat) : Int) = some (Ry.getD ((b.getD i 0).toNat / 16) 0) := D4 Ry _ 0 (by rw [E8]; omega)
    have e2 : idx ([48, 49, 50, 51, 52, 53, 54, 55, 56, 57, 97, 98, 99, 100, 101, 102] : List UInt8) (((b.getD i 0).toNat % 16 : Nat) : Int) = some (Ry.getD ((b.getD i 0).toNat % 16) 0) := D4 Ry _ 0 (by rw [E8]; omega)
    simp only [Option.bind_some, hi_ref, lo_ref, e1, e2]
    rw [Z7 (by simp only [List.length_cons, List.length_nil]; omega), Option.bind_some, show ((i : Int) + 1) = ((i + 1 : Nat) : Int) by omega, E0 (by omega)]
    have := ih (i + 1) f (by omega) (by omega) (by omega)
    rw [K4 b i 0 (by omega), K3] at this
    exact this
theorem ref_hex (b : List UInt8) (hb : b.length ≤ 1000000) : Gq b = some (F8 b) := K5 b hb b.length 0 Y1 (by omega) (by omega) (by unfold Y1; omega)
def hexS (b : List UInt8) (i : Nat) : List UInt8 := F8 (b.take i) ++ List.replicate (2 * b.length - 2 * i) 0
theorem L2 (b : List UInt8) (i : Nat) (h : i ≤ b.length) : (hexS b i).length = 2 * b.length := by
  simp [hexS, Gk]
  omega
theorem hexS_next (b : List UInt8) (i : Nat) (h : i < b.length) : ((hexS b i).set (2 * i) (Ry.getD ((b.getD i 0).toNat / 16) 0)).set (2 * i + 1) (Ry.getD ((b.getD i 0).toNat % 16) 0) = hexS b (i + 1) := by
  have hl : (F8 (b.take i)).length = 2 * i := by rw [Gk, List.length_take]; omega
  unfold hexS
  rw [show 2 * b.length - 2 * i = (2 * b.length - 2 * (i + 1)) + 1 + 1 by omega, List.replicate_succ, List.replicate_succ]
  rw [List.set_append_right _ _ (by omega), List.set_append_right _ _ (by omega), hl, Nat.sub_self, show 2 * i + 1 - 2 * i = 1 by omega]
  rw [K4 b i 0 h, K3]
  simp [hexC]
theorem I8 (b : List UInt8) (hb : b.length ≤ 1000000) : ∀ (d i f : Nat), d = b.length - i → i ≤ b.length → d < f → J6 b f (hexS b i) (i : Int) = some (F8 b) := by
  intro d
  induction d with
  | zero =>
    intro i f hd hi hf
    obtain ⟨f, rfl⟩ : ∃ g, f = g + 1 := ⟨f - 1, by omega⟩
    have : i = b.length := by omega
    subst this
    show J5 (J6 b f) b (hexS b b.length) ((b.length : Nat) : Int) = _
    unfold J5
    rw [show decide (((b.length : Nat) : Int) < ((b.length : Nat) : Int)) = false by simp, cond_false]
    unfold hexS
    rw [List.take_length, Nat.sub_self]
    simp
  | succ d ih =>
    intro i f hd hi hf
    obtain ⟨f, rfl⟩ : ∃ g, f = g + 1 := ⟨f - 1, by omega⟩
    show J5 (J6 b f) b (hexS b i) (i : Int) = _
    unfold J5
    have hl := L2 b i (by omega)
    rw [show decide ((i : Int) < ((b.length : Nat) : Int)) = true by simp; omega, cond_true, D4 b i 0 (by omega)]
    have hlt := (b.getD i 0).toNat_lt
    have e1 : idx ([48, 49, 50, 51, 52, 53, 54, 55, 56, 57, 97, 98, 99, 100, 101, 102] : List UInt8) (((b.getD i 0).toNat / 16 : Nat) : Int) = some (Ry.getD ((b.getD i 0).toNat / 16) 0) := D4 Ry _ 0 (by rw [E8]; omega)
    have e2 : idx ([48, 49, 50, 51, 52, 53, 54, 55, 56, 57, 97, 98, 99, 100, 101, 102] : List UInt8) (((b.getD i 0).toNat % 16 : Nat) : Int) = some (Ry.getD ((b.getD i 0).toNat % 16) 0) := D4 Ry _ 0 (by rw [E8]; omega)
    have w2 : IntKind.wrap .i64 (2 * (i : Int)) = ((2 * i : Nat) : Int) := by rw [show (2 * (i : Int)) = ((2 * i : Nat) : Int) by omega, E0 (by omega)]
    have w3 : IntKind.wrap .i64 (((2 * i : Nat) : Int) + 1) = ((2 * i + 1 : Nat) : Int) := by rw [show (((2 * i : Nat) : Int) + 1) = ((2 * i + 1 : Nat) : Int) by omega, E0 (by omega)]
    have w4 : IntKind.wrap .i64 ((i : Int) + 1) = ((i + 1 : Nat) : Int) := by rw [show ((i : Int) + 1) = ((i + 1 : Nat) : Int) by omega, E0 (by omega)]
    simp only [Option.bind_some, hi_prog, lo_prog, e1, e2, w2, w3, w4]
    rw [D4 _ (2 * i) 0 (by omega), Option.bind_some, D4 _ (2 * i + 1) 0 (by simp; omega), Option.bind_some, Int.toNat_natCast, Int.toNat_natCast, hexS_next b i (by omega)]
    exact ih (i + 1) f (by omega) (by omega) (by omega)
theorem prog_hex (b : List UInt8) (hb : b.length ≤ 1000000) : R4 b = some (F8 b) := by
  unfold R4
  rw [show (2 * ((b.length : Nat) : Int)) = ((2 * b.length : Nat) : Int) by omega, E0 (by omega), show decide (0 ≤ ((2 * b.length : Nat) : Int) ∧ ((2 * b.length : Nat) : Int) ≤ 2147483648) = true from decide_eq_true ⟨by omega, by omega⟩]
  simp only [chk, Option.bind_some, Int.toNat_natCast]
  have := I8 b hb b.length 0 Y1 (by omega) (by omega) (by unfold Y1; omega)
  have h0 : hexS b 0 = List.replicate (2 * b.length) 0 := by simp [hexS, F8]
  rw [h0] at this
  exact this
def Ib (c : UInt8) : Option Nat := if 48 ≤ c.toNat ∧ c.toNat ≤ 57 then some (c.toNat - 48) else if 97 ≤ c.toNat ∧ c.toNat ≤ 102 then some (c.toNat - 87) else none
def Uz : List UInt8 → Option (List UInt8)
  | [] => some []
  | [_] => none
  | a :: b :: r => match Ib a, Ib b with
    | some x, some y => (Uz r).map fun l => UInt8.ofNat (16 * x + y) :: l
    | _, _ => none
def Mo (x : Option (List UInt8)) : List UInt8 × Bool := match x with | none => ([], false) | some l => (l, true)
theorem of_fin {p : UInt8 → Prop} (h : ∀ n : Fin 256, p (UInt8.ofNat n.val)) (c : UInt8) : p c := by
  have e := h ⟨c.toNat, c.toNat_lt⟩
  have : UInt8.ofNat c.toNat = c := by simp
  rwa [this] at e
theorem Fm {c : UInt8} {x : Nat} (h : Ib c = some x) : x < 16 := by
  unfold Ib at h
  split at h
  · injection h with h; omega
  · split at h
    · injection h with h; omega
    · cases h
theorem ix_dig (c : UInt8) : Lib.indexByte Ry c = match Ib c with | some x => (x : Int) | none => -1 :=
  of_fin (p := fun c => Lib.indexByte Ry c = match Ib c with | some x => (x : Int) | none => -1) (by decide +kernel) c
theorem ref_digit (c : UInt8) : Y0 c = some (match Ib c with | some x => UInt8.ofNat x | none => 16) :=
  of_fin (p := fun c => Y0 c = some (match Ib c with | some x => UInt8.ofNat x | none => 16)) (by decide +kernel) c
theorem I9 {x : Nat} (h : x < 16) : Ib (Ry.getD x 0) = some x := (by decide +kernel : ∀ n : Fin 16, Ib (Ry.getD n.val 0) = some n.val) ⟨x, h⟩
theorem hex_dig (c : UInt8) : ∀ x, Ib c = some x → Ry.getD x 0 = c :=
  fun x h => by
    have := of_fin (p := fun c => ((Ib c).map fun x => Ry.getD x 0) = (Ib c).map fun _ => c) (by decide +kernel) c
    rw [h] at this
    exact Option.some.inj this
theorem hex_pair {x y : Nat} (hx : x < 16) (hy : y < 16) : hexC (UInt8.ofNat (16 * x + y)) = [Ry.getD x 0, Ry.getD y 0] :=
  (by decide +kernel : ∀ n m : Fin 16, hexC (UInt8.ofNat (16 * n.val + m.val)) = [Ry.getD n.val 0, Ry.getD m.val 0]) ⟨x, hx⟩ ⟨y, hy⟩
theorem pair_hex (c : UInt8) : UInt8.ofNat (16 * (c.toNat / 16) + c.toNat % 16) = c := by
  rw [Nat.div_add_mod]
  simp
theorem K6 : ∀ b : List UInt8, Uz (F8 b) = some b
  | [] => rfl
  | c :: b => by
    have hl := c.toNat_lt
    show Uz (Ry.getD (c.toNat / 16) 0 :: Ry.getD (c.toNat % 16) 0 :: F8 b) = _
    simp only [Uz, I9 (show c.toNat / 16 < 16 by omega), I9 (show c.toNat % 16 < 16 by omega), K6 b, Option.map_some, pair_hex]
theorem Fn : ∀ {s b : List UInt8}, Uz s = some b → F8 b = s
  | [], b, h => by injection h with h; subst h; rfl
  | [_], b, h => by cases h
  | a :: c :: r, b, h => by
    simp only [Uz] at h
    cases hx : Ib a with
    | none => rw [hx] at h; cases h
    | some x =>
      cases hy : Ib c with
      | none => rw [hx, hy] at h; cases h
      | some y =>
        rw [hx, hy] at h
        simp only [Option.map_eq_some_iff] at h
        obtain ⟨l, hl, rfl⟩ := h
        show hexC _ ++ F8 l = _
        rw [hex_pair (Fm hx) (Fm hy), Fn hl, hex_dig a x hx, hex_dig c y hy]
        rfl
theorem Oc {s b : List UInt8} (h : Uz s = some b) : s.length = 2 * b.length := by rw [← Fn h, Gk]
theorem Is {s : List UInt8} (h : s.length % 2 = 1) : Uz s = none := by
  cases hu : Uz s with
  | none => rfl
  | some b => have := Oc hu; omega
theorem set_mid {α : Type} (l r : List α) (x y : α) (k : Nat) (h : l.length = k) : (l ++ x :: r).set k y = l ++ y :: r := by
  subst h
  simp
theorem get_mid {α : Type} (l r : List α) (x : α) (k : Nat) (h : l.length = k) : (l ++ x :: r)[k]? = some x := by
  subst h
  simp
theorem Mp {α : Type} {l : List α} {i : Nat} (h : i + 1 < l.length) : l.drop i = l[i] :: l[i + 1] :: l.drop (i + 2) := by
  rw [List.drop_eq_getElem_cons (by omega), List.drop_eq_getElem_cons h]
theorem or_hi {x : Nat} (hx : x < 16) : B6 (bOr .u8 (Oi .u8 (((0 : UInt8).toNat : Nat) : Int) 4) (IntKind.wrap .u8 (x : Int))) = UInt8.ofNat x :=
  (by decide +kernel : ∀ n : Fin 16, B6 (bOr .u8 (Oi .u8 (((0 : UInt8).toNat : Nat) : Int) 4) (IntKind.wrap .u8 ((n.val : Nat) : Int))) = UInt8.ofNat n.val) ⟨x, hx⟩
theorem or_lo {x y : Nat} (hx : x < 16) (hy : y < 16) : B6 (bOr .u8 (Oi .u8 (((UInt8.ofNat x).toNat : Nat) : Int) 4) (IntKind.wrap .u8 (y : Int))) = UInt8.ofNat (16 * x + y) :=
  (by decide +kernel : ∀ n m : Fin 16, B6 (bOr .u8 (Oi .u8 (((UInt8.ofNat n.val).toNat : Nat) : Int) 4) (IntKind.wrap .u8 ((m.val : Nat) : Int))) = UInt8.ofNat (16 * n.val + m.val)) ⟨x, hx⟩ ⟨y, hy⟩
theorem H2 (s : List UInt8) (hs : s.length ≤ 1000000) : ∀ (n k f : Nat) (dec : List UInt8), s.length = 2 * k + 2 * n → dec.length = k → 2 * n < f →
    Yc s f (dec ++ List.replicate n 0) ((2 * k : Nat) : Int) = some (match Uz (s.drop (2 * k)) with | some l => (dec ++ l, true) | none => ([], false)) := by
  intro n
  induction n with
  | zero =>
    intro k f dec h1 h2 h3
    obtain ⟨f, rfl⟩ : ∃ g, f = g + 1 := ⟨f - 1, by omega⟩
    show Xg (Yc s f) s _ _ = _
    unfold Xg
    rw [show decide (((2 * k : Nat) : Int) < ((s.length : Nat) : Int)) = false by rw [decide_eq_false_iff_not]; omega, List.drop_of_length_le (by omega)]
    simp [Uz]
  | succ n ih =>
    intro k f dec h1 h2 h3
    obtain ⟨f, rfl⟩ : ∃ g, f = g + 1 + 1 := ⟨f - 2, by omega⟩
    have t0 : IntKind.wrap .i64 (Int.tdiv ((2 * k : Nat) : Int) 2) = (k : Int) := by
      have := Ey (2 * k) 2
      rw [show ((2 : Nat) : Int) = 2 from rfl] at this
      rw [this, show 2 * k / 2 = k by omega]
      exact E0 (by omega)
    have t1 : IntKind.wrap .i64 (Int.tdiv ((2 * k + 1 : Nat) : Int) 2) = (k : Int) := by
      have := Ey (2 * k + 1) 2
      rw [show ((2 : Nat) : Int) = 2 from rfl] at this
      rw [this, show (2 * k + 1) / 2 = k by omega]
      exact E0 (by omega)
    have w0 : IntKind.wrap .i64 (((2 * k : Nat) : Int) + 1) = ((2 * k + 1 : Nat) : Int) := by rw [Z2 (by omega)]; omega
    have w1 : IntKind.wrap .i64 (((2 * k + 1 : Nat) : Int) + 1) = ((2 * (k + 1) : Nat) : Int) := by rw [Z2 (by omega)]; omega
    have i0 : idx s ((2 * k : Nat) : Int) = some (s[2 * k]'(by omega)) := U6 (by omega)
    have i1 : idx s ((2 * k + 1 : Nat) : Int) = some (s[2 * k + 1]'(by omega)) := U6 (by omega)
    have e0 : ∀ (x : UInt8) (r : List UInt8), idx (dec ++ x :: r) (k : Int) = some x := fun x r => by rw [Er]; exact get_mid dec r x k h2
    rw [Mp (show 2 * k + 1 < s.length by omega)]
    show Xg (Yc s (f + 1)) s _ _ = _
    unfold Xg
    rw [show decide (((2 * k : Nat) : Int) < ((s.length : Nat) : Int)) = true by rw [decide_eq_true_eq]; omega, i0, t0, w0]
    simp only [cond_true, Option.bind_some, J4]
    rw [show Lib.indexByte [48, 49, 50, 51, 52, 53, 54, 55, 56, 57, 97, 98, 99, 100, 101, 102] (s[2 * k]'(by omega)) = _ from ix_dig _]
    cases ha : Ib (s[2 * k]'(by omega)) with
    | none => simp [Uz, ha]
    | some x =>
      have hx := Fm ha
      rw [show decide ((x : Int) < 0) = false by rw [decide_eq_false_iff_not]; omega, show List.replicate (n + 1) (0 : UInt8) = 0 :: List.replicate n 0 from rfl]
      simp only [cond_false, e0, Option.bind_some, Int.toNat_natCast]
      rw [set_mid dec _ _ _ k h2, or_hi hx]
      show Xg (Yc s f) s _ _ = _
      unfold Xg
      rw [show decide (((2 * k + 1 : Nat) : Int) < ((s.length : Nat) : Int)) = true by rw [decide_eq_true_eq]; omega, i1, t1, w1]
      simp only [cond_true, Option.bind_some, J4]
      rw [show Lib.indexByte [48, 49, 50, 51, 52, 53, 54, 55, 56, 57, 97, 98, 99, 100, 101, 102] (s[2 * k + 1]'(by omega)) = _ from ix_dig _]
      cases hb : Ib (s[2 * k + 1]'(by omega)) with
      | none => simp [Uz, ha, hb]
      | some y =>
        have hy := Fm hb
        rw [show decide ((y : Int) < 0) = false by rw [decide_eq_false_iff_not]; omega]
        simp only [cond_false, e0, Option.bind_some, Int.toNat_natCast]
        rw [set_mid dec _ _ _ k h2, or_lo hx hy]
        have := ih (k + 1) f (dec ++ [UInt8.ofNat (16 * x + y)]) (by omega) (by simp [h2]) (by omega)
        rw [List.append_assoc, List.singleton_append] at this
        rw [this, show 2 * (k + 1) = 2 * k + 2 by omega]
        simp only [Uz, ha, hb]
        cases Uz (s.drop (2 * k + 2)) <;> simp
theorem Od (s : List UInt8) (hs : s.length ≤ 1000000) : G1 s = some (Mo (Uz s)) := by
  unfold G1
  have tm := Ez s.length 2
  rw [show ((2 : Nat) : Int) = 2 from rfl] at tm
  have td := Ey s.length 2
  rw [show ((2 : Nat) : Int) = 2 from rfl] at td
  rw [tm, td, E0 (show s.length / 2 < 4611686018427387904 by omega)]
  by_cases ho : s.length % 2 = 1
  · rw [show decide (((s.length % 2 : Nat) : Int) > 0) = true by rw [decide_eq_true_eq]; omega, Is ho]
    rfl
  · rw [show decide (((s.length % 2 : Nat) : Int) > 0) = false by rw [decide_eq_false_iff_not]; omega, show decide (0 ≤ ((s.length / 2 : Nat) : Int) ∧ ((s.length / 2 : Nat) : Int) ≤ 2147483648) = true by rw [decide_eq_true_eq]; omega]
    simp only [cond_false, chk, if_true, Option.bind_some, Int.toNat_natCast]
    have := H2 s hs (s.length / 2) 0 Y1 [] (by omega) rfl (by unfold Y1; omega)
    rw [List.nil_append] at this
    refine this.trans ?_
    rw [List.drop_zero]
    cases Uz s <;> rfl
theorem Ic (s : List UInt8) (hs : s.length ≤ 1000000) : ∀ (n k f : Nat) (dec : List UInt8), s.length = 2 * k + 2 * n → dec.length = k → n < f →
    Zc s f dec ((2 * k : Nat) : Int) = some (match Uz (s.drop (2 * k)) with | some l => (dec ++ l, true) | none => ([], false)) := by
  intro n
  induction n with
  | zero =>
    intro k f dec h1 h2 h3
    obtain ⟨f, rfl⟩ : ∃ g, f = g + 1 := ⟨f - 1, by omega⟩
    show Zu (Zc s f) s _ _ = _
    unfold Zu
    rw [show decide (((2 * k : Nat) : Int) < ((s.length : Nat) : Int)) = false by rw [decide_eq_false_iff_not]; omega, List.drop_of_length_le (by omega)]
    simp [Uz]
  | succ n ih =>
    intro k f dec h1 h2 h3
    obtain ⟨f, rfl⟩ : ∃ g, f = g + 1 := ⟨f - 1, by omega⟩
    have w0 : IntKind.wrap .i64 (((2 * k : Nat) : Int) + 1) = ((2 * k + 1 : Nat) : Int) := by rw [Z2 (by omega)]; omega
    have w2 : IntKind.wrap .i64 (((2 * k : Nat) : Int) + 2) = ((2 * (k + 1) : Nat) : Int) := by rw [Z2 (by omega)]; omega
    have i0 : idx s ((2 * k : Nat) : Int) = some (s[2 * k]'(by omega)) := U6 (by omega)
    have i1 : idx s ((2 * k + 1 : Nat) : Int) = some (s[2 * k + 1]'(by omega)) := U6 (by omega)
    rw [Mp (show 2 * k + 1 < s.length by omega)]
    show Zu (Zc s f) s _ _ = _
    unfold Zu
    rw [show decide (((2 * k : Nat) : Int) < ((s.length : Nat) : Int)) = true by rw [decide_eq_true_eq]; omega, i0, w0, i1]
    simp only [cond_true, Option.bind_some, ref_digit]
    have small : ∀ {z : Nat}, z < 16 → decide ((((UInt8.ofNat z).toNat : Nat) : Int) > 15) = false := fun {z} hz => by
      have : (UInt8.ofNat z).toNat = z := by simp; omega
      rw [this, decide_eq_false_iff_not]; omega
    have big : decide ((((16 : UInt8).toNat : Nat) : Int) > 15) = true := rfl
    cases ha : Ib (s[2 * k]'(by omega)) with
    | none =>
      simp only [big, cond_true, Zt, Uz, ha]
    | some x =>
      have hx := Fm ha
      simp only [small hx, cond_false]
      cases hb : Ib (s[2 * k + 1]'(by omega)) with
      | none => simp only [big, cond_true, Zt, Uz, ha, hb]
      | some y =>
        have hy := Fm hb
        have hv : B6 (IntKind.wrap .u8 (IntKind.wrap .u8 (16 * (((UInt8.ofNat x).toNat : Nat) : Int)) + (((UInt8.ofNat y).toNat : Nat) : Int))) = UInt8.ofNat (16 * x + y) :=
          (by decide +kernel : ∀ n m : Fin 16, B6 (IntKind.wrap .u8 (IntKind.wrap .u8 (16 * (((UInt8.ofNat n.val).toNat : Nat) : Int)) + (((UInt8.ofNat m.val).toNat : Nat) : Int))) = UInt8.ofNat (16 * n.val + m.val)) ⟨x, hx⟩ ⟨y, hy⟩
        simp only [small hy, cond_false, Zt, hv]
        rw [Z7 (by simp only [List.length_cons, List.length_nil]; omega), w2]
        simp only [Option.bind_some]
        have := ih (k + 1) f (dec ++ [UInt8.ofNat (16 * x + y)]) (by omega) (by simp [h2]) (by omega)
        rw [this, show 2 * (k + 1) = 2 * k + 2 by omega]
        simp only [Uz, ha, hb]
        cases Uz (s.drop (2 * k + 2)) <;> simp
theorem ref_unhex (s : List UInt8) (hs : s.length ≤ 1000000) : Ub s = some (Mo (Uz s)) := by
  unfold Ub
  have tm := Ez s.length 2
  rw [show ((2 : Nat) : Int) = 2 from rfl] at tm
  rw [tm]
  by_cases ho : s.length % 2 = 1
  · rw [ho, Is ho]
    rfl
  · rw [show (((s.length % 2 : Nat) : Int) == 1) = false by rw [beq_eq_false_iff_ne]; omega]
    have := Ic s hs (s.length / 2) 0 Y1 [] (by omega) rfl (by unfold Y1; omega)
    simp only [cond_false]
    refine this.trans ?_
    rw [Nat.mul_zero, List.drop_zero]
    cases Uz s <;> rfl
end Go.Proofs.YtoflbpmbkmephaaGreatDoor
namespace Go.Proofs.YtoflbpmbkmephaaGreatDoor
open Go.RowKit
open Go.Lib (decDigits)
def unb (w : Str) : Option Str := if w = [45] then some [] else match Uz w with | some b => if b = [] then none else some b | none => none
def Rs (x : Option Str) : Str × Bool := match x with | none => ([], false) | some b => (b, true)
def Nj (s : Str) : Str := if s = [] then [45] else F8 s
theorem lUnb (w : Str) (h : w.length ≤ 1000000) : Um w = some (Rs (unb w)) := by
  unfold Um unb
  by_cases hw : w = [45]
  · rw [if_pos hw, hw]; rfl
  · rw [if_neg hw, beq_eq_false_iff_ne.2 hw, Od w h]
    simp only [cond_false, Option.bind_some]
    cases Uz w with
    | none => rfl
    | some b =>
      cases b with
      | nil => rfl
      | cons x r => simp [Mo, J8, Rs]
theorem lBytes (s : Str) (h : s.length ≤ 1000000) : Y3 s = some (Nj s) := by
  unfold Y3 Nj
  by_cases hs : s = []
  · rw [if_pos hs, hs]; rfl
  · rw [if_neg hs, beq_eq_false_iff_ne.2 hs, prog_hex s h, Nat.ble_eq_true_of_le (show s.length ≤ 281474976710656 by omega)]
    rfl
theorem lAddrW (s : Str) (h : s.length ≤ 1000000) : Rh s = some (B9 (Rb s)) := by
  unfold Rh
  rw [Nat.ble_eq_true_of_le (show s.length ≤ 2147483648 by omega)]
  rfl
theorem lNameW (s : Str) (h : s.length ≤ 1000000) : Ur s = some (Uy s) := by
  by_cases h9 : s.length ≤ 9000
  · exact lName s h9
  · unfold Ur X4 Uy
    have hne : (s == ([] : List UInt8)) = false := by rw [beq_eq_false_iff_ne]; intro e; subst e; simp at h9
    rw [hne, show decide (((List.length s : Nat) : Int) ≤ 20) = false from decide_eq_false (by omega), show decide (s.length ≤ 20) = false from decide_eq_false (by omega)]
    simp
theorem Eu (q : List Str) (b : Bool) : Ve q b = some (q.headD [], q.tail, b || q.isEmpty) := by
  cases q with
  | nil => simp [Ve]
  | cons x r =>
    unfold Ve
    have s2 := G5 (x :: r) (i := 1) (j := (x :: r).length) (by simp) (by omega)
    rw [show ((((x :: r).length : Nat) : Int) == 0) = false by rw [beq_eq_false_iff_ne]; simp; omega]
    rw [show ((1 : Nat) : Int) = 1 from rfl] at s2
    rw [s2]
    simp [idx]
theorem E9 (q : List Str) (b : Bool) (h : ∀ w ∈ q, w.length ≤ 1000000) : Vd q b = some ((Qq (Qj (q.headD []))).1, q.tail, (b || q.isEmpty) || !(Qq (Qj (q.headD []))).2) := by
  have hl : (q.headD []).length ≤ 2147483648 := by
    cases q with
    | nil => simp
    | cons x r => have := h x (by simp); simp; omega
  unfold Vd
  rw [Eu]
  simp only [Option.bind_some, lParse _ hl, Nr, Ys]
  cases (b || q.isEmpty) <;> rfl
theorem sr_addr (q : List Str) (b : Bool) (h : ∀ w ∈ q, w.length ≤ 1000000) : Jm q b = some ((B9 (Rb (q.headD []))).1, q.tail, (b || q.isEmpty) || !(B9 (Rb (q.headD []))).2) := by
  have hl : (q.headD []).length ≤ 1000000 := by
    cases q with
    | nil => simp
    | cons x r => exact h x (by simp)
  unfold Jm
  rw [Eu]
  simp only [Option.bind_some, lAddrW _ hl, U5, Yl]
  cases (b || q.isEmpty) <;> rfl
theorem L3 (q : List Str) (b : Bool) (h : ∀ w ∈ q, w.length ≤ 1000000) : Xp q b = some (q.headD [], q.tail, (b || q.isEmpty) || !(Uy (q.headD []))) := by
  have hl : (q.headD []).length ≤ 1000000 := by
    cases q with
    | nil => simp
    | cons x r => exact h x (by simp)
  unfold Xp
  rw [Eu]
  simp only [Option.bind_some, lNameW _ hl, Ym, Xh]
  cases (b || q.isEmpty) <;> rfl
theorem Hb (q : List Str) (b : Bool) (h : ∀ w ∈ q, w.length ≤ 1000000) : Zj q b = some ((Rs (unb (q.headD []))).1, q.tail, (b || q.isEmpty) || !(Rs (unb (q.headD []))).2) := by
  have hl : (q.headD []).length ≤ 1000000 := by
    cases q with
    | nil => simp
    | cons x r => exact h x (by simp)
  unfold Zj
  rw [Eu]
  simp only [Option.bind_some, lUnb _ hl, Ym, Xh]
  cases (b || q.isEmpty) <;> rfl
def gtL (n : Int) (q : List Str) : Option EvL :=
  if n = 1 then match q with | [a, d] => (Rb a).bind fun (x : Nat) => (unb d).map fun y => (1, 0, (x : Int), [], 0, [], [], y) | _ => none
  else if n = 2 then match q with | [a, c, d] => (Qj a).bind fun (x : Nat) => (unb c).bind fun z => (unb d).map fun y => (2, (x : Int), 0, z, 0, [], [], y) | _ => none
  else if n = 3 then match q with | [a, d] => (Qj a).bind fun (x : Nat) => (Qj d).map fun (y : Nat) => (3, (x : Int), 0, [], (y : Int), [], [], []) | _ => none
  else if n = 4 then match q with | [a, d] => (Qj a).bind fun (x : Nat) => (unb d).map fun y => (4, (x : Int), 0, [], 0, [], [], y) | _ => none
  else if n = 5 then match q with | [a] => (Qj a).map fun (x : Nat) => (5, (x : Int), 0, [], 0, [], [], []) | _ => none
  else if n = 6 then match q with | [a] => (Qj a).map fun (x : Nat) => (6, 0, 0, [], (x : Int), [], [], []) | _ => none
  else if n = 7 then match q with | [a, d] => if Uy a && Uy d then some (7, 0, 0, [], 0, a, d, []) else none | _ => none
  else if n = 8 then match q with | [a] => if Uy a then some (8, 0, 0, [], 0, a, [], []) else none | _ => none
  else match q with | [] => some (9, 0, 0, [], 0, [], [], []) | _ => none
def evL (ws : List Str) : Option EvL := match ws with | [] => none | w :: q => (Hy w).bind fun n => gtL n q
abbrev Ev9 := Int × Int × Int × Str × Int × Str × Str × Str × Bool
def evD (x : Option EvL) : Ev9 := match x with | none => (0, 0, 0, [], 0, [], [], [], false) | some e => (e.1, e.2.1, e.2.2.1, e.2.2.2.1, e.2.2.2.2.1, e.2.2.2.2.2.1, e.2.2.2.2.2.2.1, e.2.2.2.2.2.2.2, true)
def Mq (z : List Str × Bool × EvL) : Option Ev9 := cond z.2.1 (Yy z true) (Yy z (decide (((List.length z.1 : Nat) : Int) > 0)))
theorem Rp {q : List Str} {e : EvL} : Mq (q, true, e) = some (evD none) := rfl
theorem Dd {x : Str} {q : List Str} {e : EvL} {b : Bool} : Mq (x :: q, b, e) = some (evD none) := by
  cases b
  · show Yy _ (decide _) = _
    rw [show decide ((((x :: q).length : Nat) : Int) > 0) = true by rw [decide_eq_true_eq]; simp]
    rfl
  · rfl
theorem Fz {e : EvL} : Mq ([], false, e) = some (evD (some e)) := rfl
def kgetZ (n : Int) (q : List Str) := K0 n q false n 0 0 [] 0 [] [] []
theorem get_ev (n : Int) (hn : kin n = true) (q : List Str) (h : ∀ w ∈ q, w.length ≤ 1000000) : (kgetZ n q).bind Mq = some (evD (gtL n q)) := by
  have tl : ∀ {x : Str} {r : List Str}, q = x :: r → ∀ w ∈ r, w.length ≤ 1000000 := fun hq w hw => h w (by rw [hq]; simp [hw])
  rcases Do hn with rfl | rfl | rfl | rfl | rfl | rfl | rfl | rfl | rfl
  · show ((N0 q false 1 0 0 [] 0 [] [] []).bind Mq) = _
    unfold N0
    rw [sr_addr q false h]
    simp only [Option.bind_some]
    rw [Hb q.tail _ (fun w hw => h w (List.mem_of_mem_tail hw))]
    simp only [Option.bind_some]
    rcases q with _ | ⟨a, _ | ⟨d, _ | ⟨c, r⟩⟩⟩
    · rfl
    · simp [Rp, gtL]
    · cases ha : Rb a <;> cases hd : unb d <;> simp [ha, hd, gtL, B9, Rs, Rp, Fz]
    · simp [Dd, gtL]
  · show ((N2 q false 2 0 0 [] 0 [] [] []).bind Mq) = _
    unfold N2
    rw [E9 q false h]
    simp only [Option.bind_some]
    rw [Hb q.tail _ (fun w hw => h w (List.mem_of_mem_tail hw))]
    simp only [Option.bind_some]
    rw [Hb q.tail.tail _ (fun w hw => h w (List.mem_of_mem_tail (List.mem_of_mem_tail hw)))]
    simp only [Option.bind_some]
    rcases q with _ | ⟨a, _ | ⟨d, _ | ⟨c, _ | ⟨x, r⟩⟩⟩⟩
    · rfl
    · simp [Rp, gtL]
    · simp [Rp, gtL]
    · cases ha : Qj a <;> cases hd : unb d <;> cases hc : unb c <;> simp [ha, hd, hc, gtL, Qq, Rs, Rp, Fz]
    · simp [Dd, gtL]
  · show ((N4 q false 3 0 0 [] 0 [] [] []).bind Mq) = _
    unfold N4
    rw [E9 q false h]
    simp only [Option.bind_some]
    rw [E9 q.tail _ (fun w hw => h w (List.mem_of_mem_tail hw))]
    simp only [Option.bind_some]
    rcases q with _ | ⟨a, _ | ⟨d, _ | ⟨c, r⟩⟩⟩
    · rfl
    · simp [Rp, gtL]
    · cases ha : Qj a <;> cases hd : Qj d <;> simp [ha, hd, gtL, Qq, Rp, Fz]
    · simp [Dd, gtL]
  · show ((N6 q false 4 0 0 [] 0 [] [] []).bind Mq) = _
    unfold N6
    rw [E9 q false h]
    simp only [Option.bind_some]
    rw [Hb q.tail _ (fun w hw => h w (List.mem_of_mem_tail hw))]
    simp only [Option.bind_some]
    rcases q with _ | ⟨a, _ | ⟨d, _ | ⟨c, r⟩⟩⟩
    · rfl
    · simp [Rp, gtL]
    · cases ha : Qj a <;> cases hd : unb d <;> simp [ha, hd, gtL, Qq, Rs, Rp, Fz]
    · simp [Dd, gtL]
  · show ((U8 q false 5 0 0 [] 0 [] [] []).bind Mq) = _
    unfold U8
    rw [E9 q false h]
    simp only [Option.bind_some]
    rcases q with _ | ⟨a, _ | ⟨d, r⟩⟩
    · rfl
    · cases ha : Qj a <;> simp [ha, gtL, Qq, Rp, Fz]
    · simp [Dd, gtL]
  · show ((Na q false 6 0 0 [] 0 [] [] []).bind Mq) = _
    unfold Na
    rw [E9 q false h]
    simp only [Option.bind_some]
    rcases q with _ | ⟨a, _ | ⟨d, r⟩⟩
    · rfl
    · cases ha : Qj a <;> simp [ha, gtL, Qq, Rp, Fz]
    · simp [Dd, gtL]
  · show ((Nc q false 7 0 0 [] 0 [] [] []).bind Mq) = _
    unfold Nc
    rw [L3 q false h]
    simp only [Option.bind_some]
    rw [L3 q.tail _ (fun w hw => h w (List.mem_of_mem_tail hw))]
    simp only [Option.bind_some]
    rcases q with _ | ⟨a, _ | ⟨d, _ | ⟨c, r⟩⟩⟩
    · rfl
    · simp [Rp, gtL]
    · cases ha : Uy a <;> cases hd : Uy d <;> simp [ha, hd, gtL, Rp, Fz]
    · simp [Dd, gtL]
  · show ((Nf q false 8 0 0 [] 0 [] [] []).bind Mq) = _
    unfold Nf
    rw [L3 q false h]
    simp only [Option.bind_some]
    rcases q with _ | ⟨a, _ | ⟨d, r⟩⟩
    · rfl
    · cases ha : Uy a <;> simp [ha, gtL, Rp, Fz]
    · simp [Dd, gtL]
  · show ((some (q, false, (9 : Int), (0 : Int), (0 : Int), ([] : Str), (0 : Int), ([] : Str), ([] : Str), ([] : Str))).bind Mq) = _
    cases q with
    | nil => rfl
    | cons x r => simp only [Option.bind_some, Dd]; rfl
theorem lEvent (s : Str) (h : s.length ≤ 1000000) : Jz s = some (evD (evL (Va 32 s))) := by
  unfold Jz
  rw [lSplit s 32 h]
  simp only [Option.bind_some, Eu, Gc]
  have hl := Gn 32 s
  cases hw : Va 32 s with
  | nil => exact absurd hw (Nx 32 s)
  | cons w q =>
    rw [hw] at hl
    simp only [List.headD_cons, List.tail_cons, List.isEmpty_cons, Bool.or_false]
    show _ = some (evD ((Hy w).bind fun n => gtL n q))
    cases hk : Hy w with
    | none => rfl
    | some n =>
      show ((K0 n q false n 0 0 [] 0 [] [] []).bind Mq) = _
      have hin : kin n = true := (Lw (List.mem_of_find?_eq_some hk)).1
      have := get_ev n hin q fun x hx => by have := hl x (by simp [hx]); omega
      exact this
end Go.Proofs.YtoflbpmbkmephaaGreatDoor
namespace Go.Proofs.YtoflbpmbkmephaaGreatDoor
open Go.RowKit
open Go.Lib (decDigits)
theorem Fo (c : UInt8) : ∀ l : List (List UInt8), Lib.join l [c] = G3 c l
  | [] => rfl
  | [p] => Lib.join_one p [c]
  | p :: q :: ps => by
    have ih := Fo c (q :: ps)
    rw [Lib.join_cons] at ih ⊢
    show p ++ Lib.joinTail [c] (q :: ps) = p ++ c :: G3 c (q :: ps)
    rw [← ih]
    simp [Lib.joinTail]
theorem Fa (c : UInt8) : ∀ l : List (List UInt8), (G3 c l).length ≤ (l.map List.length).sum + l.length
  | [] => by simp [G3]
  | [p] => by simp [G3]
  | p :: q :: ps => by
    have ih := Fa c (q :: ps)
    simp only [G3, List.length_append, List.length_cons, List.map_cons, List.sum_cons] at ih ⊢
    omega
theorem It (c : UInt8) : ∀ l : List (List UInt8), l ≠ [] → (∀ w ∈ l, c ∉ w) → Va c (G3 c l) = l
  | [], h, _ => absurd rfl h
  | [p], _, h => Eb c p (h p (by simp))
  | p :: q :: ps, _, h => by
    rw [G3, Di c p _ (h p (by simp)), It c (q :: ps) (by simp) fun w hw => h w (by simp [hw])]
def Dt (n : Int) : Bool := decide (0 ≤ n) && decide (n ≤ 1099511627776)
def Gx (e : EvL) : List Str × Bool :=
  if e.1 = 1 then ([Z1 1, Cl e.2.2.1.toNat, Nj e.2.2.2.2.2.2.2], true)
  else if e.1 = 2 then ([Z1 2, Ds e.2.1, Nj e.2.2.2.1, Nj e.2.2.2.2.2.2.2], Dt e.2.1)
  else if e.1 = 3 then ([Z1 3, Ds e.2.1, Ds e.2.2.2.2.1], Dt e.2.1 && Dt e.2.2.2.2.1)
  else if e.1 = 4 then ([Z1 4, Ds e.2.1, Nj e.2.2.2.2.2.2.2], Dt e.2.1)
  else if e.1 = 5 then ([Z1 5, Ds e.2.1], Dt e.2.1)
  else if e.1 = 6 then ([Z1 6, Ds e.2.2.2.2.1], Dt e.2.2.2.2.1)
  else if e.1 = 7 then ([Z1 7, e.2.2.2.2.2.1, e.2.2.2.2.2.2.1], Uy e.2.2.2.2.2.1 && Uy e.2.2.2.2.2.2.1)
  else if e.1 = 8 then ([Z1 8, e.2.2.2.2.2.1], Uy e.2.2.2.2.2.1)
  else ([Z1 9], true)
def Cn (e : EvL) : EvL :=
  if e.1 = 1 then (1, 0, e.2.2.1, [], 0, [], [], e.2.2.2.2.2.2.2)
  else if e.1 = 2 then (2, e.2.1, 0, e.2.2.2.1, 0, [], [], e.2.2.2.2.2.2.2)
  else if e.1 = 3 then (3, e.2.1, 0, [], e.2.2.2.2.1, [], [], [])
  else if e.1 = 4 then (4, e.2.1, 0, [], 0, [], [], e.2.2.2.2.2.2.2)
  else if e.1 = 5 then (5, e.2.1, 0, [], 0, [], [], [])
  else if e.1 = 6 then (6, 0, 0, [], e.2.2.2.2.1, [], [], [])
  else if e.1 = 7 then (7, 0, 0, [], 0, e.2.2.2.2.2.1, e.2.2.2.2.2.2.1, [])
  else if e.1 = 8 then (8, 0, 0, [], 0, e.2.2.2.2.2.1, [], [])
  else (9, 0, 0, [], 0, [], [], [])
structure EvOk (e : EvL) (N : Nat) : Prop where
  addr : 0 ≤ e.2.2.1 ∧ e.2.2.1 < 4294967296
  b : e.2.2.2.1.length ≤ N
  name : e.2.2.2.2.2.1.length ≤ N
  token : e.2.2.2.2.2.2.1.length ≤ N
  draw : e.2.2.2.2.2.2.2.length ≤ N
def Id (x e : EvL) : Bool := (x.1 == e.1) && ((x.2.1 == e.2.1) && ((x.2.2.1 == e.2.2.1) && ((x.2.2.2.1 == e.2.2.2.1) && ((x.2.2.2.2.1 == e.2.2.2.2.1) && ((x.2.2.2.2.2.1 == e.2.2.2.2.2.1) && ((x.2.2.2.2.2.2.1 == e.2.2.2.2.2.2.1) && (x.2.2.2.2.2.2.2 == e.2.2.2.2.2.2.2)))))))
theorem sameE_iff {x e : EvL} : Id x e = true ↔ x = e := by
  obtain ⟨x1, x2, x3, x4, x5, x6, x7, x8⟩ := x
  obtain ⟨e1, e2, e3, e4, e5, e6, e7, e8⟩ := e
  simp [Id]
def Ie (e : EvL) : Str := if kin e.1 = true ∧ (Gx e).2 = true ∧ Id (Cn e) e = true then G3 32 (Gx e).1 else []
theorem H3 (s : Str) : unb (Nj s) = some s := by
  unfold Nj
  by_cases hs : s = []
  · rw [if_pos hs, hs]; rfl
  · rw [if_neg hs]
    unfold unb
    have hl := Gk s
    have hp : 0 < s.length := List.length_pos_iff.2 hs
    have hne : F8 s ≠ [45] := fun h => by rw [h] at hl; simp at hl; omega
    rw [if_neg hne, K6]
    simp only [if_neg hs]
theorem unb_bytes {w s : Str} (h : unb w = some s) : Nj s = w := by
  unfold unb at h
  by_cases hw : w = [45]
  · rw [if_pos hw] at h
    injection h with h
    rw [← h, hw]
    rfl
  · rw [if_neg hw] at h
    cases hu : Uz w with
    | none => rw [hu] at h; cases h
    | some b =>
      rw [hu] at h
      simp only at h
      by_cases hb : b = []
      · rw [if_pos hb] at h; cases h
      · rw [if_neg hb] at h
        injection h with h
        subst h
        unfold Nj
        rw [if_neg hb, Fn hu]
theorem hex_no {c : UInt8} (h : Ib c = none) (s : Str) : c ∉ F8 s := by
  induction s with
  | nil => simp [F8]
  | cons x s ih =>
    have hx := x.toNat_lt
    have h1 := I9 (show x.toNat / 16 < 16 by omega)
    have h2 := I9 (show x.toNat % 16 < 16 by omega)
    show c ∉ Ry.getD (x.toNat / 16) 0 :: Ry.getD (x.toNat % 16) 0 :: F8 s
    rw [List.mem_cons, List.mem_cons]
    rintro (e | e | e)
    · rw [← e, h] at h1; cases h1
    · rw [← e, h] at h2; cases h2
    · exact ih e
theorem bytes_no {c : UInt8} (h : Ib c = none) (h2 : c ≠ 45) (s : Str) : c ∉ Nj s := by
  unfold Nj
  split
  · simpa using h2
  · exact hex_no h s
theorem dec_no' {c : UInt8} (hc : R7 c = false) (n : Int) : c ∉ Ds n := by
  unfold Ds
  split
  · exact Ir hc
  · simp
theorem dots_no {c : UInt8} (hc : R7 c = false) (h : c ≠ 46) (a : Nat) : c ∉ Cl a := by
  unfold Cl
  simp only [List.mem_append, List.mem_cons]
  have := fun n => Ir (n := n) hc
  rintro (e | e | e | e | e | e | e)
  all_goals first | exact this _ e | exact h e
theorem name_no {c : UInt8} (hc : isNm c = false) {s : Str} (h : Uy s = true) : c ∉ s := by
  unfold Uy at h
  simp only [Bool.and_eq_true] at h
  have := h.1.1.2
  rw [List.all_eq_true] at this
  intro hm
  rw [this c hm] at hc
  cases hc
theorem Ec {n : Int} (h : Dt n = true) : ∃ m : Nat, Qj (Ds n) = some m ∧ (m : Int) = n := by
  unfold Dt at h
  rw [Bool.and_eq_true, decide_eq_true_eq, decide_eq_true_eq] at h
  refine ⟨n.toNat, ?_, by omega⟩
  unfold Ds
  rw [if_pos h]
  exact Kw (by unfold G7; omega)
theorem Fb {w : Str} {m : Nat} (h : Qj w = some m) : Ds (m : Int) = w ∧ Dt (m : Int) = true := by
  obtain ⟨h1, h2⟩ := dec_parse h
  unfold G7 at h2
  refine ⟨?_, ?_⟩
  · unfold Ds
    rw [if_pos (by omega), Int.toNat_natCast]
    exact h1
  · unfold Dt
    rw [decide_eq_true (by omega), decide_eq_true (by omega)]
    rfl
theorem Hc {e : EvL} (h : kin e.1 = true) : e.1 = 1 ∨ e.1 = 2 ∨ e.1 = 3 ∨ e.1 = 4 ∨ e.1 = 5 ∨ e.1 = 6 ∨ e.1 = 7 ∨ e.1 = 8 ∨ e.1 = 9 := Do h
theorem raw_ne (e : EvL) : (Gx e).1 ≠ [] := by
  unfold Gx
  repeat' split
  all_goals simp
theorem kword_no (n : Int) : (32 : UInt8) ∉ Z1 n := by
  unfold Z1
  cases (n == 1) <;> cases (n == 2) <;> cases (n == 3) <;> cases (n == 4) <;> cases (n == 5) <;> cases (n == 6) <;> cases (n == 7) <;> cases (n == 8) <;> decide
theorem raw_no {e : EvL} (h : (Gx e).2 = true) : ∀ w ∈ (Gx e).1, (32 : UInt8) ∉ w := by
  have k : ∀ n, (32 : UInt8) ∉ Z1 n := kword_no
  have d := fun n => dec_no' (c := 32) (by decide) n
  have o := fun n => dots_no (c := 32) (by decide) (by decide) n
  have b := fun s => bytes_no (c := 32) (by decide) (by decide) s
  have nm : ∀ s, Uy s = true → (32 : UInt8) ∉ s := fun s hs => name_no (by decide) hs
  unfold Gx at h ⊢
  repeat' split at h
  all_goals rename_i hk
  · simp only [if_pos hk]
    intro w hw; simp only [List.mem_cons, List.not_mem_nil, or_false] at hw
    rcases hw with rfl | rfl | rfl <;> simp [k, o, b]
  · rename_i h1
    simp only [if_neg h1, if_pos hk]
    intro w hw; simp only [List.mem_cons, List.not_mem_nil, or_false] at hw
    rcases hw with rfl | rfl | rfl | rfl <;> simp [k, d, b]
  · rename_i h1 h2
    simp only [if_neg h1, if_neg h2, if_pos hk]
    intro w hw; simp only [List.mem_cons, List.not_mem_nil, or_false] at hw
    rcases hw with rfl | rfl | rfl <;> simp [k, d]
  · rename_i h1 h2 h3
    simp only [if_neg h1, if_neg h2, if_neg h3, if_pos hk]
    intro w hw; simp only [List.mem_cons, List.not_mem_nil, or_false] at hw
    rcases hw with rfl | rfl | rfl <;> simp [k, d, b]
  · rename_i h1 h2 h3 h4
    simp only [if_neg h1, if_neg h2, if_neg h3, if_neg h4, if_pos hk]
    intro w hw; simp only [List.mem_cons, List.not_mem_nil, or_false] at hw
    rcases hw with rfl | rfl <;> simp [k, d]
  · rename_i h1 h2 h3 h4 h5
    simp only [if_neg h1, if_neg h2, if_neg h3, if_neg h4, if_neg h5, if_pos hk]
    intro w hw; simp only [List.mem_cons, List.not_mem_nil, or_false] at hw
    rcases hw with rfl | rfl <;> simp [k, d]
  · rename_i h1 h2 h3 h4 h5 h6
    simp only [if_neg h1, if_neg h2, if_neg h3, if_neg h4, if_neg h5, if_neg h6, if_pos hk]
    rw [Bool.and_eq_true] at h
    intro w hw; simp only [List.mem_cons, List.not_mem_nil, or_false] at hw
    rcases hw with rfl | rfl | rfl
    · exact k 7
    · exact nm _ h.1
    · exact nm _ h.2
  · rename_i h1 h2 h3 h4 h5 h6 h7
    simp only [if_neg h1, if_neg h2, if_neg h3, if_neg h4, if_neg h5, if_neg h6, if_neg h7, if_pos hk]
    intro w hw; simp only [List.mem_cons, List.not_mem_nil, or_false] at hw
    rcases hw with rfl | rfl
    · exact k 8
    · exact nm _ h
  · rename_i h1 h2 h3 h4 h5 h6 h7
    simp only [if_neg h1, if_neg h2, if_neg h3, if_neg h4, if_neg h5, if_neg h6, if_neg h7, if_neg hk]
    intro w hw; simp only [List.mem_cons, List.not_mem_nil, or_false] at hw
    subst hw
    exact k 9
theorem De (w : Str) (q : List Str) : evL (w :: q) = (Hy w).bind fun n => gtL n q := rfl
theorem ev_raw {e : EvL} (hk : kin e.1 = true) (ha : 0 ≤ e.2.2.1 ∧ e.2.2.1 < 4294967296) (h : (Gx e).2 = true) : evL (Gx e).1 = some (Cn e) := by
  rcases Hc hk with k | k | k | k | k | k | k | k | k
  · simp only [Gx, Cn, k, if_pos]
    rw [De, Gb rfl]
    simp only [Option.bind_some, gtL, if_pos, addr_dots (show e.2.2.1.toNat < 4294967296 by omega), H3, Option.map_some]
    rw [Int.toNat_of_nonneg ha.1]
  · simp only [Gx, k, show (2 : Int) ≠ 1 by decide, if_false, if_pos] at h
    obtain ⟨m, h1, h2⟩ := Ec h
    simp only [Gx, Cn, k, show (2 : Int) ≠ 1 by decide, if_false, if_pos]
    rw [De, Gb rfl]
    simp only [Option.bind_some, gtL, show (2 : Int) ≠ 1 by decide, if_false, if_pos, h1, H3, Option.map_some, h2]
  · simp only [Gx, k, show (3 : Int) ≠ 1 by decide, show (3 : Int) ≠ 2 by decide, if_false, if_pos, Bool.and_eq_true] at h
    obtain ⟨m, h1, h2⟩ := Ec h.1
    obtain ⟨m', h3, h4⟩ := Ec h.2
    simp only [Gx, Cn, k, show (3 : Int) ≠ 1 by decide, show (3 : Int) ≠ 2 by decide, if_false, if_pos]
    rw [De, Gb rfl]
    simp only [Option.bind_some, gtL, show (3 : Int) ≠ 1 by decide, show (3 : Int) ≠ 2 by decide, if_false, if_pos, h1, h3, Option.map_some, h2, h4]
  · simp only [Gx, k, show (4 : Int) ≠ 1 by decide, show (4 : Int) ≠ 2 by decide, show (4 : Int) ≠ 3 by decide, if_false, if_pos] at h
    obtain ⟨m, h1, h2⟩ := Ec h
    simp only [Gx, Cn, k, show (4 : Int) ≠ 1 by decide, show (4 : Int) ≠ 2 by decide, show (4 : Int) ≠ 3 by decide, if_false, if_pos]
    rw [De, Gb rfl]
    simp only [Option.bind_some, gtL, show (4 : Int) ≠ 1 by decide, show (4 : Int) ≠ 2 by decide, show (4 : Int) ≠ 3 by decide, if_false, if_pos, h1, H3, Option.map_some, h2]
  · simp only [Gx, k, show (5 : Int) ≠ 1 by decide, show (5 : Int) ≠ 2 by decide, show (5 : Int) ≠ 3 by decide, show (5 : Int) ≠ 4 by decide, if_false, if_pos] at h
    obtain ⟨m, h1, h2⟩ := Ec h
    simp only [Gx, Cn, k, show (5 : Int) ≠ 1 by decide, show (5 : Int) ≠ 2 by decide, show (5 : Int) ≠ 3 by decide, show (5 : Int) ≠ 4 by decide, if_false, if_pos]
    rw [De, Gb rfl]
    simp only [Option.bind_some, gtL, show (5 : Int) ≠ 1 by decide, show (5 : Int) ≠ 2 by decide, show (5 : Int) ≠ 3 by decide, show (5 : Int) ≠ 4 by decide, if_false, if_pos, h1, Option.map_some, h2]
  · simp only [Gx, k, show (6 : Int) ≠ 1 by decide, show (6 : Int) ≠ 2 by decide, show (6 : Int) ≠ 3 by decide, show (6 : Int) ≠ 4 by decide, show (6 : Int) ≠ 5 by decide, if_false, if_pos] at h
    obtain ⟨m, h1, h2⟩ := Ec h
    simp only [Gx, Cn, k, show (6 : Int) ≠ 1 by decide, show (6 : Int) ≠ 2 by decide, show (6 : Int) ≠ 3 by decide, show (6 : Int) ≠ 4 by decide, show (6 : Int) ≠ 5 by decide, if_false, if_pos]
    rw [De, Gb rfl]
    simp only [Option.bind_some, gtL, show (6 : Int) ≠ 1 by decide, show (6 : Int) ≠ 2 by decide, show (6 : Int) ≠ 3 by decide, show (6 : Int) ≠ 4 by decide, show (6 : Int) ≠ 5 by decide, if_false, if_pos, h1, Option.map_some, h2]
  · simp only [Gx, k, show (7 : Int) ≠ 1 by decide, show (7 : Int) ≠ 2 by decide, show (7 : Int) ≠ 3 by decide, show (7 : Int) ≠ 4 by decide, show (7 : Int) ≠ 5 by decide, show (7 : Int) ≠ 6 by decide, if_false, if_pos] at h
    simp only [Gx, Cn, k, show (7 : Int) ≠ 1 by decide, show (7 : Int) ≠ 2 by decide, show (7 : Int) ≠ 3 by decide, show (7 : Int) ≠ 4 by decide, show (7 : Int) ≠ 5 by decide, show (7 : Int) ≠ 6 by decide, if_false, if_pos]
    rw [De, Gb rfl]
    simp only [Option.bind_some, gtL, show (7 : Int) ≠ 1 by decide, show (7 : Int) ≠ 2 by decide, show (7 : Int) ≠ 3 by decide, show (7 : Int) ≠ 4 by decide, show (7 : Int) ≠ 5 by decide, show (7 : Int) ≠ 6 by decide, if_false, if_pos, h]
  · simp only [Gx, k, show (8 : Int) ≠ 1 by decide, show (8 : Int) ≠ 2 by decide, show (8 : Int) ≠ 3 by decide, show (8 : Int) ≠ 4 by decide, show (8 : Int) ≠ 5 by decide, show (8 : Int) ≠ 6 by decide, show (8 : Int) ≠ 7 by decide, if_false, if_pos] at h
    simp only [Gx, Cn, k, show (8 : Int) ≠ 1 by decide, show (8 : Int) ≠ 2 by decide, show (8 : Int) ≠ 3 by decide, show (8 : Int) ≠ 4 by decide, show (8 : Int) ≠ 5 by decide, show (8 : Int) ≠ 6 by decide, show (8 : Int) ≠ 7 by decide, if_false, if_pos]
    rw [De, Gb rfl]
    simp only [Option.bind_some, gtL, show (8 : Int) ≠ 1 by decide, show (8 : Int) ≠ 2 by decide, show (8 : Int) ≠ 3 by decide, show (8 : Int) ≠ 4 by decide, show (8 : Int) ≠ 5 by decide, show (8 : Int) ≠ 6 by decide, show (8 : Int) ≠ 7 by decide, if_false, if_pos, h]
  · simp only [Gx, Cn, k]
    rfl
theorem ev_line {e : EvL} (hk : kin e.1 = true) (ha : 0 ≤ e.2.2.1 ∧ e.2.2.1 < 4294967296) (h : (Gx e).2 = true) : evL (Va 32 (G3 32 (Gx e).1)) = some (Cn e) := by
  rw [It 32 _ (raw_ne e) (raw_no h)]
  exact ev_raw hk ha h
end Go.Proofs.YtoflbpmbkmephaaGreatDoor
namespace Go.Proofs.YtoflbpmbkmephaaGreatDoor
open Go.RowKit
theorem F0 (q : List Str) (b : Bool) (p : List Str) (h : q.length + p.length ≤ 1000000) : Q8 q b p = some (q ++ p, b) := by
  unfold Q8
  rw [Z7 (by omega)]
  rfl
theorem fin_gt (n : Int) : (if n < 0 then true else decide (n > 1099511627776)) = !(Dt n) := by
  unfold Dt
  by_cases h : n < 0
  · rw [if_pos h, show decide (0 ≤ n) = false by rw [decide_eq_false_iff_not]; omega]; rfl
  · rw [if_neg h, show decide (0 ≤ n) = true by rw [decide_eq_true_eq]; omega, Bool.true_and, ← decide_not]
    exact decide_eq_decide.2 (by omega)
theorem Fc (q : List Str) (b : Bool) (n : Int) (h : q.length ≤ 1000000 - 1) : Vc q b n = some (q ++ [Ds n], b || !(Dt n)) := by
  unfold Vc Xv
  simp only [Ha, Option.bind_some]
  have hp : ∀ b, Q8 q b [Ds n] = some (q ++ [Ds n], b) := fun b => F0 q b _ (by simp; omega)
  simp only [hp, Option.bind_some]
  rw [← fin_gt]
  cases b
  · by_cases h0 : n < 0
    · rw [if_pos h0, show decide (n < 0) = true by rw [decide_eq_true_eq]; exact h0]; rfl
    · rw [if_neg h0, show decide (n < 0) = false by rw [decide_eq_false_iff_not]; exact h0]; rfl
  · rfl
theorem L4 (q : List Str) (b : Bool) (p : Str) (h : q.length ≤ 1000000 - 1) (hp : p.length ≤ 1000000) : Xo q b p = some (q ++ [p], b || !(Uy p)) := by
  unfold Xo Yk
  have hq : ∀ b, Q8 q b [p] = some (q ++ [p], b) := fun b => F0 q b _ (by simp; omega)
  simp only [lNameW p hp, hq, Option.bind_some]
  cases b <;> rfl
theorem sw_line (q : List Str) (b : Bool) (h : b = false → (q.map List.length).sum + q.length ≤ 1000000) (hq : q.length ≤ 1000000) : Q0 q b = some (if b = true then [] else G3 32 q) := by
  unfold Q0
  cases b
  · have hl := Fa 32 q
    have := h rfl
    unfold U1
    rw [Fo, Nat.ble_eq_true_of_le (show q.length ≤ 140737488355328 by omega), Nat.ble_eq_true_of_le (show (G3 32 q).length ≤ 140737488355328 by omega)]
    rfl
  · rfl
theorem kput_eq (e : EvL) (hk : kin e.1 = true) (hok : EvOk e 100000) : Mj e.1 [Z1 e.1] false e.1 e.2.1 e.2.2.1 e.2.2.2.1 e.2.2.2.2.1 e.2.2.2.2.2.1 e.2.2.2.2.2.2.1 e.2.2.2.2.2.2.2 = some ((Gx e).1, !(Gx e).2) := by
  obtain ⟨e1, e2, e3, e4, e5, e6, e7, e8⟩ := e
  obtain ⟨ha, hB, hN, hT, hD⟩ := hok
  simp only at ha hB hN hT hD hk
  have a1 : Gp e3 = some (Cl e3.toNat) := by
    have := lDots e3.toNat (by omega)
    rwa [Int.toNat_of_nonneg ha.1] at this
  have b4 := lBytes e4 (by omega)
  have b8 := lBytes e8 (by omega)
  rcases Do hk with rfl | rfl | rfl | rfl | rfl | rfl | rfl | rfl | rfl
  · show Nz [Z1 1] false 1 e2 e3 e4 e5 e6 e7 e8 = _
    unfold Nz
    rw [a1, b8]
    simp only [Option.bind_some]
    rw [F0 _ _ _ (by simp)]
    rfl
  · show N1 [Z1 2] false 2 e2 e3 e4 e5 e6 e7 e8 = _
    unfold N1
    rw [Fc _ _ _ (by simp), b4, b8]
    simp only [Option.bind_some]
    rw [F0 _ _ _ (by simp)]
    rfl
  · show N3 [Z1 3] false 3 e2 e3 e4 e5 e6 e7 e8 = _
    unfold N3
    rw [Fc _ _ _ (by simp)]
    simp only [Option.bind_some]
    rw [Fc _ _ _ (by simp)]
    simp only [Option.bind_some, Gx]
    simp [Bool.not_and]
  · show N5 [Z1 4] false 4 e2 e3 e4 e5 e6 e7 e8 = _
    unfold N5
    rw [Fc _ _ _ (by simp), b8]
    simp only [Option.bind_some]
    rw [F0 _ _ _ (by simp)]
    rfl
  · show N7 [Z1 5] false 5 e2 e3 e4 e5 e6 e7 e8 = _
    unfold N7
    rw [Fc _ _ _ (by simp)]
    rfl
  · show U9 [Z1 6] false 6 e2 e3 e4 e5 e6 e7 e8 = _
    unfold U9
    rw [Fc _ _ _ (by simp)]
    rfl
  · show Nb [Z1 7] false 7 e2 e3 e4 e5 e6 e7 e8 = _
    unfold Nb
    rw [L4 _ _ _ (by simp) (by omega)]
    simp only [Option.bind_some]
    rw [L4 _ _ _ (by simp) (by omega)]
    simp only [Option.bind_some, Gx]
    simp [Bool.not_and]
  · show Nd [Z1 8] false 8 e2 e3 e4 e5 e6 e7 e8 = _
    unfold Nd
    rw [L4 _ _ _ (by simp) (by omega)]
    rfl
  · rfl
theorem G4 (n : Int) : (Ds n).length ≤ 13 := by
  unfold Ds
  split
  · exact Kv (by unfold G7; omega)
  · simp
theorem Rz (s : Str) : (Nj s).length ≤ 2 * s.length + 1 := by
  unfold Nj
  split
  · simp
  · rw [Gk]; omega
theorem kword_len (n : Int) : (Z1 n).length ≤ 10 := by
  unfold Z1
  cases (n == 1) <;> cases (n == 2) <;> cases (n == 3) <;> cases (n == 4) <;> cases (n == 5) <;> cases (n == 6) <;> cases (n == 7) <;> cases (n == 8) <;> decide
theorem raw_len (e : EvL) (hok : EvOk e 100000) (h : (Gx e).2 = true) : ((Gx e).1.map List.length).sum + (Gx e).1.length ≤ 1000000 - 1000 := by
  obtain ⟨e1, e2, e3, e4, e5, e6, e7, e8⟩ := e
  obtain ⟨ha, hB, hN, hT, hD⟩ := hok
  simp only at ha hB hN hT hD
  have k := kword_len
  have d := G4
  have o := Hz
  have b4 := Rz e4
  have b8 := Rz e8
  have d2 := d e2
  have d5 := d e5
  have o3 := o e3.toNat
  unfold Gx at h ⊢
  simp only at h ⊢
  have k1 := k 1; have k2 := k 2; have k3 := k 3; have k4 := k 4; have k5 := k 5; have k6 := k 6; have k7 := k 7; have k8 := k 8; have k9 := k 9
  repeat' split
  all_goals simp only [List.map_cons, List.map_nil, List.sum_cons, List.sum_nil, List.length_cons, List.length_nil]
  all_goals omega
theorem raw_cnt (e : EvL) : (Gx e).1.length ≤ 4 := by
  unfold Gx
  repeat' split
  all_goals simp
theorem lLine (e : EvL) (hok : EvOk e 100000) : Us e.1 e.2.1 e.2.2.1 e.2.2.2.1 e.2.2.2.2.1 e.2.2.2.2.2.1 e.2.2.2.2.2.2.1 e.2.2.2.2.2.2.2 = some (Ie e) := by
  unfold Us
  simp only [Gc, Option.bind_some]
  cases hk : kin e.1 with
  | false => unfold Ie; rw [if_neg (by rw [hk]; simp)]; rfl
  | true =>
    rw [kput_eq e hk hok]
    simp only [cond_true, Option.bind_some]
    rw [sw_line _ _ (fun h => Nat.le_trans (raw_len e hok (by simpa using h)) (by omega)) (Nat.le_trans (raw_cnt e) (by omega))]
    simp only [Option.bind_some]
    cases hr : (Gx e).2 with
    | false =>
      have hl : Ie e = [] := by unfold Ie; exact if_neg (by rw [hr]; simp)
      rw [hl, show (if (!false) = true then ([] : Str) else G3 32 (Gx e).1) = [] from rfl, lEvent [] (by simp)]
      rfl
    | true =>
      rw [show (if (!true) = true then ([] : Str) else G3 32 (Gx e).1) = G3 32 (Gx e).1 from rfl, lEvent _ (Nat.le_trans (Fa 32 _) (Nat.le_trans (raw_len e hok hr) (by omega))), ev_line hk hok.addr hr]
      unfold Ie
      show N8 (G3 32 (Gx e).1) (!(Id (Cn e) e)) = _
      cases hs : Id (Cn e) e with
      | true => rw [if_pos ⟨hk, hr, rfl⟩]; rfl
      | false => rw [if_neg (by simp)]; rfl
end Go.Proofs.YtoflbpmbkmephaaGreatDoor
namespace Go.Proofs.YtoflbpmbkmephaaGreatDoor
open Go.RowKit
set_option maxRecDepth 1000000 in
theorem scrHead : Gi = some true := by decide +kernel
theorem great_ok (e1 e2 e3 : Int) (e4 : Str) (e5 : Int) (e6 e7 e8 : Str) (h4 : e4.length ≤ 140737488355328) (h6 : e6.length ≤ 140737488355328) (h7 : e7.length ≤ 140737488355328) (h8 : e8.length ≤ 140737488355328) :
    ∃ b, Nv e1 e2 e3 e4 e5 e6 e7 e8 = some b ∧ (b = false → e4.length + e6.length + e7.length + e8.length ≤ 9000) := by
  refine ⟨_, rfl, fun h => ?_⟩
  rw [Z2 (x := ((List.length e4 : Nat) : Int) + ((List.length e6 : Nat) : Int)) (by omega), Z2 (x := ((List.length e4 : Nat) : Int) + ((List.length e6 : Nat) : Int) + ((List.length e7 : Nat) : Int)) (by omega), Z2 (by omega)] at h
  have := of_decide_eq_false h
  omega
end Go.Proofs.YtoflbpmbkmephaaGreatDoor
namespace Go.Proofs.YtoflbpmbkmephaaGreatDoor
open Go.RowKit
theorem K7 (s : Str) : s.length ≤ (Nj s).length := by
  unfold Nj
  split
  · rename_i h; subst h; simp
  · rw [Gk]; omega
theorem EvOk.mono {e : EvL} {n m : Nat} (h : EvOk e n) (hm : n ≤ m) : EvOk e m := ⟨h.addr, Nat.le_trans h.b hm, Nat.le_trans h.name hm, Nat.le_trans h.token hm, Nat.le_trans h.draw hm⟩
end Go.Proofs.YtoflbpmbkmephaaGreatDoor
namespace Go.Proofs.YtoflbpmbkmephaaGreatDoor
open Go.RowKit
theorem rUnb (w : Str) (h : w.length ≤ 1000000) : Xb w = some (Rs (unb w)) := by
  unfold Xb unb
  by_cases hw : w = [45]
  · rw [if_pos hw, hw]; rfl
  · rw [if_neg hw, beq_eq_false_iff_ne.2 hw, ref_unhex w h]
    simp only [cond_false, Option.bind_some]
    cases Uz w with
    | none => rfl
    | some b =>
      cases b with
      | nil => rfl
      | cons x r => simp [Mo, Yh, Rs]
theorem rBytes (s : Str) (h : s.length ≤ 1000000) : Zp s = some (Nj s) := by
  unfold Zp Nj
  by_cases hs : s = []
  · rw [if_pos hs, hs]; rfl
  · rw [if_neg hs, beq_eq_false_iff_ne.2 hs, ref_hex s h, Nat.ble_eq_true_of_le (show s.length ≤ 281474976710656 by omega)]
    rfl
theorem rNum (n : Int) : Vi n = some (Ds n) := by
  unfold Vi
  rw [Mh]
  rfl
theorem rFine (n : Int) : Zi n = some (Dt n) := by
  unfold Zi Jb Dt
  by_cases h : 0 ≤ n
  · rw [decide_eq_true (show n ≥ 0 from h)]; rfl
  · rw [decide_eq_false (show ¬ n ≥ 0 from h)]; rfl
theorem rAt (ws : List Str) (i : Nat) : Vv ws (i : Int) = some (ws.getD i []) := by
  unfold Vv
  by_cases h : i < ws.length
  · rw [decide_eq_false (show ¬ ((i : Int) ≥ ((ws.length : Nat) : Int)) by omega), cond_false, U6 h]
    simp [List.getD, h]
  · rw [decide_eq_true (show (i : Int) ≥ ((ws.length : Nat) : Int) by omega), cond_true]
    simp [List.getD, h]
theorem kfind_not {w : Str} (h : Hy w = none) (n : Int) (hn : kin n = true) : (w == Z1 n) = false := by
  rw [beq_eq_false_iff_ne]
  intro e
  rw [e, Gb hn] at h
  cases h
theorem H4 : Qj [] = none := by decide +kernel
theorem K8 (w : Str) (q : List Str) (n : Nat) : ((((w :: q).length : Nat) : Int) == ((n + 1 : Nat) : Int)) = decide (q.length = n) := by
  rw [Bool.eq_iff_iff, beq_iff_eq, decide_eq_true_iff, List.length_cons]
  omega
theorem rEvent (s : Str) (h : s.length ≤ 9000) : Ud s = some (evD (evL (Va 32 s))) := by
  unfold Ud
  rw [rWords s h]
  have hl := Gn 32 s
  cases hw : Va 32 s with
  | nil => exact absurd hw (Nx 32 s)
  | cons w q =>
    rw [hw] at hl
    have hg : ∀ i, ((w :: q).getD i []).length ≤ 9000 := fun i => by
      simp only [List.getD]
      cases hx : (w :: q)[i]? with
      | none => simp
      | some x => have := hl x (List.mem_of_getElem? hx); simp; omega
    have a1 := rAt (w :: q) 1
    have a2 := rAt (w :: q) 2
    have a3 := rAt (w :: q) 3
    rw [show ((1 : Nat) : Int) = 1 from rfl] at a1
    rw [show ((2 : Nat) : Int) = 2 from rfl] at a2
    rw [show ((3 : Nat) : Int) = 3 from rfl] at a3
    have hm : (9000 : Nat) ≤ maxLen := by decide
    simp only [Option.bind_some, a1, a2, a3, Ht _ (Nat.le_trans (hg 1) hm), Ht _ (Nat.le_trans (hg 2) hm), rAddr _ (hg 1), rUnb _ (Nat.le_trans (hg 2) (by omega)), rUnb _ (Nat.le_trans (hg 3) (by omega))]
    rw [show idx (w :: q) 0 = some w from rfl]
    simp only [Option.bind_some]
    rw [De]
    have l2 := K8 w q 1
    have l3 := K8 w q 2
    have l4 := K8 w q 3
    have l1 := K8 w q 0
    rw [show ((1 + 1 : Nat) : Int) = 2 from rfl] at l2
    rw [show ((2 + 1 : Nat) : Int) = 3 from rfl] at l3
    rw [show ((3 + 1 : Nat) : Int) = 4 from rfl] at l4
    rw [show ((0 + 1 : Nat) : Int) = 1 from rfl] at l1
    simp only [l1, l2, l3, l4]
    have g1 : (w :: q).getD 1 [] = q.getD 0 [] := rfl
    have g2 : (w :: q).getD 2 [] = q.getD 1 [] := rfl
    have g3 : (w :: q).getD 3 [] = q.getD 2 [] := rfl
    have n1 := rName (q.getD 0 []) (hg 1)
    have n2 := rName (q.getD 1 []) (hg 2)
    simp only [g1, g2, g3]
    simp only [n1, n2, Option.bind_some]
    clear a1 a2 a3 n1 n2 l1 l2 l3 l4 g1 g2 g3 hg hl hw
    cases hk : Hy w with
    | none =>
      have k := kfind_not hk
      rw [show (w == [99, 111, 110, 110, 101, 99, 116]) = false from k 1 rfl, show (w == [98, 121, 116, 101, 115]) = false from k 2 rfl, show (w == [98, 117, 100, 103, 101, 116]) = false from k 3 rfl, show (w == [104, 97, 108, 102]) = false from k 4 rfl,
        show (w == [114, 101, 115, 101, 116]) = false from k 5 rfl, show (w == [116, 105, 99, 107]) = false from k 6 rfl, show (w == [114, 101, 118, 111, 107, 101]) = false from k 7 rfl, show (w == [101, 118, 105, 99, 116]) = false from k 8 rfl, show (w == [100, 114, 97, 105, 110]) = false from k 9 rfl]
      rfl
    | some n =>
      have hin : kin n = true := (Lw (List.mem_of_find?_eq_some hk)).1
      have hkw : Z1 n = w := by
        have := List.find?_some hk
        exact eq_of_beq this
      subst hkw
      simp only [Option.bind_some]
      rcases Do hin with rfl | rfl | rfl | rfl | rfl | rfl | rfl | rfl | rfl
      · show cond (B9 (Rb (q.getD 0 []))).2 (cond (Rs (unb (q.getD 1 []))).2 (Q2 (B9 (Rb (q.getD 0 []))) (Rs (unb (q.getD 1 []))) (decide (q.length = 2))) (Q2 (B9 (Rb (q.getD 0 []))) (Rs (unb (q.getD 1 []))) false)) (Q2 (B9 (Rb (q.getD 0 []))) (Rs (unb (q.getD 1 []))) false) = some (evD (gtL 1 q))
        rcases q with _ | ⟨a, _ | ⟨d, _ | ⟨c, r⟩⟩⟩
        · generalize B9 (Rb (([] : List Str).getD 0 [])) = x; generalize Rs (unb (([] : List Str).getD 1 [])) = y
          cases x.2 <;> cases y.2 <;> rfl
        · generalize B9 (Rb ([a].getD 0 [])) = x; generalize Rs (unb ([a].getD 1 [])) = y
          cases x.2 <;> cases y.2 <;> rfl
        · show cond (B9 (Rb a)).2 (cond (Rs (unb d)).2 (Q2 (B9 (Rb a)) (Rs (unb d)) true) (Q2 (B9 (Rb a)) (Rs (unb d)) false)) (Q2 (B9 (Rb a)) (Rs (unb d)) false) = some (evD ((Rb a).bind fun (x : Nat) => (unb d).map fun y => (1, 0, (x : Int), [], 0, [], [], y)))
          cases Rb a <;> cases unb d <;> rfl
        · rw [show decide ((a :: d :: c :: r).length = 2) = false by rw [decide_eq_false_iff_not]; simp]
          generalize B9 (Rb ((a :: d :: c :: r).getD 0 [])) = x; generalize Rs (unb ((a :: d :: c :: r).getD 1 [])) = y
          cases x.2 <;> cases y.2 <;> rfl
      · show cond (Qq (Qj (q.getD 0 []))).2 (cond (Rs (unb (q.getD 1 []))).2 (cond (Rs (unb (q.getD 2 []))).2 (Qp (Qq (Qj (q.getD 0 []))) (Rs (unb (q.getD 1 []))) (Rs (unb (q.getD 2 []))) (decide (q.length = 3))) (Qp (Qq (Qj (q.getD 0 []))) (Rs (unb (q.getD 1 []))) (Rs (unb (q.getD 2 []))) false)) (Qp (Qq (Qj (q.getD 0 []))) (Rs (unb (q.getD 1 []))) (Rs (unb (q.getD 2 []))) false)) (Qp (Qq (Qj (q.getD 0 []))) (Rs (unb (q.getD 1 []))) (Rs (unb (q.getD 2 []))) false) = some (evD (gtL 2 q))
        have no : q.length ≠ 3 → gtL 2 q = none := fun hn => by
          rcases q with _ | ⟨a, _ | ⟨d, _ | ⟨c, _ | ⟨z, r⟩⟩⟩⟩
          · rfl
          · rfl
          · rfl
          · exact absurd rfl hn
          · rfl
        by_cases h3 : q.length = 3
        · rcases q with _ | ⟨a, _ | ⟨d, _ | ⟨c, _ | ⟨z, r⟩⟩⟩⟩
          · cases h3
          · cases h3
          · cases h3
          · show cond (Qq (Qj a)).2 (cond (Rs (unb d)).2 (cond (Rs (unb c)).2 (Qp (Qq (Qj a)) (Rs (unb d)) (Rs (unb c)) true) (Qp (Qq (Qj a)) (Rs (unb d)) (Rs (unb c)) false)) (Qp (Qq (Qj a)) (Rs (unb d)) (Rs (unb c)) false)) (Qp (Qq (Qj a)) (Rs (unb d)) (Rs (unb c)) false) = some (evD ((Qj a).bind fun (x : Nat) => (unb d).bind fun z => (unb c).map fun y => (2, (x : Int), 0, z, 0, [], [], y)))
            cases Qj a <;> cases unb d <;> cases unb c <;> rfl
          · simp at h3
        · rw [decide_eq_false h3, no h3]
          generalize Qq (Qj (q.getD 0 [])) = x; generalize Rs (unb (q.getD 1 [])) = y; generalize Rs (unb (q.getD 2 [])) = z
          cases x.2 <;> cases y.2 <;> cases z.2 <;> rfl
      · show cond (Qq (Qj (q.getD 0 []))).2 (cond (Qq (Qj (q.getD 1 []))).2 (Q3 (Qq (Qj (q.getD 0 []))) (Qq (Qj (q.getD 1 []))) (decide (q.length = 2))) (Q3 (Qq (Qj (q.getD 0 []))) (Qq (Qj (q.getD 1 []))) false)) (Q3 (Qq (Qj (q.getD 0 []))) (Qq (Qj (q.getD 1 []))) false) = some (evD (gtL 3 q))
        have no : q.length ≠ 2 → gtL 3 q = none := fun hn => by
          rcases q with _ | ⟨a, _ | ⟨d, _ | ⟨c, r⟩⟩⟩
          · rfl
          · rfl
          · exact absurd rfl hn
          · rfl
        by_cases h3 : q.length = 2
        · rcases q with _ | ⟨a, _ | ⟨d, _ | ⟨c, r⟩⟩⟩
          · cases h3
          · cases h3
          · show cond (Qq (Qj a)).2 (cond (Qq (Qj d)).2 (Q3 (Qq (Qj a)) (Qq (Qj d)) true) (Q3 (Qq (Qj a)) (Qq (Qj d)) false)) (Q3 (Qq (Qj a)) (Qq (Qj d)) false) = some (evD ((Qj a).bind fun (x : Nat) => (Qj d).map fun (y : Nat) => (3, (x : Int), 0, [], (y : Int), [], [], [])))
            cases Qj a <;> cases Qj d <;> rfl
          · simp at h3
        · rw [decide_eq_false h3, no h3]
          generalize Qq (Qj (q.getD 0 [])) = x; generalize Qq (Qj (q.getD 1 [])) = y
          cases x.2 <;> cases y.2 <;> rfl
      · show cond (Qq (Qj (q.getD 0 []))).2 (cond (Rs (unb (q.getD 1 []))).2 (Q4 (Qq (Qj (q.getD 0 []))) (Rs (unb (q.getD 1 []))) (decide (q.length = 2))) (Q4 (Qq (Qj (q.getD 0 []))) (Rs (unb (q.getD 1 []))) false)) (Q4 (Qq (Qj (q.getD 0 []))) (Rs (unb (q.getD 1 []))) false) = some (evD (gtL 4 q))
        have no : q.length ≠ 2 → gtL 4 q = none := fun hn => by
          rcases q with _ | ⟨a, _ | ⟨d, _ | ⟨c, r⟩⟩⟩
          · rfl
          · rfl
          · exact absurd rfl hn
          · rfl
        by_cases h3 : q.length = 2
        · rcases q with _ | ⟨a, _ | ⟨d, _ | ⟨c, r⟩⟩⟩
          · cases h3
          · cases h3
          · show cond (Qq (Qj a)).2 (cond (Rs (unb d)).2 (Q4 (Qq (Qj a)) (Rs (unb d)) true) (Q4 (Qq (Qj a)) (Rs (unb d)) false)) (Q4 (Qq (Qj a)) (Rs (unb d)) false) = some (evD ((Qj a).bind fun (x : Nat) => (unb d).map fun y => (4, (x : Int), 0, [], 0, [], [], y)))
            cases Qj a <;> cases unb d <;> rfl
          · simp at h3
        · rw [decide_eq_false h3, no h3]
          generalize Qq (Qj (q.getD 0 [])) = x; generalize Rs (unb (q.getD 1 [])) = y
          cases x.2 <;> cases y.2 <;> rfl
      · show cond (Qq (Qj (q.getD 0 []))).2 (V2 (Qq (Qj (q.getD 0 []))) (decide (q.length = 1))) (V2 (Qq (Qj (q.getD 0 []))) false) = some (evD (gtL 5 q))
        have no : q.length ≠ 1 → gtL 5 q = none := fun hn => by
          rcases q with _ | ⟨a, _ | ⟨d, r⟩⟩
          · rfl
          · exact absurd rfl hn
          · rfl
        by_cases h3 : q.length = 1
        · rcases q with _ | ⟨a, _ | ⟨d, r⟩⟩
          · cases h3
          · show cond (Qq (Qj a)).2 (V2 (Qq (Qj a)) true) (V2 (Qq (Qj a)) false) = some (evD ((Qj a).map fun (x : Nat) => (5, (x : Int), 0, [], 0, [], [], [])))
            cases Qj a <;> rfl
          · simp at h3
        · rw [decide_eq_false h3, no h3]
          generalize Qq (Qj (q.getD 0 [])) = x
          cases x.2 <;> rfl
      · show cond (Qq (Qj (q.getD 0 []))).2 (Vq (Qq (Qj (q.getD 0 []))) (decide (q.length = 1))) (Vq (Qq (Qj (q.getD 0 []))) false) = some (evD (gtL 6 q))
        have no : q.length ≠ 1 → gtL 6 q = none := fun hn => by
          rcases q with _ | ⟨a, _ | ⟨d, r⟩⟩
          · rfl
          · exact absurd rfl hn
          · rfl
        by_cases h3 : q.length = 1
        · rcases q with _ | ⟨a, _ | ⟨d, r⟩⟩
          · cases h3
          · show cond (Qq (Qj a)).2 (Vq (Qq (Qj a)) true) (Vq (Qq (Qj a)) false) = some (evD ((Qj a).map fun (x : Nat) => (6, 0, 0, [], (x : Int), [], [], [])))
            cases Qj a <;> rfl
          · simp at h3
        · rw [decide_eq_false h3, no h3]
          generalize Qq (Qj (q.getD 0 [])) = x
          cases x.2 <;> rfl
      · show cond (Uy (q.getD 0 [])) (cond (Uy (q.getD 1 [])) (Qx (q.getD 0 []) (q.getD 1 []) (decide (q.length = 2))) (Qx (q.getD 0 []) (q.getD 1 []) false)) (Qx (q.getD 0 []) (q.getD 1 []) false) = some (evD (gtL 7 q))
        have no : q.length ≠ 2 → gtL 7 q = none := fun hn => by
          rcases q with _ | ⟨a, _ | ⟨d, _ | ⟨c, r⟩⟩⟩
          · rfl
          · rfl
          · exact absurd rfl hn
          · rfl
        by_cases h3 : q.length = 2
        · rcases q with _ | ⟨a, _ | ⟨d, _ | ⟨c, r⟩⟩⟩
          · cases h3
          · cases h3
          · show cond (Uy a) (cond (Uy d) (Qx a d true) (Qx a d false)) (Qx a d false) = some (evD (if (Uy a && Uy d) = true then some (7, 0, 0, [], 0, a, d, []) else none))
            cases Uy a <;> cases Uy d <;> rfl
          · simp at h3
        · rw [decide_eq_false h3, no h3]
          cases Uy (q.getD 0 []) <;> cases Uy (q.getD 1 []) <;> rfl
      · show cond (Uy (q.getD 0 [])) (Vr (q.getD 0 []) (decide (q.length = 1))) (Vr (q.getD 0 []) false) = some (evD (gtL 8 q))
        have no : q.length ≠ 1 → gtL 8 q = none := fun hn => by
          rcases q with _ | ⟨a, _ | ⟨d, r⟩⟩
          · rfl
          · exact absurd rfl hn
          · rfl
        by_cases h3 : q.length = 1
        · rcases q with _ | ⟨a, _ | ⟨d, r⟩⟩
          · cases h3
          · show cond (Uy a) (Vr a true) (Vr a false) = some (evD (if Uy a = true then some (8, 0, 0, [], 0, a, [], []) else none))
            cases Uy a <;> rfl
          · simp at h3
        · rw [decide_eq_false h3, no h3]
          cases Uy (q.getD 0 []) <;> rfl
      · show X2 9 (decide (q.length = 0)) = some (evD (gtL 9 q))
        cases q with
        | nil => rfl
        | cons a r =>
          rw [decide_eq_false (show ¬ (a :: r).length = 0 by simp)]
          rfl
def rlB (e x : EvL) (s : Str) : Bool := !(s == []) && (Id x e && (Dt e.2.1 && (Dt e.2.2.2.2.1 && ((!((e.1 == 7) || (e.1 == 8)) || Uy e.2.2.2.2.2.1) && (!(e.1 == 7) || Uy e.2.2.2.2.2.2.1)))))
theorem rl_k258 (s : Str) (b : Bool) : Qz s b = some (if b = true then [] else s) := by cases b <;> rfl
theorem rl_end (e x : EvL) (s : Str) (h6 : e.2.2.2.2.2.1.length ≤ 9000) (h7 : e.2.2.2.2.2.2.1.length ≤ 9000) :
    Xm e.1 e.2.1 e.2.2.1 e.2.2.2.1 e.2.2.2.2.1 e.2.2.2.2.2.1 e.2.2.2.2.2.2.1 e.2.2.2.2.2.2.2 x.1 x.2.1 x.2.2.1 x.2.2.2.1 x.2.2.2.2.1 x.2.2.2.2.2.1 x.2.2.2.2.2.2.1 x.2.2.2.2.2.2.2 s = some (if rlB e x s = true then s else []) := by
  have key : ∀ nm : Bool, Xl e.1 e.2.1 e.2.2.1 e.2.2.2.1 e.2.2.2.2.1 e.2.2.2.2.2.1 e.2.2.2.2.2.2.1 e.2.2.2.2.2.2.2 x.1 x.2.1 x.2.2.1 x.2.2.2.1 x.2.2.2.2.1 x.2.2.2.2.2.1 x.2.2.2.2.2.2.1 x.2.2.2.2.2.2.2 s nm = some (if (!(s == []) && (Id x e && (Dt e.2.1 && (Dt e.2.2.2.2.1 && ((!nm || Uy e.2.2.2.2.2.1) && (!(e.1 == 7) || Uy e.2.2.2.2.2.2.1)))))) = true then s else []) := fun nm => by
    unfold Xl
    rw [show ((x.1 == e.1) && ((x.2.1 == e.2.1) && ((x.2.2.1 == e.2.2.1) && ((x.2.2.2.1 == e.2.2.2.1) && ((x.2.2.2.2.1 == e.2.2.2.2.1) && ((x.2.2.2.2.2.1 == e.2.2.2.2.2.1) && ((x.2.2.2.2.2.2.1 == e.2.2.2.2.2.2.1) && (x.2.2.2.2.2.2.2 == e.2.2.2.2.2.2.2)))))))) = Id x e from rfl]
    simp only [rFine, rName _ h6, rName _ h7, Option.bind_some, rl_k258]
    cases (s == []) <;> cases Id x e <;> cases Dt e.2.1 <;> cases Dt e.2.2.2.2.1 <;> cases nm <;> cases Uy e.2.2.2.2.2.1 <;> cases (e.1 == 7) <;> cases Uy e.2.2.2.2.2.2.1 <;> rfl
  unfold Xm rlB
  rw [key, key]
  cases (e.1 == 7) <;> cases (e.1 == 8) <;> rfl
theorem Un (c : UInt8) : ∀ (p : Str) (ps : List Str), G3 c (p :: ps) = p ++ ps.flatMap fun w => c :: w
  | p, [] => by simp [G3]
  | p, q :: ps => by
    rw [G3, Un c q ps]
    simp
theorem rl_fin (e x : EvL) (s : Str) (hk : kin e.1 = true) (hx : x = Cn e) (hs : s = G3 32 (Gx e).1) : (if rlB e x s = true then s else []) = Ie e := by
  have hne : (s == []) = false := by
    rw [beq_eq_false_iff_ne, hs]
    intro h0
    have hj := raw_ne e
    cases hr : (Gx e).1 with
    | nil => exact hj hr
    | cons w q =>
      rw [hr, Un] at h0
      have hw : w = [] := (List.append_eq_nil_iff.1 h0).1
      have hkw : w = Z1 e.1 := by
        rcases Hc hk with k | k | k | k | k | k | k | k | k <;> (simp [Gx, k] at hr; rw [k]; exact hr.1.symm)
      rw [hw] at hkw
      rcases Hc hk with k | k | k | k | k | k | k | k | k <;> (rw [k] at hkw; exact absurd hkw.symm (by decide))
  unfold Ie rlB
  rw [hne, ← hs, hx]
  cases hsame : Id (Cn e) e with
  | false => rw [if_neg (by simp), if_neg (by simp)]
  | true =>
    have heq := sameE_iff.1 hsame
    have hiff : (Dt e.2.1 && (Dt e.2.2.2.2.1 && ((!((e.1 == 7) || (e.1 == 8)) || Uy e.2.2.2.2.2.1) && (!(e.1 == 7) || Uy e.2.2.2.2.2.2.1)))) = (Gx e).2 := by
      have z : Dt 0 = true := rfl
      obtain ⟨e1, e2, e3, e4, e5, e6, e7, e8⟩ := e
      rcases Do hk with rfl | rfl | rfl | rfl | rfl | rfl | rfl | rfl | rfl
      all_goals (simp [Cn] at heq; simp [Gx])
      · obtain ⟨rfl, rfl, rfl, rfl, rfl⟩ := heq; exact ⟨z, z⟩
      · obtain ⟨rfl, rfl, rfl, rfl⟩ := heq; intro _; exact z
      · obtain ⟨rfl, rfl, rfl, rfl, rfl⟩ := heq; intro _; exact z
      · obtain ⟨rfl, rfl, rfl, rfl, rfl, rfl⟩ := heq; intro _; exact z
      · obtain ⟨rfl, rfl, rfl, rfl, rfl, rfl⟩ := heq; intro _; exact z
      · obtain ⟨rfl, rfl, rfl, rfl, rfl⟩ := heq; rw [z]; rfl
      · obtain ⟨rfl, rfl, rfl, rfl, rfl, rfl⟩ := heq; rw [z]; rfl
      · obtain ⟨rfl, rfl, rfl, rfl, rfl, rfl, rfl⟩ := heq; exact ⟨z, z⟩
    rw [hiff, hk]
    cases (Gx e).2
    · rw [if_neg (by simp), if_neg (by simp)]
    · exact (if_pos rfl).trans (if_pos ⟨rfl, rfl, rfl⟩).symm
theorem rLine (e : EvL) (hok : EvOk e 9000) : Uv e.1 e.2.1 e.2.2.1 e.2.2.2.1 e.2.2.2.2.1 e.2.2.2.2.2.1 e.2.2.2.2.2.2.1 e.2.2.2.2.2.2.2 = some (Ie e) := by
  have ha := hok.addr
  have hB := hok.b
  have hN := hok.name
  have hT := hok.token
  have hD := hok.draw
  have fin := fun (x : EvL) (s : Str) (hk : kin e.1 = true) (hx : x = Cn e) (hs : s = G3 32 (Gx e).1) => (rl_end e x s hN hT).trans (congrArg some (rl_fin e x s hk hx hs))
  have a1 : Jc e.2.2.1 = some (Cl e.2.2.1.toNat) := by
    have := rDots e.2.2.1.toNat (by omega)
    rwa [Int.toNat_of_nonneg ha.1] at this
  have b4 := rBytes e.2.2.2.1 (by omega)
  have b8 := rBytes e.2.2.2.2.2.2.2 (by omega)
  have d2 := G4 e.2.1
  have d5 := G4 e.2.2.2.2.1
  have o3 := Hz e.2.2.1.toNat
  have w4 := Rz e.2.2.2.1
  have w8 := Rz e.2.2.2.2.2.2.2
  unfold Uv
  cases hk : kin e.1 with
  | false =>
    have hn : ∀ k : Int, kin k = true → (e.1 == k) = false := fun k hkk => by
      rw [beq_eq_false_iff_ne]
      intro h
      rw [h, hkk] at hk
      cases hk
    rw [hn 1 rfl, hn 2 rfl, hn 3 rfl, hn 4 rfl, hn 5 rfl, hn 6 rfl, hn 7 rfl, hn 8 rfl, hn 9 rfl]
    simp only [cond_false]
    have hl : Ie e = [] := by unfold Ie; exact if_neg (by rw [hk]; simp)
    rw [hl]
    have h0 := rl_end e (0, 0, 0, [], 0, [], [], []) [] hN hT
    exact h0
  | true =>
    rcases Hc hk with k | k | k | k | k | k | k | k | k
    · have hr : (Gx e).1 = [Z1 1, Cl e.2.2.1.toNat, Nj e.2.2.2.2.2.2.2] := by unfold Gx; rw [if_pos k]
      have hs : Cn e = (1, 0, e.2.2.1, [], 0, [], [], e.2.2.2.2.2.2.2) := by unfold Cn; rw [if_pos k]
      rw [show (e.1 == 1) = true by rw [k]; rfl]
      simp only [cond_true, a1, b8, Option.bind_some]
      rw [Z7 (by simp; omega)]
      simp only [Option.bind_some]
      rw [Z7 (by simp; omega)]
      simp only [Option.bind_some]
      rw [Z7 (by simp; omega)]
      simp only [Option.bind_some]
      have := fin (e.1, 0, e.2.2.1, [], 0, [], [], e.2.2.2.2.2.2.2) ([99, 111, 110, 110, 101, 99, 116, 32] ++ Cl e.2.2.1.toNat ++ [32] ++ Nj e.2.2.2.2.2.2.2) hk (by rw [hs, k]) (by rw [hr, Un]; show _ = [99, 111, 110, 110, 101, 99, 116] ++ _; simp)
      exact this
    · have hr : (Gx e).1 = [Z1 2, Ds e.2.1, Nj e.2.2.2.1, Nj e.2.2.2.2.2.2.2] := by unfold Gx; simp [k]
      have hs : Cn e = (2, e.2.1, 0, e.2.2.2.1, 0, [], [], e.2.2.2.2.2.2.2) := by unfold Cn; simp [k]
      rw [show (e.1 == 1) = false by rw [k]; rfl, show (e.1 == 2) = true by rw [k]; rfl]
      simp only [cond_true, cond_false, rNum, b4, b8, Option.bind_some]
      rw [Z7 (by simp; omega)]
      simp only [Option.bind_some]
      rw [Z7 (by simp; omega)]
      simp only [Option.bind_some]
      rw [Z7 (by simp; omega)]
      simp only [Option.bind_some]
      rw [Z7 (by simp; omega)]
      simp only [Option.bind_some]
      rw [Z7 (by simp; omega)]
      simp only [Option.bind_some]
      have := fin (e.1, e.2.1, 0, e.2.2.2.1, 0, [], [], e.2.2.2.2.2.2.2) ([98, 121, 116, 101, 115, 32] ++ Ds e.2.1 ++ [32] ++ Nj e.2.2.2.1 ++ [32] ++ Nj e.2.2.2.2.2.2.2) hk (by rw [hs, k]) (by rw [hr, Un]; show _ = [98, 121, 116, 101, 115] ++ _; simp)
      exact this
    · have hr : (Gx e).1 = [Z1 3, Ds e.2.1, Ds e.2.2.2.2.1] := by unfold Gx; simp [k]
      have hs : Cn e = (3, e.2.1, 0, [], e.2.2.2.2.1, [], [], []) := by unfold Cn; simp [k]
      rw [show (e.1 == 1) = false by rw [k]; rfl, show (e.1 == 2) = false by rw [k]; rfl, show (e.1 == 3) = true by rw [k]; rfl]
      simp only [cond_true, cond_false, rNum, Option.bind_some]
      rw [Z7 (by simp; omega)]
      simp only [Option.bind_some]
      rw [Z7 (by simp; omega)]
      simp only [Option.bind_some]
      rw [Z7 (by simp; omega)]
      simp only [Option.bind_some]
      have := fin (e.1, e.2.1, 0, [], e.2.2.2.2.1, [], [], []) ([98, 117, 100, 103, 101, 116, 32] ++ Ds e.2.1 ++ [32] ++ Ds e.2.2.2.2.1) hk (by rw [hs, k]) (by rw [hr, Un]; show _ = [98, 117, 100, 103, 101, 116] ++ _; simp)
      exact this
    · have hr : (Gx e).1 = [Z1 4, Ds e.2.1, Nj e.2.2.2.2.2.2.2] := by unfold Gx; simp [k]
      have hs : Cn e = (4, e.2.1, 0, [], 0, [], [], e.2.2.2.2.2.2.2) := by unfold Cn; simp [k]
      rw [show (e.1 == 1) = false by rw [k]; rfl, show (e.1 == 2) = false by rw [k]; rfl, show (e.1 == 3) = false by rw [k]; rfl, show (e.1 == 4) = true by rw [k]; rfl]
      simp only [cond_true, cond_false, rNum, b8, Option.bind_some]
      rw [Z7 (by simp; omega)]
      simp only [Option.bind_some]
      rw [Z7 (by simp; omega)]
      simp only [Option.bind_some]
      rw [Z7 (by simp; omega)]
      simp only [Option.bind_some]
      have := fin (e.1, e.2.1, 0, [], 0, [], [], e.2.2.2.2.2.2.2) ([104, 97, 108, 102, 32] ++ Ds e.2.1 ++ [32] ++ Nj e.2.2.2.2.2.2.2) hk (by rw [hs, k]) (by rw [hr, Un]; show _ = [104, 97, 108, 102] ++ _; simp)
      exact this
    · have hr : (Gx e).1 = [Z1 5, Ds e.2.1] := by unfold Gx; simp [k]
      have hs : Cn e = (5, e.2.1, 0, [], 0, [], [], []) := by unfold Cn; simp [k]
      rw [show (e.1 == 1) = false by rw [k]; rfl, show (e.1 == 2) = false by rw [k]; rfl, show (e.1 == 3) = false by rw [k]; rfl, show (e.1 == 4) = false by rw [k]; rfl, show (e.1 == 5) = true by rw [k]; rfl]
      simp only [cond_true, cond_false, rNum, Option.bind_some]
      rw [Z7 (by simp; omega)]
      simp only [Option.bind_some]
      have := fin (e.1, e.2.1, 0, [], 0, [], [], []) ([114, 101, 115, 101, 116, 32] ++ Ds e.2.1) hk (by rw [hs, k]) (by rw [hr, Un]; show _ = [114, 101, 115, 101, 116] ++ _; simp)
      exact this
    · have hr : (Gx e).1 = [Z1 6, Ds e.2.2.2.2.1] := by unfold Gx; simp [k]
      have hs : Cn e = (6, 0, 0, [], e.2.2.2.2.1, [], [], []) := by unfold Cn; simp [k]
      rw [show (e.1 == 1) = false by rw [k]; rfl, show (e.1 == 2) = false by rw [k]; rfl, show (e.1 == 3) = false by rw [k]; rfl, show (e.1 == 4) = false by rw [k]; rfl, show (e.1 == 5) = false by rw [k]; rfl, show (e.1 == 6) = true by rw [k]; rfl]
      simp only [cond_true, cond_false, rNum, Option.bind_some]
      rw [Z7 (by simp; omega)]
      simp only [Option.bind_some]
      have := fin (e.1, 0, 0, [], e.2.2.2.2.1, [], [], []) ([116, 105, 99, 107, 32] ++ Ds e.2.2.2.2.1) hk (by rw [hs, k]) (by rw [hr, Un]; show _ = [116, 105, 99, 107] ++ _; simp)
      exact this
    · have hr : (Gx e).1 = [Z1 7, e.2.2.2.2.2.1, e.2.2.2.2.2.2.1] := by unfold Gx; simp [k]
      have hs : Cn e = (7, 0, 0, [], 0, e.2.2.2.2.2.1, e.2.2.2.2.2.2.1, []) := by unfold Cn; simp [k]
      rw [show (e.1 == 1) = false by rw [k]; rfl, show (e.1 == 2) = false by rw [k]; rfl, show (e.1 == 3) = false by rw [k]; rfl, show (e.1 == 4) = false by rw [k]; rfl, show (e.1 == 5) = false by rw [k]; rfl, show (e.1 == 6) = false by rw [k]; rfl, show (e.1 == 7) = true by rw [k]; rfl]
      simp only [cond_true, cond_false]
      rw [Z7 (by simp; omega)]
      simp only [Option.bind_some]
      rw [Z7 (by simp; omega)]
      simp only [Option.bind_some]
      rw [Z7 (by simp; omega)]
      simp only [Option.bind_some]
      have := fin (e.1, 0, 0, [], 0, e.2.2.2.2.2.1, e.2.2.2.2.2.2.1, []) ([114, 101, 118, 111, 107, 101, 32] ++ e.2.2.2.2.2.1 ++ [32] ++ e.2.2.2.2.2.2.1) hk (by rw [hs, k]) (by rw [hr, Un]; show _ = [114, 101, 118, 111, 107, 101] ++ _; simp)
      exact this
    · have hr : (Gx e).1 = [Z1 8, e.2.2.2.2.2.1] := by unfold Gx; simp [k]
      have hs : Cn e = (8, 0, 0, [], 0, e.2.2.2.2.2.1, [], []) := by unfold Cn; simp [k]
      rw [show (e.1 == 1) = false by rw [k]; rfl, show (e.1 == 2) = false by rw [k]; rfl, show (e.1 == 3) = false by rw [k]; rfl, show (e.1 == 4) = false by rw [k]; rfl, show (e.1 == 5) = false by rw [k]; rfl, show (e.1 == 6) = false by rw [k]; rfl, show (e.1 == 7) = false by rw [k]; rfl, show (e.1 == 8) = true by rw [k]; rfl]
      simp only [cond_true, cond_false]
      rw [Z7 (by simp; omega)]
      simp only [Option.bind_some]
      have := fin (e.1, 0, 0, [], 0, e.2.2.2.2.2.1, [], []) ([101, 118, 105, 99, 116, 32] ++ e.2.2.2.2.2.1) hk (by rw [hs, k]) (by rw [hr, Un]; show _ = [101, 118, 105, 99, 116] ++ _; simp)
      exact this
    · have hr : (Gx e).1 = [Z1 9] := by unfold Gx; simp [k]
      have hs : Cn e = (9, 0, 0, [], 0, [], [], []) := by unfold Cn; simp [k]
      rw [show (e.1 == 1) = false by rw [k]; rfl, show (e.1 == 2) = false by rw [k]; rfl, show (e.1 == 3) = false by rw [k]; rfl, show (e.1 == 4) = false by rw [k]; rfl, show (e.1 == 5) = false by rw [k]; rfl, show (e.1 == 6) = false by rw [k]; rfl, show (e.1 == 7) = false by rw [k]; rfl, show (e.1 == 8) = false by rw [k]; rfl, show (e.1 == 9) = true by rw [k]; rfl]
      simp only [cond_true, cond_false]
      have := fin (e.1, 0, 0, [], 0, [], [], []) [100, 114, 97, 105, 110] hk (by rw [hs, k]) (by rw [hr]; rfl)
      exact this
end Go.Proofs.YtoflbpmbkmephaaGreatDoor
namespace Go.Proofs.YtoflbpmbkmephaaGreatDoor
open Go.RowKit
open Go.Lib (decDigits)
abbrev Df := Int × Str × Bool × Bool
abbrev Mr := Int × Int × Int × List Df
def sfx (c : UInt8) (s : Str) : Str × Bool := if s.getLast? = some c then (s.dropLast, true) else (s, false)
theorem sfx_len (c : UInt8) (s : Str) : (sfx c s).1.length ≤ s.length := by
  unfold sfx
  split
  · simp
  · exact Nat.le_refl _
theorem lSfx (c : UInt8) (s : Str) (h : s.length ≤ 1000000) : Yx s [c] = some (sfx c s) := by
  have hs : Zb s [c] = some (decide (s.getLast? = some c)) := by
    unfold Zb Vx
    by_cases h0 : s = []
    · subst h0; rfl
    · have hp := List.length_pos_iff.2 h0
      rw [decide_eq_true (show ((s.length : Nat) : Int) ≥ ((([c] : List UInt8).length : Nat) : Int) by simp; omega), show IntKind.wrap .i64 (((s.length : Nat) : Int) - ((([c] : List UInt8).length : Nat) : Int)) = ((s.length - 1 : Nat) : Int) by rw [Z2 (by simp; omega)]; simp; omega, G5 s (by omega) (Nat.le_refl _)]
      simp only [cond_true, Option.bind_some, List.take_length]
      congr 1
      obtain ⟨a, x, rfl⟩ : ∃ a x, s = a ++ [x] := ⟨s.dropLast, s.getLast h0, (List.dropLast_concat_getLast h0).symm⟩
      rw [show (a ++ [x]).length - 1 = a.length by simp, List.drop_left, List.getLast?_append]
      by_cases hx : x = c
      · subst hx; simp
      · rw [beq_eq_false_iff_ne.2 (by simpa using hx)]
        symm
        rw [decide_eq_false_iff_not]
        simpa using hx
  unfold Yx Z5
  rw [hs]
  unfold sfx
  by_cases hc : s.getLast? = some c
  · have h0 : s ≠ [] := fun e => by rw [e] at hc; cases hc
    have hp := List.length_pos_iff.2 h0
    have s1 := G5 s (i := 0) (j := s.length - 1) (by omega) (by omega)
    rw [show ((0 : Nat) : Int) = 0 from rfl] at s1
    rw [if_pos hc, decide_eq_true hc]
    simp only [Option.bind_some, Bool.not_true, cond_false]
    rw [show IntKind.wrap .i64 (((s.length : Nat) : Int) - ((([c] : List UInt8).length : Nat) : Int)) = ((s.length - 1 : Nat) : Int) by rw [Z2 (by simp; omega)]; simp; omega, s1]
    simp only [Option.bind_some, List.drop_zero]
    rw [List.dropLast_eq_take]
  · rw [if_neg hc, decide_eq_false hc]
    rfl
theorem lCutW (c : UInt8) (s : Str) (hs : s.length ≤ 1000000) : Rj s [c] = some (Ef c s) := by
  unfold Rj Yp Zz Ef
  simp only [Option.bind_some]
  rcases Yj c s with ⟨h1, h2, h3⟩ | ⟨i, h1, h2, h3, h4, h5⟩
  · rw [h1]; rfl
  · rw [h1, if_neg (show ¬ ((i : Int) < 0) by omega), decide_eq_true (show (i : Int) ≥ 0 by omega)]
    have s1 := G5 s (i := 0) (j := i) (by omega) (by omega)
    rw [show ((0 : Nat) : Int) = 0 from rfl] at s1
    have s2 := G5 s (i := i + 1) (j := s.length) (by omega) (by omega)
    rw [s1, show IntKind.wrap .i64 ((i : Int) + ((([c] : List UInt8).length : Nat) : Int)) = ((i + 1 : Nat) : Int) by rw [Z2 (by simp; omega)]; simp, s2]
    simp
def Fp (w : Str) : Option Df :=
  match (Ef 61 w).2.2 with
  | false => none
  | true => (Qj (Ef 61 w).1).bind fun (n : Nat) => (unb (sfx 43 (sfx 33 (Ef 61 w).2.1).1).1).map fun b => ((n : Int), b, (sfx 43 (sfx 33 (Ef 61 w).2.1).1).2, (sfx 33 (Ef 61 w).2.1).2)
theorem sr_sent (w : Str) (q : List Str) (b : Bool) (h : w.length ≤ 1000000) : ∃ x : Df, Jn (w :: q) b = some (x.1, x.2.1, x.2.2.1, x.2.2.2, q, b || (Fp w).isNone) ∧ ∀ y, Fp w = some y → x = y := by
  have c1 := cutL_len 61 w
  have c2 := sfx_len 33 (Ef 61 w).2.1
  have c3 := sfx_len 43 (sfx 33 (Ef 61 w).2.1).1
  unfold Jn
  rw [Eu]
  simp only [List.headD_cons, List.tail_cons, List.isEmpty_cons, Bool.or_false, Option.bind_some]
  rw [lCutW 61 w h]
  simp only [Option.bind_some]
  rw [lParse _ (by omega), lSfx 33 _ (by omega)]
  simp only [Option.bind_some]
  rw [lSfx 43 _ (by omega)]
  simp only [Option.bind_some]
  rw [lUnb _ (by omega)]
  simp only [Option.bind_some, Xw, X1, Xi]
  unfold Fp
  refine ⟨((Qq (Qj (Ef 61 w).1)).1, (Rs (unb (sfx 43 (sfx 33 (Ef 61 w).2.1).1).1)).1, (sfx 43 (sfx 33 (Ef 61 w).2.1).1).2, (sfx 33 (Ef 61 w).2.1).2), ?_, ?_⟩
  · cases (Ef 61 w).2.2 <;> cases Qj (Ef 61 w).1 <;> cases unb (sfx 43 (sfx 33 (Ef 61 w).2.1).1).1 <;> cases b <;> rfl
  · intro y hy
    cases hc : (Ef 61 w).2.2 with
    | false => rw [hc] at hy; cases hy
    | true =>
      rw [hc] at hy
      simp only [Option.bind_eq_some_iff, Option.map_eq_some_iff] at hy
      obtain ⟨n, hn, z, hz, rfl⟩ := hy
      rw [hn, hz]
      rfl
def Dg (last : Int) : List Str → Option (List Df)
  | [] => some []
  | w :: q => (Fp w).bind fun x => if x.1 ≤ last then none else (Dg x.1 q).map fun l => x :: l
def B1 (q : List Str) : Option Mr := match q with | [a] => (Qj a).bind fun (n : Nat) => if n = 0 then none else some ((n : Int), 0, 0, []) | _ => none
def F1 (q : List Str) : Option Mr := match q with | a :: b :: r => (Qj a).bind fun (n : Nat) => (Qj b).bind fun (m : Nat) => (Dg (-1) r).map fun l => (0, (n : Int), (m : Int), l) | _ => none
def L5 (ws : List Str) : Option Mr :=
  match ws with
  | [] => none
  | w :: q => if w = [101, 114, 114] then B1 q else if w = [111, 107] then F1 q else none
theorem Fq (w : Str) (q : List Str) : L5 (w :: q) = if w = [101, 114, 114] then B1 q else if w = [111, 107] then F1 q else none := rfl
abbrev Out5 := Int × Int × Int × List Df × Bool
def Cm (x : Option Mr) : Out5 := match x with | none => (0, 0, 0, [], false) | some o => (o.1, o.2.1, o.2.2.1, o.2.2.2, true)
theorem B2 (b : Bool) (e c t : Int) (l : List Df) : Ng b e c t l = some (if b = true then (0, 0, 0, [], false) else (e, c, t, l, true)) := by
  cases b <;> rfl
theorem told_loop : ∀ (q : List Str) (b : Bool) (e c t : Int) (acc : List Df) (last : Int) (f : Nat), (∀ w ∈ q, w.length ≤ 1000000) → q.length < f → acc.length + q.length ≤ 2000000 →
    Xj f q b e c t acc last = some (match Dg last q, b with | some l, false => (e, c, t, acc ++ l, true) | _, _ => (0, 0, 0, [], false)) := by
  intro q
  induction q with
  | nil =>
    intro b e c t acc last f h1 h2 h3
    obtain ⟨f, rfl⟩ : ∃ g, f = g + 1 := ⟨f - 1, by omega⟩
    show Yz (Xj f) _ _ _ _ _ _ _ = _
    unfold Yz Nh
    rw [show decide (((([] : List Str).length : Nat) : Int) > 0) = false from rfl, cond_false, B2]
    cases b <;> simp [Dg]
  | cons w q ih =>
    intro b e c t acc last f h1 h2 h3
    obtain ⟨f, rfl⟩ : ∃ g, f = g + 1 := ⟨f - 1, by simp at h2; omega⟩
    obtain ⟨x, hx, hy⟩ := sr_sent w q b (h1 w (by simp))
    simp only [List.length_cons] at h2 h3
    have step : ∀ b', J1 (Xj f) e c t acc (x.1, x.2.1, x.2.2.1, x.2.2.2, q, b || (Fp w).isNone) b' = some (match Dg x.1 q, b' with | some l, false => (e, c, t, acc ++ (x :: l), true) | _, _ => (0, 0, 0, [], false)) := fun b' => by
      unfold J1
      rw [Z7 (by simp; omega)]
      simp only [Option.bind_some]
      rw [ih b' e c t (acc ++ [x]) x.1 f (fun v hv => h1 v (by simp [hv])) (by omega) (by simp; omega)]
      simp
    show Yz (Xj f) _ _ _ _ _ _ _ = _
    unfold Yz
    rw [show decide ((((w :: q).length : Nat) : Int) > 0) = true by rw [decide_eq_true_eq, List.length_cons]; omega, cond_true, hx]
    simp only [Option.bind_some, step]
    cases hs : Fp w with
    | none =>
      simp only [Option.isNone_none, Bool.or_true, cond_true, Dg, hs, Option.bind_none]
      cases Dg x.1 q <;> rfl
    | some y =>
      have := hy y hs
      subst this
      simp only [Option.isNone_some, Bool.or_false, Dg, hs, Option.bind_some]
      by_cases hle : x.1 ≤ last
      · rw [decide_eq_true hle, if_pos hle]
        cases b <;> cases Dg x.1 q <;> rfl
      · rw [decide_eq_false hle, if_neg hle]
        cases b <;> cases Dg x.1 q <;> rfl
theorem lTold (s : Str) (h : s.length ≤ 1000000) : Nu s = some (Cm (L5 (Va 32 s))) := by
  unfold Nu
  rw [lSplit s 32 h]
  simp only [Option.bind_some, Eu]
  have hl := Gn 32 s
  have hcnt := Dr 32 s
  have hcl : s.count 32 ≤ s.length := List.count_le_length
  cases hw : Va 32 s with
  | nil => exact absurd hw (Nx 32 s)
  | cons w q =>
    rw [hw] at hl hcnt
    have hq : ∀ x ∈ q, x.length ≤ 1000000 := fun x hx => by have := hl x (by simp [hx]); omega
    simp only [List.length_cons] at hcnt
    simp only [List.headD_cons, List.tail_cons, List.isEmpty_cons, Bool.or_false]
    rw [Fq]
    by_cases h1 : w = [101, 114, 114]
    · subst h1
      rw [if_pos rfl, show (([101, 114, 114] : Str) == [101, 114, 114]) = true from rfl, cond_true, E9 q false hq]
      simp only [Option.bind_some, J0]
      rcases q with _ | ⟨a, _ | ⟨c, r⟩⟩
      · rfl
      · cases ha : Qj a with
        | none => simp [ha, Qq, B2, Cm, B1]
        | some n =>
          by_cases hn : n = 0
          · subst hn; simp [ha, Qq, B2, Cm, B1]
          · simp [ha, Qq, B2, Cm, B1, hn, beq_eq_false_iff_ne.2 (show (n : Int) ≠ 0 by omega)]
      · cases ha : Qj a with
        | none => simp [ha, Qq, B2, Cm, B1]
        | some n =>
          have : decide ((0 : Int) < ((r.length : Nat) : Int) + 1) = true := by rw [decide_eq_true_eq]; omega
          by_cases hn : n = 0
          · subst hn; simp [ha, Qq, B2, Cm, B1]
          · simp [ha, Qq, B2, Cm, B1, hn, beq_eq_false_iff_ne.2 (show (n : Int) ≠ 0 by omega), this]
    · rw [if_neg h1, beq_eq_false_iff_ne.2 h1, cond_false]
      by_cases h2 : w = [111, 107]
      · subst h2
        rw [if_pos rfl, show (([111, 107] : Str) == [111, 107]) = true from rfl, cond_true, E9 q false hq]
        simp only [Option.bind_some]
        rw [E9 q.tail _ (fun x hx => hq x (List.mem_of_mem_tail hx))]
        simp only [Option.bind_some]
        rw [told_loop q.tail.tail _ _ _ _ _ _ Y1 (fun x hx => hq x (List.mem_of_mem_tail (List.mem_of_mem_tail hx))) (by simp; unfold Y1; omega) (by simp; omega)]
        rcases q with _ | ⟨a, _ | ⟨c, r⟩⟩
        · simp [Dg, Cm, F1]
        · simp [Dg, Cm, F1]
        · cases ha : Qj a with
          | none => simp [ha, Qq, Cm, F1]
          | some n =>
            cases hc : Qj c with
            | none => simp [ha, hc, Qq, Cm, F1]
            | some m => simp [ha, hc, Qq, F1]; cases Dg (-1) r <;> rfl
      · rw [if_neg h2, beq_eq_false_iff_ne.2 h2, cond_false]
        rfl
end Go.Proofs.YtoflbpmbkmephaaGreatDoor
namespace Go.Proofs.YtoflbpmbkmephaaGreatDoor
open Go.RowKit
def Rq (x : Df) : Str := Ds x.1 ++ [61] ++ Nj x.2.1 ++ (if x.2.2.1 = true then [43] else []) ++ (if x.2.2.2 = true then [33] else [])
def okS (last : Int) : List Df → Bool
  | [] => true
  | x :: r => (decide (last < x.1) && decide (x.1 ≤ 1099511627776)) && okS x.1 r
def tellE (o : Mr) : Bool := Dt o.1 && (decide (o.2.1 = 0) && (decide (o.2.2.1 = 0) && decide (o.2.2.2.length = 0)))
def tellK (o : Mr) : Bool := Dt o.2.1 && (Dt o.2.2.1 && okS (-1) o.2.2.2)
def Iu (o : Mr) : List Str := [[101, 114, 114], Ds o.1]
def Fd (o : Mr) : List Str := [111, 107] :: Ds o.2.1 :: Ds o.2.2.1 :: o.2.2.2.map Rq
def L6 (o : Mr) : Str := if o.1 = 0 then (if tellK o = true then G3 32 (Fd o) else []) else (if tellE o = true then G3 32 (Iu o) else [])
theorem lFlag (b : Bool) (w : Str) : Rk b w = some (if b = true then w else []) := by cases b <;> rfl
theorem Ms (q : List Str) (b : Bool) (h : b = false → (q.map List.length).sum + q.length ≤ 140737488355328) (hq : q.length ≤ 1000000) : Q0 q b = some (if b = true then [] else G3 32 q) := by
  unfold Q0
  cases b
  · have hl := Fa 32 q
    have := h rfl
    unfold U1
    rw [Fo, Nat.ble_eq_true_of_le (show q.length ≤ 140737488355328 by omega), Nat.ble_eq_true_of_le (show (G3 32 q).length ≤ 140737488355328 by omega)]
    rfl
  · rfl
theorem tell_loop (l : List Df) (hl : l.length ≤ 100000) (hb : ∀ x ∈ l, x.2.1.length ≤ 1000000) : ∀ (d i f : Nat) (ws : List Str) (b : Bool) (last : Int), d = l.length - i → i ≤ l.length → d < f → ws.length ≤ 3 + i →
    X5 l f ws b last (i : Int) = Q0 (ws ++ (l.drop i).map Rq) (b || !(okS last (l.drop i))) := by
  intro d
  induction d with
  | zero =>
    intro i f ws b last h1 h2 h3 h4
    obtain ⟨f, rfl⟩ : ∃ g, f = g + 1 := ⟨f - 1, by omega⟩
    show Jl (X5 l f) l ws b last (i : Int) = _
    unfold Jl
    rw [decide_eq_false (show ¬ ((i : Int) < ((l.length : Nat) : Int)) by omega), cond_false, List.drop_of_length_le (by omega)]
    simp only [List.map_nil, List.append_nil, okS, Bool.not_true, Bool.or_false]
    cases Q0 ws b <;> rfl
  | succ d ih =>
    intro i f ws b last h1 h2 h3 h4
    obtain ⟨f, rfl⟩ : ∃ g, f = g + 1 := ⟨f - 1, by omega⟩
    have hi : i < l.length := by omega
    have hB := hb l[i] (List.getElem_mem hi)
    have hd := G4 l[i].1
    have hw := Rz l[i].2.1
    have step : ∀ b', Jk (X5 l f) ws (i : Int) l[i] b' = Q0 (ws ++ (l.drop i).map Rq) (b' || !(okS l[i].1 (l.drop (i + 1)))) := fun b' => by
      unfold Jk
      simp only [Ha, Option.bind_some, lBytes _ hB, lFlag]
      rw [Z7 (by simp; omega)]
      simp only [Option.bind_some]
      rw [Z7 (by simp; omega)]
      simp only [Option.bind_some]
      rw [Z7 (by simp only [List.length_append, List.length_cons, List.length_nil]; split <;> simp <;> omega)]
      simp only [Option.bind_some]
      rw [Z7 (by simp only [List.length_append, List.length_cons, List.length_nil]; split <;> split <;> simp <;> omega)]
      simp only [Option.bind_some]
      rw [F0 _ _ _ (by simp only [List.length_cons, List.length_nil]; omega)]
      simp only [Option.bind_some]
      rw [show (i : Int) + 1 = ((i + 1 : Nat) : Int) by omega, E0 (by omega), ih (i + 1) f _ _ _ (by omega) (by omega) (by omega) (by simp only [List.length_append, List.length_cons, List.length_nil]; omega)]
      rw [List.drop_eq_getElem_cons hi, List.map_cons, List.append_assoc]
      rfl
    show Jl (X5 l f) l ws b last (i : Int) = _
    unfold Jl
    rw [decide_eq_true (show (i : Int) < ((l.length : Nat) : Int) by omega), cond_true, U6 hi]
    simp only [Option.bind_some, step]
    have hok : okS last (l.drop i) = ((decide (last < l[i].1) && decide (l[i].1 ≤ 1099511627776)) && okS l[i].1 (l.drop (i + 1))) := by rw [List.drop_eq_getElem_cons hi]; rfl
    rw [hok]
    cases b with
    | true => rfl
    | false =>
      simp only [cond_false, Bool.false_or]
      by_cases hc : l[i].1 ≤ last
      · rw [decide_eq_true hc, cond_true, decide_eq_false (show ¬ (last < l[i].1) by omega)]
        rfl
      · rw [decide_eq_false hc, cond_false, decide_eq_true (show last < l[i].1 by omega)]
        by_cases hg : l[i].1 > 1099511627776
        · rw [decide_eq_true hg, decide_eq_false (show ¬ (l[i].1 ≤ 1099511627776) by omega)]; rfl
        · rw [decide_eq_false hg, decide_eq_true (show l[i].1 ≤ 1099511627776 by omega)]; rfl
theorem K9 (x : Df) : (Rq x).length ≤ 2 * x.2.1.length + 17 := by
  have hd := G4 x.1
  have hw := Rz x.2.1
  unfold Rq
  simp only [List.length_append, List.length_cons, List.length_nil]
  split <;> split <;> simp <;> omega
theorem La {α : Type} (g : α → Nat) (M : Nat) : ∀ l : List α, (∀ x ∈ l, g x ≤ M) → (l.map g).sum ≤ l.length * M
  | [], _ => by simp
  | x :: l, h => by
    have ih := La g M l fun y hy => h y (by simp [hy])
    have := h x (by simp)
    simp only [List.map_cons, List.sum_cons, List.length_cons, Nat.succ_mul]
    omega
theorem Oe (o : Mr) (hl : o.2.2.2.length ≤ 100000) (hb : ∀ x ∈ o.2.2.2, x.2.1.length ≤ 1000000) : ((Fd o).map List.length).sum + (Fd o).length ≤ 140737488355328 := by
  have h1 := G4 o.2.1
  have h2 := G4 o.2.2.1
  have h3 := La (fun x => (Rq x).length) 2000017 o.2.2.2 fun x hx => by have := K9 x; have := hb x hx; omega
  have h4 : o.2.2.2.length * 2000017 ≤ 100000 * 2000017 := Nat.mul_le_mul_right _ hl
  unfold Fd
  simp only [List.map_cons, List.sum_cons, List.length_cons, List.length_nil, List.length_map, List.map_map]
  have : (o.2.2.2.map (List.length ∘ Rq)).sum = (o.2.2.2.map fun x => (Rq x).length).sum := rfl
  rw [this]
  omega
theorem lTell (o : Mr) (hl : o.2.2.2.length ≤ 100000) (hb : ∀ x ∈ o.2.2.2, x.2.1.length ≤ 1000000) : Nt o.1 o.2.1 o.2.2.1 o.2.2.2 = some (L6 o) := by
  unfold Nt L6
  by_cases he : o.1 = 0
  · rw [if_pos he, show (o.1 != 0) = false by rw [he]; rfl, cond_false, F0 _ _ _ (by simp)]
    simp only [Option.bind_some, List.nil_append]
    rw [Fc _ _ _ (by simp)]
    simp only [Option.bind_some]
    rw [Fc _ _ _ (by simp)]
    simp only [Option.bind_some]
    have := tell_loop o.2.2.2 hl hb o.2.2.2.length 0 Y1 [[111, 107], Ds o.2.1, Ds o.2.2.1] ((false || !(Dt o.2.1)) || !(Dt o.2.2.1)) (-1) (by omega) (by omega) (by unfold Y1; omega) (by simp)
    refine this.trans ?_
    rw [List.drop_zero]
    show Q0 (Fd o) _ = _
    rw [Ms _ _ (fun _ => Oe o hl hb) (by simp [Fd]; omega)]
    unfold tellK
    cases Dt o.2.1 <;> cases Dt o.2.2.1 <;> cases okS (-1) o.2.2.2 <;> rfl
  · rw [if_neg he, show (o.1 != 0) = true by rw [bne_iff_ne]; exact he, cond_true, F0 _ _ _ (by simp)]
    simp only [Option.bind_some, List.nil_append]
    rw [Fc _ _ _ (by simp)]
    simp only [Option.bind_some, Jj]
    have hd := G4 o.1
    have hlin : ∀ b, Q0 ([[101, 114, 114]] ++ [Ds o.1]) b = some (if b = true then [] else G3 32 (Iu o)) := fun b => Ms _ b (fun _ => by simp; omega) (by simp)
    simp only [hlin, Option.bind_some]
    unfold tellE
    have z : decide (((List.length o.2.2.2 : Nat) : Int) > 0) = !(decide (o.2.2.2.length = 0)) := by rw [← decide_not]; exact decide_eq_decide.2 (by omega)
    rw [z]
    have n1 : (o.2.1 != 0) = !(decide (o.2.1 = 0)) := by
      by_cases h : o.2.1 = 0
      · rw [h]; rfl
      · rw [decide_eq_false h, bne_iff_ne.2 h]; rfl
    have n2 : (o.2.2.1 != 0) = !(decide (o.2.2.1 = 0)) := by
      by_cases h : o.2.2.1 = 0
      · rw [h]; rfl
      · rw [decide_eq_false h, bne_iff_ne.2 h]; rfl
    rw [n1, n2]
    cases Dt o.1 <;> cases decide (o.2.1 = 0) <;> cases decide (o.2.2.1 = 0) <;> cases decide (o.2.2.2.length = 0) <;> rfl
theorem sfx_yes (c : UInt8) (a : Str) : sfx c (a ++ [c]) = (a, true) := by
  unfold sfx
  rw [if_pos (by simp)]
  simp
theorem sfx_no (c : UInt8) (a : Str) (x : UInt8) (h : x ≠ c) : sfx c (a ++ [x]) = (a ++ [x], false) := by
  unfold sfx
  rw [if_neg (by simpa using h)]
theorem sfx_inv {c : UInt8} {s a : Str} {b : Bool} (h : sfx c s = (a, b)) : s = a ++ (if b = true then [c] else []) := by
  unfold sfx at h
  split at h
  · rename_i hc
    injection h with h1 h2
    subst h1 h2
    have h0 : s ≠ [] := fun e => by rw [e] at hc; cases hc
    rw [List.getLast?_eq_some_getLast h0] at hc
    injection hc with hc
    rw [if_pos rfl, ← hc]
    exact (List.dropLast_concat_getLast h0).symm
  · injection h with h1 h2
    subst h1 h2
    simp
theorem Iv {w : Str} {x : Df} (h : Fp w = some x) : Rq x = w ∧ Dt x.1 = true ∧ x.2.1.length ≤ w.length := by
  unfold Fp at h
  rcases hc : Ef 61 w with ⟨id, rest, is⟩
  rw [hc] at h
  cases is with
  | false => cases h
  | true =>
    simp only at h
    rcases hs1 : sfx 33 rest with ⟨r1, c⟩
    rw [hs1] at h
    simp only at h
    rcases hs2 : sfx 43 r1 with ⟨r2, e⟩
    rw [hs2] at h
    simp only [Option.bind_eq_some_iff, Option.map_eq_some_iff] at h
    obtain ⟨n, hn, b, hb, rfl⟩ := h
    obtain ⟨d1, d2⟩ := Fb hn
    have hw := cutL_true hc
    have i1 := sfx_inv hs1
    have i2 := sfx_inv hs2
    have hge := K7 b
    have e1 : Rq ((n : Int), b, e, c) = w := by
      unfold Rq
      simp only [d1, unb_bytes hb]
      rw [hw, i1, i2]
      simp
    refine ⟨e1, d2, ?_⟩
    rw [← e1]
    unfold Rq
    simp only [List.length_append]
    omega
theorem H5 : ∀ (q : List Str) (last : Int) (l : List Df), -1 ≤ last → Dg last q = some l → l.map Rq = q ∧ okS last l = true
  | [], _, l, _, h => by injection h with h; subst h; exact ⟨rfl, rfl⟩
  | w :: q, last, l, h0, h => by
    unfold Dg at h
    rw [Option.bind_eq_some_iff] at h
    obtain ⟨x, hx, h⟩ := h
    split at h
    · cases h
    · rename_i hle
      rw [Option.map_eq_some_iff] at h
      obtain ⟨r, hr, rfl⟩ := h
      obtain ⟨s1, s2, _⟩ := Iv hx
      obtain ⟨i1, i2⟩ := H5 q x.1 r (by omega) hr
      unfold Dt at s2
      rw [Bool.and_eq_true, decide_eq_true_eq, decide_eq_true_eq] at s2
      refine ⟨by rw [List.map_cons, s1, i1], ?_⟩
      unfold okS
      rw [decide_eq_true (show last < x.1 by omega), decide_eq_true s2.2, i2]
      rfl
theorem told_inv {s : Str} {o : Mr} (h : L5 (Va 32 s) = some o) : L6 o = s ∧ o.2.2.2.length ≤ s.length + 1 ∧ ∀ x ∈ o.2.2.2, x.2.1.length ≤ s.length := by
  have hlen := Gn 32 s
  have hcnt := Dr 32 s
  have hcl : s.count 32 ≤ s.length := List.count_le_length
  have hj := Iq 32 s
  cases hw : Va 32 s with
  | nil => exact absurd hw (Nx 32 s)
  | cons w q =>
    rw [hw] at h hlen hcnt hj
    rw [Fq] at h
    by_cases h1 : w = [101, 114, 114]
    · rw [if_pos h1] at h
      subst h1
      unfold B1 at h
      rcases q with _ | ⟨a, _ | ⟨b, r⟩⟩ <;> try (cases h; done)
      simp only [Option.bind_eq_some_iff] at h
      obtain ⟨n, hn, h⟩ := h
      split at h
      · cases h
      · rename_i h0
        injection h with h
        subst h
        obtain ⟨d1, d2⟩ := Fb hn
        refine ⟨?_, by simp, by simp⟩
        unfold L6
        simp only
        rw [if_neg (by omega), if_pos (by unfold tellE; simp only [d2]; rfl)]
        rw [← hj]
        simp only [Iu, d1]
    · rw [if_neg h1] at h
      by_cases h2 : w = [111, 107]
      · rw [if_pos h2] at h
        subst h2
        unfold F1 at h
        rcases q with _ | ⟨a, _ | ⟨b, r⟩⟩ <;> try (cases h; done)
        simp only [Option.bind_eq_some_iff, Option.map_eq_some_iff] at h
        obtain ⟨n, hn, m, hm, l, hl, rfl⟩ := h
        obtain ⟨d1, d2⟩ := Fb hn
        obtain ⟨d3, d4⟩ := Fb hm
        obtain ⟨t1, t2⟩ := H5 r (-1) l (by omega) hl
        refine ⟨?_, ?_, fun x hx => ?_⟩
        · unfold L6
          simp only
          rw [if_pos trivial, if_pos (by unfold tellK; simp only [d2, d4, t2]; rfl), ← hj]
          simp only [Fd, d1, d3, t1]
        · have := congrArg List.length t1
          simp only [List.length_map] at this
          simp only [List.length_cons] at hcnt
          simp only
          omega
        · have hm : Rq x ∈ r := by rw [← t1]; exact List.mem_map.2 ⟨x, hx, rfl⟩
          have h5 := hlen (Rq x) (by simp [hm])
          have h6 := K7 x.2.1
          unfold Rq at h5
          simp only [List.length_append] at h5
          omega
      · rw [if_neg h2] at h
        cases h
theorem same_loop (a b : List Df) (hlen : a.length = b.length) (hl : a.length ≤ 140737488355328) : ∀ (d i f : Nat), d = a.length - i → i ≤ a.length → d < f → Zf a b f (i : Int) = some (decide (a.drop i = b.drop i)) := by
  intro d
  induction d with
  | zero =>
    intro i f h1 h2 h3
    obtain ⟨f, rfl⟩ : ∃ g, f = g + 1 := ⟨f - 1, by omega⟩
    show Ze (Zf a b f) a b (i : Int) = _
    unfold Ze
    rw [decide_eq_false (show ¬ ((i : Int) < ((a.length : Nat) : Int)) by omega), cond_false, List.drop_of_length_le (by omega), List.drop_of_length_le (by omega)]
    rfl
  | succ d ih =>
    intro i f h1 h2 h3
    obtain ⟨f, rfl⟩ : ∃ g, f = g + 1 := ⟨f - 1, by omega⟩
    have hi : i < a.length := by omega
    have hib : i < b.length := by omega
    show Ze (Zf a b f) a b (i : Int) = _
    unfold Ze
    rw [decide_eq_true (show (i : Int) < ((a.length : Nat) : Int) by omega), cond_true, U6 hi, U6 hib]
    simp only [Option.bind_some]
    rw [List.drop_eq_getElem_cons hi, List.drop_eq_getElem_cons hib]
    have heq : ((a[i].1 == b[i].1) && ((a[i].2.1 == b[i].2.1) && ((a[i].2.2.1 == b[i].2.2.1) && (a[i].2.2.2 == b[i].2.2.2)))) = decide (a[i] = b[i]) := by
      generalize a[i] = x
      generalize b[i] = y
      obtain ⟨x1, x2, x3, x4⟩ := x
      obtain ⟨y1, y2, y3, y4⟩ := y
      rw [Bool.eq_iff_iff]
      simp
    rw [heq]
    by_cases hx : a[i] = b[i]
    · rw [decide_eq_true hx, show (i : Int) + 1 = ((i + 1 : Nat) : Int) by omega, E0 (by omega)]
      simp only [Bool.not_true, cond_false]
      rw [ih (i + 1) f (by omega) (by omega) (by omega), hx]
      congr 1
      exact decide_eq_decide.2 (by rw [List.cons.injEq]; simp only [true_and])
    · rw [decide_eq_false hx]
      simp only [Bool.not_false, cond_true]
      congr 1
      symm
      rw [decide_eq_false_iff_not]
      intro e
      injection e with e _
      exact hx e
theorem same_out (a b : Mr) (hl : a.2.2.2.length ≤ 140737488355328) : ∃ r, Yd a.1 a.2.1 a.2.2.1 a.2.2.2 b.1 b.2.1 b.2.2.1 b.2.2.2 = some r ∧ (r = true ↔ a = b) := by
  obtain ⟨a1, a2, a3, a4⟩ := a
  obtain ⟨b1, b2, b3, b4⟩ := b
  unfold Yd Zg
  simp only [Prod.mk.injEq]
  by_cases h1 : a1 = b1
  · subst h1
    by_cases h2 : a2 = b2
    · subst h2
      by_cases h3 : a3 = b3
      · subst h3
        simp only [bne_self_eq_false, cond_false, true_and]
        by_cases h4 : a4.length = b4.length
        · have := same_loop a4 b4 h4 hl a4.length 0 Y1 (by omega) (by omega) (by unfold Y1; simp only at hl; omega)
          rw [List.drop_zero, List.drop_zero] at this
          rw [h4, bne_self_eq_false, cond_false]
          exact ⟨_, this, decide_eq_true_iff⟩
        · rw [show (((a4.length : Nat) : Int) != ((b4.length : Nat) : Int)) = true by rw [bne_iff_ne]; omega, cond_true]
          exact ⟨_, rfl, by simp only [Bool.false_eq_true, false_iff]; intro e; exact h4 (by rw [e])⟩
      · rw [bne_self_eq_false, bne_self_eq_false, show (a3 != b3) = true from bne_iff_ne.2 h3]
        exact ⟨_, rfl, by simp [h3]⟩
    · rw [bne_self_eq_false, show (a2 != b2) = true from bne_iff_ne.2 h2]
      exact ⟨_, rfl, by simp [h2]⟩
  · rw [show (a1 != b1) = true from bne_iff_ne.2 h1]
    exact ⟨_, rfl, by simp [h1]⟩
theorem Ka (l : List Df) (hl : l.length ≤ 140737488355328) (hb : ∀ x ∈ l, x.2.1.length ≤ 140737488355328) : ∀ (d i f n : Nat), d = l.length - i → i ≤ l.length → d < f → n ≤ 140737488355328 + 9000 →
    ∃ b, Vn l f (n : Int) (i : Int) = some b ∧ (b = false → n + ((l.drop i).map fun x => x.2.1.length).sum < 9000) := by
  intro d
  induction d with
  | zero =>
    intro i f n h1 h2 h3 h4
    obtain ⟨f, rfl⟩ : ∃ g, f = g + 1 := ⟨f - 1, by omega⟩
    show ∃ b, V8 (Vn l f) l (n : Int) (i : Int) = some b ∧ _
    unfold V8 Zq
    rw [decide_eq_false (show ¬ ((i : Int) < ((l.length : Nat) : Int)) by omega), cond_false, cond_false, List.drop_of_length_le (by omega)]
    refine ⟨_, rfl, fun h => ?_⟩
    have := of_decide_eq_false h
    simp
    omega
  | succ d ih =>
    intro i f n h1 h2 h3 h4
    obtain ⟨f, rfl⟩ : ∃ g, f = g + 1 := ⟨f - 1, by omega⟩
    have hi : i < l.length := by omega
    show ∃ b, V8 (Vn l f) l (n : Int) (i : Int) = some b ∧ _
    unfold V8 Zq
    rw [decide_eq_true (show (i : Int) < ((l.length : Nat) : Int) by omega), cond_true]
    by_cases hn : n < 9000
    · rw [decide_eq_true (show (n : Int) < 9000 by omega), cond_true, U6 hi]
      simp only [Option.bind_some]
      have hm : (if (9000 : Int) < ((List.length l[i].2.1 : Nat) : Int) then (9000 : Int) else ((List.length l[i].2.1 : Nat) : Int)) = ((min l[i].2.1.length 9000 : Nat) : Int) := by split <;> omega
      rw [hm, show (n : Int) + ((min l[i].2.1.length 9000 : Nat) : Int) = ((n + min l[i].2.1.length 9000 : Nat) : Int) by omega, show (i : Int) + 1 = ((i + 1 : Nat) : Int) by omega, E0 (by omega), E0 (by omega)]
      obtain ⟨b, hb1, hb2⟩ := ih (i + 1) f (n + min l[i].2.1.length 9000) (by omega) (by omega) (by omega) (by omega)
      refine ⟨b, hb1, fun h => ?_⟩
      have := hb2 h
      rw [List.drop_eq_getElem_cons hi, List.map_cons, List.sum_cons]
      omega
    · rw [decide_eq_false (show ¬ ((n : Int) < 9000) by omega), cond_false]
      refine ⟨_, rfl, fun h => ?_⟩
      have := of_decide_eq_false h
      omega
theorem mem_sum {α : Type} (g : α → Nat) : ∀ (l : List α) (x : α), x ∈ l → g x ≤ (l.map g).sum
  | y :: l, x, h => by
    rcases List.mem_cons.1 h with rfl | h
    · simp
    · have := mem_sum g l x h
      simp only [List.map_cons, List.sum_cons]
      omega
theorem L7 (e c t : Int) (l : List Df) (hl : l.length ≤ 140737488355328) (hb : ∀ x ∈ l, x.2.1.length ≤ 140737488355328) :
    ∃ b, Ue e c t l = some b ∧ (b = false → l.length < 9000 ∧ (l.map fun x => x.2.1.length).sum < 9000) := by
  obtain ⟨b, h1, h2⟩ := Ka l hl hb l.length 0 Y1 l.length (by omega) (by omega) (by unfold Y1; omega) (by omega)
  refine ⟨b, h1, fun h => ?_⟩
  have := h2 h
  rw [List.drop_zero] at this
  omega
end Go.Proofs.YtoflbpmbkmephaaGreatDoor
