import Derived.Test.YtoflbpmbkmephaaGreatDoorPkConfigLines2
set_option linter.unusedSimpArgs false
set_option linter.unusedVariables false
set_option linter.unusedSectionVars false
set_option maxRecDepth 100000
set_option maxHeartbeats 40000000
namespace Go.Proofs.YtoflbpmbkmephaaGreatDoor
open Go.RowKit
def Zv (q2 : Int) (q3 : Int) (q4 : Int) (q5 : Int) (q7 : Int) (a : (Int × Bool)) (b : Bool) : Option (Int × Int × Int × Int × Int × Int × Bool) :=
  (some (a.1, q2, q3, q4, q5, q7, b))
def Vd (q2 : Int) (q3 : Int) (q4 : Int) (q5 : Int) (q7 : Int) (q8 : Bool) (p9 : (List UInt8)) : Option (Int × Int × Int × Int × Int × Int × Bool) :=
  ((Ua p9).bind fun a => (cond q8 (Zv q2 q3 q4 q5 q7 a true) (Zv q2 q3 q4 q5 q7 a (!a.2))))
set_option maxHeartbeats 40000000 in
theorem Q3 {S : List Nat} (g1 : Nat) (v6 : Value) (q2 : Int) (q3 : Int) (q4 : Int) (q5 : Int) (q7 : Int) (q8 : Bool) (p9 : (List UInt8)) (w0 : World) (hL : ∀ w, Mod S w0 w → Uj w) (hO : SP S w0 w0 [Qw g1 72 #[(.int .i64 q2), (.int .i64 q3), (.int .i64 q4), (.int .i64 q5), v6, (.int .i64 q7), (.bool q8)]])  (r : (Int × Int × Int × Int × Int × Int × Bool)) (H : Vd q2 q3 q4 q5 q7 q8 p9 = some r) :
  Calls Tryz.prog 164 #[(pt g1 0), (.string ⟨List.toArray p9⟩)] w0 (fun e w' => e = .returned (.int .i64 r.1) ∧ SP S w0 w' [Qw g1 72 #[(.int .i64 r.2.1), (.int .i64 r.2.2.1), (.int .i64 r.2.2.2.1), (.int .i64 r.2.2.2.2.1), v6, (.int .i64 r.2.2.2.2.2.1), (.bool r.2.2.2.2.2.2)]]) := by
 unfold Vd at H
 refine Qv (n := 24) Tryz.func164 K K K ?_
 have j := hO
 refine aQ ?_
 refine aR ?_
 refine iR 1 1 [(4, (.int .i64 0))] ?_
 refine iF ?_
 refine aQ ?_
 refine aR ?_
 refine iR 1 1 [(8, (.string ⟨List.toArray p9⟩))] ?_
 obtain ⟨a, o, H⟩ := Qc H
 refine iS 2 ?_
 refine cF 135 #[(.tmp 8)] #[9] 9 Tryz.call135 (Xt  p9 w0 (hL w0 (SP.mod j)) a o) ?_
 rintro e u ⟨rfl, m⟩
 refine ⟨_, rfl, ?_⟩
 have c := SP.call j m
 clear m
 refine iR 5 7 [(7, (.tuple #[(.int .i64 a.1), (.bool a.2)])), (10, (.int .i64 a.1)), (11, (.bool a.2)), (5, (.int .i64 a.1)), (6, (.bool a.2))] ?_
 refine iF ?_
 refine aQ ?_
 refine At.join (fun ρ w => ∃ (f : Bool), Zi ρ [(5, (.int .i64 a.1))] ∧ SP S w0 w [Qw g1 72 #[(.int .i64 q2), (.int .i64 q3), (.int .i64 q4), (.int .i64 q5), v6, (.int .i64 q7), (.bool f)]] ∧ Zv q2 q3 q4 q5 q7 a f = some r) ?_ ?_
 ·refine aR ?_
  refine iR 4 4 [(12, (pt g1 0)), (13, (pt g1 0)), (14, (pt g1 0)), (15, (pt g1 6))] ?_
  refine iS 5 ?_
  refine sL 4 15 g1 6 0 (.bool q8) 16 c rfl ?_
  refine iR 1 6 [(17, (.bool q8))] ?_
  refine In.guard (t := 17) (b := q8) K (fun h => ?_) (fun h => ?_)
  ·have H := ct H h
   refine iR 5 11 [(18, undef), (19, undef), (20, (.bool true)), (21, (pt g1 0)), (22, (pt g1 6))] ?_
   refine iS 12 ?_
   refine Qi.store (t := 4) (x := (.tmp 22)) (y := (.tmp 20)) (g := g1) (off := 6) (i := 0) (v := (.bool true)) (cs' := #[(.int .i64 q2), (.int .i64 q3), (.int .i64 q4), (.int .i64 q5), v6, (.int .i64 q7), (.bool true)]) (d := none) (k := 11) K rfl K K c rfl K ?_
   intro z p
   refine iF ?_
   exact ⟨true, ⟨K, trivial⟩, SP.sel p [0] rfl rfl, H⟩
  ·have H := cf H h
   refine iR 5 11 [(18, (.bool a.2)), (19, (.bool (!a.2))), (20, (.bool (!a.2))), (21, (pt g1 0)), (22, (pt g1 6))] ?_
   refine iS 12 ?_
   refine Qi.store (t := 4) (x := (.tmp 22)) (y := (.tmp 20)) (g := g1) (off := 6) (i := 0) (v := (.bool (!a.2))) (cs' := #[(.int .i64 q2), (.int .i64 q3), (.int .i64 q4), (.int .i64 q5), v6, (.int .i64 q7), (.bool (!a.2))]) (d := none) (k := 11) K rfl K K c rfl K ?_
   intro a0 q
   refine iF ?_
   exact ⟨(!a.2), ⟨K, trivial⟩, SP.sel q [0] rfl rfl, H⟩
 ·rintro ρ a1 ⟨f, hk, s, H⟩
  unfold Zv at H
  first | refine At.known [(5, (.int .i64 a.1))] hk ?_ | rw [← Q1 (l := [(5, (.int .i64 a.1))]) hk]
  refine aQ ?_
  refine aR ?_
  refine iR 2 2 [(23, (.int .i64 a.1)), (4, (.int .i64 a.1))] ?_
  refine iF ?_
  refine At.ret K ?_
  refine ⟨(.int .i64 a.1), K, ?_⟩
  obtain rfl := Qf H
  exact ⟨rfl, SP.sel s [0] rfl rfl⟩
def X1 (q2 : Int) (q3 : Int) (q4 : Int) (q5 : Int) (q7 : Int) (q8 : Bool) (p9 : (List (List UInt8))) : Option (Int × Int × Int × Int × Int × Bool) :=
  ((idx p9 1).bind fun e => ((Vd q2 q3 q4 q5 q7 (decide (q7 > 0)) e).bind fun a => ((idx p9 2).bind fun f => ((Vd a.2.1 a.2.2.1 a.2.2.2.1 a.2.2.2.2.1 a.2.2.2.2.2.1 a.2.2.2.2.2.2 f).bind fun b => ((idx p9 3).bind fun g => ((Vd b.2.1 b.2.2.1 b.2.2.2.1 b.2.2.2.2.1 b.2.2.2.2.2.1 b.2.2.2.2.2.2 g).bind fun c => ((idx p9 4).bind fun h => ((Vd c.2.1 c.2.2.1 c.2.2.2.1 c.2.2.2.2.1 c.2.2.2.2.2.1 c.2.2.2.2.2.2 h).bind fun d => (some (a.1, b.1, c.1, d.1, d.2.2.2.2.2.1, d.2.2.2.2.2.2))))))))))
set_option maxHeartbeats 40000000 in
theorem U8 {S : List Nat} (g1 : Nat) (v6 : Value) (q : Option Addr) (s : Nat) (q2 : Int) (q3 : Int) (q4 : Int) (q5 : Int) (q7 : Int) (q8 : Bool) (p9 : (List (List UInt8))) (w0 : World) (hL : ∀ w, Mod S w0 w → Uj w) (hO : SP S w0 w0 [Qw g1 72 #[(.int .i64 q2), (.int .i64 q3), (.int .i64 q4), (.int .i64 q5), v6, (.int .i64 q7), (.bool q8)]]) (u : ∀ w, Mod S w0 w → RdT Qo w q s p9) (r : (Int × Int × Int × Int × Int × Bool)) (H : X1 q2 q3 q4 q5 q7 q8 p9 = some r) :
  Calls Tryz.prog 142 #[(pt g1 0), (.slice q (List.length p9) s)] w0 (fun e w' => e = .returned (.tuple #[]) ∧ SP S w0 w' [Qw g1 72 #[(.int .i64 r.1), (.int .i64 r.2.1), (.int .i64 r.2.2.1), (.int .i64 r.2.2.2.1), v6, (.int .i64 r.2.2.2.2.1), (.bool r.2.2.2.2.2)]]) := by
 unfold X1 at H
 refine Qv (n := 48) Tryz.func142 K K K ?_
 have b8 := hO
 refine aQ ?_
 refine aR ?_
 refine iR 4 4 [(4, (pt g1 0)), (5, (pt g1 0)), (6, (pt g1 0)), (7, (pt g1 5))] ?_
 refine iS 5 ?_
 refine sL 3 7 g1 5 0 (.int .i64 q7) 8 b8 rfl ?_
 refine iR 3 8 [(9, (.bool (decide (q7 > 0)))), (10, (pt g1 0)), (11, (pt g1 6))] ?_
 refine iS 9 ?_
 refine Qi.store (t := 4) (x := (.tmp 11)) (y := (.tmp 9)) (g := g1) (off := 6) (i := 0) (v := (.bool (decide (q7 > 0)))) (cs' := #[(.int .i64 q2), (.int .i64 q3), (.int .i64 q4), (.int .i64 q5), v6, (.int .i64 q7), (.bool (decide (q7 > 0)))]) (d := none) (k := 8) K rfl K K b8 rfl K ?_
 intro q9 d1
 refine iF ?_
 obtain ⟨b1, b9, c0, d2, H⟩ := Vk H
 obtain ⟨m, d3, H⟩ := Qc H
 obtain ⟨a7, a8, a9, c1, H⟩ := Vk H
 obtain ⟨o, d4, H⟩ := Qc H
 obtain ⟨a5, a2, a3, b2, H⟩ := Vk H
 obtain ⟨p, d5, H⟩ := Qc H
 obtain ⟨a4, z, a0, b0, H⟩ := Vk H
 obtain ⟨f, d6, H⟩ := Qc H
 refine aG [GEq (pt g1 0), GEq (pt g1 0), GEq (pt g1 0), GEq (pt g1 0), GEq (pt g1 0), GEq (.slice q (List.length p9) s), Ja q Qo.sz 1, GEq (.string ⟨List.toArray b1⟩), GEq (.int .i64 m.1), GEq (pt g1 0), GEq (.slice q (List.length p9) s), Ja q Qo.sz 2, GEq (.string ⟨List.toArray a7⟩), GEq (.int .i64 o.1), GEq (pt g1 0), GEq (.slice q (List.length p9) s), Ja q Qo.sz 3, GEq (.string ⟨List.toArray a5⟩), GEq (.int .i64 p.1), GEq (pt g1 0), GEq (.slice q (List.length p9) s), Ja q Qo.sz 4, GEq (.string ⟨List.toArray a4⟩), GEq (.int .i64 f.1), GEq (pt g1 0), GEq (pt g1 0), GEq (pt g1 0), G5, GEq (pt g1 0), GEq (pt g1 0), GEq (pt g1 1), G5, GEq (pt g1 0), GEq (pt g1 0), GEq (pt g1 2), G5, GEq (pt g1 0), GEq (pt g1 0), GEq (pt g1 3), G5] [8, 13, 18, 23, 27, 31, 35, 39] [sG [] [] S w0 [Qw g1 72 #[(.int .i64 q2), (.int .i64 q3), (.int .i64 q4), (.int .i64 q5), v6, (.int .i64 q7), (.bool (decide (q7 > 0)))]], sG [8] [(.int .i64 m.1)] S w0 [Qw g1 72 #[(.int .i64 m.2.1), (.int .i64 m.2.2.1), (.int .i64 m.2.2.2.1), (.int .i64 m.2.2.2.2.1), v6, (.int .i64 m.2.2.2.2.2.1), (.bool m.2.2.2.2.2.2)]], sG [8, 13] [(.int .i64 m.1), (.int .i64 o.1)] S w0 [Qw g1 72 #[(.int .i64 o.2.1), (.int .i64 o.2.2.1), (.int .i64 o.2.2.2.1), (.int .i64 o.2.2.2.2.1), v6, (.int .i64 o.2.2.2.2.2.1), (.bool o.2.2.2.2.2.2)]], sG [8, 13, 18] [(.int .i64 m.1), (.int .i64 o.1), (.int .i64 p.1)] S w0 [Qw g1 72 #[(.int .i64 p.2.1), (.int .i64 p.2.2.1), (.int .i64 p.2.2.2.1), (.int .i64 p.2.2.2.2.1), v6, (.int .i64 p.2.2.2.2.2.1), (.bool p.2.2.2.2.2.2)]], sG [8, 13, 18, 23] [(.int .i64 m.1), (.int .i64 o.1), (.int .i64 p.1), (.int .i64 f.1)] S w0 [Qw g1 72 #[(.int .i64 f.2.1), (.int .i64 f.2.2.1), (.int .i64 f.2.2.2.1), (.int .i64 f.2.2.2.2.1), v6, (.int .i64 f.2.2.2.2.2.1), (.bool f.2.2.2.2.2.2)]], sG [8, 13, 18, 23, 27] [(.int .i64 m.1), (.int .i64 o.1), (.int .i64 p.1), (.int .i64 f.1), undef] S w0 [Qw g1 72 #[(.int .i64 m.1), (.int .i64 f.2.2.1), (.int .i64 f.2.2.2.1), (.int .i64 f.2.2.2.2.1), v6, (.int .i64 f.2.2.2.2.2.1), (.bool f.2.2.2.2.2.2)]], sG [8, 13, 18, 23, 27, 31] [(.int .i64 m.1), (.int .i64 o.1), (.int .i64 p.1), (.int .i64 f.1), undef, undef] S w0 [Qw g1 72 #[(.int .i64 m.1), (.int .i64 o.1), (.int .i64 f.2.2.2.1), (.int .i64 f.2.2.2.2.1), v6, (.int .i64 f.2.2.2.2.2.1), (.bool f.2.2.2.2.2.2)]], sG [8, 13, 18, 23, 27, 31, 35] [(.int .i64 m.1), (.int .i64 o.1), (.int .i64 p.1), (.int .i64 f.1), undef, undef, undef] S w0 [Qw g1 72 #[(.int .i64 m.1), (.int .i64 o.1), (.int .i64 p.1), (.int .i64 f.2.2.2.2.1), v6, (.int .i64 f.2.2.2.2.2.1), (.bool f.2.2.2.2.2.2)]], sG [8, 13, 18, 23, 27, 31, 35, 39] [(.int .i64 m.1), (.int .i64 o.1), (.int .i64 p.1), (.int .i64 f.1), undef, undef, undef, undef] S w0 [Qw g1 72 #[(.int .i64 m.1), (.int .i64 o.1), (.int .i64 p.1), (.int .i64 f.1), v6, (.int .i64 f.2.2.2.2.2.1), (.bool f.2.2.2.2.2.2)]]] 40 8 ⟨trivial, SP.drew d1⟩ ?_ ?_
 iterate 40 refine And.intro ?_ ?_
 exact trivial
 ·exact oV (hC (hS 0 (pt g1 0)) (h0)) (pt g1 0)
 ·exact oV (hC (hS 0 (pt g1 0)) (h0)) (pt g1 0)
 ·exact oV (hC (hS 0 (pt g1 0)) (h0)) (pt g1 0)
 ·exact oV (hC (hS 0 (pt g1 0)) (h0)) (pt g1 0)
 ·exact oV (hC (hS 0 (pt g1 0)) (h0)) (pt g1 0)
 ·exact oV (hC (hS 1 (.slice q (List.length p9) s)) (h0)) (.slice q (List.length p9) s)
 ·refine oL 0 ?_
  ·rintro ρ' w' hs a ⟨r0, d7⟩
   refine kM (kc (kA a 5 17) k0) fun b => ?_
   refine Ql (e := Qo) (l := p9) (A := q) (c := s) (T := 79) (E := 9) (x := (.tmp 17)) (ix := (.const (.int .i64 (1)))) (ki := .i64) (iz := 1) (d := (some 18)) (k := 6) K rfl K K K K (u w' (SP.mod d7)) b9 c0 ?_
   intro d8 d9 e0 r1 hc658
   exact ⟨rfl, _, Qa b, ⟨d8, d9, e0, rfl⟩⟩
 ·refine oL 0 ?_
  ·rintro ρ' w' hs a ⟨r2, e1⟩
   obtain ⟨e2, e3, e4, e5⟩ := a 6 18 K
   refine kM (kc e5 k0) fun b => ?_
   refine sC 9 18 e2 (e3 + Int.toNat 1 * Qo.sz) (.string ⟨List.toArray b1⟩) 19 (Qy (e := Qo) (Qm (u w' (SP.mod e1)) e4 b9 c0) d2 (j := 0) rfl) ?_
   exact eK b
 ·refine oH 0 1 ?_
  ·rintro ρ' w' hs a ⟨r3, b3⟩
   refine kM (kc (kA a 4 16) (kc (kA a 7 19) k0)) fun b => ?_
   refine cF 164 #[(.tmp 16), (.tmp 19)] #[70, 9] 20 Tryz.call164 (Q3 g1 v6 q2 q3 q4 q5 q7 (decide (q7 > 0)) b1 w' (fun w hm => hL w (SP.through b3 (l := [0]) rfl hm)) (Y2 b3 [0] rfl rfl) m d3) ?_
   rintro e e6 ⟨rfl, c2⟩
   refine ⟨_, rfl, ?_⟩
   have e7 : SP S w0 e6 [Qw g1 72 #[(.int .i64 m.2.1), (.int .i64 m.2.2.1), (.int .i64 m.2.2.2.1), (.int .i64 m.2.2.2.2.1), v6, (.int .i64 m.2.2.2.2.2.1), (.bool m.2.2.2.2.2.2)]] := Zm b3 [0] [] rfl rfl c2 rfl
   clear c2
   refine ⟨_, Qa b, rfl, ?_⟩
   exact (And.intro (And.intro rfl (trivial)) e7)
 ·exact oV (hC (hS 0 (pt g1 0)) (h0)) (pt g1 0)
 ·exact oV (hC (hS 1 (.slice q (List.length p9) s)) (h0)) (.slice q (List.length p9) s)
 ·refine Owe.light K [0, 1] K (Qb ?_ (Qb ?_ Q8))
  ·rintro ρ' w' hs a ⟨r4, e8⟩
   refine kM (kc (kA a 10 22) k0) fun b => ?_
   refine Ql (e := Qo) (l := p9) (A := q) (c := s) (T := 79) (E := 9) (x := (.tmp 22)) (ix := (.const (.int .i64 (2)))) (ki := .i64) (iz := 2) (d := (some 23)) (k := 11) K rfl K K K K (u w' (SP.mod e8)) a8 a9 ?_
   intro e9 f0 f1 r5 hc676
   exact ⟨rfl, _, Qa b, ⟨e9, f0, f1, rfl⟩⟩
  ·rintro ρ' w' hs a ⟨⟨r6, -⟩, f2⟩
   refine kM (kc (kA a 10 22) k0) fun b => ?_
   refine Ql (e := Qo) (l := p9) (A := q) (c := s) (T := 79) (E := 9) (x := (.tmp 22)) (ix := (.const (.int .i64 (2)))) (ki := .i64) (iz := 2) (d := (some 23)) (k := 11) K rfl K K K K (u w' (SP.mod f2)) a8 a9 ?_
   intro f3 f4 f5 r7 hc684
   exact ⟨rfl, _, Qa b, ⟨f3, f4, f5, rfl⟩⟩
 ·refine Owe.light K [0, 1] K (Qb ?_ (Qb ?_ Q8))
  ·rintro ρ' w' hs a ⟨r8, f6⟩
   obtain ⟨f7, f8, f9, b4⟩ := a 11 23 K
   refine kM (kc b4 k0) fun b => ?_
   refine sC 9 23 f7 (f8 + Int.toNat 2 * Qo.sz) (.string ⟨List.toArray a7⟩) 24 (Qy (e := Qo) (Qm (u w' (SP.mod f6)) f9 a8 a9) c1 (j := 0) rfl) ?_
   exact eK b
  ·rintro ρ' w' hs a ⟨⟨r9, -⟩, g0⟩
   obtain ⟨g2, g3, g4, b4⟩ := a 11 23 K
   refine kM (kc b4 k0) fun b => ?_
   refine sC 9 23 g2 (g3 + Int.toNat 2 * Qo.sz) (.string ⟨List.toArray a7⟩) 24 (Qy (e := Qo) (Qm (u w' (SP.mod g0)) g4 a8 a9) c1 (j := 0) rfl) ?_
   exact eK b
 ·refine oH 1 2 ?_
  ·rintro ρ' w' hs a ⟨⟨g5, -⟩, b5⟩
   refine kM (kc (kA a 9 21) (kc (kA a 12 24) k0)) fun b => ?_
   refine cF 164 #[(.tmp 21), (.tmp 24)] #[70, 9] 25 Tryz.call164 (Q3 g1 v6 m.2.1 m.2.2.1 m.2.2.2.1 m.2.2.2.2.1 m.2.2.2.2.2.1 m.2.2.2.2.2.2 a7 w' (fun w hm => hL w (SP.through b5 (l := [0]) rfl hm)) (Y2 b5 [0] rfl rfl) o d4) ?_
   rintro e g6 ⟨rfl, c3⟩
   refine ⟨_, rfl, ?_⟩
   have g7 : SP S w0 g6 [Qw g1 72 #[(.int .i64 o.2.1), (.int .i64 o.2.2.1), (.int .i64 o.2.2.2.1), (.int .i64 o.2.2.2.2.1), v6, (.int .i64 o.2.2.2.2.2.1), (.bool o.2.2.2.2.2.2)]] := Zm b5 [0] [] rfl rfl c3 rfl
   clear c3
   refine ⟨_, Qa b, rfl, ?_⟩
   exact (And.intro (And.intro g5 (And.intro rfl (trivial))) g7)
 ·exact oV (hC (hS 0 (pt g1 0)) (h0)) (pt g1 0)
 ·exact oV (hC (hS 1 (.slice q (List.length p9) s)) (h0)) (.slice q (List.length p9) s)
 ·refine Owe.light K [0, 1, 2] K (Qb ?_ (Qb ?_ (Qb ?_ Q8)))
  ·rintro ρ' w' hs a ⟨s0, g8⟩
   refine kM (kc (kA a 15 27) k0) fun b => ?_
   refine Ql (e := Qo) (l := p9) (A := q) (c := s) (T := 79) (E := 9) (x := (.tmp 27)) (ix := (.const (.int .i64 (3)))) (ki := .i64) (iz := 3) (d := (some 28)) (k := 16) K rfl K K K K (u w' (SP.mod g8)) a2 a3 ?_
   intro g9 h1 h2 s1 hc709
   exact ⟨rfl, _, Qa b, ⟨g9, h1, h2, rfl⟩⟩
  ·rintro ρ' w' hs a ⟨⟨s2, -⟩, h3⟩
   refine kM (kc (kA a 15 27) k0) fun b => ?_
   refine Ql (e := Qo) (l := p9) (A := q) (c := s) (T := 79) (E := 9) (x := (.tmp 27)) (ix := (.const (.int .i64 (3)))) (ki := .i64) (iz := 3) (d := (some 28)) (k := 16) K rfl K K K K (u w' (SP.mod h3)) a2 a3 ?_
   intro h4 h5 h6 s3 hc717
   exact ⟨rfl, _, Qa b, ⟨h4, h5, h6, rfl⟩⟩
  ·rintro ρ' w' hs a ⟨⟨s4, s5, -⟩, h7⟩
   refine kM (kc (kA a 15 27) k0) fun b => ?_
   refine Ql (e := Qo) (l := p9) (A := q) (c := s) (T := 79) (E := 9) (x := (.tmp 27)) (ix := (.const (.int .i64 (3)))) (ki := .i64) (iz := 3) (d := (some 28)) (k := 16) K rfl K K K K (u w' (SP.mod h7)) a2 a3 ?_
   intro h8 h9 i0 s6 hc726
   exact ⟨rfl, _, Qa b, ⟨h8, h9, i0, rfl⟩⟩
 ·refine Owe.light K [0, 1, 2] K (Qb ?_ (Qb ?_ (Qb ?_ Q8)))
  ·rintro ρ' w' hs a ⟨s7, i1⟩
   obtain ⟨i2, i3, i4, a6⟩ := a 16 28 K
   refine kM (kc a6 k0) fun b => ?_
   refine sC 9 28 i2 (i3 + Int.toNat 3 * Qo.sz) (.string ⟨List.toArray a5⟩) 29 (Qy (e := Qo) (Qm (u w' (SP.mod i1)) i4 a2 a3) b2 (j := 0) rfl) ?_
   exact eK b
  ·rintro ρ' w' hs a ⟨⟨s8, -⟩, i5⟩
   obtain ⟨i6, i7, i8, a6⟩ := a 16 28 K
   refine kM (kc a6 k0) fun b => ?_
   refine sC 9 28 i6 (i7 + Int.toNat 3 * Qo.sz) (.string ⟨List.toArray a5⟩) 29 (Qy (e := Qo) (Qm (u w' (SP.mod i5)) i8 a2 a3) b2 (j := 0) rfl) ?_
   exact eK b
  ·rintro ρ' w' hs a ⟨⟨s9, t0, -⟩, i9⟩
   obtain ⟨j0, j1, j2, a6⟩ := a 16 28 K
   refine kM (kc a6 k0) fun b => ?_
   refine sC 9 28 j0 (j1 + Int.toNat 3 * Qo.sz) (.string ⟨List.toArray a5⟩) 29 (Qy (e := Qo) (Qm (u w' (SP.mod i9)) j2 a2 a3) b2 (j := 0) rfl) ?_
   exact eK b
 ·refine oH 2 3 ?_
  ·rintro ρ' w' hs a ⟨⟨j3, j4, -⟩, b6⟩
   refine kM (kc (kA a 14 26) (kc (kA a 17 29) k0)) fun b => ?_
   refine cF 164 #[(.tmp 26), (.tmp 29)] #[70, 9] 30 Tryz.call164 (Q3 g1 v6 o.2.1 o.2.2.1 o.2.2.2.1 o.2.2.2.2.1 o.2.2.2.2.2.1 o.2.2.2.2.2.2 a5 w' (fun w hm => hL w (SP.through b6 (l := [0]) rfl hm)) (Y2 b6 [0] rfl rfl) p d5) ?_
   rintro e j5 ⟨rfl, c4⟩
   refine ⟨_, rfl, ?_⟩
   have j6 : SP S w0 j5 [Qw g1 72 #[(.int .i64 p.2.1), (.int .i64 p.2.2.1), (.int .i64 p.2.2.2.1), (.int .i64 p.2.2.2.2.1), v6, (.int .i64 p.2.2.2.2.2.1), (.bool p.2.2.2.2.2.2)]] := Zm b6 [0] [] rfl rfl c4 rfl
   clear c4
   refine ⟨_, Qa b, rfl, ?_⟩
   exact (And.intro (And.intro j3 (And.intro j4 (And.intro rfl (trivial)))) j6)
 ·exact oV (hC (hS 0 (pt g1 0)) (h0)) (pt g1 0)
 ·exact oV (hC (hS 1 (.slice q (List.length p9) s)) (h0)) (.slice q (List.length p9) s)
 ·refine Owe.light K [0, 1, 2, 3] K (Qb ?_ (Qb ?_ (Qb ?_ (Qb ?_ Q8))))
  ·rintro ρ' w' hs a ⟨t1, j7⟩
   refine kM (kc (kA a 20 32) k0) fun b => ?_
   refine Ql (e := Qo) (l := p9) (A := q) (c := s) (T := 79) (E := 9) (x := (.tmp 32)) (ix := (.const (.int .i64 (4)))) (ki := .i64) (iz := 4) (d := (some 33)) (k := 21) K rfl K K K K (u w' (SP.mod j7)) z a0 ?_
   intro j8 j9 k1 t2 hc759
   exact ⟨rfl, _, Qa b, ⟨j8, j9, k1, rfl⟩⟩
  ·rintro ρ' w' hs a ⟨⟨t3, -⟩, k2⟩
   refine kM (kc (kA a 20 32) k0) fun b => ?_
   refine Ql (e := Qo) (l := p9) (A := q) (c := s) (T := 79) (E := 9) (x := (.tmp 32)) (ix := (.const (.int .i64 (4)))) (ki := .i64) (iz := 4) (d := (some 33)) (k := 21) K rfl K K K K (u w' (SP.mod k2)) z a0 ?_
   intro k3 k4 k5 t4 hc767
   exact ⟨rfl, _, Qa b, ⟨k3, k4, k5, rfl⟩⟩
  ·rintro ρ' w' hs a ⟨⟨t5, t6, -⟩, k6⟩
   refine kM (kc (kA a 20 32) k0) fun b => ?_
   refine Ql (e := Qo) (l := p9) (A := q) (c := s) (T := 79) (E := 9) (x := (.tmp 32)) (ix := (.const (.int .i64 (4)))) (ki := .i64) (iz := 4) (d := (some 33)) (k := 21) K rfl K K K K (u w' (SP.mod k6)) z a0 ?_
   intro k7 k8 k9 t7 hc776
   exact ⟨rfl, _, Qa b, ⟨k7, k8, k9, rfl⟩⟩
  ·rintro ρ' w' hs a ⟨⟨t8, t9, u0, -⟩, l0⟩
   refine kM (kc (kA a 20 32) k0) fun b => ?_
   refine Ql (e := Qo) (l := p9) (A := q) (c := s) (T := 79) (E := 9) (x := (.tmp 32)) (ix := (.const (.int .i64 (4)))) (ki := .i64) (iz := 4) (d := (some 33)) (k := 21) K rfl K K K K (u w' (SP.mod l0)) z a0 ?_
   intro l1 l2 l3 u1 hc786
   exact ⟨rfl, _, Qa b, ⟨l1, l2, l3, rfl⟩⟩
 ·refine Owe.light K [0, 1, 2, 3] K (Qb ?_ (Qb ?_ (Qb ?_ (Qb ?_ Q8))))
  ·rintro ρ' w' hs a ⟨u2, l4⟩
   obtain ⟨l5, l6, l7, a1⟩ := a 21 33 K
   refine kM (kc a1 k0) fun b => ?_
   refine sC 9 33 l5 (l6 + Int.toNat 4 * Qo.sz) (.string ⟨List.toArray a4⟩) 34 (Qy (e := Qo) (Qm (u w' (SP.mod l4)) l7 z a0) b0 (j := 0) rfl) ?_
   exact eK b
  ·rintro ρ' w' hs a ⟨⟨u3, -⟩, l8⟩
   obtain ⟨l9, m0, m1, a1⟩ := a 21 33 K
   refine kM (kc a1 k0) fun b => ?_
   refine sC 9 33 l9 (m0 + Int.toNat 4 * Qo.sz) (.string ⟨List.toArray a4⟩) 34 (Qy (e := Qo) (Qm (u w' (SP.mod l8)) m1 z a0) b0 (j := 0) rfl) ?_
   exact eK b
  ·rintro ρ' w' hs a ⟨⟨u4, u5, -⟩, m2⟩
   obtain ⟨m3, m4, m5, a1⟩ := a 21 33 K
   refine kM (kc a1 k0) fun b => ?_
   refine sC 9 33 m3 (m4 + Int.toNat 4 * Qo.sz) (.string ⟨List.toArray a4⟩) 34 (Qy (e := Qo) (Qm (u w' (SP.mod m2)) m5 z a0) b0 (j := 0) rfl) ?_
   exact eK b
  ·rintro ρ' w' hs a ⟨⟨u6, u7, u8, -⟩, m6⟩
   obtain ⟨m7, m8, m9, a1⟩ := a 21 33 K
   refine kM (kc a1 k0) fun b => ?_
   refine sC 9 33 m7 (m8 + Int.toNat 4 * Qo.sz) (.string ⟨List.toArray a4⟩) 34 (Qy (e := Qo) (Qm (u w' (SP.mod m6)) m9 z a0) b0 (j := 0) rfl) ?_
   exact eK b
 ·refine oH 3 4 ?_
  ·rintro ρ' w' hs a ⟨⟨n0, n1, n2, -⟩, b7⟩
   refine kM (kc (kA a 19 31) (kc (kA a 22 34) k0)) fun b => ?_
   refine cF 164 #[(.tmp 31), (.tmp 34)] #[70, 9] 35 Tryz.call164 (Q3 g1 v6 p.2.1 p.2.2.1 p.2.2.2.1 p.2.2.2.2.1 p.2.2.2.2.2.1 p.2.2.2.2.2.2 a4 w' (fun w hm => hL w (SP.through b7 (l := [0]) rfl hm)) (Y2 b7 [0] rfl rfl) f d6) ?_
   rintro e n3 ⟨rfl, c5⟩
   refine ⟨_, rfl, ?_⟩
   have n4 : SP S w0 n3 [Qw g1 72 #[(.int .i64 f.2.1), (.int .i64 f.2.2.1), (.int .i64 f.2.2.2.1), (.int .i64 f.2.2.2.2.1), v6, (.int .i64 f.2.2.2.2.2.1), (.bool f.2.2.2.2.2.2)]] := Zm b7 [0] [] rfl rfl c5 rfl
   clear c5
   refine ⟨_, Qa b, rfl, ?_⟩
   exact (And.intro (And.intro n0 (And.intro n1 (And.intro n2 (And.intro rfl (trivial))))) n4)
 ·exact oV (hC (hA 0 12) (h0)) (pt g1 0)
 ·exact oV (hC (hA 24 36) (h0)) (pt g1 0)
 ·exact oV (hC (hA 25 37) (h0)) (pt g1 0)
 ·refine oH 4 5 ?_
  ·rintro ρ' w' hs a ⟨⟨c6, n5, n6, n7, -⟩, n8⟩
   refine kN [(38, (pt g1 0)), (20, (.int .i64 m.1))] ⟨a 26 38 K, (Vp (h := 8) K).symm.trans c6, trivial⟩ fun b => ?_
   refine Qi.store (t := 2) (x := (.tmp 38)) (y := (.tmp 20)) (g := g1) (off := 0) (i := 0) (v := (.int .i64 m.1)) (cs' := #[(.int .i64 m.1), (.int .i64 f.2.2.1), (.int .i64 f.2.2.2.1), (.int .i64 f.2.2.2.2.1), v6, (.int .i64 f.2.2.2.2.2.1), (.bool f.2.2.2.2.2.2)]) (d := none) (k := 27) K rfl K K n8 rfl K ?_
   intro u9 n9
   refine ⟨_, Qa b, trivial, ?_⟩
   exact (And.intro (And.intro c6 (And.intro n5 (And.intro n6 (And.intro n7 (And.intro rfl (trivial)))))) n9)
 ·exact oV (hC (hA 1 13) (h0)) (pt g1 0)
 ·exact oV (hC (hA 28 39) (h0)) (pt g1 0)
 ·exact oV (hC (hA 29 40) (h0)) (pt g1 1)
 ·refine oH 5 6 ?_
  ·rintro ρ' w' hs a ⟨⟨o0, c7, o1, o2, o3, -⟩, o4⟩
   refine kN [(41, (pt g1 1)), (25, (.int .i64 o.1))] ⟨a 30 41 K, (Vp (h := 13) K).symm.trans c7, trivial⟩ fun b => ?_
   refine Qi.store (t := 2) (x := (.tmp 41)) (y := (.tmp 25)) (g := g1) (off := 1) (i := 0) (v := (.int .i64 o.1)) (cs' := #[(.int .i64 m.1), (.int .i64 o.1), (.int .i64 f.2.2.2.1), (.int .i64 f.2.2.2.2.1), v6, (.int .i64 f.2.2.2.2.2.1), (.bool f.2.2.2.2.2.2)]) (d := none) (k := 31) K rfl K K o4 rfl K ?_
   intro v0 o5
   refine ⟨_, Qa b, trivial, ?_⟩
   exact (And.intro (And.intro o0 (And.intro c7 (And.intro o1 (And.intro o2 (And.intro o3 (And.intro rfl (trivial))))))) o5)
 ·exact oV (hC (hA 2 14) (h0)) (pt g1 0)
 ·exact oV (hC (hA 32 42) (h0)) (pt g1 0)
 ·exact oV (hC (hA 33 43) (h0)) (pt g1 2)
 ·refine oH 6 7 ?_
  ·rintro ρ' w' hs a ⟨⟨o6, o7, c8, o8, o9, p0, -⟩, p1⟩
   refine kN [(44, (pt g1 2)), (30, (.int .i64 p.1))] ⟨a 34 44 K, (Vp (h := 18) K).symm.trans c8, trivial⟩ fun b => ?_
   refine Qi.store (t := 2) (x := (.tmp 44)) (y := (.tmp 30)) (g := g1) (off := 2) (i := 0) (v := (.int .i64 p.1)) (cs' := #[(.int .i64 m.1), (.int .i64 o.1), (.int .i64 p.1), (.int .i64 f.2.2.2.2.1), v6, (.int .i64 f.2.2.2.2.2.1), (.bool f.2.2.2.2.2.2)]) (d := none) (k := 35) K rfl K K p1 rfl K ?_
   intro v1 p2
   refine ⟨_, Qa b, trivial, ?_⟩
   exact (And.intro (And.intro o6 (And.intro o7 (And.intro c8 (And.intro o8 (And.intro o9 (And.intro p0 (And.intro rfl (trivial)))))))) p2)
 ·exact oV (hC (hA 3 15) (h0)) (pt g1 0)
 ·exact oV (hC (hA 36 45) (h0)) (pt g1 0)
 ·exact oV (hC (hA 37 46) (h0)) (pt g1 3)
 ·refine oH 7 8 ?_
  ·rintro ρ' w' hs a ⟨⟨p3, p4, p5, c9, p6, p7, p8, -⟩, q0⟩
   refine kN [(47, (pt g1 3)), (35, (.int .i64 f.1))] ⟨a 38 47 K, (Vp (h := 23) K).symm.trans c9, trivial⟩ fun b => ?_
   refine Qi.store (t := 2) (x := (.tmp 47)) (y := (.tmp 35)) (g := g1) (off := 3) (i := 0) (v := (.int .i64 f.1)) (cs' := #[(.int .i64 m.1), (.int .i64 o.1), (.int .i64 p.1), (.int .i64 f.1), v6, (.int .i64 f.2.2.2.2.2.1), (.bool f.2.2.2.2.2.2)]) (d := none) (k := 39) K rfl K K q0 rfl K ?_
   intro v2 q1
   refine ⟨_, Qa b, trivial, ?_⟩
   exact (And.intro (And.intro p3 (And.intro p4 (And.intro p5 (And.intro c9 (And.intro p6 (And.intro p7 (And.intro p8 (And.intro rfl (trivial))))))))) q1)
 ·rintro ρ' w' hs hf ⟨⟨v3, v4, v5, v7, v8, v9, w1, w2, -⟩, d0⟩
  refine V7 [] trivial ?_
  obtain ⟨w3, q6⟩ : ∃ x, w' = x := ⟨_, rfl⟩
  rw [q6] at d0 ⊢
  refine ⟨(.tuple #[]), K, ?_⟩
  obtain rfl := Qf H
  exact ⟨rfl, SP.sel d0 [0] rfl rfl⟩
def Xq (q2 : Int) (q3 : Int) (q4 : Int) (q5 : Int) (q6 : (List Qe)) (d : Int) (e : Bool) (c : (List (List UInt8))) : Option (Int × Int × Int × Int × (List Qe) × Int × Bool) :=
  ((idx c 1).bind fun f => ((idx c 2).bind fun g => ((Vd q2 q3 q4 q5 d e g).bind fun a => ((idx c 3).bind fun h => ((Vd a.2.1 a.2.2.1 a.2.2.2.1 a.2.2.2.2.1 a.2.2.2.2.2.1 a.2.2.2.2.2.2 h).bind fun b => ((app q6 ([(f, a.1, b.1, ([] : List (Int × Int)), ([] : List ((List UInt8) × (List UInt8) × Int)))] : List Qe)).bind fun i => (some (b.2.1, b.2.2.1, b.2.2.2.1, b.2.2.2.2.1, i, b.2.2.2.2.2.1, b.2.2.2.2.2.2))))))))
set_option maxHeartbeats 40000000 in
theorem U6 {S : List Nat} (g1 : Nat) (A7 : Option Addr) (c8 : Nat) (u : Option Addr) (a2 : Nat) (q2 : Int) (q3 : Int) (q4 : Int) (q5 : Int) (d9 : (List Qx)) (b6 : Int) (b7 : Bool) (a0 : (List (List UInt8))) (w0 : World) (hL : ∀ w, Mod S w0 w → Uj w) (hO : SP S w0 w0 [Qw g1 72 #[(.int .i64 q2), (.int .i64 q3), (.int .i64 q4), (.int .i64 q5), (.slice A7 (List.length (List.map stT d9)) c8), (.int .i64 b6), (.bool b7)], Yo A7 c8 d9]) (a1 : ∀ w, Mod S w0 w → RdT Qo w u a2 a0) (r : (Int × Int × Int × Int × (List Qe) × Int × Bool)) (H : Xq q2 q3 q4 q5 (List.map stT d9) b6 b7 a0 = some r) :
  Calls Tryz.prog 143 #[(pt g1 0), (.slice u (List.length a0) a2)] w0 (fun e w' => ∃ (d5 : Option Addr) (d6 : Nat) (c6 : List Qx), e = .returned (.tuple #[]) ∧ r.2.2.2.2.1 = List.map stT c6 ∧ SP S w0 w' [Qw g1 72 #[(.int .i64 r.1), (.int .i64 r.2.1), (.int .i64 r.2.2.1), (.int .i64 r.2.2.2.1), (.slice d5 (List.length (List.map stT c6)) d6), (.int .i64 r.2.2.2.2.2.1), (.bool r.2.2.2.2.2.2)], Yo d5 d6 c6]) := by
 unfold Xq at H
 refine Qv (n := 31) Tryz.func143 K K K ?_
 have f2 := hO
 refine aQ ?_
 obtain ⟨q, a3, a4, b8, H⟩ := Vk H
 obtain ⟨b9, c2, c3, d7, H⟩ := Vk H
 obtain ⟨f, d8, H⟩ := Qc H
 obtain ⟨b1, a8, a9, c4, H⟩ := Vk H
 obtain ⟨a, e0, H⟩ := Qc H
 refine aG [GEq (.slice u (List.length a0) a2), Ja u Qo.sz 1, GEq (.string ⟨List.toArray q⟩), GEq (pt g1 0), GEq (.slice u (List.length a0) a2), Ja u Qo.sz 2, GEq (.string ⟨List.toArray b9⟩), GEq (.int .i64 f.1), GEq (pt g1 0), GEq (.slice u (List.length a0) a2), Ja u Qo.sz 3, GEq (.string ⟨List.toArray b1⟩), GEq (.int .i64 a.1), GEq (.agg #[(.string ⟨List.toArray q⟩), (.int .i64 f.1), (.int .i64 a.1), (.slice none (List.length ([] : List (Int × Int))) 0), (.slice none (List.length ([] : List ((List UInt8) × (List UInt8) × Int))) 0)]), G5, G5] [7, 12, 14, 15] [([], fun vs w => VL vs [] ∧ SP S w0 w [Qw g1 72 #[(.int .i64 q2), (.int .i64 q3), (.int .i64 q4), (.int .i64 q5), (.slice A7 (List.length (List.map stT d9)) c8), (.int .i64 b6), (.bool b7)], Yo A7 c8 d9]), ([7], fun vs w => VL vs [(.int .i64 f.1)] ∧ SP S w0 w [Yo A7 c8 d9, Qw g1 72 #[(.int .i64 f.2.1), (.int .i64 f.2.2.1), (.int .i64 f.2.2.2.1), (.int .i64 f.2.2.2.2.1), (.slice A7 (List.length (List.map stT d9)) c8), (.int .i64 f.2.2.2.2.2.1), (.bool f.2.2.2.2.2.2)]]), ([14], fun vs w => ∃ (a5 : Nat), VL vs [(pt a5 0)] ∧ SP S w0 w [Qw g1 72 #[(.int .i64 q2), (.int .i64 q3), (.int .i64 q4), (.int .i64 q5), (.slice A7 (List.length (List.map stT d9)) c8), (.int .i64 b6), (.bool b7)], Yo A7 c8 d9, Qw a5 33 #[(.string ⟨List.toArray ([] : List UInt8)⟩), (.int .i64 0), (.int .i64 0), (.slice none (List.length ([] : List (Int × Int))) 0), (.slice none (List.length ([] : List ((List UInt8) × (List UInt8) × Int))) 0)]]), ([7, 12], fun vs w => VL vs [(.int .i64 f.1), (.int .i64 a.1)] ∧ SP S w0 w [Yo A7 c8 d9, Qw g1 72 #[(.int .i64 a.2.1), (.int .i64 a.2.2.1), (.int .i64 a.2.2.2.1), (.int .i64 a.2.2.2.2.1), (.slice A7 (List.length (List.map stT d9)) c8), (.int .i64 a.2.2.2.2.2.1), (.bool a.2.2.2.2.2.2)]]), ([7, 14], fun vs w => ∃ (a7 : Nat), VL vs [(.int .i64 f.1), (pt a7 0)] ∧ SP S w0 w [Yo A7 c8 d9, Qw g1 72 #[(.int .i64 f.2.1), (.int .i64 f.2.2.1), (.int .i64 f.2.2.2.1), (.int .i64 f.2.2.2.2.1), (.slice A7 (List.length (List.map stT d9)) c8), (.int .i64 f.2.2.2.2.2.1), (.bool f.2.2.2.2.2.2)], Qw a7 33 #[(.string ⟨List.toArray ([] : List UInt8)⟩), (.int .i64 0), (.int .i64 0), (.slice none (List.length ([] : List (Int × Int))) 0), (.slice none (List.length ([] : List ((List UInt8) × (List UInt8) × Int))) 0)]]), ([7, 12, 14], fun vs w => ∃ (b0 : Nat), VL vs [(.int .i64 f.1), (.int .i64 a.1), (pt b0 0)] ∧ SP S w0 w [Yo A7 c8 d9, Qw g1 72 #[(.int .i64 a.2.1), (.int .i64 a.2.2.1), (.int .i64 a.2.2.2.1), (.int .i64 a.2.2.2.2.1), (.slice A7 (List.length (List.map stT d9)) c8), (.int .i64 a.2.2.2.2.2.1), (.bool a.2.2.2.2.2.2)], Qw b0 33 #[(.string ⟨List.toArray ([] : List UInt8)⟩), (.int .i64 0), (.int .i64 0), (.slice none (List.length ([] : List (Int × Int))) 0), (.slice none (List.length ([] : List ((List UInt8) × (List UInt8) × Int))) 0)]]), ([7, 12, 14, 15], fun vs w => ∃ (a6 : Nat), VL vs [(.int .i64 f.1), (.int .i64 a.1), (pt a6 0), undef] ∧ SP S w0 w [Yo A7 c8 d9, Qw g1 72 #[(.int .i64 a.2.1), (.int .i64 a.2.2.1), (.int .i64 a.2.2.2.1), (.int .i64 a.2.2.2.2.1), (.slice A7 (List.length (List.map stT d9)) c8), (.int .i64 a.2.2.2.2.2.1), (.bool a.2.2.2.2.2.2)], Qw a6 33 #[(.string ⟨List.toArray q⟩), (.int .i64 f.1), (.int .i64 a.1), (.slice none (List.length ([] : List (Int × Int))) 0), (.slice none (List.length ([] : List ((List UInt8) × (List UInt8) × Int))) 0)]])] 16 6 ⟨trivial, SP.drew f2⟩ ?_ ?_
 iterate 16 refine And.intro ?_ ?_
 exact trivial
 ·exact oV (hC (hS 1 (.slice u (List.length a0) a2)) (h0)) (.slice u (List.length a0) a2)
 ·refine Owe.light K [0, 1, 2, 3, 4, 5] K (Qb ?_ (Qb ?_ (Qb ?_ (Qb ?_ (Qb ?_ (Qb ?_ Q8))))))
  ·rintro ρ' w' hs o ⟨t9, f3⟩
   refine kM (kc (kA o 0 5) k0) fun p => ?_
   refine Ql (e := Qo) (l := a0) (A := u) (c := a2) (T := 79) (E := 9) (x := (.tmp 5)) (ix := (.const (.int .i64 (1)))) (ki := .i64) (iz := 1) (d := (some 6)) (k := 1) K rfl K K K K (a1 w' (SP.mod f3)) a3 a4 ?_
   intro f4 f5 f6 u0 hc526
   exact ⟨rfl, _, Qa p, ⟨f4, f5, f6, rfl⟩⟩
  ·rintro ρ' w' hs o ⟨⟨u1, -⟩, f7⟩
   refine kM (kc (kA o 0 5) k0) fun p => ?_
   refine Ql (e := Qo) (l := a0) (A := u) (c := a2) (T := 79) (E := 9) (x := (.tmp 5)) (ix := (.const (.int .i64 (1)))) (ki := .i64) (iz := 1) (d := (some 6)) (k := 1) K rfl K K K K (a1 w' (SP.mod f7)) a3 a4 ?_
   intro f8 f9 g0 u2 hc534
   exact ⟨rfl, _, Qa p, ⟨f8, f9, g0, rfl⟩⟩
  ·rintro ρ' w' hs o ⟨a5, ⟨u3, -⟩, g2⟩
   refine kM (kc (kA o 0 5) k0) fun p => ?_
   refine Ql (e := Qo) (l := a0) (A := u) (c := a2) (T := 79) (E := 9) (x := (.tmp 5)) (ix := (.const (.int .i64 (1)))) (ki := .i64) (iz := 1) (d := (some 6)) (k := 1) K rfl K K K K (a1 w' (SP.mod g2)) a3 a4 ?_
   intro g3 g4 g5 u4 hc542
   exact ⟨rfl, _, Qa p, ⟨g3, g4, g5, rfl⟩⟩
  ·rintro ρ' w' hs o ⟨⟨u5, u6, -⟩, g6⟩
   refine kM (kc (kA o 0 5) k0) fun p => ?_
   refine Ql (e := Qo) (l := a0) (A := u) (c := a2) (T := 79) (E := 9) (x := (.tmp 5)) (ix := (.const (.int .i64 (1)))) (ki := .i64) (iz := 1) (d := (some 6)) (k := 1) K rfl K K K K (a1 w' (SP.mod g6)) a3 a4 ?_
   intro g7 g8 g9 u7 hc551
   exact ⟨rfl, _, Qa p, ⟨g7, g8, g9, rfl⟩⟩
  ·rintro ρ' w' hs o ⟨a7, ⟨u8, u9, -⟩, h1⟩
   refine kM (kc (kA o 0 5) k0) fun p => ?_
   refine Ql (e := Qo) (l := a0) (A := u) (c := a2) (T := 79) (E := 9) (x := (.tmp 5)) (ix := (.const (.int .i64 (1)))) (ki := .i64) (iz := 1) (d := (some 6)) (k := 1) K rfl K K K K (a1 w' (SP.mod h1)) a3 a4 ?_
   intro h2 h3 h4 v0 hc560
   exact ⟨rfl, _, Qa p, ⟨h2, h3, h4, rfl⟩⟩
  ·rintro ρ' w' hs o ⟨b0, ⟨v1, v2, v3, -⟩, h5⟩
   refine kM (kc (kA o 0 5) k0) fun p => ?_
   refine Ql (e := Qo) (l := a0) (A := u) (c := a2) (T := 79) (E := 9) (x := (.tmp 5)) (ix := (.const (.int .i64 (1)))) (ki := .i64) (iz := 1) (d := (some 6)) (k := 1) K rfl K K K K (a1 w' (SP.mod h5)) a3 a4 ?_
   intro h6 h7 h8 v4 hc570
   exact ⟨rfl, _, Qa p, ⟨h6, h7, h8, rfl⟩⟩
 ·refine Owe.light K [0, 1, 2, 3, 4, 5] K (Qb ?_ (Qb ?_ (Qb ?_ (Qb ?_ (Qb ?_ (Qb ?_ Q8))))))
  ·rintro ρ' w' hs o ⟨v5, h9⟩
   obtain ⟨i0, i1, i2, e6⟩ := o 1 6 K
   refine kM (kc e6 k0) fun p => ?_
   refine sC 9 6 i0 (i1 + Int.toNat 1 * Qo.sz) (.string ⟨List.toArray q⟩) 7 (Qy (e := Qo) (Qm (a1 w' (SP.mod h9)) i2 a3 a4) b8 (j := 0) rfl) ?_
   exact eK p
  ·rintro ρ' w' hs o ⟨⟨v6, -⟩, i3⟩
   obtain ⟨i4, i5, i6, e6⟩ := o 1 6 K
   refine kM (kc e6 k0) fun p => ?_
   refine sC 9 6 i4 (i5 + Int.toNat 1 * Qo.sz) (.string ⟨List.toArray q⟩) 7 (Qy (e := Qo) (Qm (a1 w' (SP.mod i3)) i6 a3 a4) b8 (j := 0) rfl) ?_
   exact eK p
  ·rintro ρ' w' hs o ⟨a5, ⟨v7, -⟩, i7⟩
   obtain ⟨i8, i9, j0, e6⟩ := o 1 6 K
   refine kM (kc e6 k0) fun p => ?_
   refine sC 9 6 i8 (i9 + Int.toNat 1 * Qo.sz) (.string ⟨List.toArray q⟩) 7 (Qy (e := Qo) (Qm (a1 w' (SP.mod i7)) j0 a3 a4) b8 (j := 0) rfl) ?_
   exact eK p
  ·rintro ρ' w' hs o ⟨⟨v8, v9, -⟩, j1⟩
   obtain ⟨j2, j3, j4, e6⟩ := o 1 6 K
   refine kM (kc e6 k0) fun p => ?_
   refine sC 9 6 j2 (j3 + Int.toNat 1 * Qo.sz) (.string ⟨List.toArray q⟩) 7 (Qy (e := Qo) (Qm (a1 w' (SP.mod j1)) j4 a3 a4) b8 (j := 0) rfl) ?_
   exact eK p
  ·rintro ρ' w' hs o ⟨a7, ⟨w1, w2, -⟩, j5⟩
   obtain ⟨j6, j7, j8, e6⟩ := o 1 6 K
   refine kM (kc e6 k0) fun p => ?_
   refine sC 9 6 j6 (j7 + Int.toNat 1 * Qo.sz) (.string ⟨List.toArray q⟩) 7 (Qy (e := Qo) (Qm (a1 w' (SP.mod j5)) j8 a3 a4) b8 (j := 0) rfl) ?_
   exact eK p
  ·rintro ρ' w' hs o ⟨b0, ⟨w3, w4, w5, -⟩, j9⟩
   obtain ⟨k1, k2, k3, e6⟩ := o 1 6 K
   refine kM (kc e6 k0) fun p => ?_
   refine sC 9 6 k1 (k2 + Int.toNat 1 * Qo.sz) (.string ⟨List.toArray q⟩) 7 (Qy (e := Qo) (Qm (a1 w' (SP.mod j9)) k3 a3 a4) b8 (j := 0) rfl) ?_
   exact eK p
 ·exact oV (hC (hS 0 (pt g1 0)) (h0)) (pt g1 0)
 ·exact oV (hC (hS 1 (.slice u (List.length a0) a2)) (h0)) (.slice u (List.length a0) a2)
 ·refine Owe.light K [0, 2] K (Qb ?_ (Qb ?_ Q8))
  ·rintro ρ' w' hs o ⟨w6, k4⟩
   refine kM (kc (kA o 4 9) k0) fun p => ?_
   refine Ql (e := Qo) (l := a0) (A := u) (c := a2) (T := 79) (E := 9) (x := (.tmp 9)) (ix := (.const (.int .i64 (2)))) (ki := .i64) (iz := 2) (d := (some 10)) (k := 5) K rfl K K K K (a1 w' (SP.mod k4)) c2 c3 ?_
   intro k5 k6 k7 w7 hc616
   exact ⟨rfl, _, Qa p, ⟨k5, k6, k7, rfl⟩⟩
  ·rintro ρ' w' hs o ⟨a5, ⟨w8, -⟩, k8⟩
   refine kM (kc (kA o 4 9) k0) fun p => ?_
   refine Ql (e := Qo) (l := a0) (A := u) (c := a2) (T := 79) (E := 9) (x := (.tmp 9)) (ix := (.const (.int .i64 (2)))) (ki := .i64) (iz := 2) (d := (some 10)) (k := 5) K rfl K K K K (a1 w' (SP.mod k8)) c2 c3 ?_
   intro k9 l0 l1 w9 hc624
   exact ⟨rfl, _, Qa p, ⟨k9, l0, l1, rfl⟩⟩
 ·refine Owe.light K [0, 2] K (Qb ?_ (Qb ?_ Q8))
  ·rintro ρ' w' hs o ⟨x0, l2⟩
   obtain ⟨l3, l4, l5, c7⟩ := o 5 10 K
   refine kM (kc c7 k0) fun p => ?_
   refine sC 9 10 l3 (l4 + Int.toNat 2 * Qo.sz) (.string ⟨List.toArray b9⟩) 11 (Qy (e := Qo) (Qm (a1 w' (SP.mod l2)) l5 c2 c3) d7 (j := 0) rfl) ?_
   exact eK p
  ·rintro ρ' w' hs o ⟨a5, ⟨x1, -⟩, l6⟩
   obtain ⟨l7, l8, l9, c7⟩ := o 5 10 K
   refine kM (kc c7 k0) fun p => ?_
   refine sC 9 10 l7 (l8 + Int.toNat 2 * Qo.sz) (.string ⟨List.toArray b9⟩) 11 (Qy (e := Qo) (Qm (a1 w' (SP.mod l6)) l9 c2 c3) d7 (j := 0) rfl) ?_
   exact eK p
 ·refine Owe.heavy K [(0, 1), (2, 4)] K (Qb ⟨K, K, ?_⟩ (Qb ⟨K, K, ?_⟩ Q8))
  ·rintro ρ' w' hs o ⟨x2, c9⟩
   refine kM (kc (kA o 3 8) (kc (kA o 6 11) k0)) fun p => ?_
   refine cF 164 #[(.tmp 8), (.tmp 11)] #[70, 9] 12 Tryz.call164 (Q3 g1 (.slice A7 (List.length (List.map stT d9)) c8) q2 q3 q4 q5 b6 b7 b9 w' (fun w hm => hL w (SP.through c9 (l := [0]) rfl hm)) (Y2 c9 [0] rfl rfl) f d8) ?_
   rintro e m0 ⟨rfl, e1⟩
   refine ⟨_, rfl, ?_⟩
   have m1 : SP S w0 m0 [Yo A7 c8 d9, Qw g1 72 #[(.int .i64 f.2.1), (.int .i64 f.2.2.1), (.int .i64 f.2.2.2.1), (.int .i64 f.2.2.2.2.1), (.slice A7 (List.length (List.map stT d9)) c8), (.int .i64 f.2.2.2.2.2.1), (.bool f.2.2.2.2.2.2)]] := Zm c9 [0] [1] rfl rfl e1 rfl
   clear e1
   refine ⟨_, Qa p, rfl, ?_⟩
   exact (And.intro (And.intro rfl (trivial)) m1)
  ·rintro ρ' w' hs o ⟨a5, ⟨m2, -⟩, d1⟩
   refine kM (kc (kA o 3 8) (kc (kA o 6 11) k0)) fun p => ?_
   refine cF 164 #[(.tmp 8), (.tmp 11)] #[70, 9] 12 Tryz.call164 (Q3 g1 (.slice A7 (List.length (List.map stT d9)) c8) q2 q3 q4 q5 b6 b7 b9 w' (fun w hm => hL w (SP.through d1 (l := [0]) rfl hm)) (Y2 d1 [0] rfl rfl) f d8) ?_
   rintro e m3 ⟨rfl, e2⟩
   refine ⟨_, rfl, ?_⟩
   have m4 : SP S w0 m3 [Yo A7 c8 d9, Qw a5 33 #[(.string ⟨List.toArray ([] : List UInt8)⟩), (.int .i64 0), (.int .i64 0), (.slice none (List.length ([] : List (Int × Int))) 0), (.slice none (List.length ([] : List ((List UInt8) × (List UInt8) × Int))) 0)], Qw g1 72 #[(.int .i64 f.2.1), (.int .i64 f.2.2.1), (.int .i64 f.2.2.2.1), (.int .i64 f.2.2.2.2.1), (.slice A7 (List.length (List.map stT d9)) c8), (.int .i64 f.2.2.2.2.2.1), (.bool f.2.2.2.2.2.2)]] := Zm d1 [0] [1, 2] rfl rfl e2 rfl
   clear e2
   refine ⟨_, Qa p, rfl, ?_⟩
   exact (Exists.intro a5 (And.intro (And.intro rfl (And.intro m2 (trivial))) (SP.sel m4 [0, 2, 1] rfl rfl)))
 ·exact oV (hC (hS 0 (pt g1 0)) (h0)) (pt g1 0)
 ·exact oV (hC (hS 1 (.slice u (List.length a0) a2)) (h0)) (.slice u (List.length a0) a2)
 ·refine Owe.light K [0, 1, 2, 4] K (Qb ?_ (Qb ?_ (Qb ?_ (Qb ?_ Q8))))
  ·rintro ρ' w' hs o ⟨x3, m5⟩
   refine kM (kc (kA o 9 14) k0) fun p => ?_
   refine Ql (e := Qo) (l := a0) (A := u) (c := a2) (T := 79) (E := 9) (x := (.tmp 14)) (ix := (.const (.int .i64 (3)))) (ki := .i64) (iz := 3) (d := (some 15)) (k := 10) K rfl K K K K (a1 w' (SP.mod m5)) a8 a9 ?_
   intro m6 m7 m8 x4 hc655
   exact ⟨rfl, _, Qa p, ⟨m6, m7, m8, rfl⟩⟩
  ·rintro ρ' w' hs o ⟨⟨x5, -⟩, m9⟩
   refine kM (kc (kA o 9 14) k0) fun p => ?_
   refine Ql (e := Qo) (l := a0) (A := u) (c := a2) (T := 79) (E := 9) (x := (.tmp 14)) (ix := (.const (.int .i64 (3)))) (ki := .i64) (iz := 3) (d := (some 15)) (k := 10) K rfl K K K K (a1 w' (SP.mod m9)) a8 a9 ?_
   intro n0 n1 n2 x6 hc663
   exact ⟨rfl, _, Qa p, ⟨n0, n1, n2, rfl⟩⟩
  ·rintro ρ' w' hs o ⟨a5, ⟨x7, -⟩, n3⟩
   refine kM (kc (kA o 9 14) k0) fun p => ?_
   refine Ql (e := Qo) (l := a0) (A := u) (c := a2) (T := 79) (E := 9) (x := (.tmp 14)) (ix := (.const (.int .i64 (3)))) (ki := .i64) (iz := 3) (d := (some 15)) (k := 10) K rfl K K K K (a1 w' (SP.mod n3)) a8 a9 ?_
   intro n4 n5 n6 x8 hc671
   exact ⟨rfl, _, Qa p, ⟨n4, n5, n6, rfl⟩⟩
  ·rintro ρ' w' hs o ⟨a7, ⟨x9, y0, -⟩, n7⟩
   refine kM (kc (kA o 9 14) k0) fun p => ?_
   refine Ql (e := Qo) (l := a0) (A := u) (c := a2) (T := 79) (E := 9) (x := (.tmp 14)) (ix := (.const (.int .i64 (3)))) (ki := .i64) (iz := 3) (d := (some 15)) (k := 10) K rfl K K K K (a1 w' (SP.mod n7)) a8 a9 ?_
   intro n8 n9 o0 y1 hc680
   exact ⟨rfl, _, Qa p, ⟨n8, n9, o0, rfl⟩⟩
 ·refine Owe.light K [0, 1, 2, 4] K (Qb ?_ (Qb ?_ (Qb ?_ (Qb ?_ Q8))))
  ·rintro ρ' w' hs o ⟨y2, o1⟩
   obtain ⟨o2, o3, o4, b2⟩ := o 10 15 K
   refine kM (kc b2 k0) fun p => ?_
   refine sC 9 15 o2 (o3 + Int.toNat 3 * Qo.sz) (.string ⟨List.toArray b1⟩) 16 (Qy (e := Qo) (Qm (a1 w' (SP.mod o1)) o4 a8 a9) c4 (j := 0) rfl) ?_
   exact eK p
  ·rintro ρ' w' hs o ⟨⟨y3, -⟩, o5⟩
   obtain ⟨o6, o7, o8, b2⟩ := o 10 15 K
   refine kM (kc b2 k0) fun p => ?_
   refine sC 9 15 o6 (o7 + Int.toNat 3 * Qo.sz) (.string ⟨List.toArray b1⟩) 16 (Qy (e := Qo) (Qm (a1 w' (SP.mod o5)) o8 a8 a9) c4 (j := 0) rfl) ?_
   exact eK p
  ·rintro ρ' w' hs o ⟨a5, ⟨y4, -⟩, o9⟩
   obtain ⟨p0, p1, p2, b2⟩ := o 10 15 K
   refine kM (kc b2 k0) fun p => ?_
   refine sC 9 15 p0 (p1 + Int.toNat 3 * Qo.sz) (.string ⟨List.toArray b1⟩) 16 (Qy (e := Qo) (Qm (a1 w' (SP.mod o9)) p2 a8 a9) c4 (j := 0) rfl) ?_
   exact eK p
  ·rintro ρ' w' hs o ⟨a7, ⟨y5, y6, -⟩, p3⟩
   obtain ⟨p4, p5, p6, b2⟩ := o 10 15 K
   refine kM (kc b2 k0) fun p => ?_
   refine sC 9 15 p4 (p5 + Int.toNat 3 * Qo.sz) (.string ⟨List.toArray b1⟩) 16 (Qy (e := Qo) (Qm (a1 w' (SP.mod p3)) p6 a8 a9) c4 (j := 0) rfl) ?_
   exact eK p
 ·refine Owe.heavy K [(1, 3), (4, 5)] K (Qb ⟨K, K, ?_⟩ (Qb ⟨K, K, ?_⟩ Q8))
  ·rintro ρ' w' hs o ⟨⟨p7, -⟩, d2⟩
   refine kM (kc (kA o 8 13) (kc (kA o 11 16) k0)) fun p => ?_
   refine cF 164 #[(.tmp 13), (.tmp 16)] #[70, 9] 17 Tryz.call164 (Q3 g1 (.slice A7 (List.length (List.map stT d9)) c8) f.2.1 f.2.2.1 f.2.2.2.1 f.2.2.2.2.1 f.2.2.2.2.2.1 f.2.2.2.2.2.2 b1 w' (fun w hm => hL w (SP.through d2 (l := [1]) rfl hm)) (Y2 d2 [1] rfl rfl) a e0) ?_
   rintro e p8 ⟨rfl, e3⟩
   refine ⟨_, rfl, ?_⟩
   have p9 : SP S w0 p8 [Yo A7 c8 d9, Qw g1 72 #[(.int .i64 a.2.1), (.int .i64 a.2.2.1), (.int .i64 a.2.2.2.1), (.int .i64 a.2.2.2.2.1), (.slice A7 (List.length (List.map stT d9)) c8), (.int .i64 a.2.2.2.2.2.1), (.bool a.2.2.2.2.2.2)]] := Zm d2 [1] [0] rfl rfl e3 rfl
   clear e3
   refine ⟨_, Qa p, rfl, ?_⟩
   exact (And.intro (And.intro p7 (And.intro rfl (trivial))) p9)
  ·rintro ρ' w' hs o ⟨a7, ⟨q0, q1, -⟩, d3⟩
   refine kM (kc (kA o 8 13) (kc (kA o 11 16) k0)) fun p => ?_
   refine cF 164 #[(.tmp 13), (.tmp 16)] #[70, 9] 17 Tryz.call164 (Q3 g1 (.slice A7 (List.length (List.map stT d9)) c8) f.2.1 f.2.2.1 f.2.2.2.1 f.2.2.2.2.1 f.2.2.2.2.2.1 f.2.2.2.2.2.2 b1 w' (fun w hm => hL w (SP.through d3 (l := [1]) rfl hm)) (Y2 d3 [1] rfl rfl) a e0) ?_
   rintro e q6 ⟨rfl, e4⟩
   refine ⟨_, rfl, ?_⟩
   have q7 : SP S w0 q6 [Yo A7 c8 d9, Qw a7 33 #[(.string ⟨List.toArray ([] : List UInt8)⟩), (.int .i64 0), (.int .i64 0), (.slice none (List.length ([] : List (Int × Int))) 0), (.slice none (List.length ([] : List ((List UInt8) × (List UInt8) × Int))) 0)], Qw g1 72 #[(.int .i64 a.2.1), (.int .i64 a.2.2.1), (.int .i64 a.2.2.2.1), (.int .i64 a.2.2.2.2.1), (.slice A7 (List.length (List.map stT d9)) c8), (.int .i64 a.2.2.2.2.2.1), (.bool a.2.2.2.2.2.2)]] := Zm d3 [1] [0, 2] rfl rfl e4 rfl
   clear e4
   refine ⟨_, Qa p, rfl, ?_⟩
   exact (Exists.intro a7 (And.intro (And.intro q0 (And.intro rfl (And.intro q1 (trivial)))) (SP.sel q7 [0, 2, 1] rfl rfl)))
 ·exact oV (hC (hA 2 7) (hC (hA 7 12) (hC (hA 12 17) (h0)))) (.agg #[(.string ⟨List.toArray q⟩), (.int .i64 f.1), (.int .i64 a.1), (.slice none (List.length ([] : List (Int × Int))) 0), (.slice none (List.length ([] : List ((List UInt8) × (List UInt8) × Int))) 0)])
 ·refine Owe.heavy K [(0, 2), (1, 4), (3, 5)] K (Qb ⟨K, K, ?_⟩ (Qb ⟨K, K, ?_⟩ (Qb ⟨K, K, ?_⟩ Q8)))
  ·rintro ρ' w' hs o ⟨y7, q8⟩
   refine kN [] trivial fun p => ?_
   refine Qi.alloc (t := 33) (z := (.agg #[(.string ⟨List.toArray ([] : List UInt8)⟩), (.int .i64 0), (.int .i64 0), (.slice none (List.length ([] : List (Int × Int))) 0), (.slice none (List.length ([] : List ((List UInt8) × (List UInt8) × Int))) 0)])) (d := (some 4)) (k := 14) K rfl K q8 ?_
   intro q9 y8 r0
   refine ⟨_, Qa p, trivial, ?_⟩
   exact (Exists.intro q9 (And.intro (And.intro rfl (trivial)) r0))
  ·rintro ρ' w' hs o ⟨⟨r1, -⟩, r2⟩
   refine kN [] trivial fun p => ?_
   refine Qi.alloc (t := 33) (z := (.agg #[(.string ⟨List.toArray ([] : List UInt8)⟩), (.int .i64 0), (.int .i64 0), (.slice none (List.length ([] : List (Int × Int))) 0), (.slice none (List.length ([] : List ((List UInt8) × (List UInt8) × Int))) 0)])) (d := (some 4)) (k := 14) K rfl K r2 ?_
   intro r3 y9 r4
   refine ⟨_, Qa p, trivial, ?_⟩
   exact (Exists.intro r3 (And.intro (And.intro r1 (And.intro rfl (trivial))) r4))
  ·rintro ρ' w' hs o ⟨⟨r5, r6, -⟩, r7⟩
   refine kN [] trivial fun p => ?_
   refine Qi.alloc (t := 33) (z := (.agg #[(.string ⟨List.toArray ([] : List UInt8)⟩), (.int .i64 0), (.int .i64 0), (.slice none (List.length ([] : List (Int × Int))) 0), (.slice none (List.length ([] : List ((List UInt8) × (List UInt8) × Int))) 0)])) (d := (some 4)) (k := 14) K rfl K r7 ?_
   intro r8 z0 r9
   refine ⟨_, Qa p, trivial, ?_⟩
   exact (Exists.intro r8 (And.intro (And.intro r5 (And.intro r6 (And.intro rfl (trivial)))) r9))
 ·refine oH 5 6 ?_
  ·rintro ρ' w' hs o ⟨b0, ⟨s0, s1, e5, -⟩, s2⟩
   refine kN [(4, (pt b0 0)), (18, (.agg #[(.string ⟨List.toArray q⟩), (.int .i64 f.1), (.int .i64 a.1), (.slice none (List.length ([] : List (Int × Int))) 0), (.slice none (List.length ([] : List ((List UInt8) × (List UInt8) × Int))) 0)]))] ⟨(Vp (h := 14) K).symm.trans e5, o 13 18 K, trivial⟩ fun p => ?_
   refine Qi.store (t := 33) (x := (.tmp 4)) (y := (.tmp 18)) (g := b0) (off := 0) (i := 2) (v := (.agg #[(.string ⟨List.toArray q⟩), (.int .i64 f.1), (.int .i64 a.1), (.slice none (List.length ([] : List (Int × Int))) 0), (.slice none (List.length ([] : List ((List UInt8) × (List UInt8) × Int))) 0)])) (cs' := #[(.string ⟨List.toArray q⟩), (.int .i64 f.1), (.int .i64 a.1), (.slice none (List.length ([] : List (Int × Int))) 0), (.slice none (List.length ([] : List ((List UInt8) × (List UInt8) × Int))) 0)]) (d := none) (k := 15) K rfl K K s2 rfl K ?_
   intro z1 s3
   refine ⟨_, Qa p, trivial, ?_⟩
   exact (Exists.intro b0 (And.intro (And.intro s0 (And.intro s1 (And.intro e5 (And.intro rfl (trivial))))) s3))
 ·rintro ρ' w' hs hf ⟨a6, ⟨z2, z3, s4, z4, -⟩, e7⟩
  refine V7 [(0, (pt g1 0)), (4, (pt a6 0))] ⟨(hs 0 K).trans K, (Vp (h := 14) K).symm.trans s4, trivial⟩ ?_
  obtain ⟨z5, s5⟩ : ∃ x, w' = x := ⟨_, rfl⟩
  rw [s5] at e7 ⊢
  obtain ⟨hl762, H⟩ := Uf H
  rw [show (List.map stT d9) ++ ([(q, f.1, a.1, ([] : List (Int × Int)), ([] : List ((List UInt8) × (List UInt8) × Int)))] : List Qe) = (List.map stT (d9 ++ [(q, f.1, a.1, (none, 0, ([] : List (Int × Int))), (none, 0, ([] : List ((List UInt8) × (List UInt8) × Int))))])) from Ei (d0 := d9) (y := (q, f.1, a.1, (none, 0, ([] : List (Int × Int))), (none, 0, ([] : List ((List UInt8) × (List UInt8) × Int)))))] at H
  refine aG [GEq (pt g1 0), GEq (pt g1 0), GEq (pt g1 0), GEq (pt g1 0), GEq (pt g1 4), GEq (.slice A7 (List.length (List.map stT d9)) c8), GEq (.agg #[(.string ⟨List.toArray q⟩), (.int .i64 f.1), (.int .i64 a.1), (.slice none (List.length ([] : List (Int × Int))) 0), (.slice none (List.length ([] : List ((List UInt8) × (List UInt8) × Int))) 0)]), G5, G5, GEq (pt g1 0), GEq (pt g1 0), GEq (pt g1 4), G5] [7, 8, 12] [([], fun vs w => VL vs [] ∧ SP S w0 w [Yo A7 c8 d9, Qw g1 72 #[(.int .i64 a.2.1), (.int .i64 a.2.2.1), (.int .i64 a.2.2.2.1), (.int .i64 a.2.2.2.2.1), (.slice A7 (List.length (List.map stT d9)) c8), (.int .i64 a.2.2.2.2.2.1), (.bool a.2.2.2.2.2.2)], Qw a6 33 #[(.string ⟨List.toArray q⟩), (.int .i64 f.1), (.int .i64 a.1), (.slice none (List.length ([] : List (Int × Int))) 0), (.slice none (List.length ([] : List ((List UInt8) × (List UInt8) × Int))) 0)]]), ([7], fun vs w => ∃ (b3 : Nat), VL vs [(.slice (some ⟨b3, 0, none⟩) (List.length ([(q, f.1, a.1, ([] : List (Int × Int)), ([] : List ((List UInt8) × (List UInt8) × Int)))] : List Qe)) (List.length ([(q, f.1, a.1, ([] : List (Int × Int)), ([] : List ((List UInt8) × (List UInt8) × Int)))] : List Qe)))] ∧ SP S w0 w [Yo A7 c8 d9, Qw g1 72 #[(.int .i64 a.2.1), (.int .i64 a.2.2.1), (.int .i64 a.2.2.2.1), (.int .i64 a.2.2.2.2.1), (.slice A7 (List.length (List.map stT d9)) c8), (.int .i64 a.2.2.2.2.2.1), (.bool a.2.2.2.2.2.2)], Qw a6 33 #[(.string ⟨List.toArray q⟩), (.int .i64 f.1), (.int .i64 a.1), (.slice none (List.length ([] : List (Int × Int))) 0), (.slice none (List.length ([] : List ((List UInt8) × (List UInt8) × Int))) 0)], Q7 33 Zh (some ⟨b3, 0, none⟩) (List.length ([(q, f.1, a.1, ([] : List (Int × Int)), ([] : List ((List UInt8) × (List UInt8) × Int)))] : List Qe)) ([(q, f.1, a.1, (none, 0, ([] : List (Int × Int))), (none, 0, ([] : List ((List UInt8) × (List UInt8) × Int))))] : List Qx)]), ([7, 8], fun vs w => ∃ (c5 : Nat), ∃ (b4 : Option Addr), ∃ (b5 : Nat), VL vs [(.slice (some ⟨c5, 0, none⟩) (List.length ([(q, f.1, a.1, ([] : List (Int × Int)), ([] : List ((List UInt8) × (List UInt8) × Int)))] : List Qe)) (List.length ([(q, f.1, a.1, ([] : List (Int × Int)), ([] : List ((List UInt8) × (List UInt8) × Int)))] : List Qe))), (.slice b4 (List.length (List.map stT (d9 ++ [(q, f.1, a.1, (none, 0, ([] : List (Int × Int))), (none, 0, ([] : List ((List UInt8) × (List UInt8) × Int))))]))) b5)] ∧ SP S w0 w [Yo b4 b5 (d9 ++ [(q, f.1, a.1, (none, 0, ([] : List (Int × Int))), (none, 0, ([] : List ((List UInt8) × (List UInt8) × Int))))]), Qw g1 72 #[(.int .i64 a.2.1), (.int .i64 a.2.2.1), (.int .i64 a.2.2.2.1), (.int .i64 a.2.2.2.2.1), (.slice A7 (List.length (List.map stT d9)) c8), (.int .i64 a.2.2.2.2.2.1), (.bool a.2.2.2.2.2.2)], Qw a6 33 #[(.string ⟨List.toArray q⟩), (.int .i64 f.1), (.int .i64 a.1), (.slice none (List.length ([] : List (Int × Int))) 0), (.slice none (List.length ([] : List ((List UInt8) × (List UInt8) × Int))) 0)], Q7 33 Zh (some ⟨c5, 0, none⟩) (List.length ([(q, f.1, a.1, ([] : List (Int × Int)), ([] : List ((List UInt8) × (List UInt8) × Int)))] : List Qe)) ([(q, f.1, a.1, (none, 0, ([] : List (Int × Int))), (none, 0, ([] : List ((List UInt8) × (List UInt8) × Int))))] : List Qx)]), ([7, 8, 12], fun vs w => ∃ (d4 : Nat), ∃ (c0 : Option Addr), ∃ (c1 : Nat), VL vs [(.slice (some ⟨d4, 0, none⟩) (List.length ([(q, f.1, a.1, ([] : List (Int × Int)), ([] : List ((List UInt8) × (List UInt8) × Int)))] : List Qe)) (List.length ([(q, f.1, a.1, ([] : List (Int × Int)), ([] : List ((List UInt8) × (List UInt8) × Int)))] : List Qe))), (.slice c0 (List.length (List.map stT (d9 ++ [(q, f.1, a.1, (none, 0, ([] : List (Int × Int))), (none, 0, ([] : List ((List UInt8) × (List UInt8) × Int))))]))) c1), undef] ∧ SP S w0 w [Yo c0 c1 (d9 ++ [(q, f.1, a.1, (none, 0, ([] : List (Int × Int))), (none, 0, ([] : List ((List UInt8) × (List UInt8) × Int))))]), Qw g1 72 #[(.int .i64 a.2.1), (.int .i64 a.2.2.1), (.int .i64 a.2.2.2.1), (.int .i64 a.2.2.2.2.1), (.slice c0 (List.length (List.map stT (d9 ++ [(q, f.1, a.1, (none, 0, ([] : List (Int × Int))), (none, 0, ([] : List ((List UInt8) × (List UInt8) × Int))))]))) c1), (.int .i64 a.2.2.2.2.2.1), (.bool a.2.2.2.2.2.2)], Qw a6 33 #[(.string ⟨List.toArray q⟩), (.int .i64 f.1), (.int .i64 a.1), (.slice none (List.length ([] : List (Int × Int))) 0), (.slice none (List.length ([] : List ((List UInt8) × (List UInt8) × Int))) 0)], Q7 33 Zh (some ⟨d4, 0, none⟩) (List.length ([(q, f.1, a.1, ([] : List (Int × Int)), ([] : List ((List UInt8) × (List UInt8) × Int)))] : List Qe)) ([(q, f.1, a.1, (none, 0, ([] : List (Int × Int))), (none, 0, ([] : List ((List UInt8) × (List UInt8) × Int))))] : List Qx)])] 13 3 ⟨trivial, SP.drew e7⟩ ?_ ?_
  iterate 13 refine And.intro ?_ ?_
  exact trivial
  ·exact oV (hC (hS 0 (pt g1 0)) (h0)) (pt g1 0)
  ·exact oV (hC (hS 0 (pt g1 0)) (h0)) (pt g1 0)
  ·exact oV (hC (hA 1 20) (h0)) (pt g1 0)
  ·exact oV (hC (hA 2 21) (h0)) (pt g1 0)
  ·exact oV (hC (hA 3 22) (h0)) (pt g1 4)
  ·refine Owe.light K [0, 1] K (Qb ?_ (Qb ?_ Q8))
   ·rintro ρ' w' hs o ⟨z6, s6⟩
    refine kM (kc (kA o 4 23) k0) fun p => ?_
    refine sL 22 23 g1 4 1 (.slice A7 (List.length (List.map stT d9)) c8) 24 s6 rfl ?_
    exact eK p
   ·rintro ρ' w' hs o ⟨b3, ⟨z7, -⟩, s7⟩
    refine kM (kc (kA o 4 23) k0) fun p => ?_
    refine sL 22 23 g1 4 1 (.slice A7 (List.length (List.map stT d9)) c8) 24 s7 rfl ?_
    exact eK p
  ·refine oL 0 ?_
   ·rintro ρ' w' hs o ⟨z8, s8⟩
    refine kM (kc (kS hs 4 (pt a6 0)) k0) fun p => ?_
    refine sL 33 4 a6 0 2 (.agg #[(.string ⟨List.toArray q⟩), (.int .i64 f.1), (.int .i64 a.1), (.slice none (List.length ([] : List (Int × Int))) 0), (.slice none (List.length ([] : List ((List UInt8) × (List UInt8) × Int))) 0)]) 25 s8 rfl ?_
    exact eK p
  ·refine oH 0 1 ?_
   ·rintro ρ' w' hs o ⟨z9, s9⟩
    refine kM (kc (kA o 6 25) k0) fun p => ?_
    refine Zk (e := Zh) (T := 22) (E := 33) (len := 1) (parts := #[(0, (.tmp 25))]) (cs := #[(.string ⟨List.toArray q⟩), (.int .i64 f.1), (.int .i64 a.1), (.slice none (List.length ([] : List (Int × Int))) 0), (.slice none (List.length ([] : List ((List UInt8) × (List UInt8) × Int))) 0)]) ([(q, f.1, a.1, (none, 0, ([] : List (Int × Int))), (none, 0, ([] : List ((List UInt8) × (List UInt8) × Int))))] : List Qx) (d := (some 26)) (k := 7) K rfl (fun _ => K) s9 rfl rfl rfl rfl ?_
    intro t0 aa0 t1
    refine ⟨_, Qa p, trivial, ?_⟩
    exact (Exists.intro t0 (And.intro (And.intro rfl (trivial)) t1))
  ·refine oH 1 2 ?_
   ·rintro ρ' w' hs o ⟨b3, ⟨e8, -⟩, e9⟩
    refine kN [(24, (.slice A7 (List.length (List.map stT d9)) c8)), (26, (.slice (some ⟨b3, 0, none⟩) (List.length ([(q, f.1, a.1, ([] : List (Int × Int)), ([] : List ((List UInt8) × (List UInt8) × Int)))] : List Qe)) (List.length ([(q, f.1, a.1, ([] : List (Int × Int)), ([] : List ((List UInt8) × (List UInt8) × Int)))] : List Qe))))] ⟨o 5 24 K, (Vp (h := 7) K).symm.trans e8, trivial⟩ fun p => ?_
    refine Cf (d := d9) (m := ([(q, f.1, a.1, (none, 0, ([] : List (Int × Int))), (none, 0, ([] : List ((List UInt8) × (List UInt8) × Int))))] : List Qx)) (y := (q, f.1, a.1, (none, 0, ([] : List (Int × Int))), (none, 0, ([] : List ((List UInt8) × (List UInt8) × Int))))) (A := A7) (c := c8) (T := 22) (TX := 22) (b := 80) (s := (.tmp 24)) (x := (.tmp 26)) (i := 0) (vx := (.slice (some ⟨b3, 0, none⟩) (List.length ([(q, f.1, a.1, ([] : List (Int × Int)), ([] : List ((List UInt8) × (List UInt8) × Int)))] : List Qe)) (List.length ([(q, f.1, a.1, ([] : List (Int × Int)), ([] : List ((List UInt8) × (List UInt8) × Int)))] : List Qe)))) (dst := (some 27)) (k := 8) K rfl K K K K K e9 rfl (Dc (E := 33) K (Vl (SP.get e9 (i := 3) rfl))) rfl rfl (lm := ([(q, f.1, a.1, ([] : List (Int × Int)), ([] : List ((List UInt8) × (List UInt8) × Int)))] : List Qe)) hl762 rfl ?_
    intro t2 t3 aa1 t4
    refine ⟨_, Qa p, trivial, ?_⟩
    exact (Exists.intro b3 (Exists.intro t2 (Exists.intro t3 (And.intro (And.intro e8 (And.intro rfl (trivial))) t4))))
  ·exact oV (hC (hA 0 19) (h0)) (pt g1 0)
  ·exact oV (hC (hA 9 28) (h0)) (pt g1 0)
  ·exact oV (hC (hA 10 29) (h0)) (pt g1 4)
  ·refine oH 2 3 ?_
   ·rintro ρ' w' hs o ⟨c5, b4, b5, ⟨t5, f0, -⟩, t6⟩
    refine kN [(30, (pt g1 4)), (27, (.slice b4 (List.length (List.map stT (d9 ++ [(q, f.1, a.1, (none, 0, ([] : List (Int × Int))), (none, 0, ([] : List ((List UInt8) × (List UInt8) × Int))))]))) b5))] ⟨o 11 30 K, (Vp (h := 8) K).symm.trans f0, trivial⟩ fun p => ?_
    refine Qi.store (t := 22) (x := (.tmp 30)) (y := (.tmp 27)) (g := g1) (off := 4) (i := 1) (v := (.slice b4 (List.length (List.map stT (d9 ++ [(q, f.1, a.1, (none, 0, ([] : List (Int × Int))), (none, 0, ([] : List ((List UInt8) × (List UInt8) × Int))))]))) b5)) (cs' := #[(.int .i64 a.2.1), (.int .i64 a.2.2.1), (.int .i64 a.2.2.2.1), (.int .i64 a.2.2.2.2.1), (.slice b4 (List.length (List.map stT (d9 ++ [(q, f.1, a.1, (none, 0, ([] : List (Int × Int))), (none, 0, ([] : List ((List UInt8) × (List UInt8) × Int))))]))) b5), (.int .i64 a.2.2.2.2.2.1), (.bool a.2.2.2.2.2.2)]) (d := none) (k := 12) K rfl K K t6 rfl K ?_
    intro aa2 t7
    refine ⟨_, Qa p, trivial, ?_⟩
    exact (Exists.intro c5 (Exists.intro b4 (Exists.intro b5 (And.intro (And.intro t5 (And.intro f0 (And.intro rfl (trivial)))) t7))))
  ·rintro ρ' w' hs hf ⟨d4, c0, c1, ⟨aa3, aa4, aa5, -⟩, f1⟩
   refine V7 [] trivial ?_
   obtain ⟨aa6, t8⟩ : ∃ x, w' = x := ⟨_, rfl⟩
   rw [t8] at f1 ⊢
   refine ⟨(.tuple #[]), K, ?_⟩
   obtain rfl := Qf H
   exact ⟨c0, c1, (d9 ++ [(q, f.1, a.1, (none, 0, ([] : List (Int × Int))), (none, 0, ([] : List ((List UInt8) × (List UInt8) × Int))))]), rfl, rfl, SP.sel f1 [1,0] rfl rfl⟩
def Z4 (q2 : Int) (q3 : Int) (q4 : Int) (q5 : Int) (q6 : (List Qe)) (a : Int) (b : Bool) : Option ((List UInt8) × Int × Int × (List (Int × Int)) × (List ((List UInt8) × (List UInt8) × Int)) × Int × Int × Int × Int × Int × Bool) :=
  (cond (((List.length q6 : Nat) : Int) == 0) (some (([] : List UInt8), 0, 0, ([] : List (Int × Int)), ([] : List ((List UInt8) × (List UInt8) × Int)), q2, q3, q4, q5, a, true)) none)
set_option maxHeartbeats 40000000 in
theorem Y3 {S : List Nat} (g1 : Nat) (A7 : Option Addr) (c8 : Nat) (q2 : Int) (q3 : Int) (q4 : Int) (q5 : Int) (a : (List Qx)) (c : Int) (j : Bool) (w0 : World) (hO : SP S w0 w0 [Qw g1 72 #[(.int .i64 q2), (.int .i64 q3), (.int .i64 q4), (.int .i64 q5), (.slice A7 (List.length (List.map stT a)) c8), (.int .i64 c), (.bool j)]]) (a4 : ∀ w, Mod S w0 w → (dDS Zh H0).ok w (A7, c8, a)) (r : ((List UInt8) × Int × Int × (List (Int × Int)) × (List ((List UInt8) × (List UInt8) × Int)) × Int × Int × Int × Int × Int × Bool)) (H : Z4 q2 q3 q4 q5 (List.map stT a) c j = some r) :
  Calls Tryz.prog 166 #[(pt g1 0)] w0 (fun e w' => ∃ (l : Nat) (m : Option Addr) (p : Nat) (q : Option Addr) (s : Nat), e = .returned (pt l 0) ∧ SP S w0 w' [Qw l 33 #[(.string ⟨List.toArray r.1⟩), (.int .i64 r.2.1), (.int .i64 r.2.2.1), (.slice m (List.length r.2.2.2.1) p), (.slice q (List.length r.2.2.2.2.1) s)], Q7 102 (Qg (Ve .u32) (Ve .i64)) m p r.2.2.2.1, Q7 37 (Qg Qo (Qg Qo (Ve .i64))) q s r.2.2.2.2.1, Qw g1 72 #[(.int .i64 r.2.2.2.2.2.1), (.int .i64 r.2.2.2.2.2.2.1), (.int .i64 r.2.2.2.2.2.2.2.1), (.int .i64 r.2.2.2.2.2.2.2.2.1), (.slice A7 (List.length (List.map stT a)) c8), (.int .i64 r.2.2.2.2.2.2.2.2.2.1), (.bool r.2.2.2.2.2.2.2.2.2.2)]]) := by
 unfold Z4 at H
 refine Qv (n := 28) Tryz.func166 K K K ?_
 have u := hO
 refine aQ ?_
 refine aR ?_
 refine iR 1 1 [(2, (.pointer none))] ?_
 refine iF ?_
 refine aQ ?_
 refine aQ ?_
 refine aR ?_
 refine iR 4 4 [(3, (pt g1 0)), (4, (pt g1 0)), (5, (pt g1 0)), (6, (pt g1 4))] ?_
 refine iS 5 ?_
 refine sL 22 6 g1 4 0 (.slice A7 (List.length (List.map stT a)) c8) 7 u rfl ?_
 refine iR 2 7 [(8, (.int .i64 ((List.length (List.map stT a) : Nat) : Int))), (9, (.bool (((List.length (List.map stT a) : Nat) : Int) == 0)))] ?_
 refine iF ?_
 refine Xe K (o := (.tmp 9)) K (b := (((List.length (List.map stT a) : Nat) : Int) == 0)) K (fun h => ?_) (fun h => ?_)
 ·have H := ct H h
  refine aQ ?_
  refine aR ?_
  refine iR 3 3 [(10, (pt g1 0)), (11, (pt g1 0)), (12, (pt g1 6))] ?_
  refine iS 4 ?_
  refine Qi.store (t := 4) (x := (.tmp 12)) (y := (.const (.bool true))) (g := g1) (off := 6) (i := 0) (v := (.bool true)) (cs' := #[(.int .i64 q2), (.int .i64 q3), (.int .i64 q4), (.int .i64 q5), (.slice A7 (List.length (List.map stT a)) c8), (.int .i64 c), (.bool true)]) (d := none) (k := 3) K rfl K K u rfl K ?_
  intro a5 a0
  refine iF ?_
  refine aQ ?_
  refine aR ?_
  refine iR 1 1 [(13, (.agg #[(.string ⟨List.toArray ([] : List UInt8)⟩), (.int .i64 0), (.int .i64 0), (.slice none (List.length ([] : List (Int × Int))) 0), (.slice none (List.length ([] : List ((List UInt8) × (List UInt8) × Int))) 0)]))] ?_
  refine iS 2 ?_
  refine Xp (t := 33) (x := (.tmp 13)) (v := (.agg #[(.string ⟨List.toArray ([] : List UInt8)⟩), (.int .i64 0), (.int .i64 0), (.slice none (List.length ([] : List (Int × Int))) 0), (.slice none (List.length ([] : List ((List UInt8) × (List UInt8) × Int))) 0)])) (d := (some 14)) (k := 1) K rfl K a0 ?_
  intro f z a1
  refine iR 1 3 [(2, (pt f 0))] ?_
  refine iF ?_
  refine At.ret K ?_
  have a2 : SP S w0 z [Qw g1 72 #[(.int .i64 q2), (.int .i64 q3), (.int .i64 q4), (.int .i64 q5), (.slice A7 (List.length (List.map stT a)) c8), (.int .i64 c), (.bool true)], Qw f 33 #[(.string ⟨List.toArray ([] : List UInt8)⟩), (.int .i64 0), (.int .i64 0), (.slice none (List.length ([] : List (Int × Int))) 0), (.slice none (List.length ([] : List ((List UInt8) × (List UInt8) × Int))) 0)], Q7 102 (Qg (Ve .u32) (Ve .i64)) none 0 ([] : List (Int × Int))] := Uu a1 102 (Qg (Ve .u32) (Ve .i64))
  have a3 : SP S w0 z [Qw g1 72 #[(.int .i64 q2), (.int .i64 q3), (.int .i64 q4), (.int .i64 q5), (.slice A7 (List.length (List.map stT a)) c8), (.int .i64 c), (.bool true)], Qw f 33 #[(.string ⟨List.toArray ([] : List UInt8)⟩), (.int .i64 0), (.int .i64 0), (.slice none (List.length ([] : List (Int × Int))) 0), (.slice none (List.length ([] : List ((List UInt8) × (List UInt8) × Int))) 0)], Q7 102 (Qg (Ve .u32) (Ve .i64)) none 0 ([] : List (Int × Int)), Q7 37 (Qg Qo (Qg Qo (Ve .i64))) none 0 ([] : List ((List UInt8) × (List UInt8) × Int))] := Uu a2 37 (Qg Qo (Qg Qo (Ve .i64)))
  refine ⟨(pt f 0), K, ?_⟩
  obtain rfl := Qf H
  exact ⟨f, none, 0, none, 0, rfl, SP.sel a3 [1,2,3,0] rfl rfl⟩
 ·have H := cf H h
  cases H
def Zg (q2 : Int) (q3 : Int) (q4 : Int) (q5 : Int) (q6 : (List Qe)) (a : Int) (b : Bool) : Option Unit :=
  (cond (((List.length q6 : Nat) : Int) == 0) none ((idx q6 (IntKind.wrap .i64 (((List.length q6 : Nat) : Int) - 1))).bind fun c => (some ())))
set_option maxHeartbeats 40000000 in
theorem Y4 {S : List Nat} (g1 : Nat) (A7 : Option Addr) (c8 : Nat) (q2 : Int) (q3 : Int) (q4 : Int) (q5 : Int) (a : (List Qx)) (h : Int) (i : Bool) (w0 : World) (hO : SP S w0 w0 [Qw g1 72 #[(.int .i64 q2), (.int .i64 q3), (.int .i64 q4), (.int .i64 q5), (.slice A7 (List.length (List.map stT a)) c8), (.int .i64 h), (.bool i)]]) (s : ∀ w, Mod S w0 w → (dDS Zh H0).ok w (A7, c8, a)) (r : Unit) (H : Zg q2 q3 q4 q5 (List.map stT a) h i = some r) :
  Calls Tryz.prog 166 #[(pt g1 0)] w0 (fun e w' => ∃ (t : Nat) (u : Nat), e = .returned (.pointer (some ⟨t, (u + (List.length (List.map stT a) - 1) * Zh.sz), none⟩)) ∧ A7 = some ⟨t, u, none⟩ ∧ SP S w0 w' [Qw g1 72 #[(.int .i64 q2), (.int .i64 q3), (.int .i64 q4), (.int .i64 q5), (.slice A7 (List.length (List.map stT a)) c8), (.int .i64 h), (.bool i)]]) := by
 unfold Zg at H
 refine Qv (n := 28) Tryz.func166 K K K ?_
 have y := hO
 refine aQ ?_
 refine aR ?_
 refine iR 1 1 [(2, (.pointer none))] ?_
 refine iF ?_
 refine aQ ?_
 refine aQ ?_
 refine aR ?_
 refine iR 4 4 [(3, (pt g1 0)), (4, (pt g1 0)), (5, (pt g1 0)), (6, (pt g1 4))] ?_
 refine iS 5 ?_
 refine sL 22 6 g1 4 0 (.slice A7 (List.length (List.map stT a)) c8) 7 y rfl ?_
 refine iR 2 7 [(8, (.int .i64 ((List.length (List.map stT a) : Nat) : Int))), (9, (.bool (((List.length (List.map stT a) : Nat) : Int) == 0)))] ?_
 refine iF ?_
 refine Xe K (o := (.tmp 9)) K (b := (((List.length (List.map stT a) : Nat) : Int) == 0)) K (fun j => ?_) (fun j => ?_)
 ·have H := ct H j
  cases H
 ·have H := cf H j
  refine At.skip K ?_
  refine aQ ?_
  obtain ⟨b4, z, a0, b5, H⟩ := Nr H
  refine aG [GEq (pt g1 0), GEq (pt g1 0), GEq (pt g1 0), GEq (pt g1 4), GEq (.slice A7 (List.length (List.map stT a)) c8), GEq (pt g1 0), GEq (pt g1 0), GEq (pt g1 0), GEq (pt g1 4), GEq (.slice A7 (List.length (List.map stT a)) c8), GEq (.int .i64 ((List.length (List.map stT a) : Nat) : Int)), GEq (.int .i64 (IntKind.wrap .i64 (((List.length (List.map stT a) : Nat) : Int) - 1))), Ja A7 Zh.sz (IntKind.wrap .i64 (((List.length (List.map stT a) : Nat) : Int) - 1)), Ja A7 Zh.sz (IntKind.wrap .i64 (((List.length (List.map stT a) : Nat) : Int) - 1))] [] (tG S w0 [Qw g1 72 #[(.int .i64 q2), (.int .i64 q3), (.int .i64 q4), (.int .i64 q5), (.slice A7 (List.length (List.map stT a)) c8), (.int .i64 h), (.bool i)]] [([], [])]) 14 0 ⟨trivial, SP.drew y⟩ ?_ ?_
  iterate 14 refine And.intro ?_ ?_
  exact trivial
  ·exact oV (hC (hS 0 (pt g1 0)) (h0)) (pt g1 0)
  ·exact oV (hC (hA 0 15) (h0)) (pt g1 0)
  ·exact oV (hC (hA 1 16) (h0)) (pt g1 0)
  ·exact oV (hC (hA 2 17) (h0)) (pt g1 4)
  ·refine oL 0 ?_
   ·rintro ρ' w' hs f ⟨b6, a3⟩
    refine kM (kc (kA f 3 18) k0) fun g => ?_
    refine sL 22 18 g1 4 0 (.slice A7 (List.length (List.map stT a)) c8) 19 a3 rfl ?_
    exact eK g
  ·exact oV (hC (hS 0 (pt g1 0)) (h0)) (pt g1 0)
  ·exact oV (hC (hA 5 20) (h0)) (pt g1 0)
  ·exact oV (hC (hA 6 21) (h0)) (pt g1 0)
  ·exact oV (hC (hA 7 22) (h0)) (pt g1 4)
  ·refine oL 0 ?_
   ·rintro ρ' w' hs f ⟨b7, a4⟩
    refine kM (kc (kA f 8 23) k0) fun g => ?_
    refine sL 22 23 g1 4 0 (.slice A7 (List.length (List.map stT a)) c8) 24 a4 rfl ?_
    exact eK g
  ·exact oV (hC (hA 9 24) (h0)) (.int .i64 ((List.length (List.map stT a) : Nat) : Int))
  ·exact oV (hC (hA 10 25) (h0)) (.int .i64 (IntKind.wrap .i64 (((List.length (List.map stT a) : Nat) : Int) - 1)))
  ·refine oL 0 ?_
   ·rintro ρ' w' hs f ⟨b8, a5⟩
    refine kM (kc (kA f 4 19) (kc (kA f 11 26) k0)) fun g => ?_
    refine Ub stT (e := Zh) (l := a) (A := A7) (c := c8) (T := 22) (E := 33) (x := (.tmp 19)) (ix := (.tmp 26)) (ki := .i64) (iz := (IntKind.wrap .i64 (((List.length (List.map stT a) : Nat) : Int) - 1))) (d := (some 27)) (k := 12) K rfl K K K K ((fun w hm => (Uk (s w hm))) w' (SP.mod a5)) z a0 ?_
    intro a6 a7 a8 b9 hc68
    exact ⟨rfl, _, Qa g, ⟨a6, a7, a8, rfl⟩⟩
  ·refine oL 0 ?_
   ·rintro ρ' w' hs f ⟨c0, c1⟩
    obtain ⟨a1, a2, a9, b0⟩ := f 12 27 K
    refine kM (kc b0 k0) fun g => ?_
    refine Qi.run (k := 13) (v := (.pointer (some ⟨a1, (a2 + Int.toNat (IntKind.wrap .i64 (((List.length (List.map stT a) : Nat) : Int) - 1)) * Zh.sz), none⟩))) K ?_
    exact ⟨rfl, _, Qa g, ⟨a1, a2, a9, rfl⟩⟩
  ·rintro ρ' w' hs hf ⟨c2, m⟩
   obtain ⟨p, q, b1, e2⟩ := hf 13 2 K
   refine V7 [(2, (.pointer (some ⟨p, (q + Int.toNat (IntKind.wrap .i64 (((List.length (List.map stT a) : Nat) : Int) - 1)) * Zh.sz), none⟩)))] ⟨e2, trivial⟩ ?_
   obtain ⟨b2, b3⟩ : ∃ x, w' = x := ⟨_, rfl⟩
   rw [b3] at m ⊢
   refine At.ret K ?_
   refine ⟨(.pointer (some ⟨p, (q + Int.toNat (IntKind.wrap .i64 (((List.length (List.map stT a) : Nat) : Int) - 1)) * Zh.sz), none⟩)), K, ?_⟩
   obtain rfl := Qf H
   exact ⟨p, q, (by rw [last_idx (RdT.max ((fun w hm => (Uk (s w hm))) b2 (SP.mod m))) z a0]), b1, SP.sel m [0] rfl rfl⟩
def Zw (q6 : (List Qe)) (b : (Int × Int × Bool)) (a : ((List UInt8) × Int × Int × (List (Int × Int)) × (List ((List UInt8) × (List UInt8) × Int)) × Int × Int × Int × Int × Int × Bool)) (c : Bool) : Option (Int × Int × Int × Int × (List Qe) × Int × Bool) :=
  ((app a.2.2.2.1 ([(b.1, b.2.1)] : List (Int × Int))).bind fun d => (some (a.2.2.2.2.2.1, a.2.2.2.2.2.2.1, a.2.2.2.2.2.2.2.1, a.2.2.2.2.2.2.2.2.1, q6, a.2.2.2.2.2.2.2.2.2.1, c)))
def V6 (q2 : Int) (q3 : Int) (q4 : Int) (q5 : Int) (c : Int) (b : (Int × Int × Bool)) (d : (List Qe)) (a : Qe) (e : Bool) : Option (Int × Int × Int × Int × (List Qe) × Int × Bool) :=
  ((app a.2.2.2.1 ([(b.1, b.2.1)] : List (Int × Int))).bind fun f => (some (q2, q3, q4, q5, (d ++ [(a.1, a.2.1, a.2.2.1, f, a.2.2.2.2)]), c, e)))
def Yf (q2 : Int) (q3 : Int) (q4 : Int) (q5 : Int) (q6 : (List Qe)) (b : Int) (e : Bool) (g : (List (List UInt8))) : Option (Int × Int × Int × Int × (List Qe) × Int × Bool) :=
  ((idx g 1).bind fun h => ((Um h).bind fun a => (cond (List.isEmpty q6) ((Z4 q2 q3 q4 q5 q6 b e).bind fun c => (cond c.2.2.2.2.2.2.2.2.2.2 (Zw q6 a c true) (cond (!a.2.2) (Zw q6 a c true) (Zw q6 a c (decide (((List.length c.2.2.2.2.1 : Nat) : Int) > 0)))))) ((Zg q2 q3 q4 q5 q6 b e).bind fun i => (Ic q6 (fun f d j => (cond e (V6 q2 q3 q4 q5 b a f d true) (cond (!a.2.2) (V6 q2 q3 q4 q5 b a f d true) (V6 q2 q3 q4 q5 b a f d (decide (((List.length d.2.2.2.2 : Nat) : Int) > 0)))))))))))
set_option maxHeartbeats 40000000 in
theorem Nx {S : List Nat} (g1 : Nat) (A7 : Option Addr) (c8 : Nat) (d1 : Option Addr) (d2 : Nat) (q2 : Int) (q3 : Int) (q4 : Int) (q5 : Int) (d9 : (List Qx)) (a6 : Int) (b4 : Bool) (c5 : (List (List UInt8))) (w0 : World) (hL : ∀ w, Mod S w0 w → Uj w) (hO : SP S w0 w0 [Qw g1 72 #[(.int .i64 q2), (.int .i64 q3), (.int .i64 q4), (.int .i64 q5), (.slice A7 (List.length (List.map stT d9)) c8), (.int .i64 a6), (.bool b4)], Yo A7 c8 d9]) (e8 : ∀ w, Mod S w0 w → RdT Qo w d1 d2 c5) (r : (Int × Int × Int × Int × (List Qe) × Int × Bool)) (H : Yf q2 q3 q4 q5 (List.map stT d9) a6 b4 c5 = some r) :
  Calls Tryz.prog 144 #[(pt g1 0), (.slice d1 (List.length c5) d2)] w0 (fun e w' => ∃ (e9 : Option Addr) (f0 : Nat) (e1 : List Qx), e = .returned (.tuple #[]) ∧ r.2.2.2.2.1 = List.map stT e1 ∧ SP S w0 w' [Qw g1 72 #[(.int .i64 r.1), (.int .i64 r.2.1), (.int .i64 r.2.2.1), (.int .i64 r.2.2.2.1), (.slice e9 (List.length (List.map stT e1)) f0), (.int .i64 r.2.2.2.2.2.1), (.bool r.2.2.2.2.2.2)], Yo e9 f0 e1]) := by
 unfold Yf at H
 refine Qv (n := 45) Tryz.func144 K K K ?_
 have d3 := hO
 refine aQ ?_
 refine aR ?_
 refine iR 1 1 [(8, (.slice d1 (List.length c5) d2))] ?_
 obtain ⟨f1, f2, f3, g9, H⟩ := Vk H
 refine iS 2 ?_
 refine Ql (e := Qo) (l := c5) (A := d1) (c := d2) (T := 79) (E := 9) (x := (.tmp 8)) (ix := (.const (.int .i64 (1)))) (ki := .i64) (iz := 1) (d := (some 9)) (k := 1) K rfl K K K K (e8 w0 (SP.mod d3)) f2 f3 ?_
 intro h1 h2 h3 l9 hc272
 refine iS 3 ?_
 refine sC 9 9 h1 (h2 + Int.toNat 1 * Qo.sz) (.string ⟨List.toArray f1⟩) 10 (Qy (e := Qo) (Qm (e8 w0 (SP.mod d3)) h3 f2 f3) g9 (j := 0) rfl) ?_
 obtain ⟨a, h4, H⟩ := Qc H
 refine iS 4 ?_
 refine cF 165 #[(.tmp 10)] #[9] 11 Tryz.call165 (Di  f1 w0 (hL w0 (SP.mod d3)) a h4) ?_
 rintro e m0 ⟨rfl, f4⟩
 refine ⟨_, rfl, ?_⟩
 have h5 := SP.call d3 f4
 clear f4
 refine iR 3 7 [(7, (.tuple #[(.agg #[(.int .u32 a.1), (.int .i64 a.2.1)]), (.bool a.2.2)])), (12, (.agg #[(.int .u32 a.1), (.int .i64 a.2.1)])), (13, (.bool a.2.2))] ?_
 refine iS 8 ?_
 refine Qi.alloc (t := 102) (z := (.agg #[(.int .u32 0), (.int .i64 0)])) (d := (some 4)) (k := 7) K rfl K h5 ?_
 intro a1 m1 h6
 refine iS 9 ?_
 refine Qi.store (t := 102) (x := (.tmp 4)) (y := (.tmp 12)) (g := a1) (off := 0) (i := 2) (v := (.agg #[(.int .u32 a.1), (.int .i64 a.2.1)])) (cs' := #[(.int .u32 a.1), (.int .i64 a.2.1)]) (d := none) (k := 8) K rfl K K h6 rfl K ?_
 intro f5 c4
 refine iR 1 10 [(5, (.bool a.2.2))] ?_
 refine iF ?_
 refine aQ ?_
 refine aR ?_
 refine iR 1 1 [(14, (pt g1 0))] ?_
 rcases Bool.eq_false_or_eq_true (List.isEmpty (List.map stT d9)) with d4 | d4
 ·have H := ct H d4
  obtain ⟨p, h7, H⟩ := Qc H
  refine iS 2 ?_
  refine cF 166 #[(.tmp 14)] #[70] 15 Tryz.call166 (Y3 g1 A7 c8 q2 q3 q4 q5 d9 a6 b4 f5 (Y2 c4 [0] rfl rfl) (fun w hm => Gx (SP.still c4 (l := [0]) (i := 1) rfl rfl rfl hm)) p h7) ?_
  rintro e h8 ⟨a0, a8, a9, b0, b1, rfl, f6⟩
  refine ⟨_, rfl, ?_⟩
  have c6 : SP S w0 h8 [Yo A7 c8 d9, Qw a1 102 #[(.int .u32 a.1), (.int .i64 a.2.1)], Qw a0 33 #[(.string ⟨List.toArray p.1⟩), (.int .i64 p.2.1), (.int .i64 p.2.2.1), (.slice a8 (List.length p.2.2.2.1) a9), (.slice b0 (List.length p.2.2.2.2.1) b1)], Q7 102 (Qg (Ve .u32) (Ve .i64)) a8 a9 p.2.2.2.1, Q7 37 (Qg Qo (Qg Qo (Ve .i64))) b0 b1 p.2.2.2.2.1, Qw g1 72 #[(.int .i64 p.2.2.2.2.2.1), (.int .i64 p.2.2.2.2.2.2.1), (.int .i64 p.2.2.2.2.2.2.2.1), (.int .i64 p.2.2.2.2.2.2.2.2.1), (.slice A7 (List.length (List.map stT d9)) c8), (.int .i64 p.2.2.2.2.2.2.2.2.2.1), (.bool p.2.2.2.2.2.2.2.2.2.2)]] := Zm c4 [0] [1, 2] rfl rfl f6 rfl
  clear f6
  refine iR 1 3 [(6, (pt a0 0))] ?_
  refine iF ?_
  refine aQ ?_
  refine At.join (fun ρ w => ∃ (b7 : Bool), Zi ρ [(4, (pt a1 0)), (6, (pt a0 0))] ∧ SP S w0 w [Yo A7 c8 d9, Qw g1 72 #[(.int .i64 p.2.2.2.2.2.1), (.int .i64 p.2.2.2.2.2.2.1), (.int .i64 p.2.2.2.2.2.2.2.1), (.int .i64 p.2.2.2.2.2.2.2.2.1), (.slice A7 (List.length (List.map stT d9)) c8), (.int .i64 p.2.2.2.2.2.2.2.2.2.1), (.bool b7)], Qw a1 102 #[(.int .u32 a.1), (.int .i64 a.2.1)], Q7 102 (Qg (Ve .u32) (Ve .i64)) a8 a9 p.2.2.2.1, Q7 37 (Qg Qo (Qg Qo (Ve .i64))) b0 b1 p.2.2.2.2.1, Qw a0 33 #[(.string ⟨List.toArray p.1⟩), (.int .i64 p.2.1), (.int .i64 p.2.2.1), (.slice a8 (List.length p.2.2.2.1) a9), (.slice b0 (List.length p.2.2.2.2.1) b1)]] ∧ Zw (List.map stT d9) a p b7 = some r) ?_ ?_
  ·refine aR ?_
   refine iR 4 4 [(16, (pt g1 0)), (17, (pt g1 0)), (18, (pt g1 0)), (19, (pt g1 6))] ?_
   refine iS 5 ?_
   refine sL 4 19 g1 6 5 (.bool p.2.2.2.2.2.2.2.2.2.2) 20 c6 rfl ?_
   refine iR 1 6 [(21, (.bool p.2.2.2.2.2.2.2.2.2.2))] ?_
   refine In.guard (t := 21) (b := p.2.2.2.2.2.2.2.2.2.2) K (fun e2 => ?_) (fun e2 => ?_)
   ·have H := ct H e2
    refine iR 13 19 [(22, undef), (23, undef), (24, (.bool true)), (25, (.bool true)), (26, undef), (27, undef), (28, undef), (29, undef), (30, undef), (31, undef), (32, (.bool true)), (33, (pt g1 0)), (34, (pt g1 6))] ?_
    refine iS 20 ?_
    refine Qi.store (t := 4) (x := (.tmp 34)) (y := (.tmp 32)) (g := g1) (off := 6) (i := 5) (v := (.bool true)) (cs' := #[(.int .i64 p.2.2.2.2.2.1), (.int .i64 p.2.2.2.2.2.2.1), (.int .i64 p.2.2.2.2.2.2.2.1), (.int .i64 p.2.2.2.2.2.2.2.2.1), (.slice A7 (List.length (List.map stT d9)) c8), (.int .i64 p.2.2.2.2.2.2.2.2.2.1), (.bool true)]) (d := none) (k := 19) K rfl K K c6 rfl K ?_
    intro m2 h9
    refine iF ?_
    exact ⟨true, ⟨K, K, trivial⟩, SP.sel h9 [0, 5, 1, 3, 4, 2] rfl rfl, H⟩
   ·have H := cf H e2
    refine iR 4 10 [(22, (.bool a.2.2)), (23, (.bool (!a.2.2))), (24, (.bool (!a.2.2))), (25, (.bool (!a.2.2)))] ?_
    refine In.guard (t := 25) (b := (!a.2.2)) K (fun e3 => ?_) (fun e3 => ?_)
    ·have H := ct H e3
     refine iR 9 19 [(26, undef), (27, undef), (28, undef), (29, undef), (30, undef), (31, undef), (32, (.bool true)), (33, (pt g1 0)), (34, (pt g1 6))] ?_
     refine iS 20 ?_
     refine Qi.store (t := 4) (x := (.tmp 34)) (y := (.tmp 32)) (g := g1) (off := 6) (i := 5) (v := (.bool true)) (cs' := #[(.int .i64 p.2.2.2.2.2.1), (.int .i64 p.2.2.2.2.2.2.1), (.int .i64 p.2.2.2.2.2.2.2.1), (.int .i64 p.2.2.2.2.2.2.2.2.1), (.slice A7 (List.length (List.map stT d9)) c8), (.int .i64 p.2.2.2.2.2.2.2.2.2.1), (.bool true)]) (d := none) (k := 19) K rfl K K c6 rfl K ?_
     intro m3 i0
     refine iF ?_
     exact ⟨true, ⟨K, K, trivial⟩, SP.sel i0 [0, 5, 1, 3, 4, 2] rfl rfl, H⟩
    ·have H := cf H e3
     refine iR 3 13 [(26, (pt a0 0)), (27, (pt a0 0)), (28, (pt a0 4))] ?_
     refine iS 14 ?_
     refine sL 31 28 a0 4 2 (.slice b0 (List.length p.2.2.2.2.1) b1) 29 c6 rfl ?_
     refine iR 5 19 [(30, (.int .i64 ((List.length p.2.2.2.2.1 : Nat) : Int))), (31, (.bool (decide (((List.length p.2.2.2.2.1 : Nat) : Int) > 0)))), (32, (.bool (decide (((List.length p.2.2.2.2.1 : Nat) : Int) > 0)))), (33, (pt g1 0)), (34, (pt g1 6))] ?_
     refine iS 20 ?_
     refine Qi.store (t := 4) (x := (.tmp 34)) (y := (.tmp 32)) (g := g1) (off := 6) (i := 5) (v := (.bool (decide (((List.length p.2.2.2.2.1 : Nat) : Int) > 0)))) (cs' := #[(.int .i64 p.2.2.2.2.2.1), (.int .i64 p.2.2.2.2.2.2.1), (.int .i64 p.2.2.2.2.2.2.2.1), (.int .i64 p.2.2.2.2.2.2.2.2.1), (.slice A7 (List.length (List.map stT d9)) c8), (.int .i64 p.2.2.2.2.2.2.2.2.2.1), (.bool (decide (((List.length p.2.2.2.2.1 : Nat) : Int) > 0)))]) (d := none) (k := 19) K rfl K K c6 rfl K ?_
     intro m4 i1
     refine iF ?_
     exact ⟨(decide (((List.length p.2.2.2.2.1 : Nat) : Int) > 0)), ⟨K, K, trivial⟩, SP.sel i1 [0, 5, 1, 3, 4, 2] rfl rfl, H⟩
  ·rintro ρ m5 ⟨b7, hk, i2, H⟩
   unfold Zw at H
   first | refine At.known [(4, (pt a1 0)), (6, (pt a0 0))] hk ?_ | rw [← Q1 (l := [(4, (pt a1 0)), (6, (pt a0 0))]) hk]
   obtain ⟨hl318, H⟩ := Uf H
   obtain ⟨b6, hyl319⟩ : ∃ y, p.2.2.2.1 ++ ([(a.1, a.2.1)] : List (Int × Int)) = y := ⟨_, rfl⟩
   try rw [hyl319] at H
   refine aG [GEq (pt a0 0), GEq (pt a0 0), GEq (pt a0 0), GEq (pt a0 3), GEq (.slice a8 (List.length p.2.2.2.1) a9), GEq (.agg #[(.int .u32 a.1), (.int .i64 a.2.1)]), G5, G5, GEq (pt a0 0), GEq (pt a0 3), G5] [6, 7, 10] [([], fun vs w => VL vs [] ∧ SP S w0 w [Yo A7 c8 d9, Qw g1 72 #[(.int .i64 p.2.2.2.2.2.1), (.int .i64 p.2.2.2.2.2.2.1), (.int .i64 p.2.2.2.2.2.2.2.1), (.int .i64 p.2.2.2.2.2.2.2.2.1), (.slice A7 (List.length (List.map stT d9)) c8), (.int .i64 p.2.2.2.2.2.2.2.2.2.1), (.bool b7)], Qw a1 102 #[(.int .u32 a.1), (.int .i64 a.2.1)], Q7 102 (Qg (Ve .u32) (Ve .i64)) a8 a9 p.2.2.2.1, Q7 37 (Qg Qo (Qg Qo (Ve .i64))) b0 b1 p.2.2.2.2.1, Qw a0 33 #[(.string ⟨List.toArray p.1⟩), (.int .i64 p.2.1), (.int .i64 p.2.2.1), (.slice a8 (List.length p.2.2.2.1) a9), (.slice b0 (List.length p.2.2.2.2.1) b1)]]), ([6], fun vs w => ∃ (b8 : Nat), VL vs [(.slice (some ⟨b8, 0, none⟩) (List.length ([(a.1, a.2.1)] : List (Int × Int))) (List.length ([(a.1, a.2.1)] : List (Int × Int))))] ∧ SP S w0 w [Yo A7 c8 d9, Qw g1 72 #[(.int .i64 p.2.2.2.2.2.1), (.int .i64 p.2.2.2.2.2.2.1), (.int .i64 p.2.2.2.2.2.2.2.1), (.int .i64 p.2.2.2.2.2.2.2.2.1), (.slice A7 (List.length (List.map stT d9)) c8), (.int .i64 p.2.2.2.2.2.2.2.2.2.1), (.bool b7)], Qw a1 102 #[(.int .u32 a.1), (.int .i64 a.2.1)], Q7 102 (Qg (Ve .u32) (Ve .i64)) a8 a9 p.2.2.2.1, Q7 37 (Qg Qo (Qg Qo (Ve .i64))) b0 b1 p.2.2.2.2.1, Qw a0 33 #[(.string ⟨List.toArray p.1⟩), (.int .i64 p.2.1), (.int .i64 p.2.2.1), (.slice a8 (List.length p.2.2.2.1) a9), (.slice b0 (List.length p.2.2.2.2.1) b1)], Q7 102 (Qg (Ve .u32) (Ve .i64)) (some ⟨b8, 0, none⟩) (List.length ([(a.1, a.2.1)] : List (Int × Int))) ([(a.1, a.2.1)] : List (Int × Int))]), ([6, 7], fun vs w => ∃ (d5 : Nat), ∃ (b9 : Option Addr), ∃ (c0 : Nat), VL vs [(.slice (some ⟨d5, 0, none⟩) (List.length ([(a.1, a.2.1)] : List (Int × Int))) (List.length ([(a.1, a.2.1)] : List (Int × Int)))), (.slice b9 (List.length b6) c0)] ∧ SP S w0 w [Yo A7 c8 d9, Qw g1 72 #[(.int .i64 p.2.2.2.2.2.1), (.int .i64 p.2.2.2.2.2.2.1), (.int .i64 p.2.2.2.2.2.2.2.1), (.int .i64 p.2.2.2.2.2.2.2.2.1), (.slice A7 (List.length (List.map stT d9)) c8), (.int .i64 p.2.2.2.2.2.2.2.2.2.1), (.bool b7)], Qw a1 102 #[(.int .u32 a.1), (.int .i64 a.2.1)], Q7 102 (Qg (Ve .u32) (Ve .i64)) b9 c0 b6, Q7 37 (Qg Qo (Qg Qo (Ve .i64))) b0 b1 p.2.2.2.2.1, Qw a0 33 #[(.string ⟨List.toArray p.1⟩), (.int .i64 p.2.1), (.int .i64 p.2.2.1), (.slice a8 (List.length p.2.2.2.1) a9), (.slice b0 (List.length p.2.2.2.2.1) b1)], Q7 102 (Qg (Ve .u32) (Ve .i64)) (some ⟨d5, 0, none⟩) (List.length ([(a.1, a.2.1)] : List (Int × Int))) ([(a.1, a.2.1)] : List (Int × Int))]), ([6, 7, 10], fun vs w => ∃ (e4 : Nat), ∃ (d6 : Option Addr), ∃ (d7 : Nat), VL vs [(.slice (some ⟨e4, 0, none⟩) (List.length ([(a.1, a.2.1)] : List (Int × Int))) (List.length ([(a.1, a.2.1)] : List (Int × Int)))), (.slice d6 (List.length b6) d7), undef] ∧ SP S w0 w [Yo A7 c8 d9, Qw g1 72 #[(.int .i64 p.2.2.2.2.2.1), (.int .i64 p.2.2.2.2.2.2.1), (.int .i64 p.2.2.2.2.2.2.2.1), (.int .i64 p.2.2.2.2.2.2.2.2.1), (.slice A7 (List.length (List.map stT d9)) c8), (.int .i64 p.2.2.2.2.2.2.2.2.2.1), (.bool b7)], Qw a1 102 #[(.int .u32 a.1), (.int .i64 a.2.1)], Q7 102 (Qg (Ve .u32) (Ve .i64)) d6 d7 b6, Q7 37 (Qg Qo (Qg Qo (Ve .i64))) b0 b1 p.2.2.2.2.1, Qw a0 33 #[(.string ⟨List.toArray p.1⟩), (.int .i64 p.2.1), (.int .i64 p.2.2.1), (.slice d6 (List.length b6) d7), (.slice b0 (List.length p.2.2.2.2.1) b1)], Q7 102 (Qg (Ve .u32) (Ve .i64)) (some ⟨e4, 0, none⟩) (List.length ([(a.1, a.2.1)] : List (Int × Int))) ([(a.1, a.2.1)] : List (Int × Int))])] 11 3 ⟨trivial, SP.drew i2⟩ ?_ ?_
   iterate 11 refine And.intro ?_ ?_
   exact trivial
   ·exact oV (hC (hS 6 (pt a0 0)) (h0)) (pt a0 0)
   ·exact oV (hC (hS 6 (pt a0 0)) (h0)) (pt a0 0)
   ·exact oV (hC (hA 1 36) (h0)) (pt a0 0)
   ·exact oV (hC (hA 2 37) (h0)) (pt a0 3)
   ·refine Owe.light K [0, 1] K (Qb ?_ (Qb ?_ Q8))
    ·rintro ρ' w' hs a5 ⟨m6, i3⟩
     refine kM (kc (kA a5 3 38) k0) fun a4 => ?_
     refine sL 30 38 a0 3 5 (.slice a8 (List.length p.2.2.2.1) a9) 39 i3 rfl ?_
     exact eK a4
    ·rintro ρ' w' hs a5 ⟨b8, ⟨m7, -⟩, i4⟩
     refine kM (kc (kA a5 3 38) k0) fun a4 => ?_
     refine sL 30 38 a0 3 5 (.slice a8 (List.length p.2.2.2.1) a9) 39 i4 rfl ?_
     exact eK a4
   ·refine oL 0 ?_
    ·rintro ρ' w' hs a5 ⟨m8, i5⟩
     refine kM (kc (kS hs 4 (pt a1 0)) k0) fun a4 => ?_
     refine sL 102 4 a1 0 2 (.agg #[(.int .u32 a.1), (.int .i64 a.2.1)]) 40 i5 rfl ?_
     exact eK a4
   ·refine oH 0 1 ?_
    ·rintro ρ' w' hs a5 ⟨m9, i6⟩
     refine kM (kc (kA a5 5 40) k0) fun a4 => ?_
     refine Zk (e := (Qg (Ve .u32) (Ve .i64))) (T := 30) (E := 102) (len := 1) (parts := #[(0, (.tmp 40))]) (cs := #[(.int .u32 a.1), (.int .i64 a.2.1)]) ([(a.1, a.2.1)] : List (Int × Int)) (d := (some 41)) (k := 6) K rfl (fun _ => K) i6 rfl rfl rfl rfl ?_
     intro i7 n0 i8
     refine ⟨_, Qa a4, trivial, ?_⟩
     exact (Exists.intro i7 (And.intro (And.intro rfl (trivial)) i8))
   ·refine oH 1 2 ?_
    ·rintro ρ' w' hs a5 ⟨b8, ⟨f7, -⟩, f8⟩
     refine kN [(39, (.slice a8 (List.length p.2.2.2.1) a9)), (41, (.slice (some ⟨b8, 0, none⟩) (List.length ([(a.1, a.2.1)] : List (Int × Int))) (List.length ([(a.1, a.2.1)] : List (Int × Int)))))] ⟨a5 4 39 K, (Vp (h := 6) K).symm.trans f7, trivial⟩ fun a4 => ?_
     refine Qi.append (e := (Qg (Ve .u32) (Ve .i64))) (l := p.2.2.2.1) (m := ([(a.1, a.2.1)] : List (Int × Int))) (A := a8) (c := a9) (T := 30) (TX := 30) (E := 102) (b := 16) (s := (.tmp 39)) (x := (.tmp 41)) (i := 3) (vx := (.slice (some ⟨b8, 0, none⟩) (List.length ([(a.1, a.2.1)] : List (Int × Int))) (List.length ([(a.1, a.2.1)] : List (Int × Int))))) (d := (some 42)) (k := 7) K rfl K K K K rfl f8 rfl (Dc (E := 102) K (Vl (SP.get f8 (i := 6) rfl))) hl318 ?_
     rw [hyl319]
     intro i9 j0 n1 j1
     refine ⟨_, Qa a4, trivial, ?_⟩
     exact (Exists.intro b8 (Exists.intro i9 (Exists.intro j0 (And.intro (And.intro f7 (And.intro rfl (trivial))) j1))))
   ·exact oV (hC (hA 0 35) (h0)) (pt a0 0)
   ·exact oV (hC (hA 8 43) (h0)) (pt a0 3)
   ·refine oH 2 3 ?_
    ·rintro ρ' w' hs a5 ⟨d5, b9, c0, ⟨j2, f9, -⟩, j3⟩
     refine kN [(44, (pt a0 3)), (42, (.slice b9 (List.length b6) c0))] ⟨a5 9 44 K, (Vp (h := 7) K).symm.trans f9, trivial⟩ fun a4 => ?_
     refine Qi.store (t := 30) (x := (.tmp 44)) (y := (.tmp 42)) (g := a0) (off := 3) (i := 5) (v := (.slice b9 (List.length b6) c0)) (cs' := #[(.string ⟨List.toArray p.1⟩), (.int .i64 p.2.1), (.int .i64 p.2.2.1), (.slice b9 (List.length b6) c0), (.slice b0 (List.length p.2.2.2.2.1) b1)]) (d := none) (k := 10) K rfl K K j3 rfl K ?_
     intro n2 j4
     refine ⟨_, Qa a4, trivial, ?_⟩
     exact (Exists.intro d5 (Exists.intro b9 (Exists.intro c0 (And.intro (And.intro j2 (And.intro f9 (And.intro rfl (trivial)))) j4))))
   ·rintro ρ' w' hs hf ⟨e4, d6, d7, ⟨n3, n4, n5, -⟩, g0⟩
    refine V7 [] trivial ?_
    obtain ⟨n6, j5⟩ : ∃ x, w' = x := ⟨_, rfl⟩
    rw [j5] at g0 ⊢
    refine ⟨(.tuple #[]), K, ?_⟩
    obtain rfl := Qf H
    exact ⟨A7, c8, d9, rfl, rfl, SP.sel g0 [1,0] rfl rfl⟩
 ·have H := cf H d4
  obtain ⟨j6, j7, H⟩ := Qc H
  refine iS 2 ?_
  refine cF 166 #[(.tmp 14)] #[70] 15 Tryz.call166 (Y4 g1 A7 c8 q2 q3 q4 q5 d9 a6 b4 f5 (Y2 c4 [0] rfl rfl) (fun w hm => Gx (SP.still c4 (l := [0]) (i := 1) rfl rfl rfl hm)) j6 j7) ?_
  rintro e g2 ⟨a2, a3, rfl, d8, g3⟩
  refine ⟨_, rfl, ?_⟩
  have j8 : SP S w0 g2 [Yo A7 c8 d9, Qw a1 102 #[(.int .u32 a.1), (.int .i64 a.2.1)], Qw g1 72 #[(.int .i64 q2), (.int .i64 q3), (.int .i64 q4), (.int .i64 q5), (.slice A7 (List.length (List.map stT d9)) c8), (.int .i64 a6), (.bool b4)]] := Zm c4 [0] [1, 2] rfl rfl g3 rfl
  clear g3
  obtain ⟨u, o, e5⟩ := Cu d4
  have Hd407 := Cv e5 H
  have hnd407 : List.length (List.map stT d9) - 1 = List.length u := by rw [e5]; simp
  rw [hnd407]
  subst e5
  have H := Hd407
  have c7 : SP S w0 g2 [Q7 33 Zh A7 c8 (u ++ [o]), Qw a1 102 #[(.int .u32 a.1), (.int .i64 a.2.1)], Qw g1 72 #[(.int .i64 q2), (.int .i64 q3), (.int .i64 q4), (.int .i64 q5), (.slice A7 (List.length (List.map stT (u ++ [o]))) c8), (.int .i64 a6), (.bool b4)], Rb u, Q7 102 (Qg (Ve .u32) (Ve .i64)) o.2.2.2.1.1 o.2.2.2.1.2.1 (stT o).2.2.2.1, Q7 37 (Qg Qo (Qg Qo (Ve .i64))) o.2.2.2.2.1 o.2.2.2.2.2.1 (stT o).2.2.2.2] := Bw j8 (i := 0) rfl rfl
  refine iR 1 3 [(6, (.pointer (some ⟨a2, (a3 + (List.length u) * Zh.sz), none⟩)))] ?_
  refine iF ?_
  refine aQ ?_
  refine At.join (fun ρ w => ∃ (b5 : Bool), Zi ρ [(4, (pt a1 0)), (6, (.pointer (some ⟨a2, (a3 + (List.length u) * Zh.sz), none⟩)))] ∧ SP S w0 w [Q7 33 Zh A7 c8 (u ++ [o]), Rb u, Q7 102 (Qg (Ve .u32) (Ve .i64)) o.2.2.2.1.1 o.2.2.2.1.2.1 (stT o).2.2.2.1, Q7 37 (Qg Qo (Qg Qo (Ve .i64))) o.2.2.2.2.1 o.2.2.2.2.2.1 (stT o).2.2.2.2, Qw g1 72 #[(.int .i64 q2), (.int .i64 q3), (.int .i64 q4), (.int .i64 q5), (.slice A7 (List.length (List.map stT (u ++ [o]))) c8), (.int .i64 a6), (.bool b5)], Qw a1 102 #[(.int .u32 a.1), (.int .i64 a.2.1)]] ∧ V6 q2 q3 q4 q5 a6 a (List.map stT u) (stT o) b5 = some r) ?_ ?_
  ·refine aR ?_
   refine iR 4 4 [(16, (pt g1 0)), (17, (pt g1 0)), (18, (pt g1 0)), (19, (pt g1 6))] ?_
   refine iS 5 ?_
   refine sL 4 19 g1 6 2 (.bool b4) 20 c7 rfl ?_
   refine iR 1 6 [(21, (.bool b4))] ?_
   refine In.guard (t := 21) (b := b4) K (fun e6 => ?_) (fun e6 => ?_)
   ·have H := ct H e6
    refine iR 13 19 [(22, undef), (23, undef), (24, (.bool true)), (25, (.bool true)), (26, undef), (27, undef), (28, undef), (29, undef), (30, undef), (31, undef), (32, (.bool true)), (33, (pt g1 0)), (34, (pt g1 6))] ?_
    refine iS 20 ?_
    refine Qi.store (t := 4) (x := (.tmp 34)) (y := (.tmp 32)) (g := g1) (off := 6) (i := 2) (v := (.bool true)) (cs' := #[(.int .i64 q2), (.int .i64 q3), (.int .i64 q4), (.int .i64 q5), (.slice A7 (List.length (List.map stT (u ++ [o]))) c8), (.int .i64 a6), (.bool true)]) (d := none) (k := 19) K rfl K K c7 rfl K ?_
    intro n7 j9
    refine iF ?_
    exact ⟨true, ⟨K, K, trivial⟩, SP.sel j9 [0, 3, 4, 5, 2, 1] rfl rfl, H⟩
   ·have H := cf H e6
    refine iR 4 10 [(22, (.bool a.2.2)), (23, (.bool (!a.2.2))), (24, (.bool (!a.2.2))), (25, (.bool (!a.2.2)))] ?_
    refine In.guard (t := 25) (b := (!a.2.2)) K (fun e7 => ?_) (fun e7 => ?_)
    ·have H := ct H e7
     refine iR 9 19 [(26, undef), (27, undef), (28, undef), (29, undef), (30, undef), (31, undef), (32, (.bool true)), (33, (pt g1 0)), (34, (pt g1 6))] ?_
     refine iS 20 ?_
     refine Qi.store (t := 4) (x := (.tmp 34)) (y := (.tmp 32)) (g := g1) (off := 6) (i := 2) (v := (.bool true)) (cs' := #[(.int .i64 q2), (.int .i64 q3), (.int .i64 q4), (.int .i64 q5), (.slice A7 (List.length (List.map stT (u ++ [o]))) c8), (.int .i64 a6), (.bool true)]) (d := none) (k := 19) K rfl K K c7 rfl K ?_
     intro n8 k1
     refine iF ?_
     exact ⟨true, ⟨K, K, trivial⟩, SP.sel k1 [0, 3, 4, 5, 2, 1] rfl rfl, H⟩
    ·have H := cf H e7
     refine iR 3 13 [(26, (.pointer (some ⟨a2, (a3 + (List.length u) * Zh.sz), none⟩))), (27, (.pointer (some ⟨a2, (a3 + (List.length u) * Zh.sz), none⟩))), (28, (.pointer (some ⟨a2, (a3 + (List.length u) * Zh.sz + 4), none⟩)))] ?_
     refine iS 14 ?_
     refine sC 31 28 a2 (a3 + (List.length u) * Zh.sz + 4) (.slice o.2.2.2.2.1 (List.length (stT o).2.2.2.2) o.2.2.2.2.2.1) 29 (Nw (SP.get c7 (i := 0) rfl) d8 (f := 4) rfl) ?_
     refine iR 5 19 [(30, (.int .i64 ((List.length (stT o).2.2.2.2 : Nat) : Int))), (31, (.bool (decide (((List.length (stT o).2.2.2.2 : Nat) : Int) > 0)))), (32, (.bool (decide (((List.length (stT o).2.2.2.2 : Nat) : Int) > 0)))), (33, (pt g1 0)), (34, (pt g1 6))] ?_
     refine iS 20 ?_
     refine Qi.store (t := 4) (x := (.tmp 34)) (y := (.tmp 32)) (g := g1) (off := 6) (i := 2) (v := (.bool (decide (((List.length (stT o).2.2.2.2 : Nat) : Int) > 0)))) (cs' := #[(.int .i64 q2), (.int .i64 q3), (.int .i64 q4), (.int .i64 q5), (.slice A7 (List.length (List.map stT (u ++ [o]))) c8), (.int .i64 a6), (.bool (decide (((List.length (stT o).2.2.2.2 : Nat) : Int) > 0)))]) (d := none) (k := 19) K rfl K K c7 rfl K ?_
     intro n9 k2
     refine iF ?_
     exact ⟨(decide (((List.length (stT o).2.2.2.2 : Nat) : Int) > 0)), ⟨K, K, trivial⟩, SP.sel k2 [0, 3, 4, 5, 2, 1] rfl rfl, H⟩
  ·rintro ρ o0 ⟨b5, hk, k3, H⟩
   unfold V6 at H
   first | refine At.known [(4, (pt a1 0)), (6, (.pointer (some ⟨a2, (a3 + (List.length u) * Zh.sz), none⟩)))] hk ?_ | rw [← Q1 (l := [(4, (pt a1 0)), (6, (.pointer (some ⟨a2, (a3 + (List.length u) * Zh.sz), none⟩)))]) hk]
   obtain ⟨hl433, H⟩ := Uf H
   obtain ⟨a7, hyl434⟩ : ∃ y, (stT o).2.2.2.1 ++ ([(a.1, a.2.1)] : List (Int × Int)) = y := ⟨_, rfl⟩
   try rw [hyl434] at H
   refine aG [GEq (.pointer (some ⟨a2, (a3 + (List.length u) * Zh.sz), none⟩)), GEq (.pointer (some ⟨a2, (a3 + (List.length u) * Zh.sz), none⟩)), GEq (.pointer (some ⟨a2, (a3 + (List.length u) * Zh.sz), none⟩)), GEq (.pointer (some ⟨a2, (a3 + (List.length u) * Zh.sz + 3), none⟩)), GEq (.slice o.2.2.2.1.1 (List.length (stT o).2.2.2.1) o.2.2.2.1.2.1), GEq (.agg #[(.int .u32 a.1), (.int .i64 a.2.1)]), G5, G5, GEq (.pointer (some ⟨a2, (a3 + (List.length u) * Zh.sz), none⟩)), GEq (.pointer (some ⟨a2, (a3 + (List.length u) * Zh.sz + 3), none⟩)), G5] [6, 7, 10] [([], fun vs w => VL vs [] ∧ SP S w0 w [Q7 33 Zh A7 c8 (u ++ [o]), Rb u, Q7 102 (Qg (Ve .u32) (Ve .i64)) o.2.2.2.1.1 o.2.2.2.1.2.1 (stT o).2.2.2.1, Q7 37 (Qg Qo (Qg Qo (Ve .i64))) o.2.2.2.2.1 o.2.2.2.2.2.1 (stT o).2.2.2.2, Qw g1 72 #[(.int .i64 q2), (.int .i64 q3), (.int .i64 q4), (.int .i64 q5), (.slice A7 (List.length (List.map stT (u ++ [o]))) c8), (.int .i64 a6), (.bool b5)], Qw a1 102 #[(.int .u32 a.1), (.int .i64 a.2.1)]]), ([6], fun vs w => ∃ (c1 : Nat), VL vs [(.slice (some ⟨c1, 0, none⟩) (List.length ([(a.1, a.2.1)] : List (Int × Int))) (List.length ([(a.1, a.2.1)] : List (Int × Int))))] ∧ SP S w0 w [Q7 33 Zh A7 c8 (u ++ [o]), Rb u, Q7 102 (Qg (Ve .u32) (Ve .i64)) o.2.2.2.1.1 o.2.2.2.1.2.1 (stT o).2.2.2.1, Q7 37 (Qg Qo (Qg Qo (Ve .i64))) o.2.2.2.2.1 o.2.2.2.2.2.1 (stT o).2.2.2.2, Qw g1 72 #[(.int .i64 q2), (.int .i64 q3), (.int .i64 q4), (.int .i64 q5), (.slice A7 (List.length (List.map stT (u ++ [o]))) c8), (.int .i64 a6), (.bool b5)], Qw a1 102 #[(.int .u32 a.1), (.int .i64 a.2.1)], Q7 102 (Qg (Ve .u32) (Ve .i64)) (some ⟨c1, 0, none⟩) (List.length ([(a.1, a.2.1)] : List (Int × Int))) ([(a.1, a.2.1)] : List (Int × Int))]), ([6, 7], fun vs w => ∃ (e0 : Nat), ∃ (c2 : Option Addr), ∃ (c3 : Nat), VL vs [(.slice (some ⟨e0, 0, none⟩) (List.length ([(a.1, a.2.1)] : List (Int × Int))) (List.length ([(a.1, a.2.1)] : List (Int × Int)))), (.slice c2 (List.length a7) c3)] ∧ SP S w0 w [Q7 33 Zh A7 c8 (u ++ [o]), Rb u, Q7 102 (Qg (Ve .u32) (Ve .i64)) c2 c3 a7, Q7 37 (Qg Qo (Qg Qo (Ve .i64))) o.2.2.2.2.1 o.2.2.2.2.2.1 (stT o).2.2.2.2, Qw g1 72 #[(.int .i64 q2), (.int .i64 q3), (.int .i64 q4), (.int .i64 q5), (.slice A7 (List.length (List.map stT (u ++ [o]))) c8), (.int .i64 a6), (.bool b5)], Qw a1 102 #[(.int .u32 a.1), (.int .i64 a.2.1)], Q7 102 (Qg (Ve .u32) (Ve .i64)) (some ⟨e0, 0, none⟩) (List.length ([(a.1, a.2.1)] : List (Int × Int))) ([(a.1, a.2.1)] : List (Int × Int))]), ([6, 7, 10], fun vs w => ∃ (c9 : Nat), ∃ (b2 : Option Addr), ∃ (b3 : Nat), VL vs [(.slice (some ⟨c9, 0, none⟩) (List.length ([(a.1, a.2.1)] : List (Int × Int))) (List.length ([(a.1, a.2.1)] : List (Int × Int)))), (.slice b2 (List.length a7) b3), undef] ∧ SP S w0 w [Q7 33 Zh A7 c8 (u ++ [((o.1, o.2.1, o.2.2.1, (b2, b3, a7), o.2.2.2.2) : Qx)]), Rb u, Q7 102 (Qg (Ve .u32) (Ve .i64)) b2 b3 a7, Q7 37 (Qg Qo (Qg Qo (Ve .i64))) o.2.2.2.2.1 o.2.2.2.2.2.1 (stT o).2.2.2.2, Qw g1 72 #[(.int .i64 q2), (.int .i64 q3), (.int .i64 q4), (.int .i64 q5), (.slice A7 (List.length (List.map stT (u ++ [o]))) c8), (.int .i64 a6), (.bool b5)], Qw a1 102 #[(.int .u32 a.1), (.int .i64 a.2.1)], Q7 102 (Qg (Ve .u32) (Ve .i64)) (some ⟨c9, 0, none⟩) (List.length ([(a.1, a.2.1)] : List (Int × Int))) ([(a.1, a.2.1)] : List (Int × Int))])] 11 3 ⟨trivial, SP.drew k3⟩ ?_ ?_
   iterate 11 refine And.intro ?_ ?_
   exact trivial
   ·exact oV (hC (hS 6 (.pointer (some ⟨a2, (a3 + (List.length u) * Zh.sz), none⟩))) (h0)) (.pointer (some ⟨a2, (a3 + (List.length u) * Zh.sz), none⟩))
   ·exact oV (hC (hS 6 (.pointer (some ⟨a2, (a3 + (List.length u) * Zh.sz), none⟩))) (h0)) (.pointer (some ⟨a2, (a3 + (List.length u) * Zh.sz), none⟩))
   ·exact oV (hC (hA 1 36) (h0)) (.pointer (some ⟨a2, (a3 + (List.length u) * Zh.sz), none⟩))
   ·exact oV (hC (hA 2 37) (h0)) (.pointer (some ⟨a2, (a3 + (List.length u) * Zh.sz + 3), none⟩))
   ·refine Owe.light K [0, 1] K (Qb ?_ (Qb ?_ Q8))
    ·rintro ρ' w' hs a5 ⟨o1, k4⟩
     refine kM (kc (kA a5 3 38) k0) fun a4 => ?_
     refine sC 30 38 a2 (a3 + (List.length u) * Zh.sz + 3) (.slice o.2.2.2.1.1 (List.length (stT o).2.2.2.1) o.2.2.2.1.2.1) 39 (Nw (SP.get k4 (i := 0) rfl) d8 (f := 3) rfl) ?_
     exact eK a4
    ·rintro ρ' w' hs a5 ⟨c1, ⟨o2, -⟩, k5⟩
     refine kM (kc (kA a5 3 38) k0) fun a4 => ?_
     refine sC 30 38 a2 (a3 + (List.length u) * Zh.sz + 3) (.slice o.2.2.2.1.1 (List.length (stT o).2.2.2.1) o.2.2.2.1.2.1) 39 (Nw (SP.get k5 (i := 0) rfl) d8 (f := 3) rfl) ?_
     exact eK a4
   ·refine oL 0 ?_
    ·rintro ρ' w' hs a5 ⟨o3, k6⟩
     refine kM (kc (kS hs 4 (pt a1 0)) k0) fun a4 => ?_
     refine sL 102 4 a1 0 5 (.agg #[(.int .u32 a.1), (.int .i64 a.2.1)]) 40 k6 rfl ?_
     exact eK a4
   ·refine oH 0 1 ?_
    ·rintro ρ' w' hs a5 ⟨o4, k7⟩
     refine kM (kc (kA a5 5 40) k0) fun a4 => ?_
     refine Zk (e := (Qg (Ve .u32) (Ve .i64))) (T := 30) (E := 102) (len := 1) (parts := #[(0, (.tmp 40))]) (cs := #[(.int .u32 a.1), (.int .i64 a.2.1)]) ([(a.1, a.2.1)] : List (Int × Int)) (d := (some 41)) (k := 6) K rfl (fun _ => K) k7 rfl rfl rfl rfl ?_
     intro k8 o5 k9
     refine ⟨_, Qa a4, trivial, ?_⟩
     exact (Exists.intro k8 (And.intro (And.intro rfl (trivial)) k9))
   ·refine oH 1 2 ?_
    ·rintro ρ' w' hs a5 ⟨c1, ⟨g4, -⟩, g5⟩
     refine kN [(39, (.slice o.2.2.2.1.1 (List.length (stT o).2.2.2.1) o.2.2.2.1.2.1)), (41, (.slice (some ⟨c1, 0, none⟩) (List.length ([(a.1, a.2.1)] : List (Int × Int))) (List.length ([(a.1, a.2.1)] : List (Int × Int)))))] ⟨a5 4 39 K, (Vp (h := 6) K).symm.trans g4, trivial⟩ fun a4 => ?_
     refine Qi.append (e := (Qg (Ve .u32) (Ve .i64))) (l := (stT o).2.2.2.1) (m := ([(a.1, a.2.1)] : List (Int × Int))) (A := o.2.2.2.1.1) (c := o.2.2.2.1.2.1) (T := 30) (TX := 30) (E := 102) (b := 16) (s := (.tmp 39)) (x := (.tmp 41)) (i := 2) (vx := (.slice (some ⟨c1, 0, none⟩) (List.length ([(a.1, a.2.1)] : List (Int × Int))) (List.length ([(a.1, a.2.1)] : List (Int × Int))))) (d := (some 42)) (k := 7) K rfl K K K K rfl g5 rfl (Dc (E := 102) K (Vl (SP.get g5 (i := 6) rfl))) hl433 ?_
     rw [hyl434]
     intro l0 l1 o6 l2
     refine ⟨_, Qa a4, trivial, ?_⟩
     exact (Exists.intro c1 (Exists.intro l0 (Exists.intro l1 (And.intro (And.intro g4 (And.intro rfl (trivial))) l2))))
   ·exact oV (hC (hA 0 35) (h0)) (.pointer (some ⟨a2, (a3 + (List.length u) * Zh.sz), none⟩))
   ·exact oV (hC (hA 8 43) (h0)) (.pointer (some ⟨a2, (a3 + (List.length u) * Zh.sz + 3), none⟩))
   ·refine oH 2 3 ?_
    ·rintro ρ' w' hs a5 ⟨e0, c2, c3, ⟨l3, g6, -⟩, l4⟩
     refine kN [(44, (.pointer (some ⟨a2, (a3 + (List.length u) * Zh.sz + 3), none⟩))), (42, (.slice c2 (List.length a7) c3))] ⟨a5 9 44 K, (Vp (h := 7) K).symm.trans g6, trivial⟩ fun a4 => ?_
     refine Ri (t := 30) (x := (.tmp 44)) (z := (.tmp 42)) (A := A7) (c := c8) (d0 := u) (y := o) (y' := ((o.1, o.2.1, o.2.2.1, (c2, c3, a7), o.2.2.2.2) : Qx)) (b := a2) (off := a3) (f := 3) (i := 0) (v := (.slice c2 (List.length a7) c3)) (dst := none) (k := 10) K rfl d8 K K l4 rfl K rfl K ?_
     intro o7 l5
     refine ⟨_, Qa a4, trivial, ?_⟩
     exact (Exists.intro e0 (Exists.intro c2 (Exists.intro c3 (And.intro (And.intro l3 (And.intro g6 (And.intro rfl (trivial)))) l5))))
   ·rintro ρ' w' hs hf ⟨c9, b2, b3, ⟨o8, o9, p0, -⟩, g7⟩
    refine V7 [] trivial ?_
    obtain ⟨g8, l6⟩ : ∃ x, w' = x := ⟨_, rfl⟩
    rw [l6] at g7 ⊢
    have l7 : SP S w0 g8 [Yo A7 c8 (u ++ [((o.1, o.2.1, o.2.2.1, (b2, b3, a7), o.2.2.2.2) : Qx)]), Qw g1 72 #[(.int .i64 q2), (.int .i64 q3), (.int .i64 q4), (.int .i64 q5), (.slice A7 (List.length (List.map stT (u ++ [o]))) c8), (.int .i64 a6), (.bool b5)], Qw a1 102 #[(.int .u32 a.1), (.int .i64 a.2.1)], Q7 102 (Qg (Ve .u32) (Ve .i64)) (some ⟨c9, 0, none⟩) (List.length ([(a.1, a.2.1)] : List (Int × Int))) ([(a.1, a.2.1)] : List (Int × Int))] := Dx g7 (A := A7) (c := c8) (d0 := u) (y := ((o.1, o.2.1, o.2.2.1, (b2, b3, a7), o.2.2.2.2) : Qx)) (i := 0) (q := 1) (j := 2) (m := 3) rfl rfl rfl rfl (by decide) (by decide) (by decide) rfl
    have l8 : SP S w0 g8 [Yo A7 c8 (u ++ [((o.1, o.2.1, o.2.2.1, (b2, b3, a7), o.2.2.2.2) : Qx)]), Qw g1 72 #[(.int .i64 q2), (.int .i64 q3), (.int .i64 q4), (.int .i64 q5), (.slice A7 (List.length (List.map stT (u ++ [((o.1, o.2.1, o.2.2.1, (b2, b3, a7), o.2.2.2.2) : Qx)]))) c8), (.int .i64 a6), (.bool b5)], Qw a1 102 #[(.int .u32 a.1), (.int .i64 a.2.1)], Q7 102 (Qg (Ve .u32) (Ve .i64)) (some ⟨c9, 0, none⟩) (List.length ([(a.1, a.2.1)] : List (Int × Int))) ([(a.1, a.2.1)] : List (Int × Int))] := by have h := l7; rw [Hk (d0 := u) (y := o) ((o.1, o.2.1, o.2.2.1, (b2, b3, a7), o.2.2.2.2) : Qx)] at h; exact h
    refine ⟨(.tuple #[]), K, ?_⟩
    obtain rfl := Qf H
    exact ⟨A7, c8, (u ++ [((o.1, o.2.1, o.2.2.1, (b2, b3, a7), o.2.2.2.2) : Qx)]), rfl, (Ei (d0 := u) (y := ((o.1, o.2.1, o.2.2.1, (b2, b3, a7), o.2.2.2.2) : Qx))), SP.sel l8 [1,0] rfl rfl⟩
def Vz (q2 : Int) (q3 : Int) (q4 : Int) (q5 : Int) (q6 : (List Qe)) (f : Int) (e : (List (List UInt8))) (h : ((List UInt8) × Bool)) (g : Bool) : Option (Int × Int × Int × Int × (List Qe) × Int × Bool) :=
  (cond (List.isEmpty q6) ((Z4 q2 q3 q4 q5 q6 f g).bind fun a => ((idx e 1).bind fun i => ((idx e 3).bind fun j => ((Vd a.2.2.2.2.2.1 a.2.2.2.2.2.2.1 a.2.2.2.2.2.2.2.1 a.2.2.2.2.2.2.2.2.1 a.2.2.2.2.2.2.2.2.2.1 a.2.2.2.2.2.2.2.2.2.2 j).bind fun b => ((app a.2.2.2.2.1 ([(i, h.1, b.1)] : List ((List UInt8) × (List UInt8) × Int))).bind fun o => (some (b.2.1, b.2.2.1, b.2.2.2.1, b.2.2.2.2.1, q6, b.2.2.2.2.2.1, b.2.2.2.2.2.2))))))) ((Zg q2 q3 q4 q5 q6 f g).bind fun p => (Ic q6 (fun k d q => ((idx e 1).bind fun l => ((idx e 3).bind fun m => ((Vd q2 q3 q4 q5 f g m).bind fun c => ((app d.2.2.2.2 ([(l, h.1, c.1)] : List ((List UInt8) × (List UInt8) × Int))).bind fun n => (some (c.2.1, c.2.2.1, c.2.2.2.1, c.2.2.2.2.1, (k ++ [(d.1, d.2.1, d.2.2.1, d.2.2.2.1, n)]), c.2.2.2.2.2.1, c.2.2.2.2.2.2))))))))))
def X2 (q2 : Int) (q3 : Int) (q4 : Int) (q5 : Int) (q6 : (List Qe)) (c : Int) (d : Bool) (a : (List (List UInt8))) : Option (Int × Int × Int × Int × (List Qe) × Int × Bool) :=
  ((idx a 2).bind fun e => ((Jf e).bind fun b => (cond d (Vz q2 q3 q4 q5 q6 c a b true) (Vz q2 q3 q4 q5 q6 c a b (!b.2)))))
set_option maxHeartbeats 40000000 in
theorem U9 {S : List Nat} (g1 : Nat) (A7 : Option Addr) (c8 : Nat) (a6 : Option Addr) (b0 : Nat) (q2 : Int) (q3 : Int) (q4 : Int) (q5 : Int) (d9 : (List Qx)) (c0 : Int) (d5 : Bool) (a8 : (List (List UInt8))) (w0 : World) (hL : ∀ w, Mod S w0 w → Uj w) (hO : SP S w0 w0 [Qw g1 72 #[(.int .i64 q2), (.int .i64 q3), (.int .i64 q4), (.int .i64 q5), (.slice A7 (List.length (List.map stT d9)) c8), (.int .i64 c0), (.bool d5)], Yo A7 c8 d9]) (b9 : ∀ w, Mod S w0 w → RdT Qo w a6 b0 a8) (r : (Int × Int × Int × Int × (List Qe) × Int × Bool)) (H : X2 q2 q3 q4 q5 (List.map stT d9) c0 d5 a8 = some r) :
  Calls Tryz.prog 145 #[(pt g1 0), (.slice a6 (List.length a8) b0)] w0 (fun e w' => ∃ (f9 : Option Addr) (g0 : Nat) (e8 : List Qx), e = .returned (.tuple #[]) ∧ r.2.2.2.2.1 = List.map stT e8 ∧ SP S w0 w' [Qw g1 72 #[(.int .i64 r.1), (.int .i64 r.2.1), (.int .i64 r.2.2.1), (.int .i64 r.2.2.2.1), (.slice f9 (List.length (List.map stT e8)) g0), (.int .i64 r.2.2.2.2.2.1), (.bool r.2.2.2.2.2.2)], Yo f9 g0 e8]) := by
 unfold X2 at H
 refine Qv (n := 47) Tryz.func145 K K K ?_
 have e9 := hO
 refine aQ ?_
 refine aR ?_
 refine iR 1 1 [(8, (.slice a6 (List.length a8) b0))] ?_
 obtain ⟨g2, g3, g4, i8, H⟩ := Vk H
 refine iS 2 ?_
 refine Ql (e := Qo) (l := a8) (A := a6) (c := b0) (T := 79) (E := 9) (x := (.tmp 8)) (ix := (.const (.int .i64 (2)))) (ki := .i64) (iz := 2) (d := (some 9)) (k := 1) K rfl K K K K (b9 w0 (SP.mod e9)) g3 g4 ?_
 intro i9 j0 j1 u1 hc424
 refine iS 3 ?_
 refine sC 9 9 i9 (j0 + Int.toNat 2 * Qo.sz) (.string ⟨List.toArray g2⟩) 10 (Qy (e := Qo) (Qm (b9 w0 (SP.mod e9)) j1 g3 g4) i8 (j := 0) rfl) ?_
 obtain ⟨o, j2, H⟩ := Qc H
 refine iS 4 ?_
 refine cF 161 #[(.tmp 10)] #[9] 11 Tryz.call161 (Rq  g2 w0  o j2) ?_
 rintro e u2 ⟨a4, a5, rfl, g5⟩
 refine ⟨_, rfl, ?_⟩
 have f0 := SP.call e9 g5
 clear g5
 refine iR 5 9 [(7, (.tuple #[(.slice a4 (List.length o.1) a5), (.bool o.2)])), (12, (.slice a4 (List.length o.1) a5)), (13, (.bool o.2)), (4, (.slice a4 (List.length o.1) a5)), (5, (.bool o.2))] ?_
 refine iF ?_
 refine aQ ?_
 refine At.join (fun ρ w => ∃ (c3 : Bool), Zi ρ [(0, (pt g1 0)), (1, (.slice a6 (List.length a8) b0)), (4, (.slice a4 (List.length o.1) a5))] ∧ SP S w0 w [Yo A7 c8 d9, Qw g1 72 #[(.int .i64 q2), (.int .i64 q3), (.int .i64 q4), (.int .i64 q5), (.slice A7 (List.length (List.map stT d9)) c8), (.int .i64 c0), (.bool c3)], Q7 5 eU8 a4 a5 o.1] ∧ Vz q2 q3 q4 q5 (List.map stT d9) c0 a8 o c3 = some r) ?_ ?_
 ·refine aR ?_
  refine iR 4 4 [(14, (pt g1 0)), (15, (pt g1 0)), (16, (pt g1 0)), (17, (pt g1 6))] ?_
  refine iS 5 ?_
  refine sL 4 17 g1 6 0 (.bool d5) 18 f0 rfl ?_
  refine iR 1 6 [(19, (.bool d5))] ?_
  refine In.guard (t := 19) (b := d5) K (fun f1 => ?_) (fun f1 => ?_)
  ·have H := ct H f1
   refine iR 5 11 [(20, undef), (21, undef), (22, (.bool true)), (23, (pt g1 0)), (24, (pt g1 6))] ?_
   refine iS 12 ?_
   refine Qi.store (t := 4) (x := (.tmp 24)) (y := (.tmp 22)) (g := g1) (off := 6) (i := 0) (v := (.bool true)) (cs' := #[(.int .i64 q2), (.int .i64 q3), (.int .i64 q4), (.int .i64 q5), (.slice A7 (List.length (List.map stT d9)) c8), (.int .i64 c0), (.bool true)]) (d := none) (k := 11) K rfl K K f0 rfl K ?_
   intro u3 j3
   refine iF ?_
   exact ⟨true, ⟨K, K, K, trivial⟩, SP.sel j3 [1, 0, 2] rfl rfl, H⟩
  ·have H := cf H f1
   refine iR 5 11 [(20, (.bool o.2)), (21, (.bool (!o.2))), (22, (.bool (!o.2))), (23, (pt g1 0)), (24, (pt g1 6))] ?_
   refine iS 12 ?_
   refine Qi.store (t := 4) (x := (.tmp 24)) (y := (.tmp 22)) (g := g1) (off := 6) (i := 0) (v := (.bool (!o.2))) (cs' := #[(.int .i64 q2), (.int .i64 q3), (.int .i64 q4), (.int .i64 q5), (.slice A7 (List.length (List.map stT d9)) c8), (.int .i64 c0), (.bool (!o.2))]) (d := none) (k := 11) K rfl K K f0 rfl K ?_
   intro u4 j4
   refine iF ?_
   exact ⟨(!o.2), ⟨K, K, K, trivial⟩, SP.sel j4 [1, 0, 2] rfl rfl, H⟩
 ·rintro ρ g6 ⟨c3, hk, d4, H⟩
  unfold Vz at H
  first | refine At.known [(0, (pt g1 0)), (1, (.slice a6 (List.length a8) b0)), (4, (.slice a4 (List.length o.1) a5))] hk ?_ | rw [← Q1 (l := [(0, (pt g1 0)), (1, (.slice a6 (List.length a8) b0)), (4, (.slice a4 (List.length o.1) a5))]) hk]
  refine aQ ?_
  refine aR ?_
  refine iR 1 1 [(25, (pt g1 0))] ?_
  rcases Bool.eq_false_or_eq_true (List.isEmpty (List.map stT d9)) with d7 | d7
  ·have H := ct H d7
   obtain ⟨p, j5, H⟩ := Qc H
   refine iS 2 ?_
   refine cF 166 #[(.tmp 25)] #[70] 26 Tryz.call166 (Y3 g1 A7 c8 q2 q3 q4 q5 d9 c0 c3 g6 (Y2 d4 [1] rfl rfl) (fun w hm => Gx (SP.still d4 (l := [1]) (i := 0) rfl rfl rfl hm)) p j5) ?_
   rintro e j6 ⟨a9, b6, b7, b4, b5, rfl, g7⟩
   refine ⟨_, rfl, ?_⟩
   have j7 : SP S w0 j6 [Yo A7 c8 d9, Q7 5 eU8 a4 a5 o.1, Qw a9 33 #[(.string ⟨List.toArray p.1⟩), (.int .i64 p.2.1), (.int .i64 p.2.2.1), (.slice b6 (List.length p.2.2.2.1) b7), (.slice b4 (List.length p.2.2.2.2.1) b5)], Q7 102 (Qg (Ve .u32) (Ve .i64)) b6 b7 p.2.2.2.1, Q7 37 (Qg Qo (Qg Qo (Ve .i64))) b4 b5 p.2.2.2.2.1, Qw g1 72 #[(.int .i64 p.2.2.2.2.2.1), (.int .i64 p.2.2.2.2.2.2.1), (.int .i64 p.2.2.2.2.2.2.2.1), (.int .i64 p.2.2.2.2.2.2.2.2.1), (.slice A7 (List.length (List.map stT d9)) c8), (.int .i64 p.2.2.2.2.2.2.2.2.2.1), (.bool p.2.2.2.2.2.2.2.2.2.2)]] := Zm d4 [1] [0, 2] rfl rfl g7 rfl
   clear g7
   refine iR 1 3 [(6, (pt a9 0))] ?_
   refine iF ?_
   obtain ⟨b1, d8, e0, g8, H⟩ := Vk H
   obtain ⟨f2, g9, h1, j8, H⟩ := Vk H
   obtain ⟨a2, j9, H⟩ := Qc H
   obtain ⟨hl485, H⟩ := Uf H
   obtain ⟨c4, hyl486⟩ : ∃ y, p.2.2.2.2.1 ++ ([(b1, o.1, a2.1)] : List ((List UInt8) × (List UInt8) × Int)) = y := ⟨_, rfl⟩
   try rw [hyl486] at H
   refine aG [GEq (pt a9 0), GEq (pt a9 0), GEq (pt a9 0), GEq (pt a9 4), GEq (.slice b4 (List.length p.2.2.2.2.1) b5), GEq (.slice a6 (List.length a8) b0), Ja a6 Qo.sz 1, GEq (.string ⟨List.toArray b1⟩), GEq (.slice a4 (List.length o.1) a5), GEq (.string ⟨List.toArray o.1⟩), GEq (pt g1 0), GEq (.slice a6 (List.length a8) b0), Ja a6 Qo.sz 3, GEq (.string ⟨List.toArray f2⟩), GEq (.int .i64 a2.1), GEq (.agg #[(.string ⟨List.toArray b1⟩), (.string ⟨List.toArray o.1⟩), (.int .i64 a2.1)]), G5, G5, GEq (pt a9 0), GEq (pt a9 4), G5] [14, 16, 17, 20] [([], fun vs w => VL vs [] ∧ SP S w0 w [Yo A7 c8 d9, Q7 5 eU8 a4 a5 o.1, Qw a9 33 #[(.string ⟨List.toArray p.1⟩), (.int .i64 p.2.1), (.int .i64 p.2.2.1), (.slice b6 (List.length p.2.2.2.1) b7), (.slice b4 (List.length p.2.2.2.2.1) b5)], Q7 102 (Qg (Ve .u32) (Ve .i64)) b6 b7 p.2.2.2.1, Q7 37 (Qg Qo (Qg Qo (Ve .i64))) b4 b5 p.2.2.2.2.1, Qw g1 72 #[(.int .i64 p.2.2.2.2.2.1), (.int .i64 p.2.2.2.2.2.2.1), (.int .i64 p.2.2.2.2.2.2.2.1), (.int .i64 p.2.2.2.2.2.2.2.2.1), (.slice A7 (List.length (List.map stT d9)) c8), (.int .i64 p.2.2.2.2.2.2.2.2.2.1), (.bool p.2.2.2.2.2.2.2.2.2.2)]]), ([14], fun vs w => VL vs [(.int .i64 a2.1)] ∧ SP S w0 w [Yo A7 c8 d9, Q7 5 eU8 a4 a5 o.1, Qw a9 33 #[(.string ⟨List.toArray p.1⟩), (.int .i64 p.2.1), (.int .i64 p.2.2.1), (.slice b6 (List.length p.2.2.2.1) b7), (.slice b4 (List.length p.2.2.2.2.1) b5)], Q7 102 (Qg (Ve .u32) (Ve .i64)) b6 b7 p.2.2.2.1, Q7 37 (Qg Qo (Qg Qo (Ve .i64))) b4 b5 p.2.2.2.2.1, Qw g1 72 #[(.int .i64 a2.2.1), (.int .i64 a2.2.2.1), (.int .i64 a2.2.2.2.1), (.int .i64 a2.2.2.2.2.1), (.slice A7 (List.length (List.map stT d9)) c8), (.int .i64 a2.2.2.2.2.2.1), (.bool a2.2.2.2.2.2.2)]]), ([14, 16], fun vs w => ∃ (c5 : Nat), VL vs [(.int .i64 a2.1), (.slice (some ⟨c5, 0, none⟩) (List.length ([(b1, o.1, a2.1)] : List ((List UInt8) × (List UInt8) × Int))) (List.length ([(b1, o.1, a2.1)] : List ((List UInt8) × (List UInt8) × Int))))] ∧ SP S w0 w [Yo A7 c8 d9, Q7 5 eU8 a4 a5 o.1, Qw a9 33 #[(.string ⟨List.toArray p.1⟩), (.int .i64 p.2.1), (.int .i64 p.2.2.1), (.slice b6 (List.length p.2.2.2.1) b7), (.slice b4 (List.length p.2.2.2.2.1) b5)], Q7 102 (Qg (Ve .u32) (Ve .i64)) b6 b7 p.2.2.2.1, Q7 37 (Qg Qo (Qg Qo (Ve .i64))) b4 b5 p.2.2.2.2.1, Qw g1 72 #[(.int .i64 a2.2.1), (.int .i64 a2.2.2.1), (.int .i64 a2.2.2.2.1), (.int .i64 a2.2.2.2.2.1), (.slice A7 (List.length (List.map stT d9)) c8), (.int .i64 a2.2.2.2.2.2.1), (.bool a2.2.2.2.2.2.2)], Q7 37 (Qg Qo (Qg Qo (Ve .i64))) (some ⟨c5, 0, none⟩) (List.length ([(b1, o.1, a2.1)] : List ((List UInt8) × (List UInt8) × Int))) ([(b1, o.1, a2.1)] : List ((List UInt8) × (List UInt8) × Int))]), ([14, 16, 17], fun vs w => ∃ (e1 : Nat), ∃ (c6 : Option Addr), ∃ (c7 : Nat), VL vs [(.int .i64 a2.1), (.slice (some ⟨e1, 0, none⟩) (List.length ([(b1, o.1, a2.1)] : List ((List UInt8) × (List UInt8) × Int))) (List.length ([(b1, o.1, a2.1)] : List ((List UInt8) × (List UInt8) × Int)))), (.slice c6 (List.length c4) c7)] ∧ SP S w0 w [Yo A7 c8 d9, Q7 5 eU8 a4 a5 o.1, Qw a9 33 #[(.string ⟨List.toArray p.1⟩), (.int .i64 p.2.1), (.int .i64 p.2.2.1), (.slice b6 (List.length p.2.2.2.1) b7), (.slice b4 (List.length p.2.2.2.2.1) b5)], Q7 102 (Qg (Ve .u32) (Ve .i64)) b6 b7 p.2.2.2.1, Q7 37 (Qg Qo (Qg Qo (Ve .i64))) c6 c7 c4, Qw g1 72 #[(.int .i64 a2.2.1), (.int .i64 a2.2.2.1), (.int .i64 a2.2.2.2.1), (.int .i64 a2.2.2.2.2.1), (.slice A7 (List.length (List.map stT d9)) c8), (.int .i64 a2.2.2.2.2.2.1), (.bool a2.2.2.2.2.2.2)], Q7 37 (Qg Qo (Qg Qo (Ve .i64))) (some ⟨e1, 0, none⟩) (List.length ([(b1, o.1, a2.1)] : List ((List UInt8) × (List UInt8) × Int))) ([(b1, o.1, a2.1)] : List ((List UInt8) × (List UInt8) × Int))]), ([14, 16, 17, 20], fun vs w => ∃ (f3 : Nat), ∃ (e2 : Option Addr), ∃ (e3 : Nat), VL vs [(.int .i64 a2.1), (.slice (some ⟨f3, 0, none⟩) (List.length ([(b1, o.1, a2.1)] : List ((List UInt8) × (List UInt8) × Int))) (List.length ([(b1, o.1, a2.1)] : List ((List UInt8) × (List UInt8) × Int)))), (.slice e2 (List.length c4) e3), undef] ∧ SP S w0 w [Yo A7 c8 d9, Q7 5 eU8 a4 a5 o.1, Qw a9 33 #[(.string ⟨List.toArray p.1⟩), (.int .i64 p.2.1), (.int .i64 p.2.2.1), (.slice b6 (List.length p.2.2.2.1) b7), (.slice e2 (List.length c4) e3)], Q7 102 (Qg (Ve .u32) (Ve .i64)) b6 b7 p.2.2.2.1, Q7 37 (Qg Qo (Qg Qo (Ve .i64))) e2 e3 c4, Qw g1 72 #[(.int .i64 a2.2.1), (.int .i64 a2.2.2.1), (.int .i64 a2.2.2.2.1), (.int .i64 a2.2.2.2.2.1), (.slice A7 (List.length (List.map stT d9)) c8), (.int .i64 a2.2.2.2.2.2.1), (.bool a2.2.2.2.2.2.2)], Q7 37 (Qg Qo (Qg Qo (Ve .i64))) (some ⟨f3, 0, none⟩) (List.length ([(b1, o.1, a2.1)] : List ((List UInt8) × (List UInt8) × Int))) ([(b1, o.1, a2.1)] : List ((List UInt8) × (List UInt8) × Int))])] 21 4 ⟨trivial, SP.drew j7⟩ ?_ ?_
   iterate 21 refine And.intro ?_ ?_
   exact trivial
   ·exact oV (hC (hS 6 (pt a9 0)) (h0)) (pt a9 0)
   ·exact oV (hC (hS 6 (pt a9 0)) (h0)) (pt a9 0)
   ·exact oV (hC (hA 1 28) (h0)) (pt a9 0)
   ·exact oV (hC (hA 2 29) (h0)) (pt a9 4)
   ·refine Owe.light K [0, 1, 2] K (Qb ?_ (Qb ?_ (Qb ?_ Q8)))
    ·rintro ρ' w' hs a0 ⟨u5, k1⟩
     refine kM (kc (kA a0 3 30) k0) fun a1 => ?_
     refine sL 31 30 a9 4 2 (.slice b4 (List.length p.2.2.2.2.1) b5) 31 k1 rfl ?_
     exact eK a1
    ·rintro ρ' w' hs a0 ⟨⟨u6, -⟩, k2⟩
     refine kM (kc (kA a0 3 30) k0) fun a1 => ?_
     refine sL 31 30 a9 4 2 (.slice b4 (List.length p.2.2.2.2.1) b5) 31 k2 rfl ?_
     exact eK a1
    ·rintro ρ' w' hs a0 ⟨c5, ⟨u7, u8, -⟩, k3⟩
     refine kM (kc (kA a0 3 30) k0) fun a1 => ?_
     refine sL 31 30 a9 4 2 (.slice b4 (List.length p.2.2.2.2.1) b5) 31 k3 rfl ?_
     exact eK a1
   ·exact oV (hC (hS 1 (.slice a6 (List.length a8) b0)) (h0)) (.slice a6 (List.length a8) b0)
   ·refine Owe.light K [0, 1] K (Qb ?_ (Qb ?_ Q8))
    ·rintro ρ' w' hs a0 ⟨u9, k4⟩
     refine kM (kc (kA a0 5 32) k0) fun a1 => ?_
     refine Ql (e := Qo) (l := a8) (A := a6) (c := b0) (T := 79) (E := 9) (x := (.tmp 32)) (ix := (.const (.int .i64 (1)))) (ki := .i64) (iz := 1) (d := (some 33)) (k := 6) K rfl K K K K (b9 w' (SP.mod k4)) d8 e0 ?_
     intro k5 k6 k7 v0 hc549
     exact ⟨rfl, _, Qa a1, ⟨k5, k6, k7, rfl⟩⟩
    ·rintro ρ' w' hs a0 ⟨⟨v1, -⟩, k8⟩
     refine kM (kc (kA a0 5 32) k0) fun a1 => ?_
     refine Ql (e := Qo) (l := a8) (A := a6) (c := b0) (T := 79) (E := 9) (x := (.tmp 32)) (ix := (.const (.int .i64 (1)))) (ki := .i64) (iz := 1) (d := (some 33)) (k := 6) K rfl K K K K (b9 w' (SP.mod k8)) d8 e0 ?_
     intro k9 l0 l1 v2 hc557
     exact ⟨rfl, _, Qa a1, ⟨k9, l0, l1, rfl⟩⟩
   ·refine Owe.light K [0, 1] K (Qb ?_ (Qb ?_ Q8))
    ·rintro ρ' w' hs a0 ⟨v3, l2⟩
     obtain ⟨l3, l4, l5, c9⟩ := a0 6 33 K
     refine kM (kc c9 k0) fun a1 => ?_
     refine sC 9 33 l3 (l4 + Int.toNat 1 * Qo.sz) (.string ⟨List.toArray b1⟩) 34 (Qy (e := Qo) (Qm (b9 w' (SP.mod l2)) l5 d8 e0) g8 (j := 0) rfl) ?_
     exact eK a1
    ·rintro ρ' w' hs a0 ⟨⟨v4, -⟩, l6⟩
     obtain ⟨l7, l8, l9, c9⟩ := a0 6 33 K
     refine kM (kc c9 k0) fun a1 => ?_
     refine sC 9 33 l7 (l8 + Int.toNat 1 * Qo.sz) (.string ⟨List.toArray b1⟩) 34 (Qy (e := Qo) (Qm (b9 w' (SP.mod l6)) l9 d8 e0) g8 (j := 0) rfl) ?_
     exact eK a1
   ·exact oV (hC (hS 4 (.slice a4 (List.length o.1) a5)) (h0)) (.slice a4 (List.length o.1) a5)
   ·refine Owe.light K [0, 1] K (Qb ?_ (Qb ?_ Q8))
    ·rintro ρ' w' hs a0 ⟨v5, m0⟩
     refine kM (kc (kA a0 8 35) k0) fun a1 => ?_
     refine Nn (T := 48) (S' := 9) (E := 5) (x := (.tmp 35)) (A := a4) (c := a5) (l := o.1) (d := (some 36)) (k := 9) K rfl K K K K (Vl (SP.get m0 (i := 1) rfl)) ?_
     exact eK a1
    ·rintro ρ' w' hs a0 ⟨⟨v6, -⟩, m1⟩
     refine kM (kc (kA a0 8 35) k0) fun a1 => ?_
     refine Nn (T := 48) (S' := 9) (E := 5) (x := (.tmp 35)) (A := a4) (c := a5) (l := o.1) (d := (some 36)) (k := 9) K rfl K K K K (Vl (SP.get m1 (i := 1) rfl)) ?_
     exact eK a1
   ·exact oV (hC (hS 0 (pt g1 0)) (h0)) (pt g1 0)
   ·exact oV (hC (hS 1 (.slice a6 (List.length a8) b0)) (h0)) (.slice a6 (List.length a8) b0)
   ·refine oL 0 ?_
    ·rintro ρ' w' hs a0 ⟨v7, m2⟩
     refine kM (kc (kA a0 11 38) k0) fun a1 => ?_
     refine Ql (e := Qo) (l := a8) (A := a6) (c := b0) (T := 79) (E := 9) (x := (.tmp 38)) (ix := (.const (.int .i64 (3)))) (ki := .i64) (iz := 3) (d := (some 39)) (k := 12) K rfl K K K K (b9 w' (SP.mod m2)) g9 h1 ?_
     intro m3 m4 m5 v8 hc580
     exact ⟨rfl, _, Qa a1, ⟨m3, m4, m5, rfl⟩⟩
   ·refine oL 0 ?_
    ·rintro ρ' w' hs a0 ⟨v9, m6⟩
     obtain ⟨m7, m8, m9, f4⟩ := a0 12 39 K
     refine kM (kc f4 k0) fun a1 => ?_
     refine sC 9 39 m7 (m8 + Int.toNat 3 * Qo.sz) (.string ⟨List.toArray f2⟩) 40 (Qy (e := Qo) (Qm (b9 w' (SP.mod m6)) m9 g9 h1) j8 (j := 0) rfl) ?_
     exact eK a1
   ·refine oH 0 1 ?_
    ·rintro ρ' w' hs a0 ⟨w1, f5⟩
     refine kM (kc (kA a0 10 37) (kc (kA a0 13 40) k0)) fun a1 => ?_
     refine cF 164 #[(.tmp 37), (.tmp 40)] #[70, 9] 41 Tryz.call164 (Q3 g1 (.slice A7 (List.length (List.map stT d9)) c8) p.2.2.2.2.2.1 p.2.2.2.2.2.2.1 p.2.2.2.2.2.2.2.1 p.2.2.2.2.2.2.2.2.1 p.2.2.2.2.2.2.2.2.2.1 p.2.2.2.2.2.2.2.2.2.2 f2 w' (fun w hm => hL w (SP.through f5 (l := [5]) rfl hm)) (Y2 f5 [5] rfl rfl) a2 j9) ?_
     rintro e n0 ⟨rfl, h2⟩
     refine ⟨_, rfl, ?_⟩
     have n1 : SP S w0 n0 [Yo A7 c8 d9, Q7 5 eU8 a4 a5 o.1, Qw a9 33 #[(.string ⟨List.toArray p.1⟩), (.int .i64 p.2.1), (.int .i64 p.2.2.1), (.slice b6 (List.length p.2.2.2.1) b7), (.slice b4 (List.length p.2.2.2.2.1) b5)], Q7 102 (Qg (Ve .u32) (Ve .i64)) b6 b7 p.2.2.2.1, Q7 37 (Qg Qo (Qg Qo (Ve .i64))) b4 b5 p.2.2.2.2.1, Qw g1 72 #[(.int .i64 a2.2.1), (.int .i64 a2.2.2.1), (.int .i64 a2.2.2.2.1), (.int .i64 a2.2.2.2.2.1), (.slice A7 (List.length (List.map stT d9)) c8), (.int .i64 a2.2.2.2.2.2.1), (.bool a2.2.2.2.2.2.2)]] := Zm f5 [5] [0, 1, 2, 3, 4] rfl rfl h2 rfl
     clear h2
     refine ⟨_, Qa a1, rfl, ?_⟩
     exact (And.intro (And.intro rfl (trivial)) n1)
   ·exact oV (hC (hA 7 34) (hC (hA 9 36) (hC (hA 14 41) (h0)))) (.agg #[(.string ⟨List.toArray b1⟩), (.string ⟨List.toArray o.1⟩), (.int .i64 a2.1)])
   ·refine oH 1 2 ?_
    ·rintro ρ' w' hs a0 ⟨⟨n2, -⟩, n3⟩
     refine kM (kc (kA a0 15 42) k0) fun a1 => ?_
     refine Zk (e := (Qg Qo (Qg Qo (Ve .i64)))) (T := 31) (E := 37) (len := 1) (parts := #[(0, (.tmp 42))]) (cs := #[(.string ⟨List.toArray b1⟩), (.string ⟨List.toArray o.1⟩), (.int .i64 a2.1)]) ([(b1, o.1, a2.1)] : List ((List UInt8) × (List UInt8) × Int)) (d := (some 43)) (k := 16) K rfl (fun _ => K) n3 rfl rfl rfl rfl ?_
     intro n4 w2 n5
     refine ⟨_, Qa a1, trivial, ?_⟩
     exact (Exists.intro n4 (And.intro (And.intro n2 (And.intro rfl (trivial))) n5))
   ·refine oH 2 3 ?_
    ·rintro ρ' w' hs a0 ⟨c5, ⟨n6, h3, -⟩, h4⟩
     refine kN [(31, (.slice b4 (List.length p.2.2.2.2.1) b5)), (43, (.slice (some ⟨c5, 0, none⟩) (List.length ([(b1, o.1, a2.1)] : List ((List UInt8) × (List UInt8) × Int))) (List.length ([(b1, o.1, a2.1)] : List ((List UInt8) × (List UInt8) × Int)))))] ⟨a0 4 31 K, (Vp (h := 16) K).symm.trans h3, trivial⟩ fun a1 => ?_
     refine Qi.append (e := (Qg Qo (Qg Qo (Ve .i64)))) (l := p.2.2.2.2.1) (m := ([(b1, o.1, a2.1)] : List ((List UInt8) × (List UInt8) × Int))) (A := b4) (c := b5) (T := 31) (TX := 31) (E := 37) (b := 40) (s := (.tmp 31)) (x := (.tmp 43)) (i := 4) (vx := (.slice (some ⟨c5, 0, none⟩) (List.length ([(b1, o.1, a2.1)] : List ((List UInt8) × (List UInt8) × Int))) (List.length ([(b1, o.1, a2.1)] : List ((List UInt8) × (List UInt8) × Int))))) (d := (some 44)) (k := 17) K rfl K K K K rfl h4 rfl (Dc (E := 37) K (Vl (SP.get h4 (i := 6) rfl))) hl485 ?_
     rw [hyl486]
     intro n7 n8 w3 n9
     refine ⟨_, Qa a1, trivial, ?_⟩
     exact (Exists.intro c5 (Exists.intro n7 (Exists.intro n8 (And.intro (And.intro n6 (And.intro h3 (And.intro rfl (trivial)))) n9))))
   ·exact oV (hC (hA 0 27) (h0)) (pt a9 0)
   ·exact oV (hC (hA 18 45) (h0)) (pt a9 4)
   ·refine oH 3 4 ?_
    ·rintro ρ' w' hs a0 ⟨e1, c6, c7, ⟨o0, o1, h5, -⟩, o2⟩
     refine kN [(46, (pt a9 4)), (44, (.slice c6 (List.length c4) c7))] ⟨a0 19 46 K, (Vp (h := 17) K).symm.trans h5, trivial⟩ fun a1 => ?_
     refine Qi.store (t := 31) (x := (.tmp 46)) (y := (.tmp 44)) (g := a9) (off := 4) (i := 2) (v := (.slice c6 (List.length c4) c7)) (cs' := #[(.string ⟨List.toArray p.1⟩), (.int .i64 p.2.1), (.int .i64 p.2.2.1), (.slice b6 (List.length p.2.2.2.1) b7), (.slice c6 (List.length c4) c7)]) (d := none) (k := 20) K rfl K K o2 rfl K ?_
     intro w4 o3
     refine ⟨_, Qa a1, trivial, ?_⟩
     exact (Exists.intro e1 (Exists.intro c6 (Exists.intro c7 (And.intro (And.intro o0 (And.intro o1 (And.intro h5 (And.intro rfl (trivial))))) o3))))
   ·rintro ρ' w' hs hf ⟨f3, e2, e3, ⟨w5, w6, w7, w8, -⟩, h6⟩
    refine V7 [] trivial ?_
    obtain ⟨w9, o4⟩ : ∃ x, w' = x := ⟨_, rfl⟩
    rw [o4] at h6 ⊢
    refine ⟨(.tuple #[]), K, ?_⟩
    obtain rfl := Qf H
    exact ⟨A7, c8, d9, rfl, rfl, SP.sel h6 [5,0] rfl rfl⟩
  ·have H := cf H d7
   obtain ⟨o5, o6, H⟩ := Qc H
   refine iS 2 ?_
   refine cF 166 #[(.tmp 25)] #[70] 26 Tryz.call166 (Y4 g1 A7 c8 q2 q3 q4 q5 d9 c0 c3 g6 (Y2 d4 [1] rfl rfl) (fun w hm => Gx (SP.still d4 (l := [1]) (i := 0) rfl rfl rfl hm)) o5 o6) ?_
   rintro e h7 ⟨b2, b3, rfl, e4, h8⟩
   refine ⟨_, rfl, ?_⟩
   have o7 : SP S w0 h7 [Yo A7 c8 d9, Q7 5 eU8 a4 a5 o.1, Qw g1 72 #[(.int .i64 q2), (.int .i64 q3), (.int .i64 q4), (.int .i64 q5), (.slice A7 (List.length (List.map stT d9)) c8), (.int .i64 c0), (.bool c3)]] := Zm d4 [1] [0, 2] rfl rfl h8 rfl
   clear h8
   obtain ⟨a3, a, f6⟩ := Cu d7
   have Hd634 := Cv f6 H
   have hnd634 : List.length (List.map stT d9) - 1 = List.length a3 := by rw [f6]; simp
   rw [hnd634]
   subst f6
   have H := Hd634
   have o8 : SP S w0 h7 [Q7 33 Zh A7 c8 (a3 ++ [a]), Q7 5 eU8 a4 a5 o.1, Qw g1 72 #[(.int .i64 q2), (.int .i64 q3), (.int .i64 q4), (.int .i64 q5), (.slice A7 (List.length (List.map stT (a3 ++ [a]))) c8), (.int .i64 c0), (.bool c3)], Rb a3, Q7 102 (Qg (Ve .u32) (Ve .i64)) a.2.2.2.1.1 a.2.2.2.1.2.1 (stT a).2.2.2.1, Q7 37 (Qg Qo (Qg Qo (Ve .i64))) a.2.2.2.2.1 a.2.2.2.2.2.1 (stT a).2.2.2.2] := Bw o7 (i := 0) rfl rfl
   refine iR 1 3 [(6, (.pointer (some ⟨b2, (b3 + (List.length a3) * Zh.sz), none⟩)))] ?_
   refine iF ?_
   obtain ⟨a7, e5, e6, h9, H⟩ := Vk H
   obtain ⟨f7, i0, i1, o9, H⟩ := Vk H
   obtain ⟨u, p0, H⟩ := Qc H
   obtain ⟨hl670, H⟩ := Uf H
   obtain ⟨b8, hyl671⟩ : ∃ y, (stT a).2.2.2.2 ++ ([(a7, o.1, u.1)] : List ((List UInt8) × (List UInt8) × Int)) = y := ⟨_, rfl⟩
   try rw [hyl671] at H
   refine aG [GEq (.pointer (some ⟨b2, (b3 + (List.length a3) * Zh.sz), none⟩)), GEq (.pointer (some ⟨b2, (b3 + (List.length a3) * Zh.sz), none⟩)), GEq (.pointer (some ⟨b2, (b3 + (List.length a3) * Zh.sz), none⟩)), GEq (.pointer (some ⟨b2, (b3 + (List.length a3) * Zh.sz + 4), none⟩)), GEq (.slice a.2.2.2.2.1 (List.length (stT a).2.2.2.2) a.2.2.2.2.2.1), GEq (.slice a6 (List.length a8) b0), Ja a6 Qo.sz 1, GEq (.string ⟨List.toArray a7⟩), GEq (.slice a4 (List.length o.1) a5), GEq (.string ⟨List.toArray o.1⟩), GEq (pt g1 0), GEq (.slice a6 (List.length a8) b0), Ja a6 Qo.sz 3, GEq (.string ⟨List.toArray f7⟩), GEq (.int .i64 u.1), GEq (.agg #[(.string ⟨List.toArray a7⟩), (.string ⟨List.toArray o.1⟩), (.int .i64 u.1)]), G5, G5, GEq (.pointer (some ⟨b2, (b3 + (List.length a3) * Zh.sz), none⟩)), GEq (.pointer (some ⟨b2, (b3 + (List.length a3) * Zh.sz + 4), none⟩)), G5] [14, 16, 17, 20] [([], fun vs w => VL vs [] ∧ SP S w0 w [Q7 33 Zh A7 c8 (a3 ++ [a]), Q7 5 eU8 a4 a5 o.1, Qw g1 72 #[(.int .i64 q2), (.int .i64 q3), (.int .i64 q4), (.int .i64 q5), (.slice A7 (List.length (List.map stT (a3 ++ [a]))) c8), (.int .i64 c0), (.bool c3)], Rb a3, Q7 102 (Qg (Ve .u32) (Ve .i64)) a.2.2.2.1.1 a.2.2.2.1.2.1 (stT a).2.2.2.1, Q7 37 (Qg Qo (Qg Qo (Ve .i64))) a.2.2.2.2.1 a.2.2.2.2.2.1 (stT a).2.2.2.2]), ([14], fun vs w => VL vs [(.int .i64 u.1)] ∧ SP S w0 w [Q7 33 Zh A7 c8 (a3 ++ [a]), Q7 5 eU8 a4 a5 o.1, Rb a3, Q7 102 (Qg (Ve .u32) (Ve .i64)) a.2.2.2.1.1 a.2.2.2.1.2.1 (stT a).2.2.2.1, Q7 37 (Qg Qo (Qg Qo (Ve .i64))) a.2.2.2.2.1 a.2.2.2.2.2.1 (stT a).2.2.2.2, Qw g1 72 #[(.int .i64 u.2.1), (.int .i64 u.2.2.1), (.int .i64 u.2.2.2.1), (.int .i64 u.2.2.2.2.1), (.slice A7 (List.length (List.map stT (a3 ++ [a]))) c8), (.int .i64 u.2.2.2.2.2.1), (.bool u.2.2.2.2.2.2)]]), ([14, 16], fun vs w => ∃ (d1 : Nat), VL vs [(.int .i64 u.1), (.slice (some ⟨d1, 0, none⟩) (List.length ([(a7, o.1, u.1)] : List ((List UInt8) × (List UInt8) × Int))) (List.length ([(a7, o.1, u.1)] : List ((List UInt8) × (List UInt8) × Int))))] ∧ SP S w0 w [Q7 33 Zh A7 c8 (a3 ++ [a]), Q7 5 eU8 a4 a5 o.1, Rb a3, Q7 102 (Qg (Ve .u32) (Ve .i64)) a.2.2.2.1.1 a.2.2.2.1.2.1 (stT a).2.2.2.1, Q7 37 (Qg Qo (Qg Qo (Ve .i64))) a.2.2.2.2.1 a.2.2.2.2.2.1 (stT a).2.2.2.2, Qw g1 72 #[(.int .i64 u.2.1), (.int .i64 u.2.2.1), (.int .i64 u.2.2.2.1), (.int .i64 u.2.2.2.2.1), (.slice A7 (List.length (List.map stT (a3 ++ [a]))) c8), (.int .i64 u.2.2.2.2.2.1), (.bool u.2.2.2.2.2.2)], Q7 37 (Qg Qo (Qg Qo (Ve .i64))) (some ⟨d1, 0, none⟩) (List.length ([(a7, o.1, u.1)] : List ((List UInt8) × (List UInt8) × Int))) ([(a7, o.1, u.1)] : List ((List UInt8) × (List UInt8) × Int))]), ([14, 16, 17], fun vs w => ∃ (e7 : Nat), ∃ (d2 : Option Addr), ∃ (d3 : Nat), VL vs [(.int .i64 u.1), (.slice (some ⟨e7, 0, none⟩) (List.length ([(a7, o.1, u.1)] : List ((List UInt8) × (List UInt8) × Int))) (List.length ([(a7, o.1, u.1)] : List ((List UInt8) × (List UInt8) × Int)))), (.slice d2 (List.length b8) d3)] ∧ SP S w0 w [Q7 33 Zh A7 c8 (a3 ++ [a]), Q7 5 eU8 a4 a5 o.1, Rb a3, Q7 102 (Qg (Ve .u32) (Ve .i64)) a.2.2.2.1.1 a.2.2.2.1.2.1 (stT a).2.2.2.1, Q7 37 (Qg Qo (Qg Qo (Ve .i64))) d2 d3 b8, Qw g1 72 #[(.int .i64 u.2.1), (.int .i64 u.2.2.1), (.int .i64 u.2.2.2.1), (.int .i64 u.2.2.2.2.1), (.slice A7 (List.length (List.map stT (a3 ++ [a]))) c8), (.int .i64 u.2.2.2.2.2.1), (.bool u.2.2.2.2.2.2)], Q7 37 (Qg Qo (Qg Qo (Ve .i64))) (some ⟨e7, 0, none⟩) (List.length ([(a7, o.1, u.1)] : List ((List UInt8) × (List UInt8) × Int))) ([(a7, o.1, u.1)] : List ((List UInt8) × (List UInt8) × Int))]), ([14, 16, 17, 20], fun vs w => ∃ (d6 : Nat), ∃ (c1 : Option Addr), ∃ (c2 : Nat), VL vs [(.int .i64 u.1), (.slice (some ⟨d6, 0, none⟩) (List.length ([(a7, o.1, u.1)] : List ((List UInt8) × (List UInt8) × Int))) (List.length ([(a7, o.1, u.1)] : List ((List UInt8) × (List UInt8) × Int)))), (.slice c1 (List.length b8) c2), undef] ∧ SP S w0 w [Q7 33 Zh A7 c8 (a3 ++ [((a.1, a.2.1, a.2.2.1, a.2.2.2.1, (c1, c2, b8)) : Qx)]), Q7 5 eU8 a4 a5 o.1, Rb a3, Q7 102 (Qg (Ve .u32) (Ve .i64)) a.2.2.2.1.1 a.2.2.2.1.2.1 (stT a).2.2.2.1, Q7 37 (Qg Qo (Qg Qo (Ve .i64))) c1 c2 b8, Qw g1 72 #[(.int .i64 u.2.1), (.int .i64 u.2.2.1), (.int .i64 u.2.2.2.1), (.int .i64 u.2.2.2.2.1), (.slice A7 (List.length (List.map stT (a3 ++ [a]))) c8), (.int .i64 u.2.2.2.2.2.1), (.bool u.2.2.2.2.2.2)], Q7 37 (Qg Qo (Qg Qo (Ve .i64))) (some ⟨d6, 0, none⟩) (List.length ([(a7, o.1, u.1)] : List ((List UInt8) × (List UInt8) × Int))) ([(a7, o.1, u.1)] : List ((List UInt8) × (List UInt8) × Int))])] 21 4 ⟨trivial, SP.drew o8⟩ ?_ ?_
   iterate 21 refine And.intro ?_ ?_
   exact trivial
   ·exact oV (hC (hS 6 (.pointer (some ⟨b2, (b3 + (List.length a3) * Zh.sz), none⟩))) (h0)) (.pointer (some ⟨b2, (b3 + (List.length a3) * Zh.sz), none⟩))
   ·exact oV (hC (hS 6 (.pointer (some ⟨b2, (b3 + (List.length a3) * Zh.sz), none⟩))) (h0)) (.pointer (some ⟨b2, (b3 + (List.length a3) * Zh.sz), none⟩))
   ·exact oV (hC (hA 1 28) (h0)) (.pointer (some ⟨b2, (b3 + (List.length a3) * Zh.sz), none⟩))
   ·exact oV (hC (hA 2 29) (h0)) (.pointer (some ⟨b2, (b3 + (List.length a3) * Zh.sz + 4), none⟩))
   ·refine Owe.light K [0, 1, 2] K (Qb ?_ (Qb ?_ (Qb ?_ Q8)))
    ·rintro ρ' w' hs a0 ⟨x0, p1⟩
     refine kM (kc (kA a0 3 30) k0) fun a1 => ?_
     refine sC 31 30 b2 (b3 + (List.length a3) * Zh.sz + 4) (.slice a.2.2.2.2.1 (List.length (stT a).2.2.2.2) a.2.2.2.2.2.1) 31 (Nw (SP.get p1 (i := 0) rfl) e4 (f := 4) rfl) ?_
     exact eK a1
    ·rintro ρ' w' hs a0 ⟨⟨x1, -⟩, p2⟩
     refine kM (kc (kA a0 3 30) k0) fun a1 => ?_
     refine sC 31 30 b2 (b3 + (List.length a3) * Zh.sz + 4) (.slice a.2.2.2.2.1 (List.length (stT a).2.2.2.2) a.2.2.2.2.2.1) 31 (Nw (SP.get p2 (i := 0) rfl) e4 (f := 4) rfl) ?_
     exact eK a1
    ·rintro ρ' w' hs a0 ⟨d1, ⟨x2, x3, -⟩, p3⟩
     refine kM (kc (kA a0 3 30) k0) fun a1 => ?_
     refine sC 31 30 b2 (b3 + (List.length a3) * Zh.sz + 4) (.slice a.2.2.2.2.1 (List.length (stT a).2.2.2.2) a.2.2.2.2.2.1) 31 (Nw (SP.get p3 (i := 0) rfl) e4 (f := 4) rfl) ?_
     exact eK a1
   ·exact oV (hC (hS 1 (.slice a6 (List.length a8) b0)) (h0)) (.slice a6 (List.length a8) b0)
   ·refine Owe.light K [0, 1] K (Qb ?_ (Qb ?_ Q8))
    ·rintro ρ' w' hs a0 ⟨x4, p4⟩
     refine kM (kc (kA a0 5 32) k0) fun a1 => ?_
     refine Ql (e := Qo) (l := a8) (A := a6) (c := b0) (T := 79) (E := 9) (x := (.tmp 32)) (ix := (.const (.int .i64 (1)))) (ki := .i64) (iz := 1) (d := (some 33)) (k := 6) K rfl K K K K (b9 w' (SP.mod p4)) e5 e6 ?_
     intro p5 p6 p7 x5 hc734
     exact ⟨rfl, _, Qa a1, ⟨p5, p6, p7, rfl⟩⟩
    ·rintro ρ' w' hs a0 ⟨⟨x6, -⟩, p8⟩
     refine kM (kc (kA a0 5 32) k0) fun a1 => ?_
     refine Ql (e := Qo) (l := a8) (A := a6) (c := b0) (T := 79) (E := 9) (x := (.tmp 32)) (ix := (.const (.int .i64 (1)))) (ki := .i64) (iz := 1) (d := (some 33)) (k := 6) K rfl K K K K (b9 w' (SP.mod p8)) e5 e6 ?_
     intro p9 q0 q1 x7 hc742
     exact ⟨rfl, _, Qa a1, ⟨p9, q0, q1, rfl⟩⟩
   ·refine Owe.light K [0, 1] K (Qb ?_ (Qb ?_ Q8))
    ·rintro ρ' w' hs a0 ⟨x8, q6⟩
     obtain ⟨q7, q8, q9, c9⟩ := a0 6 33 K
     refine kM (kc c9 k0) fun a1 => ?_
     refine sC 9 33 q7 (q8 + Int.toNat 1 * Qo.sz) (.string ⟨List.toArray a7⟩) 34 (Qy (e := Qo) (Qm (b9 w' (SP.mod q6)) q9 e5 e6) h9 (j := 0) rfl) ?_
     exact eK a1
    ·rintro ρ' w' hs a0 ⟨⟨x9, -⟩, r0⟩
     obtain ⟨r1, r2, r3, c9⟩ := a0 6 33 K
     refine kM (kc c9 k0) fun a1 => ?_
     refine sC 9 33 r1 (r2 + Int.toNat 1 * Qo.sz) (.string ⟨List.toArray a7⟩) 34 (Qy (e := Qo) (Qm (b9 w' (SP.mod r0)) r3 e5 e6) h9 (j := 0) rfl) ?_
     exact eK a1
   ·exact oV (hC (hS 4 (.slice a4 (List.length o.1) a5)) (h0)) (.slice a4 (List.length o.1) a5)
   ·refine Owe.light K [0, 1] K (Qb ?_ (Qb ?_ Q8))
    ·rintro ρ' w' hs a0 ⟨y0, r4⟩
     refine kM (kc (kA a0 8 35) k0) fun a1 => ?_
     refine Nn (T := 48) (S' := 9) (E := 5) (x := (.tmp 35)) (A := a4) (c := a5) (l := o.1) (d := (some 36)) (k := 9) K rfl K K K K (Vl (SP.get r4 (i := 1) rfl)) ?_
     exact eK a1
    ·rintro ρ' w' hs a0 ⟨⟨y1, -⟩, r5⟩
     refine kM (kc (kA a0 8 35) k0) fun a1 => ?_
     refine Nn (T := 48) (S' := 9) (E := 5) (x := (.tmp 35)) (A := a4) (c := a5) (l := o.1) (d := (some 36)) (k := 9) K rfl K K K K (Vl (SP.get r5 (i := 1) rfl)) ?_
     exact eK a1
   ·exact oV (hC (hS 0 (pt g1 0)) (h0)) (pt g1 0)
   ·exact oV (hC (hS 1 (.slice a6 (List.length a8) b0)) (h0)) (.slice a6 (List.length a8) b0)
   ·refine oL 0 ?_
    ·rintro ρ' w' hs a0 ⟨y2, r6⟩
     refine kM (kc (kA a0 11 38) k0) fun a1 => ?_
     refine Ql (e := Qo) (l := a8) (A := a6) (c := b0) (T := 79) (E := 9) (x := (.tmp 38)) (ix := (.const (.int .i64 (3)))) (ki := .i64) (iz := 3) (d := (some 39)) (k := 12) K rfl K K K K (b9 w' (SP.mod r6)) i0 i1 ?_
     intro r7 r8 r9 y3 hc765
     exact ⟨rfl, _, Qa a1, ⟨r7, r8, r9, rfl⟩⟩
   ·refine oL 0 ?_
    ·rintro ρ' w' hs a0 ⟨y4, s0⟩
     obtain ⟨s1, s2, s3, f4⟩ := a0 12 39 K
     refine kM (kc f4 k0) fun a1 => ?_
     refine sC 9 39 s1 (s2 + Int.toNat 3 * Qo.sz) (.string ⟨List.toArray f7⟩) 40 (Qy (e := Qo) (Qm (b9 w' (SP.mod s0)) s3 i0 i1) o9 (j := 0) rfl) ?_
     exact eK a1
   ·refine oH 0 1 ?_
    ·rintro ρ' w' hs a0 ⟨y5, f8⟩
     refine kM (kc (kA a0 10 37) (kc (kA a0 13 40) k0)) fun a1 => ?_
     refine cF 164 #[(.tmp 37), (.tmp 40)] #[70, 9] 41 Tryz.call164 (Q3 g1 (.slice A7 (List.length (List.map stT (a3 ++ [a]))) c8) q2 q3 q4 q5 c0 c3 f7 w' (fun w hm => hL w (SP.through f8 (l := [2]) rfl hm)) (Y2 f8 [2] rfl rfl) u p0) ?_
     rintro e s4 ⟨rfl, i2⟩
     refine ⟨_, rfl, ?_⟩
     have s5 : SP S w0 s4 [Q7 33 Zh A7 c8 (a3 ++ [a]), Q7 5 eU8 a4 a5 o.1, Rb a3, Q7 102 (Qg (Ve .u32) (Ve .i64)) a.2.2.2.1.1 a.2.2.2.1.2.1 (stT a).2.2.2.1, Q7 37 (Qg Qo (Qg Qo (Ve .i64))) a.2.2.2.2.1 a.2.2.2.2.2.1 (stT a).2.2.2.2, Qw g1 72 #[(.int .i64 u.2.1), (.int .i64 u.2.2.1), (.int .i64 u.2.2.2.1), (.int .i64 u.2.2.2.2.1), (.slice A7 (List.length (List.map stT (a3 ++ [a]))) c8), (.int .i64 u.2.2.2.2.2.1), (.bool u.2.2.2.2.2.2)]] := Zm f8 [2] [0, 1, 3, 4, 5] rfl rfl i2 rfl
     clear i2
     refine ⟨_, Qa a1, rfl, ?_⟩
     exact (And.intro (And.intro rfl (trivial)) s5)
   ·exact oV (hC (hA 7 34) (hC (hA 9 36) (hC (hA 14 41) (h0)))) (.agg #[(.string ⟨List.toArray a7⟩), (.string ⟨List.toArray o.1⟩), (.int .i64 u.1)])
   ·refine oH 1 2 ?_
    ·rintro ρ' w' hs a0 ⟨⟨s6, -⟩, s7⟩
     refine kM (kc (kA a0 15 42) k0) fun a1 => ?_
     refine Zk (e := (Qg Qo (Qg Qo (Ve .i64)))) (T := 31) (E := 37) (len := 1) (parts := #[(0, (.tmp 42))]) (cs := #[(.string ⟨List.toArray a7⟩), (.string ⟨List.toArray o.1⟩), (.int .i64 u.1)]) ([(a7, o.1, u.1)] : List ((List UInt8) × (List UInt8) × Int)) (d := (some 43)) (k := 16) K rfl (fun _ => K) s7 rfl rfl rfl rfl ?_
     intro s8 y6 s9
     refine ⟨_, Qa a1, trivial, ?_⟩
     exact (Exists.intro s8 (And.intro (And.intro s6 (And.intro rfl (trivial))) s9))
   ·refine oH 2 3 ?_
    ·rintro ρ' w' hs a0 ⟨d1, ⟨t0, i3, -⟩, i4⟩
     refine kN [(31, (.slice a.2.2.2.2.1 (List.length (stT a).2.2.2.2) a.2.2.2.2.2.1)), (43, (.slice (some ⟨d1, 0, none⟩) (List.length ([(a7, o.1, u.1)] : List ((List UInt8) × (List UInt8) × Int))) (List.length ([(a7, o.1, u.1)] : List ((List UInt8) × (List UInt8) × Int)))))] ⟨a0 4 31 K, (Vp (h := 16) K).symm.trans i3, trivial⟩ fun a1 => ?_
     refine Qi.append (e := (Qg Qo (Qg Qo (Ve .i64)))) (l := (stT a).2.2.2.2) (m := ([(a7, o.1, u.1)] : List ((List UInt8) × (List UInt8) × Int))) (A := a.2.2.2.2.1) (c := a.2.2.2.2.2.1) (T := 31) (TX := 31) (E := 37) (b := 40) (s := (.tmp 31)) (x := (.tmp 43)) (i := 4) (vx := (.slice (some ⟨d1, 0, none⟩) (List.length ([(a7, o.1, u.1)] : List ((List UInt8) × (List UInt8) × Int))) (List.length ([(a7, o.1, u.1)] : List ((List UInt8) × (List UInt8) × Int))))) (d := (some 44)) (k := 17) K rfl K K K K rfl i4 rfl (Dc (E := 37) K (Vl (SP.get i4 (i := 6) rfl))) hl670 ?_
     rw [hyl671]
     intro t1 t2 y7 t3
     refine ⟨_, Qa a1, trivial, ?_⟩
     exact (Exists.intro d1 (Exists.intro t1 (Exists.intro t2 (And.intro (And.intro t0 (And.intro i3 (And.intro rfl (trivial)))) t3))))
   ·exact oV (hC (hA 0 27) (h0)) (.pointer (some ⟨b2, (b3 + (List.length a3) * Zh.sz), none⟩))
   ·exact oV (hC (hA 18 45) (h0)) (.pointer (some ⟨b2, (b3 + (List.length a3) * Zh.sz + 4), none⟩))
   ·refine oH 3 4 ?_
    ·rintro ρ' w' hs a0 ⟨e7, d2, d3, ⟨t4, t5, i5, -⟩, t6⟩
     refine kN [(46, (.pointer (some ⟨b2, (b3 + (List.length a3) * Zh.sz + 4), none⟩))), (44, (.slice d2 (List.length b8) d3))] ⟨a0 19 46 K, (Vp (h := 17) K).symm.trans i5, trivial⟩ fun a1 => ?_
     refine Ri (t := 31) (x := (.tmp 46)) (z := (.tmp 44)) (A := A7) (c := c8) (d0 := a3) (y := a) (y' := ((a.1, a.2.1, a.2.2.1, a.2.2.2.1, (d2, d3, b8)) : Qx)) (b := b2) (off := b3) (f := 4) (i := 0) (v := (.slice d2 (List.length b8) d3)) (dst := none) (k := 20) K rfl e4 K K t6 rfl K rfl K ?_
     intro y8 t7
     refine ⟨_, Qa a1, trivial, ?_⟩
     exact (Exists.intro e7 (Exists.intro d2 (Exists.intro d3 (And.intro (And.intro t4 (And.intro t5 (And.intro i5 (And.intro rfl (trivial))))) t7))))
   ·rintro ρ' w' hs hf ⟨d6, c1, c2, ⟨y9, z0, z1, z2, -⟩, i6⟩
    refine V7 [] trivial ?_
    obtain ⟨i7, t8⟩ : ∃ x, w' = x := ⟨_, rfl⟩
    rw [t8] at i6 ⊢
    have t9 : SP S w0 i7 [Yo A7 c8 (a3 ++ [((a.1, a.2.1, a.2.2.1, a.2.2.2.1, (c1, c2, b8)) : Qx)]), Q7 5 eU8 a4 a5 o.1, Qw g1 72 #[(.int .i64 u.2.1), (.int .i64 u.2.2.1), (.int .i64 u.2.2.2.1), (.int .i64 u.2.2.2.2.1), (.slice A7 (List.length (List.map stT (a3 ++ [a]))) c8), (.int .i64 u.2.2.2.2.2.1), (.bool u.2.2.2.2.2.2)], Q7 37 (Qg Qo (Qg Qo (Ve .i64))) (some ⟨d6, 0, none⟩) (List.length ([(a7, o.1, u.1)] : List ((List UInt8) × (List UInt8) × Int))) ([(a7, o.1, u.1)] : List ((List UInt8) × (List UInt8) × Int))] := Dx i6 (A := A7) (c := c8) (d0 := a3) (y := ((a.1, a.2.1, a.2.2.1, a.2.2.2.1, (c1, c2, b8)) : Qx)) (i := 0) (q := 2) (j := 3) (m := 4) rfl rfl rfl rfl (by decide) (by decide) (by decide) rfl
    have u0 : SP S w0 i7 [Yo A7 c8 (a3 ++ [((a.1, a.2.1, a.2.2.1, a.2.2.2.1, (c1, c2, b8)) : Qx)]), Q7 5 eU8 a4 a5 o.1, Qw g1 72 #[(.int .i64 u.2.1), (.int .i64 u.2.2.1), (.int .i64 u.2.2.2.1), (.int .i64 u.2.2.2.2.1), (.slice A7 (List.length (List.map stT (a3 ++ [((a.1, a.2.1, a.2.2.1, a.2.2.2.1, (c1, c2, b8)) : Qx)]))) c8), (.int .i64 u.2.2.2.2.2.1), (.bool u.2.2.2.2.2.2)], Q7 37 (Qg Qo (Qg Qo (Ve .i64))) (some ⟨d6, 0, none⟩) (List.length ([(a7, o.1, u.1)] : List ((List UInt8) × (List UInt8) × Int))) ([(a7, o.1, u.1)] : List ((List UInt8) × (List UInt8) × Int))] := by have h := t9; rw [Hk (d0 := a3) (y := a) ((a.1, a.2.1, a.2.2.1, a.2.2.2.1, (c1, c2, b8)) : Qx)] at h; exact h
    refine ⟨(.tuple #[]), K, ?_⟩
    obtain rfl := Qf H
    exact ⟨A7, c8, (a3 ++ [((a.1, a.2.1, a.2.2.1, a.2.2.2.1, (c1, c2, b8)) : Qx)]), rfl, (Ei (d0 := a3) (y := ((a.1, a.2.1, a.2.2.1, a.2.2.2.1, (c1, c2, b8)) : Qx))), SP.sel u0 [2,0] rfl rfl⟩
end Go.Proofs.YtoflbpmbkmephaaGreatDoor
namespace Go.Proofs.YtoflbpmbkmephaaGreatDoor
open Go.RowKit
open Go.MapKept (sameNow_of_keys IsKey)
abbrev Za : List UInt8 := [116, 105, 109, 101, 115]
abbrev Zz : List UInt8 := [116, 101, 110, 97, 110, 116]
abbrev N9 : List UInt8 := [110, 101, 116]
abbrev Y7 : List UInt8 := [116, 111, 107, 101, 110]
def cin (w : List UInt8) : Bool := w == Za || (w == Zz || (w == N9 || w == Y7))
def Uo (w : List UInt8) : Int := cond (w == Za) 5 (cond (w == Zz) 4 (cond (w == N9) 2 4))
def Jz (w : List UInt8) : FuncId := cond (w == Za) 142 (cond (w == Zz) 143 (cond (w == N9) 144 145))
def cval (w : List UInt8) : Value := .agg #[.int .i64 (Uo w), .func (.func (Jz w)) #[] #[]]
def Hl : KV := [(.string ⟨List.toArray Za⟩, cval Za), (.string ⟨List.toArray Zz⟩, cval Zz), (.string ⟨List.toArray N9⟩, cval N9), (.string ⟨List.toArray Y7⟩, cval Y7)]
theorem Bx {w : List UInt8} (h : cin w = true) : w = Za ∨ w = Zz ∨ w = N9 ∨ w = Y7 := by
  unfold cin at h
  rw [Bool.or_eq_true, Bool.or_eq_true, Bool.or_eq_true] at h
  rcases h with h | h | h | h
  · exact .inl (eq_of_beq h)
  · exact .inr (.inl (eq_of_beq h))
  · exact .inr (.inr (.inl (eq_of_beq h)))
  · exact .inr (.inr (.inr (eq_of_beq h)))
theorem ctab_in {w : List UInt8} (h : cin w = true) : ∃ j, N7 .string (.string ⟨List.toArray w⟩) Hl 0 = some (some (j, cval w)) := by
  rcases Bx h with rfl | rfl | rfl | rfl
  · exact ⟨0, by kernel_rfl⟩
  · exact ⟨1, by kernel_rfl⟩
  · exact ⟨2, by kernel_rfl⟩
  · exact ⟨3, by kernel_rfl⟩
theorem Ej {a b : List UInt8} (h : (a == b) = false) : Instr.sameNow .string (.string ⟨List.toArray a⟩) (.string ⟨List.toArray b⟩) = some false := by
  obtain ⟨r, h1, h2⟩ := sameNow_of_keys (d := .string) (a := .string ⟨List.toArray a⟩) (b := .string ⟨List.toArray b⟩) trivial trivial
  cases r
  · exact h1
  · have h3 := h2.1 rfl
    injection h3 with h3
    injection h3 with h3
    have h4 : a = b := by simpa using congrArg Array.toList h3
    rw [h4] at h
    simp at h
theorem Hm {w : List UInt8} (h : cin w = false) : N7 .string (.string ⟨List.toArray w⟩) Hl 0 = some none := by
  unfold cin at h
  rw [Bool.or_eq_false_iff, Bool.or_eq_false_iff, Bool.or_eq_false_iff] at h
  obtain ⟨h1, h2, h3, h4⟩ := h
  simp only [Hl, N7, Ej h1, Ej h2, Ej h3, Ej h4]
theorem F9 (w : List UInt8) (args : Array Value) (w0 : World) : (callFunc (Jz w) args).run Tryz.prog w0 = .ok (.enter (Jz w) args) w0 := by
  unfold Jz
  cases (w == Za)
  · cases (w == Zz)
    · cases (w == N9)
      · exact Tryz.call145 args w0
      · exact Tryz.call144 args w0
    · exact Tryz.call143 args w0
  · exact Tryz.call142 args w0
def By (w : List UInt8) (q2 q3 q4 q5 : Int) (l : List Qe) (q7 : Int) (q8 : Bool) (p : List (List UInt8)) : Option (Int × Int × Int × Int × List Qe × Int × Bool) :=
  cond (w == Za) ((X1 q2 q3 q4 q5 q7 q8 p).bind fun z => some (z.1, z.2.1, z.2.2.1, z.2.2.2.1, l, z.2.2.2.2.1, z.2.2.2.2.2))
    (cond (w == Zz) (Xq q2 q3 q4 q5 l q7 q8 p) (cond (w == N9) (Yf q2 q3 q4 q5 l q7 q8 p) (X2 q2 q3 q4 q5 l q7 q8 p)))
theorem Ff (w : List UInt8) {S : List Nat} (g1 : Nat) (A7 : Option Addr) (c8 : Nat) (A13 : Option Addr) (c14 : Nat) (q2 q3 q4 q5 : Int) (d9 : List Qx) (q10 : Int) (q11 : Bool) (p12 : List (List UInt8)) (w0 : World) (hL : ∀ w, Mod S w0 w → Uj w)
    (hO : SP S w0 w0 [Qw g1 72 #[(.int .i64 q2), (.int .i64 q3), (.int .i64 q4), (.int .i64 q5), (.slice A7 (List.length (List.map stT d9)) c8), (.int .i64 q10), (.bool q11)], Yo A7 c8 d9]) (hr15 : ∀ w, Mod S w0 w → RdT Qo w A13 c14 p12)
    (r : Int × Int × Int × Int × List Qe × Int × Bool) (H : By w q2 q3 q4 q5 (List.map stT d9) q10 q11 p12 = some r) :
    Calls Tryz.prog (Jz w) #[(.pointer (some ⟨g1, 0, none⟩)), (.slice A13 (List.length p12) c14)] w0 (fun e w' => ∃ (A : Option Addr) (c : Nat) (d : List Qx), e = .returned (.tuple #[]) ∧ r.2.2.2.2.1 = List.map stT d ∧ SP S w0 w' [Qw g1 72 #[(.int .i64 r.1), (.int .i64 r.2.1), (.int .i64 r.2.2.1), (.int .i64 r.2.2.2.1), (.slice A (List.length (List.map stT d)) c), (.int .i64 r.2.2.2.2.2.1), (.bool r.2.2.2.2.2.2)], Yo A c d]) := by
  unfold By at H
  unfold Jz
  cases h1 : (w == Za) <;> rw [h1] at H
  · cases h2 : (w == Zz) <;> rw [h2] at H
    · cases h3 : (w == N9) <;> rw [h3] at H
      · exact U9 g1 A7 c8 A13 c14 q2 q3 q4 q5 d9 q10 q11 p12 w0 hL hO hr15 r H
      · exact Nx g1 A7 c8 A13 c14 q2 q3 q4 q5 d9 q10 q11 p12 w0 hL hO hr15 r H
    · exact U6 g1 A7 c8 A13 c14 q2 q3 q4 q5 d9 q10 q11 p12 w0 hL hO hr15 r H
  · obtain ⟨z, hz, H⟩ := Qc H
    have hw := U8 g1 (.slice A7 (List.length (List.map stT d9)) c8) A13 c14 q2 q3 q4 q5 q10 q11 p12 w0 (fun w hm => hL w (SP.through hO (l := [0]) rfl hm)) (Y2 hO [0] rfl rfl) (fun w hm => hr15 w (SP.through hO (l := [0]) rfl hm)) z hz
    refine hw.mono fun e w' hp => ?_
    obtain ⟨he, hs⟩ := hp
    injection H with H
    subst H
    have h2 : SP S w0 w' [Yo A7 c8 d9, Qw g1 72 #[(.int .i64 z.1), (.int .i64 z.2.1), (.int .i64 z.2.2.1), (.int .i64 z.2.2.2.1), (.slice A7 (List.length (List.map stT d9)) c8), (.int .i64 z.2.2.2.2.1), (.bool z.2.2.2.2.2)]] := Zm hO [0] [1] rfl rfl hs rfl
    exact ⟨A7, c8, d9, he, rfl, SP.sel h2 [1, 0] rfl rfl⟩
end Go.Proofs.YtoflbpmbkmephaaGreatDoor
namespace Go.Proofs.YtoflbpmbkmephaaGreatDoor
open Go.RowKit
def Jg  : Option Unit :=
  (some ())
set_option maxHeartbeats 40000000 in
theorem Yg   (w0 : World)  (r : Unit) (H : Jg  = some r) :
  Calls Tryz.prog 91 #[] w0 (fun e w' => ∃ (g1 : Nat), e = .returned (.map (some g1)) ∧ SP [] w0 w' [Ia g1 Hl]) := by
 unfold Jg at H
 refine Qv (n := 7) Tryz.func91 K K K ?_
 have a := Q0 [] w0
 refine aQ ?_
 refine aR ?_
 refine iR 1 1 [(0, (.map none))] ?_
 refine iF ?_
 refine aQ ?_
 refine aR ?_
 refine iS 1 ?_
 refine Ib (T := 144) (dst := (some 1)) (o := 0) K rfl a ?_
 intro g2 w3 b
 refine iR 1 2 [(2, (.agg #[(.int .i64 5), (.func (.func 142) #[] #[])]))] ?_
 refine iS 3 ?_
 refine R7 (T := 144) (kt := 9) (et := 142) (m := g2) (L := []) (k := (.string ⟨List.toArray ([116, 105, 109, 101, 115] : List UInt8)⟩)) (v := (.agg #[(.int .i64 5), (.func (.func 142) #[] #[])])) (d := .string) (x := (.tmp 1)) (ix := (.const (.string ⟨List.toArray ([116, 105, 109, 101, 115] : List UInt8)⟩))) (y := (.tmp 2)) (i := 0) (dst := none) (o := 2) K rfl K K K K K K K K b rfl ?_
 intro w6 c
 refine iR 1 4 [(3, (.agg #[(.int .i64 4), (.func (.func 143) #[] #[])]))] ?_
 refine iS 5 ?_
 refine R7 (T := 144) (kt := 9) (et := 142) (m := g2) (L := ([] ++ [((.string ⟨List.toArray ([116, 105, 109, 101, 115] : List UInt8)⟩), (.agg #[(.int .i64 5), (.func (.func 142) #[] #[])]))])) (k := (.string ⟨List.toArray ([116, 101, 110, 97, 110, 116] : List UInt8)⟩)) (v := (.agg #[(.int .i64 4), (.func (.func 143) #[] #[])])) (d := .string) (x := (.tmp 1)) (ix := (.const (.string ⟨List.toArray ([116, 101, 110, 97, 110, 116] : List UInt8)⟩))) (y := (.tmp 3)) (i := 0) (dst := none) (o := 4) K rfl K K K K K K K K c rfl ?_
 intro w9 f
 refine iR 1 6 [(4, (.agg #[(.int .i64 2), (.func (.func 144) #[] #[])]))] ?_
 refine iS 7 ?_
 refine R7 (T := 144) (kt := 9) (et := 142) (m := g2) (L := (([] ++ [((.string ⟨List.toArray ([116, 105, 109, 101, 115] : List UInt8)⟩), (.agg #[(.int .i64 5), (.func (.func 142) #[] #[])]))]) ++ [((.string ⟨List.toArray ([116, 101, 110, 97, 110, 116] : List UInt8)⟩), (.agg #[(.int .i64 4), (.func (.func 143) #[] #[])]))])) (k := (.string ⟨List.toArray ([110, 101, 116] : List UInt8)⟩)) (v := (.agg #[(.int .i64 2), (.func (.func 144) #[] #[])])) (d := .string) (x := (.tmp 1)) (ix := (.const (.string ⟨List.toArray ([110, 101, 116] : List UInt8)⟩))) (y := (.tmp 4)) (i := 0) (dst := none) (o := 6) K rfl K K K K K K K K f rfl ?_
 intro j g
 refine iR 1 8 [(5, (.agg #[(.int .i64 4), (.func (.func 145) #[] #[])]))] ?_
 refine iS 9 ?_
 refine R7 (T := 144) (kt := 9) (et := 142) (m := g2) (L := ((([] ++ [((.string ⟨List.toArray ([116, 105, 109, 101, 115] : List UInt8)⟩), (.agg #[(.int .i64 5), (.func (.func 142) #[] #[])]))]) ++ [((.string ⟨List.toArray ([116, 101, 110, 97, 110, 116] : List UInt8)⟩), (.agg #[(.int .i64 4), (.func (.func 143) #[] #[])]))]) ++ [((.string ⟨List.toArray ([110, 101, 116] : List UInt8)⟩), (.agg #[(.int .i64 2), (.func (.func 144) #[] #[])]))])) (k := (.string ⟨List.toArray ([116, 111, 107, 101, 110] : List UInt8)⟩)) (v := (.agg #[(.int .i64 4), (.func (.func 145) #[] #[])])) (d := .string) (x := (.tmp 1)) (ix := (.const (.string ⟨List.toArray ([116, 111, 107, 101, 110] : List UInt8)⟩))) (y := (.tmp 5)) (i := 0) (dst := none) (o := 8) K rfl K K K K K K K K g rfl ?_
 intro l h
 refine iR 2 11 [(6, (.map (some g2))), (0, (.map (some g2)))] ?_
 refine iF ?_
 refine At.ret K ?_
 refine ⟨(.map (some g2)), K, ?_⟩
 obtain rfl := Qf H
 exact ⟨g2, rfl, SP.sel h [0] rfl rfl⟩
def Zp (a : (Int × Int × Int × Int × (List Qe) × Int × Bool)) (b : (List Qe)) (c : Bool) : Option (Bool × Int × Int × Int × Int × (List Qe) × Int × Bool) :=
  (some (c, a.1, a.2.1, a.2.2.1, a.2.2.2.1, b, (IntKind.wrap .i64 (a.2.2.2.2.2.1 + 1)), a.2.2.2.2.2.2))
def Zq (q2 : Int) (q3 : Int) (q4 : Int) (q5 : Int) (q6 : (List Qe)) (c : Int) (d : Bool) (e : ((List (List UInt8)))) (f : (List UInt8)) (g : Bool) : Option (Bool × Int × Int × Int × Int × (List Qe) × Int × Bool) :=
  (cond g (some (false, q2, q3, q4, q5, q6, c, d)) ((By f q2 q3 q4 q5 q6 c d e).bind fun a => ((some a.2.2.2.2.1).bind fun b => (cond (!a.2.2.2.2.2.2) ((Zy a.1 a.2.1 a.2.2.1 a.2.2.2.1 b).bind fun h => (Zp a b h)) (Zp a b false)))))
def V4 (q2 : Int) (q3 : Int) (q4 : Int) (q5 : Int) (q6 : (List Qe)) (c : Int) (d : Bool) (f : (List UInt8)) : Option (Bool × Int × Int × Int × Int × (List Qe) × Int × Bool) :=
  ((Xn f ([10] : List UInt8)).bind fun e => ((Yz e.1 ([32] : List UInt8)).bind fun a => ((Jg ).bind fun g => ((idx a 0).bind fun b => (cond (cin b) (cond (!e.2) (Zq q2 q3 q4 q5 q6 c d a b true) (Zq q2 q3 q4 q5 q6 c d a b (((List.length a : Nat) : Int) != (Uo b)))) (some (false, q2, q3, q4, q5, q6, c, d)))))))
set_option maxHeartbeats 40000000 in
theorem Ni {S : List Nat} (g1 : Nat) (A7 : Option Addr) (c8 : Nat) (q2 : Int) (q3 : Int) (q4 : Int) (q5 : Int) (d9 : (List Qx)) (a5 : Int) (a6 : Bool) (c6 : (List UInt8)) (w0 : World) (hL : ∀ w, Mod S w0 w → Uj w) (hO : SP S w0 w0 [Qw g1 72 #[(.int .i64 q2), (.int .i64 q3), (.int .i64 q4), (.int .i64 q5), (.slice A7 (List.length (List.map stT d9)) c8), (.int .i64 a5), (.bool a6)], Yo A7 c8 d9])  (r : (Bool × Int × Int × Int × Int × (List Qe) × Int × Bool)) (H : V4 q2 q3 q4 q5 (List.map stT d9) a5 a6 c6 = some r) :
  Calls Tryz.prog 41 #[(pt g1 0), (.string ⟨List.toArray c6⟩)] w0 (fun e w' => ∃ (e0 : Option Addr) (e1 : Nat) (d3 : List Qx), e = .returned (.bool r.1) ∧ r.2.2.2.2.2.1 = List.map stT d3 ∧ SP S w0 w' [Qw g1 72 #[(.int .i64 r.2.1), (.int .i64 r.2.2.1), (.int .i64 r.2.2.2.1), (.int .i64 r.2.2.2.2.1), (.slice e0 (List.length (List.map stT d3)) e1), (.int .i64 r.2.2.2.2.2.2.1), (.bool r.2.2.2.2.2.2.2)], Yo e0 e1 d3]) := by
 unfold V4 at H
 refine Qv (n := 61) Tryz.func41 K K K ?_
 have f7 := hO
 refine aQ ?_
 refine aR ?_
 refine iR 1 1 [(4, (.bool false))] ?_
 refine iF ?_
 refine aQ ?_
 refine aR ?_
 refine iR 1 1 [(10, (.string ⟨List.toArray c6⟩))] ?_
 obtain ⟨a2, f8, H⟩ := Qc H
 refine iS 2 ?_
 refine cF 90 #[(.tmp 10), (.const (.string ⟨List.toArray ([10] : List UInt8)⟩))] #[9, 9] 11 Tryz.call90 (Nv  c6 ([10] : List UInt8) w0  a2 f8) ?_
 rintro e f9 ⟨rfl, e2⟩
 refine ⟨_, rfl, ?_⟩
 have g0 := SP.call f7 e2
 clear e2
 refine iR 5 7 [(9, (.tuple #[(.string ⟨List.toArray a2.1⟩), (.bool a2.2)])), (12, (.string ⟨List.toArray a2.1⟩)), (13, (.bool a2.2)), (1, (.string ⟨List.toArray a2.1⟩)), (5, (.bool a2.2))] ?_
 refine iF ?_
 refine aQ ?_
 refine aR ?_
 refine iR 1 1 [(14, (.string ⟨List.toArray a2.1⟩))] ?_
 obtain ⟨s, g2, H⟩ := Qc H
 refine iS 2 ?_
 refine cF 67 #[(.tmp 14), (.const (.string ⟨List.toArray ([32] : List UInt8)⟩))] #[9, 9] 15 Tryz.call67 (Ra  a2.1 ([32] : List UInt8) f9  s g2) ?_
 rintro e s6 ⟨u, a0, rfl, e3⟩
 refine ⟨_, rfl, ?_⟩
 have e4 := SP.call g0 e3
 clear e3
 refine iR 1 3 [(6, (.slice u (List.length s) a0))] ?_
 refine iF ?_
 refine aQ ?_
 obtain ⟨c7, c9, H⟩ := Qc H
 obtain ⟨p, a3, a4, b6, H⟩ := Vk H
 rcases Bool.eq_false_or_eq_true (cin p) with b9 | b9
 ·have H := ct H b9
  refine aG [G5, GEq (.slice u (List.length s) a0), Ja u Qo.sz 0, GEq (.string ⟨List.toArray p⟩), GEq (.tuple #[(.agg #[(.int .i64 (Uo p)), (.func (.func (Jz p)) #[] #[])]), (.bool true)]), GEq (.tuple #[(.agg #[(.int .i64 (Uo p)), (.func (.func (Jz p)) #[] #[])]), (.bool true)]), GEq (.agg #[(.int .i64 (Uo p)), (.func (.func (Jz p)) #[] #[])]), GEq (.bool true), G5, G5, GEq (.bool true)] [0, 8, 9] [([], fun vs w => VL vs [] ∧ SP S w0 w [Qw g1 72 #[(.int .i64 q2), (.int .i64 q3), (.int .i64 q4), (.int .i64 q5), (.slice A7 (List.length (List.map stT d9)) c8), (.int .i64 a5), (.bool a6)], Yo A7 c8 d9, Q7 9 Qo u a0 s]), ([0], fun vs w => ∃ (a9 : Nat), VL vs [(.map (some a9))] ∧ SP S w0 w [Qw g1 72 #[(.int .i64 q2), (.int .i64 q3), (.int .i64 q4), (.int .i64 q5), (.slice A7 (List.length (List.map stT d9)) c8), (.int .i64 a5), (.bool a6)], Yo A7 c8 d9, Q7 9 Qo u a0 s, Ia a9 Hl]), ([8], fun vs w => ∃ (c0 : Nat), VL vs [(pt c0 0)] ∧ SP S w0 w [Qw g1 72 #[(.int .i64 q2), (.int .i64 q3), (.int .i64 q4), (.int .i64 q5), (.slice A7 (List.length (List.map stT d9)) c8), (.int .i64 a5), (.bool a6)], Yo A7 c8 d9, Q7 9 Qo u a0 s, Qw c0 142 #[(.int .i64 0), .nilFunc]]), ([0, 8], fun vs w => ∃ (b0 : Nat), ∃ (b1 : Nat), VL vs [(.map (some b0)), (pt b1 0)] ∧ SP S w0 w [Qw g1 72 #[(.int .i64 q2), (.int .i64 q3), (.int .i64 q4), (.int .i64 q5), (.slice A7 (List.length (List.map stT d9)) c8), (.int .i64 a5), (.bool a6)], Yo A7 c8 d9, Q7 9 Qo u a0 s, Ia b0 Hl, Qw b1 142 #[(.int .i64 0), .nilFunc]]), ([0, 8, 9], fun vs w => ∃ (d4 : Nat), ∃ (a8 : Nat), VL vs [(.map (some d4)), (pt a8 0), undef] ∧ SP S w0 w [Qw g1 72 #[(.int .i64 q2), (.int .i64 q3), (.int .i64 q4), (.int .i64 q5), (.slice A7 (List.length (List.map stT d9)) c8), (.int .i64 a5), (.bool a6)], Yo A7 c8 d9, Q7 9 Qo u a0 s, Ia d4 Hl, Qw a8 142 #[(.int .i64 (Uo p)), (.func (.func (Jz p)) #[] #[])]])] 11 4 ⟨trivial, SP.drew e4⟩ ?_ ?_
  iterate 11 refine And.intro ?_ ?_
  exact trivial
  ·refine Owe.heavy K [(0, 1), (2, 3)] K (Qb ⟨K, K, ?_⟩ (Qb ⟨K, K, ?_⟩ Q8))
   ·rintro ρ' w' hs q ⟨s7, g3⟩
    refine kN [] trivial fun a => ?_
    refine cF 91 #[] #[] 17 Tryz.call91 (Yg   w'  c7 c9) ?_
    rintro e s8 ⟨g4, rfl, e5⟩
    refine ⟨_, rfl, ?_⟩
    have g5 := SP.call g3 e5
    clear e5
    refine ⟨_, Qa a, trivial, ?_⟩
    exact (Exists.intro g4 (And.intro (And.intro rfl (trivial)) g5))
   ·rintro ρ' w' hs q ⟨c0, ⟨g6, -⟩, g7⟩
    refine kN [] trivial fun a => ?_
    refine cF 91 #[] #[] 17 Tryz.call91 (Yg   w'  c7 c9) ?_
    rintro e s9 ⟨g8, rfl, e6⟩
    refine ⟨_, rfl, ?_⟩
    have g9 := SP.call g7 e6
    clear e6
    refine ⟨_, Qa a, trivial, ?_⟩
    exact (Exists.intro g8 (Exists.intro c0 (And.intro (And.intro rfl (And.intro g6 (trivial))) (SP.sel g9 [0, 1, 2, 4, 3] rfl rfl))))
  ·exact oV (hC (hS 6 (.slice u (List.length s) a0)) (h0)) (.slice u (List.length s) a0)
  ·refine Owe.light K [0, 1, 2, 3] K (Qb ?_ (Qb ?_ (Qb ?_ (Qb ?_ Q8))))
   ·rintro ρ' w' hs q ⟨t0, h1⟩
    refine kM (kc (kA q 1 18) k0) fun a => ?_
    refine Ql (e := Qo) (l := s) (A := u) (c := a0) (T := 79) (E := 9) (x := (.tmp 18)) (ix := (.const (.int .i64 (0)))) (ki := .i64) (iz := 0) (d := (some 19)) (k := 2) K rfl K K K K (Vl (SP.get h1 (i := 2) rfl)) a3 a4 ?_
    intro h2 h3 h4 t1 hc454
    exact ⟨rfl, _, Qa a, ⟨h2, h3, h4, rfl⟩⟩
   ·rintro ρ' w' hs q ⟨a9, ⟨t2, -⟩, h5⟩
    refine kM (kc (kA q 1 18) k0) fun a => ?_
    refine Ql (e := Qo) (l := s) (A := u) (c := a0) (T := 79) (E := 9) (x := (.tmp 18)) (ix := (.const (.int .i64 (0)))) (ki := .i64) (iz := 0) (d := (some 19)) (k := 2) K rfl K K K K (Vl (SP.get h5 (i := 2) rfl)) a3 a4 ?_
    intro h6 h7 h8 t3 hc462
    exact ⟨rfl, _, Qa a, ⟨h6, h7, h8, rfl⟩⟩
   ·rintro ρ' w' hs q ⟨c0, ⟨t4, -⟩, h9⟩
    refine kM (kc (kA q 1 18) k0) fun a => ?_
    refine Ql (e := Qo) (l := s) (A := u) (c := a0) (T := 79) (E := 9) (x := (.tmp 18)) (ix := (.const (.int .i64 (0)))) (ki := .i64) (iz := 0) (d := (some 19)) (k := 2) K rfl K K K K (Vl (SP.get h9 (i := 2) rfl)) a3 a4 ?_
    intro i0 i1 i2 t5 hc470
    exact ⟨rfl, _, Qa a, ⟨i0, i1, i2, rfl⟩⟩
   ·rintro ρ' w' hs q ⟨b0, b1, ⟨t6, t7, -⟩, i3⟩
    refine kM (kc (kA q 1 18) k0) fun a => ?_
    refine Ql (e := Qo) (l := s) (A := u) (c := a0) (T := 79) (E := 9) (x := (.tmp 18)) (ix := (.const (.int .i64 (0)))) (ki := .i64) (iz := 0) (d := (some 19)) (k := 2) K rfl K K K K (Vl (SP.get i3 (i := 2) rfl)) a3 a4 ?_
    intro i4 i5 i6 t8 hc479
    exact ⟨rfl, _, Qa a, ⟨i4, i5, i6, rfl⟩⟩
  ·refine Owe.light K [0, 1, 2, 3] K (Qb ?_ (Qb ?_ (Qb ?_ (Qb ?_ Q8))))
   ·rintro ρ' w' hs q ⟨t9, i7⟩
    obtain ⟨i8, i9, j0, a7⟩ := q 2 19 K
    refine kM (kc a7 k0) fun a => ?_
    refine sC 9 19 i8 (i9 + Int.toNat 0 * Qo.sz) (.string ⟨List.toArray p⟩) 20 (Qy (e := Qo) (Qm (Vl (SP.get i7 (i := 2) rfl)) j0 a3 a4) b6 (j := 0) rfl) ?_
    exact eK a
   ·rintro ρ' w' hs q ⟨a9, ⟨u0, -⟩, j1⟩
    obtain ⟨j2, j3, j4, a7⟩ := q 2 19 K
    refine kM (kc a7 k0) fun a => ?_
    refine sC 9 19 j2 (j3 + Int.toNat 0 * Qo.sz) (.string ⟨List.toArray p⟩) 20 (Qy (e := Qo) (Qm (Vl (SP.get j1 (i := 2) rfl)) j4 a3 a4) b6 (j := 0) rfl) ?_
    exact eK a
   ·rintro ρ' w' hs q ⟨c0, ⟨u1, -⟩, j5⟩
    obtain ⟨j6, j7, j8, a7⟩ := q 2 19 K
    refine kM (kc a7 k0) fun a => ?_
    refine sC 9 19 j6 (j7 + Int.toNat 0 * Qo.sz) (.string ⟨List.toArray p⟩) 20 (Qy (e := Qo) (Qm (Vl (SP.get j5 (i := 2) rfl)) j8 a3 a4) b6 (j := 0) rfl) ?_
    exact eK a
   ·rintro ρ' w' hs q ⟨b0, b1, ⟨u2, u3, -⟩, j9⟩
    obtain ⟨k1, k2, k3, a7⟩ := q 2 19 K
    refine kM (kc a7 k0) fun a => ?_
    refine sC 9 19 k1 (k2 + Int.toNat 0 * Qo.sz) (.string ⟨List.toArray p⟩) 20 (Qy (e := Qo) (Qm (Vl (SP.get j9 (i := 2) rfl)) k3 a3 a4) b6 (j := 0) rfl) ?_
    exact eK a
  ·refine Owe.light K [1, 3] K (Qb ?_ (Qb ?_ Q8))
   ·rintro ρ' w' hs q ⟨a9, ⟨k4, -⟩, k5⟩
    refine kN [(17, (.map (some a9))), (20, (.string ⟨List.toArray p⟩))] ⟨(Vp (h := 0) K).symm.trans k4, q 3 20 K, trivial⟩ fun a => ?_
    refine Bu (T := 144) (kt := 9) (et := 142) (m := a9) (L := Hl) (k := (.string ⟨List.toArray p⟩)) (d := .string) (x := (.tmp 17)) (ix := (.tmp 20)) (dst := (some 21)) (o := 4) (v := cval p) K rfl K K K K K (ctab_in b9) (SP.get k5 (i := 3) rfl) ?_
    exact eK a
   ·rintro ρ' w' hs q ⟨b0, b1, ⟨k6, u4, -⟩, k7⟩
    refine kN [(17, (.map (some b0))), (20, (.string ⟨List.toArray p⟩))] ⟨(Vp (h := 0) K).symm.trans k6, q 3 20 K, trivial⟩ fun a => ?_
    refine Bu (T := 144) (kt := 9) (et := 142) (m := b0) (L := Hl) (k := (.string ⟨List.toArray p⟩)) (d := .string) (x := (.tmp 17)) (ix := (.tmp 20)) (dst := (some 21)) (o := 4) (v := cval p) K rfl K K K K K (ctab_in b9) (SP.get k7 (i := 3) rfl) ?_
    exact eK a
  ·exact oV (hC (hA 4 21) (h0)) (.tuple #[(.agg #[(.int .i64 (Uo p)), (.func (.func (Jz p)) #[] #[])]), (.bool true)])
  ·exact oV (hC (hA 5 16) (h0)) (.agg #[(.int .i64 (Uo p)), (.func (.func (Jz p)) #[] #[])])
  ·exact oV (hC (hA 5 16) (h0)) (.bool true)
  ·refine Owe.heavy K [(0, 2), (1, 3)] K (Qb ⟨K, K, ?_⟩ (Qb ⟨K, K, ?_⟩ Q8))
   ·rintro ρ' w' hs q ⟨u5, k8⟩
    refine kN [] trivial fun a => ?_
    refine Qi.alloc (t := 142) (z := (.agg #[(.int .i64 0), .nilFunc])) (d := (some 7)) (k := 8) K rfl K k8 ?_
    intro k9 u6 l0
    refine ⟨_, Qa a, trivial, ?_⟩
    exact (Exists.intro k9 (And.intro (And.intro rfl (trivial)) l0))
   ·rintro ρ' w' hs q ⟨a9, ⟨l1, -⟩, l2⟩
    refine kN [] trivial fun a => ?_
    refine Qi.alloc (t := 142) (z := (.agg #[(.int .i64 0), .nilFunc])) (d := (some 7)) (k := 8) K rfl K l2 ?_
    intro l3 u7 l4
    refine ⟨_, Qa a, trivial, ?_⟩
    exact (Exists.intro a9 (Exists.intro l3 (And.intro (And.intro l1 (And.intro rfl (trivial))) l4)))
  ·refine oH 3 4 ?_
   ·rintro ρ' w' hs q ⟨b0, b1, ⟨l5, e7, -⟩, l6⟩
    refine kN [(7, (pt b1 0)), (22, (.agg #[(.int .i64 (Uo p)), (.func (.func (Jz p)) #[] #[])]))] ⟨(Vp (h := 8) K).symm.trans e7, q 6 22 K, trivial⟩ fun a => ?_
    refine Qi.store (t := 142) (x := (.tmp 7)) (y := (.tmp 22)) (g := b1) (off := 0) (i := 4) (v := (.agg #[(.int .i64 (Uo p)), (.func (.func (Jz p)) #[] #[])])) (cs' := #[(.int .i64 (Uo p)), (.func (.func (Jz p)) #[] #[])]) (d := none) (k := 9) K rfl K K l6 rfl K ?_
    intro u8 l7
    refine ⟨_, Qa a, trivial, ?_⟩
    exact (Exists.intro b0 (Exists.intro b1 (And.intro (And.intro l5 (And.intro e7 (And.intro rfl (trivial)))) l7)))
  ·exact oV (hC (hA 7 23) (h0)) (.bool true)
  ·rintro ρ' w' hs hf ⟨d4, a8, ⟨u9, l8, v0, -⟩, d0⟩
   refine V7 [(0, (pt g1 0)), (5, (.bool a2.2)), (6, (.slice u (List.length s) a0)), (7, (pt a8 0)), (8, (.bool true))] ⟨(hs 0 K).trans K, (hs 5 K).trans K, (hs 6 K).trans K, (Vp (h := 8) K).symm.trans l8, hf 10 8 K, trivial⟩ ?_
   obtain ⟨v1, l9⟩ : ∃ x, w' = x := ⟨_, rfl⟩
   rw [l9] at d0 ⊢
   refine aQ ?_
   refine aQ ?_
   refine At.join (fun ρ w => ∃ (c1 : Bool), Zi ρ [(0, (pt g1 0)), (6, (.slice u (List.length s) a0)), (7, (pt a8 0)), (36, (.bool c1))] ∧ SP S w0 w [Yo A7 c8 d9, Qw g1 72 #[(.int .i64 q2), (.int .i64 q3), (.int .i64 q4), (.int .i64 q5), (.slice A7 (List.length (List.map stT d9)) c8), (.int .i64 a5), (.bool a6)], Qw a8 142 #[(.int .i64 (Uo p)), (.func (.func (Jz p)) #[] #[])], Q7 9 Qo u a0 s] ∧ Zq q2 q3 q4 q5 (List.map stT d9) a5 a6 s p c1 = some r) ?_ ?_
   ·refine aR ?_
    refine iR 7 7 [(24, (.bool true)), (25, (.bool false)), (26, (.bool false)), (27, (.bool a2.2)), (28, (.bool (!a2.2))), (29, (.bool (!a2.2))), (30, (.bool (!a2.2)))] ?_
    refine In.guard (t := 30) (b := (!a2.2)) K (fun d5 => ?_) (fun d5 => ?_)
    ·have H := ct H d5
     refine iR 6 13 [(31, undef), (32, undef), (33, undef), (34, undef), (35, undef), (36, (.bool true))] ?_
     refine iF ?_
     exact ⟨true, ⟨K, K, K, K, trivial⟩, SP.sel d0 [1, 0, 4, 2] rfl rfl, H⟩
    ·have H := cf H d5
     refine iR 3 10 [(31, (.slice u (List.length s) a0)), (32, (.int .i64 ((List.length s : Nat) : Int))), (33, (pt a8 0))] ?_
     refine iS 11 ?_
     refine sL 3 33 a8 0 4 (.int .i64 (Uo p)) 34 d0 rfl ?_
     refine iR 2 13 [(35, (.bool (((List.length s : Nat) : Int) != (Uo p)))), (36, (.bool (((List.length s : Nat) : Int) != (Uo p))))] ?_
     refine iF ?_
     exact ⟨(((List.length s : Nat) : Int) != (Uo p)), ⟨K, K, K, K, trivial⟩, SP.sel d0 [1, 0, 4, 2] rfl rfl, H⟩
   ·rintro ρ m0 ⟨c1, hk, c2, H⟩
    unfold Zq at H
    first | refine At.known [(0, (pt g1 0)), (6, (.slice u (List.length s) a0)), (7, (pt a8 0)), (36, (.bool c1))] hk ?_ | rw [← Q1 (l := [(0, (pt g1 0)), (6, (.slice u (List.length s) a0)), (7, (pt a8 0)), (36, (.bool c1))]) hk]
    refine Xe K (o := (.tmp 36)) K (b := c1) K (fun d6 => ?_) (fun d6 => ?_)
    ·have H := ct H d6
     refine aQ ?_
     refine aR ?_
     refine iR 1 1 [(4, (.bool false))] ?_
     refine iF ?_
     refine At.ret K ?_
     refine ⟨(.bool false), K, ?_⟩
     obtain rfl := Qf H
     exact ⟨A7, c8, d9, rfl, rfl, SP.sel c2 [1,0] rfl rfl⟩
    ·have H := cf H d6
     refine At.skip K ?_
     refine aQ ?_
     refine aR ?_
     refine iR 1 1 [(37, (pt a8 1))] ?_
     refine iS 2 ?_
     refine sL 140 37 a8 1 2 (.func (.func (Jz p)) #[] #[]) 38 c2 rfl ?_
     refine iR 2 4 [(39, (pt g1 0)), (40, (.slice u (List.length s) a0))] ?_
     obtain ⟨a1, m1, H⟩ := Qc H
     refine iS 5 ?_
     refine Xf (f := (Jz p)) (fo := (.tmp 38)) (xs := #[(.tmp 39), (.tmp 40)]) (tys := #[70, 79]) (first := #[]) (captured := #[]) (d := (some 41)) (k := 4) K rfl K K (F9 p) (Ff p g1 A7 c8 u a0 q2 q3 q4 q5 d9 a5 a6 s m0 (fun w hm => hL w (SP.through c2 (l := [1, 0]) rfl hm)) (Y2 c2 [1, 0] rfl rfl) (fun w hm => (Vl (SP.still c2 (l := [1, 0]) (i := 3) rfl rfl rfl hm))) a1 m1) ?_
     rintro e m2 ⟨b7, b8, b2, rfl, m3, e8⟩
     obtain ⟨v2, hll552, H⟩ := V5 H
     rw [m3] at hll552
     subst hll552
     refine ⟨_, rfl, ?_⟩
     have e9 : SP S w0 m2 [Qw a8 142 #[(.int .i64 (Uo p)), (.func (.func (Jz p)) #[] #[])], Q7 9 Qo u a0 s, Qw g1 72 #[(.int .i64 a1.1), (.int .i64 a1.2.1), (.int .i64 a1.2.2.1), (.int .i64 a1.2.2.2.1), (.slice b7 (List.length (List.map stT b2)) b8), (.int .i64 a1.2.2.2.2.2.1), (.bool a1.2.2.2.2.2.2)], Yo b7 b8 b2] := Zm c2 [1, 0] [2, 3] rfl rfl e8 rfl
     clear e8
     refine iF ?_
     refine aQ ?_
     refine aR ?_
     refine iR 3 3 [(42, (pt g1 0)), (43, (pt g1 0)), (44, (pt g1 5))] ?_
     refine iS 4 ?_
     refine sL 3 44 g1 5 2 (.int .i64 a1.2.2.2.2.2.1) 45 e9 rfl ?_
     refine iR 3 7 [(46, (.int .i64 (IntKind.wrap .i64 (a1.2.2.2.2.2.1 + 1)))), (47, (pt g1 0)), (48, (pt g1 5))] ?_
     refine iS 8 ?_
     refine Qi.store (t := 3) (x := (.tmp 48)) (y := (.tmp 46)) (g := g1) (off := 5) (i := 2) (v := (.int .i64 (IntKind.wrap .i64 (a1.2.2.2.2.2.1 + 1)))) (cs' := #[(.int .i64 a1.1), (.int .i64 a1.2.1), (.int .i64 a1.2.2.1), (.int .i64 a1.2.2.2.1), (.slice b7 (List.length (List.map stT b2)) b8), (.int .i64 (IntKind.wrap .i64 (a1.2.2.2.2.2.1 + 1))), (.bool a1.2.2.2.2.2.2)]) (d := none) (k := 7) K rfl K K e9 rfl K ?_
     intro f0 c3
     refine iF ?_
     refine aQ ?_
     refine At.join (fun ρ w => ∃ (c4 : Bool), Zi ρ [(4, (.bool c4))] ∧ SP S w0 w [Yo b7 b8 b2, Qw g1 72 #[(.int .i64 a1.1), (.int .i64 a1.2.1), (.int .i64 a1.2.2.1), (.int .i64 a1.2.2.2.1), (.slice b7 (List.length (List.map stT b2)) b8), (.int .i64 (IntKind.wrap .i64 (a1.2.2.2.2.2.1 + 1))), (.bool a1.2.2.2.2.2.2)]] ∧ Zp a1 (List.map stT b2) c4 = some r) ?_ ?_
     ·refine aR ?_
      refine iR 3 3 [(49, (pt g1 0)), (50, (pt g1 0)), (51, (pt g1 6))] ?_
      refine iS 4 ?_
      refine sL 4 51 g1 6 2 (.bool a1.2.2.2.2.2.2) 52 c3 rfl ?_
      refine iR 2 6 [(53, (.bool (!a1.2.2.2.2.2.2))), (54, (.bool (!a1.2.2.2.2.2.2)))] ?_
      refine In.guard (t := 54) (b := (!a1.2.2.2.2.2.2)) K (fun d7 => ?_) (fun d7 => ?_)
      ·have H := ct H d7
       refine iR 3 9 [(55, (pt g1 0)), (56, (pt g1 0)), (57, (pt g1 0))] ?_
       refine iS 10 ?_
       refine sL 24 57 g1 0 2 (.agg #[(.int .i64 a1.1), (.int .i64 a1.2.1), (.int .i64 a1.2.2.1), (.int .i64 a1.2.2.2.1), (.slice b7 (List.length (List.map stT b2)) b8)]) 58 c3 rfl ?_
       obtain ⟨d1, m4, H⟩ := Qc H
       refine iS 11 ?_
       refine cF 22 #[(.tmp 58)] #[24] 59 Tryz.call22 (Ye b7 b8 a1.1 a1.2.1 a1.2.2.1 a1.2.2.2.1 b2 f0 (hL f0 (SP.mod c3)) (Gx (SP.get c3 (i := 3) rfl)) d1 m4) ?_
       rintro e v3 ⟨rfl, f1⟩
       refine ⟨_, rfl, ?_⟩
       have m5 := SP.call c3 f1
       clear f1
       refine iR 2 13 [(60, (.bool d1)), (4, (.bool d1))] ?_
       refine iF ?_
       exact ⟨d1, ⟨K, trivial⟩, SP.sel m5 [3, 2] rfl rfl, H⟩
      ·have H := cf H d7
       refine iR 7 13 [(55, undef), (56, undef), (57, undef), (58, undef), (59, undef), (60, (.bool false)), (4, (.bool false))] ?_
       refine iF ?_
       exact ⟨false, ⟨K, trivial⟩, SP.sel c3 [3, 2] rfl rfl, H⟩
     ·rintro ρ v4 ⟨c4, hk, m6, H⟩
      unfold Zp at H
      first | refine At.known [(4, (.bool c4))] hk ?_ | rw [← Q1 (l := [(4, (.bool c4))]) hk]
      refine At.ret K ?_
      refine ⟨(.bool c4), K, ?_⟩
      obtain rfl := Qf H
      exact ⟨b7, b8, b2, rfl, rfl, SP.sel m6 [1,0] rfl rfl⟩
 ·have H := cf H b9
  refine aG [G5, GEq (.slice u (List.length s) a0), Ja u Qo.sz 0, GEq (.string ⟨List.toArray p⟩), GEq (.tuple #[(.agg #[(.int .i64 0), .nilFunc]), (.bool false)]), GEq (.tuple #[(.agg #[(.int .i64 0), .nilFunc]), (.bool false)]), GEq (.agg #[(.int .i64 0), .nilFunc]), GEq (.bool false), G5, G5, GEq (.bool false)] [0, 8, 9] [([], fun vs w => VL vs [] ∧ SP S w0 w [Qw g1 72 #[(.int .i64 q2), (.int .i64 q3), (.int .i64 q4), (.int .i64 q5), (.slice A7 (List.length (List.map stT d9)) c8), (.int .i64 a5), (.bool a6)], Yo A7 c8 d9, Q7 9 Qo u a0 s]), ([0], fun vs w => ∃ (b3 : Nat), VL vs [(.map (some b3))] ∧ SP S w0 w [Qw g1 72 #[(.int .i64 q2), (.int .i64 q3), (.int .i64 q4), (.int .i64 q5), (.slice A7 (List.length (List.map stT d9)) c8), (.int .i64 a5), (.bool a6)], Yo A7 c8 d9, Q7 9 Qo u a0 s, Ia b3 Hl]), ([8], fun vs w => ∃ (c5 : Nat), VL vs [(pt c5 0)] ∧ SP S w0 w [Qw g1 72 #[(.int .i64 q2), (.int .i64 q3), (.int .i64 q4), (.int .i64 q5), (.slice A7 (List.length (List.map stT d9)) c8), (.int .i64 a5), (.bool a6)], Yo A7 c8 d9, Q7 9 Qo u a0 s, Qw c5 142 #[(.int .i64 0), .nilFunc]]), ([0, 8], fun vs w => ∃ (b4 : Nat), ∃ (b5 : Nat), VL vs [(.map (some b4)), (pt b5 0)] ∧ SP S w0 w [Qw g1 72 #[(.int .i64 q2), (.int .i64 q3), (.int .i64 q4), (.int .i64 q5), (.slice A7 (List.length (List.map stT d9)) c8), (.int .i64 a5), (.bool a6)], Yo A7 c8 d9, Q7 9 Qo u a0 s, Ia b4 Hl, Qw b5 142 #[(.int .i64 0), .nilFunc]]), ([0, 8, 9], fun vs w => ∃ (d8 : Nat), ∃ (d2 : Nat), VL vs [(.map (some d8)), (pt d2 0), undef] ∧ SP S w0 w [Qw g1 72 #[(.int .i64 q2), (.int .i64 q3), (.int .i64 q4), (.int .i64 q5), (.slice A7 (List.length (List.map stT d9)) c8), (.int .i64 a5), (.bool a6)], Yo A7 c8 d9, Q7 9 Qo u a0 s, Ia d8 Hl, Qw d2 142 #[(.int .i64 0), .nilFunc]])] 11 4 ⟨trivial, SP.drew e4⟩ ?_ ?_
  iterate 11 refine And.intro ?_ ?_
  exact trivial
  ·refine Owe.heavy K [(0, 1), (2, 3)] K (Qb ⟨K, K, ?_⟩ (Qb ⟨K, K, ?_⟩ Q8))
   ·rintro ρ' w' hs q ⟨v5, m7⟩
    refine kN [] trivial fun a => ?_
    refine cF 91 #[] #[] 17 Tryz.call91 (Yg   w'  c7 c9) ?_
    rintro e v6 ⟨m8, rfl, f2⟩
    refine ⟨_, rfl, ?_⟩
    have m9 := SP.call m7 f2
    clear f2
    refine ⟨_, Qa a, trivial, ?_⟩
    exact (Exists.intro m8 (And.intro (And.intro rfl (trivial)) m9))
   ·rintro ρ' w' hs q ⟨c5, ⟨n0, -⟩, n1⟩
    refine kN [] trivial fun a => ?_
    refine cF 91 #[] #[] 17 Tryz.call91 (Yg   w'  c7 c9) ?_
    rintro e v7 ⟨n2, rfl, f3⟩
    refine ⟨_, rfl, ?_⟩
    have n3 := SP.call n1 f3
    clear f3
    refine ⟨_, Qa a, trivial, ?_⟩
    exact (Exists.intro n2 (Exists.intro c5 (And.intro (And.intro rfl (And.intro n0 (trivial))) (SP.sel n3 [0, 1, 2, 4, 3] rfl rfl))))
  ·exact oV (hC (hS 6 (.slice u (List.length s) a0)) (h0)) (.slice u (List.length s) a0)
  ·refine Owe.light K [0, 1, 2, 3] K (Qb ?_ (Qb ?_ (Qb ?_ (Qb ?_ Q8))))
   ·rintro ρ' w' hs q ⟨v8, n4⟩
    refine kM (kc (kA q 1 18) k0) fun a => ?_
    refine Ql (e := Qo) (l := s) (A := u) (c := a0) (T := 79) (E := 9) (x := (.tmp 18)) (ix := (.const (.int .i64 (0)))) (ki := .i64) (iz := 0) (d := (some 19)) (k := 2) K rfl K K K K (Vl (SP.get n4 (i := 2) rfl)) a3 a4 ?_
    intro n5 n6 n7 v9 hc632
    exact ⟨rfl, _, Qa a, ⟨n5, n6, n7, rfl⟩⟩
   ·rintro ρ' w' hs q ⟨b3, ⟨w1, -⟩, n8⟩
    refine kM (kc (kA q 1 18) k0) fun a => ?_
    refine Ql (e := Qo) (l := s) (A := u) (c := a0) (T := 79) (E := 9) (x := (.tmp 18)) (ix := (.const (.int .i64 (0)))) (ki := .i64) (iz := 0) (d := (some 19)) (k := 2) K rfl K K K K (Vl (SP.get n8 (i := 2) rfl)) a3 a4 ?_
    intro n9 o0 o1 w2 hc640
    exact ⟨rfl, _, Qa a, ⟨n9, o0, o1, rfl⟩⟩
   ·rintro ρ' w' hs q ⟨c5, ⟨w3, -⟩, o2⟩
    refine kM (kc (kA q 1 18) k0) fun a => ?_
    refine Ql (e := Qo) (l := s) (A := u) (c := a0) (T := 79) (E := 9) (x := (.tmp 18)) (ix := (.const (.int .i64 (0)))) (ki := .i64) (iz := 0) (d := (some 19)) (k := 2) K rfl K K K K (Vl (SP.get o2 (i := 2) rfl)) a3 a4 ?_
    intro o3 o4 o5 w4 hc648
    exact ⟨rfl, _, Qa a, ⟨o3, o4, o5, rfl⟩⟩
   ·rintro ρ' w' hs q ⟨b4, b5, ⟨w5, w6, -⟩, o6⟩
    refine kM (kc (kA q 1 18) k0) fun a => ?_
    refine Ql (e := Qo) (l := s) (A := u) (c := a0) (T := 79) (E := 9) (x := (.tmp 18)) (ix := (.const (.int .i64 (0)))) (ki := .i64) (iz := 0) (d := (some 19)) (k := 2) K rfl K K K K (Vl (SP.get o6 (i := 2) rfl)) a3 a4 ?_
    intro o7 o8 o9 w7 hc657
    exact ⟨rfl, _, Qa a, ⟨o7, o8, o9, rfl⟩⟩
  ·refine Owe.light K [0, 1, 2, 3] K (Qb ?_ (Qb ?_ (Qb ?_ (Qb ?_ Q8))))
   ·rintro ρ' w' hs q ⟨w8, p0⟩
    obtain ⟨p1, p2, p3, a7⟩ := q 2 19 K
    refine kM (kc a7 k0) fun a => ?_
    refine sC 9 19 p1 (p2 + Int.toNat 0 * Qo.sz) (.string ⟨List.toArray p⟩) 20 (Qy (e := Qo) (Qm (Vl (SP.get p0 (i := 2) rfl)) p3 a3 a4) b6 (j := 0) rfl) ?_
    exact eK a
   ·rintro ρ' w' hs q ⟨b3, ⟨w9, -⟩, p4⟩
    obtain ⟨p5, p6, p7, a7⟩ := q 2 19 K
    refine kM (kc a7 k0) fun a => ?_
    refine sC 9 19 p5 (p6 + Int.toNat 0 * Qo.sz) (.string ⟨List.toArray p⟩) 20 (Qy (e := Qo) (Qm (Vl (SP.get p4 (i := 2) rfl)) p7 a3 a4) b6 (j := 0) rfl) ?_
    exact eK a
   ·rintro ρ' w' hs q ⟨c5, ⟨x0, -⟩, p8⟩
    obtain ⟨p9, q0, q1, a7⟩ := q 2 19 K
    refine kM (kc a7 k0) fun a => ?_
    refine sC 9 19 p9 (q0 + Int.toNat 0 * Qo.sz) (.string ⟨List.toArray p⟩) 20 (Qy (e := Qo) (Qm (Vl (SP.get p8 (i := 2) rfl)) q1 a3 a4) b6 (j := 0) rfl) ?_
    exact eK a
   ·rintro ρ' w' hs q ⟨b4, b5, ⟨x1, x2, -⟩, q6⟩
    obtain ⟨q7, q8, q9, a7⟩ := q 2 19 K
    refine kM (kc a7 k0) fun a => ?_
    refine sC 9 19 q7 (q8 + Int.toNat 0 * Qo.sz) (.string ⟨List.toArray p⟩) 20 (Qy (e := Qo) (Qm (Vl (SP.get q6 (i := 2) rfl)) q9 a3 a4) b6 (j := 0) rfl) ?_
    exact eK a
  ·refine Owe.light K [1, 3] K (Qb ?_ (Qb ?_ Q8))
   ·rintro ρ' w' hs q ⟨b3, ⟨r0, -⟩, r1⟩
    refine kN [(17, (.map (some b3))), (20, (.string ⟨List.toArray p⟩))] ⟨(Vp (h := 0) K).symm.trans r0, q 3 20 K, trivial⟩ fun a => ?_
    refine Bv (T := 144) (kt := 9) (et := 142) (m := b3) (L := Hl) (k := (.string ⟨List.toArray p⟩)) (d := .string) (x := (.tmp 17)) (ix := (.tmp 20)) (dst := (some 21)) (o := 4) (v := (.agg #[(.int .i64 0), .nilFunc])) K rfl K K K K (fun _ => K) K (Hm b9) (SP.get r1 (i := 3) rfl) ?_
    exact eK a
   ·rintro ρ' w' hs q ⟨b4, b5, ⟨r2, x3, -⟩, r3⟩
    refine kN [(17, (.map (some b4))), (20, (.string ⟨List.toArray p⟩))] ⟨(Vp (h := 0) K).symm.trans r2, q 3 20 K, trivial⟩ fun a => ?_
    refine Bv (T := 144) (kt := 9) (et := 142) (m := b4) (L := Hl) (k := (.string ⟨List.toArray p⟩)) (d := .string) (x := (.tmp 17)) (ix := (.tmp 20)) (dst := (some 21)) (o := 4) (v := (.agg #[(.int .i64 0), .nilFunc])) K rfl K K K K (fun _ => K) K (Hm b9) (SP.get r3 (i := 3) rfl) ?_
    exact eK a
  ·exact oV (hC (hA 4 21) (h0)) (.tuple #[(.agg #[(.int .i64 0), .nilFunc]), (.bool false)])
  ·exact oV (hC (hA 5 16) (h0)) (.agg #[(.int .i64 0), .nilFunc])
  ·exact oV (hC (hA 5 16) (h0)) (.bool false)
  ·refine Owe.heavy K [(0, 2), (1, 3)] K (Qb ⟨K, K, ?_⟩ (Qb ⟨K, K, ?_⟩ Q8))
   ·rintro ρ' w' hs q ⟨x4, r4⟩
    refine kN [] trivial fun a => ?_
    refine Qi.alloc (t := 142) (z := (.agg #[(.int .i64 0), .nilFunc])) (d := (some 7)) (k := 8) K rfl K r4 ?_
    intro r5 x5 r6
    refine ⟨_, Qa a, trivial, ?_⟩
    exact (Exists.intro r5 (And.intro (And.intro rfl (trivial)) r6))
   ·rintro ρ' w' hs q ⟨b3, ⟨r7, -⟩, r8⟩
    refine kN [] trivial fun a => ?_
    refine Qi.alloc (t := 142) (z := (.agg #[(.int .i64 0), .nilFunc])) (d := (some 7)) (k := 8) K rfl K r8 ?_
    intro r9 x6 s0
    refine ⟨_, Qa a, trivial, ?_⟩
    exact (Exists.intro b3 (Exists.intro r9 (And.intro (And.intro r7 (And.intro rfl (trivial))) s0)))
  ·refine oH 3 4 ?_
   ·rintro ρ' w' hs q ⟨b4, b5, ⟨s1, f4, -⟩, s2⟩
    refine kN [(7, (pt b5 0)), (22, (.agg #[(.int .i64 0), .nilFunc]))] ⟨(Vp (h := 8) K).symm.trans f4, q 6 22 K, trivial⟩ fun a => ?_
    refine Qi.store (t := 142) (x := (.tmp 7)) (y := (.tmp 22)) (g := b5) (off := 0) (i := 4) (v := (.agg #[(.int .i64 0), .nilFunc])) (cs' := #[(.int .i64 0), .nilFunc]) (d := none) (k := 9) K rfl K K s2 rfl K ?_
    intro x7 s3
    refine ⟨_, Qa a, trivial, ?_⟩
    exact (Exists.intro b4 (Exists.intro b5 (And.intro (And.intro s1 (And.intro f4 (And.intro rfl (trivial)))) s3)))
  ·exact oV (hC (hA 7 23) (h0)) (.bool false)
  ·rintro ρ' w' hs hf ⟨d8, d2, ⟨x8, s4, x9, -⟩, f5⟩
   refine V7 [(0, (pt g1 0)), (5, (.bool a2.2)), (6, (.slice u (List.length s) a0)), (7, (pt d2 0)), (8, (.bool false))] ⟨(hs 0 K).trans K, (hs 5 K).trans K, (hs 6 K).trans K, (Vp (h := 8) K).symm.trans s4, hf 10 8 K, trivial⟩ ?_
   obtain ⟨y0, s5⟩ : ∃ x, w' = x := ⟨_, rfl⟩
   rw [s5] at f5 ⊢
   refine aQ ?_
   refine aQ ?_
   refine aR ?_
   refine iR 13 13 [(24, (.bool false)), (25, (.bool true)), (26, (.bool true)), (27, undef), (28, undef), (29, (.bool true)), (30, (.bool true)), (31, undef), (32, undef), (33, undef), (34, undef), (35, undef), (36, (.bool true))] ?_
   refine iF ?_
   refine Xe K (o := (.tmp 36)) K (b := true) K (fun f6 => ?_) (fun f6 => ?_)
   rotate_left
   ·cases f6
   refine aQ ?_
   refine aR ?_
   refine iR 1 1 [(4, (.bool false))] ?_
   refine iF ?_
   refine At.ret K ?_
   refine ⟨(.bool false), K, ?_⟩
   obtain rfl := Qf H
   exact ⟨A7, c8, d9, rfl, rfl, SP.sel f5 [0,1] rfl rfl⟩
end Go.Proofs.YtoflbpmbkmephaaGreatDoor
namespace Go.Proofs.YtoflbpmbkmephaaGreatDoor
open Go.RowKit
def DeepR (Q : World → Prop) (E : Ent) (A : Option Addr) (c : Nat) (l : List Qe) : Prop := ∃ d : List Qx, l = List.map stT d ∧ ∀ w, Q w → E.ok w → (dDS Zh H0).ok w (A, c, d)
section
variable {S : List Nat} {w w' w0 : World} {es : List Ent} {Q Q' : World → Prop} {E E' e1 e2 : Ent} {A : Option Addr} {c : Nat} {l : List Qe} {d : List Qx} {i j : Nat} {T : TypeId}
theorem DeepR.nil (Q : World → Prop) (E : Ent) : DeepR Q E none 0 [] := ⟨[], rfl, fun w _ _ => ds_nil Zh H0 w⟩
end
section
variable {α : Type} {e : Enc α} {p : Dp α} {w w0 : World} {Q : World → Prop} {A : Option Addr} {c : Nat} {l m : List α}
end
section
variable {α γ : Type} {P : Program} {n : Nat} {ρ : Fr} {w w0 : World} {B : Code} {p : List Bool} {k : Nat} {K : Fr → World → Prop} {S : List Nat} {es : List Ent} {d : Option Nat} {e : Enc α} {A A2 : Option Addr} {c c2 i b : Nat} {l m : List α}
end
end Go.Proofs.YtoflbpmbkmephaaGreatDoor
namespace Go.Proofs.YtoflbpmbkmephaaGreatDoor
open Go.RowKit
abbrev Nj := Int × Int × Int × Int × List Qe
def okC (c : Nj) : Bool := cfgOk c.1 c.2.1 c.2.2.1 c.2.2.2.1 c.2.2.2.2
def c0C : Nj := (0, 0, 0, 0, [])
def putT (c : Nj) (l : List Qe) : Nj := (c.1, c.2.1, c.2.2.1, c.2.2.2.1, l)
def Cw (t : Qe) (n : H1) : Qe := (t.1, t.2.1, t.2.2.1, t.2.2.2.1 ++ [n], t.2.2.2.2)
def Cx (t : Qe) (x : Fa) : Qe := (t.1, t.2.1, t.2.2.1, t.2.2.2.1, t.2.2.2.2 ++ [x])
def U7 (c : Nj) (k : Str) (q : List Str) : Option Nj :=
  if k = Za then match q with
    | [a, b, d, e] => (Vw a).bind fun (n1 : Nat) => (Vw b).bind fun (n2 : Nat) => (Vw d).bind fun (n3 : Nat) => (Vw e).map fun (n4 : Nat) => ((n1 : Int), (n2 : Int), (n3 : Int), (n4 : Int), [])
    | _ => none
  else if k = Zz then match q with
    | [a, b, d] => (Vw b).bind fun (n : Nat) => (Vw d).map fun (m : Nat) => putT c (c.2.2.2.2 ++ [(a, (n : Int), (m : Int), [], [])])
    | _ => none
  else if k = N9 then match q with
    | [a] => c.2.2.2.2.getLast?.bind fun t => if t.2.2.2.2 = [] then (netL a).map fun n => putT c (c.2.2.2.2.dropLast ++ [Cw t ((n.1 : Int), (n.2 : Int))]) else none
    | _ => none
  else if k = Y7 then match q with
    | [a, b, d] => c.2.2.2.2.getLast?.bind fun t => (Un b).bind fun x => (Vw d).map fun (n : Nat) => putT c (c.2.2.2.2.dropLast ++ [Cx t (a, x, (n : Int))])
    | _ => none
  else none
def BndT (k : Nat) (t : Qe) : Prop := t.1.length ≤ 5000 ∧ t.2.2.2.1.length ≤ k + 4 ∧ t.2.2.2.2.length ≤ k + 4 ∧ (∀ n ∈ t.2.2.2.1, 0 ≤ n.1 ∧ n.1 < 4294967296) ∧ ∀ x ∈ t.2.2.2.2, x.1.length ≤ 5000 ∧ x.2.1.length ≤ 5000
def Hn (k : Nat) (c : Nj) : Prop := c.2.2.2.2.length ≤ k + 8 ∧ ∀ t ∈ c.2.2.2.2, BndT k t
theorem bnd_tenQ {t : Qe} (h : BndT 1 t) : TenQ t := ⟨by have := h.1; omega, by have := h.2.1; omega, by have := h.2.2.1; omega, h.2.2.2.1, fun x hx => ⟨by have := (h.2.2.2.2 x hx).1; omega, by have := (h.2.2.2.2 x hx).2; omega⟩⟩
theorem bnd_le {t : Qe} (h : BndT 0 t) : BndT 1 t := ⟨h.1, by have := h.2.1; omega, by have := h.2.2.1; omega, h.2.2.2⟩
theorem okC_bnd {c : Nj} (h : Hn 1 c) (ho : okC c = true) : Hn 0 c := by
  unfold okC cfgOk at ho
  simp only [Bool.and_eq_true, decide_eq_true_eq, List.all_eq_true] at ho
  obtain ⟨_, h1, h2, _⟩ := ho
  refine ⟨by omega, fun t ht => ?_⟩
  have h3 := h2 t ht
  unfold F5 at h3
  simp only [Bool.and_eq_true, decide_eq_true_eq] at h3
  obtain ⟨_, ⟨_, h4, h5⟩, _⟩ := h3
  obtain ⟨b1, b2, b3, b4⟩ := h.2 t ht
  exact ⟨b1, by omega, by omega, b4⟩
theorem pCfg {c : Nj} (h : Hn 1 c) : Zy c.1 c.2.1 c.2.2.1 c.2.2.2.1 c.2.2.2.2 = some (okC c) := lCfg _ _ _ _ _ (by have := h.1; omega) fun t ht => bnd_tenQ (h.2 t ht)
theorem Ha {l : List Qe} {t : Qe} (h : l.getLast? = some t) : l = l.dropLast ++ [t] := by
  have hne : l ≠ [] := fun e => by rw [e] at h; cases h
  rw [List.getLast?_eq_some_getLast hne] at h
  injection h with h
  rw [← h]
  exact (List.dropLast_concat_getLast hne).symm
theorem netL_rng {a : Str} {n : Nat × Nat} (h : netL a = some n) : (n.1 : Int) < 4294967296 := by
  obtain ⟨x, y⟩ := n
  have := (Fe h).2.2
  show (x : Int) < _
  omega
theorem Ho {c c' : Nj} {k : Str} {q : List Str} (h : Hn 0 c) (hq : ∀ w ∈ q, w.length ≤ 5000) (hw : U7 c k q = some c') : Hn 1 c' := by
  unfold U7 at hw
  have up : ∀ t ∈ c.2.2.2.2, BndT 1 t := fun t ht => bnd_le (h.2 t ht)
  have dl : ∀ (t t' : Qe), c.2.2.2.2.getLast? = some t → BndT 1 t' → Hn 1 (putT c (c.2.2.2.2.dropLast ++ [t'])) := by
    intro t t' ht ht'
    refine ⟨by have := h.1; simp [putT]; omega, fun y hy => ?_⟩
    rcases List.mem_append.1 hy with hy | hy
    · exact up y (List.dropLast_subset _ hy)
    · rw [List.mem_singleton] at hy
      subst hy
      exact ht'
  split at hw
  · split at hw
    · simp only [Option.bind_eq_some_iff, Option.map_eq_some_iff] at hw
      obtain ⟨_, _, _, _, _, _, _, _, rfl⟩ := hw
      exact ⟨Nat.zero_le _, fun t ht => by cases ht⟩
    · cases hw
  · split at hw
    · split at hw
      · simp only [Option.bind_eq_some_iff, Option.map_eq_some_iff] at hw
        obtain ⟨_, _, _, _, rfl⟩ := hw
        refine ⟨by have := h.1; simp [putT]; omega, fun t ht => ?_⟩
        rcases List.mem_append.1 ht with ht | ht
        · exact up t ht
        · rw [List.mem_singleton] at ht
          subst ht
          exact ⟨hq _ (by simp), Nat.zero_le _, Nat.zero_le _, fun n hn => (by cases hn), fun x hx => (by cases hx)⟩
      · cases hw
    · split at hw
      · split at hw
        · simp only [Option.bind_eq_some_iff] at hw
          obtain ⟨t, ht, hw⟩ := hw
          split at hw
          · simp only [Option.map_eq_some_iff] at hw
            obtain ⟨n, hn, rfl⟩ := hw
            obtain ⟨b1, b2, b3, b4, b5⟩ := h.2 t (List.mem_of_getLast? ht)
            refine dl t _ ht ⟨b1, by simp [Cw]; omega, by simp only [Cw]; omega, fun y hy => ?_, b5⟩
            rcases List.mem_append.1 hy with hy | hy
            · exact b4 y hy
            · rw [List.mem_singleton] at hy
              subst hy
              exact ⟨by simp, netL_rng hn⟩
          · cases hw
        · cases hw
      · split at hw
        · split at hw
          · simp only [Option.bind_eq_some_iff, Option.map_eq_some_iff] at hw
            obtain ⟨t, ht, x, hx, n, hn, rfl⟩ := hw
            obtain ⟨b1, b2, b3, b4, b5⟩ := h.2 t (List.mem_of_getLast? ht)
            refine dl t _ ht ⟨b1, by simp only [Cx]; omega, by simp [Cx]; omega, b4, fun y hy => ?_⟩
            rcases List.mem_append.1 hy with hy | hy
            · exact b5 y hy
            · rw [List.mem_singleton] at hy
              subst hy
              refine ⟨hq _ (by simp), ?_⟩
              have h1 := Ct hx
              rename_i a b d
              have h3 := hq b (by simp)
              show x.length ≤ 5000
              omega
          · cases hw
        · cases hw
theorem idx_last {l : List Qe} {t : Qe} (hl : l.length ≤ 9000) (h : l.getLast? = some t) : idx l (IntKind.wrap .i64 (((List.length l : Nat) : Int) - 1)) = some t := by
  have hne : l ≠ [] := fun e => by rw [e] at h; cases h
  have hp := List.length_pos_iff.2 hne
  rw [show (((List.length l : Nat) : Int) - 1) = ((l.length - 1 : Nat) : Int) by omega, G6 (by omega), Rn, ← List.getLast?_eq_getElem?, h]
end Go.Proofs.YtoflbpmbkmephaaGreatDoor
namespace Go.Proofs.YtoflbpmbkmephaaGreatDoor
open Go.RowKit
def Ek (c : Nj) (first : Bool) (ws : List Str) : Option Nj := match ws with
  | [] => none
  | k :: q => if (k == Za) == first then (U7 c k q).filter okC else none
theorem Fg (q2 q3 q4 q5 q7 : Int) (q8 : Bool) (p : Str) (hp : p.length ≤ 9000) : Vd q2 q3 q4 q5 q7 q8 p = some ((U0 (Vw p)).1, q2, q3, q4, q5, q7, q8 || !(U0 (Vw p)).2) := by
  unfold Vd Zv
  rw [lParse p (by omega), Option.bind_some]
  cases q8 <;> rfl
def ResP (r : Option Nj) (many : Nat) (z : Int × Int × Int × Int × List Qe × Int × Bool) : Prop := match r with
  | some c => z = (c.1, c.2.1, c.2.2.1, c.2.2.2.1, c.2.2.2.2, (many : Int), false)
  | none => z.2.2.2.2.2.2 = true
theorem Cy {β : Type} {l : List Qe} {t : Qe} (f : List Qe → Qe → List Qe → Option β) (h : l.getLast? = some t) : Ic l f = f l.dropLast t l := by
  unfold Ic lastT
  rw [h]
  rfl
theorem Hp (c : Nj) {t : Qe} (m : Int) (b : Bool) (hl : c.2.2.2.2.length ≤ 9000) (h : c.2.2.2.2.getLast? = some t) : Zg c.1 c.2.1 c.2.2.1 c.2.2.2.1 c.2.2.2.2 m b = some () := by
  have hne : c.2.2.2.2 ≠ [] := fun e => by rw [e] at h; cases h
  have hp := List.length_pos_iff.2 hne
  unfold Zg
  rw [show (((List.length c.2.2.2.2 : Nat) : Int) == 0) = false by rw [beq_eq_false_iff_ne]; omega, cond_false, idx_last hl h]
  rfl
theorem Hb (c : Nj) (a b d e : Str) : U7 c Za [a, b, d, e] = (Vw a).bind fun (n1 : Nat) => (Vw b).bind fun (n2 : Nat) => (Vw d).bind fun (n3 : Nat) => (Vw e).map fun (n4 : Nat) => ((n1 : Int), (n2 : Int), (n3 : Int), (n4 : Int), []) := by
  unfold U7
  rw [if_pos rfl]
theorem Fh (c : Nj) (a b d : Str) : U7 c Zz [a, b, d] = (Vw b).bind fun (n : Nat) => (Vw d).map fun (m : Nat) => putT c (c.2.2.2.2 ++ [(a, (n : Int), (m : Int), [], [])]) := by
  unfold U7
  rw [if_neg (by decide), if_pos rfl]
theorem withC_net (c : Nj) (a : Str) : U7 c N9 [a] = c.2.2.2.2.getLast?.bind fun t => if t.2.2.2.2 = [] then (netL a).map fun n => putT c (c.2.2.2.2.dropLast ++ [Cw t ((n.1 : Int), (n.2 : Int))]) else none := by
  unfold U7
  rw [if_neg (by decide), if_neg (by decide), if_pos rfl]
theorem Hc (c : Nj) (a b d : Str) : U7 c Y7 [a, b, d] = c.2.2.2.2.getLast?.bind fun t => (Un b).bind fun x => (Vw d).map fun (n : Nat) => putT c (c.2.2.2.2.dropLast ++ [Cx t (a, x, (n : Int))]) := by
  unfold U7
  rw [if_neg (by decide), if_neg (by decide), if_neg (by decide), if_pos rfl]
theorem pRead (c : Nj) (many : Nat) (k : Str) (q : List Str) (hc : Hn 0 c) (hm : many = 0 → c = c0C) (hk : cin k = true) (hlen : ((List.length (k :: q) : Nat) : Int) = Uo k) (hw : ∀ w ∈ q, w.length ≤ 5000) :
    ∃ z, By k c.1 c.2.1 c.2.2.1 c.2.2.2.1 c.2.2.2.2 (many : Int) false (k :: q) = some z ∧ ResP (if k = Za ∧ many ≠ 0 then none else U7 c k q) many z := by
  have hw' : ∀ w ∈ q, w.length ≤ 9000 := fun w h => by have := hw w h; omega
  have hcl : c.2.2.2.2.length ≤ 9000 := by have := hc.1; omega
  unfold By
  rcases Bx hk with rfl | rfl | rfl | rfl
  ·
    have h5 : q.length = 4 := by rw [List.length_cons, show Uo Za = 5 from rfl] at hlen; omega
    obtain ⟨a, b, d, e, rfl⟩ : ∃ a b d e, q = [a, b, d, e] := by
      match q, h5 with
      | [a, b, d, e], _ => exact ⟨a, b, d, e, rfl⟩
    rw [show (Za == Za) = true from rfl, cond_true]
    unfold X1
    rw [show idx [Za, a, b, d, e] 1 = some a from rfl, Option.bind_some, Fg _ _ _ _ _ _ _ (hw' a (by simp)), Option.bind_some, show idx [Za, a, b, d, e] 2 = some b from rfl, Option.bind_some, Fg _ _ _ _ _ _ _ (hw' b (by simp)), Option.bind_some, show idx [Za, a, b, d, e] 3 = some d from rfl, Option.bind_some, Fg _ _ _ _ _ _ _ (hw' d (by simp)), Option.bind_some, show idx [Za, a, b, d, e] 4 = some e from rfl, Option.bind_some, Fg _ _ _ _ _ _ _ (hw' e (by simp)), Option.bind_some, Option.bind_some]
    refine ⟨_, rfl, ?_⟩
    by_cases h0 : many = 0
    · rw [if_neg (fun h => h.2 h0), hm h0]
      subst h0
      rw [Hb]
      cases Vw a with
      | none => exact (by simp [ResP, U0])
      | some n1 =>
        cases Vw b with
        | none => exact (by simp [ResP, U0])
        | some n2 =>
          cases Vw d with
          | none => exact (by simp [ResP, U0])
          | some n3 =>
            cases Vw e with
            | none => exact (by simp [ResP, U0])
            | some n4 => rfl
    · rw [if_pos ⟨rfl, h0⟩, show decide ((many : Int) > 0) = true from decide_eq_true (by omega)]
      simp [ResP]
  ·
    have h5 : q.length = 3 := by rw [List.length_cons, show Uo Zz = 4 from rfl] at hlen; omega
    obtain ⟨a, b, d, rfl⟩ : ∃ a b d, q = [a, b, d] := by
      match q, h5 with
      | [a, b, d], _ => exact ⟨a, b, d, rfl⟩
    rw [show (Zz == Za) = false from rfl, cond_false, show (Zz == Zz) = true from rfl, cond_true, if_neg (fun h => absurd h.1 (by decide))]
    rw [Fh]
    unfold Xq
    rw [show idx [Zz, a, b, d] 1 = some a from rfl, Option.bind_some, show idx [Zz, a, b, d] 2 = some b from rfl, Option.bind_some, Fg _ _ _ _ _ _ _ (hw' b (by simp)), Option.bind_some, show idx [Zz, a, b, d] 3 = some d from rfl, Option.bind_some, Fg _ _ _ _ _ _ _ (hw' d (by simp)), Option.bind_some, Bl (by simp; omega), Option.bind_some]
    refine ⟨_, rfl, ?_⟩
    cases Vw b with
    | none => exact (by simp [ResP, U0])
    | some n =>
      cases Vw d with
      | none => exact (by simp [ResP, U0])
      | some m => rfl
  ·
    have h5 : q.length = 1 := by rw [List.length_cons, show Uo N9 = 2 from rfl] at hlen; omega
    obtain ⟨a, rfl⟩ : ∃ a, q = [a] := by
      match q, h5 with
      | [a], _ => exact ⟨a, rfl⟩
    rw [show (N9 == Za) = false from rfl, cond_false, show (N9 == Zz) = false from rfl, cond_false, show (N9 == N9) = true from rfl, cond_true, if_neg (fun h => absurd h.1 (by decide))]
    rw [withC_net]
    unfold Yf
    rw [show idx [N9, a] 1 = some a from rfl, Option.bind_some, lNet a (hw' a (by simp)), Option.bind_some]
    cases ht : c.2.2.2.2.getLast? with
    | none =>
      have h0 : c.2.2.2.2 = [] := List.getLast?_eq_none_iff.1 ht
      rw [h0]
      exact ⟨_, rfl, rfl⟩
    | some t =>
      have hne : c.2.2.2.2 ≠ [] := fun e => by rw [e] at ht; cases ht
      obtain ⟨b1, b2, b3, b4, b5⟩ := hc.2 t (List.mem_of_getLast? ht)
      rw [show List.isEmpty c.2.2.2.2 = false by rw [List.isEmpty_eq_false_iff]; exact hne, cond_false, Hp c _ _ hcl ht, Option.bind_some, Cy _ ht]
      unfold V6
      rw [Bl (by simp; omega)]
      simp only [Option.bind_some, cond_false]
      cases netL a with
      | none => exact ⟨_, rfl, by split <;> rfl⟩
      | some n =>
        by_cases h6 : t.2.2.2.2 = []
        · rw [if_pos h6, show decide (((List.length t.2.2.2.2 : Nat) : Int) > 0) = false by rw [h6]; rfl]
          exact ⟨_, rfl, rfl⟩
        · rw [if_neg h6, show decide (((List.length t.2.2.2.2 : Nat) : Int) > 0) = true from decide_eq_true (by have := List.length_pos_iff.2 h6; omega)]
          exact ⟨_, rfl, rfl⟩
  ·
    have h5 : q.length = 3 := by rw [List.length_cons, show Uo Y7 = 4 from rfl] at hlen; omega
    obtain ⟨a, b, d, rfl⟩ : ∃ a b d, q = [a, b, d] := by
      match q, h5 with
      | [a, b, d], _ => exact ⟨a, b, d, rfl⟩
    rw [show (Y7 == Za) = false from rfl, cond_false, show (Y7 == Zz) = false from rfl, cond_false, show (Y7 == N9) = false from rfl, cond_false, if_neg (fun h => absurd h.1 (by decide))]
    rw [Hc]
    unfold X2
    rw [show idx [Y7, a, b, d] 2 = some b from rfl, Option.bind_some, H9 b (by have := hw' b (by simp); omega), Option.bind_some, cond_false]
    cases ht : c.2.2.2.2.getLast? with
    | none =>
      have h0 : c.2.2.2.2 = [] := List.getLast?_eq_none_iff.1 ht
      unfold Vz Z4
      rw [h0]
      simp only [List.isEmpty_nil, cond_true, List.length_nil, Option.bind_some]
      rw [show (((0 : Nat) : Int) == 0) = true from rfl, cond_true, Option.bind_some, show idx [Y7, a, b, d] 1 = some a from rfl, Option.bind_some, show idx [Y7, a, b, d] 3 = some d from rfl, Option.bind_some, Fg _ _ _ _ _ _ _ (hw' d (by simp)), Option.bind_some, Bl (by simp), Option.bind_some]
      exact ⟨_, rfl, rfl⟩
    | some t =>
      have hne : c.2.2.2.2 ≠ [] := fun e => by rw [e] at ht; cases ht
      obtain ⟨b1, b2, b3, b4, b5⟩ := hc.2 t (List.mem_of_getLast? ht)
      unfold Vz
      rw [show List.isEmpty c.2.2.2.2 = false by rw [List.isEmpty_eq_false_iff]; exact hne, cond_false, Hp c _ _ hcl ht, Option.bind_some, Cy _ ht, show idx [Y7, a, b, d] 1 = some a from rfl, Option.bind_some, show idx [Y7, a, b, d] 3 = some d from rfl, Option.bind_some, Fg _ _ _ _ _ _ _ (hw' d (by simp)), Option.bind_some, Bl (by simp; omega), Option.bind_some]
      refine ⟨_, rfl, ?_⟩
      cases Un b with
      | none => exact (by simp [ResP, unhexD])
      | some x =>
        cases Vw d with
        | none => exact (by simp [ResP, unhexD, U0])
        | some n => rfl
theorem cin_not {k : Str} (h : cin k = false) (c : Nj) (q : List Str) : U7 c k q = none := by
  unfold cin at h
  rw [Bool.or_eq_false_iff, Bool.or_eq_false_iff, Bool.or_eq_false_iff] at h
  obtain ⟨h1, h2, h3, h4⟩ := h
  unfold U7
  rw [if_neg (by simpa using h1), if_neg (by simpa using h2), if_neg (by simpa using h3), if_neg (by simpa using h4)]
theorem len_not {k : Str} (hk : cin k = true) {q : List Str} (h : ((List.length (k :: q) : Nat) : Int) ≠ Uo k) (c : Nj) : U7 c k q = none := by
  unfold U7
  rcases Bx hk with rfl | rfl | rfl | rfl
  · rw [if_pos rfl]
    split
    · exact absurd rfl h
    · rfl
  · rw [if_neg (by decide), if_pos rfl]
    split
    · exact absurd rfl h
    · rfl
  · rw [if_neg (by decide), if_neg (by decide), if_pos rfl]
    split
    · exact absurd rfl h
    · rfl
  · rw [if_neg (by decide), if_neg (by decide), if_neg (by decide), if_pos rfl]
    split
    · exact absurd rfl h
    · rfl
theorem first_not {k : Str} {q : List Str} {c' : Nj} (hk : k ≠ Za) (h : U7 c0C k q = some c') : okC c' = false := by
  have hz : c'.1 = 0 := by
    unfold U7 at h
    rw [if_neg hk] at h
    split at h
    · split at h
      · simp only [Option.bind_eq_some_iff, Option.map_eq_some_iff] at h
        obtain ⟨_, _, _, _, rfl⟩ := h
        rfl
      · cases h
    · split at h
      · split at h <;> cases h
      · split at h
        · split at h <;> cases h
        · cases h
  unfold okC cfgOk
  rw [hz, show Gv 0 = false from rfl, Bool.false_and, Bool.false_and]
def ResL (r : Option Nj) (many : Nat) (z : Bool × Int × Int × Int × Int × List Qe × Int × Bool) : Prop := match r with
  | some c => z = (true, c.1, c.2.1, c.2.2.1, c.2.2.2.1, c.2.2.2.2, ((many + 1 : Nat) : Int), false)
  | none => z.1 = false
theorem pLineB (c : Nj) (many : Nat) (p : Str) (hc : Hn 0 c) (hm : many = 0 → c = c0C) (hmm : many ≤ 1000000) (hp : p.length ≤ 5000) :
    ∃ z, V4 c.1 c.2.1 c.2.2.1 c.2.2.2.1 c.2.2.2.2 (many : Int) false (p ++ [10]) = some z ∧ ResL (Ek c (decide (many = 0)) (Qk 32 p)) many z := by
  have hl := Jl 32 p
  unfold V4
  rw [lSfx 10 (p ++ [10]) (by simp; omega), Option.bind_some, show sfx 10 (p ++ [10]) = (p, true) by simp [sfx], lSplit p 32 (by omega), Option.bind_some, show Jg = some () from rfl, Option.bind_some]
  cases hs : Qk 32 p with
  | nil => exact absurd hs (Xm 32 p)
  | cons k q =>
    rw [hs] at hl
    rw [show idx (k :: q) 0 = some k from rfl, Option.bind_some]
    show ∃ z, _ ∧ ResL (if (k == Za) == decide (many = 0) then (U7 c k q).filter okC else none) many z
    cases hk : cin k with
    | false =>
      rw [cond_false, cin_not hk]
      refine ⟨_, rfl, ?_⟩
      split <;> rfl
    | true =>
      rw [cond_true]
      simp only [Bool.not_true, cond_false]
      by_cases hlen : ((List.length (k :: q) : Nat) : Int) = Uo k
      · rw [show (((List.length (k :: q) : Nat) : Int) != Uo k) = false by rw [bne_eq_false_iff_eq]; exact hlen]
        unfold Zq
        rw [cond_false]
        have hq : ∀ w ∈ q, w.length ≤ 5000 := fun w h => Nat.le_trans (hl w (by simp [h])) hp
        obtain ⟨z, hz, hr⟩ := pRead c many k q hc hm hk hlen hq
        rw [hz, Option.bind_some, Option.bind_some]
        unfold Zp
        by_cases hb : k = Za ∧ many ≠ 0
        · rw [if_pos hb] at hr
          have hr : z.2.2.2.2.2.2 = true := hr
          rw [hr, if_neg (by simp [hb.1, hb.2])]
          exact ⟨_, rfl, rfl⟩
        · rw [if_neg hb] at hr
          cases hw : U7 c k q with
          | none =>
            rw [hw] at hr
            have hr : z.2.2.2.2.2.2 = true := hr
            rw [hr]
            refine ⟨_, rfl, ?_⟩
            split <;> rfl
          | some c' =>
            rw [hw] at hr
            have hr : z = (c'.1, c'.2.1, c'.2.2.1, c'.2.2.2.1, c'.2.2.2.2, (many : Int), false) := hr
            subst hr
            have hbn := Ho hc hq hw
            simp only [Bool.not_false, cond_true]
            rw [pCfg hbn, Option.bind_some, show ((many : Int) + 1) = ((many + 1 : Nat) : Int) by omega, G6 (by omega)]
            refine ⟨_, rfl, ?_⟩
            by_cases hf : ((k == Za) == decide (many = 0)) = true
            · rw [if_pos hf]
              cases ho : okC c' with
              | false => rw [Option.filter_some_neg (by simp [ho])]; first | done | rfl
              | true => rw [Option.filter_some_pos ho]; rfl
            · rw [if_neg hf]
              have h0 : many = 0 ∧ k ≠ Za := by
                by_cases h0 : many = 0
                · refine ⟨h0, fun e => hf (by rw [e, decide_eq_true h0]; rfl)⟩
                · refine absurd ?_ hf
                  rw [decide_eq_false h0, beq_eq_false_iff_ne.2 (fun e => hb ⟨e, h0⟩)]
                  rfl
              rw [hm h0.1] at hw
              exact first_not h0.2 hw
      · rw [show (((List.length (k :: q) : Nat) : Int) != Uo k) = true by rw [bne_iff_ne]; exact hlen, len_not hk hlen]
        refine ⟨_, rfl, ?_⟩
        split <;> rfl
theorem pLineE (c : Nj) (many : Int) (p : Str) (hp : p.length ≤ 5000) (h10 : p.getLast? ≠ some 10) : ∃ z, V4 c.1 c.2.1 c.2.2.1 c.2.2.2.1 c.2.2.2.2 many false p = some z ∧ z.1 = false := by
  unfold V4
  rw [lSfx 10 p (by omega), Option.bind_some, show sfx 10 p = (p, false) by simp [sfx, h10], lSplit p 32 (by omega), Option.bind_some, show Jg = some () from rfl, Option.bind_some]
  cases hs : Qk 32 p with
  | nil => exact absurd hs (Xm 32 p)
  | cons k q =>
    rw [show idx (k :: q) 0 = some k from rfl, Option.bind_some]
    cases cin k with
    | false => exact ⟨_, rfl, rfl⟩
    | true => exact ⟨_, rfl, rfl⟩
end Go.Proofs.YtoflbpmbkmephaaGreatDoor
namespace Go.Proofs.YtoflbpmbkmephaaGreatDoor
open Go.RowKit Go.Shelf
attribute [local go_sem] Oper.semAt_some
def bodyKeep {α : Type} (K : List Nat) (I : List α → World → Prop) (Ix : Code → List α → World → Prop) (xs : List α) (W : World) : Exit → Act → World → Prop
  | .normal, _, W' => (∀ k ∈ K, W'.heap[k]? = W.heap[k]?) ∧ I xs W'
  | .ret, _, W' => (∀ k ∈ K, W'.heap[k]? = W.heap[k]?) ∧ Ix .ret xs W'
  | .exit id, _, W' => (∀ k ∈ K, W'.heap[k]? = W.heap[k]?) ∧ Ix (.exit id) xs W'
  | .goto t, _, W' => (∀ k ∈ K, W'.heap[k]? = W.heap[k]?) ∧ Ix (.goto t) xs W'
  | _, _, _ => False
def SeqKeep {α : Type} (P : Program) (m gf : Nat) (lb : Array Value) (encs : α → Array Value) (T : List Nat) (S : List α) (w : World) : Prop :=
  ∀ (l : Nat) (J Jx : List α → World → Prop) (W : World),
    (∀ pre W1 k (v : Value), k ∈ T → J pre W1 → J pre (W1.setCell ⟨k, 0, none⟩ v)) → (∀ pre W1, J pre W1 → J pre W1.drew) →
    (∀ pre x W1, J pre W1 → (∃ q, pre ++ x :: q = S) → YieldAt Fence.wide (m - 1) P l (encs x) W1 fun e W' =>
      (e = .returned (.bool true) ∧ J (pre ++ [x]) W' ∧ ∀ k ∈ T, W'.heap[k]? = W1.heap[k]?) ∨ (e = .returned (.bool false) ∧ Jx (pre ++ [x]) W')) →
    (∀ k ∈ T, W.heap[k]? = w.heap[k]?) → J [] W →
    CallsIn Fence.wide m P gf (#[.func (.yield l) #[] #[]] ++ lb) W fun e W' => (∃ v, e = .returned v) ∧ (J S W' ∨ ∃ pre, pre <+: S ∧ Jx pre W')
theorem Id {α : Type} {P : Program} {g : Operand} {ps : Array Tmp} {assign body : Code} {Q : Exit → Act → World → Prop} {a : Act} {w : World} {m gf : Nat} {lb : Array Value}
    (hg : a.eval g = .func (.func gf) #[] lb) (eg : ∀ args w, (callFunc gf args).run P w = .ok (.enter gf args) w) {encs : α → Array Value} (hps : ∀ x, (encs x).size = ps.size)
    (T : List Nat) (hT : ∀ k ∈ T, k < w.heap.size) {S : List α} (iter : SeqKeep P (m - 1) gf lb encs T S w)
    (I : List α → World → Prop) (Ix : Code → List α → World → Prop) (hI : ∀ xs W W', I xs W → Mod (T ++ [w.heap.size, w.heap.size + 1]) W W' → I xs W') (hIx : ∀ c xs W W', Ix c xs W → Mod (T ++ [w.heap.size, w.heap.size + 1]) W W' → Ix c xs W')
    (h0 : I [] w) (a₁ : α → Act)
    (hassign : ∀ (l : Nat) (x : α) (W : World) (K : Act → World → Prop), K (a₁ x) W →
      assign.wpIn (Fence.wide.inRound l) (m - 1 - 1) P (Exit.then K (fun _ _ _ => False)) { tmps := (ps.zip (encs x)).foldl (fun t (p, v) => t.setIfInBounds p v) a.tmps, defers := [] } W)
    (hbody : ∀ (l : Nat) (pre : List α) (x : α) (W : World), I pre W → w.heap.size + 2 ≤ W.heap.size → (∃ q, pre ++ x :: q = S) → body.wpIn (Fence.wide.inRound l) (m - 1 - 1) P (bodyKeep (T ++ [w.heap.size, w.heap.size + 1]) I Ix (pre ++ [x]) W) (a₁ x) W)
    (hdone : ∀ (W : World), I S W → W.heap[w.heap.size]? = some (.deferred (some [])) → Q .normal { a with defers := { target := .collected w.heap.size, args := #[] } :: a.defers } W)
    (hstop : ∀ (c : Code) (pre : List α) (W : World), pre <+: S → Ix c pre W → W.heap[w.heap.size]? = some (.deferred (some [])) → c.wpIn Fence.wide m P Q { a with defers := { target := .collected w.heap.size, args := #[] } :: a.defers } W) :
    (Code.rangeFunc g ps assign body).wpIn Fence.wide m P Q a w := by
  refine wpIn_rangeFunc fun fn _ => ?_
  have hnT : ∀ j, w.heap.size ≤ j → j ∉ T := fun j hj hm => by have := hT j hm; omega
  generalize hrec : (fun st pe => ({ state := st, pending := pe, fn, tmps := a.tmps, params := ps, assign, body, defers := w.heap.size } : Loop)) = rec
  have hr1 : ∀ st pe, (rec st pe).state = st := fun st pe => by rw [← hrec]
  generalize hW1 : (w.alloc (.deferred (some []))).alloc (.loop (rec .ready none)) = W1
  have hmod1 : Mod (T ++ [w.heap.size, w.heap.size + 1]) w W1 := by rw [← hW1]; exact ((Mod.refl _ w).alloc _).alloc _
  have hL1 : W1.heap[w.heap.size + 1]? = some (.loop (rec .ready none)) := by
    rw [← hW1]
    have := World.alloc_heap_new (w.alloc (.deferred (some []))) (.loop (rec .ready none))
    rwa [World.size_alloc] at this
  have hK1 : W1.heap[w.heap.size]? = some (.deferred (some [])) := by
    rw [← hW1]
    exact (Below.heap_alloc _ _ _ (by simp)).trans (World.alloc_heap_new w _)
  have pb : ∀ (W : World) (o : Obj), Mod (T ++ [w.heap.size, w.heap.size + 1]) W (W.putObj (w.heap.size + 1) o) := fun W o => (Jm W _ o).more (by simp)
  refine ⟨w.heap.size + 1, [{ target := .collected w.heap.size, args := #[] }], W1, { target := .fn (.func gf) lb, args := #[.func (.yield (w.heap.size + 1)) #[] #[]] }, W1, gf, #[.func (.yield (w.heap.size + 1)) #[] #[]] ++ lb, W1, ?_, ?_, fun _ _ => trivial, ?_, fun h => (by cases h), ?_⟩
  · rw [← hW1, ← hrec]
    exact run_enterLoop_outer _ _ _ _ _
  · simp only [resolve, hg]
    simp [go_sem]
  · simp [invoke, go_sem, eg]
  · refine (iter (w.heap.size + 1) (fun pre W => I pre W ∧ W.heap[w.heap.size + 1]? = some (.loop (rec .ready none)) ∧ W.heap[w.heap.size]? = some (.deferred (some [])))
      (fun pre W => ∃ c, Ix c pre W ∧ W.heap[w.heap.size + 1]? = some (.loop (rec .done (some c))) ∧ W.heap[w.heap.size]? = some (.deferred (some []))) W1 ?_ ?_ ?_ ?_ ⟨hI _ _ _ h0 hmod1, hL1, hK1⟩).mono ?_
    · rintro pre W k v hk ⟨h1, h2, h3⟩
      have hlt := hT k hk
      exact ⟨hI _ _ _ h1 ((Bp W k v).more fun j hj => by
        have : j = k := by simpa using hj
        subst this
        simp [hk]), (Xc (by omega)).trans h2, (Xc (by omega)).trans h3⟩
    · rintro pre W ⟨h1, h2, h3⟩
      exact ⟨hI _ _ _ h1 (Zs ((Below.refl _ W).drew) _), h2, h3⟩
    · rintro pre x W ⟨hi, hl, hk⟩ hq
      have hlt : w.heap.size + 1 < W.heap.size := (Array.getElem?_eq_some_iff.1 hl).1
      have hy := run_yield (P := P) (args := encs x) hl (by rw [← hrec]; exact hps x)
      rw [← hrec] at hy
      dsimp only at hy
      refine ⟨fn, _, assign, body, hy, ?_⟩
      refine roundIn_of_wpIn trivial ?_
      refine hassign _ x W _ ?_
      refine ⟨_, run_beginRound hl (hr1 _ _), ?_⟩
      generalize hW2 : W.putObj (w.heap.size + 1) (.loop { rec .ready none with state := .busy }) = W2
      have hm2 : Mod (T ++ [w.heap.size, w.heap.size + 1]) W W2 := by rw [← hW2]; exact pb W _
      have hs2 : W2.heap.size = W.heap.size := by rw [← hW2]; simp
      have hl2 : W2.heap[w.heap.size + 1]? = some (.loop { rec .ready none with state := .busy }) := by rw [← hW2]; exact World.putObj_heap_same hlt
      have hk2 : W2.heap[w.heap.size]? = some (.deferred (some [])) := by rw [← hW2]; exact (World.putObj_heap_other (by omega)).trans hk
      have hT2 : ∀ k ∈ T, W2.heap[k]? = W.heap[k]? := fun k hkT => by rw [← hW2]; exact World.putObj_heap_other (by have := hT k hkT; omega)
      refine wpIn_mono (hbody _ pre x W2 (hI _ _ _ hi hm2) (by omega) hq) ?_
      have fin : ∀ (jump : Option Code) (W3 : World), (∀ k ∈ T ++ [w.heap.size, w.heap.size + 1], W3.heap[k]? = W2.heap[k]?) → ∃ W4, (Instr.endRound (w.heap.size + 1) jump).run P W3 = .ok (.bool jump.isNone) W4 ∧ Mod (T ++ [w.heap.size, w.heap.size + 1]) W3 W4 ∧
          W4.heap[w.heap.size + 1]? = some (.loop (rec (if jump.isNone then .ready else .done) jump)) ∧ W4.heap[w.heap.size]? = some (.deferred (some [])) ∧ ∀ k ∈ T, W4.heap[k]? = W.heap[k]? := fun jump W3 hk3 => by
        have hl3 : W3.heap[w.heap.size + 1]? = some (.loop { rec .ready none with state := .busy }) := (hk3 _ (by simp)).trans hl2
        have hd3 : W3.heap[w.heap.size]? = some (.deferred (some [])) := (hk3 _ (by simp)).trans hk2
        have hrun := run_endRound (P := P) jump hl3
        refine ⟨_, hrun, pb W3 _, ?_, (World.putObj_heap_other (by omega)).trans hd3, fun k hkT => ?_⟩
        · rw [World.putObj_heap_same (Array.getElem?_eq_some_iff.1 hl3).1, ← hrec]
        · have := hT k hkT
          exact (World.putObj_heap_other (by omega)).trans ((hk3 _ (by simp [hkT])).trans (hT2 k hkT))
      rintro e a3 W3 hp
      cases e with
      | normal =>
        obtain ⟨W4, h1, h2, h3, h4, h5⟩ := fin none W3 hp.1
        exact ⟨_, _, h1, .inl ⟨rfl, ⟨hI _ _ _ hp.2 h2, h3, h4⟩, h5⟩⟩
      | ret =>
        obtain ⟨W4, h1, h2, h3, h4, h5⟩ := fin (some .ret) W3 hp.1
        exact ⟨_, _, h1, .inr ⟨rfl, .ret, hIx _ _ _ _ hp.2 h2, h3, h4⟩⟩
      | exit id =>
        obtain ⟨W4, h1, h2, h3, h4, h5⟩ := fin (some (.exit id)) W3 hp.1
        exact ⟨_, _, h1, .inr ⟨rfl, .exit id, hIx _ _ _ _ hp.2 h2, h3, h4⟩⟩
      | goto t =>
        obtain ⟨W4, h1, h2, h3, h4, h5⟩ := fin (some (.goto t)) W3 hp.1
        exact ⟨_, _, h1, .inr ⟨rfl, .goto t, hIx _ _ _ _ hp.2 h2, h3, h4⟩⟩
      | panic ch => exact hp.elim
      | outgrown => exact hp.elim
    · intro k hk
      have := hT k hk
      rw [← hW1]
      exact (Below.heap_alloc _ _ _ (by simp; omega)).trans (Below.heap_alloc _ _ _ this)
    · rintro e W2 ⟨⟨v, rfl⟩, (⟨hi, hl, hk⟩ | ⟨pre, hpre, c, hi, hl, hk⟩)⟩
      · have hend := run_endLoop (P := P) hl (by rw [hr1]; simp)
        rw [show (rec .ready none).pending = none by rw [← hrec]] at hend
        exact ⟨none, _, hend, hdone _ (hI _ _ _ hi (pb W2 _)) ((World.putObj_heap_other (by omega)).trans hk)⟩
      · have hend := run_endLoop (P := P) hl (by rw [hr1]; simp)
        rw [show (rec .done (some c)).pending = some c by rw [← hrec]] at hend
        exact ⟨some c, _, hend, hstop c pre _ hpre (hIx _ _ _ _ hi (pb W2 _)) ((World.putObj_heap_other (by omega)).trans hk)⟩
end Go.Proofs.YtoflbpmbkmephaaGreatDoor
namespace Go.Proofs.YtoflbpmbkmephaaGreatDoor
open Go.RowKit Go.Shelf
attribute [local go_sem] Oper.semAt_some
def X6 : List UInt8 → List (List UInt8)
  | [] => []
  | x :: r => if x = 10 then [x] :: X6 r else match X6 r with | [] => [[x]] | p :: ps => (x :: p) :: ps
theorem Hd {s : List UInt8} (hs : s ≠ []) : (Lib.indexByte s 10 = -1 ∧ X6 s = [s] ∧ (10 : UInt8) ∉ s) ∨ ∃ i : Nat, Lib.indexByte s 10 = (i : Int) ∧ i < s.length ∧ s[i]? = some 10 ∧ (10 : UInt8) ∉ s.take i ∧ X6 s = s.take (i + 1) :: X6 (s.drop (i + 1)) := by
  induction s with
  | nil => exact absurd rfl hs
  | cons x r ih =>
    by_cases h : x = 10
    · subst h
      refine .inr ⟨0, ?_, by simp, rfl, by simp, ?_⟩
      · simp [Lib.indexByte]
      · simp [X6]
    · have hb : (x == 10) = false := by simpa using h
      by_cases hr : r = []
      · subst hr
        refine .inl ⟨?_, ?_, ?_⟩
        · simp [Lib.indexByte, hb]
        · unfold X6; rw [if_neg h]; rfl
        · simp; exact fun e => h e.symm
      · rcases ih hr with ⟨h1, h2, h3⟩ | ⟨i, h1, h2, h3, h4, h5⟩
        · refine .inl ⟨?_, ?_, ?_⟩
          · simp [Lib.indexByte, hb, h1]
          · unfold X6; rw [if_neg h, h2]
          · simp [h3]; exact fun e => h e.symm
        · refine .inr ⟨i + 1, ?_, by simpa using h2, by simpa using h3, ?_, ?_⟩
          · have h0 : (Lib.indexByte r 10 == -1) = false := by rw [h1, beq_eq_false_iff_ne]; omega
            simp only [Lib.indexByte, hb, h0, h1]
            simp
          · simp [h4]; exact fun e => h e.symm
          · rw [List.take_succ_cons, List.drop_succ_cons]
            conv => lhs; unfold X6
            rw [if_neg h, h5]
def LBox (W : World) (b : Nat) (r : List UInt8) : Prop := W.heap[b]? = some (.cells #[.string ⟨r.toArray⟩] 9 (0, 0))
theorem Ga {W : World} {b : Nat} {r : List UInt8} (h : LBox W b r) : Dh W b = r.length := by
  unfold Dh
  rw [U1 h]
  exact Yp r
theorem Ie (m : Nat) (l b : Nat) (s : List UInt8) (hs : s.length ≤ maxLen) (J Jx : List (List UInt8) → World → Prop)
    (hJ : ∀ pre W1 (v : Value), J pre W1 → J pre (W1.setCell ⟨b, 0, none⟩ v)) (hJd : ∀ pre W1, J pre W1 → J pre W1.drew)
    (hY : ∀ pre x r W1, J pre W1 → LBox W1 b r → (∃ q, pre ++ x :: q = X6 s) → YieldAt Fence.wide (m - 1) Tryz.prog l #[.string ⟨x.toArray⟩] W1 fun e W' =>
      (e = .returned (.bool true) ∧ J (pre ++ [x]) W' ∧ W'.heap[b]? = W1.heap[b]?) ∨ (e = .returned (.bool false) ∧ Jx (pre ++ [x]) W'))
    (W : World) (hB : LBox W b s) (h0 : J [] W) :
    CallsIn Fence.wide m Tryz.prog 88 #[.func (.yield l) #[] #[], .pointer (some ⟨b, 0, none⟩)] W fun e W' => (∃ v, e = .returned v) ∧
      (J (X6 s) W' ∨ (∃ pre, pre <+: X6 s ∧ Jx pre W')) := by
  have c1 := U1 hB
  refine callsIn_of_wp Tryz.func88 rfl trivial ?_ rfl
  simp only [Tryz.ntmps88, List.size_toArray, List.length_cons, List.length_nil, Nat.reduceAdd, Nat.reduceSub, Array.replicate_succ, Array.replicate_zero, List.push_toArray, List.append_toArray, List.nil_append, List.cons_append]
  gi_wp2
  gi_loopw [4] (fun p wr => ∃ (pre : List (List UInt8)) (r : List UInt8), LBox wr b r ∧ pre ++ X6 r = X6 s ∧ r.length ≤ maxLen ∧ J pre wr) (fun p wr => Dh wr b)
  case atStart => exact ⟨[], s, hB, rfl, hs, h0⟩
  case round =>
    obtain ⟨pre, r, hb, hp, hr, hj⟩ := hrel
    have c1 := U1 hb
    have f1 := Nh hb
    have hrs := Yp r
    unfold maxLen at hr
    by_cases d : r = []
    · subst d
      gi_wp2
      go_end0
      exact ⟨⟨_, rfl⟩, .inl (by rw [← hp]; simpa [X6] using hj)⟩
    · have hpos : 0 < r.length := List.length_pos_iff.2 d
      rcases Hd d with ⟨h1, h2, h3⟩ | ⟨i, h1, h2, h3, h4, h5⟩
      · have h1' : Lib.indexByte (⟨r.toArray⟩ : ByteArray).data.toList (10 : Int).toNat.toUInt8 = -1 := h1
        have a : LBox (wr.setCell ⟨b, 0, none⟩ (.string ⟨#[]⟩)) b [] := Ya hb
        obtain ⟨fn, tmps, assign, body, hy, hR⟩ := hY pre r [] (wr.setCell ⟨b, 0, none⟩ (.string ⟨#[]⟩)) (hJ _ _ _ hj) a ⟨[], by rw [← hp, h2]⟩
        gi_wp2_with (refine ⟨trivial, fun hh => (by cases hh), ?_⟩; gi_at_call 89; refine (callsIn_wide.2 (Tryz.strings_IndexByte (⟨r.toArray⟩ : ByteArray) 10 wr)).mono ?_; rintro e W3 ⟨rfl, rfl⟩; rw [h1'])
        refine ⟨fun hh => (by cases hh), ?_⟩
        refine hR.mono ?_
        rintro e W3 (⟨rfl, hJ3, hk⟩ | ⟨rfl, hJx3⟩)
        · have c : LBox W3 b [] := hk.trans a
          gi_wp2
          refine ⟨⟨pre ++ [r], [], c, by rw [← hp, h2]; simp [X6], by simp, hJ3⟩, ?_⟩
          rw [Ga c, Ga hb]
          exact hpos
        · gi_wp2
          refine bodyPost_ret (results_none rfl _ _ _) rfl ?_
          exact ⟨⟨_, rfl⟩, .inr ⟨pre ++ [r], by rw [← hp, h2]; exact List.prefix_refl _, hJx3⟩⟩
      · have h1' : Lib.indexByte (⟨r.toArray⟩ : ByteArray).data.toList (10 : Int).toNat.toUInt8 = (i : Int) := h1
        gi_wp2_with (refine ⟨trivial, fun hh => (by cases hh), ?_⟩; gi_at_call 89; refine (callsIn_wide.2 (Tryz.strings_IndexByte (⟨r.toArray⟩ : ByteArray) 10 wr)).mono ?_; rintro e W3 ⟨rfl, rfl⟩; rw [h1'])
        gi_region
        have hex := Uv r 0 (i + 1) (by omega)
        rw [List.drop_zero] at hex
        have hex2 := Uv r (i + 1) r.length (Nat.le_refl _)
        rw [List.take_length] at hex2
        rw [hex, hex2]
        have a : LBox ((W3.setCell ⟨b, 0, none⟩ (.string ⟨(r.drop (i + 1)).toArray⟩)).drew) b (r.drop (i + 1)) := Ya hb
        obtain ⟨fn, tmps, assign, body, hy, hR⟩ := hY pre (r.take (i + 1)) (r.drop (i + 1)) _ (hJd _ _ (hJ _ _ _ hj)) a ⟨X6 (r.drop (i + 1)), by rw [← hp, h5]⟩
        gi_wp2
        refine ⟨fun hh => (by cases hh), ?_⟩
        refine hR.mono ?_
        rintro e W4 (⟨rfl, hJ3, hk⟩ | ⟨rfl, hJx3⟩)
        · have c : LBox W4 b (r.drop (i + 1)) := hk.trans a
          gi_wp2
          refine ⟨⟨pre ++ [r.take (i + 1)], r.drop (i + 1), c, by rw [← hp, h5]; simp, by unfold maxLen; rw [List.length_drop]; omega, hJ3⟩, ?_⟩
          rw [Ga c, Ga hb, List.length_drop]
          omega
        · gi_wp2
          refine bodyPost_ret (results_none rfl _ _ _) rfl ?_
          exact ⟨⟨_, rfl⟩, .inr ⟨pre ++ [r.take (i + 1)], ⟨X6 (r.drop (i + 1)), by rw [← hp, h5]; simp⟩, hJx3⟩⟩
end Go.Proofs.YtoflbpmbkmephaaGreatDoor
namespace Go.Proofs.YtoflbpmbkmephaaGreatDoor
open Go.RowKit Go.Shelf
attribute [local go_sem] Oper.semAt_some
abbrev StP := Int × Int × Int × Int × List Qe × Int × Bool
def If (st : StP) (x : List UInt8) : Option (Bool × StP) := V4 st.1 st.2.1 st.2.2.1 st.2.2.2.1 st.2.2.2.2.1 st.2.2.2.2.2.1 st.2.2.2.2.2.2 x
def Y0 : List (List UInt8) → StP → Option (Sum Int StP)
  | [], st => some (.inr st)
  | x :: xs, st => (If st x).bind fun r => cond r.1 (Y0 xs r.2) (some (.inl st.2.2.2.2.2.1))
theorem Ny : ∀ (pre ys : List (List UInt8)) (st : StP), Y0 (pre ++ ys) st = (Y0 pre st).bind fun z => match z with | .inl a => some (.inl a) | .inr st => Y0 ys st
  | [], ys, st => rfl
  | x :: pre, ys, st => by
    rw [List.cons_append]
    cases h : If st x with
    | none => simp only [Y0, h, Option.bind_none]
    | some r =>
      obtain ⟨b, r⟩ := r
      cases b
      · simp only [Y0, h, Option.bind_some, cond_false]
      · simp only [Y0, h, Option.bind_some, cond_true]
        exact Ny pre ys r
def st0P : StP := (0, 0, 0, 0, [], 0, false)
def V1 (s : List UInt8) : Option (Int × Int × Int × Int × List Qe × Int × Int) :=
  cond (decide (((List.length s : Nat) : Int) > 4096)) (some (0, 0, 0, 0, [], 2, 0))
    ((Y0 (X6 s) st0P).bind fun z => match z with
      | .inl a => some (0, 0, 0, 0, [], 91, a)
      | .inr st => cond (st.2.2.2.2.2.1 == 0) (some (0, 0, 0, 0, [], 91, 0)) (some (st.1, st.2.1, st.2.2.1, st.2.2.2.1, st.2.2.2.2.1, 0, 0)))
theorem lines_any (s : ByteArray) (w : World) : Calls Tryz.prog 40 #[.string s] w fun e w' =>
    e = .returned (.func (.func 88) #[] #[.pointer (some ⟨w.heap.size, 0, none⟩)]) ∧ w' = w.alloc (.cells #[.string s] 9) := by
  go_enter Tryz.func40, Tryz.ntmps40
  go_wp2
  go_ret
  exact ⟨rfl, rfl⟩
theorem SP.other {w W W' : World} {es : List Ent} {K : List Nat} (h : SP [] w W es) (hm : Mod K W W') (h1 : ∀ k ∈ K, w.heap.size ≤ k) (h2 : ∀ e ∈ es, ∀ k ∈ e.fp, k ∉ K) : SP [] w W' es :=
  ⟨⟨hm.os.trans h.mod.os, hm.tape.trans h.mod.tape, hm.output.trans h.mod.output, Nat.le_trans h.mod.size hm.size, fun k hk hn => (hm.block k (Nat.lt_of_lt_of_le hk h.mod.size) fun hk' => by have := h1 k hk'; omega).trans (h.mod.block k hk hn)⟩,
    h.own.keep hm.size fun e he k hk => hm.block k (h.own.mem he |>.2 k hk).2 (h2 e he k hk)⟩
theorem SP.nilten {S : List Nat} {w W : World} {es : List Ent} (h : SP S w W es) : SP S w W (es ++ [Yo none 0 []]) :=
  h.push (Below.refl _ _) ⟨World.ownsRow_nil W 0 _ _, ⟨fun y hy => (by cases hy), List.nodup_nil⟩, List.nodup_nil⟩ (fun k hk => (by cases hk))
theorem Uh {fn : Func} {P : Program} {w : World} {a b c : Tmp} {ta tb tc : TypeId} (h : fn.results = #[.cell a ta, .cell b tb, .cell c tc]) (tmps : Array Value) {g1 g2 g3 : Nat} {c1 c2 c3 : Array Value} {e1 e2 e3 : TypeId} {v1 v2 v3 : Value}
    (t1 : tmps.getD a undef = .pointer (some ⟨g1, 0, none⟩)) (t2 : tmps.getD b undef = .pointer (some ⟨g2, 0, none⟩)) (t3 : tmps.getD c undef = .pointer (some ⟨g3, 0, none⟩))
    (h1 : w.heap[g1]? = some (.cells c1 e1 (0, 0))) (h2 : w.heap[g2]? = some (.cells c2 e2 (0, 0))) (h3 : w.heap[g3]? = some (.cells c3 e3 (0, 0))) (l1 : C5 P ta 0 c1 = some v1) (l2 : C5 P tb 0 c2 = some v2) (l3 : C5 P tc 0 c3 = some v3) :
    (results fn tmps).run P w = .ok (.tuple #[v1, v2, v3]) w := by
  have k1 := Us (w := w) l1 h1
  have k2 := Us (w := w) l2 h2
  have k3 := Us (w := w) l3 h3
  have t1' : tmps[a]?.getD undef = .pointer (some ⟨g1, 0, none⟩) := by simpa using t1
  have t2' : tmps[b]?.getD undef = .pointer (some ⟨g2, 0, none⟩) := by simpa using t2
  have t3' : tmps[c]?.getD undef = .pointer (some ⟨g3, 0, none⟩) := by simpa using t3
  simp [results, h, t1', t2', t3', asAddr, Sem.run_bind, Result.andThen, k1, k2, k3]
theorem SP.cell1 {S : List Nat} {w w0 : World} {es : List Ent} {i g off : Nat} {t : TypeId} {cs : Array Value} (v : Value) (hs : SP S w0 w es) (hi : es[i]? = some (Qw g t cs)) : SP S w0 (w.setCell ⟨g, off, none⟩ v) (es.set i (Qw g t (cs.setIfInBounds off v))) := by
  have hg : w.heap[g]? = some (.cells cs t (0, 0)) := hs.get hi
  have hlt : g < w.heap.size := (Array.getElem?_eq_some_iff.1 hg).1
  refine hs.set hi (T := [g]) ((Mod.refl [g] w).setCell (p := ⟨g, off, none⟩) (.inl (by simp)) _) (fun k hk => hk) ?_ fun k hk => ⟨.inl hk, ?_⟩
  · show (w.setCell ⟨g, off, none⟩ _).heap[g]? = _
    simp [World.setCell, hg, Array.getElem?_modify]
  · have : k = g := by simpa [Qw] using hk
    subst this
    simpa [World.setCell] using hlt
theorem Jh {W : World} {b off : Nat} {cs : Array Value} {v : Value} {t : TypeId} (h : W.heap[b]? = some (.cells cs t (0, 0))) (hv : cs[off]? = some v) : W.cell? ⟨b, off, none⟩ = some v := by rw [cell_of_row W b off _ t _ h]; exact hv
theorem Yt {W : World} {b off : Nat} {cs : Array Value} {t : TypeId} (h : W.heap[b]? = some (.cells cs t (0, 0))) : W.frozen? ⟨b, off, none⟩ = false := by simp [World.frozen?, h]
theorem Vv {W : World} {b off k : Nat} {v : Value} (h : k ≠ b) : (W.setCell ⟨b, off, none⟩ v).heap[k]? = W.heap[k]? := by
  simp [World.setCell, Array.getElem?_modify, Ne.symm h]
theorem alloc_at' {w : World} {o : Obj} {k : Nat} (h : k = w.heap.size) : (w.alloc o).heap[k]? = some o := by subst h; exact World.alloc_heap_new w o
def cfg0 : Array Value := #[.int .i64 0, .int .i64 0, .int .i64 0, .int .i64 0, .slice none 0 0]
def Fi (g : Nat) (st : StP) (A : Option Addr) (c : Nat) (d : List Qx) : List Ent :=
  [Qw g 24 cfg0, Qw (g + 1) 27 #[.int .i64 0], Qw (g + 1 + 1) 3 #[.int .i64 0],
    Qw (g + 1 + 1 + 1) 72 #[.int .i64 st.1, .int .i64 st.2.1, .int .i64 st.2.2.1, .int .i64 st.2.2.2.1, .slice A (List.length (List.map stT d)) c, .int .i64 st.2.2.2.2.2.1, .bool st.2.2.2.2.2.2],
    Qw (g + 1 + 1 + 1 + 1) 70 #[.pointer (some ⟨g + 1 + 1 + 1, 0, none⟩)], Yo A c d]
theorem Xo (s : List UInt8) (w : World) (hL : Uj w) (r : Int × Int × Int × Int × List Qe × Int × Int) (H : V1 s = some r) :
    Calls Tryz.prog 16 #[.string ⟨List.toArray s⟩] w (fun e w' => ∃ (A : Option Addr) (c : Nat) (d : List Qx), e = .returned (.tuple #[(.agg #[(.int .i64 r.1), (.int .i64 r.2.1), (.int .i64 r.2.2.1), (.int .i64 r.2.2.2.1), (.slice A (List.length (List.map stT d)) c)]), (.int .i64 r.2.2.2.2.2.1), (.int .i64 r.2.2.2.2.2.2)]) ∧ r.2.2.2.2.1 = List.map stT d ∧ SP [] w w' [Yo A c d]) := by
  refine (callsIn_wide (n := 3)).1 ?_
  refine callsIn_of_wp_marks Tryz.func16 rfl trivial ?_ rfl
  simp only [Tryz.ntmps16, List.size_toArray, List.length_cons, List.length_nil, Nat.reduceAdd, Nat.reduceSub, Array.replicate_succ, Array.replicate_zero, List.push_toArray, List.append_toArray, List.nil_append, List.cons_append]
  by_cases hlen : (4096 : Int) < ((List.length s : Nat) : Int)
  · have hr : r = (0, 0, 0, 0, [], 2, 0) := by
      unfold V1 at H
      rw [show decide (((List.length s : Nat) : Int) > 4096) = true from decide_eq_true hlen] at H
      injection H with H
      exact H.symm
    subst hr
    have s3 := (((Q0 [] w).alloc (t := 24) (cs := #[.int .i64 0, .int .i64 0, .int .i64 0, .int .i64 0, .slice none 0 0])).alloc (t := 27) (cs := #[.int .i64 2])).alloc (t := 3) (cs := #[.int .i64 0])
    gi_wp2
    refine ⟨_, Uh rfl _ rfl rfl rfl (s3.get (i := 0) rfl) (by have h := s3.get (i := 1) rfl; rw [World.size_alloc] at h; exact h) (by have h := s3.get (i := 2) rfl; rw [World.size_alloc, World.size_alloc] at h; exact h) (by kernel_rfl) (by kernel_rfl) (by kernel_rfl), none, 0, [], rfl, rfl, ?_⟩
    exact (s3.nilten).erase 0 rfl |>.erase 0 rfl |>.erase 0 rfl
  · gi_wp2_with (refine ⟨trivial, ?_⟩; gi_at_call 40; refine (callsIn_wide.2 (lines_any _ _)).mono ?_; rintro e w' ⟨rfl, rfl⟩)
    have hsl : s.length ≤ maxLen := by unfold maxLen; omega
    have hz : ∃ z, Y0 (X6 s) st0P = some z := by
      unfold V1 at H
      rw [show decide (((List.length s : Nat) : Int) > 4096) = false from decide_eq_false (by omega)] at H
      obtain ⟨z, hz, _⟩ := Qc (show (Y0 (X6 s) st0P).bind _ = some r from H)
      exact ⟨z, hz⟩
    obtain ⟨z, hz⟩ := hz
    have s5 := ((((((Q0 [] w).alloc (t := 24) (cs := #[.int .i64 0, .int .i64 0, .int .i64 0, .int .i64 0, .slice none 0 0])).alloc (t := 27) (cs := #[.int .i64 0])).alloc (t := 3) (cs := #[.int .i64 0])).alloc (t := 72) (cs := #[.int .i64 0, .int .i64 0, .int .i64 0, .int .i64 0, .slice none 0 0, .int .i64 0, .bool false])).alloc (t := 70) (cs := #[.pointer (some ⟨w.heap.size + 1 + 1 + 1, 0, none⟩)])).nilten
    simp only [World.size_alloc, List.nil_append, List.cons_append] at s5
    have s6 := s5.below ((Below.refl _ _).alloc (Nat.le_refl _) (.cells #[.string ⟨s.toArray⟩] 9))
    generalize hw6 : ((((((w.alloc (Obj.cells #[Value.int IntKind.i64 0, Value.int IntKind.i64 0, Value.int IntKind.i64 0, Value.int IntKind.i64 0, Value.slice none 0 0] 24)).alloc (Obj.cells #[Value.int IntKind.i64 0] 27)).alloc (Obj.cells #[Value.int IntKind.i64 0] 3)).alloc (Obj.cells #[Value.int IntKind.i64 0, Value.int IntKind.i64 0, Value.int IntKind.i64 0, Value.int IntKind.i64 0, Value.slice none 0 0, Value.int IntKind.i64 0, Value.bool false] 72)).alloc (Obj.cells #[Value.pointer (some { block := w.heap.size + 1 + 1 + 1, off := 0 })] 70)).alloc (Obj.cells #[Value.string { data := s.toArray }] 9)) = w6 at s6 ⊢
    have hsz6 : w6.heap.size = w.heap.size + 6 := by rw [← hw6]; simp
    have hbox : LBox w6 (w.heap.size + 1 + 1 + 1 + 1 + 1) s := by rw [← hw6]; exact alloc_at' (by simp)
    clear hw6
    refine Id (gf := 88) (lb := #[.pointer (some ⟨w.heap.size + 1 + 1 + 1 + 1 + 1, 0, none⟩)]) rfl (enters_of Tryz.func88 (by kernel_rfl) rfl) (encs := fun x : List UInt8 => #[.string ⟨x.toArray⟩]) (fun _ => rfl) [w.heap.size + 1 + 1 + 1 + 1 + 1]
      (by intro k hk; simp at hk; omega) (S := X6 s) ?iter
      (fun pre W => ∃ (st : StP) (A : Option Addr) (c : Nat) (d : List Qx), Y0 pre st0P = some (.inr st) ∧ st.2.2.2.2.1 = List.map stT d ∧ SP [] w W (Fi w.heap.size st A c d) ∧ (∀ k ∈ (Yo A c d).fp, k < w.heap.size + 5 ∨ w.heap.size + 8 ≤ k))
      (fun c pre W => c = .ret ∧ ∃ a, Y0 (X6 s) st0P = some (.inl a) ∧ SP [] w W [Qw w.heap.size 24 cfg0, Qw (w.heap.size + 1) 27 #[.int .i64 91], Qw (w.heap.size + 1 + 1) 3 #[.int .i64 a]]) ?hI ?hIx
      ⟨st0P, none, 0, [], rfl, rfl, s6, fun k hk => by cases hk⟩
      (fun x => { tmps := #[.string ⟨s.toArray⟩, undef, .pointer (some ⟨w.heap.size, 0, none⟩), .pointer (some ⟨w.heap.size + 1, 0, none⟩), .pointer (some ⟨w.heap.size + 1 + 1, 0, none⟩), .pointer (some ⟨w.heap.size + 1 + 1 + 1 + 1, 0, none⟩), .string ⟨x.toArray⟩, undef, .string ⟨s.toArray⟩, .int .i64 ((List.length s : Nat) : Int), .bool false, undef,
        .agg #[.int .i64 0, .int .i64 0, .int .i64 0, .int .i64 0, .slice none 0 0, .int .i64 0, .bool false], .pointer (some ⟨w.heap.size + 1 + 1 + 1, 0, none⟩), .string ⟨s.toArray⟩, .func (.func 88) #[] #[.pointer (some ⟨w.heap.size + 1 + 1 + 1 + 1 + 1, 0, none⟩)], .string ⟨x.toArray⟩, undef, undef, undef, undef, undef, undef, undef, undef, undef, undef, undef, undef, undef, undef, undef, undef, undef, undef, undef, undef], defers := [] }) ?assign ?body ?done ?stop
    case iter =>
      intro l J Jx W hJ hJd hY hT hJ0
      refine Ie _ l (w.heap.size + 1 + 1 + 1 + 1 + 1) s hsl J Jx (fun pre W1 v hj => hJ pre W1 _ v (by simp) hj) hJd (fun pre x r W1 hj hb hq => ?_) W ((hT _ (by simp)).trans hbox) hJ0
      obtain ⟨fn, tmps, assign, body, hy, hR⟩ := hY pre x W1 hj hq
      refine ⟨fn, tmps, assign, body, hy, hR.mono ?_⟩
      rintro e W' (⟨h1, h2, h3⟩ | h)
      · exact .inl ⟨h1, h2, h3 _ (by simp)⟩
      · exact .inr h
    case hI =>
      rintro xs W W' ⟨st, A, c, d, h1, h2, h3, h4⟩ hm
      refine ⟨st, A, c, d, h1, h2, h3.other hm (by intro k hk; simp at hk; omega) (fun e he k hk hK => ?_), h4⟩
      simp only [List.cons_append, List.nil_append, List.mem_cons, List.not_mem_nil, or_false, hsz6] at hK
      simp only [Fi, List.mem_cons, List.not_mem_nil, or_false] at he
      rcases he with rfl | rfl | rfl | rfl | rfl | rfl
      · have hk' : k = w.heap.size := by simpa [Qw] using hk
        omega
      · have hk' : k = w.heap.size + 1 := by simpa [Qw] using hk
        omega
      · have hk' : k = w.heap.size + 1 + 1 := by simpa [Qw] using hk
        omega
      · have hk' : k = w.heap.size + 1 + 1 + 1 := by simpa [Qw] using hk
        omega
      · have hk' : k = w.heap.size + 1 + 1 + 1 + 1 := by simpa [Qw] using hk
        omega
      · have := h4 k hk
        omega
    case hIx =>
      rintro cc xs W W' ⟨h0, a, h1, h3⟩ hm
      refine ⟨h0, a, h1, h3.other hm (by intro k hk; simp at hk; omega) (fun e he k hk hK => ?_)⟩
      simp only [List.cons_append, List.nil_append, List.mem_cons, List.not_mem_nil, or_false, hsz6] at hK
      simp only [List.mem_cons, List.not_mem_nil, or_false] at he
      rcases he with rfl | rfl | rfl
      · have hk' : k = w.heap.size := by simpa [Qw] using hk
        omega
      · have hk' : k = w.heap.size + 1 := by simpa [Qw] using hk
        omega
      · have hk' : k = w.heap.size + 1 + 1 := by simpa [Qw] using hk
        omega
    case assign =>
      intro l x W K hK
      gi_wp2
      exact hK
    case body =>
      rintro l pre x W ⟨⟨wa, gr, id, le, tl, mn, bd⟩, A, c, d, h1, h2, h3, h4⟩ hsz ⟨q, hq⟩
      have h2 : tl = List.map stT d := h2
      subst h2
      rw [hsz6] at hsz
      have hz' := hz
      rw [← hq, Ny, h1] at hz'
      simp only [Option.bind_some, Y0] at hz'
      obtain ⟨⟨b, rs⟩, hrr, hz'⟩ := Qc hz'
      have b4 : W.heap[w.heap.size + 1 + 1 + 1 + 1]? = some (.cells #[.pointer (some ⟨w.heap.size + 1 + 1 + 1, 0, none⟩)] 70 (0, 0)) := h3.get (i := 4) rfl
      have c4 := U1 b4
      have b3 := h3.get (i := 3) rfl
      have c35 : W.cell? ⟨w.heap.size + 1 + 1 + 1, 5, none⟩ = some (.int .i64 mn) := by rw [cell_of_row W _ 5 _ _ _ b3]; rfl
      have hw := Ni (w.heap.size + 1 + 1 + 1) A c wa gr id le d mn bd x W (fun w' hm => Qz hL (Fy h3 (l := [3, 5]) rfl hm)) (Y2 h3 [3, 5] rfl rfl) (b, rs) hrr
      have hfps : ∀ k, k ∈ (Em (Fi w.heap.size (wa, gr, id, le, List.map stT d, mn, bd) A c d) [3, 5]).flatMap Ent.fp → k < w.heap.size + 5 ∨ w.heap.size + 8 ≤ k := by
        intro k hk
        obtain ⟨e, he, hke⟩ := List.mem_flatMap.1 hk
        obtain ⟨j, hj, hej⟩ := Nf he
        simp only [List.mem_cons, List.not_mem_nil, or_false] at hj
        rcases hj with rfl | rfl
        · injection hej with hej
          subst hej
          have hk' : k = w.heap.size + 1 + 1 + 1 := by simpa [Qw] using hke
          omega
        · injection hej with hej
          subst hej
          exact h4 k hke
      cases b with
      | true =>
        gi_wp2_with (refine ⟨trivial, ?_⟩; gi_at_call 41; refine (CallsIn.inRound l (callsIn_wide.2 hw)).mono ?_; rintro e W' ⟨A', c', d', rfl, hd', hs'⟩)
        have hl1 : Y0 (pre ++ [x]) st0P = some (.inr rs) := by
          rw [Ny, h1]
          simp only [Option.bind_some, Y0]
          rw [show If (wa, gr, id, le, List.map stT d, mn, bd) x = some (true, rs) from hrr]
          rfl
        have hsp : SP [] w W' (Fi w.heap.size rs A' c' d') := SP.sel (Zm h3 [3, 5] [0, 1, 2, 4] rfl rfl hs' rfl) [0, 1, 2, 4, 3, 5] rfl rfl
        have hfp : ∀ k ∈ (Yo A' c' d').fp, k < w.heap.size + 5 ∨ w.heap.size + 8 ≤ k := fun k hk => by
          rcases ((hs'.own.get (i := 1) rfl).2 k hk).1 with h | h
          · omega
          · exact hfps k h
        have hkeep : ∀ k ∈ [w.heap.size + 1 + 1 + 1 + 1 + 1] ++ [w6.heap.size, w6.heap.size + 1], W'.heap[k]? = W.heap[k]? := fun k hk => by
          simp only [List.cons_append, List.nil_append, List.mem_cons, List.not_mem_nil, or_false, hsz6] at hk
          refine hs'.mod.block k (by omega) fun hk' => ?_
          have := hfps k hk'
          omega
        gi_wp2
        exact ⟨hkeep, rs, A', c', d', hl1, hd', hsp, hfp⟩
      | false =>
        have hstop : Y0 (X6 s) st0P = some (.inl mn) := by
          rw [← hq, Ny, h1]
          simp only [Option.bind_some, Y0]
          rw [show If (wa, gr, id, le, List.map stT d, mn, bd) x = some (false, rs) from hrr]
          rfl
        gi_wp2_with (refine ⟨trivial, ?_⟩; gi_at_call 41; refine (CallsIn.inRound l (callsIn_wide.2 hw)).mono ?_; rintro e W' ⟨A', c', d', rfl, hd', hs'⟩; have hsp : SP [] w W' (Fi w.heap.size rs A' c' d') := SP.sel (Zm h3 [3, 5] [0, 1, 2, 4] rfl rfl hs' rfl) [0, 1, 2, 4, 3, 5] rfl rfl; have p0 := hsp.get (i := 0) rfl; have p1 := hsp.get (i := 1) rfl; have p2 := hsp.get (i := 2) rfl; have q0 := Jh (off := 0) p0 rfl; have q1 := Jh (off := 1) p0 rfl; have q2 := Jh (off := 2) p0 rfl; have q3 := Jh (off := 3) p0 rfl; have q4 := Jh (off := 4) p0 rfl; have q5 := Jh (off := 0) p1 rfl; have q6 := Jh (off := 0) p2 rfl; have f0 := Yt (off := 0) p0; have f1 := Yt (off := 1) p0; have f2 := Yt (off := 2) p0; have f3 := Yt (off := 3) p0; have f4 := Yt (off := 4) p0; have f5 := Yt (off := 0) p1; have f6 := Yt (off := 0) p2)
        have e7 := ((((((hsp.cell1 (off := 0) (.int .i64 0) (i := 0) rfl).cell1 (off := 1) (.int .i64 0) (i := 0) rfl).cell1 (off := 2) (.int .i64 0) (i := 0) rfl).cell1 (off := 3) (.int .i64 0) (i := 0) rfl).cell1 (off := 4) (.slice none 0 0) (i := 0) rfl).cell1 (off := 0) (.int .i64 91) (i := 1) rfl).cell1 (off := 0) (.int .i64 mn) (i := 2) rfl
        have hkeep : ∀ k ∈ [w.heap.size + 1 + 1 + 1 + 1 + 1] ++ [w6.heap.size, w6.heap.size + 1], W'.heap[k]? = W.heap[k]? := fun k hk => by
          simp only [List.cons_append, List.nil_append, List.mem_cons, List.not_mem_nil, or_false, hsz6] at hk
          refine hs'.mod.block k (by omega) fun hk' => ?_
          have := hfps k hk'
          omega
        refine ⟨fun k hk => ?_, rfl, mn, hstop, SP.sel e7 [0, 1, 2] rfl rfl⟩
        have hk2 := hkeep k hk
        simp only [List.cons_append, List.nil_append, List.mem_cons, List.not_mem_nil, or_false, hsz6] at hk
        exact (Vv (by omega)).trans ((Vv (by omega)).trans ((Vv (by omega)).trans ((Vv (by omega)).trans ((Vv (by omega)).trans ((Vv (by omega)).trans ((Vv (by omega)).trans hk2))))))
    case done =>
      rintro W ⟨⟨wa, gr, id, le, tl, mn, bd⟩, A, c, d, h1, h2, h3, h4⟩ hK
      rw [hsz6] at hK
      have h2 : tl = List.map stT d := h2
      subst h2
      unfold V1 at H
      rw [show decide (((List.length s : Nat) : Int) > 4096) = false from decide_eq_false (by omega)] at H
      have H : (Y0 (X6 s) st0P).bind _ = some r := H
      rw [h1] at H
      have H : cond (mn == 0) (some ((0 : Int), (0 : Int), (0 : Int), (0 : Int), ([] : List Qe), (91 : Int), (0 : Int))) (some (wa, gr, id, le, List.map stT d, 0, 0)) = some r := H
      have p0 := h3.get (i := 0) rfl
      have p1 := h3.get (i := 1) rfl
      have p2 := h3.get (i := 2) rfl
      have p3 := h3.get (i := 3) rfl
      have p4 := h3.get (i := 4) rfl
      have q0 := Jh (off := 0) p0 rfl
      have q1 := Jh (off := 1) p0 rfl
      have q2 := Jh (off := 2) p0 rfl
      have q3 := Jh (off := 3) p0 rfl
      have q4 := Jh (off := 4) p0 rfl
      have q5 := Jh (off := 0) p1 rfl
      have q6 := Jh (off := 0) p2 rfl
      have f0 := Yt (off := 0) p0
      have f1 := Yt (off := 1) p0
      have f2 := Yt (off := 2) p0
      have f3 := Yt (off := 3) p0
      have f4 := Yt (off := 4) p0
      have f5 := Yt (off := 0) p1
      have f6 := Yt (off := 0) p2
      have r0 := Jh (off := 0) p3 rfl
      have r1 := Jh (off := 1) p3 rfl
      have r2 := Jh (off := 2) p3 rfl
      have r3 := Jh (off := 3) p3 rfl
      have r4 := Jh (off := 4) p3 rfl
      have r5 := Jh (off := 5) p3 rfl
      have u0 := Jh (off := 0) p4 rfl
      cases hm : (mn == 0) with
      | true =>
        rw [hm] at H
        injection H with H
        subst H
        gi_wp2
        have e7 := ((((((h3.cell1 (off := 0) (.int .i64 0) (i := 0) rfl).cell1 (off := 1) (.int .i64 0) (i := 0) rfl).cell1 (off := 2) (.int .i64 0) (i := 0) rfl).cell1 (off := 3) (.int .i64 0) (i := 0) rfl).cell1 (off := 4) (.slice none 0 0) (i := 0) rfl).cell1 (off := 0) (.int .i64 91) (i := 1) rfl).cell1 (off := 0) (.int .i64 0) (i := 2) rfl
        refine ⟨by simp, .inl ⟨_, _, rfl, run_takeDeferred ((Vv (by omega)).trans ((Vv (by omega)).trans ((Vv (by omega)).trans ((Vv (by omega)).trans ((Vv (by omega)).trans ((Vv (by omega)).trans ((Vv (by omega)).trans hK))))))), ?_⟩⟩
        have s2 := (SP.sel e7 [0, 1, 2, 5] rfl rfl : SP [] w _ [Qw w.heap.size 24 #[.int .i64 0, .int .i64 0, .int .i64 0, .int .i64 0, .slice none 0 0], Qw (w.heap.size + 1) 27 #[.int .i64 91], Qw (w.heap.size + 1 + 1) 3 #[.int .i64 0], Yo A c d]).other (Jm _ (w.heap.size + 6) (.deferred none)) (by intro k hk; simp at hk; omega) (fun e he k hk hK' => by
          simp only [List.mem_cons, List.not_mem_nil, or_false] at he hK'
          rcases he with rfl | rfl | rfl | rfl
          · have hk' : k = w.heap.size := by simpa [Qw] using hk
            omega
          · have hk' : k = w.heap.size + 1 := by simpa [Qw] using hk
            omega
          · have hk' : k = w.heap.size + 1 + 1 := by simpa [Qw] using hk
            omega
          · have := h4 k hk
            omega)
        exact ⟨_, Uh rfl _ rfl rfl rfl (s2.get (i := 0) rfl) (s2.get (i := 1) rfl) (s2.get (i := 2) rfl) (v1 := .agg #[.int .i64 0, .int .i64 0, .int .i64 0, .int .i64 0, .slice none 0 0]) (v2 := .int .i64 91) (v3 := .int .i64 0) (by kernel_rfl) (by kernel_rfl) (by kernel_rfl), none, 0, [], rfl, rfl, ((SP.sel s2 [] rfl rfl : SP [] w _ []).nilten)⟩
      | false =>
        rw [hm] at H
        injection H with H
        subst H
        gi_wp2
        have e7 := ((((((h3.cell1 (off := 0) (.int .i64 wa) (i := 0) rfl).cell1 (off := 1) (.int .i64 gr) (i := 0) rfl).cell1 (off := 2) (.int .i64 id) (i := 0) rfl).cell1 (off := 3) (.int .i64 le) (i := 0) rfl).cell1 (off := 4) (.slice A d.length c) (i := 0) rfl).cell1 (off := 0) (.int .i64 0) (i := 1) rfl).cell1 (off := 0) (.int .i64 0) (i := 2) rfl
        refine ⟨by simp, .inl ⟨_, _, rfl, run_takeDeferred ((Vv (by omega)).trans ((Vv (by omega)).trans ((Vv (by omega)).trans ((Vv (by omega)).trans ((Vv (by omega)).trans ((Vv (by omega)).trans ((Vv (by omega)).trans hK))))))), ?_⟩⟩
        have s2 := (SP.sel e7 [0, 1, 2, 5] rfl rfl : SP [] w _ [Qw w.heap.size 24 #[.int .i64 wa, .int .i64 gr, .int .i64 id, .int .i64 le, .slice A d.length c], Qw (w.heap.size + 1) 27 #[.int .i64 0], Qw (w.heap.size + 1 + 1) 3 #[.int .i64 0], Yo A c d]).other (Jm _ (w.heap.size + 6) (.deferred none)) (by intro k hk; simp at hk; omega) (fun e he k hk hK' => by
          simp only [List.mem_cons, List.not_mem_nil, or_false] at he hK'
          rcases he with rfl | rfl | rfl | rfl
          · have hk' : k = w.heap.size := by simpa [Qw] using hk
            omega
          · have hk' : k = w.heap.size + 1 := by simpa [Qw] using hk
            omega
          · have hk' : k = w.heap.size + 1 + 1 := by simpa [Qw] using hk
            omega
          · have := h4 k hk
            omega)
        exact ⟨_, Uh rfl _ rfl rfl rfl (s2.get (i := 0) rfl) (s2.get (i := 1) rfl) (s2.get (i := 2) rfl) (v1 := .agg #[.int .i64 wa, .int .i64 gr, .int .i64 id, .int .i64 le, .slice A d.length c]) (v2 := .int .i64 0) (v3 := .int .i64 0) (by kernel_rfl) (by kernel_rfl) (by kernel_rfl), A, c, d, rfl, rfl, SP.sel s2 [3] rfl rfl⟩
    case stop =>
      rintro cc pre W hpre ⟨rfl, a, ha, hsp⟩ hK
      rw [hsz6] at hK
      unfold V1 at H
      rw [show decide (((List.length s : Nat) : Int) > 4096) = false from decide_eq_false (by omega)] at H
      have H : (Y0 (X6 s) st0P).bind _ = some r := H
      rw [ha] at H
      have H : some ((0 : Int), (0 : Int), (0 : Int), (0 : Int), ([] : List Qe), (91 : Int), a) = some r := H
      injection H with H
      subst H
      gi_wp2
      refine ⟨by simp, .inl ⟨_, _, rfl, run_takeDeferred hK, ?_⟩⟩
      have s2 := hsp.other (Jm W (w.heap.size + 6) (.deferred none)) (by intro k hk; simp at hk; omega) (fun e he k hk hK' => by
        simp only [List.mem_cons, List.not_mem_nil, or_false] at he hK'
        rcases he with rfl | rfl | rfl
        · have hk' : k = w.heap.size := by simpa [Qw] using hk
          omega
        · have hk' : k = w.heap.size + 1 := by simpa [Qw] using hk
          omega
        · have hk' : k = w.heap.size + 1 + 1 := by simpa [Qw] using hk
          omega)
      exact ⟨_, Uh rfl _ rfl rfl rfl (s2.get (i := 0) rfl) (s2.get (i := 1) rfl) (s2.get (i := 2) rfl) (v1 := .agg #[.int .i64 0, .int .i64 0, .int .i64 0, .int .i64 0, .slice none 0 0]) (v2 := .int .i64 91) (v3 := .int .i64 a) (by kernel_rfl) (by kernel_rfl) (by kernel_rfl), none, 0, [], rfl, rfl, (s2.nilten).erase 0 rfl |>.erase 0 rfl |>.erase 0 rfl⟩
end Go.Proofs.YtoflbpmbkmephaaGreatDoor
namespace Go.Proofs.YtoflbpmbkmephaaGreatDoor
open Go.RowKit
def En : List Str → Nj → Nat → Sum Nat (Nj × Nat)
  | [], c, n => .inr (c, n)
  | p :: ps, c, n => match Ek c (decide (n = 0)) (Qk 32 p) with
    | none => .inl n
    | some c' => En ps c' (n + 1)
def failC (e : Int) (n : Nat) : Int × Int × Int × Int × List Qe × Int × Int := (0, 0, 0, 0, [], e, (n : Int))
def finC (r : Sum Nat (Nj × Nat)) (rest : Str) : Int × Int × Int × Int × List Qe × Int × Int := match r with
  | .inl n => failC 91 n
  | .inr (c, n) => if rest ≠ [] ∨ n = 0 then failC 91 n else (c.1, c.2.1, c.2.2.1, c.2.2.2.1, c.2.2.2.2, 0, 0)
def J0 (s : Str) : Int × Int × Int × Int × List Qe × Int × Int :=
  if 4096 < s.length then failC 2 0 else finC (En (Qk 10 s).dropLast c0C 0) ((Qk 10 s).getLastD [])
theorem Cz {c c' : Nj} {f : Bool} {ws : List Str} (h : Ek c f ws = some c') : ∃ k q, ws = k :: q ∧ ((k == Za) == f) = true ∧ U7 c k q = some c' ∧ okC c' = true := by
  cases ws with
  | nil => cases h
  | cons k q =>
    have h : (if (k == Za) == f then (U7 c k q).filter okC else none) = some c' := h
    split at h
    · rename_i hf
      rw [Option.filter_eq_some_iff] at h
      exact ⟨k, q, rfl, hf, h.1, h.2⟩
    · cases h
theorem line_bnd {c c' : Nj} {f : Bool} {p : Str} (hc : Hn 0 c) (hp : p.length ≤ 5000) (h : Ek c f (Qk 32 p) = some c') : Hn 0 c' ∧ okC c' = true := by
  obtain ⟨k, q, hs, _, hw, ho⟩ := Cz h
  have hl := Jl 32 p
  rw [hs] at hl
  exact ⟨okC_bnd (Ho hc (fun w hm => Nat.le_trans (hl w (by simp [hm])) hp) hw) ho, ho⟩
theorem bnd_c0 : Hn 0 c0C := ⟨Nat.zero_le _, fun t ht => by cases ht⟩
theorem Bz : ∀ s : Str, X6 s = (Qk 10 s).dropLast.map (· ++ [10]) ++ (if (Qk 10 s).getLastD [] = [] then [] else [(Qk 10 s).getLastD []])
  | [] => rfl
  | x :: r => by
    have ih := Bz r
    unfold X6 Qk
    by_cases h : x = 10
    · subst h
      rw [if_pos rfl, if_pos rfl, ih]
      cases hs : Qk 10 r with
      | nil => exact absurd hs (Xm 10 r)
      | cons p ps => simp [List.dropLast, List.getLastD_cons]
    · rw [if_neg h, if_neg h, ih]
      cases hs : Qk 10 r with
      | nil => exact absurd hs (Xm 10 r)
      | cons p ps =>
        cases ps with
        | nil =>
          by_cases hp : p = []
          · subst hp; simp
          · simp [hp]
        | cons p2 ps => simp [List.dropLast, List.getLastD_cons]
def stC (c : Nj) (n : Nat) : StP := (c.1, c.2.1, c.2.2.1, c.2.2.2.1, c.2.2.2.2, (n : Int), false)
theorem B0 : ∀ (ps : List Str) (c : Nj) (n : Nat), Hn 0 c → (n = 0 → c = c0C) → n + ps.length ≤ 1000000 → (∀ p ∈ ps, p.length ≤ 5000) →
    Y0 (ps.map (· ++ [10])) (stC c n) = some (match En ps c n with | .inl a => .inl (a : Int) | .inr (c', n') => .inr (stC c' n')) ∧ (∀ c' n', En ps c n = .inr (c', n') → n' = n + ps.length ∧ Hn 0 c' ∧ (n' = 0 → c' = c0C) ∧ (0 < ps.length → okC c' = true))
  | [], c, n, hc, hn, _, _ => ⟨rfl, fun c' n' h => by
      injection h with h
      injection h with h1 h2
      subst h1 h2
      exact ⟨rfl, hc, hn, fun h => absurd h (by simp)⟩⟩
  | p :: ps, c, n, hc, hn, hl, hp => by
    obtain ⟨z, hz, hr⟩ := pLineB c n p hc hn (by simp at hl; omega) (hp p (by simp))
    have hz' : If (stC c n) (p ++ [10]) = some z := hz
    rw [List.map_cons, Y0, hz', Option.bind_some]
    unfold En
    cases hw : Ek c (decide (n = 0)) (Qk 32 p) with
    | none =>
      rw [hw] at hr
      have hr : z.1 = false := hr
      rw [hr]
      exact ⟨rfl, fun c' n' h => by cases h⟩
    | some c1 =>
      rw [hw] at hr
      have hr : z = (true, c1.1, c1.2.1, c1.2.2.1, c1.2.2.2.1, c1.2.2.2.2, ((n + 1 : Nat) : Int), false) := hr
      subst hr
      obtain ⟨b1, b2⟩ := line_bnd hc (hp p (by simp)) hw
      obtain ⟨h1, h2⟩ := B0 ps c1 (n + 1) b1 (fun h => by omega) (by simp at hl; omega) fun q hq => hp q (by simp [hq])
      refine ⟨h1, fun c' n' h => ?_⟩
      obtain ⟨e1, e2, e3, e4⟩ := h2 c' n' h
      refine ⟨by simp; omega, e2, e3, fun _ => ?_⟩
      cases ps with
      | nil =>
        injection h with h
        injection h with h3 _
        rw [← h3]
        exact b2
      | cons _ _ => exact e4 (by simp)
theorem Dm (c : UInt8) (s : Str) : Qk c s = (Qk c s).dropLast ++ [(Qk c s).getLastD []] := by
  have hne := Xm c s
  conv => lhs; rw [← List.dropLast_concat_getLast hne]
  rw [List.getLastD_eq_getLast?, List.getLast?_eq_some_getLast hne]
  rfl
theorem D9 (c : UInt8) : ∀ (s p : Str), p ∈ Qk c s → c ∉ p
  | [], p, h => by
    have : p = [] := by simpa [Qk] using h
    subst this
    simp
  | x :: r, p, h => by
    have ih := D9 c r
    unfold Qk at h
    by_cases hx : x = c
    · rw [if_pos hx] at h
      rcases List.mem_cons.1 h with rfl | h
      · simp
      · exact ih p h
    · rw [if_neg hx] at h
      cases hs : Qk c r with
      | nil => exact absurd hs (Xm c r)
      | cons q qs =>
        rw [hs] at h ih
        rcases List.mem_cons.1 h with rfl | h
        · have := ih q (by simp)
          simp only [List.mem_cons, not_or]
          exact ⟨fun e => hx e.symm, this⟩
        · exact ih p (by simp [h])
theorem pParse (s : Str) : V1 s = some (J0 s) := by
  unfold V1 J0
  by_cases hl : 4096 < s.length
  · rw [if_pos hl, show decide (((List.length s : Nat) : Int) > 4096) = true from decide_eq_true (by omega), cond_true]
    rfl
  · rw [if_neg hl, show decide (((List.length s : Nat) : Int) > 4096) = false from decide_eq_false (by omega), cond_false]
    have hlen := Jl 10 s
    have hcnt := U3 10 s
    have hc2 : s.count 10 ≤ s.length := List.count_le_length
    have hps : ∀ p ∈ (Qk 10 s).dropLast, p.length ≤ 5000 := fun p hp => by have := hlen p (List.dropLast_subset _ hp); omega
    have hdl : (Qk 10 s).dropLast.length = s.count 10 := by rw [List.length_dropLast]; omega
    obtain ⟨h1, h2⟩ := B0 (Qk 10 s).dropLast c0C 0 bnd_c0 (fun _ => rfl) (by omega) hps
    rw [Bz, Ny, show st0P = stC c0C 0 from rfl, h1, Option.bind_some]
    have hlast := Dm 10 s
    have hmem : (Qk 10 s).getLastD [] ∈ Qk 10 s := by
      rw [List.getLastD_eq_getLast?, List.getLast?_eq_some_getLast (Xm 10 s)]
      exact List.getLast_mem _
    cases hr : En (Qk 10 s).dropLast c0C 0 with
    | inl a => rfl
    | inr cn =>
      obtain ⟨c, n⟩ := cn
      obtain ⟨e1, e2, e3, e4⟩ := h2 c n hr
      by_cases hrest : (Qk 10 s).getLastD [] = []
      · rw [if_pos hrest]
        simp only [Y0, Option.bind_some, finC, hrest, ne_eq, not_true_eq_false, false_or]
        by_cases hn : n = 0
        · subst hn
          rfl
        · rw [if_neg hn, show ((stC c n).2.2.2.2.2.1 == 0) = false by rw [beq_eq_false_iff_ne]; show (n : Int) ≠ 0; omega]
          rfl
      · rw [if_neg hrest]
        have h10 := D9 10 s _ hmem
        obtain ⟨z, hz, hz1⟩ := pLineE c (n : Int) ((Qk 10 s).getLastD []) (by have := hlen _ hmem; omega) (fun e => h10 (List.mem_of_getLast? e))
        have hz' : If (stC c n) ((Qk 10 s).getLastD []) = some z := hz
        simp only [Y0, hz', Option.bind_some, hz1, cond_false, finC]
        rw [if_pos (.inl hrest)]
        rfl
theorem byte10 (c : UInt8) : (((c.toNat : Nat) : Int) == 10) = (c == 10) := by
  by_cases h : c = 10
  · subst h; rfl
  · rw [beq_eq_false_iff_ne.2 h, beq_eq_false_iff_ne]
    intro e
    apply h
    apply UInt8.toNat_inj.1
    show c.toNat = 10
    omega
end Go.Proofs.YtoflbpmbkmephaaGreatDoor
namespace Go.Proofs.YtoflbpmbkmephaaGreatDoor
open Go.RowKit
def bl_ren : Go.Shelf.Ren := ⟨fun | 240 => 105 | 276 => 150 | n => n, fun | 70 => 91 | 72 => 93 | 164 => 175 | 20 => 20 | 9 => 9 | 4 => 4 | 37 => 48 | 5 => 5 | n => n, fun | n => n⟩
theorem bl_lays : Go.Proofs.Lays.n240 Tryz.prog bl_ren := {
  mixed := by kernel_rfl
  f240 := Tryz.func105.trans (congrArg some (by kernel_rfl))
  f276 := Tryz.func150.trans (congrArg some (by kernel_rfl))
  t0 := Tryz.underlying0
  a0 := Tryz.isAgg0
  z0 := Tryz.sizeOf0
  v0 := Tryz.zeroValue0
  t4 := Tryz.underlying4
  a4 := Tryz.isAgg4
  z4 := Tryz.sizeOf4
  v4 := Tryz.zeroValue4
  t9 := Tryz.underlying9
  a9 := Tryz.isAgg9
  z9 := Tryz.sizeOf9
  v9 := Tryz.zeroValue9
  t20 := Tryz.underlying20
  a20 := Tryz.isAgg20
  z20 := Tryz.sizeOf20
  v20 := Tryz.zeroValue20
  t70 := Tryz.underlying91
  a70 := Tryz.isAgg91
  z70 := Tryz.sizeOf91
  v70 := Tryz.zeroValue91
  t72 := Tryz.underlying93
  a72 := Tryz.isAgg93
  z72 := Tryz.sizeOf93
  v72 := Tryz.zeroValue93
  t164 := Tryz.underlying175
  a164 := Tryz.isAgg175
  z164 := Tryz.sizeOf175
  v164 := Tryz.zeroValue175 }
theorem bl_x : Builder.X72 Tryz.prog bl_ren := { sizeBuilder := by kernel_rfl, liesBuilder := by kernel_rfl }
def BP (g : Nat) (v : Value) : Prop := v = .pointer none ∨ v = .pointer (some ⟨g, 0, none⟩)
theorem Cg {S : List Nat} {g : Nat} {v x : Value} {w w0 : World} {es : List Ent} (hv : BP g v) (hs : SP S w0 w es) {i : Nat} (hi : es[i]? = some (Qw g 93 #[v, x])) :
    Calls Tryz.prog 105 #[.pointer (some ⟨g, 0, none⟩)] w (fun e w' => e = .returned (.tuple #[]) ∧ SP S w0 w' (es.set i (Qw g 93 #[.pointer (some ⟨g, 0, none⟩), x]))) := by
  have hg : w.heap[g]? = some (.cells #[v, x] 93 (0, 0)) := hs.get hi
  rcases hv with rfl | rfl
  · refine (Any.Builder_copyCheck_fresh bl_lays bl_x g w (by rw [cell_of_row w g 0 _ _ _ hg]; rfl) (by simp [World.shape?, hg]; rfl) (by simp [World.frozen?, hg])).mono ?_
    rintro e w' ⟨rfl, rfl⟩
    refine ⟨rfl, ?_⟩
    have hlt : g < w.heap.size := (Array.getElem?_eq_some_iff.1 hg).1
    refine hs.set hi (T := [g]) ((Mod.refl [g] w).setCell (p := ⟨g, 0, none⟩) (.inl (by simp)) _) (fun k hk => hk) ?_ fun k hk => ⟨.inl hk, ?_⟩
    · show (w.setCell ⟨g, 0, none⟩ _).heap[g]? = _
      simp [World.setCell, hg, Array.getElem?_modify]
    · have : k = g := by simpa [Qw] using hk
      subst this
      simpa [World.setCell] using hlt
  · refine (Any.Builder_copyCheck_used bl_lays bl_x g w (by rw [cell_of_row w g 0 _ _ _ hg]; rfl)).mono ?_
    rintro e w' ⟨rfl, rfl⟩
    refine ⟨rfl, ?_⟩
    have : es.set i (Qw g 93 #[.pointer (some ⟨g, 0, none⟩), x]) = es := by
      apply List.ext_getElem?
      intro j
      rw [List.getElem?_set]
      split
      · rename_i hij; subst hij
        split
        · exact hi.symm
        · rename_i hge; rw [List.getElem?_eq_none (by omega)]
      · rfl
    rw [this]
    exact hs
theorem Ig {g : Nat} {v : Value} {A : Option Addr} {c : Nat} {l : List UInt8} {w w0 : World} {es : List Ent} (hs : SP [] w0 w es) {i j : Nat} (hi : es[i]? = some (Qw g 93 #[v, .slice A (List.length l) c])) (hj : es[j]? = some (Q7 5 eU8 A c l)) (hij : i ≠ j) (hv : BP g v) :
    Calls Tryz.prog 62 #[.pointer (some ⟨g, 0, none⟩)] w (fun e w' => e = .returned (.string ⟨List.toArray l⟩) ∧ SP [] w0 w' []) := by
  have hg : w.heap[g]? = some (.cells #[v, .slice A (List.length l) c] 93 (0, 0)) := hs.get hi
  have hr : w.ownsRow 0 5 1 (.slice A l.length c) l.length (Q5 eU8 l) := hs.get hj
  have hb : w0.heap.size ≤ g := by
    rcases ((hs.own.get hi).2 g (by simp [Qw])).1 with h | h
    · exact h
    · cases h
  have hap := hs.own.apart hi hj hij
  have hcells : Q5 eU8 l = Lib.byteCells l := C6 l
  have hown : w.ownsRow w0.heap.size 5 1 (.slice A l.length c) (Lib.byteCells l).length (Lib.byteCells l) := by
    rw [← hcells, Zj, show eU8.sz = 1 from rfl, Nat.mul_one]
    refine ⟨hr.1, ?_⟩
    rcases hr.2 with h | ⟨q, cap, cur, h1, h2, h3⟩
    · exact .inl h
    · refine .inr ⟨q, cap, cur, h1, ?_, h3⟩
      injection h1 with h1 _ _
      subst h1
      rcases ((hs.own.get hj).2 q (by simp [Q7, row, Value.ownBlock])).1 with h | h
      · exact h
      · cases h
  have hne : (Value.slice A l.length c).ownBlock ≠ some g := by
    intro h
    exact hap g (by simp [Qw]) (by simp [Q7, row, h])
  have hat : Lib.BuilderAt 93 5 w0.heap.size g v (Lib.byteCells l) w := ⟨hb, _, hg, hown, hne⟩
  refine (Tryz.Builder_String_any w0.heap.size g l w ?_ hs.mod.size).mono ?_
  · rcases hv with rfl | rfl
    · exact .inl hat
    · exact .inr hat
  · rintro e w' ⟨rfl, hb'⟩
    refine ⟨rfl, ⟨?_, trivial⟩⟩
    exact Zs (hs.keeps.trans hb') []
end Go.Proofs.YtoflbpmbkmephaaGreatDoor
