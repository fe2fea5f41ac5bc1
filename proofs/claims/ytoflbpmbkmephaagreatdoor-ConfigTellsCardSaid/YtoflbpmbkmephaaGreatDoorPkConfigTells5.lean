import Derived.Test.YtoflbpmbkmephaaGreatDoorPkConfigTells4
set_option linter.unusedSimpArgs false
set_option linter.unusedVariables false
set_option linter.unusedSectionVars false
set_option maxRecDepth 100000
set_option maxHeartbeats 40000000
namespace Go.Proofs.YtoflbpmbkmephaaGreatDoor
open Go.RowKit
def Uv (b : Int) (c : Int) (d : Int) (e : Int) (a : (List Qb)) (f : (List UInt8)) (g : Int) (h : Int) (i : (List (Int × Int))) (j : (List ((List UInt8) × (List UInt8) × Int))) : Option (Int × Int × Int × Int × (List Qb)) :=
  ((sub a 0 (IntKind.wrap .i64 (((List.length a : Nat) : Int) - 1))).bind fun k => ((app ([] : List Qb) k).bind fun l => ((app l ([(f, g, h, i, j)] : List Qb)).bind fun m => (some (b, c, d, e, m)))))
set_option maxHeartbeats 40000000 in
theorem Du {R : World → Prop} (A6 : Option Addr) (c7 : Nat) (z : Option Addr) (a0 : Nat) (a1 : Option Addr) (a2 : Nat) (a5 : Int) (a6 : Int) (a7 : Int) (a8 : Int) (d9 : (List Qg)) (p : Bs) (q : Int) (u : Int) (f : (List (Int × Int))) (o : (List Tk)) (w0 : World) (hR : ∀ w, Below w0.heap.size w0 w → R w) (b2 : ∀ w, R w → (dDS Vu Fv).ok w (A6, c7, d9)) (f3 : ∀ w, R w → RdT (Qf (Qv .u32) (Qv .i64)) w z a0 f) (f4 : ∀ w, R w → RdT (Qf Qj (Qf Qj (Qv .i64))) w a1 a2 o) (r : (Int × Int × Int × Int × (List Qb))) (H : Uv a5 a6 a7 a8 (mT d9) p q u f o = some r) :
  Calls Tryz.prog 94 #[(.agg #[(iv a5), (iv a6), (iv a7), (iv a8), (lv A6 (mT d9) c7)]), (.agg #[(sv p), (iv q), (iv u), (lv z f a0), (lv a1 o a2)])] w0 (fun e W => ∃ (d6 : Option Addr) (d7 : Nat) (E23 : Ent), e = .returned (.agg #[(iv r.1), (iv r.2.1), (iv r.2.2.1), (iv r.2.2.2.1), (lv d6 r.2.2.2.2 d7)]) ∧ Yv R E23 d6 d7 r.2.2.2.2 ∧ SP [] w0 W [E23]) := by
 unfold Uv at H
 refine Qt (n := 21) Tryz.func94 K K K ?_
 have f5 := Qw [] w0
 refine aC ?_
 refine iS 1 ?_
 refine zB 24 (.tmp 0) (.agg #[(iv a5), (iv a6), (iv a7), (iv a8), (lv A6 (mT d9) c7)]) 2 f5 ?_
 intro a3 k6 f6
 refine iS 2 ?_
 refine zB 33 (.tmp 1) (.agg #[(sv p), (iv q), (iv u), (lv z f a0), (lv a1 o a2)]) 3 f6 ?_
 intro b3 k7 f7
 refine iS 3 ?_
 refine zA 24 (.agg #[(iv 0), (iv 0), (iv 0), (iv 0), (lv none ([] : List Qb) 0)]) 4 f7 ?_
 intro c8 k8 d8
 refine iF ?_
 refine aC ?_
 refine iR 1 1 [(6, (pt a3 4))] ?_
 refine jL 2 22 6 a3 4 0 (lv A6 (mT d9) c7) 7 d8 rfl ?_
 refine iR 3 5 [(8, (iv (ln (mT d9)))), (9, (iv (IntKind.wrap .i64 ((ln (mT d9)) - 1)))), (5, (iv (IntKind.wrap .i64 ((ln (mT d9)) - 1))))] ?_
 refine iF ?_
 refine aQ ?_
 obtain ⟨b4, b5, b6, H⟩ := G9 H
 have hyl44 : (List.drop (Int.toNat 0) (List.take (Int.toNat (IntKind.wrap .i64 ((ln (mT d9)) - 1))) (mT d9))) = (mT (List.drop (Int.toNat 0) (List.take (Int.toNat (IntKind.wrap .i64 ((ln (mT d9)) - 1))) d9))) := map_cut
 rw [hyl44] at H
 obtain ⟨hl45, H⟩ := Zx H
 rw [show ([] : List Qb) ++ (mT (List.drop (Int.toNat 0) (List.take (Int.toNat (IntKind.wrap .i64 ((ln (mT d9)) - 1))) d9))) = (mT (([] : List Qg) ++ (List.drop (Int.toNat 0) (List.take (Int.toNat (IntKind.wrap .i64 ((ln (mT d9)) - 1))) d9)))) from I8 (l := ([] : List Qg)) (m := (List.drop (Int.toNat 0) (List.take (Int.toNat (IntKind.wrap .i64 ((ln (mT d9)) - 1))) d9)))] at H
 obtain ⟨hl56, H⟩ := Zx H
 rw [show (mT (([] : List Qg) ++ (List.drop (Int.toNat 0) (List.take (Int.toNat (IntKind.wrap .i64 ((ln (mT d9)) - 1))) d9)))) ++ ([(p, q, u, f, o)] : List Qb) = (mT ((([] : List Qg) ++ (List.drop (Int.toNat 0) (List.take (Int.toNat (IntKind.wrap .i64 ((ln (mT d9)) - 1))) d9))) ++ ([(p, q, u, (z, a0, f), (a1, a2, o))] : List Qg))) from I8 (l := (([] : List Qg) ++ (List.drop (Int.toNat 0) (List.take (Int.toNat (IntKind.wrap .i64 ((ln (mT d9)) - 1))) d9)))) (m := ([(p, q, u, (z, a0, f), (a1, a2, o))] : List Qg))] at H
 refine aG [Ry, GEq (pt a3 4), GEq (lv A6 (mT d9) c7), GEq (iv (IntKind.wrap .i64 ((ln (mT d9)) - 1))), GEq (lv (K3 Vu.sz c7 (Int.toNat 0) A6) (mT (List.drop (Int.toNat 0) (List.take (Int.toNat (IntKind.wrap .i64 ((ln (mT d9)) - 1))) d9))) (c7 - Int.toNat 0)), Ry, GEq (.agg #[(sv p), (iv q), (iv u), (lv z f a0), (lv a1 o a2)]), Ry, Ry, GEq (pt a3 4), Ry] [0, 5, 7, 8, 10] ((fun (X0 X1 X2 : Ent) => [([], fun vs w => VL vs [] ∧ SP [] w0 w [X0, X1, X2]), ([0], fun vs w => ∃ (a4 : Nat), VL vs [(lv (some ⟨a4, 0, none⟩) ([] : List Qb) (List.length ([] : List Qb)))] ∧ SP [] w0 w [X0, X1, X2, Vh 33 Vu (some ⟨a4, 0, none⟩) (List.length ([] : List Qb)) ([] : List Qg)]), ([7], fun vs w => ∃ (b9 : Nat), VL vs [(lv (some ⟨b9, 0, none⟩) ([(p, q, u, f, o)] : List Qb) (List.length ([(p, q, u, f, o)] : List Qb)))] ∧ SP [] w0 w [X0, X1, X2, Vh 33 Vu (some ⟨b9, 0, none⟩) (List.length ([(p, q, u, f, o)] : List Qb)) ([(p, q, u, (z, a0, f), (a1, a2, o))] : List Qg)]), ([0, 5], fun vs w => ∃ (c9 : Nat), ∃ (c5 : Option Addr), ∃ (c6 : Nat), VL vs [(lv (some ⟨c9, 0, none⟩) ([] : List Qb) (List.length ([] : List Qb))), (lv c5 (mT (([] : List Qg) ++ (List.drop (Int.toNat 0) (List.take (Int.toNat (IntKind.wrap .i64 ((ln (mT d9)) - 1))) d9)))) c6)] ∧ SP [] w0 w [X0, X1, X2, Vh 33 Vu c5 c6 (([] : List Qg) ++ (List.drop (Int.toNat 0) (List.take (Int.toNat (IntKind.wrap .i64 ((ln (mT d9)) - 1))) d9)))]), ([0, 7], fun vs w => ∃ (b1 : Nat), ∃ (c0 : Nat), VL vs [(lv (some ⟨b1, 0, none⟩) ([] : List Qb) (List.length ([] : List Qb))), (lv (some ⟨c0, 0, none⟩) ([(p, q, u, f, o)] : List Qb) (List.length ([(p, q, u, f, o)] : List Qb)))] ∧ SP [] w0 w [X0, X1, X2, Vh 33 Vu (some ⟨b1, 0, none⟩) (List.length ([] : List Qb)) ([] : List Qg), Vh 33 Vu (some ⟨c0, 0, none⟩) (List.length ([(p, q, u, f, o)] : List Qb)) ([(p, q, u, (z, a0, f), (a1, a2, o))] : List Qg)]), ([0, 5, 7], fun vs w => ∃ (d1 : Nat), ∃ (c1 : Option Addr), ∃ (c3 : Nat), ∃ (c4 : Nat), VL vs [(lv (some ⟨d1, 0, none⟩) ([] : List Qb) (List.length ([] : List Qb))), (lv c1 (mT (([] : List Qg) ++ (List.drop (Int.toNat 0) (List.take (Int.toNat (IntKind.wrap .i64 ((ln (mT d9)) - 1))) d9)))) c3), (lv (some ⟨c4, 0, none⟩) ([(p, q, u, f, o)] : List Qb) (List.length ([(p, q, u, f, o)] : List Qb)))] ∧ SP [] w0 w [X0, X1, X2, Vh 33 Vu c1 c3 (([] : List Qg) ++ (List.drop (Int.toNat 0) (List.take (Int.toNat (IntKind.wrap .i64 ((ln (mT d9)) - 1))) d9))), Vh 33 Vu (some ⟨c4, 0, none⟩) (List.length ([(p, q, u, f, o)] : List Qb)) ([(p, q, u, (z, a0, f), (a1, a2, o))] : List Qg)]), ([0, 5, 7, 8], fun vs w => ∃ (d2 : Nat), ∃ (d3 : Option Addr), ∃ (d4 : Nat), ∃ (d0 : Nat), ∃ (b7 : Option Addr), ∃ (b8 : Nat), VL vs [(lv (some ⟨d2, 0, none⟩) ([] : List Qb) (List.length ([] : List Qb))), (lv d3 (mT (([] : List Qg) ++ (List.drop (Int.toNat 0) (List.take (Int.toNat (IntKind.wrap .i64 ((ln (mT d9)) - 1))) d9)))) d4), (lv (some ⟨d0, 0, none⟩) ([(p, q, u, f, o)] : List Qb) (List.length ([(p, q, u, f, o)] : List Qb))), (lv b7 (mT ((([] : List Qg) ++ (List.drop (Int.toNat 0) (List.take (Int.toNat (IntKind.wrap .i64 ((ln (mT d9)) - 1))) d9))) ++ ([(p, q, u, (z, a0, f), (a1, a2, o))] : List Qg))) b8)] ∧ SP [] w0 w [X0, X1, X2, Vh 33 Vu b7 b8 ((([] : List Qg) ++ (List.drop (Int.toNat 0) (List.take (Int.toNat (IntKind.wrap .i64 ((ln (mT d9)) - 1))) d9))) ++ ([(p, q, u, (z, a0, f), (a1, a2, o))] : List Qg)), Vh 33 Vu (some ⟨d0, 0, none⟩) (List.length ([(p, q, u, f, o)] : List Qb)) ([(p, q, u, (z, a0, f), (a1, a2, o))] : List Qg)]), ([0, 5, 7, 8, 10], fun vs w => ∃ (e0 : Nat), ∃ (e1 : Option Addr), ∃ (e2 : Nat), ∃ (d5 : Nat), ∃ (a9 : Option Addr), ∃ (b0 : Nat), VL vs [(lv (some ⟨e0, 0, none⟩) ([] : List Qb) (List.length ([] : List Qb))), (lv e1 (mT (([] : List Qg) ++ (List.drop (Int.toNat 0) (List.take (Int.toNat (IntKind.wrap .i64 ((ln (mT d9)) - 1))) d9)))) e2), (lv (some ⟨d5, 0, none⟩) ([(p, q, u, f, o)] : List Qb) (List.length ([(p, q, u, f, o)] : List Qb))), (lv a9 (mT ((([] : List Qg) ++ (List.drop (Int.toNat 0) (List.take (Int.toNat (IntKind.wrap .i64 ((ln (mT d9)) - 1))) d9))) ++ ([(p, q, u, (z, a0, f), (a1, a2, o))] : List Qg))) b0), undef] ∧ SP [] w0 w [Qs a3 24 #[(iv a5), (iv a6), (iv a7), (iv a8), (lv a9 (mT ((([] : List Qg) ++ (List.drop (Int.toNat 0) (List.take (Int.toNat (IntKind.wrap .i64 ((ln (mT d9)) - 1))) d9))) ++ ([(p, q, u, (z, a0, f), (a1, a2, o))] : List Qg))) b0)], X1, X2, Vh 33 Vu a9 b0 ((([] : List Qg) ++ (List.drop (Int.toNat 0) (List.take (Int.toNat (IntKind.wrap .i64 ((ln (mT d9)) - 1))) d9))) ++ ([(p, q, u, (z, a0, f), (a1, a2, o))] : List Qg)), Vh 33 Vu (some ⟨d5, 0, none⟩) (List.length ([(p, q, u, f, o)] : List Qb)) ([(p, q, u, (z, a0, f), (a1, a2, o))] : List Qg)])]) (Qs a3 24 #[(iv a5), (iv a6), (iv a7), (iv a8), (lv A6 (mT d9) c7)]) (Qs b3 33 #[(sv p), (iv q), (iv u), (lv z f a0), (lv a1 o a2)]) (Qs c8 24 #[(iv 0), (iv 0), (iv 0), (iv 0), (lv none ([] : List Qb) 0)])) 11 7 ⟨trivial, SP.drew d8⟩ ?_ ?_
 iterate 11 refine And.intro ?_ ?_
 exact trivial
 ·refine Owe.heavy K [(0, 1), (2, 4)] K (Qc ⟨K, K, ?_⟩ (Qc ⟨K, K, ?_⟩ Qq))
  ·rintro P W hs y ⟨-, f8⟩
   refine kN [] trivial fun v => ?_
   refine zN Vu 22 33 0 #[] #[] ([] : List Qg) 10 f8 ?_
   intro f9 k9 g0
   refine ⟨_, Qa v, trivial, ?_⟩
   exact (ei f9 (ai (ai rfl (trivial)) g0))
  rintro P W hs y ⟨b9, ⟨g1, -⟩, g2⟩
  refine kN [] trivial fun v => ?_
  refine zN Vu 22 33 0 #[] #[] ([] : List Qg) 10 g2 ?_
  intro g3 l0 g4
  refine ⟨_, Qa v, trivial, ?_⟩
  exact (ei g3 (ei b9 (ai (ai rfl (ai g1 (trivial))) (SP.sel g4 [0, 1, 2, 4, 3] rfl rfl))))
 ·exact oU (hC (hS 2 (pt a3 0)) (h0))
 ·refine Owe.light K [0, 1, 2, 4] K (Qc ?_ (Qc ?_ (Qc ?_ (Qc ?_ Qq))))
  ·rintro P W hs y ⟨-, g5⟩
   refine kM (kc (kA y 1 11) k0) fun v => ?_
   refine sL 22 11 a3 4 0 (lv A6 (mT d9) c7) 12 g5 rfl ?_
   exact eK v
  ·rintro P W hs y ⟨a4, ⟨l1, -⟩, g6⟩
   refine kM (kc (kA y 1 11) k0) fun v => ?_
   refine sL 22 11 a3 4 0 (lv A6 (mT d9) c7) 12 g6 rfl ?_
   exact eK v
  ·rintro P W hs y ⟨b9, ⟨l2, -⟩, g7⟩
   refine kM (kc (kA y 1 11) k0) fun v => ?_
   refine sL 22 11 a3 4 0 (lv A6 (mT d9) c7) 12 g7 rfl ?_
   exact eK v
  rintro P W hs y ⟨b1, c0, ⟨l3, l4, -⟩, g8⟩
  refine kM (kc (kA y 1 11) k0) fun v => ?_
  refine sL 22 11 a3 4 0 (lv A6 (mT d9) c7) 12 g8 rfl ?_
  exact eK v
 ·exact oU (hC (hS 5 (iv (IntKind.wrap .i64 ((ln (mT d9)) - 1)))) (h0))
 ·refine Owe.light K [0, 1, 2, 4] K (Qc ?_ (Qc ?_ (Qc ?_ (Qc ?_ Qq))))
  ·rintro P W hs y ⟨-, g9⟩
   refine kM (kc (kA y 2 12) (kc (kA y 3 13) k0)) fun v => ?_
   refine Cj stT (e := Vu) (l := d9) (A := A6) (c := c7) (T := 22) (E := 33) (x := (.tmp 12)) (lo := none) (hi := (some (.tmp 13))) (i := 0) (j := (IntKind.wrap .i64 ((ln (mT d9)) - 1))) (d := (some 14)) (k := 4) K rfl K K K rfl ⟨.i64, K⟩ (RdX.le ((fun w hm => (Zh (b2 w hm))) W (hR _ (SP.keeps g9)))) b4 b5 b6 ?_
   exact eK v
  ·rintro P W hs y ⟨a4, ⟨l5, -⟩, h1⟩
   refine kM (kc (kA y 2 12) (kc (kA y 3 13) k0)) fun v => ?_
   refine Cj stT (e := Vu) (l := d9) (A := A6) (c := c7) (T := 22) (E := 33) (x := (.tmp 12)) (lo := none) (hi := (some (.tmp 13))) (i := 0) (j := (IntKind.wrap .i64 ((ln (mT d9)) - 1))) (d := (some 14)) (k := 4) K rfl K K K rfl ⟨.i64, K⟩ (RdX.le ((fun w hm => (Zh (b2 w hm))) W (hR _ (SP.keeps h1)))) b4 b5 b6 ?_
   exact eK v
  ·rintro P W hs y ⟨b9, ⟨l6, -⟩, h2⟩
   refine kM (kc (kA y 2 12) (kc (kA y 3 13) k0)) fun v => ?_
   refine Cj stT (e := Vu) (l := d9) (A := A6) (c := c7) (T := 22) (E := 33) (x := (.tmp 12)) (lo := none) (hi := (some (.tmp 13))) (i := 0) (j := (IntKind.wrap .i64 ((ln (mT d9)) - 1))) (d := (some 14)) (k := 4) K rfl K K K rfl ⟨.i64, K⟩ (RdX.le ((fun w hm => (Zh (b2 w hm))) W (hR _ (SP.keeps h2)))) b4 b5 b6 ?_
   exact eK v
  rintro P W hs y ⟨b1, c0, ⟨l7, l8, -⟩, h3⟩
  refine kM (kc (kA y 2 12) (kc (kA y 3 13) k0)) fun v => ?_
  refine Cj stT (e := Vu) (l := d9) (A := A6) (c := c7) (T := 22) (E := 33) (x := (.tmp 12)) (lo := none) (hi := (some (.tmp 13))) (i := 0) (j := (IntKind.wrap .i64 ((ln (mT d9)) - 1))) (d := (some 14)) (k := 4) K rfl K K K rfl ⟨.i64, K⟩ (RdX.le ((fun w hm => (Zh (b2 w hm))) W (hR _ (SP.keeps h3)))) b4 b5 b6 ?_
  exact eK v
 ·refine Owe.heavy K [(1, 3), (4, 5)] K (Qc ⟨K, K, ?_⟩ (Qc ⟨K, K, ?_⟩ Qq))
  ·rintro P W hs y ⟨a4, ⟨e3, -⟩, e4⟩
   refine kN [(10, (lv (some ⟨a4, 0, none⟩) ([] : List Qb) (List.length ([] : List Qb)))), (14, (lv (K3 Vu.sz c7 (Int.toNat 0) A6) (mT (List.drop (Int.toNat 0) (List.take (Int.toNat (IntKind.wrap .i64 ((ln (mT d9)) - 1))) d9))) (c7 - Int.toNat 0)))] ⟨(Qr (h := 0) K).symm.trans e3, y 4 14 K, trivial⟩ fun v => ?_
   refine De stT (e := Vu) (l := ([] : List Qg)) (m := (List.drop (Int.toNat 0) (List.take (Int.toNat (IntKind.wrap .i64 ((ln (mT d9)) - 1))) d9))) (A := (some ⟨a4, 0, none⟩)) (c := (List.length ([] : List Qb))) (A2 := (K3 Vu.sz c7 (Int.toNat 0) A6)) (c2 := (c7 - Int.toNat 0)) (T := 22) (TX := 22) (E := 33) (E2 := 33) (b := 80) (s := (.tmp 10)) (x := (.tmp 14)) (i := 3) (d := (some 15)) (k := 5) K rfl K K K K rfl e4 rfl K ((fun w hm => (Zh ((fun w hm => (ds_cut b4 b5 (Mp b6) (b2 w hm))) w hm))) W (hR _ (SP.keeps e4))) hl45 ?_
   intro h4 h5 l9 h6
   refine ⟨_, Qa v, trivial, ?_⟩
   exact (ei a4 (ei h4 (ei h5 (ai (ai e3 (ai rfl (trivial))) h6))))
  rintro P W hs y ⟨b1, c0, ⟨e5, h7, -⟩, e6⟩
  refine kN [(10, (lv (some ⟨b1, 0, none⟩) ([] : List Qb) (List.length ([] : List Qb)))), (14, (lv (K3 Vu.sz c7 (Int.toNat 0) A6) (mT (List.drop (Int.toNat 0) (List.take (Int.toNat (IntKind.wrap .i64 ((ln (mT d9)) - 1))) d9))) (c7 - Int.toNat 0)))] ⟨(Qr (h := 0) K).symm.trans e5, y 4 14 K, trivial⟩ fun v => ?_
  refine De stT (e := Vu) (l := ([] : List Qg)) (m := (List.drop (Int.toNat 0) (List.take (Int.toNat (IntKind.wrap .i64 ((ln (mT d9)) - 1))) d9))) (A := (some ⟨b1, 0, none⟩)) (c := (List.length ([] : List Qb))) (A2 := (K3 Vu.sz c7 (Int.toNat 0) A6)) (c2 := (c7 - Int.toNat 0)) (T := 22) (TX := 22) (E := 33) (E2 := 33) (b := 80) (s := (.tmp 10)) (x := (.tmp 14)) (i := 3) (d := (some 15)) (k := 5) K rfl K K K K rfl e6 rfl K ((fun w hm => (Zh ((fun w hm => (ds_cut b4 b5 (Mp b6) (b2 w hm))) w hm))) W (hR _ (SP.keeps e6))) hl45 ?_
  intro h8 h9 m0 i0
  refine ⟨_, Qa v, trivial, ?_⟩
  exact (ei b1 (ei h8 (ei h9 (ei c0 (ai (ai e5 (ai rfl (ai h7 (trivial)))) i0)))))
 ·refine Owe.light K [0, 1, 3] K (Qc ?_ (Qc ?_ (Qc ?_ Qq)))
  ·rintro P W hs y ⟨-, i1⟩
   refine kM (kc (kS hs 3 (pt b3 0)) k0) fun v => ?_
   refine sL 33 3 b3 0 1 (.agg #[(sv p), (iv q), (iv u), (lv z f a0), (lv a1 o a2)]) 16 i1 rfl ?_
   exact eK v
  ·rintro P W hs y ⟨a4, ⟨m1, -⟩, i2⟩
   refine kM (kc (kS hs 3 (pt b3 0)) k0) fun v => ?_
   refine sL 33 3 b3 0 1 (.agg #[(sv p), (iv q), (iv u), (lv z f a0), (lv a1 o a2)]) 16 i2 rfl ?_
   exact eK v
  rintro P W hs y ⟨c9, c5, c6, ⟨m2, m3, -⟩, i3⟩
  refine kM (kc (kS hs 3 (pt b3 0)) k0) fun v => ?_
  refine sL 33 3 b3 0 1 (.agg #[(sv p), (iv q), (iv u), (lv z f a0), (lv a1 o a2)]) 16 i3 rfl ?_
  exact eK v
 ·refine Owe.heavy K [(0, 2), (1, 4), (3, 5)] K (Qc ⟨K, K, ?_⟩ (Qc ⟨K, K, ?_⟩ (Qc ⟨K, K, ?_⟩ Qq)))
  ·rintro P W hs y ⟨-, i4⟩
   refine kM (kc (kA y 6 16) k0) fun v => ?_
   refine zN Vu 22 33 1 #[(0, (.tmp 16))] #[(sv p), (iv q), (iv u), (lv z f a0), (lv a1 o a2)] ([(p, q, u, (z, a0, f), (a1, a2, o))] : List Qg) 17 i4 ?_
   intro i5 m4 i6
   refine ⟨_, Qa v, trivial, ?_⟩
   exact (ei i5 (ai (ai rfl (trivial)) i6))
  ·rintro P W hs y ⟨a4, ⟨i7, -⟩, i8⟩
   refine kM (kc (kA y 6 16) k0) fun v => ?_
   refine zN Vu 22 33 1 #[(0, (.tmp 16))] #[(sv p), (iv q), (iv u), (lv z f a0), (lv a1 o a2)] ([(p, q, u, (z, a0, f), (a1, a2, o))] : List Qg) 17 i8 ?_
   intro i9 m5 j0
   refine ⟨_, Qa v, trivial, ?_⟩
   exact (ei a4 (ei i9 (ai (ai i7 (ai rfl (trivial))) j0)))
  rintro P W hs y ⟨c9, c5, c6, ⟨j1, j2, -⟩, j3⟩
  refine kM (kc (kA y 6 16) k0) fun v => ?_
  refine zN Vu 22 33 1 #[(0, (.tmp 16))] #[(sv p), (iv q), (iv u), (lv z f a0), (lv a1 o a2)] ([(p, q, u, (z, a0, f), (a1, a2, o))] : List Qg) 17 j3 ?_
  intro j4 m6 j5
  refine ⟨_, Qa v, trivial, ?_⟩
  exact (ei c9 (ei c5 (ei c6 (ei j4 (ai (ai j1 (ai j2 (ai rfl (trivial)))) j5)))))
 ·refine oH 5 6 ?_
  rintro P W hs y ⟨d1, c1, c3, c4, ⟨j6, e7, e8, -⟩, e9⟩
  refine kN [(15, (lv c1 (mT (([] : List Qg) ++ (List.drop (Int.toNat 0) (List.take (Int.toNat (IntKind.wrap .i64 ((ln (mT d9)) - 1))) d9)))) c3)), (17, (lv (some ⟨c4, 0, none⟩) ([(p, q, u, f, o)] : List Qb) (List.length ([(p, q, u, f, o)] : List Qb))))] ⟨(Qr (h := 5) K).symm.trans e7, (Qr (h := 7) K).symm.trans e8, trivial⟩ fun v => ?_
  refine De stT (e := Vu) (l := (([] : List Qg) ++ (List.drop (Int.toNat 0) (List.take (Int.toNat (IntKind.wrap .i64 ((ln (mT d9)) - 1))) d9)))) (m := ([(p, q, u, (z, a0, f), (a1, a2, o))] : List Qg)) (A := c1) (c := c3) (A2 := (some ⟨c4, 0, none⟩)) (c2 := (List.length ([(p, q, u, f, o)] : List Qb))) (T := 22) (TX := 22) (E := 33) (E2 := 33) (b := 80) (s := (.tmp 15)) (x := (.tmp 17)) (i := 3) (d := (some 18)) (k := 8) K rfl K K K K rfl e9 rfl K (Qz (SP.get e9 (i := 4) rfl)) hl56 ?_
  intro j7 j8 m7 j9
  refine ⟨_, Qa v, trivial, ?_⟩
  exact (ei d1 (ei c1 (ei c3 (ei c4 (ei j7 (ei j8 (ai (ai j6 (ai e7 (ai e8 (ai rfl (trivial))))) j9)))))))
 ·exact oU (hC (hS 2 (pt a3 0)) (h0))
 ·refine oH 6 7 ?_
  rintro P W hs y ⟨d2, d3, d4, d0, b7, b8, ⟨k1, k2, k3, f0, -⟩, k4⟩
  refine kN [(19, (pt a3 4)), (18, (lv b7 (mT ((([] : List Qg) ++ (List.drop (Int.toNat 0) (List.take (Int.toNat (IntKind.wrap .i64 ((ln (mT d9)) - 1))) d9))) ++ ([(p, q, u, (z, a0, f), (a1, a2, o))] : List Qg))) b8))] ⟨y 9 19 K, (Qr (h := 8) K).symm.trans f0, trivial⟩ fun v => ?_
  refine zT 22 (.tmp 19) (.tmp 18) a3 4 0 (lv b7 (mT ((([] : List Qg) ++ (List.drop (Int.toNat 0) (List.take (Int.toNat (IntKind.wrap .i64 ((ln (mT d9)) - 1))) d9))) ++ ([(p, q, u, (z, a0, f), (a1, a2, o))] : List Qg))) b8) #[(iv a5), (iv a6), (iv a7), (iv a8), (lv b7 (mT ((([] : List Qg) ++ (List.drop (Int.toNat 0) (List.take (Int.toNat (IntKind.wrap .i64 ((ln (mT d9)) - 1))) d9))) ++ ([(p, q, u, (z, a0, f), (a1, a2, o))] : List Qg))) b8)] none k4 ?_
  intro m8 k5
  refine ⟨_, Qa v, trivial, ?_⟩
  exact (ei d2 (ei d3 (ei d4 (ei d0 (ei b7 (ei b8 (ai (ai k1 (ai k2 (ai k3 (ai f0 (ai rfl (trivial)))))) k5)))))))
 rintro P m9 hs hf ⟨e0, e1, e2, d5, a9, b0, ⟨n0, n1, n2, n3, n4, -⟩, f1⟩
 refine Qy _ (kc (kT hs 2 (pt a3 0)) (kc (kT hs 4 (pt c8 0)) k0)) ?_
 refine aC ?_
 refine jL 1 24 2 a3 0 0 (.agg #[(iv a5), (iv a6), (iv a7), (iv a8), (lv a9 (mT ((([] : List Qg) ++ (List.drop (Int.toNat 0) (List.take (Int.toNat (IntKind.wrap .i64 ((ln (mT d9)) - 1))) d9))) ++ ([(p, q, u, (z, a0, f), (a1, a2, o))] : List Qg))) b0)]) 20 f1 rfl ?_
 refine iS 2 ?_
 refine zT 24 (.tmp 4) (.tmp 20) c8 0 2 (.agg #[(iv a5), (iv a6), (iv a7), (iv a8), (lv a9 (mT ((([] : List Qg) ++ (List.drop (Int.toNat 0) (List.take (Int.toNat (IntKind.wrap .i64 ((ln (mT d9)) - 1))) d9))) ++ ([(p, q, u, (z, a0, f), (a1, a2, o))] : List Qg))) b0)]) #[(iv a5), (iv a6), (iv a7), (iv a8), (lv a9 (mT ((([] : List Qg) ++ (List.drop (Int.toNat 0) (List.take (Int.toNat (IntKind.wrap .i64 ((ln (mT d9)) - 1))) d9))) ++ ([(p, q, u, (z, a0, f), (a1, a2, o))] : List Qg))) b0)] none f1 ?_
 intro n5 f2
 refine iF ?_
 refine At.ret K ?_
 refine ⟨(.agg #[(iv a5), (iv a6), (iv a7), (iv a8), (lv a9 (mT ((([] : List Qg) ++ (List.drop (Int.toNat 0) (List.take (Int.toNat (IntKind.wrap .i64 ((ln (mT d9)) - 1))) d9))) ++ ([(p, q, u, (z, a0, f), (a1, a2, o))] : List Qg))) b0)]), res_1 K (Uf (a := 4) (t := 24) (g := c8) (off := 0) K (SP.get f2 (i := 2) rfl) K), ?_⟩
 obtain rfl := Qe H
 exact ⟨a9, b0, (Vh 33 Vu a9 b0 ((([] : List Qg) ++ (List.drop (Int.toNat 0) (List.take (Int.toNat (IntKind.wrap .i64 ((ln (mT d9)) - 1))) d9))) ++ ([(p, q, u, (z, a0, f), (a1, a2, o))] : List Qg))), rfl, (O3 (Mo (Mo elq_nil (el_R (fun w hm => (ds_cut b4 b5 (Mp b6) (b2 w hm))))) (elq_ten f3 f4))), SP.sel f2 [3] rfl rfl⟩
def N8 (a : Int) (b : Int) (c : Int) (d : Int) (e : (List Qb)) (f : Bool) : Option (Int × Int × Int × Int × (List Qb) × Bool) :=
  (some (a, b, c, d, e, f))
def Un (d : Int) (e : Int) (f : Int) (g : Int) (h : (List Qb)) (c : (List (List UInt8))) (b : Qb) (l : Bool) : Option (Int × Int × Int × Int × (List Qb) × Bool) :=
  (cond l ((idx c 2).bind fun m => ((Nk m).bind fun i => ((idx c 3).bind fun n => ((Y7 n).bind fun j => ((app ([] : List ((List UInt8) × (List UInt8) × Int)) b.2.2.2.2).bind fun o => ((idx c 1).bind fun p => ((app o ([(p, i.1, j.1)] : List ((List UInt8) × (List UInt8) × Int))).bind fun q => ((Uv d e f g h b.1 b.2.1 b.2.2.1 b.2.2.2.1 q).bind fun a => ((some a.2.2.2.2).bind fun k => (cond i.2 (N8 a.1 a.2.1 a.2.2.1 a.2.2.2.1 k j.2) (N8 a.1 a.2.1 a.2.2.1 a.2.2.2.1 k false))))))))))) (some (d, e, f, g, h, false)))
def Zo (d : Int) (e : Int) (f : Int) (g : Int) (h : (List Qb)) (b : (List (List UInt8))) (a : Qb) (j : Bool) : Option (Int × Int × Int × Int × (List Qb) × Bool) :=
  (cond j ((idx b 1).bind fun k => ((Gh k).bind fun i => ((app ([] : List (Int × Int)) a.2.2.2.1).bind fun l => ((app l ([(i.1, i.2.1)] : List (Int × Int))).bind fun m => ((Uv d e f g h a.1 a.2.1 a.2.2.1 m a.2.2.2.2).bind fun c => ((some c.2.2.2.2).bind fun n => (some (c.1, c.2.1, c.2.2.1, c.2.2.2.1, n, i.2.2)))))))) ((idx b 0).bind fun o => (cond (o == ([116, 111, 107, 101, 110] : List UInt8)) (Un d e f g h b a (((List.length b : Nat) : Int) == 4)) (Un d e f g h b a false))))
def Zp (c : Int) (d : Int) (e : Int) (f : Int) (a : (List Qb)) (b : (List (List UInt8))) (i : Bool) : Option (Int × Int × Int × Int × (List Qb) × Bool) :=
  (cond i ((sub b 2 ((List.length b : Nat) : Int)).bind fun j => ((Jk j).bind fun h => (cond (!h.2) (some (c, d, e, f, a, false)) ((app ([] : List Qb) a).bind fun k => ((idx b 1).bind fun l => ((idx h.1 0).bind fun m => ((idx h.1 1).bind fun n => ((app k ([(l, m, n, ([] : List (Int × Int)), ([] : List ((List UInt8) × (List UInt8) × Int)))] : List Qb)).bind fun o => (some (c, d, e, f, o, true)))))))))) (cond (((List.length a : Nat) : Int) == 0) (some (c, d, e, f, a, false)) ((idx a (IntKind.wrap .i64 (((List.length a : Nat) : Int) - 1))).bind fun g => ((idx b 0).bind fun p => (cond (p == ([110, 101, 116] : List UInt8)) (cond (((List.length b : Nat) : Int) == 2) (Zo c d e f a b g (((List.length g.2.2.2.2 : Nat) : Int) == 0)) (Zo c d e f a b g false)) (Zo c d e f a b g false))))))
def Yg (c : Int) (d : Int) (e : Int) (f : Int) (g : (List Qb)) (a : (List (List UInt8))) (h : Bool) : Option (Int × Int × Int × Int × (List Qb) × Bool) :=
  (cond h ((sub a 1 ((List.length a : Nat) : Int)).bind fun i => ((Jk i).bind fun b => (cond (!b.2) (some (c, d, e, f, g, false)) ((idx b.1 0).bind fun j => ((idx b.1 1).bind fun k => ((idx b.1 2).bind fun l => ((idx b.1 3).bind fun m => (some (j, k, l, m, ([] : List Qb), true))))))))) ((idx a 0).bind fun n => (cond (n == ([116, 101, 110, 97, 110, 116] : List UInt8)) (Zp c d e f g a (((List.length a : Nat) : Int) == 4)) (Zp c d e f g a false))))
def Uw (b : Int) (c : Int) (d : Int) (e : Int) (f : (List Qb)) (g : Bool) (a : (List (List UInt8))) : Option (Int × Int × Int × Int × (List Qb) × Bool) :=
  ((idx a 0).bind fun h => (cond (!((h == ([116, 105, 109, 101, 115] : List UInt8)) == g)) (some (b, c, d, e, f, false)) ((idx a 0).bind fun i => (cond (i == ([116, 105, 109, 101, 115] : List UInt8)) (Yg b c d e f a (((List.length a : Nat) : Int) == 5)) (Yg b c d e f a false)))))
set_option maxHeartbeats 40000000 in
theorem Ep {R : World → Prop} (A6 : Option Addr) (c7 : Nat) (a9 : Option Addr) (b0 : Nat) (v : Int) (z : Int) (a0 : Int) (a1 : Int) (d9 : (List Qg)) (l3 : Bool) (u : (List Bs)) (w0 : World) (hR : ∀ w, Below w0.heap.size w0 w → R w) (b9 : ∀ w, R w → (dDS Vu Fv).ok w (A6, c7, d9)) (b3 : ∀ w, R w → RdT Qj w a9 b0 u) (r : (Int × Int × Int × Int × (List Qb) × Bool)) (H : Uw v z a0 a1 (mT d9) l3 u = some r) :
  Calls Tryz.prog 42 #[(.agg #[(iv v), (iv z), (iv a0), (iv a1), (lv A6 (mT d9) c7)]), (bv l3), (lv a9 u b0)] w0 (fun e W => ∃ (p8 : Option Addr) (p9 : Nat) (E17 : Ent), e = .returned (.tuple #[(.agg #[(iv r.1), (iv r.2.1), (iv r.2.2.1), (iv r.2.2.2.1), (lv p8 r.2.2.2.2.1 p9)]), (bv r.2.2.2.2.2)]) ∧ Yv R E17 p8 p9 r.2.2.2.2.1 ∧ SP [] w0 W [E17]) := by
 unfold Uw at H
 refine Qt (n := 185) Tryz.func42 K K K ?_
 have z3 := Qw [] w0
 refine aC ?_
 refine iS 1 ?_
 refine zB 24 (.tmp 0) (.agg #[(iv v), (iv z), (iv a0), (iv a1), (lv A6 (mT d9) c7)]) 3 z3 ?_
 intro a7 w20 z4
 refine iS 2 ?_
 refine zA 24 (.agg #[(iv 0), (iv 0), (iv 0), (iv 0), (lv none ([] : List Qb) 0)]) 6 z4 ?_
 intro a8 l4 d6
 refine iR 1 3 [(7, (bv false))] ?_
 refine iF ?_
 refine aC ?_
 refine iR 1 1 [(20, (pt a7 4))] ?_
 refine jL 2 22 20 a7 4 0 (lv A6 (mT d9) c7) 21 d6 rfl ?_
 refine iR 2 4 [(22, (iv (ln (mT d9)))), (8, (iv (ln (mT d9))))] ?_
 refine iF ?_
 refine aQ ?_
 refine aC ?_
 refine iR 1 1 [(23, (lv a9 u b0))] ?_
 obtain ⟨m7, q0, q1, z5, H⟩ := Qu H
 refine jE 2 Qj u a9 b0 79 9 (.tmp 23) (.const (.int .i64 (0))) 0 24 (b3 l4 (hR _ (SP.keeps d6))) q0 q1 ?_
 intro z6 z7 z8 bg7 hc33
 refine jX 3 9 24 z6 (z7 + Int.toNat 0 * Qj.sz) (sv m7) 25 (Ql (e := Qj) (Qh (b3 l4 (hR _ (SP.keeps d6))) z8 q0 q1) z5 (j := 0) rfl) ?_
 refine jO 4 9 (.tmp 25) (.const (.string ⟨List.toArray ([116, 105, 109, 101, 115] : Bs)⟩)) m7 ([116, 105, 109, 101, 115] : Bs) 26 ?_
 refine iR 2 6 [(27, (bv l3)), (28, (bv (!((m7 == ([116, 105, 109, 101, 115] : Bs)) == l3))))] ?_
 refine iF ?_
 refine cD 28 H (fun H => ?_) fun H => ?_
 ·refine aC ?_
  refine jL 1 24 3 a7 0 0 (.agg #[(iv v), (iv z), (iv a0), (iv a1), (lv A6 (mT d9) c7)]) 29 d6 rfl ?_
  refine iS 2 ?_
  refine zT 24 (.tmp 6) (.tmp 29) a8 0 1 (.agg #[(iv v), (iv z), (iv a0), (iv a1), (lv A6 (mT d9) c7)]) #[(iv v), (iv z), (iv a0), (iv a1), (lv A6 (mT d9) c7)] none d6 ?_
  intro z9 q2
  refine iR 1 3 [(7, (bv false))] ?_
  refine iF ?_
  refine At.ret K ?_
  have aa0 : SP [] w0 z9 [Qs a7 24 #[(iv v), (iv z), (iv a0), (iv a1), (lv A6 (mT d9) c7)], Qs a8 24 #[(iv v), (iv z), (iv a0), (iv a1), (lv A6 (mT d9) c7)], L0] := Cq q2
  refine ⟨(.tuple #[(.agg #[(iv v), (iv z), (iv a0), (iv a1), (lv A6 (mT d9) c7)]), (bv false)]), Cl K (Uf (a := 6) (t := 24) (g := a8) (off := 0) K (SP.get q2 (i := 1) rfl) K) (Nv (t := 7) K), ?_⟩
  obtain rfl := Qe H
  exact ⟨A6, c7, L0, rfl, (Hz _ b9), SP.sel aa0 [2] rfl rfl⟩
 refine At.skip K ?_
 refine aQ ?_
 refine aQ ?_
 refine At.join (fun ρ w => ∃ (m8 : Bool), Vq ρ [(2, (lv a9 u b0)), (3, (pt a7 0)), (6, (pt a8 0)), (8, (iv (ln (mT d9)))), (38, (bv m8))] ∧ SP [] w0 w [Qs a7 24 #[(iv v), (iv z), (iv a0), (iv a1), (lv A6 (mT d9) c7)], Qs a8 24 #[(iv 0), (iv 0), (iv 0), (iv 0), (lv none ([] : List Qb) 0)]] ∧ Yg v z a0 a1 (mT d9) u m8 = some r) ?_ ?_
 ·refine aR ?_
  refine iR 1 1 [(30, (lv a9 u b0))] ?_
  obtain ⟨m9, q3, q4, aa1, H⟩ := Qu H
  refine jE 2 Qj u a9 b0 79 9 (.tmp 30) (.const (.int .i64 (0))) 0 31 (b3 l4 (hR _ (SP.keeps d6))) q3 q4 ?_
  intro aa2 aa3 aa4 bg8 hc1236
  refine jX 3 9 31 aa2 (aa3 + Int.toNat 0 * Qj.sz) (sv m9) 32 (Ql (e := Qj) (Qh (b3 l4 (hR _ (SP.keeps d6))) aa4 q3 q4) aa1 (j := 0) rfl) ?_
  refine jO 4 9 (.tmp 32) (.const (.string ⟨List.toArray ([116, 105, 109, 101, 115] : Bs)⟩)) m9 ([116, 105, 109, 101, 115] : Bs) 33 ?_
  refine iR 1 5 [(34, (bv (m9 == ([116, 105, 109, 101, 115] : Bs))))] ?_
  refine gD 34 H (fun H => ?_) fun H => ?_
  ·refine iR 4 9 [(35, (lv a9 u b0)), (36, (iv (ln u))), (37, (bv ((ln u) == 5))), (38, (bv ((ln u) == 5)))] ?_
   refine iF ?_
   exact ⟨((ln u) == 5), ⟨K, K, K, K, K, trivial⟩, SP.sel d6 [0, 1] rfl rfl, H⟩
  refine iR 4 9 (uN 35 3 [(38, (bv false))]) ?_
  refine iF ?_
  exact ⟨false, ⟨K, K, K, K, K, trivial⟩, SP.sel d6 [0, 1] rfl rfl, H⟩
 rintro ρ g8 ⟨m8, hk, f1, H⟩
 unfold Yg at H
 first | refine At.known _ hk ?_ | rw [← Qo hk]
 refine cD 38 H (fun H => ?_) fun H => ?_
 ·refine aC ?_
  refine iR 1 1 [(40, (lv a9 u b0))] ?_
  obtain ⟨q5, q6, q7, H⟩ := G9 H
  obtain ⟨q8, hyl59⟩ : ∃ y, (List.drop (Int.toNat 1) (List.take (Int.toNat (ln u)) u)) = y := ⟨_, rfl⟩
  rw [hyl59] at H
  refine iS 2 ?_
  refine Ea (e := Qj) (l := u) (m := q8) (A := a9) (c := b0) (T := 79) (E := 9) (x := (.tmp 40)) (lo := (some (.const (.int .i64 (1))))) (hi := none) (i := 1) (j := (ln u)) (d := (some 41)) (k := 1) K rfl K K K ⟨.i64, K⟩ rfl (RdX.le (b3 g8 (hR _ (SP.keeps f1)))) q5 q6 q7 hyl59 ?_
  obtain ⟨b4, aa5, H⟩ := Qd H
  refine iS 3 ?_
  refine cF 92 #[(.tmp 41)] #[79] 42 Tryz.call92 (Rv (K3 Qj.sz b0 (Int.toNat 1) a9) (b0 - Int.toNat 1) q8 g8 ((cut_rd q5 q6 q7 hyl59) g8 (b3 g8 (hR _ (SP.keeps f1)))) b4 aa5) ?_
  rintro e w62 ⟨b6, b8, rfl, q9⟩
  refine ⟨_, rfl, ?_⟩
  have n0 := SP.call f1 q9
  clear q9
  refine iR 5 8 [(39, (.tuple #[(lv b6 b4.1 b8), (bv b4.2)])), (43, (lv b6 b4.1 b8)), (44, (bv b4.2)), (9, (lv b6 b4.1 b8)), (10, (bv b4.2))] ?_
  refine iF ?_
  refine aQ ?_
  refine aC ?_
  refine iR 2 2 [(45, (bv b4.2)), (46, (bv (!b4.2)))] ?_
  refine iF ?_
  refine cD 46 H (fun H => ?_) fun H => ?_
  ·refine aC ?_
   refine jL 1 24 3 a7 0 0 (.agg #[(iv v), (iv z), (iv a0), (iv a1), (lv A6 (mT d9) c7)]) 47 n0 rfl ?_
   refine iS 2 ?_
   refine zT 24 (.tmp 6) (.tmp 47) a8 0 1 (.agg #[(iv v), (iv z), (iv a0), (iv a1), (lv A6 (mT d9) c7)]) #[(iv v), (iv z), (iv a0), (iv a1), (lv A6 (mT d9) c7)] none n0 ?_
   intro w69 r0
   refine iR 1 3 [(7, (bv false))] ?_
   refine iF ?_
   refine At.ret K ?_
   have aa7 : SP [] w0 w69 [Qs a7 24 #[(iv v), (iv z), (iv a0), (iv a1), (lv A6 (mT d9) c7)], Qs a8 24 #[(iv v), (iv z), (iv a0), (iv a1), (lv A6 (mT d9) c7)], Vh 2 (Qv .i64) b6 b8 b4.1, L0] := Cq r0
   refine ⟨(.tuple #[(.agg #[(iv v), (iv z), (iv a0), (iv a1), (lv A6 (mT d9) c7)]), (bv false)]), Cl K (Uf (a := 6) (t := 24) (g := a8) (off := 0) K (SP.get r0 (i := 1) rfl) K) (Nv (t := 7) K), ?_⟩
   obtain rfl := Qe H
   exact ⟨A6, c7, L0, rfl, (Hz _ b9), SP.sel aa7 [3] rfl rfl⟩
  refine At.skip K ?_
  refine aQ ?_
  obtain ⟨e3, r1, r2, aa8, H⟩ := Qu H
  obtain ⟨e4, r3, r4, aa9, H⟩ := Qu H
  obtain ⟨e5, r5, r6, ab0, H⟩ := Qu H
  obtain ⟨e6, r7, r8, ab1, H⟩ := Qu H
  refine aG [GEq (lv b6 b4.1 b8), Zt b6 (Qv .i64).sz 0, GEq (iv e3), GEq (lv b6 b4.1 b8), Zt b6 (Qv .i64).sz 1, GEq (iv e4), GEq (lv b6 b4.1 b8), Zt b6 (Qv .i64).sz 2, GEq (iv e5), GEq (lv b6 b4.1 b8), Zt b6 (Qv .i64).sz 3, GEq (iv e6), GEq (.agg #[(iv e3), (iv e4), (iv e5), (iv e6), (lv none ([] : List Qb) 0)]), Ry, GEq (bv true)] [13] [sG [] [] [] w0 [Qs a7 24 #[(iv v), (iv z), (iv a0), (iv a1), (lv A6 (mT d9) c7)], Qs a8 24 #[(iv 0), (iv 0), (iv 0), (iv 0), (lv none ([] : List Qb) 0)], Vh 2 (Qv .i64) b6 b8 b4.1], sG [13] [undef] [] w0 [Qs a7 24 #[(iv v), (iv z), (iv a0), (iv a1), (lv A6 (mT d9) c7)], Qs a8 24 #[(iv e3), (iv e4), (iv e5), (iv e6), (lv none ([] : List Qb) 0)], Vh 2 (Qv .i64) b6 b8 b4.1]] 15 1 ⟨trivial, SP.drew n0⟩ ?_ ?_
  iterate 15 refine And.intro ?_ ?_
  exact trivial
  ·exact oU (hC (hS 9 (lv b6 b4.1 b8)) (h0))
  ·refine oL 0 ?_
   rintro P W hs p ⟨-, ab2⟩
   refine kM (kc (kA p 0 48) k0) fun o => ?_
   refine zE (Qv .i64) b4.1 b6 b8 85 2 (.tmp 48) (.const (.int .i64 (0))) 0 49 (Qz (SP.get ab2 (i := 2) rfl)) r1 r2 ?_
   intro ab3 ab4 ab5 bh0 hc120
   exact ⟨rfl, _, Qa o, ⟨ab3, ab4, ab5, rfl⟩⟩
  ·refine oL 0 ?_
   rintro P W hs p ⟨-, ab6⟩
   obtain ⟨ab7, ab8, ab9, e49⟩ := p 1 49 K
   refine kM (kc e49 k0) fun o => ?_
   refine sC 2 49 ab7 (ab8 + Int.toNat 0 * (Qv .i64).sz) (iv e3) 50 (Ql (e := (Qv .i64)) (Qh (Qz (SP.get ab6 (i := 2) rfl)) ab9 r1 r2) aa8 (j := 0) rfl) ?_
   exact eK o
  ·exact oU (hC (hS 9 (lv b6 b4.1 b8)) (h0))
  ·refine oL 0 ?_
   rintro P W hs p ⟨-, ac1⟩
   refine kM (kc (kA p 3 51) k0) fun o => ?_
   refine zE (Qv .i64) b4.1 b6 b8 85 2 (.tmp 51) (.const (.int .i64 (1))) 1 52 (Qz (SP.get ac1 (i := 2) rfl)) r3 r4 ?_
   intro ac2 ac3 ac4 bh1 hc132
   exact ⟨rfl, _, Qa o, ⟨ac2, ac3, ac4, rfl⟩⟩
  ·refine oL 0 ?_
   rintro P W hs p ⟨-, ac5⟩
   obtain ⟨ac6, ac7, ac8, e52⟩ := p 4 52 K
   refine kM (kc e52 k0) fun o => ?_
   refine sC 2 52 ac6 (ac7 + Int.toNat 1 * (Qv .i64).sz) (iv e4) 53 (Ql (e := (Qv .i64)) (Qh (Qz (SP.get ac5 (i := 2) rfl)) ac8 r3 r4) aa9 (j := 0) rfl) ?_
   exact eK o
  ·exact oU (hC (hS 9 (lv b6 b4.1 b8)) (h0))
  ·refine oL 0 ?_
   rintro P W hs p ⟨-, ad0⟩
   refine kM (kc (kA p 6 54) k0) fun o => ?_
   refine zE (Qv .i64) b4.1 b6 b8 85 2 (.tmp 54) (.const (.int .i64 (2))) 2 55 (Qz (SP.get ad0 (i := 2) rfl)) r5 r6 ?_
   intro ad1 ad2 ad3 bh2 hc144
   exact ⟨rfl, _, Qa o, ⟨ad1, ad2, ad3, rfl⟩⟩
  ·refine oL 0 ?_
   rintro P W hs p ⟨-, ad4⟩
   obtain ⟨ad5, ad6, ad7, e55⟩ := p 7 55 K
   refine kM (kc e55 k0) fun o => ?_
   refine sC 2 55 ad5 (ad6 + Int.toNat 2 * (Qv .i64).sz) (iv e5) 56 (Ql (e := (Qv .i64)) (Qh (Qz (SP.get ad4 (i := 2) rfl)) ad7 r5 r6) ab0 (j := 0) rfl) ?_
   exact eK o
  ·exact oU (hC (hS 9 (lv b6 b4.1 b8)) (h0))
  ·refine oL 0 ?_
   rintro P W hs p ⟨-, ad9⟩
   refine kM (kc (kA p 9 57) k0) fun o => ?_
   refine zE (Qv .i64) b4.1 b6 b8 85 2 (.tmp 57) (.const (.int .i64 (3))) 3 58 (Qz (SP.get ad9 (i := 2) rfl)) r7 r8 ?_
   intro ae0 ae1 ae2 bh3 hc156
   exact ⟨rfl, _, Qa o, ⟨ae0, ae1, ae2, rfl⟩⟩
  ·refine oL 0 ?_
   rintro P W hs p ⟨-, ae3⟩
   obtain ⟨ae4, ae5, ae6, e58⟩ := p 10 58 K
   refine kM (kc e58 k0) fun o => ?_
   refine sC 2 58 ae4 (ae5 + Int.toNat 3 * (Qv .i64).sz) (iv e6) 59 (Ql (e := (Qv .i64)) (Qh (Qz (SP.get ae3 (i := 2) rfl)) ae6 r7 r8) ab1 (j := 0) rfl) ?_
   exact eK o
  ·exact oU (hC (hA 2 50) (hC (hA 5 53) (hC (hA 8 56) (hC (hA 11 59) (h0)))))
  ·refine oH 0 1 ?_
   rintro P W hs p ⟨-, ae8⟩
   refine kM (kc (kS hs 6 (pt a8 0)) (kc (kA p 12 60) k0)) fun o => ?_
   refine zT 24 (.tmp 6) (.tmp 60) a8 0 1 (.agg #[(iv e3), (iv e4), (iv e5), (iv e6), (lv none ([] : List Qb) 0)]) #[(iv e3), (iv e4), (iv e5), (iv e6), (lv none ([] : List Qb) 0)] none ae8 ?_
   intro bh4 ae9
   refine ⟨_, Qa o, trivial, ?_⟩
   exact (ai (ai rfl (trivial)) ae9)
  ·exact Owe.run K [] trivial (bv true) (fun _ _ => K) rfl
  rintro P af0 hs hf ⟨⟨bh5, -⟩, r9⟩
  refine Qy _ (kc (kT hs 6 (pt a8 0)) (kc (kF hf 14 7) k0)) ?_
  refine At.ret K ?_
  have af1 : SP [] w0 af0 [Qs a7 24 #[(iv v), (iv z), (iv a0), (iv a1), (lv A6 (mT d9) c7)], Qs a8 24 #[(iv e3), (iv e4), (iv e5), (iv e6), (lv none ([] : List Qb) 0)], Vh 2 (Qv .i64) b6 b8 b4.1, L0] := Cq r9
  refine ⟨(.tuple #[(.agg #[(iv e3), (iv e4), (iv e5), (iv e6), (lv none ([] : List Qb) 0)]), (bv true)]), Cl K (Uf (a := 6) (t := 24) (g := a8) (off := 0) K (SP.get r9 (i := 1) rfl) K) (Nv (t := 7) K), ?_⟩
  obtain rfl := Qe H
  exact ⟨none, 0, L0, rfl, (Yv.nil _ _), SP.sel af1 [3] rfl rfl⟩
 refine At.skip K ?_
 refine aQ ?_
 refine aQ ?_
 refine At.join (fun ρ w => ∃ (n1 : Bool), Vq ρ [(2, (lv a9 u b0)), (3, (pt a7 0)), (6, (pt a8 0)), (8, (iv (ln (mT d9)))), (69, (bv n1))] ∧ SP [] w0 w [Qs a7 24 #[(iv v), (iv z), (iv a0), (iv a1), (lv A6 (mT d9) c7)], Qs a8 24 #[(iv 0), (iv 0), (iv 0), (iv 0), (lv none ([] : List Qb) 0)]] ∧ Zp v z a0 a1 (mT d9) u n1 = some r) ?_ ?_
 ·refine aR ?_
  refine iR 1 1 [(61, (lv a9 u b0))] ?_
  obtain ⟨n2, s0, s1, af2, H⟩ := Qu H
  refine jE 2 Qj u a9 b0 79 9 (.tmp 61) (.const (.int .i64 (0))) 0 62 (b3 g8 (hR _ (SP.keeps f1))) s0 s1 ?_
  intro af3 af4 af5 bh6 hc1226
  refine jX 3 9 62 af3 (af4 + Int.toNat 0 * Qj.sz) (sv n2) 63 (Ql (e := Qj) (Qh (b3 g8 (hR _ (SP.keeps f1))) af5 s0 s1) af2 (j := 0) rfl) ?_
  refine jO 4 9 (.tmp 63) (.const (.string ⟨List.toArray ([116, 101, 110, 97, 110, 116] : Bs)⟩)) n2 ([116, 101, 110, 97, 110, 116] : Bs) 64 ?_
  refine iR 1 5 [(65, (bv (n2 == ([116, 101, 110, 97, 110, 116] : Bs))))] ?_
  refine gD 65 H (fun H => ?_) fun H => ?_
  ·refine iR 4 9 [(66, (lv a9 u b0)), (67, (iv (ln u))), (68, (bv ((ln u) == 4))), (69, (bv ((ln u) == 4)))] ?_
   refine iF ?_
   exact ⟨((ln u) == 4), ⟨K, K, K, K, K, trivial⟩, SP.sel f1 [0, 1] rfl rfl, H⟩
  refine iR 4 9 (uN 66 3 [(69, (bv false))]) ?_
  refine iF ?_
  exact ⟨false, ⟨K, K, K, K, K, trivial⟩, SP.sel f1 [0, 1] rfl rfl, H⟩
 rintro ρ g9 ⟨n1, hk, d7, H⟩
 unfold Zp at H
 first | refine At.known _ hk ?_ | rw [← Qo hk]
 refine cD 69 H (fun H => ?_) fun H => ?_
 ·refine aC ?_
  refine iR 1 1 [(71, (lv a9 u b0))] ?_
  obtain ⟨s2, s3, s4, H⟩ := G9 H
  obtain ⟨s5, hyl192⟩ : ∃ y, (List.drop (Int.toNat 2) (List.take (Int.toNat (ln u)) u)) = y := ⟨_, rfl⟩
  rw [hyl192] at H
  refine iS 2 ?_
  refine Ea (e := Qj) (l := u) (m := s5) (A := a9) (c := b0) (T := 79) (E := 9) (x := (.tmp 71)) (lo := (some (.const (.int .i64 (2))))) (hi := none) (i := 2) (j := (ln u)) (d := (some 72)) (k := 1) K rfl K K K ⟨.i64, K⟩ rfl (RdX.le (b3 g9 (hR _ (SP.keeps d7)))) s2 s3 s4 hyl192 ?_
  obtain ⟨b7, af6, H⟩ := Qd H
  refine iS 3 ?_
  refine cF 92 #[(.tmp 72)] #[79] 73 Tryz.call92 (Rv (K3 Qj.sz b0 (Int.toNat 2) a9) (b0 - Int.toNat 2) s5 g9 ((cut_rd s2 s3 s4 hyl192) g9 (b3 g9 (hR _ (SP.keeps d7)))) b7 af6) ?_
  rintro e bh7 ⟨c0, c1, rfl, s6⟩
  refine ⟨_, rfl, ?_⟩
  have n3 := SP.call d7 s6
  clear s6
  refine iR 5 8 [(70, (.tuple #[(lv c0 b7.1 c1), (bv b7.2)])), (74, (lv c0 b7.1 c1)), (75, (bv b7.2)), (11, (lv c0 b7.1 c1)), (12, (bv b7.2))] ?_
  refine iF ?_
  refine aQ ?_
  refine aC ?_
  refine iR 2 2 [(76, (bv b7.2)), (77, (bv (!b7.2)))] ?_
  refine iF ?_
  refine cD 77 H (fun H => ?_) fun H => ?_
  ·refine aC ?_
   refine jL 1 24 3 a7 0 0 (.agg #[(iv v), (iv z), (iv a0), (iv a1), (lv A6 (mT d9) c7)]) 78 n3 rfl ?_
   refine iS 2 ?_
   refine zT 24 (.tmp 6) (.tmp 78) a8 0 1 (.agg #[(iv v), (iv z), (iv a0), (iv a1), (lv A6 (mT d9) c7)]) #[(iv v), (iv z), (iv a0), (iv a1), (lv A6 (mT d9) c7)] none n3 ?_
   intro af7 s7
   refine iR 1 3 [(7, (bv false))] ?_
   refine iF ?_
   refine At.ret K ?_
   have af8 : SP [] w0 af7 [Qs a7 24 #[(iv v), (iv z), (iv a0), (iv a1), (lv A6 (mT d9) c7)], Qs a8 24 #[(iv v), (iv z), (iv a0), (iv a1), (lv A6 (mT d9) c7)], Vh 2 (Qv .i64) c0 c1 b7.1, L0] := Cq s7
   refine ⟨(.tuple #[(.agg #[(iv v), (iv z), (iv a0), (iv a1), (lv A6 (mT d9) c7)]), (bv false)]), Cl K (Uf (a := 6) (t := 24) (g := a8) (off := 0) K (SP.get s7 (i := 1) rfl) K) (Nv (t := 7) K), ?_⟩
   obtain rfl := Qe H
   exact ⟨A6, c7, L0, rfl, (Hz _ b9), SP.sel af8 [3] rfl rfl⟩
  refine At.skip K ?_
  refine aQ ?_
  obtain ⟨hl211, H⟩ := Zx H
  rw [show ([] : List Qb) ++ (mT d9) = (mT (([] : List Qg) ++ d9)) from I8 (l := ([] : List Qg)) (m := d9)] at H
  obtain ⟨a3, h2, h3, n4, H⟩ := Qu H
  obtain ⟨a4, h4, h5, n5, H⟩ := Qu H
  obtain ⟨a5, h6, h7, n6, H⟩ := Qu H
  obtain ⟨hl249, H⟩ := Zx H
  rw [show (mT (([] : List Qg) ++ d9)) ++ ([(a3, a4, a5, ([] : List (Int × Int)), ([] : List Tk))] : List Qb) = (mT ((([] : List Qg) ++ d9) ++ ([(a3, a4, a5, (none, 0, ([] : List (Int × Int))), (none, 0, ([] : List Tk)))] : List Qg))) from I8 (l := (([] : List Qg) ++ d9)) (m := ([(a3, a4, a5, (none, 0, ([] : List (Int × Int))), (none, 0, ([] : List Tk)))] : List Qg))] at H
  refine aG [Ry, GEq (pt a7 4), GEq (lv A6 (mT d9) c7), Ry, GEq (lv a9 u b0), Zt a9 Qj.sz 1, GEq (sv a3), GEq (lv c0 b7.1 c1), Zt c0 (Qv .i64).sz 0, GEq (iv a4), GEq (lv c0 b7.1 c1), Zt c0 (Qv .i64).sz 1, GEq (iv a5), GEq (.agg #[(sv a3), (iv a4), (iv a5), (lv none ([] : List (Int × Int)) 0), (lv none ([] : List Tk) 0)]), Ry, Ry, GEq (pt a7 4), Ry] [0, 3, 14, 15, 17] ((fun (X0 X1 X2 : Ent) => [([], fun vs w => VL vs [] ∧ SP [] w0 w [X0, X1, X2]), ([0], fun vs w => ∃ (c3 : Nat), VL vs [(lv (some ⟨c3, 0, none⟩) ([] : List Qb) (List.length ([] : List Qb)))] ∧ SP [] w0 w [X0, X1, X2, Vh 33 Vu (some ⟨c3, 0, none⟩) (List.length ([] : List Qb)) ([] : List Qg)]), ([14], fun vs w => ∃ (j1 : Nat), VL vs [(lv (some ⟨j1, 0, none⟩) ([(a3, a4, a5, ([] : List (Int × Int)), ([] : List Tk))] : List Qb) (List.length ([(a3, a4, a5, ([] : List (Int × Int)), ([] : List Tk))] : List Qb)))] ∧ SP [] w0 w [X0, X1, X2, Vh 33 Vu (some ⟨j1, 0, none⟩) (List.length ([(a3, a4, a5, ([] : List (Int × Int)), ([] : List Tk))] : List Qb)) ([(a3, a4, a5, (none, 0, ([] : List (Int × Int))), (none, 0, ([] : List Tk)))] : List Qg)]), ([0, 3], fun vs w => ∃ (d8 : Nat), ∃ (c9 : Option Addr), ∃ (d0 : Nat), VL vs [(lv (some ⟨d8, 0, none⟩) ([] : List Qb) (List.length ([] : List Qb))), (lv c9 (mT (([] : List Qg) ++ d9)) d0)] ∧ SP [] w0 w [X0, X1, X2, Vh 33 Vu c9 d0 (([] : List Qg) ++ d9)]), ([0, 14], fun vs w => ∃ (f2 : Nat), ∃ (j2 : Nat), VL vs [(lv (some ⟨f2, 0, none⟩) ([] : List Qb) (List.length ([] : List Qb))), (lv (some ⟨j2, 0, none⟩) ([(a3, a4, a5, ([] : List (Int × Int)), ([] : List Tk))] : List Qb) (List.length ([(a3, a4, a5, ([] : List (Int × Int)), ([] : List Tk))] : List Qb)))] ∧ SP [] w0 w [X0, X1, X2, Vh 33 Vu (some ⟨f2, 0, none⟩) (List.length ([] : List Qb)) ([] : List Qg), Vh 33 Vu (some ⟨j2, 0, none⟩) (List.length ([(a3, a4, a5, ([] : List (Int × Int)), ([] : List Tk))] : List Qb)) ([(a3, a4, a5, (none, 0, ([] : List (Int × Int))), (none, 0, ([] : List Tk)))] : List Qg)]), ([0, 3, 14], fun vs w => ∃ (n7 : Nat), ∃ (h8 : Option Addr), ∃ (h9 : Nat), ∃ (i0 : Nat), VL vs [(lv (some ⟨n7, 0, none⟩) ([] : List Qb) (List.length ([] : List Qb))), (lv h8 (mT (([] : List Qg) ++ d9)) h9), (lv (some ⟨i0, 0, none⟩) ([(a3, a4, a5, ([] : List (Int × Int)), ([] : List Tk))] : List Qb) (List.length ([(a3, a4, a5, ([] : List (Int × Int)), ([] : List Tk))] : List Qb)))] ∧ SP [] w0 w [X0, X1, X2, Vh 33 Vu h8 h9 (([] : List Qg) ++ d9), Vh 33 Vu (some ⟨i0, 0, none⟩) (List.length ([(a3, a4, a5, ([] : List (Int × Int)), ([] : List Tk))] : List Qb)) ([(a3, a4, a5, (none, 0, ([] : List (Int × Int))), (none, 0, ([] : List Tk)))] : List Qg)]), ([0, 3, 14, 15], fun vs w => ∃ (n8 : Nat), ∃ (n9 : Option Addr), ∃ (o0 : Nat), ∃ (l5 : Nat), ∃ (f3 : Option Addr), ∃ (f4 : Nat), VL vs [(lv (some ⟨n8, 0, none⟩) ([] : List Qb) (List.length ([] : List Qb))), (lv n9 (mT (([] : List Qg) ++ d9)) o0), (lv (some ⟨l5, 0, none⟩) ([(a3, a4, a5, ([] : List (Int × Int)), ([] : List Tk))] : List Qb) (List.length ([(a3, a4, a5, ([] : List (Int × Int)), ([] : List Tk))] : List Qb))), (lv f3 (mT ((([] : List Qg) ++ d9) ++ ([(a3, a4, a5, (none, 0, ([] : List (Int × Int))), (none, 0, ([] : List Tk)))] : List Qg))) f4)] ∧ SP [] w0 w [X0, X1, X2, Vh 33 Vu f3 f4 ((([] : List Qg) ++ d9) ++ ([(a3, a4, a5, (none, 0, ([] : List (Int × Int))), (none, 0, ([] : List Tk)))] : List Qg)), Vh 33 Vu (some ⟨l5, 0, none⟩) (List.length ([(a3, a4, a5, ([] : List (Int × Int)), ([] : List Tk))] : List Qb)) ([(a3, a4, a5, (none, 0, ([] : List (Int × Int))), (none, 0, ([] : List Tk)))] : List Qg)]), ([0, 3, 14, 15, 17], fun vs w => ∃ (s8 : Nat), ∃ (s9 : Option Addr), ∃ (t0 : Nat), ∃ (o1 : Nat), ∃ (d1 : Option Addr), ∃ (d2 : Nat), VL vs [(lv (some ⟨s8, 0, none⟩) ([] : List Qb) (List.length ([] : List Qb))), (lv s9 (mT (([] : List Qg) ++ d9)) t0), (lv (some ⟨o1, 0, none⟩) ([(a3, a4, a5, ([] : List (Int × Int)), ([] : List Tk))] : List Qb) (List.length ([(a3, a4, a5, ([] : List (Int × Int)), ([] : List Tk))] : List Qb))), (lv d1 (mT ((([] : List Qg) ++ d9) ++ ([(a3, a4, a5, (none, 0, ([] : List (Int × Int))), (none, 0, ([] : List Tk)))] : List Qg))) d2), undef] ∧ SP [] w0 w [Qs a7 24 #[(iv v), (iv z), (iv a0), (iv a1), (lv d1 (mT ((([] : List Qg) ++ d9) ++ ([(a3, a4, a5, (none, 0, ([] : List (Int × Int))), (none, 0, ([] : List Tk)))] : List Qg))) d2)], X1, X2, Vh 33 Vu d1 d2 ((([] : List Qg) ++ d9) ++ ([(a3, a4, a5, (none, 0, ([] : List (Int × Int))), (none, 0, ([] : List Tk)))] : List Qg)), Vh 33 Vu (some ⟨o1, 0, none⟩) (List.length ([(a3, a4, a5, ([] : List (Int × Int)), ([] : List Tk))] : List Qb)) ([(a3, a4, a5, (none, 0, ([] : List (Int × Int))), (none, 0, ([] : List Tk)))] : List Qg)])]) (Qs a7 24 #[(iv v), (iv z), (iv a0), (iv a1), (lv A6 (mT d9) c7)]) (Qs a8 24 #[(iv 0), (iv 0), (iv 0), (iv 0), (lv none ([] : List Qb) 0)]) (Vh 2 (Qv .i64) c0 c1 b7.1)) 18 7 ⟨trivial, SP.drew n3⟩ ?_ ?_
  iterate 18 refine And.intro ?_ ?_
  exact trivial
  ·refine Owe.heavy K [(0, 1), (2, 4)] K (Qc ⟨K, K, ?_⟩ (Qc ⟨K, K, ?_⟩ Qq))
   ·rintro P W hs p ⟨-, af9⟩
    refine kN [] trivial fun o => ?_
    refine zN Vu 22 33 0 #[] #[] ([] : List Qg) 79 af9 ?_
    intro ag0 bh8 ag1
    refine ⟨_, Qa o, trivial, ?_⟩
    exact (ei ag0 (ai (ai rfl (trivial)) ag1))
   rintro P W hs p ⟨j1, ⟨ag2, -⟩, ag3⟩
   refine kN [] trivial fun o => ?_
   refine zN Vu 22 33 0 #[] #[] ([] : List Qg) 79 ag3 ?_
   intro ag4 bh9 ag5
   refine ⟨_, Qa o, trivial, ?_⟩
   exact (ei ag4 (ei j1 (ai (ai rfl (ai ag2 (trivial))) (SP.sel ag5 [0, 1, 2, 4, 3] rfl rfl))))
  ·exact oU (hC (hS 3 (pt a7 0)) (h0))
  ·refine Owe.light K [0, 1, 2, 4] K (Qc ?_ (Qc ?_ (Qc ?_ (Qc ?_ Qq))))
   ·rintro P W hs p ⟨-, ag6⟩
    refine kM (kc (kA p 1 80) k0) fun o => ?_
    refine sL 22 80 a7 4 0 (lv A6 (mT d9) c7) 81 ag6 rfl ?_
    exact eK o
   ·rintro P W hs p ⟨c3, ⟨bi0, -⟩, ag7⟩
    refine kM (kc (kA p 1 80) k0) fun o => ?_
    refine sL 22 80 a7 4 0 (lv A6 (mT d9) c7) 81 ag7 rfl ?_
    exact eK o
   ·rintro P W hs p ⟨j1, ⟨bi1, -⟩, ag8⟩
    refine kM (kc (kA p 1 80) k0) fun o => ?_
    refine sL 22 80 a7 4 0 (lv A6 (mT d9) c7) 81 ag8 rfl ?_
    exact eK o
   rintro P W hs p ⟨f2, j2, ⟨bi2, bi3, -⟩, ag9⟩
   refine kM (kc (kA p 1 80) k0) fun o => ?_
   refine sL 22 80 a7 4 0 (lv A6 (mT d9) c7) 81 ag9 rfl ?_
   exact eK o
  ·refine Owe.heavy K [(1, 3), (4, 5)] K (Qc ⟨K, K, ?_⟩ (Qc ⟨K, K, ?_⟩ Qq))
   ·rintro P W hs p ⟨c3, ⟨t1, -⟩, t2⟩
    refine kN [(79, (lv (some ⟨c3, 0, none⟩) ([] : List Qb) (List.length ([] : List Qb)))), (81, (lv A6 (mT d9) c7))] ⟨(Qr (h := 0) K).symm.trans t1, p 2 81 K, trivial⟩ fun o => ?_
    refine De stT (e := Vu) (l := ([] : List Qg)) (m := d9) (A := (some ⟨c3, 0, none⟩)) (c := (List.length ([] : List Qb))) (A2 := A6) (c2 := c7) (T := 22) (TX := 22) (E := 33) (E2 := 33) (b := 80) (s := (.tmp 79)) (x := (.tmp 81)) (i := 3) (d := (some 82)) (k := 3) K rfl K K K K rfl t2 rfl K ((fun w hm => (Zh (b9 w hm))) W (hR _ (SP.keeps t2))) hl211 ?_
    intro ah0 ah1 bi4 ah2
    refine ⟨_, Qa o, trivial, ?_⟩
    exact (ei c3 (ei ah0 (ei ah1 (ai (ai t1 (ai rfl (trivial))) ah2))))
   rintro P W hs p ⟨f2, j2, ⟨t3, ah3, -⟩, t4⟩
   refine kN [(79, (lv (some ⟨f2, 0, none⟩) ([] : List Qb) (List.length ([] : List Qb)))), (81, (lv A6 (mT d9) c7))] ⟨(Qr (h := 0) K).symm.trans t3, p 2 81 K, trivial⟩ fun o => ?_
   refine De stT (e := Vu) (l := ([] : List Qg)) (m := d9) (A := (some ⟨f2, 0, none⟩)) (c := (List.length ([] : List Qb))) (A2 := A6) (c2 := c7) (T := 22) (TX := 22) (E := 33) (E2 := 33) (b := 80) (s := (.tmp 79)) (x := (.tmp 81)) (i := 3) (d := (some 82)) (k := 3) K rfl K K K K rfl t4 rfl K ((fun w hm => (Zh (b9 w hm))) W (hR _ (SP.keeps t4))) hl211 ?_
   intro ah4 ah5 bi5 ah6
   refine ⟨_, Qa o, trivial, ?_⟩
   exact (ei f2 (ei ah4 (ei ah5 (ei j2 (ai (ai t3 (ai rfl (ai ah3 (trivial)))) ah6)))))
  ·exact oU (hC (hS 2 (lv a9 u b0)) (h0))
  ·refine Owe.light K [0, 1, 3] K (Qc ?_ (Qc ?_ (Qc ?_ Qq)))
   ·rintro P W hs p ⟨-, ah7⟩
    refine kM (kc (kA p 4 83) k0) fun o => ?_
    refine zE Qj u a9 b0 79 9 (.tmp 83) (.const (.int .i64 (1))) 1 84 (b3 W (hR _ (SP.keeps ah7))) h2 h3 ?_
    intro ah8 ah9 ai0 bi6 hc382
    exact ⟨rfl, _, Qa o, ⟨ah8, ah9, ai0, rfl⟩⟩
   ·rintro P W hs p ⟨c3, ⟨bi7, -⟩, ai1⟩
    refine kM (kc (kA p 4 83) k0) fun o => ?_
    refine zE Qj u a9 b0 79 9 (.tmp 83) (.const (.int .i64 (1))) 1 84 (b3 W (hR _ (SP.keeps ai1))) h2 h3 ?_
    intro ai2 ai3 ai4 bi8 hc390
    exact ⟨rfl, _, Qa o, ⟨ai2, ai3, ai4, rfl⟩⟩
   rintro P W hs p ⟨d8, c9, d0, ⟨bi9, bj0, -⟩, ai5⟩
   refine kM (kc (kA p 4 83) k0) fun o => ?_
   refine zE Qj u a9 b0 79 9 (.tmp 83) (.const (.int .i64 (1))) 1 84 (b3 W (hR _ (SP.keeps ai5))) h2 h3 ?_
   intro ai6 ai7 ai8 bj1 hc399
   exact ⟨rfl, _, Qa o, ⟨ai6, ai7, ai8, rfl⟩⟩
  ·refine Owe.light K [0, 1, 3] K (Qc ?_ (Qc ?_ (Qc ?_ Qq)))
   ·rintro P W hs p ⟨-, ai9⟩
    obtain ⟨aj0, aj1, aj2, j3⟩ := p 5 84 K
    refine kM (kc j3 k0) fun o => ?_
    refine sC 9 84 aj0 (aj1 + Int.toNat 1 * Qj.sz) (sv a3) 85 (Ql (e := Qj) (Qh (b3 W (hR _ (SP.keeps ai9))) aj2 h2 h3) n4 (j := 0) rfl) ?_
    exact eK o
   ·rintro P W hs p ⟨c3, ⟨bj2, -⟩, aj3⟩
    obtain ⟨aj4, aj5, aj6, j3⟩ := p 5 84 K
    refine kM (kc j3 k0) fun o => ?_
    refine sC 9 84 aj4 (aj5 + Int.toNat 1 * Qj.sz) (sv a3) 85 (Ql (e := Qj) (Qh (b3 W (hR _ (SP.keeps aj3))) aj6 h2 h3) n4 (j := 0) rfl) ?_
    exact eK o
   rintro P W hs p ⟨d8, c9, d0, ⟨bj3, bj4, -⟩, aj7⟩
   obtain ⟨aj8, aj9, ak0, j3⟩ := p 5 84 K
   refine kM (kc j3 k0) fun o => ?_
   refine sC 9 84 aj8 (aj9 + Int.toNat 1 * Qj.sz) (sv a3) 85 (Ql (e := Qj) (Qh (b3 W (hR _ (SP.keeps aj7))) ak0 h2 h3) n4 (j := 0) rfl) ?_
   exact eK o
  ·exact oU (hC (hS 11 (lv c0 b7.1 c1)) (h0))
  ·refine Owe.light K [0, 1, 3] K (Qc ?_ (Qc ?_ (Qc ?_ Qq)))
   ·rintro P W hs p ⟨-, ak1⟩
    refine kM (kc (kA p 7 86) k0) fun o => ?_
    refine zE (Qv .i64) b7.1 c0 c1 85 2 (.tmp 86) (.const (.int .i64 (0))) 0 87 (Qz (SP.get ak1 (i := 2) rfl)) h4 h5 ?_
    intro ak2 ak3 ak4 bj5 hc424
    exact ⟨rfl, _, Qa o, ⟨ak2, ak3, ak4, rfl⟩⟩
   ·rintro P W hs p ⟨c3, ⟨bj6, -⟩, ak5⟩
    refine kM (kc (kA p 7 86) k0) fun o => ?_
    refine zE (Qv .i64) b7.1 c0 c1 85 2 (.tmp 86) (.const (.int .i64 (0))) 0 87 (Qz (SP.get ak5 (i := 2) rfl)) h4 h5 ?_
    intro ak6 ak7 ak8 bj7 hc432
    exact ⟨rfl, _, Qa o, ⟨ak6, ak7, ak8, rfl⟩⟩
   rintro P W hs p ⟨d8, c9, d0, ⟨bj8, bj9, -⟩, ak9⟩
   refine kM (kc (kA p 7 86) k0) fun o => ?_
   refine zE (Qv .i64) b7.1 c0 c1 85 2 (.tmp 86) (.const (.int .i64 (0))) 0 87 (Qz (SP.get ak9 (i := 2) rfl)) h4 h5 ?_
   intro al0 al1 al2 bk0 hc441
   exact ⟨rfl, _, Qa o, ⟨al0, al1, al2, rfl⟩⟩
  ·refine Owe.light K [0, 1, 3] K (Qc ?_ (Qc ?_ (Qc ?_ Qq)))
   ·rintro P W hs p ⟨-, al3⟩
    obtain ⟨al4, al5, al6, j4⟩ := p 8 87 K
    refine kM (kc j4 k0) fun o => ?_
    refine sC 2 87 al4 (al5 + Int.toNat 0 * (Qv .i64).sz) (iv a4) 88 (Ql (e := (Qv .i64)) (Qh (Qz (SP.get al3 (i := 2) rfl)) al6 h4 h5) n5 (j := 0) rfl) ?_
    exact eK o
   ·rintro P W hs p ⟨c3, ⟨bk1, -⟩, al7⟩
    obtain ⟨al8, al9, am0, j4⟩ := p 8 87 K
    refine kM (kc j4 k0) fun o => ?_
    refine sC 2 87 al8 (al9 + Int.toNat 0 * (Qv .i64).sz) (iv a4) 88 (Ql (e := (Qv .i64)) (Qh (Qz (SP.get al7 (i := 2) rfl)) am0 h4 h5) n5 (j := 0) rfl) ?_
    exact eK o
   rintro P W hs p ⟨d8, c9, d0, ⟨bk2, bk3, -⟩, am1⟩
   obtain ⟨am2, am3, am4, j4⟩ := p 8 87 K
   refine kM (kc j4 k0) fun o => ?_
   refine sC 2 87 am2 (am3 + Int.toNat 0 * (Qv .i64).sz) (iv a4) 88 (Ql (e := (Qv .i64)) (Qh (Qz (SP.get am1 (i := 2) rfl)) am4 h4 h5) n5 (j := 0) rfl) ?_
   exact eK o
  ·exact oU (hC (hS 11 (lv c0 b7.1 c1)) (h0))
  ·refine Owe.light K [0, 1, 3] K (Qc ?_ (Qc ?_ (Qc ?_ Qq)))
   ·rintro P W hs p ⟨-, am5⟩
    refine kM (kc (kA p 10 89) k0) fun o => ?_
    refine zE (Qv .i64) b7.1 c0 c1 85 2 (.tmp 89) (.const (.int .i64 (1))) 1 90 (Qz (SP.get am5 (i := 2) rfl)) h6 h7 ?_
    intro am6 am7 am8 bk4 hc466
    exact ⟨rfl, _, Qa o, ⟨am6, am7, am8, rfl⟩⟩
   ·rintro P W hs p ⟨c3, ⟨bk5, -⟩, am9⟩
    refine kM (kc (kA p 10 89) k0) fun o => ?_
    refine zE (Qv .i64) b7.1 c0 c1 85 2 (.tmp 89) (.const (.int .i64 (1))) 1 90 (Qz (SP.get am9 (i := 2) rfl)) h6 h7 ?_
    intro an0 an1 an2 bk6 hc474
    exact ⟨rfl, _, Qa o, ⟨an0, an1, an2, rfl⟩⟩
   rintro P W hs p ⟨d8, c9, d0, ⟨bk7, bk8, -⟩, an3⟩
   refine kM (kc (kA p 10 89) k0) fun o => ?_
   refine zE (Qv .i64) b7.1 c0 c1 85 2 (.tmp 89) (.const (.int .i64 (1))) 1 90 (Qz (SP.get an3 (i := 2) rfl)) h6 h7 ?_
   intro an4 an5 an6 bk9 hc483
   exact ⟨rfl, _, Qa o, ⟨an4, an5, an6, rfl⟩⟩
  ·refine Owe.light K [0, 1, 3] K (Qc ?_ (Qc ?_ (Qc ?_ Qq)))
   ·rintro P W hs p ⟨-, an7⟩
    obtain ⟨an8, an9, ao0, j5⟩ := p 11 90 K
    refine kM (kc j5 k0) fun o => ?_
    refine sC 2 90 an8 (an9 + Int.toNat 1 * (Qv .i64).sz) (iv a5) 91 (Ql (e := (Qv .i64)) (Qh (Qz (SP.get an7 (i := 2) rfl)) ao0 h6 h7) n6 (j := 0) rfl) ?_
    exact eK o
   ·rintro P W hs p ⟨c3, ⟨bl0, -⟩, ao1⟩
    obtain ⟨ao2, ao3, ao4, j5⟩ := p 11 90 K
    refine kM (kc j5 k0) fun o => ?_
    refine sC 2 90 ao2 (ao3 + Int.toNat 1 * (Qv .i64).sz) (iv a5) 91 (Ql (e := (Qv .i64)) (Qh (Qz (SP.get ao1 (i := 2) rfl)) ao4 h6 h7) n6 (j := 0) rfl) ?_
    exact eK o
   rintro P W hs p ⟨d8, c9, d0, ⟨bl1, bl2, -⟩, ao5⟩
   obtain ⟨ao6, ao7, ao8, j5⟩ := p 11 90 K
   refine kM (kc j5 k0) fun o => ?_
   refine sC 2 90 ao6 (ao7 + Int.toNat 1 * (Qv .i64).sz) (iv a5) 91 (Ql (e := (Qv .i64)) (Qh (Qz (SP.get ao5 (i := 2) rfl)) ao8 h6 h7) n6 (j := 0) rfl) ?_
   exact eK o
  ·exact oU (hC (hA 6 85) (hC (hA 9 88) (hC (hA 12 91) (h0))))
  ·refine Owe.heavy K [(0, 2), (1, 4), (3, 5)] K (Qc ⟨K, K, ?_⟩ (Qc ⟨K, K, ?_⟩ (Qc ⟨K, K, ?_⟩ Qq)))
   ·rintro P W hs p ⟨-, ao9⟩
    refine kM (kc (kA p 13 92) k0) fun o => ?_
    refine zN Vu 22 33 1 #[(0, (.tmp 92))] #[(sv a3), (iv a4), (iv a5), (lv none ([] : List (Int × Int)) 0), (lv none ([] : List Tk) 0)] ([(a3, a4, a5, (none, 0, ([] : List (Int × Int))), (none, 0, ([] : List Tk)))] : List Qg) 93 ao9 ?_
    intro ap0 bl3 ap1
    refine ⟨_, Qa o, trivial, ?_⟩
    exact (ei ap0 (ai (ai rfl (trivial)) ap1))
   ·rintro P W hs p ⟨c3, ⟨ap2, -⟩, ap3⟩
    refine kM (kc (kA p 13 92) k0) fun o => ?_
    refine zN Vu 22 33 1 #[(0, (.tmp 92))] #[(sv a3), (iv a4), (iv a5), (lv none ([] : List (Int × Int)) 0), (lv none ([] : List Tk) 0)] ([(a3, a4, a5, (none, 0, ([] : List (Int × Int))), (none, 0, ([] : List Tk)))] : List Qg) 93 ap3 ?_
    intro ap4 bl4 ap5
    refine ⟨_, Qa o, trivial, ?_⟩
    exact (ei c3 (ei ap4 (ai (ai ap2 (ai rfl (trivial))) ap5)))
   rintro P W hs p ⟨d8, c9, d0, ⟨ap6, ap7, -⟩, ap8⟩
   refine kM (kc (kA p 13 92) k0) fun o => ?_
   refine zN Vu 22 33 1 #[(0, (.tmp 92))] #[(sv a3), (iv a4), (iv a5), (lv none ([] : List (Int × Int)) 0), (lv none ([] : List Tk) 0)] ([(a3, a4, a5, (none, 0, ([] : List (Int × Int))), (none, 0, ([] : List Tk)))] : List Qg) 93 ap8 ?_
   intro ap9 bl5 aq0
   refine ⟨_, Qa o, trivial, ?_⟩
   exact (ei d8 (ei c9 (ei d0 (ei ap9 (ai (ai ap6 (ai ap7 (ai rfl (trivial)))) aq0)))))
  ·refine oH 5 6 ?_
   rintro P W hs p ⟨n7, h8, h9, i0, ⟨aq1, t5, t6, -⟩, t7⟩
   refine kN [(82, (lv h8 (mT (([] : List Qg) ++ d9)) h9)), (93, (lv (some ⟨i0, 0, none⟩) ([(a3, a4, a5, ([] : List (Int × Int)), ([] : List Tk))] : List Qb) (List.length ([(a3, a4, a5, ([] : List (Int × Int)), ([] : List Tk))] : List Qb))))] ⟨(Qr (h := 3) K).symm.trans t5, (Qr (h := 14) K).symm.trans t6, trivial⟩ fun o => ?_
   refine De stT (e := Vu) (l := (([] : List Qg) ++ d9)) (m := ([(a3, a4, a5, (none, 0, ([] : List (Int × Int))), (none, 0, ([] : List Tk)))] : List Qg)) (A := h8) (c := h9) (A2 := (some ⟨i0, 0, none⟩)) (c2 := (List.length ([(a3, a4, a5, ([] : List (Int × Int)), ([] : List Tk))] : List Qb))) (T := 22) (TX := 22) (E := 33) (E2 := 33) (b := 80) (s := (.tmp 82)) (x := (.tmp 93)) (i := 3) (d := (some 94)) (k := 15) K rfl K K K K rfl t7 rfl K (Qz (SP.get t7 (i := 4) rfl)) hl249 ?_
   intro aq2 aq3 bl6 aq4
   refine ⟨_, Qa o, trivial, ?_⟩
   exact (ei n7 (ei h8 (ei h9 (ei i0 (ei aq2 (ei aq3 (ai (ai aq1 (ai t5 (ai t6 (ai rfl (trivial))))) aq4)))))))
  ·exact oU (hC (hS 3 (pt a7 0)) (h0))
  ·refine oH 6 7 ?_
   rintro P W hs p ⟨n8, n9, o0, l5, f3, f4, ⟨aq5, aq6, aq7, t8, -⟩, aq8⟩
   refine kN [(95, (pt a7 4)), (94, (lv f3 (mT ((([] : List Qg) ++ d9) ++ ([(a3, a4, a5, (none, 0, ([] : List (Int × Int))), (none, 0, ([] : List Tk)))] : List Qg))) f4))] ⟨p 16 95 K, (Qr (h := 15) K).symm.trans t8, trivial⟩ fun o => ?_
   refine zT 22 (.tmp 95) (.tmp 94) a7 4 0 (lv f3 (mT ((([] : List Qg) ++ d9) ++ ([(a3, a4, a5, (none, 0, ([] : List (Int × Int))), (none, 0, ([] : List Tk)))] : List Qg))) f4) #[(iv v), (iv z), (iv a0), (iv a1), (lv f3 (mT ((([] : List Qg) ++ d9) ++ ([(a3, a4, a5, (none, 0, ([] : List (Int × Int))), (none, 0, ([] : List Tk)))] : List Qg))) f4)] none aq8 ?_
   intro bl7 aq9
   refine ⟨_, Qa o, trivial, ?_⟩
   exact (ei n8 (ei n9 (ei o0 (ei l5 (ei f3 (ei f4 (ai (ai aq5 (ai aq6 (ai aq7 (ai t8 (ai rfl (trivial)))))) aq9)))))))
  rintro P bl8 hs hf ⟨s8, s9, t0, o1, d1, d2, ⟨bl9, bm0, bm1, bm2, bm3, -⟩, t9⟩
  refine Qy _ (kc (kT hs 3 (pt a7 0)) (kc (kT hs 6 (pt a8 0)) k0)) ?_
  refine aC ?_
  refine jL 1 24 3 a7 0 0 (.agg #[(iv v), (iv z), (iv a0), (iv a1), (lv d1 (mT ((([] : List Qg) ++ d9) ++ ([(a3, a4, a5, (none, 0, ([] : List (Int × Int))), (none, 0, ([] : List Tk)))] : List Qg))) d2)]) 96 t9 rfl ?_
  refine iS 2 ?_
  refine zT 24 (.tmp 6) (.tmp 96) a8 0 1 (.agg #[(iv v), (iv z), (iv a0), (iv a1), (lv d1 (mT ((([] : List Qg) ++ d9) ++ ([(a3, a4, a5, (none, 0, ([] : List (Int × Int))), (none, 0, ([] : List Tk)))] : List Qg))) d2)]) #[(iv v), (iv z), (iv a0), (iv a1), (lv d1 (mT ((([] : List Qg) ++ d9) ++ ([(a3, a4, a5, (none, 0, ([] : List (Int × Int))), (none, 0, ([] : List Tk)))] : List Qg))) d2)] none t9 ?_
  intro bm4 u0
  refine iR 1 3 [(7, (bv true))] ?_
  refine iF ?_
  refine At.ret K ?_
  refine ⟨(.tuple #[(.agg #[(iv v), (iv z), (iv a0), (iv a1), (lv d1 (mT ((([] : List Qg) ++ d9) ++ ([(a3, a4, a5, (none, 0, ([] : List (Int × Int))), (none, 0, ([] : List Tk)))] : List Qg))) d2)]), (bv true)]), Cl K (Uf (a := 6) (t := 24) (g := a8) (off := 0) K (SP.get u0 (i := 1) rfl) K) (Nv (t := 7) K), ?_⟩
  obtain rfl := Qe H
  exact ⟨d1, d2, (Vh 33 Vu d1 d2 ((([] : List Qg) ++ d9) ++ ([(a3, a4, a5, (none, 0, ([] : List (Int × Int))), (none, 0, ([] : List Tk)))] : List Qg))), rfl, (O3 (Mo (Mo elq_nil (el_R b9)) (elq_ten (fun w _ => RdT.nil (Qf (Qv .u32) (Qv .i64)) w) (fun w _ => RdT.nil (Qf Qj (Qf Qj (Qv .i64))) w)))), SP.sel u0 [3] rfl rfl⟩
 refine At.skip K ?_
 refine aQ ?_
 refine aC ?_
 refine iR 2 2 [(97, (iv (ln (mT d9)))), (98, (bv ((ln (mT d9)) == 0)))] ?_
 refine iF ?_
 refine cD 98 H (fun H => ?_) fun H => ?_
 ·refine aC ?_
  refine jL 1 24 3 a7 0 0 (.agg #[(iv v), (iv z), (iv a0), (iv a1), (lv A6 (mT d9) c7)]) 99 d7 rfl ?_
  refine iS 2 ?_
  refine zT 24 (.tmp 6) (.tmp 99) a8 0 1 (.agg #[(iv v), (iv z), (iv a0), (iv a1), (lv A6 (mT d9) c7)]) #[(iv v), (iv z), (iv a0), (iv a1), (lv A6 (mT d9) c7)] none d7 ?_
  intro ar0 u1
  refine iR 1 3 [(7, (bv false))] ?_
  refine iF ?_
  refine At.ret K ?_
  have ar1 : SP [] w0 ar0 [Qs a7 24 #[(iv v), (iv z), (iv a0), (iv a1), (lv A6 (mT d9) c7)], Qs a8 24 #[(iv v), (iv z), (iv a0), (iv a1), (lv A6 (mT d9) c7)], L0] := Cq u1
  refine ⟨(.tuple #[(.agg #[(iv v), (iv z), (iv a0), (iv a1), (lv A6 (mT d9) c7)]), (bv false)]), Cl K (Uf (a := 6) (t := 24) (g := a8) (off := 0) K (SP.get u1 (i := 1) rfl) K) (Nv (t := 7) K), ?_⟩
  obtain rfl := Qe H
  exact ⟨A6, c7, L0, rfl, (Hz _ b9), SP.sel ar1 [2] rfl rfl⟩
 refine At.skip K ?_
 refine aC ?_
 refine iR 1 1 [(100, (pt a7 4))] ?_
 refine jL 2 22 100 a7 4 0 (lv A6 (mT d9) c7) 101 d7 rfl ?_
 refine iR 2 4 [(102, (iv (ln (mT d9)))), (103, (iv (IntKind.wrap .i64 ((ln (mT d9)) - 1))))] ?_
 obtain ⟨f, u2, u3, f5, H⟩ := J9 H
 refine iS 5 ?_
 refine Xd stT (e := Vu) (l := d9) (A := A6) (c := c7) (T := 22) (E := 33) (x := (.tmp 101)) (ix := (.tmp 103)) (ki := .i64) (iz := (IntKind.wrap .i64 ((ln (mT d9)) - 1))) (d := (some 104)) (k := 4) K rfl K K K K ((fun w hm => (Zh (b9 w hm))) g9 (hR _ (SP.keeps d7))) u2 u3 ?_
 intro ar2 ar3 ar4 bm5 hc568
 refine iS 6 ?_
 refine Qx.cells (t := 33) (x := (.tmp 104)) (b := ar2) (off := (ar3 + Int.toNat (IntKind.wrap .i64 ((ln (mT d9)) - 1)) * Vu.sz)) (xs := [(sv (stT f).1), (iv (stT f).2.1), (iv (stT f).2.2.1), (lv f.2.2.2.1.1 (stT f).2.2.2.1 f.2.2.2.1.2.1), (lv f.2.2.2.2.1 (stT f).2.2.2.2 f.2.2.2.2.2.1)]) (d := (some 105)) (k := 5) K rfl K K K (Vd (e := Vu) (Qh ((fun w hm => (Zh (b9 w hm))) g9 (hR _ (SP.keeps d7))) ar4 u2 u3) f5 rfl) ?_
 refine iS 7 ?_
 refine zA 33 (.agg #[(sv ([] : Bs)), (iv 0), (iv 0), (lv none ([] : List (Int × Int)) 0), (lv none ([] : List Tk) 0)]) 13 d7 ?_
 intro b2 bm6 ar5
 refine iS 8 ?_
 refine zT 33 (.tmp 13) (.tmp 105) b2 0 2 (.agg #[(sv (stT f).1), (iv (stT f).2.1), (iv (stT f).2.2.1), (lv f.2.2.2.1.1 (stT f).2.2.2.1 f.2.2.2.1.2.1), (lv f.2.2.2.2.1 (stT f).2.2.2.2 f.2.2.2.2.2.1)]) #[(sv (stT f).1), (iv (stT f).2.1), (iv (stT f).2.2.1), (lv f.2.2.2.1.1 (stT f).2.2.2.1 f.2.2.2.1.2.1), (lv f.2.2.2.2.1 (stT f).2.2.2.2 f.2.2.2.2.2.1)] none ar5 ?_
 intro u4 i1
 refine iF ?_
 refine aQ ?_
 refine aQ ?_
 refine At.join (fun ρ w => ∃ (o2 : Bool), Vq ρ [(2, (lv a9 u b0)), (3, (pt a7 0)), (6, (pt a8 0)), (13, (pt b2 0)), (120, (bv o2))] ∧ SP [] w0 w [Qs a7 24 #[(iv v), (iv z), (iv a0), (iv a1), (lv A6 (mT d9) c7)], Qs a8 24 #[(iv 0), (iv 0), (iv 0), (iv 0), (lv none ([] : List Qb) 0)], Qs b2 33 #[(sv (stT f).1), (iv (stT f).2.1), (iv (stT f).2.2.1), (lv f.2.2.2.1.1 (stT f).2.2.2.1 f.2.2.2.1.2.1), (lv f.2.2.2.2.1 (stT f).2.2.2.2 f.2.2.2.2.2.1)]] ∧ Zo v z a0 a1 (mT d9) u (stT f) o2 = some r) ?_ ?_
 ·refine aR ?_
  refine iR 1 1 [(106, (lv a9 u b0))] ?_
  obtain ⟨o3, u5, u6, ar6, H⟩ := Qu H
  refine jE 2 Qj u a9 b0 79 9 (.tmp 106) (.const (.int .i64 (0))) 0 107 (b3 u4 (hR _ (SP.keeps i1))) u5 u6 ?_
  intro ar7 ar8 ar9 bm7 hc1215
  refine jX 3 9 107 ar7 (ar8 + Int.toNat 0 * Qj.sz) (sv o3) 108 (Ql (e := Qj) (Qh (b3 u4 (hR _ (SP.keeps i1))) ar9 u5 u6) ar6 (j := 0) rfl) ?_
  refine jO 4 9 (.tmp 108) (.const (.string ⟨List.toArray ([110, 101, 116] : Bs)⟩)) o3 ([110, 101, 116] : Bs) 109 ?_
  refine iR 1 5 [(110, (bv (o3 == ([110, 101, 116] : Bs))))] ?_
  refine gD 110 H (fun H => ?_) fun H => ?_
  ·refine iR 5 10 [(111, (lv a9 u b0)), (112, (iv (ln u))), (113, (bv ((ln u) == 2))), (114, (bv ((ln u) == 2))), (115, (bv ((ln u) == 2)))] ?_
   refine gD 115 H (fun H => ?_) fun H => ?_
   ·refine iR 1 11 [(116, (pt b2 4))] ?_
    refine jL 12 31 116 b2 4 2 (lv f.2.2.2.2.1 (stT f).2.2.2.2 f.2.2.2.2.2.1) 117 i1 rfl ?_
    refine iR 3 15 [(118, (iv (ln (stT f).2.2.2.2))), (119, (bv ((ln (stT f).2.2.2.2) == 0))), (120, (bv ((ln (stT f).2.2.2.2) == 0)))] ?_
    refine iF ?_
    exact ⟨((ln (stT f).2.2.2.2) == 0), ⟨K, K, K, K, K, trivial⟩, SP.sel i1 [0, 1, 2] rfl rfl, H⟩
   refine iR 5 15 (uN 116 4 [(120, (bv false))]) ?_
   refine iF ?_
   exact ⟨false, ⟨K, K, K, K, K, trivial⟩, SP.sel i1 [0, 1, 2] rfl rfl, H⟩
  refine iR 10 15 (uN 111 3 ((114, (bv false)) :: (115, (bv false)) :: (uN 116 4 [(120, (bv false))]))) ?_
  refine iF ?_
  exact ⟨false, ⟨K, K, K, K, K, trivial⟩, SP.sel i1 [0, 1, 2] rfl rfl, H⟩
 rintro ρ j6 ⟨o2, hk, f6, H⟩
 unfold Zo at H
 first | refine At.known _ hk ?_ | rw [← Qo hk]
 refine cD 120 H (fun H => ?_) fun H => ?_
 ·refine aC ?_
  refine iR 1 1 [(122, (lv a9 u b0))] ?_
  obtain ⟨u7, u8, u9, as0, H⟩ := Qu H
  refine jE 2 Qj u a9 b0 79 9 (.tmp 122) (.const (.int .i64 (1))) 1 123 (b3 j6 (hR _ (SP.keeps f6))) u8 u9 ?_
  intro as1 as2 as3 bm8 hc599
  refine jX 3 9 123 as1 (as2 + Int.toNat 1 * Qj.sz) (sv u7) 124 (Ql (e := Qj) (Qh (b3 j6 (hR _ (SP.keeps f6))) as3 u8 u9) as0 (j := 0) rfl) ?_
  obtain ⟨q, as4, H⟩ := Qd H
  refine iS 4 ?_
  refine cS f6 93 #[(.tmp 124)] #[9] 125 Tryz.call93 (E0  u7 j6  q as4) ?_
  intro bm9 as5
  refine iR 3 7 [(121, (.tuple #[(.agg #[(.int .u32 q.1), (iv q.2.1)]), (bv q.2.2)])), (126, (.agg #[(.int .u32 q.1), (iv q.2.1)])), (127, (bv q.2.2))] ?_
  refine iS 8 ?_
  refine zA 102 (.agg #[(.int .u32 0), (iv 0)]) 14 as5 ?_
  intro e0 bn0 as6
  refine iS 9 ?_
  refine zT 102 (.tmp 14) (.tmp 126) e0 0 3 (.agg #[(.int .u32 q.1), (iv q.2.1)]) #[(.int .u32 q.1), (iv q.2.1)] none as6 ?_
  intro bn1 as7
  refine iR 1 10 [(15, (bv q.2.2))] ?_
  refine iF ?_
  refine aQ ?_
  obtain ⟨hl619, H⟩ := Zx H
  obtain ⟨e1, hyl620⟩ : ∃ y, ([] : List (Int × Int)) ++ (stT f).2.2.2.1 = y := ⟨_, rfl⟩
  try rw [hyl620] at H
  obtain ⟨hl630, H⟩ := Zx H
  obtain ⟨c5, hyl631⟩ : ∃ y, e1 ++ ([(q.1, q.2.1)] : List (Int × Int)) = y := ⟨_, rfl⟩
  try rw [hyl631] at H
  refine aG [Ry, GEq (pt b2 3), GEq (lv f.2.2.2.1.1 (stT f).2.2.2.1 f.2.2.2.1.2.1), Ry, GEq (.agg #[(.int .u32 q.1), (iv q.2.1)]), Ry, Ry, GEq (pt b2 3), Ry] [0, 3, 5, 6, 8] ((fun (X0 X1 X2 X3 : Ent) => [([], fun vs w => VL vs [] ∧ SP [] w0 w [X0, X1, X2, X3]), ([0], fun vs w => ∃ (d3 : Nat), VL vs [(lv (some ⟨d3, 0, none⟩) ([] : List (Int × Int)) (List.length ([] : List (Int × Int))))] ∧ SP [] w0 w [X0, X1, X2, X3, Vh 102 (Qf (Qv .u32) (Qv .i64)) (some ⟨d3, 0, none⟩) (List.length ([] : List (Int × Int))) ([] : List (Int × Int))]), ([5], fun vs w => ∃ (j7 : Nat), VL vs [(lv (some ⟨j7, 0, none⟩) ([(q.1, q.2.1)] : List (Int × Int)) (List.length ([(q.1, q.2.1)] : List (Int × Int))))] ∧ SP [] w0 w [X0, X1, X2, X3, Vh 102 (Qf (Qv .u32) (Qv .i64)) (some ⟨j7, 0, none⟩) (List.length ([(q.1, q.2.1)] : List (Int × Int))) ([(q.1, q.2.1)] : List (Int × Int))]), ([0, 3], fun vs w => ∃ (l6 : Nat), ∃ (j8 : Option Addr), ∃ (j9 : Nat), VL vs [(lv (some ⟨l6, 0, none⟩) ([] : List (Int × Int)) (List.length ([] : List (Int × Int)))), (lv j8 e1 j9)] ∧ SP [] w0 w [X0, X1, X2, X3, Vh 102 (Qf (Qv .u32) (Qv .i64)) j8 j9 e1]), ([0, 5], fun vs w => ∃ (f7 : Nat), ∃ (k1 : Nat), VL vs [(lv (some ⟨f7, 0, none⟩) ([] : List (Int × Int)) (List.length ([] : List (Int × Int)))), (lv (some ⟨k1, 0, none⟩) ([(q.1, q.2.1)] : List (Int × Int)) (List.length ([(q.1, q.2.1)] : List (Int × Int))))] ∧ SP [] w0 w [X0, X1, X2, X3, Vh 102 (Qf (Qv .u32) (Qv .i64)) (some ⟨f7, 0, none⟩) (List.length ([] : List (Int × Int))) ([] : List (Int × Int)), Vh 102 (Qf (Qv .u32) (Qv .i64)) (some ⟨k1, 0, none⟩) (List.length ([(q.1, q.2.1)] : List (Int × Int))) ([(q.1, q.2.1)] : List (Int × Int))]), ([0, 3, 5], fun vs w => ∃ (o4 : Nat), ∃ (i2 : Option Addr), ∃ (i3 : Nat), ∃ (i4 : Nat), VL vs [(lv (some ⟨o4, 0, none⟩) ([] : List (Int × Int)) (List.length ([] : List (Int × Int)))), (lv i2 e1 i3), (lv (some ⟨i4, 0, none⟩) ([(q.1, q.2.1)] : List (Int × Int)) (List.length ([(q.1, q.2.1)] : List (Int × Int))))] ∧ SP [] w0 w [X0, X1, X2, X3, Vh 102 (Qf (Qv .u32) (Qv .i64)) i2 i3 e1, Vh 102 (Qf (Qv .u32) (Qv .i64)) (some ⟨i4, 0, none⟩) (List.length ([(q.1, q.2.1)] : List (Int × Int))) ([(q.1, q.2.1)] : List (Int × Int))]), ([0, 3, 5, 6], fun vs w => ∃ (o5 : Nat), ∃ (o6 : Option Addr), ∃ (o7 : Nat), ∃ (l7 : Nat), ∃ (f8 : Option Addr), ∃ (f9 : Nat), VL vs [(lv (some ⟨o5, 0, none⟩) ([] : List (Int × Int)) (List.length ([] : List (Int × Int)))), (lv o6 e1 o7), (lv (some ⟨l7, 0, none⟩) ([(q.1, q.2.1)] : List (Int × Int)) (List.length ([(q.1, q.2.1)] : List (Int × Int)))), (lv f8 c5 f9)] ∧ SP [] w0 w [X0, X1, X2, X3, Vh 102 (Qf (Qv .u32) (Qv .i64)) f8 f9 c5, Vh 102 (Qf (Qv .u32) (Qv .i64)) (some ⟨l7, 0, none⟩) (List.length ([(q.1, q.2.1)] : List (Int × Int))) ([(q.1, q.2.1)] : List (Int × Int))]), ([0, 3, 5, 6, 8], fun vs w => ∃ (v0 : Nat), ∃ (v1 : Option Addr), ∃ (v2 : Nat), ∃ (l8 : Nat), ∃ (e7 : Option Addr), ∃ (e8 : Nat), VL vs [(lv (some ⟨v0, 0, none⟩) ([] : List (Int × Int)) (List.length ([] : List (Int × Int)))), (lv v1 e1 v2), (lv (some ⟨l8, 0, none⟩) ([(q.1, q.2.1)] : List (Int × Int)) (List.length ([(q.1, q.2.1)] : List (Int × Int)))), (lv e7 c5 e8), undef] ∧ SP [] w0 w [X0, X1, Qs b2 33 #[(sv (stT f).1), (iv (stT f).2.1), (iv (stT f).2.2.1), (lv e7 c5 e8), (lv f.2.2.2.2.1 (stT f).2.2.2.2 f.2.2.2.2.2.1)], X3, Vh 102 (Qf (Qv .u32) (Qv .i64)) e7 e8 c5, Vh 102 (Qf (Qv .u32) (Qv .i64)) (some ⟨l8, 0, none⟩) (List.length ([(q.1, q.2.1)] : List (Int × Int))) ([(q.1, q.2.1)] : List (Int × Int))])]) (Qs a7 24 #[(iv v), (iv z), (iv a0), (iv a1), (lv A6 (mT d9) c7)]) (Qs a8 24 #[(iv 0), (iv 0), (iv 0), (iv 0), (lv none ([] : List Qb) 0)]) (Qs b2 33 #[(sv (stT f).1), (iv (stT f).2.1), (iv (stT f).2.2.1), (lv f.2.2.2.1.1 (stT f).2.2.2.1 f.2.2.2.1.2.1), (lv f.2.2.2.2.1 (stT f).2.2.2.2 f.2.2.2.2.2.1)]) (Qs e0 102 #[(.int .u32 q.1), (iv q.2.1)])) 9 7 ⟨trivial, SP.drew as7⟩ ?_ ?_
  iterate 9 refine And.intro ?_ ?_
  exact trivial
  ·refine Owe.heavy K [(0, 1), (2, 4)] K (Qc ⟨K, K, ?_⟩ (Qc ⟨K, K, ?_⟩ Qq))
   ·rintro P W hs p ⟨-, as8⟩
    refine kN [] trivial fun o => ?_
    refine zN (Qf (Qv .u32) (Qv .i64)) 30 102 0 #[] #[] ([] : List (Int × Int)) 128 as8 ?_
    intro as9 bn2 at0
    refine ⟨_, Qa o, trivial, ?_⟩
    exact (ei as9 (ai (ai rfl (trivial)) at0))
   rintro P W hs p ⟨j7, ⟨at1, -⟩, at2⟩
   refine kN [] trivial fun o => ?_
   refine zN (Qf (Qv .u32) (Qv .i64)) 30 102 0 #[] #[] ([] : List (Int × Int)) 128 at2 ?_
   intro at3 bn3 at4
   refine ⟨_, Qa o, trivial, ?_⟩
   exact (ei at3 (ei j7 (ai (ai rfl (ai at1 (trivial))) (SP.sel at4 [0, 1, 2, 3, 5, 4] rfl rfl))))
  ·exact oU (hC (hS 13 (pt b2 0)) (h0))
  ·refine Owe.light K [0, 1, 2, 4] K (Qc ?_ (Qc ?_ (Qc ?_ (Qc ?_ Qq))))
   ·rintro P W hs p ⟨-, at5⟩
    refine kM (kc (kA p 1 129) k0) fun o => ?_
    refine sL 30 129 b2 3 2 (lv f.2.2.2.1.1 (stT f).2.2.2.1 f.2.2.2.1.2.1) 130 at5 rfl ?_
    exact eK o
   ·rintro P W hs p ⟨d3, ⟨bn4, -⟩, at6⟩
    refine kM (kc (kA p 1 129) k0) fun o => ?_
    refine sL 30 129 b2 3 2 (lv f.2.2.2.1.1 (stT f).2.2.2.1 f.2.2.2.1.2.1) 130 at6 rfl ?_
    exact eK o
   ·rintro P W hs p ⟨j7, ⟨bn5, -⟩, at7⟩
    refine kM (kc (kA p 1 129) k0) fun o => ?_
    refine sL 30 129 b2 3 2 (lv f.2.2.2.1.1 (stT f).2.2.2.1 f.2.2.2.1.2.1) 130 at7 rfl ?_
    exact eK o
   rintro P W hs p ⟨f7, k1, ⟨bn6, bn7, -⟩, at8⟩
   refine kM (kc (kA p 1 129) k0) fun o => ?_
   refine sL 30 129 b2 3 2 (lv f.2.2.2.1.1 (stT f).2.2.2.1 f.2.2.2.1.2.1) 130 at8 rfl ?_
   exact eK o
  ·refine Owe.heavy K [(1, 3), (4, 5)] K (Qc ⟨K, K, ?_⟩ (Qc ⟨K, K, ?_⟩ Qq))
   ·rintro P W hs p ⟨d3, ⟨v3, -⟩, v4⟩
    refine kN [(128, (lv (some ⟨d3, 0, none⟩) ([] : List (Int × Int)) (List.length ([] : List (Int × Int))))), (130, (lv f.2.2.2.1.1 (stT f).2.2.2.1 f.2.2.2.1.2.1))] ⟨(Qr (h := 0) K).symm.trans v3, p 2 130 K, trivial⟩ fun o => ?_
    refine Qx.append (e := (Qf (Qv .u32) (Qv .i64))) (l := ([] : List (Int × Int))) (m := (stT f).2.2.2.1) (A := (some ⟨d3, 0, none⟩)) (c := (List.length ([] : List (Int × Int)))) (T := 30) (TX := 30) (E := 102) (b := 16) (s := (.tmp 128)) (x := (.tmp 130)) (i := 4) (vx := (lv f.2.2.2.1.1 (stT f).2.2.2.1 f.2.2.2.1.2.1)) (d := (some 131)) (k := 3) K rfl K K K K rfl v4 rfl (Rj (E := 102) K ((fun w hm => (Zh ((fun w hm => (dp1 (dp2 (dp2 (dp2 (Gd (b9 w hm) f5)))))) w hm))) W (hR _ (SP.keeps v4)))) hl619 ?_
    rw [hyl620]
    intro at9 au0 bn8 au1
    refine ⟨_, Qa o, trivial, ?_⟩
    exact (ei d3 (ei at9 (ei au0 (ai (ai v3 (ai rfl (trivial))) au1))))
   rintro P W hs p ⟨f7, k1, ⟨v5, au2, -⟩, v6⟩
   refine kN [(128, (lv (some ⟨f7, 0, none⟩) ([] : List (Int × Int)) (List.length ([] : List (Int × Int))))), (130, (lv f.2.2.2.1.1 (stT f).2.2.2.1 f.2.2.2.1.2.1))] ⟨(Qr (h := 0) K).symm.trans v5, p 2 130 K, trivial⟩ fun o => ?_
   refine Qx.append (e := (Qf (Qv .u32) (Qv .i64))) (l := ([] : List (Int × Int))) (m := (stT f).2.2.2.1) (A := (some ⟨f7, 0, none⟩)) (c := (List.length ([] : List (Int × Int)))) (T := 30) (TX := 30) (E := 102) (b := 16) (s := (.tmp 128)) (x := (.tmp 130)) (i := 4) (vx := (lv f.2.2.2.1.1 (stT f).2.2.2.1 f.2.2.2.1.2.1)) (d := (some 131)) (k := 3) K rfl K K K K rfl v6 rfl (Rj (E := 102) K ((fun w hm => (Zh ((fun w hm => (dp1 (dp2 (dp2 (dp2 (Gd (b9 w hm) f5)))))) w hm))) W (hR _ (SP.keeps v6)))) hl619 ?_
   rw [hyl620]
   intro au3 au4 bn9 au5
   refine ⟨_, Qa o, trivial, ?_⟩
   exact (ei f7 (ei au3 (ei au4 (ei k1 (ai (ai v5 (ai rfl (ai au2 (trivial)))) au5)))))
  ·refine Owe.light K [0, 1, 3] K (Qc ?_ (Qc ?_ (Qc ?_ Qq)))
   ·rintro P W hs p ⟨-, au6⟩
    refine kM (kc (kS hs 14 (pt e0 0)) k0) fun o => ?_
    refine sL 102 14 e0 0 3 (.agg #[(.int .u32 q.1), (iv q.2.1)]) 132 au6 rfl ?_
    exact eK o
   ·rintro P W hs p ⟨d3, ⟨bo0, -⟩, au7⟩
    refine kM (kc (kS hs 14 (pt e0 0)) k0) fun o => ?_
    refine sL 102 14 e0 0 3 (.agg #[(.int .u32 q.1), (iv q.2.1)]) 132 au7 rfl ?_
    exact eK o
   rintro P W hs p ⟨l6, j8, j9, ⟨bo1, bo2, -⟩, au8⟩
   refine kM (kc (kS hs 14 (pt e0 0)) k0) fun o => ?_
   refine sL 102 14 e0 0 3 (.agg #[(.int .u32 q.1), (iv q.2.1)]) 132 au8 rfl ?_
   exact eK o
  ·refine Owe.heavy K [(0, 2), (1, 4), (3, 5)] K (Qc ⟨K, K, ?_⟩ (Qc ⟨K, K, ?_⟩ (Qc ⟨K, K, ?_⟩ Qq)))
   ·rintro P W hs p ⟨-, au9⟩
    refine kM (kc (kA p 4 132) k0) fun o => ?_
    refine zN (Qf (Qv .u32) (Qv .i64)) 30 102 1 #[(0, (.tmp 132))] #[(.int .u32 q.1), (iv q.2.1)] ([(q.1, q.2.1)] : List (Int × Int)) 133 au9 ?_
    intro av0 bo3 av1
    refine ⟨_, Qa o, trivial, ?_⟩
    exact (ei av0 (ai (ai rfl (trivial)) av1))
   ·rintro P W hs p ⟨d3, ⟨av2, -⟩, av3⟩
    refine kM (kc (kA p 4 132) k0) fun o => ?_
    refine zN (Qf (Qv .u32) (Qv .i64)) 30 102 1 #[(0, (.tmp 132))] #[(.int .u32 q.1), (iv q.2.1)] ([(q.1, q.2.1)] : List (Int × Int)) 133 av3 ?_
    intro av4 bo4 av5
    refine ⟨_, Qa o, trivial, ?_⟩
    exact (ei d3 (ei av4 (ai (ai av2 (ai rfl (trivial))) av5)))
   rintro P W hs p ⟨l6, j8, j9, ⟨av6, av7, -⟩, av8⟩
   refine kM (kc (kA p 4 132) k0) fun o => ?_
   refine zN (Qf (Qv .u32) (Qv .i64)) 30 102 1 #[(0, (.tmp 132))] #[(.int .u32 q.1), (iv q.2.1)] ([(q.1, q.2.1)] : List (Int × Int)) 133 av8 ?_
   intro av9 bo5 aw0
   refine ⟨_, Qa o, trivial, ?_⟩
   exact (ei l6 (ei j8 (ei j9 (ei av9 (ai (ai av6 (ai av7 (ai rfl (trivial)))) aw0)))))
  ·refine oH 5 6 ?_
   rintro P W hs p ⟨o4, i2, i3, i4, ⟨aw1, v7, v8, -⟩, v9⟩
   refine kN [(131, (lv i2 e1 i3)), (133, (lv (some ⟨i4, 0, none⟩) ([(q.1, q.2.1)] : List (Int × Int)) (List.length ([(q.1, q.2.1)] : List (Int × Int)))))] ⟨(Qr (h := 3) K).symm.trans v7, (Qr (h := 5) K).symm.trans v8, trivial⟩ fun o => ?_
   refine Qx.append (e := (Qf (Qv .u32) (Qv .i64))) (l := e1) (m := ([(q.1, q.2.1)] : List (Int × Int))) (A := i2) (c := i3) (T := 30) (TX := 30) (E := 102) (b := 16) (s := (.tmp 131)) (x := (.tmp 133)) (i := 4) (vx := (lv (some ⟨i4, 0, none⟩) ([(q.1, q.2.1)] : List (Int × Int)) (List.length ([(q.1, q.2.1)] : List (Int × Int))))) (d := (some 134)) (k := 6) K rfl K K K K rfl v9 rfl (Rj (E := 102) K (Qz (SP.get v9 (i := 5) rfl))) hl630 ?_
   rw [hyl631]
   intro aw2 aw3 bo6 aw4
   refine ⟨_, Qa o, trivial, ?_⟩
   exact (ei o4 (ei i2 (ei i3 (ei i4 (ei aw2 (ei aw3 (ai (ai aw1 (ai v7 (ai v8 (ai rfl (trivial))))) aw4)))))))
  ·exact oU (hC (hS 13 (pt b2 0)) (h0))
  ·refine oH 6 7 ?_
   rintro P W hs p ⟨o5, o6, o7, l7, f8, f9, ⟨aw5, aw6, aw7, w1, -⟩, aw8⟩
   refine kN [(135, (pt b2 3)), (134, (lv f8 c5 f9))] ⟨p 7 135 K, (Qr (h := 6) K).symm.trans w1, trivial⟩ fun o => ?_
   refine zT 30 (.tmp 135) (.tmp 134) b2 3 2 (lv f8 c5 f9) #[(sv (stT f).1), (iv (stT f).2.1), (iv (stT f).2.2.1), (lv f8 c5 f9), (lv f.2.2.2.2.1 (stT f).2.2.2.2 f.2.2.2.2.2.1)] none aw8 ?_
   intro bo7 aw9
   refine ⟨_, Qa o, trivial, ?_⟩
   exact (ei o5 (ei o6 (ei o7 (ei l7 (ei f8 (ei f9 (ai (ai aw5 (ai aw6 (ai aw7 (ai w1 (ai rfl (trivial)))))) aw9)))))))
  rintro P ax0 hs hf ⟨v0, v1, v2, l8, e7, e8, ⟨bo8, bo9, bp0, bp1, bp2, -⟩, k2⟩
  refine Qy _ (kc (kT hs 3 (pt a7 0)) (kc (kT hs 6 (pt a8 0)) (kc (kT hs 13 (pt b2 0)) (kc (kT hs 15 (bv q.2.2)) k0)))) ?_
  refine aC ?_
  refine jL 1 24 3 a7 0 0 (.agg #[(iv v), (iv z), (iv a0), (iv a1), (lv A6 (mT d9) c7)]) 136 k2 rfl ?_
  refine jL 2 33 13 b2 0 2 (.agg #[(sv (stT f).1), (iv (stT f).2.1), (iv (stT f).2.2.1), (lv e7 c5 e8), (lv f.2.2.2.2.1 (stT f).2.2.2.2 f.2.2.2.2.2.1)]) 137 k2 rfl ?_
  obtain ⟨c4, ax1, H⟩ := Qd H
  obtain ⟨l9, hl819, H⟩ := Z4 H
  refine iS 3 ?_
  refine cF 94 #[(.tmp 136), (.tmp 137)] #[24, 33] 138 Tryz.call94 (Du (R := fun w => R w ∧ (Vh 102 (Qf (Qv .u32) (Qv .i64)) e7 e8 c5).ok w ∧ True) A6 c7 e7 e8 f.2.2.2.2.1 f.2.2.2.2.2.1 v z a0 a1 d9 (stT f).1 (stT f).2.1 (stT f).2.2.1 c5 (stT f).2.2.2.2 ax0 (fun w hb => ⟨hR w (Gi k2 hb), SP.get (SP.below k2 hb) (i := 4) rfl, trivial⟩) (fun w hr => b9 w hr.1) (fun w hr => Qz hr.2.1) (fun w hr => (fun w hm => (Zh ((fun w hm => (dp2 (dp2 (dp2 (dp2 (Gd (b9 w hm) f5)))))) w hm))) w hr.1) c4 ax1) ?_
  rintro e ax2 ⟨k3, k4, E824, rfl, w2, w3⟩
  rw [hl819] at w2 ⊢
  refine ⟨_, rfl, ?_⟩
  have ax3 := SP.call k2 w3
  clear w3
  obtain ⟨E828, hE829, w4⟩ := Ig ax3 (i := 4) (j := 6) rfl rfl (by decide)
  have ax4 : SP [] w0 ax2 [Qs a7 24 #[(iv v), (iv z), (iv a0), (iv a1), (lv A6 (mT d9) c7)], Qs a8 24 #[(iv 0), (iv 0), (iv 0), (iv 0), (lv none ([] : List Qb) 0)], Qs b2 33 #[(sv (stT f).1), (iv (stT f).2.1), (iv (stT f).2.2.1), (lv e7 c5 e8), (lv f.2.2.2.2.1 (stT f).2.2.2.2 f.2.2.2.2.2.1)], Qs e0 102 #[(.int .u32 q.1), (iv q.2.1)], E828, Vh 102 (Qf (Qv .u32) (Qv .i64)) (some ⟨l8, 0, none⟩) (List.length ([(q.1, q.2.1)] : List (Int × Int))) ([(q.1, q.2.1)] : List (Int × Int))] := w4
  clear w4
  have ax5 : Yv (fun w => R w) E828 k3 k4 l9 := Bv w2 (fun w h1 he => ⟨⟨h1, (hE829 w he).1, trivial⟩, (hE829 w he).2⟩)
  refine iR 1 4 [(139, (bv q.2.2))] ?_
  refine iS 5 ?_
  refine zT 24 (.tmp 6) (.tmp 138) a8 0 1 (.agg #[(iv c4.1), (iv c4.2.1), (iv c4.2.2.1), (iv c4.2.2.2.1), (lv k3 l9 k4)]) #[(iv c4.1), (iv c4.2.1), (iv c4.2.2.1), (iv c4.2.2.2.1), (lv k3 l9 k4)] none ax4 ?_
  intro bp3 w5
  refine iR 1 6 [(7, (bv q.2.2))] ?_
  refine iF ?_
  refine At.ret K ?_
  refine ⟨(.tuple #[(.agg #[(iv c4.1), (iv c4.2.1), (iv c4.2.2.1), (iv c4.2.2.2.1), (lv k3 l9 k4)]), (bv q.2.2)]), Cl K (Uf (a := 6) (t := 24) (g := a8) (off := 0) K (SP.get w5 (i := 1) rfl) K) (Nv (t := 7) K), ?_⟩
  obtain rfl := Qe H
  exact ⟨k3, k4, E828, rfl, ax5, SP.sel w5 [4] rfl rfl⟩
 refine At.skip K ?_
 refine aQ ?_
 refine aQ ?_
 refine At.join (fun ρ w => ∃ (o8 : Bool), Vq ρ [(2, (lv a9 u b0)), (3, (pt a7 0)), (6, (pt a8 0)), (13, (pt b2 0)), (148, (bv o8))] ∧ SP [] w0 w [Qs a7 24 #[(iv v), (iv z), (iv a0), (iv a1), (lv A6 (mT d9) c7)], Qs a8 24 #[(iv 0), (iv 0), (iv 0), (iv 0), (lv none ([] : List Qb) 0)], Qs b2 33 #[(sv (stT f).1), (iv (stT f).2.1), (iv (stT f).2.2.1), (lv f.2.2.2.1.1 (stT f).2.2.2.1 f.2.2.2.1.2.1), (lv f.2.2.2.2.1 (stT f).2.2.2.2 f.2.2.2.2.2.1)]] ∧ Un v z a0 a1 (mT d9) u (stT f) o8 = some r) ?_ ?_
 ·refine aR ?_
  refine iR 1 1 [(140, (lv a9 u b0))] ?_
  obtain ⟨o9, w6, w7, ax6, H⟩ := Qu H
  refine jE 2 Qj u a9 b0 79 9 (.tmp 140) (.const (.int .i64 (0))) 0 141 (b3 j6 (hR _ (SP.keeps f6))) w6 w7 ?_
  intro ax7 ax8 ax9 bp4 hc1205
  refine jX 3 9 141 ax7 (ax8 + Int.toNat 0 * Qj.sz) (sv o9) 142 (Ql (e := Qj) (Qh (b3 j6 (hR _ (SP.keeps f6))) ax9 w6 w7) ax6 (j := 0) rfl) ?_
  refine jO 4 9 (.tmp 142) (.const (.string ⟨List.toArray ([116, 111, 107, 101, 110] : Bs)⟩)) o9 ([116, 111, 107, 101, 110] : Bs) 143 ?_
  refine iR 1 5 [(144, (bv (o9 == ([116, 111, 107, 101, 110] : Bs))))] ?_
  refine gD 144 H (fun H => ?_) fun H => ?_
  ·refine iR 4 9 [(145, (lv a9 u b0)), (146, (iv (ln u))), (147, (bv ((ln u) == 4))), (148, (bv ((ln u) == 4)))] ?_
   refine iF ?_
   exact ⟨((ln u) == 4), ⟨K, K, K, K, K, trivial⟩, SP.sel f6 [0, 1, 2] rfl rfl, H⟩
  refine iR 4 9 (uN 145 3 [(148, (bv false))]) ?_
  refine iF ?_
  exact ⟨false, ⟨K, K, K, K, K, trivial⟩, SP.sel f6 [0, 1, 2] rfl rfl, H⟩
 rintro ρ p0 ⟨o8, hk, k5, H⟩
 unfold Un at H
 first | refine At.known _ hk ?_ | rw [← Qo hk]
 refine cD 148 H (fun H => ?_) fun H => ?_
 ·refine aC ?_
  refine iR 1 1 [(150, (lv a9 u b0))] ?_
  obtain ⟨w8, w9, x0, ay0, H⟩ := Qu H
  refine jE 2 Qj u a9 b0 79 9 (.tmp 150) (.const (.int .i64 (2))) 2 151 (b3 p0 (hR _ (SP.keeps k5))) w9 x0 ?_
  intro ay1 ay2 ay3 bp5 hc856
  refine jX 3 9 151 ay1 (ay2 + Int.toNat 2 * Qj.sz) (sv w8) 152 (Ql (e := Qj) (Qh (b3 p0 (hR _ (SP.keeps k5))) ay3 w9 x0) ay0 (j := 0) rfl) ?_
  obtain ⟨a2, ay4, H⟩ := Qd H
  refine iS 4 ?_
  refine cF 95 #[(.tmp 152)] #[9] 153 Tryz.call95 (C2  w8 p0  a2 ay4) ?_
  rintro e p1 ⟨d4, d5, rfl, x1⟩
  refine ⟨_, rfl, ?_⟩
  have p2 := SP.call k5 x1
  clear x1
  refine iR 5 9 [(149, (.tuple #[(lv d4 a2.1 d5), (bv a2.2)])), (154, (lv d4 a2.1 d5)), (155, (bv a2.2)), (16, (lv d4 a2.1 d5)), (17, (bv a2.2))] ?_
  refine iF ?_
  refine aC ?_
  refine iR 1 1 [(157, (lv a9 u b0))] ?_
  obtain ⟨x2, x3, x4, ay5, H⟩ := Qu H
  refine jE 2 Qj u a9 b0 79 9 (.tmp 157) (.const (.int .i64 (3))) 3 158 (b3 p1 (hR _ (SP.keeps p2))) x3 x4 ?_
  intro ay6 ay7 ay8 bp6 hc873
  refine jX 3 9 158 ay6 (ay7 + Int.toNat 3 * Qj.sz) (sv x2) 159 (Ql (e := Qj) (Qh (b3 p1 (hR _ (SP.keeps p2))) ay8 x3 x4) ay5 (j := 0) rfl) ?_
  obtain ⟨a6, ay9, H⟩ := Qd H
  refine iS 4 ?_
  refine cS p2 71 #[(.tmp 159)] #[9] 160 Tryz.call71 (Up  x2 p1  a6 ay9) ?_
  intro bp7 az0
  refine iR 5 9 [(156, (.tuple #[(iv a6.1), (bv a6.2)])), (161, (iv a6.1)), (162, (bv a6.2)), (18, (iv a6.1)), (19, (bv a6.2))] ?_
  refine iF ?_
  refine aQ ?_
  obtain ⟨hl886, H⟩ := Zx H
  obtain ⟨e2, hyl887⟩ : ∃ y, ([] : List Tk) ++ (stT f).2.2.2.2 = y := ⟨_, rfl⟩
  try rw [hyl887] at H
  obtain ⟨b1, i5, i6, p3, H⟩ := Qu H
  obtain ⟨hl906, H⟩ := Zx H
  obtain ⟨c6, hyl907⟩ : ∃ y, e2 ++ ([(b1, a2.1, a6.1)] : List Tk) = y := ⟨_, rfl⟩
  try rw [hyl907] at H
  refine aG [Ry, GEq (pt b2 4), GEq (lv f.2.2.2.2.1 (stT f).2.2.2.2 f.2.2.2.2.2.1), Ry, GEq (lv a9 u b0), Zt a9 Qj.sz 1, GEq (sv b1), GEq (lv d4 a2.1 d5), GEq (sv a2.1), GEq (iv a6.1), GEq (.agg #[(sv b1), (sv a2.1), (iv a6.1)]), Ry, Ry, GEq (pt b2 4), Ry] [0, 3, 11, 12, 14] ((fun (X0 X1 X2 X3 : Ent) => [([], fun vs w => VL vs [] ∧ SP [] w0 w [X0, X1, X2, X3]), ([0], fun vs w => ∃ (c8 : Nat), VL vs [(lv (some ⟨c8, 0, none⟩) ([] : List Tk) (List.length ([] : List Tk)))] ∧ SP [] w0 w [X0, X1, X2, X3, Vh 37 (Qf Qj (Qf Qj (Qv .i64))) (some ⟨c8, 0, none⟩) (List.length ([] : List Tk)) ([] : List Tk)]), ([11], fun vs w => ∃ (k6 : Nat), VL vs [(lv (some ⟨k6, 0, none⟩) ([(b1, a2.1, a6.1)] : List Tk) (List.length ([(b1, a2.1, a6.1)] : List Tk)))] ∧ SP [] w0 w [X0, X1, X2, X3, Vh 37 (Qf Qj (Qf Qj (Qv .i64))) (some ⟨k6, 0, none⟩) (List.length ([(b1, a2.1, a6.1)] : List Tk)) ([(b1, a2.1, a6.1)] : List Tk)]), ([0, 3], fun vs w => ∃ (i7 : Nat), ∃ (g0 : Option Addr), ∃ (g1 : Nat), VL vs [(lv (some ⟨i7, 0, none⟩) ([] : List Tk) (List.length ([] : List Tk))), (lv g0 e2 g1)] ∧ SP [] w0 w [X0, X1, X2, X3, Vh 37 (Qf Qj (Qf Qj (Qv .i64))) g0 g1 e2]), ([0, 11], fun vs w => ∃ (g2 : Nat), ∃ (k7 : Nat), VL vs [(lv (some ⟨g2, 0, none⟩) ([] : List Tk) (List.length ([] : List Tk))), (lv (some ⟨k7, 0, none⟩) ([(b1, a2.1, a6.1)] : List Tk) (List.length ([(b1, a2.1, a6.1)] : List Tk)))] ∧ SP [] w0 w [X0, X1, X2, X3, Vh 37 (Qf Qj (Qf Qj (Qv .i64))) (some ⟨g2, 0, none⟩) (List.length ([] : List Tk)) ([] : List Tk), Vh 37 (Qf Qj (Qf Qj (Qv .i64))) (some ⟨k7, 0, none⟩) (List.length ([(b1, a2.1, a6.1)] : List Tk)) ([(b1, a2.1, a6.1)] : List Tk)]), ([0, 3, 11], fun vs w => ∃ (p4 : Nat), ∃ (i8 : Option Addr), ∃ (i9 : Nat), ∃ (j0 : Nat), VL vs [(lv (some ⟨p4, 0, none⟩) ([] : List Tk) (List.length ([] : List Tk))), (lv i8 e2 i9), (lv (some ⟨j0, 0, none⟩) ([(b1, a2.1, a6.1)] : List Tk) (List.length ([(b1, a2.1, a6.1)] : List Tk)))] ∧ SP [] w0 w [X0, X1, X2, X3, Vh 37 (Qf Qj (Qf Qj (Qv .i64))) i8 i9 e2, Vh 37 (Qf Qj (Qf Qj (Qv .i64))) (some ⟨j0, 0, none⟩) (List.length ([(b1, a2.1, a6.1)] : List Tk)) ([(b1, a2.1, a6.1)] : List Tk)]), ([0, 3, 11, 12], fun vs w => ∃ (p5 : Nat), ∃ (p6 : Option Addr), ∃ (p7 : Nat), ∃ (m0 : Nat), ∃ (g3 : Option Addr), ∃ (g4 : Nat), VL vs [(lv (some ⟨p5, 0, none⟩) ([] : List Tk) (List.length ([] : List Tk))), (lv p6 e2 p7), (lv (some ⟨m0, 0, none⟩) ([(b1, a2.1, a6.1)] : List Tk) (List.length ([(b1, a2.1, a6.1)] : List Tk))), (lv g3 c6 g4)] ∧ SP [] w0 w [X0, X1, X2, X3, Vh 37 (Qf Qj (Qf Qj (Qv .i64))) g3 g4 c6, Vh 37 (Qf Qj (Qf Qj (Qv .i64))) (some ⟨m0, 0, none⟩) (List.length ([(b1, a2.1, a6.1)] : List Tk)) ([(b1, a2.1, a6.1)] : List Tk)]), ([0, 3, 11, 12, 14], fun vs w => ∃ (x5 : Nat), ∃ (x6 : Option Addr), ∃ (x7 : Nat), ∃ (m1 : Nat), ∃ (e9 : Option Addr), ∃ (f0 : Nat), VL vs [(lv (some ⟨x5, 0, none⟩) ([] : List Tk) (List.length ([] : List Tk))), (lv x6 e2 x7), (lv (some ⟨m1, 0, none⟩) ([(b1, a2.1, a6.1)] : List Tk) (List.length ([(b1, a2.1, a6.1)] : List Tk))), (lv e9 c6 f0), undef] ∧ SP [] w0 w [X0, X1, Qs b2 33 #[(sv (stT f).1), (iv (stT f).2.1), (iv (stT f).2.2.1), (lv f.2.2.2.1.1 (stT f).2.2.2.1 f.2.2.2.1.2.1), (lv e9 c6 f0)], X3, Vh 37 (Qf Qj (Qf Qj (Qv .i64))) e9 f0 c6, Vh 37 (Qf Qj (Qf Qj (Qv .i64))) (some ⟨m1, 0, none⟩) (List.length ([(b1, a2.1, a6.1)] : List Tk)) ([(b1, a2.1, a6.1)] : List Tk)])]) (Qs a7 24 #[(iv v), (iv z), (iv a0), (iv a1), (lv A6 (mT d9) c7)]) (Qs a8 24 #[(iv 0), (iv 0), (iv 0), (iv 0), (lv none ([] : List Qb) 0)]) (Qs b2 33 #[(sv (stT f).1), (iv (stT f).2.1), (iv (stT f).2.2.1), (lv f.2.2.2.1.1 (stT f).2.2.2.1 f.2.2.2.1.2.1), (lv f.2.2.2.2.1 (stT f).2.2.2.2 f.2.2.2.2.2.1)]) (Vh 5 eU8 d4 d5 a2.1)) 15 7 ⟨trivial, SP.drew az0⟩ ?_ ?_
  iterate 15 refine And.intro ?_ ?_
  exact trivial
  ·refine Owe.heavy K [(0, 1), (2, 4)] K (Qc ⟨K, K, ?_⟩ (Qc ⟨K, K, ?_⟩ Qq))
   ·rintro P W hs p ⟨-, az1⟩
    refine kN [] trivial fun o => ?_
    refine zN (Qf Qj (Qf Qj (Qv .i64))) 31 37 0 #[] #[] ([] : List Tk) 163 az1 ?_
    intro az2 bp8 az3
    refine ⟨_, Qa o, trivial, ?_⟩
    exact (ei az2 (ai (ai rfl (trivial)) az3))
   rintro P W hs p ⟨k6, ⟨az4, -⟩, az5⟩
   refine kN [] trivial fun o => ?_
   refine zN (Qf Qj (Qf Qj (Qv .i64))) 31 37 0 #[] #[] ([] : List Tk) 163 az5 ?_
   intro az6 bp9 az7
   refine ⟨_, Qa o, trivial, ?_⟩
   exact (ei az6 (ei k6 (ai (ai rfl (ai az4 (trivial))) (SP.sel az7 [0, 1, 2, 3, 5, 4] rfl rfl))))
  ·exact oU (hC (hS 13 (pt b2 0)) (h0))
  ·refine Owe.light K [0, 1, 2, 4] K (Qc ?_ (Qc ?_ (Qc ?_ (Qc ?_ Qq))))
   ·rintro P W hs p ⟨-, az8⟩
    refine kM (kc (kA p 1 164) k0) fun o => ?_
    refine sL 31 164 b2 4 2 (lv f.2.2.2.2.1 (stT f).2.2.2.2 f.2.2.2.2.2.1) 165 az8 rfl ?_
    exact eK o
   ·rintro P W hs p ⟨c8, ⟨bq0, -⟩, az9⟩
    refine kM (kc (kA p 1 164) k0) fun o => ?_
    refine sL 31 164 b2 4 2 (lv f.2.2.2.2.1 (stT f).2.2.2.2 f.2.2.2.2.2.1) 165 az9 rfl ?_
    exact eK o
   ·rintro P W hs p ⟨k6, ⟨bq1, -⟩, ba0⟩
    refine kM (kc (kA p 1 164) k0) fun o => ?_
    refine sL 31 164 b2 4 2 (lv f.2.2.2.2.1 (stT f).2.2.2.2 f.2.2.2.2.2.1) 165 ba0 rfl ?_
    exact eK o
   rintro P W hs p ⟨g2, k7, ⟨bq2, bq3, -⟩, ba1⟩
   refine kM (kc (kA p 1 164) k0) fun o => ?_
   refine sL 31 164 b2 4 2 (lv f.2.2.2.2.1 (stT f).2.2.2.2 f.2.2.2.2.2.1) 165 ba1 rfl ?_
   exact eK o
  ·refine Owe.heavy K [(1, 3), (4, 5)] K (Qc ⟨K, K, ?_⟩ (Qc ⟨K, K, ?_⟩ Qq))
   ·rintro P W hs p ⟨c8, ⟨x8, -⟩, x9⟩
    refine kN [(163, (lv (some ⟨c8, 0, none⟩) ([] : List Tk) (List.length ([] : List Tk)))), (165, (lv f.2.2.2.2.1 (stT f).2.2.2.2 f.2.2.2.2.2.1))] ⟨(Qr (h := 0) K).symm.trans x8, p 2 165 K, trivial⟩ fun o => ?_
    refine Qx.append (e := (Qf Qj (Qf Qj (Qv .i64)))) (l := ([] : List Tk)) (m := (stT f).2.2.2.2) (A := (some ⟨c8, 0, none⟩)) (c := (List.length ([] : List Tk))) (T := 31) (TX := 31) (E := 37) (b := 40) (s := (.tmp 163)) (x := (.tmp 165)) (i := 4) (vx := (lv f.2.2.2.2.1 (stT f).2.2.2.2 f.2.2.2.2.2.1)) (d := (some 166)) (k := 3) K rfl K K K K rfl x9 rfl (Rj (E := 37) K ((fun w hm => (Zh ((fun w hm => (dp2 (dp2 (dp2 (dp2 (Gd (b9 w hm) f5)))))) w hm))) W (hR _ (SP.keeps x9)))) hl886 ?_
    rw [hyl887]
    intro ba2 ba3 bq4 ba4
    refine ⟨_, Qa o, trivial, ?_⟩
    exact (ei c8 (ei ba2 (ei ba3 (ai (ai x8 (ai rfl (trivial))) ba4))))
   rintro P W hs p ⟨g2, k7, ⟨y0, ba5, -⟩, y1⟩
   refine kN [(163, (lv (some ⟨g2, 0, none⟩) ([] : List Tk) (List.length ([] : List Tk)))), (165, (lv f.2.2.2.2.1 (stT f).2.2.2.2 f.2.2.2.2.2.1))] ⟨(Qr (h := 0) K).symm.trans y0, p 2 165 K, trivial⟩ fun o => ?_
   refine Qx.append (e := (Qf Qj (Qf Qj (Qv .i64)))) (l := ([] : List Tk)) (m := (stT f).2.2.2.2) (A := (some ⟨g2, 0, none⟩)) (c := (List.length ([] : List Tk))) (T := 31) (TX := 31) (E := 37) (b := 40) (s := (.tmp 163)) (x := (.tmp 165)) (i := 4) (vx := (lv f.2.2.2.2.1 (stT f).2.2.2.2 f.2.2.2.2.2.1)) (d := (some 166)) (k := 3) K rfl K K K K rfl y1 rfl (Rj (E := 37) K ((fun w hm => (Zh ((fun w hm => (dp2 (dp2 (dp2 (dp2 (Gd (b9 w hm) f5)))))) w hm))) W (hR _ (SP.keeps y1)))) hl886 ?_
   rw [hyl887]
   intro ba6 ba7 bq5 ba8
   refine ⟨_, Qa o, trivial, ?_⟩
   exact (ei g2 (ei ba6 (ei ba7 (ei k7 (ai (ai y0 (ai rfl (ai ba5 (trivial)))) ba8)))))
  ·exact oU (hC (hS 2 (lv a9 u b0)) (h0))
  ·refine Owe.light K [0, 1, 3] K (Qc ?_ (Qc ?_ (Qc ?_ Qq)))
   ·rintro P W hs p ⟨-, ba9⟩
    refine kM (kc (kA p 4 167) k0) fun o => ?_
    refine zE Qj u a9 b0 79 9 (.tmp 167) (.const (.int .i64 (1))) 1 168 (b3 W (hR _ (SP.keeps ba9))) i5 i6 ?_
    intro bb0 bb1 bb2 bq6 hc1039
    exact ⟨rfl, _, Qa o, ⟨bb0, bb1, bb2, rfl⟩⟩
   ·rintro P W hs p ⟨c8, ⟨bq7, -⟩, bb3⟩
    refine kM (kc (kA p 4 167) k0) fun o => ?_
    refine zE Qj u a9 b0 79 9 (.tmp 167) (.const (.int .i64 (1))) 1 168 (b3 W (hR _ (SP.keeps bb3))) i5 i6 ?_
    intro bb4 bb5 bb6 bq8 hc1047
    exact ⟨rfl, _, Qa o, ⟨bb4, bb5, bb6, rfl⟩⟩
   rintro P W hs p ⟨i7, g0, g1, ⟨bq9, br0, -⟩, bb7⟩
   refine kM (kc (kA p 4 167) k0) fun o => ?_
   refine zE Qj u a9 b0 79 9 (.tmp 167) (.const (.int .i64 (1))) 1 168 (b3 W (hR _ (SP.keeps bb7))) i5 i6 ?_
   intro bb8 bb9 bc0 br1 hc1056
   exact ⟨rfl, _, Qa o, ⟨bb8, bb9, bc0, rfl⟩⟩
  ·refine Owe.light K [0, 1, 3] K (Qc ?_ (Qc ?_ (Qc ?_ Qq)))
   ·rintro P W hs p ⟨-, bc1⟩
    obtain ⟨bc2, bc3, bc4, k8⟩ := p 5 168 K
    refine kM (kc k8 k0) fun o => ?_
    refine sC 9 168 bc2 (bc3 + Int.toNat 1 * Qj.sz) (sv b1) 169 (Ql (e := Qj) (Qh (b3 W (hR _ (SP.keeps bc1))) bc4 i5 i6) p3 (j := 0) rfl) ?_
    exact eK o
   ·rintro P W hs p ⟨c8, ⟨br2, -⟩, bc5⟩
    obtain ⟨bc6, bc7, bc8, k8⟩ := p 5 168 K
    refine kM (kc k8 k0) fun o => ?_
    refine sC 9 168 bc6 (bc7 + Int.toNat 1 * Qj.sz) (sv b1) 169 (Ql (e := Qj) (Qh (b3 W (hR _ (SP.keeps bc5))) bc8 i5 i6) p3 (j := 0) rfl) ?_
    exact eK o
   rintro P W hs p ⟨i7, g0, g1, ⟨br3, br4, -⟩, bc9⟩
   obtain ⟨bd0, bd1, bd2, k8⟩ := p 5 168 K
   refine kM (kc k8 k0) fun o => ?_
   refine sC 9 168 bd0 (bd1 + Int.toNat 1 * Qj.sz) (sv b1) 169 (Ql (e := Qj) (Qh (b3 W (hR _ (SP.keeps bc9))) bd2 i5 i6) p3 (j := 0) rfl) ?_
   exact eK o
  ·exact oU (hC (hS 16 (lv d4 a2.1 d5)) (h0))
  ·refine Owe.light K [0, 1, 3] K (Qc ?_ (Qc ?_ (Qc ?_ Qq)))
   ·rintro P W hs p ⟨-, bd3⟩
    refine kM (kc (kA p 7 170) k0) fun o => ?_
    refine Gf (T := 48) (S' := 9) (E := 5) (x := (.tmp 170)) (A := d4) (c := d5) (l := a2.1) (d := (some 171)) (k := 8) K rfl K K K K (Qz (SP.get bd3 (i := 3) rfl)) ?_
    exact eK o
   ·rintro P W hs p ⟨c8, ⟨br5, -⟩, bd4⟩
    refine kM (kc (kA p 7 170) k0) fun o => ?_
    refine Gf (T := 48) (S' := 9) (E := 5) (x := (.tmp 170)) (A := d4) (c := d5) (l := a2.1) (d := (some 171)) (k := 8) K rfl K K K K (Qz (SP.get bd4 (i := 3) rfl)) ?_
    exact eK o
   rintro P W hs p ⟨i7, g0, g1, ⟨br6, br7, -⟩, bd5⟩
   refine kM (kc (kA p 7 170) k0) fun o => ?_
   refine Gf (T := 48) (S' := 9) (E := 5) (x := (.tmp 170)) (A := d4) (c := d5) (l := a2.1) (d := (some 171)) (k := 8) K rfl K K K K (Qz (SP.get bd5 (i := 3) rfl)) ?_
   exact eK o
  ·exact oU (hC (hS 18 (iv a6.1)) (h0))
  ·exact oU (hC (hA 6 169) (hC (hA 8 171) (hC (hA 9 172) (h0))))
  ·refine Owe.heavy K [(0, 2), (1, 4), (3, 5)] K (Qc ⟨K, K, ?_⟩ (Qc ⟨K, K, ?_⟩ (Qc ⟨K, K, ?_⟩ Qq)))
   ·rintro P W hs p ⟨-, bd6⟩
    refine kM (kc (kA p 10 173) k0) fun o => ?_
    refine zN (Qf Qj (Qf Qj (Qv .i64))) 31 37 1 #[(0, (.tmp 173))] #[(sv b1), (sv a2.1), (iv a6.1)] ([(b1, a2.1, a6.1)] : List Tk) 174 bd6 ?_
    intro bd7 br8 bd8
    refine ⟨_, Qa o, trivial, ?_⟩
    exact (ei bd7 (ai (ai rfl (trivial)) bd8))
   ·rintro P W hs p ⟨c8, ⟨bd9, -⟩, be0⟩
    refine kM (kc (kA p 10 173) k0) fun o => ?_
    refine zN (Qf Qj (Qf Qj (Qv .i64))) 31 37 1 #[(0, (.tmp 173))] #[(sv b1), (sv a2.1), (iv a6.1)] ([(b1, a2.1, a6.1)] : List Tk) 174 be0 ?_
    intro be1 br9 be2
    refine ⟨_, Qa o, trivial, ?_⟩
    exact (ei c8 (ei be1 (ai (ai bd9 (ai rfl (trivial))) be2)))
   rintro P W hs p ⟨i7, g0, g1, ⟨be3, be4, -⟩, be5⟩
   refine kM (kc (kA p 10 173) k0) fun o => ?_
   refine zN (Qf Qj (Qf Qj (Qv .i64))) 31 37 1 #[(0, (.tmp 173))] #[(sv b1), (sv a2.1), (iv a6.1)] ([(b1, a2.1, a6.1)] : List Tk) 174 be5 ?_
   intro be6 bs0 be7
   refine ⟨_, Qa o, trivial, ?_⟩
   exact (ei i7 (ei g0 (ei g1 (ei be6 (ai (ai be3 (ai be4 (ai rfl (trivial)))) be7)))))
  ·refine oH 5 6 ?_
   rintro P W hs p ⟨p4, i8, i9, j0, ⟨be8, y2, y3, -⟩, y4⟩
   refine kN [(166, (lv i8 e2 i9)), (174, (lv (some ⟨j0, 0, none⟩) ([(b1, a2.1, a6.1)] : List Tk) (List.length ([(b1, a2.1, a6.1)] : List Tk))))] ⟨(Qr (h := 3) K).symm.trans y2, (Qr (h := 11) K).symm.trans y3, trivial⟩ fun o => ?_
   refine Qx.append (e := (Qf Qj (Qf Qj (Qv .i64)))) (l := e2) (m := ([(b1, a2.1, a6.1)] : List Tk)) (A := i8) (c := i9) (T := 31) (TX := 31) (E := 37) (b := 40) (s := (.tmp 166)) (x := (.tmp 174)) (i := 4) (vx := (lv (some ⟨j0, 0, none⟩) ([(b1, a2.1, a6.1)] : List Tk) (List.length ([(b1, a2.1, a6.1)] : List Tk)))) (d := (some 175)) (k := 12) K rfl K K K K rfl y4 rfl (Rj (E := 37) K (Qz (SP.get y4 (i := 5) rfl))) hl906 ?_
   rw [hyl907]
   intro be9 bf0 bs1 bf1
   refine ⟨_, Qa o, trivial, ?_⟩
   exact (ei p4 (ei i8 (ei i9 (ei j0 (ei be9 (ei bf0 (ai (ai be8 (ai y2 (ai y3 (ai rfl (trivial))))) bf1)))))))
  ·exact oU (hC (hS 13 (pt b2 0)) (h0))
  ·refine oH 6 7 ?_
   rintro P W hs p ⟨p5, p6, p7, m0, g3, g4, ⟨bf2, bf3, bf4, y5, -⟩, bf5⟩
   refine kN [(176, (pt b2 4)), (175, (lv g3 c6 g4))] ⟨p 13 176 K, (Qr (h := 12) K).symm.trans y5, trivial⟩ fun o => ?_
   refine zT 31 (.tmp 176) (.tmp 175) b2 4 2 (lv g3 c6 g4) #[(sv (stT f).1), (iv (stT f).2.1), (iv (stT f).2.2.1), (lv f.2.2.2.1.1 (stT f).2.2.2.1 f.2.2.2.1.2.1), (lv g3 c6 g4)] none bf5 ?_
   intro bs2 bf6
   refine ⟨_, Qa o, trivial, ?_⟩
   exact (ei p5 (ei p6 (ei p7 (ei m0 (ei g3 (ei g4 (ai (ai bf2 (ai bf3 (ai bf4 (ai y5 (ai rfl (trivial)))))) bf6)))))))
  rintro P bf7 hs hf ⟨x5, x6, x7, m1, e9, f0, ⟨bs3, bs4, bs5, bs6, bs7, -⟩, k9⟩
  refine Qy _ (kc (kT hs 3 (pt a7 0)) (kc (kT hs 6 (pt a8 0)) (kc (kT hs 13 (pt b2 0)) (kc (kT hs 17 (bv a2.2)) (kc (kT hs 19 (bv a6.2)) k0))))) ?_
  refine aQ ?_
  refine At.join (fun ρ w => ∃ (m2 : Int) (m3 : Int) (m4 : Int) (m5 : Int) (l0 : (List Qb)) (m6 : Bool) (l1 : Option Addr) (l2 : Nat) (E1164 : Ent), Vq ρ [(6, (pt a8 0)), (7, (bv m6))] ∧ SP [] w0 w [E1164, Qs a8 24 #[(iv m2), (iv m3), (iv m4), (iv m5), (lv l1 l0 l2)]] ∧ Yv (fun w => R w) E1164 l1 l2 l0 ∧ N8 m2 m3 m4 m5 l0 m6 = some r) ?_ ?_
  ·refine aR ?_
   refine jL 1 24 3 a7 0 0 (.agg #[(iv v), (iv z), (iv a0), (iv a1), (lv A6 (mT d9) c7)]) 177 k9 rfl ?_
   refine jL 2 33 13 b2 0 2 (.agg #[(sv (stT f).1), (iv (stT f).2.1), (iv (stT f).2.2.1), (lv f.2.2.2.1.1 (stT f).2.2.2.1 f.2.2.2.1.2.1), (lv e9 c6 f0)]) 178 k9 rfl ?_
   obtain ⟨b5, bf8, H⟩ := Qd H
   obtain ⟨g5, hl1173, H⟩ := Z4 H
   refine iS 3 ?_
   refine cF 94 #[(.tmp 177), (.tmp 178)] #[24, 33] 179 Tryz.call94 (Du (R := fun w => R w ∧ (Vh 37 (Qf Qj (Qf Qj (Qv .i64))) e9 f0 c6).ok w ∧ True) A6 c7 f.2.2.2.1.1 f.2.2.2.1.2.1 e9 f0 v z a0 a1 d9 (stT f).1 (stT f).2.1 (stT f).2.2.1 (stT f).2.2.2.1 c6 bf7 (fun w hb => ⟨hR w (Gi k9 hb), SP.get (SP.below k9 hb) (i := 4) rfl, trivial⟩) (fun w hr => b9 w hr.1) (fun w hr => (fun w hm => (Zh ((fun w hm => (dp1 (dp2 (dp2 (dp2 (Gd (b9 w hm) f5)))))) w hm))) w hr.1) (fun w hr => Qz hr.2.1) b5 bf8) ?_
   rintro e bf9 ⟨g6, g7, E1178, rfl, y6, y7⟩
   rw [hl1173] at y6 ⊢
   refine ⟨_, rfl, ?_⟩
   have bg0 := SP.call k9 y7
   clear y7
   obtain ⟨E1182, hE1183, y8⟩ := Ig bg0 (i := 4) (j := 6) rfl rfl (by decide)
   have y9 : SP [] w0 bf9 [Qs a7 24 #[(iv v), (iv z), (iv a0), (iv a1), (lv A6 (mT d9) c7)], Qs a8 24 #[(iv 0), (iv 0), (iv 0), (iv 0), (lv none ([] : List Qb) 0)], Qs b2 33 #[(sv (stT f).1), (iv (stT f).2.1), (iv (stT f).2.2.1), (lv f.2.2.2.1.1 (stT f).2.2.2.1 f.2.2.2.1.2.1), (lv e9 c6 f0)], Vh 5 eU8 d4 d5 a2.1, E1182, Vh 37 (Qf Qj (Qf Qj (Qv .i64))) (some ⟨m1, 0, none⟩) (List.length ([(b1, a2.1, a6.1)] : List Tk)) ([(b1, a2.1, a6.1)] : List Tk)] := y8
   clear y8
   have z0 : Yv (fun w => R w) E1182 g6 g7 g5 := Bv y6 (fun w h1 he => ⟨⟨h1, (hE1183 w he).1, trivial⟩, (hE1183 w he).2⟩)
   refine iR 2 5 [(180, (bv a2.2)), (181, (bv a2.2))] ?_
   refine gD 181 H (fun H => ?_) fun H => ?_
   ·refine iR 2 7 [(182, (bv a6.2)), (183, (bv a6.2))] ?_
    refine iS 8 ?_
    refine zT 24 (.tmp 6) (.tmp 179) a8 0 1 (.agg #[(iv b5.1), (iv b5.2.1), (iv b5.2.2.1), (iv b5.2.2.2.1), (lv g6 g5 g7)]) #[(iv b5.1), (iv b5.2.1), (iv b5.2.2.1), (iv b5.2.2.2.1), (lv g6 g5 g7)] none y9 ?_
    intro bs8 bg1
    refine iR 1 9 [(7, (bv a6.2))] ?_
    refine iF ?_
    exact ⟨b5.1, b5.2.1, b5.2.2.1, b5.2.2.2.1, g5, a6.2, g6, g7, E1182, ⟨K, K, trivial⟩, SP.sel bg1 [4, 1] rfl rfl, z0, H⟩
   refine iR 2 7 [(182, undef), (183, (bv false))] ?_
   refine iS 8 ?_
   refine zT 24 (.tmp 6) (.tmp 179) a8 0 1 (.agg #[(iv b5.1), (iv b5.2.1), (iv b5.2.2.1), (iv b5.2.2.2.1), (lv g6 g5 g7)]) #[(iv b5.1), (iv b5.2.1), (iv b5.2.2.1), (iv b5.2.2.2.1), (lv g6 g5 g7)] none y9 ?_
   intro bs9 bg2
   refine iR 1 9 [(7, (bv false))] ?_
   refine iF ?_
   exact ⟨b5.1, b5.2.1, b5.2.2.1, b5.2.2.2.1, g5, false, g6, g7, E1182, ⟨K, K, trivial⟩, SP.sel bg2 [4, 1] rfl rfl, z0, H⟩
  rintro ρ bt0 ⟨m2, m3, m4, m5, l0, m6, l1, l2, E1164, hk, z1, bg3, H⟩
  unfold N8 at H
  first | refine At.known _ hk ?_ | rw [← Qo hk]
  refine At.ret K ?_
  refine ⟨(.tuple #[(.agg #[(iv m2), (iv m3), (iv m4), (iv m5), (lv l1 l0 l2)]), (bv m6)]), Cl K (Uf (a := 6) (t := 24) (g := a8) (off := 0) K (SP.get z1 (i := 1) rfl) K) (Nv (t := 7) K), ?_⟩
  obtain rfl := Qe H
  exact ⟨l1, l2, E1164, rfl, bg3, SP.sel z1 [0] rfl rfl⟩
 refine At.skip K ?_
 refine aC ?_
 refine jL 1 24 3 a7 0 0 (.agg #[(iv v), (iv z), (iv a0), (iv a1), (lv A6 (mT d9) c7)]) 184 k5 rfl ?_
 refine iS 2 ?_
 refine zT 24 (.tmp 6) (.tmp 184) a8 0 1 (.agg #[(iv v), (iv z), (iv a0), (iv a1), (lv A6 (mT d9) c7)]) #[(iv v), (iv z), (iv a0), (iv a1), (lv A6 (mT d9) c7)] none k5 ?_
 intro bg4 z2
 refine iR 1 3 [(7, (bv false))] ?_
 refine iF ?_
 refine At.ret K ?_
 have bg5 : SP [] w0 bg4 [Qs a7 24 #[(iv v), (iv z), (iv a0), (iv a1), (lv A6 (mT d9) c7)], Qs a8 24 #[(iv v), (iv z), (iv a0), (iv a1), (lv A6 (mT d9) c7)], Qs b2 33 #[(sv (stT f).1), (iv (stT f).2.1), (iv (stT f).2.2.1), (lv f.2.2.2.1.1 (stT f).2.2.2.1 f.2.2.2.1.2.1), (lv f.2.2.2.2.1 (stT f).2.2.2.2 f.2.2.2.2.2.1)], L0] := Cq z2
 refine ⟨(.tuple #[(.agg #[(iv v), (iv z), (iv a0), (iv a1), (lv A6 (mT d9) c7)]), (bv false)]), Cl K (Uf (a := 6) (t := 24) (g := a8) (off := 0) K (SP.get z2 (i := 1) rfl) K) (Nv (t := 7) K), ?_⟩
 obtain rfl := Qe H
 exact ⟨A6, c7, L0, rfl, (Hz _ b9), SP.sel bg5 [3] rfl rfl⟩
theorem Df {R : World → Prop} (A6 : Option Addr) (c7 : Nat) (b : Option Addr) (c : Nat) (d : Int) (f : Int) (g : Int) (h : Int) (i : (List Qb)) (j : Bool) (a : (List Bs)) (w0 : World) (hR : ∀ w, Below w0.heap.size w0 w → R w) (k : ∃ d9 : List Qg, i = List.map stT d9 ∧ ∀ w, R w → (dDS Vu Fv).ok w (A6, c7, d9)) (n : ∀ w, R w → RdT Qj w b c a) (r : (Int × Int × Int × Int × (List Qb) × Bool)) (H : Uw d f g h i j a = some r) :
  Calls Tryz.prog 42 #[(.agg #[(iv d), (iv f), (iv g), (iv h), (lv A6 i c7)]), (bv j), (lv b a c)] w0 (fun e W => ∃ (l : Option Addr) (m : Nat) (E17 : Ent), e = .returned (.tuple #[(.agg #[(iv r.1), (iv r.2.1), (iv r.2.2.1), (iv r.2.2.2.1), (lv l r.2.2.2.2.1 m)]), (bv r.2.2.2.2.2)]) ∧ Yv R E17 l m r.2.2.2.2.1 ∧ SP [] w0 W [E17]) := by
 obtain ⟨d9, rfl, k⟩ := k
 exact Ep (R := R) A6 c7 b c d f g h d9 j a w0 hR k n r H
def Yl (a : Int → Int → Int → Int → (List Qb) → Int → Int → Int → Option (Int × Int × Int × Int × (List Qb) × Int × Int)) (b : Int) (c : Int) (d : Int) (e : Int) (f : Int) (g : (List Qb)) (h : Int) (i : Int) : Option (Int × Int × Int × Int × (List Qb) × Int × Int) :=
  (a c d e f g h i (IntKind.wrap .i64 (b + 1)))
def Jw (d : Int → Int → Int → Int → (List Qb) → Int → Int → Int → Option (Int × Int × Int × Int × (List Qb) × Int × Int)) (b : Int) (c : Int) (a : (Int × Int × Int × Int × (List Qb) × Bool)) (e : (List Qb)) (f : Bool) : Option (Int × Int × Int × Int × (List Qb) × Int × Int) :=
  (cond f (some (0, 0, 0, 0, ([] : List Qb), 91, b)) (Yl d c a.1 a.2.1 a.2.2.1 a.2.2.2.1 e (IntKind.wrap .i64 (c + 1)) (IntKind.wrap .i64 (b + 1))))
def Jy (h : Int → Int → Int → Int → (List Qb) → Int → Int → Int → Option (Int × Int × Int × Int × (List Qb) × Int × Int)) (a : Int) (b : Int) (c : Int) (d : Int) (e : (List Qb)) (f : Int) (g : Bool) : Option (Int × Int × Int × Int × (List Qb) × Int × Int) :=
  (cond g (some (0, 0, 0, 0, ([] : List Qb), 91, f)) (some (a, b, c, d, e, 0, 0)))
def Xu (d : Int → Int → Int → Int → (List Qb) → Int → Int → Int → Option (Int × Int × Int × Int × (List Qb) × Int × Int)) (p1 : (List UInt8)) (e : Int) (f : Int) (g : Int) (h : Int) (i : (List Qb)) (j : Int) (b : Int) (c : Int) : Option (Int × Int × Int × Int × (List Qb) × Int × Int) :=
  (cond (decide (c < ((List.length p1 : Nat) : Int))) ((idx p1 c).bind fun l => (cond (((l).toNat : Int) != 10) (Yl d c e f g h i j b) ((sub p1 j c).bind fun m => ((Gt m).bind fun n => ((Uw e f g h i (b == 0) n).bind fun a => ((some a.2.2.2.2.1).bind fun k => (cond (!a.2.2.2.2.2) (Jw d b c a k true) ((Z6 a.1 a.2.1 a.2.2.1 a.2.2.2.1 k).bind fun o => (Jw d b c a k (!o)))))))))) (cond (decide (j < ((List.length p1 : Nat) : Int))) (Jy d e f g h i b true) (Jy d e f g h i b (b == 0))))
def Vz (p1 : (List UInt8)) : Nat → Int → Int → Int → Int → (List Qb) → Int → Int → Int → Option (Int × Int × Int × Int × (List Qb) × Int × Int)
  | 0, _, _, _, _, _, _, _, _ => none
  | f + 1, a, b, c, d, e, g, h, i => Xu  (Vz p1 f) p1 a b c d e g h i
def Nm (p1 : (List UInt8)) : Option (Int × Int × Int × Int × (List Qb) × Int × Int) :=
  (cond (decide (((List.length p1 : Nat) : Int) > 4096)) (some (0, 0, 0, 0, ([] : List Qb), 2, 0)) (Vz p1 Zj 0 0 0 0 ([] : List Qb) 0 0 0))
set_option maxHeartbeats 40000000 in
theorem C6 {R : World → Prop}  (p1 : Bs) (w0 : World) (hR : ∀ w, Below w0.heap.size w0 w → R w)  (r : (Int × Int × Int × Int × (List Qb) × Int × Int)) (H : Nm p1 = some r) :
  Calls Tryz.prog 17 #[(sv p1)] w0 (fun e W => ∃ (A2 : Option Addr) (c3 : Nat) (E4 : Ent), e = .returned (.tuple #[(.agg #[(iv r.1), (iv r.2.1), (iv r.2.2.1), (iv r.2.2.2.1), (lv A2 r.2.2.2.2.1 c3)]), (iv r.2.2.2.2.2.1), (iv r.2.2.2.2.2.2)]) ∧ Yv R E4 A2 c3 r.2.2.2.2.1 ∧ SP [] w0 W [E4]) := by
 unfold Nm at H
 refine Qt (n := 62) Tryz.func17 K K K ?_
 have l6 := Qw [] w0
 refine aC ?_
 refine iS 1 ?_
 refine zA 24 (.agg #[(iv 0), (iv 0), (iv 0), (iv 0), (lv none ([] : List Qb) 0)]) 2 l6 ?_
 intro g6 w7 h4
 refine iR 2 3 [(3, (iv 0)), (4, (iv 0))] ?_
 refine iF ?_
 refine aQ ?_
 refine aC ?_
 refine iR 3 3 [(11, (sv p1)), (12, (iv (ln p1))), (13, (bv (decide ((ln p1) > 4096))))] ?_
 refine iF ?_
 refine cD 13 H (fun H => ?_) fun H => ?_
 ·refine aC ?_
  refine iR 1 1 [(14, (.agg #[(iv 0), (iv 0), (iv 0), (iv 0), (lv none ([] : List Qb) 0)]))] ?_
  refine iS 2 ?_
  refine zT 24 (.tmp 2) (.tmp 14) g6 0 0 (.agg #[(iv 0), (iv 0), (iv 0), (iv 0), (lv none ([] : List Qb) 0)]) #[(iv 0), (iv 0), (iv 0), (iv 0), (lv none ([] : List Qb) 0)] none h4 ?_
  intro l7 h5
  refine iR 2 4 [(3, (iv 2)), (4, (iv 0))] ?_
  refine iF ?_
  refine At.ret K ?_
  have l8 : SP [] w0 l7 [Qs g6 24 #[(iv 0), (iv 0), (iv 0), (iv 0), (lv none ([] : List Qb) 0)], L0] := Cq h5
  refine ⟨(.tuple #[(.agg #[(iv 0), (iv 0), (iv 0), (iv 0), (lv none ([] : List Qb) 0)]), (iv 2), (iv 0)]), res_3 K (Uf (a := 2) (t := 24) (g := g6) (off := 0) K (SP.get h5 (i := 0) rfl) K) (Nv (t := 3) K) (Nv (t := 4) K), ?_⟩
  obtain rfl := Qe H
  exact ⟨none, 0, L0, rfl, (Yv.nil _ _), SP.sel l8 [1] rfl rfl⟩
 refine At.skip K ?_
 refine aC ?_
 refine iS 1 ?_
 refine zA 24 (.agg #[(iv 0), (iv 0), (iv 0), (iv 0), (lv none ([] : List Qb) 0)]) 5 h4 ?_
 intro a3 u8 l9
 refine iF ?_
 refine aC ?_
 refine iR 1 1 [(6, (iv 0))] ?_
 refine iF ?_
 refine aC ?_
 refine iR 1 1 [(7, (iv 0))] ?_
 refine iF ?_
 refine aQ ?_
 refine aC ?_
 refine iR 1 1 [(8, (iv 0))] ?_
 refine iF ?_
 refine Z3 K (id := 0) K ?_
 refine Gm K (fun c7 ρ w => ∃ (s : Int) (z : Int) (a0 : Int) (a1 : Int) (l : (List Qb)) (a7 : Int) (q : Int) (a2 : Int) (m : Option Addr) (o : Nat) (E1869 : Ent), Vq ρ [(0, (sv p1)), (2, (pt g6 0)), (5, (pt a3 0)), (6, (iv a7)), (7, (iv q)), (8, (iv a2))] ∧ SP [] w0 w [Qs g6 24 #[(iv 0), (iv 0), (iv 0), (iv 0), (lv none ([] : List Qb) 0)], E1869, Qs a3 24 #[(iv s), (iv z), (iv a0), (iv a1), (lv m l o)]] ∧ Yv (fun w => R w) E1869 m o l ∧ Vz p1 c7 s z a0 a1 l a7 q a2 = some r) (by rintro ρ w ⟨s, z, a0, a1, l, a7, q, a2, m, o, E1869, hk, hs, c4, H⟩; cases H) ?_ Zj ?_
 ·rintro c7 ρ u9 ⟨s, z, a0, a1, l, a7, q, a2, m, o, E1869, hk, d8, c4, H⟩
  refine At.known _ hk ?_
  replace H := (show Xu (Vz p1 c7) p1 s z a0 a1 l a7 q a2 = some r from H)
  unfold Xu at H
  refine aQ ?_
  refine aC ?_
  refine iR 4 4 [(15, (iv a2)), (16, (sv p1)), (17, (iv (ln p1))), (18, (bv (decide (a2 < (ln p1)))))] ?_
  refine iF ?_
  refine cD 18 H (fun H => ?_) fun H => ?_
  ·refine At.skip K ?_
   refine aQ ?_
   refine At.join (fun ρ w => ∃ (d9 : Int) (e0 : Int) (e1 : Int) (e2 : Int) (d3 : (List Qb)) (e3 : Int) (e4 : Int) (e5 : Option Addr) (e6 : Nat) (E3311 : Ent), Vq ρ [(0, (sv p1)), (2, (pt g6 0)), (5, (pt a3 0)), (6, (iv e3)), (7, (iv e4)), (8, (iv a2))] ∧ SP [] w0 w [Qs g6 24 #[(iv 0), (iv 0), (iv 0), (iv 0), (lv none ([] : List Qb) 0)], E3311, Qs a3 24 #[(iv d9), (iv e0), (iv e1), (iv e2), (lv e5 d3 e6)]] ∧ Yv (fun w => R w) E3311 e5 e6 d3 ∧ Yl (Vz p1 c7) a2 d9 e0 e1 e2 d3 e3 e4 = some r) ?_ ?_
   ·refine Z3 K (id := 1) K ?_
    refine aQ ?_
    refine aC ?_
    refine iR 2 2 [(21, (sv p1)), (22, (iv a2))] ?_
    obtain ⟨h6, m0, v0, m1, H⟩ := Qu H
    refine iS 3 ?_
    refine Xg (a := p1) (u := h6) (T := 9) (x := (.tmp 21)) (ix := (.tmp 22)) (ki := .i64) (iz := a2) (d := (some 23)) (k := 2) K rfl K K K m0 m1 ?_
    refine iR 1 4 [(24, (bv (((h6).toNat : Int) != 10)))] ?_
    refine iF ?_
    refine cD 24 H (fun H => ?_) fun H => ?_
    ·refine At.exit K (id := 1) K ?_
     exact ⟨s, z, a0, a1, l, a7, q, m, o, E1869, ⟨K, K, K, K, K, K, trivial⟩, SP.sel d8 [0, 1, 2] rfl rfl, c4, H⟩
    refine At.skip K ?_
    refine aQ ?_
    obtain ⟨h7, h8, h9, H⟩ := G9 H
    obtain ⟨f9, hyl3326⟩ : ∃ y, (List.drop (Int.toNat a7) (List.take (Int.toNat a2) p1)) = y := ⟨_, rfl⟩
    rw [hyl3326] at H
    obtain ⟨a4, i0, H⟩ := Qd H
    obtain ⟨b, i1, H⟩ := Qd H
    obtain ⟨c, hl3338, H⟩ := Z4 H
    refine aG [GEq (.agg #[(iv s), (iv z), (iv a0), (iv a1), (lv m l o)]), GEq (iv q), GEq (bv (q == 0)), GEq (sv p1), GEq (iv a7), GEq (iv a2), GEq (sv f9), Ry, Ry, Ry, Ry, GEq (bv b.2.2.2.2.2), Ry, Ry, GEq (bv b.2.2.2.2.2)] [7, 8, 9, 10, 12, 13] ((fun (X0 X1 : Ent) => [([], fun vs w => VL vs [] ∧ SP [] w0 w [X0, E1869, X1]), ([7], fun vs w => ∃ (a8 : Option Addr), ∃ (a9 : Nat), VL vs [(lv a8 a4 a9)] ∧ SP [] w0 w [X0, E1869, X1, Vh 9 Qj a8 a9 a4]), ([12], fun vs w => ∃ (c8 : Nat), VL vs [(pt c8 0)] ∧ SP [] w0 w [X0, E1869, X1, Qs c8 24 #[(iv 0), (iv 0), (iv 0), (iv 0), (lv none ([] : List Qb) 0)]]), ([7, 8], fun vs w => ∃ (d4 : Option Addr), ∃ (d5 : Nat), ∃ (b9 : Option Addr), ∃ (c0 : Nat), ∃ (E3392 : Ent), VL vs [(lv d4 a4 d5), (.tuple #[(.agg #[(iv b.1), (iv b.2.1), (iv b.2.2.1), (iv b.2.2.2.1), (lv b9 c c0)]), (bv b.2.2.2.2.2)])] ∧ Yv (fun w => R w) E3392 b9 c0 c ∧ Yv (fun w => R w) E3392 m o l ∧ SP [] w0 w [X0, X1, E3392]), ([7, 12], fun vs w => ∃ (b5 : Option Addr), ∃ (b6 : Nat), ∃ (c5 : Nat), VL vs [(lv b5 a4 b6), (pt c5 0)] ∧ SP [] w0 w [X0, E1869, X1, Vh 9 Qj b5 b6 a4, Qs c5 24 #[(iv 0), (iv 0), (iv 0), (iv 0), (lv none ([] : List Qb) 0)]]), ([7, 8, 9], fun vs w => ∃ (c9 : Option Addr), ∃ (d0 : Nat), ∃ (b0 : Option Addr), ∃ (b1 : Nat), ∃ (E3426 : Ent), VL vs [(lv c9 a4 d0), (.tuple #[(.agg #[(iv b.1), (iv b.2.1), (iv b.2.2.1), (iv b.2.2.2.1), (lv b0 c b1)]), (bv b.2.2.2.2.2)]), (.tuple #[(.agg #[(iv b.1), (iv b.2.1), (iv b.2.2.1), (iv b.2.2.2.1), (lv b0 c b1)]), (bv b.2.2.2.2.2)])] ∧ Yv (fun w => R w) E3426 b0 b1 c ∧ Yv (fun w => R w) E3426 m o l ∧ SP [] w0 w [X0, X1, E3426]), ([7, 8, 12], fun vs w => ∃ (g0 : Option Addr), ∃ (g1 : Nat), ∃ (d1 : Option Addr), ∃ (d2 : Nat), ∃ (e7 : Nat), ∃ (E3450 : Ent), VL vs [(lv g0 a4 g1), (.tuple #[(.agg #[(iv b.1), (iv b.2.1), (iv b.2.2.1), (iv b.2.2.2.1), (lv d1 c d2)]), (bv b.2.2.2.2.2)]), (pt e7 0)] ∧ Yv (fun w => R w) E3450 d1 d2 c ∧ Yv (fun w => R w) E3450 m o l ∧ SP [] w0 w [X0, X1, E3450, Qs e7 24 #[(iv 0), (iv 0), (iv 0), (iv 0), (lv none ([] : List Qb) 0)]]), ([7, 8, 9, 10], fun vs w => ∃ (e8 : Option Addr), ∃ (e9 : Nat), ∃ (c1 : Option Addr), ∃ (c2 : Nat), ∃ (E3478 : Ent), VL vs [(lv e8 a4 e9), (.tuple #[(.agg #[(iv b.1), (iv b.2.1), (iv b.2.2.1), (iv b.2.2.2.1), (lv c1 c c2)]), (bv b.2.2.2.2.2)]), (.tuple #[(.agg #[(iv b.1), (iv b.2.1), (iv b.2.2.1), (iv b.2.2.2.1), (lv c1 c c2)]), (bv b.2.2.2.2.2)]), (.agg #[(iv b.1), (iv b.2.1), (iv b.2.2.1), (iv b.2.2.2.1), (lv c1 c c2)])] ∧ Yv (fun w => R w) E3478 c1 c2 c ∧ Yv (fun w => R w) E3478 m o l ∧ SP [] w0 w [X0, X1, E3478]), ([7, 8, 9, 12], fun vs w => ∃ (f0 : Option Addr), ∃ (f1 : Nat), ∃ (b7 : Option Addr), ∃ (b8 : Nat), ∃ (d6 : Nat), ∃ (E3502 : Ent), VL vs [(lv f0 a4 f1), (.tuple #[(.agg #[(iv b.1), (iv b.2.1), (iv b.2.2.1), (iv b.2.2.2.1), (lv b7 c b8)]), (bv b.2.2.2.2.2)]), (.tuple #[(.agg #[(iv b.1), (iv b.2.1), (iv b.2.2.1), (iv b.2.2.2.1), (lv b7 c b8)]), (bv b.2.2.2.2.2)]), (pt d6 0)] ∧ Yv (fun w => R w) E3502 b7 b8 c ∧ Yv (fun w => R w) E3502 m o l ∧ SP [] w0 w [X0, X1, E3502, Qs d6 24 #[(iv 0), (iv 0), (iv 0), (iv 0), (lv none ([] : List Qb) 0)]]), ([7, 8, 9, 10, 12], fun vs w => ∃ (f2 : Option Addr), ∃ (f3 : Nat), ∃ (b2 : Option Addr), ∃ (b3 : Nat), ∃ (c6 : Nat), ∃ (E3530 : Ent), VL vs [(lv f2 a4 f3), (.tuple #[(.agg #[(iv b.1), (iv b.2.1), (iv b.2.2.1), (iv b.2.2.2.1), (lv b2 c b3)]), (bv b.2.2.2.2.2)]), (.tuple #[(.agg #[(iv b.1), (iv b.2.1), (iv b.2.2.1), (iv b.2.2.2.1), (lv b2 c b3)]), (bv b.2.2.2.2.2)]), (.agg #[(iv b.1), (iv b.2.1), (iv b.2.2.1), (iv b.2.2.2.1), (lv b2 c b3)]), (pt c6 0)] ∧ Yv (fun w => R w) E3530 b2 b3 c ∧ Yv (fun w => R w) E3530 m o l ∧ SP [] w0 w [X0, X1, E3530, Qs c6 24 #[(iv 0), (iv 0), (iv 0), (iv 0), (lv none ([] : List Qb) 0)]]), ([7, 8, 9, 10, 12, 13], fun vs w => ∃ (g2 : Option Addr), ∃ (g3 : Nat), ∃ (a5 : Option Addr), ∃ (a6 : Nat), ∃ (b4 : Nat), ∃ (E3558 : Ent), VL vs [(lv g2 a4 g3), (.tuple #[(.agg #[(iv b.1), (iv b.2.1), (iv b.2.2.1), (iv b.2.2.2.1), (lv a5 c a6)]), (bv b.2.2.2.2.2)]), (.tuple #[(.agg #[(iv b.1), (iv b.2.1), (iv b.2.2.1), (iv b.2.2.2.1), (lv a5 c a6)]), (bv b.2.2.2.2.2)]), (.agg #[(iv b.1), (iv b.2.1), (iv b.2.2.1), (iv b.2.2.2.1), (lv a5 c a6)]), (pt b4 0), undef] ∧ Yv (fun w => R w) E3558 a5 a6 c ∧ Yv (fun w => R w) E3558 m o l ∧ SP [] w0 w [X0, X1, E3558, Qs b4 24 #[(iv b.1), (iv b.2.1), (iv b.2.2.1), (iv b.2.2.2.1), (lv a5 c a6)]])]) (Qs g6 24 #[(iv 0), (iv 0), (iv 0), (iv 0), (lv none ([] : List Qb) 0)]) (Qs a3 24 #[(iv s), (iv z), (iv a0), (iv a1), (lv m l o)])) 15 10 ⟨trivial, SP.drew d8⟩ ?_ ?_
    iterate 15 refine And.intro ?_ ?_
    exact trivial
    ·refine Owe.light K [0, 1, 2, 4] K (Qc ?_ (Qc ?_ (Qc ?_ (Qc ?_ Qq))))
     ·rintro P W hs p ⟨-, m2⟩
      refine kM (kc (kS hs 5 (pt a3 0)) k0) fun f => ?_
      refine sL 24 5 a3 0 2 (.agg #[(iv s), (iv z), (iv a0), (iv a1), (lv m l o)]) 26 m2 rfl ?_
      exact eK f
     ·rintro P W hs p ⟨a8, a9, ⟨v1, -⟩, m3⟩
      refine kM (kc (kS hs 5 (pt a3 0)) k0) fun f => ?_
      refine sL 24 5 a3 0 2 (.agg #[(iv s), (iv z), (iv a0), (iv a1), (lv m l o)]) 26 m3 rfl ?_
      exact eK f
     ·rintro P W hs p ⟨c8, ⟨v2, -⟩, m4⟩
      refine kM (kc (kS hs 5 (pt a3 0)) k0) fun f => ?_
      refine sL 24 5 a3 0 2 (.agg #[(iv s), (iv z), (iv a0), (iv a1), (lv m l o)]) 26 m4 rfl ?_
      exact eK f
     rintro P W hs p ⟨b5, b6, c5, ⟨v3, v4, -⟩, m5⟩
     refine kM (kc (kS hs 5 (pt a3 0)) k0) fun f => ?_
     refine sL 24 5 a3 0 2 (.agg #[(iv s), (iv z), (iv a0), (iv a1), (lv m l o)]) 26 m5 rfl ?_
     exact eK f
    ·exact oU (hC (hS 7 (iv q)) (h0))
    ·exact oU (hC (hA 1 27) (h0))
    ·exact oU (hC (hS 0 (sv p1)) (h0))
    ·exact oU (hC (hS 6 (iv a7)) (h0))
    ·exact oU (hC (hS 8 (iv a2)) (h0))
    ·refine Owe.light K [0, 2] K (Qc ?_ (Qc ?_ Qq))
     ·rintro P W hs p ⟨-, v5⟩
      refine kM (kc (kA p 3 29) (kc (kA p 4 30) (kc (kA p 5 31) k0))) fun f => ?_
      refine Jp (a := p1) (T := 9) (x := (.tmp 29)) (lo := (some (.tmp 30))) (hi := (some (.tmp 31))) (i := a7) (j := a2) (d := (some 32)) (k := 6) K rfl K K ⟨.i64, K⟩ ⟨.i64, K⟩ h7 h8 h9 ?_
      rw [hyl3326]
      exact eK f
     rintro P W hs p ⟨c8, ⟨v6, -⟩, v7⟩
     refine kM (kc (kA p 3 29) (kc (kA p 4 30) (kc (kA p 5 31) k0))) fun f => ?_
     refine Jp (a := p1) (T := 9) (x := (.tmp 29)) (lo := (some (.tmp 30))) (hi := (some (.tmp 31))) (i := a7) (j := a2) (d := (some 32)) (k := 6) K rfl K K ⟨.i64, K⟩ ⟨.i64, K⟩ h7 h8 h9 ?_
     rw [hyl3326]
     exact eK f
    ·refine Owe.heavy K [(0, 1), (2, 4)] K (Qc ⟨K, K, ?_⟩ (Qc ⟨K, K, ?_⟩ Qq))
     ·rintro P W hs p ⟨-, m6⟩
      refine kM (kc (kA p 6 32) k0) fun f => ?_
      refine cF 43 #[(.tmp 32)] #[9] 33 Tryz.call43 (Dd  f9 W  a4 i0) ?_
      rintro e v8 ⟨m7, m8, rfl, i2⟩
      refine ⟨_, rfl, ?_⟩
      have m9 := SP.call m6 i2
      clear i2
      refine ⟨_, Qa f, trivial, ?_⟩
      exact (ei m7 (ei m8 (ai (ai rfl (trivial)) m9)))
     rintro P W hs p ⟨c8, ⟨n0, -⟩, n1⟩
     refine kM (kc (kA p 6 32) k0) fun f => ?_
     refine cF 43 #[(.tmp 32)] #[9] 33 Tryz.call43 (Dd  f9 W  a4 i0) ?_
     rintro e v9 ⟨n2, n3, rfl, i3⟩
     refine ⟨_, rfl, ?_⟩
     have n4 := SP.call n1 i3
     clear i3
     refine ⟨_, Qa f, trivial, ?_⟩
     exact (ei n2 (ei n3 (ei c8 (ai (ai rfl (ai n0 (trivial))) (SP.sel n4 [0, 1, 2, 4, 3] rfl rfl)))))
    ·refine Owe.heavy K [(1, 3), (4, 6)] K (Qc ⟨K, K, ?_⟩ (Qc ⟨K, K, ?_⟩ Qq))
     ·rintro P W hs p ⟨a8, a9, ⟨i4, -⟩, f4⟩
      refine kN [(26, (.agg #[(iv s), (iv z), (iv a0), (iv a1), (lv m l o)])), (28, (bv (q == 0))), (33, (lv a8 a4 a9))] ⟨p 0 26 K, p 2 28 K, (Qr (h := 7) K).symm.trans i4, trivial⟩ fun f => ?_
      refine cF 42 #[(.tmp 26), (.tmp 28), (.tmp 33)] #[24, 4, 79] 34 Tryz.call42 (Df (R := fun w => R w ∧ (E1869).ok w ∧ (Vh 9 Qj a8 a9 a4).ok w ∧ True) m o a8 a9 s z a0 a1 l (q == 0) a4 W (fun w hb => ⟨hR w (Gi f4 hb), SP.get (SP.below f4 hb) (i := 1) rfl, SP.get (SP.below f4 hb) (i := 3) rfl, trivial⟩) (O2 c4 (fun w hr => ⟨hr.1, hr.2.1⟩)) (fun w hr => Qz hr.2.2.1) b i1) ?_
      rintro e i5 ⟨i6, i7, E3612, rfl, i8, i9⟩
      rw [hl3338] at i8 ⊢
      refine ⟨_, rfl, ?_⟩
      have n5 := SP.call f4 i9
      clear i9
      obtain ⟨E3616, hE3617, j0⟩ := Ig n5 (i := 1) (j := 4) rfl rfl (by decide)
      have n6 : SP [] w0 i5 [Qs g6 24 #[(iv 0), (iv 0), (iv 0), (iv 0), (lv none ([] : List Qb) 0)], E3616, Qs a3 24 #[(iv s), (iv z), (iv a0), (iv a1), (lv m l o)], Vh 9 Qj a8 a9 a4] := j0
      clear j0
      obtain ⟨E3620, hE3621, j1⟩ := Ig n6 (i := 3) (j := 1) rfl rfl (by decide)
      have n7 : SP [] w0 i5 [Qs g6 24 #[(iv 0), (iv 0), (iv 0), (iv 0), (lv none ([] : List Qb) 0)], Qs a3 24 #[(iv s), (iv z), (iv a0), (iv a1), (lv m l o)], E3620] := j1
      clear j1
      have n8 : Yv (fun w => R w) E3620 i6 i7 c := Bv i8 (fun w h1 he => ⟨⟨h1, (hE3617 w (hE3621 w he).2).1, (hE3621 w he).1, trivial⟩, (hE3617 w (hE3621 w he).2).2⟩)
      have n9 : Yv (fun w => R w) E3620 m o l := Bv c4 (fun w h1 he => ⟨h1, (hE3617 w (hE3621 w he).2).1⟩)
      refine ⟨_, Qa f, trivial, ?_⟩
      exact (ei a8 (ei a9 (ei i6 (ei i7 (ei E3620 (ai (ai i4 (ai rfl (trivial))) (ai n8 (ai n9 n7))))))))
     rintro P W hs p ⟨b5, b6, c5, ⟨j2, o0, -⟩, f5⟩
     refine kN [(26, (.agg #[(iv s), (iv z), (iv a0), (iv a1), (lv m l o)])), (28, (bv (q == 0))), (33, (lv b5 a4 b6))] ⟨p 0 26 K, p 2 28 K, (Qr (h := 7) K).symm.trans j2, trivial⟩ fun f => ?_
     refine cF 42 #[(.tmp 26), (.tmp 28), (.tmp 33)] #[24, 4, 79] 34 Tryz.call42 (Df (R := fun w => R w ∧ (E1869).ok w ∧ (Vh 9 Qj b5 b6 a4).ok w ∧ True) m o b5 b6 s z a0 a1 l (q == 0) a4 W (fun w hb => ⟨hR w (Gi f5 hb), SP.get (SP.below f5 hb) (i := 1) rfl, SP.get (SP.below f5 hb) (i := 3) rfl, trivial⟩) (O2 c4 (fun w hr => ⟨hr.1, hr.2.1⟩)) (fun w hr => Qz hr.2.2.1) b i1) ?_
     rintro e j3 ⟨j4, j5, E3634, rfl, j6, j7⟩
     rw [hl3338] at j6 ⊢
     refine ⟨_, rfl, ?_⟩
     have o1 := SP.call f5 j7
     clear j7
     obtain ⟨E3638, hE3639, j8⟩ := Ig o1 (i := 1) (j := 5) rfl rfl (by decide)
     have o2 : SP [] w0 j3 [Qs g6 24 #[(iv 0), (iv 0), (iv 0), (iv 0), (lv none ([] : List Qb) 0)], E3638, Qs a3 24 #[(iv s), (iv z), (iv a0), (iv a1), (lv m l o)], Vh 9 Qj b5 b6 a4, Qs c5 24 #[(iv 0), (iv 0), (iv 0), (iv 0), (lv none ([] : List Qb) 0)]] := j8
     clear j8
     obtain ⟨E3642, hE3643, j9⟩ := Ig o2 (i := 3) (j := 1) rfl rfl (by decide)
     have o3 : SP [] w0 j3 [Qs g6 24 #[(iv 0), (iv 0), (iv 0), (iv 0), (lv none ([] : List Qb) 0)], Qs a3 24 #[(iv s), (iv z), (iv a0), (iv a1), (lv m l o)], E3642, Qs c5 24 #[(iv 0), (iv 0), (iv 0), (iv 0), (lv none ([] : List Qb) 0)]] := j9
     clear j9
     have o4 : Yv (fun w => R w) E3642 j4 j5 c := Bv j6 (fun w h1 he => ⟨⟨h1, (hE3639 w (hE3643 w he).2).1, (hE3643 w he).1, trivial⟩, (hE3639 w (hE3643 w he).2).2⟩)
     have o5 : Yv (fun w => R w) E3642 m o l := Bv c4 (fun w h1 he => ⟨h1, (hE3639 w (hE3643 w he).2).1⟩)
     refine ⟨_, Qa f, trivial, ?_⟩
     exact (ei b5 (ei b6 (ei j4 (ei j5 (ei c5 (ei E3642 (ai (ai j2 (ai rfl (ai o0 (trivial)))) (ai o4 (ai o5 o3)))))))))
    ·refine Owe.heavy K [(3, 5), (6, 8)] K (Qc ⟨K, K, ?_⟩ (Qc ⟨K, K, ?_⟩ Qq))
     ·rintro P W hs p ⟨d4, d5, b9, c0, E3392, ⟨o6, k1, -⟩, g4, g5, o7⟩
      refine kN [(34, (.tuple #[(.agg #[(iv b.1), (iv b.2.1), (iv b.2.2.1), (iv b.2.2.2.1), (lv b9 c c0)]), (bv b.2.2.2.2.2)]))] ⟨(Qr (h := 8) K).symm.trans k1, trivial⟩ fun f => ?_
      refine Qx.run (k := 9) (v := (.tuple #[(.agg #[(iv b.1), (iv b.2.1), (iv b.2.2.1), (iv b.2.2.2.1), (lv b9 c c0)]), (bv b.2.2.2.2.2)])) K ?_
      refine ⟨_, Qa f, trivial, ?_⟩
      exact (ei d4 (ei d5 (ei b9 (ei c0 (ei E3392 (ai (ai o6 (ai k1 (ai rfl (trivial)))) (ai g4 (ai g5 o7))))))))
     rintro P W hs p ⟨g0, g1, d1, d2, e7, E3450, ⟨o8, k2, o9, -⟩, p0, p2, p3⟩
     refine kN [(34, (.tuple #[(.agg #[(iv b.1), (iv b.2.1), (iv b.2.2.1), (iv b.2.2.2.1), (lv d1 c d2)]), (bv b.2.2.2.2.2)]))] ⟨(Qr (h := 8) K).symm.trans k2, trivial⟩ fun f => ?_
     refine Qx.run (k := 9) (v := (.tuple #[(.agg #[(iv b.1), (iv b.2.1), (iv b.2.2.1), (iv b.2.2.2.1), (lv d1 c d2)]), (bv b.2.2.2.2.2)])) K ?_
     refine ⟨_, Qa f, trivial, ?_⟩
     exact (ei g0 (ei g1 (ei d1 (ei d2 (ei e7 (ei E3450 (ai (ai o8 (ai k2 (ai rfl (ai o9 (trivial))))) (ai p0 (ai p2 p3)))))))))
    ·refine Owe.heavy K [(5, 7), (8, 9)] K (Qc ⟨K, K, ?_⟩ (Qc ⟨K, K, ?_⟩ Qq))
     ·rintro P W hs p ⟨c9, d0, b0, b1, E3426, ⟨p4, p5, k3, -⟩, f6, f7, p6⟩
      refine kN [(25, (.tuple #[(.agg #[(iv b.1), (iv b.2.1), (iv b.2.2.1), (iv b.2.2.2.1), (lv b0 c b1)]), (bv b.2.2.2.2.2)]))] ⟨(Qr (h := 9) K).symm.trans k3, trivial⟩ fun f => ?_
      refine Qx.run (k := 10) (v := (.agg #[(iv b.1), (iv b.2.1), (iv b.2.2.1), (iv b.2.2.2.1), (lv b0 c b1)])) K ?_
      refine ⟨_, Qa f, trivial, ?_⟩
      exact (ei c9 (ei d0 (ei b0 (ei b1 (ei E3426 (ai (ai p4 (ai p5 (ai k3 (ai rfl (trivial))))) (ai f6 (ai f7 p6))))))))
     rintro P W hs p ⟨f0, f1, b7, b8, d6, E3502, ⟨p7, p8, k4, p9, -⟩, k5, k6, q0⟩
     refine kN [(25, (.tuple #[(.agg #[(iv b.1), (iv b.2.1), (iv b.2.2.1), (iv b.2.2.2.1), (lv b7 c b8)]), (bv b.2.2.2.2.2)]))] ⟨(Qr (h := 9) K).symm.trans k4, trivial⟩ fun f => ?_
     refine Qx.run (k := 10) (v := (.agg #[(iv b.1), (iv b.2.1), (iv b.2.2.1), (iv b.2.2.2.1), (lv b7 c b8)])) K ?_
     refine ⟨_, Qa f, trivial, ?_⟩
     exact (ei f0 (ei f1 (ei b7 (ei b8 (ei d6 (ei E3502 (ai (ai p7 (ai p8 (ai k4 (ai rfl (ai p9 (trivial)))))) (ai k5 (ai k6 q0)))))))))
    ·refine Owe.light K [5, 7, 8, 9, 10] K (Qc ?_ (Qc ?_ (Qc ?_ (Qc ?_ (Qc ?_ Qq)))))
     ·rintro P W hs p ⟨c9, d0, b0, b1, E3426, ⟨w1, w2, q1, -⟩, f6, f7, w3⟩
      refine kN [(25, (.tuple #[(.agg #[(iv b.1), (iv b.2.1), (iv b.2.2.1), (iv b.2.2.2.1), (lv b0 c b1)]), (bv b.2.2.2.2.2)]))] ⟨(Qr (h := 9) K).symm.trans q1, trivial⟩ fun f => ?_
      refine Qx.run (k := 11) (v := (bv b.2.2.2.2.2)) K ?_
      exact eK f
     ·rintro P W hs p ⟨e8, e9, c1, c2, E3478, ⟨w4, w5, q2, w6, -⟩, k7, k8, w8⟩
      refine kN [(25, (.tuple #[(.agg #[(iv b.1), (iv b.2.1), (iv b.2.2.1), (iv b.2.2.2.1), (lv c1 c c2)]), (bv b.2.2.2.2.2)]))] ⟨(Qr (h := 9) K).symm.trans q2, trivial⟩ fun f => ?_
      refine Qx.run (k := 11) (v := (bv b.2.2.2.2.2)) K ?_
      exact eK f
     ·rintro P W hs p ⟨f0, f1, b7, b8, d6, E3502, ⟨w9, x0, q3, x1, -⟩, k5, k6, x2⟩
      refine kN [(25, (.tuple #[(.agg #[(iv b.1), (iv b.2.1), (iv b.2.2.1), (iv b.2.2.2.1), (lv b7 c b8)]), (bv b.2.2.2.2.2)]))] ⟨(Qr (h := 9) K).symm.trans q3, trivial⟩ fun f => ?_
      refine Qx.run (k := 11) (v := (bv b.2.2.2.2.2)) K ?_
      exact eK f
     ·rintro P W hs p ⟨f2, f3, b2, b3, c6, E3530, ⟨x3, x4, q4, x5, x6, -⟩, k9, l0, x7⟩
      refine kN [(25, (.tuple #[(.agg #[(iv b.1), (iv b.2.1), (iv b.2.2.1), (iv b.2.2.2.1), (lv b2 c b3)]), (bv b.2.2.2.2.2)]))] ⟨(Qr (h := 9) K).symm.trans q4, trivial⟩ fun f => ?_
      refine Qx.run (k := 11) (v := (bv b.2.2.2.2.2)) K ?_
      exact eK f
     rintro P W hs p ⟨g2, g3, a5, a6, b4, E3558, ⟨x8, x9, q5, y0, y1, y2, -⟩, g7, q6, y3⟩
     refine kN [(25, (.tuple #[(.agg #[(iv b.1), (iv b.2.1), (iv b.2.2.1), (iv b.2.2.2.1), (lv a5 c a6)]), (bv b.2.2.2.2.2)]))] ⟨(Qr (h := 9) K).symm.trans q5, trivial⟩ fun f => ?_
     refine Qx.run (k := 11) (v := (bv b.2.2.2.2.2)) K ?_
     exact eK f
    ·refine Owe.heavy K [(0, 2), (1, 4), (3, 6), (5, 8), (7, 9)] K (Qc ⟨K, K, ?_⟩ (Qc ⟨K, K, ?_⟩ (Qc ⟨K, K, ?_⟩ (Qc ⟨K, K, ?_⟩ (Qc ⟨K, K, ?_⟩ Qq)))))
     ·rintro P W hs p ⟨-, q7⟩
      refine kN [] trivial fun f => ?_
      refine zA 24 (.agg #[(iv 0), (iv 0), (iv 0), (iv 0), (lv none ([] : List Qb) 0)]) 9 q7 ?_
      intro q8 y4 q9
      refine ⟨_, Qa f, trivial, ?_⟩
      exact (ei q8 (ai (ai rfl (trivial)) q9))
     ·rintro P W hs p ⟨a8, a9, ⟨r0, -⟩, r1⟩
      refine kN [] trivial fun f => ?_
      refine zA 24 (.agg #[(iv 0), (iv 0), (iv 0), (iv 0), (lv none ([] : List Qb) 0)]) 9 r1 ?_
      intro r2 y5 r3
      refine ⟨_, Qa f, trivial, ?_⟩
      exact (ei a8 (ei a9 (ei r2 (ai (ai r0 (ai rfl (trivial))) r3))))
     ·rintro P W hs p ⟨d4, d5, b9, c0, E3392, ⟨r4, r5, -⟩, g4, g5, r6⟩
      refine kN [] trivial fun f => ?_
      refine zA 24 (.agg #[(iv 0), (iv 0), (iv 0), (iv 0), (lv none ([] : List Qb) 0)]) 9 r6 ?_
      intro r7 y6 r8
      refine ⟨_, Qa f, trivial, ?_⟩
      exact (ei d4 (ei d5 (ei b9 (ei c0 (ei r7 (ei E3392 (ai (ai r4 (ai r5 (ai rfl (trivial)))) (ai g4 (ai g5 r8)))))))))
     ·rintro P W hs p ⟨c9, d0, b0, b1, E3426, ⟨r9, s0, s1, -⟩, f6, f7, s2⟩
      refine kN [] trivial fun f => ?_
      refine zA 24 (.agg #[(iv 0), (iv 0), (iv 0), (iv 0), (lv none ([] : List Qb) 0)]) 9 s2 ?_
      intro s3 y7 s4
      refine ⟨_, Qa f, trivial, ?_⟩
      exact (ei c9 (ei d0 (ei b0 (ei b1 (ei s3 (ei E3426 (ai (ai r9 (ai s0 (ai s1 (ai rfl (trivial))))) (ai f6 (ai f7 s4)))))))))
     rintro P W hs p ⟨e8, e9, c1, c2, E3478, ⟨s5, s6, s7, s8, -⟩, k7, k8, s9⟩
     refine kN [] trivial fun f => ?_
     refine zA 24 (.agg #[(iv 0), (iv 0), (iv 0), (iv 0), (lv none ([] : List Qb) 0)]) 9 s9 ?_
     intro t0 y8 t1
     refine ⟨_, Qa f, trivial, ?_⟩
     exact (ei e8 (ei e9 (ei c1 (ei c2 (ei t0 (ei E3478 (ai (ai s5 (ai s6 (ai s7 (ai s8 (ai rfl (trivial)))))) (ai k7 (ai k8 t1)))))))))
    ·refine oH 9 10 ?_
     rintro P W hs p ⟨f2, f3, b2, b3, c6, E3530, ⟨t2, t3, t4, l1, l2, -⟩, k9, l0, t5⟩
     refine kN [(9, (pt c6 0)), (35, (.agg #[(iv b.1), (iv b.2.1), (iv b.2.2.1), (iv b.2.2.2.1), (lv b2 c b3)]))] ⟨(Qr (h := 12) K).symm.trans l2, (Qr (h := 10) K).symm.trans l1, trivial⟩ fun f => ?_
     refine zT 24 (.tmp 9) (.tmp 35) c6 0 3 (.agg #[(iv b.1), (iv b.2.1), (iv b.2.2.1), (iv b.2.2.2.1), (lv b2 c b3)]) #[(iv b.1), (iv b.2.1), (iv b.2.2.1), (iv b.2.2.2.1), (lv b2 c b3)] none t5 ?_
     intro y9 t6
     refine ⟨_, Qa f, trivial, ?_⟩
     exact (ei f2 (ei f3 (ei b2 (ei b3 (ei c6 (ei E3530 (ai (ai t2 (ai t3 (ai t4 (ai l1 (ai l2 (ai rfl (trivial))))))) (ai k9 (ai l0 t6)))))))))
    ·exact oU (hC (hA 11 36) (h0))
    rintro P t7 hs hf ⟨g2, g3, a5, a6, b4, E3558, ⟨z0, z1, z2, z3, t8, z4, -⟩, g7, q6, d7⟩
    refine Qy [(0, (sv p1)), (2, (pt g6 0)), (5, (pt a3 0)), (7, (iv q)), (8, (iv a2)), (9, (pt b4 0)), (10, (bv b.2.2.2.2.2))] ⟨(hs 0 K).trans K, (hs 2 K).trans K, (hs 5 K).trans K, (hs 7 K).trans K, (hs 8 K).trans K, (Qr (h := 12) K).symm.trans t8, hf 14 10 K, trivial⟩ ?_
    refine aQ ?_
    refine aQ ?_
    refine At.join (fun ρ w => ∃ (g8 : Bool), Vq ρ [(0, (sv p1)), (2, (pt g6 0)), (5, (pt a3 0)), (7, (iv q)), (8, (iv a2)), (9, (pt b4 0)), (43, (bv g8))] ∧ SP [] w0 w [Qs g6 24 #[(iv 0), (iv 0), (iv 0), (iv 0), (lv none ([] : List Qb) 0)], E3558, Qs a3 24 #[(iv s), (iv z), (iv a0), (iv a1), (lv m l o)], Qs b4 24 #[(iv b.1), (iv b.2.1), (iv b.2.2.1), (iv b.2.2.2.1), (lv a5 c a6)]] ∧ Jw (Vz p1 c7) q a2 b c g8 = some r) ?_ ?_
    ·refine aR ?_
     refine iR 3 3 [(37, (bv b.2.2.2.2.2)), (38, (bv (!b.2.2.2.2.2))), (39, (bv (!b.2.2.2.2.2)))] ?_
     refine gD 39 H (fun H => ?_) fun H => ?_
     ·refine iR 4 7 (uN 40 3 [(43, (bv true))]) ?_
      refine iF ?_
      exact ⟨true, ⟨K, K, K, K, K, K, K, trivial⟩, SP.sel d7 [0, 2, 1, 3] rfl rfl, H⟩
     refine jL 4 24 9 b4 0 3 (.agg #[(iv b.1), (iv b.2.1), (iv b.2.2.1), (iv b.2.2.2.1), (lv a5 c a6)]) 40 d7 rfl ?_
     obtain ⟨f8, t9, H⟩ := Qd H
     refine iS 5 ?_
     refine cS d7 23 #[(.tmp 40)] #[24] 41 Tryz.call23 (Cm a5 a6 b.1 b.2.1 b.2.2.1 b.2.2.2.1 c t7 (C5 g7 (hR _ (SP.keeps d7)) (SP.get d7 (i := 2) rfl)) f8 t9) ?_
     intro z5 u0
     refine iR 2 7 [(42, (bv (!f8))), (43, (bv (!f8)))] ?_
     refine iF ?_
     exact ⟨(!f8), ⟨K, K, K, K, K, K, K, trivial⟩, SP.sel u0 [0, 2, 1, 3] rfl rfl, H⟩
    rintro ρ z6 ⟨g8, hk, g9, H⟩
    unfold Jw at H
    first | refine At.known _ hk ?_ | rw [← Qo hk]
    refine cD 43 H (fun H => ?_) fun H => ?_
    ·refine aC ?_
     refine iR 2 2 [(44, (.agg #[(iv 0), (iv 0), (iv 0), (iv 0), (lv none ([] : List Qb) 0)])), (45, (iv q))] ?_
     refine iS 3 ?_
     refine zT 24 (.tmp 2) (.tmp 44) g6 0 0 (.agg #[(iv 0), (iv 0), (iv 0), (iv 0), (lv none ([] : List Qb) 0)]) #[(iv 0), (iv 0), (iv 0), (iv 0), (lv none ([] : List Qb) 0)] none g9 ?_
     intro u1 l3
     refine iR 2 5 [(3, (iv 91)), (4, (iv q))] ?_
     refine iF ?_
     refine At.ret K ?_
     have u2 : SP [] w0 u1 [Qs g6 24 #[(iv 0), (iv 0), (iv 0), (iv 0), (lv none ([] : List Qb) 0)], E3558, Qs a3 24 #[(iv s), (iv z), (iv a0), (iv a1), (lv m l o)], Qs b4 24 #[(iv b.1), (iv b.2.1), (iv b.2.2.1), (iv b.2.2.2.1), (lv a5 c a6)], L0] := Cq l3
     refine ⟨(.tuple #[(.agg #[(iv 0), (iv 0), (iv 0), (iv 0), (lv none ([] : List Qb) 0)]), (iv 91), (iv q)]), res_3 K (Uf (a := 2) (t := 24) (g := g6) (off := 0) K (SP.get l3 (i := 0) rfl) K) (Nv (t := 3) K) (Nv (t := 4) K), ?_⟩
     obtain rfl := Qe H
     exact ⟨none, 0, L0, rfl, (Yv.nil _ _), SP.sel u2 [4] rfl rfl⟩
    refine At.skip K ?_
    refine aC ?_
    refine jL 1 24 9 b4 0 3 (.agg #[(iv b.1), (iv b.2.1), (iv b.2.2.1), (iv b.2.2.2.1), (lv a5 c a6)]) 46 g9 rfl ?_
    refine iS 2 ?_
    refine zT 24 (.tmp 5) (.tmp 46) a3 0 2 (.agg #[(iv b.1), (iv b.2.1), (iv b.2.2.1), (iv b.2.2.2.1), (lv a5 c a6)]) #[(iv b.1), (iv b.2.1), (iv b.2.2.1), (iv b.2.2.2.1), (lv a5 c a6)] none g9 ?_
    intro z7 u3
    refine iF ?_
    refine aC ?_
    refine iR 3 3 [(47, (iv q)), (48, (iv (IntKind.wrap .i64 (q + 1)))), (7, (iv (IntKind.wrap .i64 (q + 1))))] ?_
    refine iF ?_
    refine aR ?_
    refine iR 3 3 [(49, (iv a2)), (50, (iv (IntKind.wrap .i64 (a2 + 1)))), (6, (iv (IntKind.wrap .i64 (a2 + 1))))] ?_
    refine iF ?_
    exact ⟨b.1, b.2.1, b.2.2.1, b.2.2.2.1, c, (IntKind.wrap .i64 (a2 + 1)), (IntKind.wrap .i64 (q + 1)), a5, a6, E3558, ⟨K, K, K, K, K, K, trivial⟩, SP.sel u3 [0, 1, 2] rfl rfl, g7, H⟩
   rintro ρ z8 ⟨d9, e0, e1, e2, d3, e3, e4, e5, e6, E3311, hk, u4, u5, H⟩
   unfold Yl at H
   first | refine At.known _ hk ?_ | rw [← Qo hk]
   refine aR ?_
   refine iR 3 3 [(19, (iv a2)), (20, (iv (IntKind.wrap .i64 (a2 + 1)))), (8, (iv (IntKind.wrap .i64 (a2 + 1))))] ?_
   refine iF ?_
   exact ⟨d9, e0, e1, e2, d3, e3, e4, (IntKind.wrap .i64 (a2 + 1)), e5, e6, E3311, ⟨K, K, K, K, K, K, trivial⟩, SP.sel u4 [0, 1, 2] rfl rfl, u5, H⟩
  refine At.exit K (id := 0) K ?_
  refine aQ ?_
  refine aQ ?_
  refine At.join (fun ρ w => ∃ (h2 : Bool), Vq ρ [(2, (pt g6 0)), (5, (pt a3 0)), (7, (iv q)), (58, (bv h2))] ∧ SP [] w0 w [Qs g6 24 #[(iv 0), (iv 0), (iv 0), (iv 0), (lv none ([] : List Qb) 0)], E1869, Qs a3 24 #[(iv s), (iv z), (iv a0), (iv a1), (lv m l o)]] ∧ Jy (Vz p1 c7) s z a0 a1 l q h2 = some r) ?_ ?_
  ·refine aR ?_
   refine iR 5 5 [(51, (iv a7)), (52, (sv p1)), (53, (iv (ln p1))), (54, (bv (decide (a7 < (ln p1))))), (55, (bv (decide (a7 < (ln p1)))))] ?_
   refine gD 55 H (fun H => ?_) fun H => ?_
   ·refine iR 3 8 [(56, undef), (57, undef), (58, (bv true))] ?_
    refine iF ?_
    exact ⟨true, ⟨K, K, K, K, trivial⟩, SP.sel d8 [0, 1, 2] rfl rfl, H⟩
   refine iR 3 8 [(56, (iv q)), (57, (bv (q == 0))), (58, (bv (q == 0)))] ?_
   refine iF ?_
   exact ⟨(q == 0), ⟨K, K, K, K, trivial⟩, SP.sel d8 [0, 1, 2] rfl rfl, H⟩
  rintro ρ z9 ⟨h2, hk, h3, H⟩
  unfold Jy at H
  first | refine At.known _ hk ?_ | rw [← Qo hk]
  refine cD 58 H (fun H => ?_) fun H => ?_
  ·refine aC ?_
   refine iR 2 2 [(59, (.agg #[(iv 0), (iv 0), (iv 0), (iv 0), (lv none ([] : List Qb) 0)])), (60, (iv q))] ?_
   refine iS 3 ?_
   refine zT 24 (.tmp 2) (.tmp 59) g6 0 0 (.agg #[(iv 0), (iv 0), (iv 0), (iv 0), (lv none ([] : List Qb) 0)]) #[(iv 0), (iv 0), (iv 0), (iv 0), (lv none ([] : List Qb) 0)] none h3 ?_
   intro u6 l4
   refine iR 2 5 [(3, (iv 91)), (4, (iv q))] ?_
   refine iF ?_
   refine At.ret K ?_
   have u7 : SP [] w0 u6 [Qs g6 24 #[(iv 0), (iv 0), (iv 0), (iv 0), (lv none ([] : List Qb) 0)], E1869, Qs a3 24 #[(iv s), (iv z), (iv a0), (iv a1), (lv m l o)], L0] := Cq l4
   refine ⟨(.tuple #[(.agg #[(iv 0), (iv 0), (iv 0), (iv 0), (lv none ([] : List Qb) 0)]), (iv 91), (iv q)]), res_3 K (Uf (a := 2) (t := 24) (g := g6) (off := 0) K (SP.get l4 (i := 0) rfl) K) (Nv (t := 3) K) (Nv (t := 4) K), ?_⟩
   obtain rfl := Qe H
   exact ⟨none, 0, L0, rfl, (Yv.nil _ _), SP.sel u7 [3] rfl rfl⟩
  refine At.skip K ?_
  refine aC ?_
  refine jL 1 24 5 a3 0 2 (.agg #[(iv s), (iv z), (iv a0), (iv a1), (lv m l o)]) 61 h3 rfl ?_
  refine iS 2 ?_
  refine zT 24 (.tmp 2) (.tmp 61) g6 0 0 (.agg #[(iv s), (iv z), (iv a0), (iv a1), (lv m l o)]) #[(iv s), (iv z), (iv a0), (iv a1), (lv m l o)] none h3 ?_
  intro aa0 l5
  refine iR 2 4 [(3, (iv 0)), (4, (iv 0))] ?_
  refine iF ?_
  refine At.ret K ?_
  refine ⟨(.tuple #[(.agg #[(iv s), (iv z), (iv a0), (iv a1), (lv m l o)]), (iv 0), (iv 0)]), res_3 K (Uf (a := 2) (t := 24) (g := g6) (off := 0) K (SP.get l5 (i := 0) rfl) K) (Nv (t := 3) K) (Nv (t := 4) K), ?_⟩
  obtain rfl := Qe H
  exact ⟨m, o, E1869, rfl, c4, SP.sel l5 [1] rfl rfl⟩
 exact ⟨0, 0, 0, 0, ([] : List Qb), 0, 0, 0, none, 0, L0, ⟨K, K, K, K, K, K, trivial⟩, SP.sel (Cq l9) [0, 2, 1] rfl rfl, (Yv.nil _ _), H⟩
end Go.Proofs.YtoflbpmbkmephaaGreatDoor
namespace Go.Proofs.YtoflbpmbkmephaaGreatDoor
open Go.RowKit
abbrev Bp := Int × Int × Int × Int × List Qb
def okC (c : Bp) : Bool := Ok c.1 c.2.1 c.2.2.1 c.2.2.2.1 c.2.2.2.2
def c0C : Bp := (0, 0, 0, 0, [])
def O4 (c : Bp) (l : List Qb) : Bp := (c.1, c.2.1, c.2.2.1, c.2.2.2.1, l)
def F6 (t : Qb) (n : La) : Qb := (t.1, t.2.1, t.2.2.1, t.2.2.2.1 ++ [n], t.2.2.2.2)
def F7 (t : Qb) (x : E8) : Qb := (t.1, t.2.1, t.2.2.1, t.2.2.2.1, t.2.2.2.2 ++ [x])
def allN : List Str → Option (List Int)
  | [] => some []
  | w :: q => (Q9 w).bind fun (n : Nat) => (allN q).map fun l => (n : Int) :: l
def Dv (c : Bp) (k : Str) (q : List Str) : Option Bp :=
  if k = Zi then match q with
    | [a, b, d, e] => (Q9 a).bind fun (n1 : Nat) => (Q9 b).bind fun (n2 : Nat) => (Q9 d).bind fun (n3 : Nat) => (Q9 e).map fun (n4 : Nat) => ((n1 : Int), (n2 : Int), (n3 : Int), (n4 : Int), [])
    | _ => none
  else if k = Zs then match q with
    | [a, b, d] => (Q9 b).bind fun (n : Nat) => (Q9 d).map fun (m : Nat) => O4 c (c.2.2.2.2 ++ [(a, (n : Int), (m : Int), [], [])])
    | _ => none
  else if k = Dt then match q with
    | [a] => c.2.2.2.2.getLast?.bind fun t => if t.2.2.2.2 = [] then (Pz a).map fun n => O4 c (c.2.2.2.2.dropLast ++ [F6 t ((n.1 : Int), (n.2 : Int))]) else none
    | _ => none
  else if k = Y2 then match q with
    | [a, b, d] => c.2.2.2.2.getLast?.bind fun t => (N5 b).bind fun x => (Q9 d).map fun (n : Nat) => O4 c (c.2.2.2.2.dropLast ++ [F7 t (a, x, (n : Int))])
    | _ => none
  else none
def BndT (k : Nat) (t : Qb) : Prop := t.1.length ≤ 5000 ∧ t.2.2.2.1.length ≤ k + 4 ∧ t.2.2.2.2.length ≤ k + 4 ∧ (∀ n ∈ t.2.2.2.1, 0 ≤ n.1 ∧ n.1 < 4294967296) ∧ ∀ x ∈ t.2.2.2.2, x.1.length ≤ 5000 ∧ x.2.1.length ≤ 5000
def Mu (k : Nat) (c : Bp) : Prop := c.2.2.2.2.length ≤ k + 8 ∧ ∀ t ∈ c.2.2.2.2, BndT k t
theorem S3 {t : Qb} (h : BndT 1 t) : Pe t := ⟨by have := h.1; omega, by have := h.2.1; omega, by have := h.2.2.1; omega, h.2.2.2.1, fun x hx => ⟨by have := (h.2.2.2.2 x hx).1; omega, by have := (h.2.2.2.2 x hx).2; omega⟩⟩
theorem bnd_tenS {t : Qb} (h : BndT 1 t) : TenS t := ⟨by have := h.1; omega, by have := h.2.1; omega, by have := h.2.2.1; omega, fun x hx => ⟨by have := (h.2.2.2.2 x hx).1; omega, by have := (h.2.2.2.2 x hx).2; omega⟩⟩
theorem bnd_le {t : Qb} (h : BndT 0 t) : BndT 1 t := ⟨h.1, by have := h.2.1; omega, by have := h.2.2.1; omega, h.2.2.2⟩
theorem okC_bnd {c : Bp} (h : Mu 1 c) (ho : okC c = true) : Mu 0 c := by
  unfold okC Ok at ho
  simp only [Bool.and_eq_true, decide_eq_true_eq, List.all_eq_true] at ho
  obtain ⟨_, h1, h2, _⟩ := ho
  refine ⟨by omega, fun t ht => ?_⟩
  have h3 := h2 t ht
  unfold Hf at h3
  simp only [Bool.and_eq_true, decide_eq_true_eq] at h3
  obtain ⟨_, ⟨_, h4, h5⟩, _⟩ := h3
  obtain ⟨b1, b2, b3, b4⟩ := h.2 t ht
  exact ⟨b1, by omega, by omega, b4⟩
theorem pCfg {c : Bp} (h : Mu 1 c) : Jo c.1 c.2.1 c.2.2.1 c.2.2.2.1 c.2.2.2.2 = some (okC c) := lCfg _ _ _ _ _ (by have := h.1; omega) fun t ht => S3 (h.2 t ht)
theorem rCfg9 {c : Bp} (h : Mu 1 c) : Z6 c.1 c.2.1 c.2.2.1 c.2.2.2.1 c.2.2.2.2 = some (okC c) := rCfg _ _ _ _ _ (by have := h.1; omega) (fun t ht => S3 (h.2 t ht)) fun t ht => bnd_tenS (h.2 t ht)
theorem P4 {l : List Qb} {t : Qb} (h : l.getLast? = some t) : l = l.dropLast ++ [t] := by
  have hne : l ≠ [] := fun e => by rw [e] at h; cases h
  rw [List.getLast?_eq_some_getLast hne] at h
  injection h with h
  rw [← h]
  exact (List.dropLast_concat_getLast hne).symm
theorem netL_rng {a : Str} {n : Nat × Nat} (h : Pz a = some n) : (n.1 : Int) < 4294967296 := by
  obtain ⟨x, y⟩ := n
  have := (Ou h).2.2
  show (x : Int) < _
  omega
theorem Mq {c c' : Bp} {k : Str} {q : List Str} (h : Mu 0 c) (hq : ∀ w ∈ q, w.length ≤ 5000) (hw : Dv c k q = some c') : Mu 1 c' := by
  unfold Dv at hw
  have up : ∀ t ∈ c.2.2.2.2, BndT 1 t := fun t ht => bnd_le (h.2 t ht)
  have dl : ∀ (t t' : Qb), c.2.2.2.2.getLast? = some t → BndT 1 t' → Mu 1 (O4 c (c.2.2.2.2.dropLast ++ [t'])) := by
    intro t t' ht ht'
    refine ⟨by have := h.1; simp [O4]; omega, fun y hy => ?_⟩
    rcases List.mem_append.1 hy with hy | hy
    · exact up y (List.dropLast_subset _ hy)
    · rw [List.mem_singleton] at hy
      subst hy
      exact ht'
  split at hw
  · split at hw
    · simp only [Option.bind_eq_some_iff, Option.map_eq_some_iff] at hw
      obtain ⟨_, _, _, _, _, _, _, _, rfl⟩ := hw
      exact ⟨Nat.zero_le _, fun t ht => by cases ht⟩
    · cases hw
  · split at hw
    · split at hw
      · simp only [Option.bind_eq_some_iff, Option.map_eq_some_iff] at hw
        obtain ⟨_, _, _, _, rfl⟩ := hw
        refine ⟨by have := h.1; simp [O4]; omega, fun t ht => ?_⟩
        rcases List.mem_append.1 ht with ht | ht
        · exact up t ht
        · rw [List.mem_singleton] at ht
          subst ht
          exact ⟨hq _ (by simp), Nat.zero_le _, Nat.zero_le _, fun n hn => (by cases hn), fun x hx => (by cases hx)⟩
      · cases hw
    · split at hw
      · split at hw
        · simp only [Option.bind_eq_some_iff] at hw
          obtain ⟨t, ht, hw⟩ := hw
          split at hw
          · simp only [Option.map_eq_some_iff] at hw
            obtain ⟨n, hn, rfl⟩ := hw
            obtain ⟨b1, b2, b3, b4, b5⟩ := h.2 t (List.mem_of_getLast? ht)
            refine dl t _ ht ⟨b1, by simp [F6]; omega, by simp only [F6]; omega, fun y hy => ?_, b5⟩
            rcases List.mem_append.1 hy with hy | hy
            · exact b4 y hy
            · rw [List.mem_singleton] at hy
              subst hy
              exact ⟨by simp, netL_rng hn⟩
          · cases hw
        · cases hw
      · split at hw
        · split at hw
          · simp only [Option.bind_eq_some_iff, Option.map_eq_some_iff] at hw
            obtain ⟨t, ht, x, hx, n, hn, rfl⟩ := hw
            obtain ⟨b1, b2, b3, b4, b5⟩ := h.2 t (List.mem_of_getLast? ht)
            refine dl t _ ht ⟨b1, by simp only [F7]; omega, by simp [F7]; omega, b4, fun y hy => ?_⟩
            rcases List.mem_append.1 hy with hy | hy
            · exact b5 y hy
            · rw [List.mem_singleton] at hy
              subst hy
              refine ⟨hq _ (by simp), ?_⟩
              have h1 := Lv hx
              rename_i a b d
              have h3 := hq b (by simp)
              show x.length ≤ 5000
              omega
          · cases hw
        · cases hw
theorem Mr (ws : List Str) (hl : ws.length ≤ 9000) (hw : ∀ w ∈ ws, w.length ≤ 9000) : ∀ (d i f : Nat) (out : List Int), d = ws.length - i → i ≤ ws.length → d < f → out.length ≤ i →
    Z0 ws f out (i : Int) = some (match allN (ws.drop i) with | some l => (out ++ l, true) | none => ([], false)) := by
  intro d
  induction d with
  | zero =>
    intro i f out hd hi hf ho
    obtain ⟨f, rfl⟩ : ∃ g, f = g + 1 := ⟨f - 1, by omega⟩
    show Zz (Z0 ws f) ws out (i : Int) = _
    unfold Zz
    rw [show decide ((i : Int) < ((ws.length : Nat) : Int)) = false from decide_eq_false (by omega), cond_false, List.drop_of_length_le (by omega)]
    simp [allN]
  | succ d ih =>
    intro i f out hd hi hf ho
    obtain ⟨f, rfl⟩ : ∃ g, f = g + 1 := ⟨f - 1, by omega⟩
    have hlt : i < ws.length := by omega
    show Zz (Z0 ws f) ws out (i : Int) = _
    unfold Zz
    rw [show decide ((i : Int) < ((ws.length : Nat) : Int)) = true from decide_eq_true (by omega), cond_true, Zr hlt, Option.bind_some, Om _ (by have := hw _ (List.getElem_mem hlt); unfold maxLen; omega), Option.bind_some, List.drop_eq_getElem_cons hlt]
    cases hp : Q9 ws[i] with
    | none => simp [U0, allN, hp]
    | some n =>
      simp only [U0, Bool.not_true, cond_false]
      rw [Ur (by simp; omega), Option.bind_some, show ((i : Int) + 1) = ((i + 1 : Nat) : Int) by omega, Uy (by omega), ih (i + 1) f _ (by omega) (by omega) (by omega) (by simp; omega)]
      simp only [allN, hp, Option.bind_some]
      cases allN (ws.drop (i + 1)) with
      | none => rfl
      | some l => simp
theorem S4 (ws : List Str) (hl : ws.length ≤ 9000) (hw : ∀ w ∈ ws, w.length ≤ 9000) : Jk ws = some (match allN ws with | some l => (l, true) | none => ([], false)) := by
  have := Mr ws hl hw ws.length 0 Zj [] (by omega) (by omega) (by unfold Zj; omega) (by simp)
  unfold Jk
  simpa using this
theorem rLast (c : Bp) (t t' : Qb) (hc : c.2.2.2.2.length ≤ 9000) (ht : c.2.2.2.2.getLast? = some t) : Uv c.1 c.2.1 c.2.2.1 c.2.2.2.1 c.2.2.2.2 t'.1 t'.2.1 t'.2.2.1 t'.2.2.2.1 t'.2.2.2.2 = some (O4 c (c.2.2.2.2.dropLast ++ [t'])) := by
  have hne : c.2.2.2.2 ≠ [] := fun e => by rw [e] at ht; cases ht
  have hp := List.length_pos_iff.2 hne
  have s1 := Bn c.2.2.2.2 (i := 0) (j := c.2.2.2.2.length - 1) (by omega) (by omega)
  unfold Uv
  rw [show ((0 : Nat) : Int) = 0 from rfl] at s1
  rw [show (((List.length c.2.2.2.2 : Nat) : Int) - 1) = ((c.2.2.2.2.length - 1 : Nat) : Int) by omega, Uy (by omega), s1, Option.bind_some, List.drop_zero, Ur (by simp; omega), Option.bind_some, List.nil_append, Ur (by simp; omega), Option.bind_some, ← List.dropLast_eq_take]
  rfl
def ResC (r : Option Bp) (z : Int × Int × Int × Int × List Qb × Bool) : Prop := match r with
  | some c => z = (c.1, c.2.1, c.2.2.1, c.2.2.2.1, c.2.2.2.2, true)
  | none => z.2.2.2.2.2 = false
theorem I9 {l : List Qb} {t : Qb} (hl : l.length ≤ 9000) (h : l.getLast? = some t) : idx l (IntKind.wrap .i64 (((List.length l : Nat) : Int) - 1)) = some t := by
  have hne : l ≠ [] := fun e => by rw [e] at h; cases h
  have hp := List.length_pos_iff.2 hne
  rw [show (((List.length l : Nat) : Int) - 1) = ((l.length - 1 : Nat) : Int) by omega, Uy (by omega), Hc, ← List.getLast?_eq_getElem?, h]
theorem S5 {q : List Str} {k : Str} {n m : Nat} (h : q.length ≠ n) (hm : m = n + 1) : (((List.length (k :: q) : Nat) : Int) == ((m : Nat) : Int)) = false := by
  rw [beq_eq_false_iff_ne, List.length_cons]
  omega
theorem rWith (c : Bp) (first : Bool) (k : Str) (q : List Str) (hc : Mu 0 c) (hl : q.length ≤ 8000) (hk : k.length ≤ 5000) (hw : ∀ w ∈ q, w.length ≤ 5000) :
    ∃ z, Uw c.1 c.2.1 c.2.2.1 c.2.2.2.1 c.2.2.2.2 first (k :: q) = some z ∧ ResC (if (k == Zi) == first then Dv c k q else none) z := by
  have hw' : ∀ w ∈ q, w.length ≤ 9000 := fun w hm => by have := hw w hm; omega
  have hcl : c.2.2.2.2.length ≤ 9000 := by have := hc.1; omega
  unfold Uw
  rw [show idx (k :: q) 0 = some k from rfl]
  simp only [Option.bind_some]
  cases hf : ((k == Zi) == first) with
  | false =>
    exact ⟨_, rfl, rfl⟩
  | true =>
    simp only [Bool.not_true, cond_false, if_true]
    have no3 : ∀ x : Qb, k ≠ Y2 → Zo c.1 c.2.1 c.2.2.1 c.2.2.2.1 c.2.2.2.2 (k :: q) x false = some (c.1, c.2.1, c.2.2.1, c.2.2.2.1, c.2.2.2.2, false) := by
      intro x hne
      unfold Zo
      rw [cond_false, show idx (k :: q) 0 = some k from rfl, Option.bind_some, beq_eq_false_iff_ne.2 hne]
      rfl
    have no2 : k ≠ Dt → k ≠ Y2 → ∃ z, Zp c.1 c.2.1 c.2.2.1 c.2.2.2.1 c.2.2.2.2 (k :: q) false = some z ∧ z.2.2.2.2.2 = false := by
      intro h1 h2
      unfold Zp
      rw [cond_false]
      cases ht : c.2.2.2.2.getLast? with
      | none =>
        have : c.2.2.2.2 = [] := List.getLast?_eq_none_iff.1 ht
        rw [this]
        exact ⟨_, rfl, rfl⟩
      | some t =>
        have hne : c.2.2.2.2 ≠ [] := fun e => by rw [e] at ht; cases ht
        have hp := List.length_pos_iff.2 hne
        rw [show (((List.length c.2.2.2.2 : Nat) : Int) == 0) = false by rw [beq_eq_false_iff_ne]; omega, cond_false, I9 hcl ht, Option.bind_some, show idx (k :: q) 0 = some k from rfl, Option.bind_some, beq_eq_false_iff_ne.2 h1, cond_false, no3 t h2]
        exact ⟨_, rfl, rfl⟩
    by_cases h1 : k = Zi
    · subst h1
      unfold Dv
      rw [if_pos rfl, show (Zi == ([116, 105, 109, 101, 115] : List UInt8)) = true from rfl, cond_true]
      by_cases h5 : q.length = 4
      · obtain ⟨a, b, d, e, rfl⟩ : ∃ a b d e, q = [a, b, d, e] := by
          match q, h5 with
          | [a, b, d, e], _ => exact ⟨a, b, d, e, rfl⟩
        unfold Yg
        rw [show (((List.length [Zi, a, b, d, e] : Nat) : Int) == 5) = true from rfl, cond_true, show sub [Zi, a, b, d, e] 1 ((List.length [Zi, a, b, d, e] : Nat) : Int) = some [a, b, d, e] from rfl, Option.bind_some, S4 _ (by simp) hw', Option.bind_some]
        simp only [allN]
        cases Q9 a with
        | none => exact ⟨_, rfl, rfl⟩
        | some n1 =>
          cases Q9 b with
          | none => exact ⟨_, rfl, rfl⟩
          | some n2 =>
            cases Q9 d with
            | none => exact ⟨_, rfl, rfl⟩
            | some n3 =>
              cases Q9 e with
              | none => exact ⟨_, rfl, rfl⟩
              | some n4 => exact ⟨_, rfl, rfl⟩
      · have hn : (match q with
            | [a, b, d, e] => (Q9 a).bind fun (n1 : Nat) => (Q9 b).bind fun (n2 : Nat) => (Q9 d).bind fun (n3 : Nat) => (Q9 e).map fun (n4 : Nat) => (((n1 : Int), (n2 : Int), (n3 : Int), (n4 : Int), []) : Bp)
            | _ => none) = none := by
          split
          · exact absurd rfl h5
          · rfl
        rw [hn, show (5 : Int) = ((5 : Nat) : Int) from rfl, S5 h5 rfl]
        unfold Yg
        rw [cond_false, show idx (Zi :: q) 0 = some Zi from rfl, Option.bind_some, show (Zi == ([116, 101, 110, 97, 110, 116] : List UInt8)) = false from rfl, cond_false]
        obtain ⟨z, hz, hb⟩ := no2 (by decide) (by decide)
        exact ⟨z, hz, hb⟩
    · have e1 : (k == ([116, 105, 109, 101, 115] : List UInt8)) = false := beq_eq_false_iff_ne.2 h1
      rw [e1, cond_false]
      unfold Dv
      rw [if_neg h1]
      unfold Yg
      rw [cond_false, show idx (k :: q) 0 = some k from rfl, Option.bind_some]
      by_cases h2 : k = Zs
      · subst h2
        rw [if_pos rfl, show (Zs == ([116, 101, 110, 97, 110, 116] : List UInt8)) = true from rfl, cond_true]
        by_cases h5 : q.length = 3
        · obtain ⟨a, b, d, rfl⟩ : ∃ a b d, q = [a, b, d] := by
            match q, h5 with
            | [a, b, d], _ => exact ⟨a, b, d, rfl⟩
          unfold Zp
          rw [show (((List.length [Zs, a, b, d] : Nat) : Int) == 4) = true from rfl, cond_true, show sub [Zs, a, b, d] 2 ((List.length [Zs, a, b, d] : Nat) : Int) = some [b, d] from rfl, Option.bind_some, S4 _ (by simp) (fun w hm => hw' w (by simp at hm ⊢; rcases hm with h | h <;> simp [h])), Option.bind_some]
          simp only [allN]
          cases Q9 b with
          | none => exact ⟨_, rfl, rfl⟩
          | some n =>
            cases Q9 d with
            | none => exact ⟨_, rfl, rfl⟩
            | some m =>
              simp only [Option.bind_some, Option.map_some, Bool.not_true, cond_false]
              rw [Ur (by simp; omega), Option.bind_some, show idx [Zs, a, b, d] 1 = some a from rfl, Option.bind_some, show idx [(n : Int), (m : Int)] 0 = some (n : Int) from rfl, Option.bind_some, show idx [(n : Int), (m : Int)] 1 = some (m : Int) from rfl, Option.bind_some, Ur (by simp; omega)]
              exact ⟨_, rfl, rfl⟩
        · have hn : (match q with
              | [a, b, d] => (Q9 b).bind fun (n : Nat) => (Q9 d).map fun (m : Nat) => O4 c (c.2.2.2.2 ++ [(a, (n : Int), (m : Int), [], [])])
              | _ => none) = none := by
            split
            · exact absurd rfl h5
            · rfl
          rw [hn, show (4 : Int) = ((4 : Nat) : Int) from rfl, S5 h5 rfl]
          obtain ⟨z, hz, hb⟩ := no2 (by decide) (by decide)
          exact ⟨z, hz, hb⟩
      · have e2 : (k == ([116, 101, 110, 97, 110, 116] : List UInt8)) = false := beq_eq_false_iff_ne.2 h2
        rw [e2, cond_false, if_neg h2]
        by_cases h3 : k = Dt
        · subst h3
          rw [if_pos rfl]
          unfold Zp
          rw [cond_false]
          cases ht : c.2.2.2.2.getLast? with
          | none =>
            have : c.2.2.2.2 = [] := List.getLast?_eq_none_iff.1 ht
            rw [this]
            refine ⟨_, rfl, ?_⟩
            have hn : (match q with
                | [a] => (none : Option Qb).bind fun t => if t.2.2.2.2 = [] then (Pz a).map fun n => O4 c (([] : List Qb).dropLast ++ [F6 t ((n.1 : Int), (n.2 : Int))]) else none
                | _ => none) = none := by
              split <;> rfl
            rw [hn]
            rfl
          | some t =>
            have hne : c.2.2.2.2 ≠ [] := fun e => by rw [e] at ht; cases ht
            have hp := List.length_pos_iff.2 hne
            obtain ⟨b1, b2, b3, b4, b5⟩ := hc.2 t (List.mem_of_getLast? ht)
            rw [show (((List.length c.2.2.2.2 : Nat) : Int) == 0) = false by rw [beq_eq_false_iff_ne]; omega, cond_false, I9 hcl ht, Option.bind_some, show idx (Dt :: q) 0 = some Dt from rfl, Option.bind_some, show (Dt == ([110, 101, 116] : List UInt8)) = true from rfl, cond_true]
            by_cases h5 : q.length = 1
            · obtain ⟨a, rfl⟩ : ∃ a, q = [a] := by
                match q, h5 with
                | [a], _ => exact ⟨a, rfl⟩
              rw [show (((List.length [Dt, a] : Nat) : Int) == 2) = true from rfl, cond_true]
              by_cases h6 : t.2.2.2.2 = []
              · simp only [Option.bind_some]
                rw [if_pos h6, show (((List.length t.2.2.2.2 : Nat) : Int) == 0) = true by rw [h6]; rfl]
                unfold Zo
                rw [cond_true, show idx [Dt, a] 1 = some a from rfl, Option.bind_some, rNet a (hw' a (by simp)), Option.bind_some, Ur (by simp; omega), Option.bind_some, Ur (by simp; omega), Option.bind_some]
                have hla := rLast c t (F6 t ((netD (Pz a)).1, (netD (Pz a)).2.1)) hcl ht
                unfold F6 at hla
                simp only [List.nil_append]
                rw [hla]
                cases Pz a with
                | none => exact ⟨_, rfl, rfl⟩
                | some n => exact ⟨_, rfl, rfl⟩
              · simp only [Option.bind_some]
                rw [if_neg h6, show (((List.length t.2.2.2.2 : Nat) : Int) == 0) = false by rw [beq_eq_false_iff_ne]; have := List.length_pos_iff.2 h6; omega, no3 t (by decide)]
                exact ⟨_, rfl, rfl⟩
            · have hn : (match q with
                  | [a] => (some t).bind fun t => if t.2.2.2.2 = [] then (Pz a).map fun n => O4 c (c.2.2.2.2.dropLast ++ [F6 t ((n.1 : Int), (n.2 : Int))]) else none
                  | _ => none) = none := by
                split
                · exact absurd rfl h5
                · rfl
              rw [hn, show (2 : Int) = ((2 : Nat) : Int) from rfl, S5 h5 rfl, cond_false, no3 t (by decide)]
              exact ⟨_, rfl, rfl⟩
        · rw [if_neg h3]
          by_cases h4 : k = Y2
          · subst h4
            rw [if_pos rfl]
            unfold Zp
            rw [cond_false]
            cases ht : c.2.2.2.2.getLast? with
            | none =>
              have : c.2.2.2.2 = [] := List.getLast?_eq_none_iff.1 ht
              rw [this]
              refine ⟨_, rfl, ?_⟩
              have hn : (match q with
                  | [a, b, d] => (none : Option Qb).bind fun t => (N5 b).bind fun x => (Q9 d).map fun (n : Nat) => O4 c (([] : List Qb).dropLast ++ [F7 t (a, x, (n : Int))])
                  | _ => none) = none := by
                split <;> rfl
              rw [hn]
              rfl
            | some t =>
              have hne : c.2.2.2.2 ≠ [] := fun e => by rw [e] at ht; cases ht
              have hp := List.length_pos_iff.2 hne
              obtain ⟨b1, b2, b3, b4, b5⟩ := hc.2 t (List.mem_of_getLast? ht)
              rw [show (((List.length c.2.2.2.2 : Nat) : Int) == 0) = false by rw [beq_eq_false_iff_ne]; omega, cond_false, I9 hcl ht, Option.bind_some, show idx (Y2 :: q) 0 = some Y2 from rfl, Option.bind_some, show (Y2 == ([110, 101, 116] : List UInt8)) = false from rfl, cond_false]
              unfold Zo
              rw [cond_false, show idx (Y2 :: q) 0 = some Y2 from rfl, Option.bind_some, show (Y2 == ([116, 111, 107, 101, 110] : List UInt8)) = true from rfl, cond_true]
              by_cases h5 : q.length = 3
              · obtain ⟨a, b, d, rfl⟩ : ∃ a b d, q = [a, b, d] := by
                  match q, h5 with
                  | [a, b, d], _ => exact ⟨a, b, d, rfl⟩
                unfold Un
                rw [show (((List.length [Y2, a, b, d] : Nat) : Int) == 4) = true from rfl, cond_true, show idx [Y2, a, b, d] 2 = some b from rfl, Option.bind_some, ref_unhex b (by have := hw' b (by simp); omega), Option.bind_some, show idx [Y2, a, b, d] 3 = some d from rfl, Option.bind_some, Om d (by have := hw' d (by simp); unfold maxLen; omega), Option.bind_some,
                  Ur (by simp; omega), Option.bind_some, show idx [Y2, a, b, d] 1 = some a from rfl, Option.bind_some, Ur (by simp; omega), Option.bind_some]
                have hla := rLast c t (F7 t (a, (Oz (N5 b)).1, (U0 (Q9 d)).1)) hcl ht
                unfold F7 at hla
                simp only [List.nil_append]
                rw [hla]
                cases N5 b with
                | none => exact ⟨_, rfl, rfl⟩
                | some x =>
                  cases Q9 d with
                  | none => exact ⟨_, rfl, rfl⟩
                  | some n => exact ⟨_, rfl, rfl⟩
              · have hn : (match q with
                    | [a, b, d] => (some t).bind fun t => (N5 b).bind fun x => (Q9 d).map fun (n : Nat) => O4 c (c.2.2.2.2.dropLast ++ [F7 t (a, x, (n : Int))])
                    | _ => none) = none := by
                  split
                  · exact absurd rfl h5
                  · rfl
                rw [hn, show (4 : Int) = ((4 : Nat) : Int) from rfl, S5 h5 rfl]
                exact ⟨_, rfl, rfl⟩
          · rw [if_neg h4]
            obtain ⟨z, hz, hb⟩ := no2 h3 h4
            exact ⟨z, hz, hb⟩
end Go.Proofs.YtoflbpmbkmephaaGreatDoor
namespace Go.Proofs.YtoflbpmbkmephaaGreatDoor
open Go.RowKit
def P5 (c : Bp) (first : Bool) (ws : List Str) : Option Bp := match ws with
  | [] => none
  | k :: q => if (k == Zi) == first then (Dv c k q).filter okC else none
theorem O5 (q2 q3 q4 q5 q7 : Int) (q8 : Bool) (p : Str) (hp : p.length ≤ 9000) : V2 q2 q3 q4 q5 q7 q8 p = some ((U0 (Q9 p)).1, q2, q3, q4, q5, q7, q8 || !(U0 (Q9 p)).2) := by
  unfold V2 Ua
  rw [lParse p (by omega), Option.bind_some]
  cases q8 <;> rfl
def ResP (r : Option Bp) (many : Nat) (z : Int × Int × Int × Int × List Qb × Int × Bool) : Prop := match r with
  | some c => z = (c.1, c.2.1, c.2.2.1, c.2.2.2.1, c.2.2.2.2, (many : Int), false)
  | none => z.2.2.2.2.2.2 = true
theorem L1 {β : Type} {l : List Qb} {t : Qb} (f : List Qb → Qb → List Qb → Option β) (h : l.getLast? = some t) : Tu l f = f l.dropLast t l := by
  unfold Tu lastT
  rw [h]
  rfl
theorem S6 (c : Bp) {t : Qb} (m : Int) (b : Bool) (hl : c.2.2.2.2.length ≤ 9000) (h : c.2.2.2.2.getLast? = some t) : Jm c.1 c.2.1 c.2.2.1 c.2.2.2.1 c.2.2.2.2 m b = some () := by
  have hne : c.2.2.2.2 ≠ [] := fun e => by rw [e] at h; cases h
  have hp := List.length_pos_iff.2 hne
  unfold Jm
  rw [show (((List.length c.2.2.2.2 : Nat) : Int) == 0) = false by rw [beq_eq_false_iff_ne]; omega, cond_false, I9 hl h]
  rfl
theorem P6 (c : Bp) (a b d e : Str) : Dv c Zi [a, b, d, e] = (Q9 a).bind fun (n1 : Nat) => (Q9 b).bind fun (n2 : Nat) => (Q9 d).bind fun (n3 : Nat) => (Q9 e).map fun (n4 : Nat) => ((n1 : Int), (n2 : Int), (n3 : Int), (n4 : Int), []) := by
  unfold Dv
  rw [if_pos rfl]
theorem O6 (c : Bp) (a b d : Str) : Dv c Zs [a, b, d] = (Q9 b).bind fun (n : Nat) => (Q9 d).map fun (m : Nat) => O4 c (c.2.2.2.2 ++ [(a, (n : Int), (m : Int), [], [])]) := by
  unfold Dv
  rw [if_neg (by decide), if_pos rfl]
theorem withC_net (c : Bp) (a : Str) : Dv c Dt [a] = c.2.2.2.2.getLast?.bind fun t => if t.2.2.2.2 = [] then (Pz a).map fun n => O4 c (c.2.2.2.2.dropLast ++ [F6 t ((n.1 : Int), (n.2 : Int))]) else none := by
  unfold Dv
  rw [if_neg (by decide), if_neg (by decide), if_pos rfl]
theorem P7 (c : Bp) (a b d : Str) : Dv c Y2 [a, b, d] = c.2.2.2.2.getLast?.bind fun t => (N5 b).bind fun x => (Q9 d).map fun (n : Nat) => O4 c (c.2.2.2.2.dropLast ++ [F7 t (a, x, (n : Int))]) := by
  unfold Dv
  rw [if_neg (by decide), if_neg (by decide), if_neg (by decide), if_pos rfl]
theorem pRead (c : Bp) (many : Nat) (k : Str) (q : List Str) (hc : Mu 0 c) (hm : many = 0 → c = c0C) (hk : cin k = true) (hlen : ((List.length (k :: q) : Nat) : Int) = Bt k) (hw : ∀ w ∈ q, w.length ≤ 5000) :
    ∃ z, Ky k c.1 c.2.1 c.2.2.1 c.2.2.2.1 c.2.2.2.2 (many : Int) false (k :: q) = some z ∧ ResP (if k = Zi ∧ many ≠ 0 then none else Dv c k q) many z := by
  have hw' : ∀ w ∈ q, w.length ≤ 9000 := fun w h => by have := hw w h; omega
  have hcl : c.2.2.2.2.length ≤ 9000 := by have := hc.1; omega
  unfold Ky
  rcases Kx hk with rfl | rfl | rfl | rfl
  ·
    have h5 : q.length = 4 := by rw [List.length_cons, show Bt Zi = 5 from rfl] at hlen; omega
    obtain ⟨a, b, d, e, rfl⟩ : ∃ a b d e, q = [a, b, d, e] := by
      match q, h5 with
      | [a, b, d, e], _ => exact ⟨a, b, d, e, rfl⟩
    rw [show (Zi == Zi) = true from rfl, cond_true]
    unfold N6
    rw [show idx [Zi, a, b, d, e] 1 = some a from rfl, Option.bind_some, O5 _ _ _ _ _ _ _ (hw' a (by simp)), Option.bind_some, show idx [Zi, a, b, d, e] 2 = some b from rfl, Option.bind_some, O5 _ _ _ _ _ _ _ (hw' b (by simp)), Option.bind_some, show idx [Zi, a, b, d, e] 3 = some d from rfl, Option.bind_some, O5 _ _ _ _ _ _ _ (hw' d (by simp)), Option.bind_some, show idx [Zi, a, b, d, e] 4 = some e from rfl, Option.bind_some, O5 _ _ _ _ _ _ _ (hw' e (by simp)), Option.bind_some, Option.bind_some]
    refine ⟨_, rfl, ?_⟩
    by_cases h0 : many = 0
    · rw [if_neg (fun h => h.2 h0), hm h0]
      subst h0
      rw [P6]
      cases Q9 a with
      | none => exact (by simp [ResP, U0])
      | some n1 =>
        cases Q9 b with
        | none => exact (by simp [ResP, U0])
        | some n2 =>
          cases Q9 d with
          | none => exact (by simp [ResP, U0])
          | some n3 =>
            cases Q9 e with
            | none => exact (by simp [ResP, U0])
            | some n4 => rfl
    · rw [if_pos ⟨rfl, h0⟩, show decide ((many : Int) > 0) = true from decide_eq_true (by omega)]
      simp [ResP]
  ·
    have h5 : q.length = 3 := by rw [List.length_cons, show Bt Zs = 4 from rfl] at hlen; omega
    obtain ⟨a, b, d, rfl⟩ : ∃ a b d, q = [a, b, d] := by
      match q, h5 with
      | [a, b, d], _ => exact ⟨a, b, d, rfl⟩
    rw [show (Zs == Zi) = false from rfl, cond_false, show (Zs == Zs) = true from rfl, cond_true, if_neg (fun h => absurd h.1 (by decide))]
    rw [O6]
    unfold Np
    rw [show idx [Zs, a, b, d] 1 = some a from rfl, Option.bind_some, show idx [Zs, a, b, d] 2 = some b from rfl, Option.bind_some, O5 _ _ _ _ _ _ _ (hw' b (by simp)), Option.bind_some, show idx [Zs, a, b, d] 3 = some d from rfl, Option.bind_some, O5 _ _ _ _ _ _ _ (hw' d (by simp)), Option.bind_some, Ur (by simp; omega), Option.bind_some]
    refine ⟨_, rfl, ?_⟩
    cases Q9 b with
    | none => exact (by simp [ResP, U0])
    | some n =>
      cases Q9 d with
      | none => exact (by simp [ResP, U0])
      | some m => rfl
  ·
    have h5 : q.length = 1 := by rw [List.length_cons, show Bt Dt = 2 from rfl] at hlen; omega
    obtain ⟨a, rfl⟩ : ∃ a, q = [a] := by
      match q, h5 with
      | [a], _ => exact ⟨a, rfl⟩
    rw [show (Dt == Zi) = false from rfl, cond_false, show (Dt == Zs) = false from rfl, cond_false, show (Dt == Dt) = true from rfl, cond_true, if_neg (fun h => absurd h.1 (by decide))]
    rw [withC_net]
    unfold Gu
    rw [show idx [Dt, a] 1 = some a from rfl, Option.bind_some, lNet a (hw' a (by simp)), Option.bind_some]
    cases ht : c.2.2.2.2.getLast? with
    | none =>
      have h0 : c.2.2.2.2 = [] := List.getLast?_eq_none_iff.1 ht
      rw [h0]
      exact ⟨_, rfl, rfl⟩
    | some t =>
      have hne : c.2.2.2.2 ≠ [] := fun e => by rw [e] at ht; cases ht
      obtain ⟨b1, b2, b3, b4, b5⟩ := hc.2 t (List.mem_of_getLast? ht)
      rw [show List.isEmpty c.2.2.2.2 = false by rw [List.isEmpty_eq_false_iff]; exact hne, cond_false, S6 c _ _ hcl ht, Option.bind_some, L1 _ ht]
      unfold Yz
      rw [Ur (by simp; omega)]
      simp only [Option.bind_some, cond_false]
      cases Pz a with
      | none => exact ⟨_, rfl, by split <;> rfl⟩
      | some n =>
        by_cases h6 : t.2.2.2.2 = []
        · rw [if_pos h6, show decide (((List.length t.2.2.2.2 : Nat) : Int) > 0) = false by rw [h6]; rfl]
          exact ⟨_, rfl, rfl⟩
        · rw [if_neg h6, show decide (((List.length t.2.2.2.2 : Nat) : Int) > 0) = true from decide_eq_true (by have := List.length_pos_iff.2 h6; omega)]
          exact ⟨_, rfl, rfl⟩
  ·
    have h5 : q.length = 3 := by rw [List.length_cons, show Bt Y2 = 4 from rfl] at hlen; omega
    obtain ⟨a, b, d, rfl⟩ : ∃ a b d, q = [a, b, d] := by
      match q, h5 with
      | [a, b, d], _ => exact ⟨a, b, d, rfl⟩
    rw [show (Y2 == Zi) = false from rfl, cond_false, show (Y2 == Zs) = false from rfl, cond_false, show (Y2 == Dt) = false from rfl, cond_false, if_neg (fun h => absurd h.1 (by decide))]
    rw [P7]
    unfold N7
    rw [show idx [Y2, a, b, d] 2 = some b from rfl, Option.bind_some, Tr b (by have := hw' b (by simp); omega), Option.bind_some, cond_false]
    cases ht : c.2.2.2.2.getLast? with
    | none =>
      have h0 : c.2.2.2.2 = [] := List.getLast?_eq_none_iff.1 ht
      unfold X6 Um
      rw [h0]
      simp only [List.isEmpty_nil, cond_true, List.length_nil, Option.bind_some]
      rw [show (((0 : Nat) : Int) == 0) = true from rfl, cond_true, Option.bind_some, show idx [Y2, a, b, d] 1 = some a from rfl, Option.bind_some, show idx [Y2, a, b, d] 3 = some d from rfl, Option.bind_some, O5 _ _ _ _ _ _ _ (hw' d (by simp)), Option.bind_some, Ur (by simp), Option.bind_some]
      exact ⟨_, rfl, rfl⟩
    | some t =>
      have hne : c.2.2.2.2 ≠ [] := fun e => by rw [e] at ht; cases ht
      obtain ⟨b1, b2, b3, b4, b5⟩ := hc.2 t (List.mem_of_getLast? ht)
      unfold X6
      rw [show List.isEmpty c.2.2.2.2 = false by rw [List.isEmpty_eq_false_iff]; exact hne, cond_false, S6 c _ _ hcl ht, Option.bind_some, L1 _ ht, show idx [Y2, a, b, d] 1 = some a from rfl, Option.bind_some, show idx [Y2, a, b, d] 3 = some d from rfl, Option.bind_some, O5 _ _ _ _ _ _ _ (hw' d (by simp)), Option.bind_some, Ur (by simp; omega), Option.bind_some]
      refine ⟨_, rfl, ?_⟩
      cases N5 b with
      | none => exact (by simp [ResP, Oz])
      | some x =>
        cases Q9 d with
        | none => exact (by simp [ResP, Oz, U0])
        | some n => rfl
theorem cin_not {k : Str} (h : cin k = false) (c : Bp) (q : List Str) : Dv c k q = none := by
  unfold cin at h
  rw [Bool.or_eq_false_iff, Bool.or_eq_false_iff, Bool.or_eq_false_iff] at h
  obtain ⟨h1, h2, h3, h4⟩ := h
  unfold Dv
  rw [if_neg (by simpa using h1), if_neg (by simpa using h2), if_neg (by simpa using h3), if_neg (by simpa using h4)]
theorem len_not {k : Str} (hk : cin k = true) {q : List Str} (h : ((List.length (k :: q) : Nat) : Int) ≠ Bt k) (c : Bp) : Dv c k q = none := by
  unfold Dv
  rcases Kx hk with rfl | rfl | rfl | rfl
  · rw [if_pos rfl]
    split
    · exact absurd rfl h
    · rfl
  · rw [if_neg (by decide), if_pos rfl]
    split
    · exact absurd rfl h
    · rfl
  · rw [if_neg (by decide), if_neg (by decide), if_pos rfl]
    split
    · exact absurd rfl h
    · rfl
  · rw [if_neg (by decide), if_neg (by decide), if_neg (by decide), if_pos rfl]
    split
    · exact absurd rfl h
    · rfl
theorem first_not {k : Str} {q : List Str} {c' : Bp} (hk : k ≠ Zi) (h : Dv c0C k q = some c') : okC c' = false := by
  have hz : c'.1 = 0 := by
    unfold Dv at h
    rw [if_neg hk] at h
    split at h
    · split at h
      · simp only [Option.bind_eq_some_iff, Option.map_eq_some_iff] at h
        obtain ⟨_, _, _, _, rfl⟩ := h
        rfl
      · cases h
    · split at h
      · split at h <;> cases h
      · split at h
        · split at h <;> cases h
        · cases h
  unfold okC Ok
  rw [hz, show G0 0 = false from rfl, Bool.false_and, Bool.false_and]
def ResL (r : Option Bp) (many : Nat) (z : Bool × Int × Int × Int × Int × List Qb × Int × Bool) : Prop := match r with
  | some c => z = (true, c.1, c.2.1, c.2.2.1, c.2.2.2.1, c.2.2.2.2, ((many + 1 : Nat) : Int), false)
  | none => z.1 = false
theorem pLineB (c : Bp) (many : Nat) (p : Str) (hc : Mu 0 c) (hm : many = 0 → c = c0C) (hmm : many ≤ 1000000) (hp : p.length ≤ 5000) :
    ∃ z, Ys c.1 c.2.1 c.2.2.1 c.2.2.2.1 c.2.2.2.2 (many : Int) false (p ++ [10]) = some z ∧ ResL (P5 c (decide (many = 0)) (Q3 32 p)) many z := by
  have hl := Rr 32 p
  unfold Ys
  rw [lSfx 10 (p ++ [10]) (by simp; omega), Option.bind_some, show sfx 10 (p ++ [10]) = (p, true) by simp [sfx], lSplit p 32 (by omega), Option.bind_some, show R6 = some () from rfl, Option.bind_some]
  cases hs : Q3 32 p with
  | nil => exact absurd hs (U2 32 p)
  | cons k q =>
    rw [hs] at hl
    rw [show idx (k :: q) 0 = some k from rfl, Option.bind_some]
    show ∃ z, _ ∧ ResL (if (k == Zi) == decide (many = 0) then (Dv c k q).filter okC else none) many z
    cases hk : cin k with
    | false =>
      rw [cond_false, cin_not hk]
      refine ⟨_, rfl, ?_⟩
      split <;> rfl
    | true =>
      rw [cond_true]
      simp only [Bool.not_true, cond_false]
      by_cases hlen : ((List.length (k :: q) : Nat) : Int) = Bt k
      · rw [show (((List.length (k :: q) : Nat) : Int) != Bt k) = false by rw [bne_eq_false_iff_eq]; exact hlen]
        unfold Jv
        rw [cond_false]
        have hq : ∀ w ∈ q, w.length ≤ 5000 := fun w h => Nat.le_trans (hl w (by simp [h])) hp
        obtain ⟨z, hz, hr⟩ := pRead c many k q hc hm hk hlen hq
        rw [hz, Option.bind_some, Option.bind_some]
        unfold Ju
        by_cases hb : k = Zi ∧ many ≠ 0
        · rw [if_pos hb] at hr
          have hr : z.2.2.2.2.2.2 = true := hr
          rw [hr, if_neg (by simp [hb.1, hb.2])]
          exact ⟨_, rfl, rfl⟩
        · rw [if_neg hb] at hr
          cases hw : Dv c k q with
          | none =>
            rw [hw] at hr
            have hr : z.2.2.2.2.2.2 = true := hr
            rw [hr]
            refine ⟨_, rfl, ?_⟩
            split <;> rfl
          | some c' =>
            rw [hw] at hr
            have hr : z = (c'.1, c'.2.1, c'.2.2.1, c'.2.2.2.1, c'.2.2.2.2, (many : Int), false) := hr
            subst hr
            have hbn := Mq hc hq hw
            simp only [Bool.not_false, cond_true]
            rw [pCfg hbn, Option.bind_some, show ((many : Int) + 1) = ((many + 1 : Nat) : Int) by omega, Uy (by omega)]
            refine ⟨_, rfl, ?_⟩
            by_cases hf : ((k == Zi) == decide (many = 0)) = true
            · rw [if_pos hf]
              cases ho : okC c' with
              | false => rw [Option.filter_some_neg (by simp [ho])]; first | done | rfl
              | true => rw [Option.filter_some_pos ho]; rfl
            · rw [if_neg hf]
              have h0 : many = 0 ∧ k ≠ Zi := by
                by_cases h0 : many = 0
                · refine ⟨h0, fun e => hf (by rw [e, decide_eq_true h0]; rfl)⟩
                · refine absurd ?_ hf
                  rw [decide_eq_false h0, beq_eq_false_iff_ne.2 (fun e => hb ⟨e, h0⟩)]
                  rfl
              rw [hm h0.1] at hw
              exact first_not h0.2 hw
      · rw [show (((List.length (k :: q) : Nat) : Int) != Bt k) = true by rw [bne_iff_ne]; exact hlen, len_not hk hlen]
        refine ⟨_, rfl, ?_⟩
        split <;> rfl
theorem pLineE (c : Bp) (many : Int) (p : Str) (hp : p.length ≤ 5000) (h10 : p.getLast? ≠ some 10) : ∃ z, Ys c.1 c.2.1 c.2.2.1 c.2.2.2.1 c.2.2.2.2 many false p = some z ∧ z.1 = false := by
  unfold Ys
  rw [lSfx 10 p (by omega), Option.bind_some, show sfx 10 p = (p, false) by simp [sfx, h10], lSplit p 32 (by omega), Option.bind_some, show R6 = some () from rfl, Option.bind_some]
  cases hs : Q3 32 p with
  | nil => exact absurd hs (U2 32 p)
  | cons k q =>
    rw [show idx (k :: q) 0 = some k from rfl, Option.bind_some]
    cases cin k with
    | false => exact ⟨_, rfl, rfl⟩
    | true => exact ⟨_, rfl, rfl⟩
end Go.Proofs.YtoflbpmbkmephaaGreatDoor
namespace Go.Proofs.YtoflbpmbkmephaaGreatDoor
open Go.RowKit Go.Shelf
attribute [local go_sem] Oper.semAt_some
def bodyKeep {α : Type} (K : List Nat) (I : List α → World → Prop) (Ix : Code → List α → World → Prop) (xs : List α) (W : World) : Exit → Act → World → Prop
  | .normal, _, W' => (∀ k ∈ K, W'.heap[k]? = W.heap[k]?) ∧ I xs W'
  | .ret, _, W' => (∀ k ∈ K, W'.heap[k]? = W.heap[k]?) ∧ Ix .ret xs W'
  | .exit id, _, W' => (∀ k ∈ K, W'.heap[k]? = W.heap[k]?) ∧ Ix (.exit id) xs W'
  | .goto t, _, W' => (∀ k ∈ K, W'.heap[k]? = W.heap[k]?) ∧ Ix (.goto t) xs W'
  | _, _, _ => False
def SeqKeep {α : Type} (P : Program) (m gf : Nat) (lb : Array Value) (encs : α → Array Value) (T : List Nat) (S : List α) (w : World) : Prop :=
  ∀ (l : Nat) (J Jx : List α → World → Prop) (W : World),
    (∀ pre W1 k (v : Value), k ∈ T → J pre W1 → J pre (W1.setCell ⟨k, 0, none⟩ v)) → (∀ pre W1, J pre W1 → J pre W1.drew) →
    (∀ pre x W1, J pre W1 → (∃ q, pre ++ x :: q = S) → YieldAt Fence.wide (m - 1) P l (encs x) W1 fun e W' =>
      (e = .returned (.bool true) ∧ J (pre ++ [x]) W' ∧ ∀ k ∈ T, W'.heap[k]? = W1.heap[k]?) ∨ (e = .returned (.bool false) ∧ Jx (pre ++ [x]) W')) →
    (∀ k ∈ T, W.heap[k]? = w.heap[k]?) → J [] W →
    CallsIn Fence.wide m P gf (#[.func (.yield l) #[] #[]] ++ lb) W fun e W' => (∃ v, e = .returned v) ∧ (J S W' ∨ ∃ pre, pre <+: S ∧ Jx pre W')
theorem Tv {α : Type} {P : Program} {g : Operand} {ps : Array Tmp} {assign body : Code} {Q : Exit → Act → World → Prop} {a : Act} {w : World} {m gf : Nat} {lb : Array Value}
    (hg : a.eval g = .func (.func gf) #[] lb) (eg : ∀ args w, (callFunc gf args).run P w = .ok (.enter gf args) w) {encs : α → Array Value} (hps : ∀ x, (encs x).size = ps.size)
    (T : List Nat) (hT : ∀ k ∈ T, k < w.heap.size) {S : List α} (iter : SeqKeep P (m - 1) gf lb encs T S w)
    (I : List α → World → Prop) (Ix : Code → List α → World → Prop) (hI : ∀ xs W W', I xs W → Mod (T ++ [w.heap.size, w.heap.size + 1]) W W' → I xs W') (hIx : ∀ c xs W W', Ix c xs W → Mod (T ++ [w.heap.size, w.heap.size + 1]) W W' → Ix c xs W')
    (h0 : I [] w) (a₁ : α → Act)
    (hassign : ∀ (l : Nat) (x : α) (W : World) (K : Act → World → Prop), K (a₁ x) W →
      assign.wpIn (Fence.wide.inRound l) (m - 1 - 1) P (Exit.then K (fun _ _ _ => False)) { tmps := (ps.zip (encs x)).foldl (fun t (p, v) => t.setIfInBounds p v) a.tmps, defers := [] } W)
    (hbody : ∀ (l : Nat) (pre : List α) (x : α) (W : World), I pre W → w.heap.size + 2 ≤ W.heap.size → (∃ q, pre ++ x :: q = S) → body.wpIn (Fence.wide.inRound l) (m - 1 - 1) P (bodyKeep (T ++ [w.heap.size, w.heap.size + 1]) I Ix (pre ++ [x]) W) (a₁ x) W)
    (hdone : ∀ (W : World), I S W → W.heap[w.heap.size]? = some (.deferred (some [])) → Q .normal { a with defers := { target := .collected w.heap.size, args := #[] } :: a.defers } W)
    (hstop : ∀ (c : Code) (pre : List α) (W : World), pre <+: S → Ix c pre W → W.heap[w.heap.size]? = some (.deferred (some [])) → c.wpIn Fence.wide m P Q { a with defers := { target := .collected w.heap.size, args := #[] } :: a.defers } W) :
    (Code.rangeFunc g ps assign body).wpIn Fence.wide m P Q a w := by
  refine wpIn_rangeFunc fun fn _ => ?_
  have hnT : ∀ j, w.heap.size ≤ j → j ∉ T := fun j hj hm => by have := hT j hm; omega
  generalize hrec : (fun st pe => ({ state := st, pending := pe, fn, tmps := a.tmps, params := ps, assign, body, defers := w.heap.size } : Loop)) = rec
  have hr1 : ∀ st pe, (rec st pe).state = st := fun st pe => by rw [← hrec]
  generalize hW1 : (w.alloc (.deferred (some []))).alloc (.loop (rec .ready none)) = W1
  have hmod1 : Mod (T ++ [w.heap.size, w.heap.size + 1]) w W1 := by rw [← hW1]; exact ((Mod.refl _ w).alloc _).alloc _
  have hL1 : W1.heap[w.heap.size + 1]? = some (.loop (rec .ready none)) := by
    rw [← hW1]
    have := World.alloc_heap_new (w.alloc (.deferred (some []))) (.loop (rec .ready none))
    rwa [World.size_alloc] at this
  have hK1 : W1.heap[w.heap.size]? = some (.deferred (some [])) := by
    rw [← hW1]
    exact (Below.heap_alloc _ _ _ (by simp)).trans (World.alloc_heap_new w _)
  have pb : ∀ (W : World) (o : Obj), Mod (T ++ [w.heap.size, w.heap.size + 1]) W (W.putObj (w.heap.size + 1) o) := fun W o => (Db W _ o).more (by simp)
  refine ⟨w.heap.size + 1, [{ target := .collected w.heap.size, args := #[] }], W1, { target := .fn (.func gf) lb, args := #[.func (.yield (w.heap.size + 1)) #[] #[]] }, W1, gf, #[.func (.yield (w.heap.size + 1)) #[] #[]] ++ lb, W1, ?_, ?_, fun _ _ => trivial, ?_, fun h => (by cases h), ?_⟩
  · rw [← hW1, ← hrec]
    exact run_enterLoop_outer _ _ _ _ _
  · simp only [resolve, hg]
    simp [go_sem]
  · simp [invoke, go_sem, eg]
  · refine (iter (w.heap.size + 1) (fun pre W => I pre W ∧ W.heap[w.heap.size + 1]? = some (.loop (rec .ready none)) ∧ W.heap[w.heap.size]? = some (.deferred (some [])))
      (fun pre W => ∃ c, Ix c pre W ∧ W.heap[w.heap.size + 1]? = some (.loop (rec .done (some c))) ∧ W.heap[w.heap.size]? = some (.deferred (some []))) W1 ?_ ?_ ?_ ?_ ⟨hI _ _ _ h0 hmod1, hL1, hK1⟩).mono ?_
    · rintro pre W k v hk ⟨h1, h2, h3⟩
      have hlt := hT k hk
      exact ⟨hI _ _ _ h1 ((Kp W k v).more fun j hj => by
        have : j = k := by simpa using hj
        subst this
        simp [hk]), (U4 (by omega)).trans h2, (U4 (by omega)).trans h3⟩
    · rintro pre W ⟨h1, h2, h3⟩
      exact ⟨hI _ _ _ h1 (J3 ((Below.refl _ W).drew) _), h2, h3⟩
    · rintro pre x W ⟨hi, hl, hk⟩ hq
      have hlt : w.heap.size + 1 < W.heap.size := (Array.getElem?_eq_some_iff.1 hl).1
      have hy := run_yield (P := P) (args := encs x) hl (by rw [← hrec]; exact hps x)
      rw [← hrec] at hy
      dsimp only at hy
      refine ⟨fn, _, assign, body, hy, ?_⟩
      refine roundIn_of_wpIn trivial ?_
      refine hassign _ x W _ ?_
      refine ⟨_, run_beginRound hl (hr1 _ _), ?_⟩
      generalize hW2 : W.putObj (w.heap.size + 1) (.loop { rec .ready none with state := .busy }) = W2
      have hm2 : Mod (T ++ [w.heap.size, w.heap.size + 1]) W W2 := by rw [← hW2]; exact pb W _
      have hs2 : W2.heap.size = W.heap.size := by rw [← hW2]; simp
      have hl2 : W2.heap[w.heap.size + 1]? = some (.loop { rec .ready none with state := .busy }) := by rw [← hW2]; exact World.putObj_heap_same hlt
      have hk2 : W2.heap[w.heap.size]? = some (.deferred (some [])) := by rw [← hW2]; exact (World.putObj_heap_other (by omega)).trans hk
      have hT2 : ∀ k ∈ T, W2.heap[k]? = W.heap[k]? := fun k hkT => by rw [← hW2]; exact World.putObj_heap_other (by have := hT k hkT; omega)
      refine wpIn_mono (hbody _ pre x W2 (hI _ _ _ hi hm2) (by omega) hq) ?_
      have fin : ∀ (jump : Option Code) (W3 : World), (∀ k ∈ T ++ [w.heap.size, w.heap.size + 1], W3.heap[k]? = W2.heap[k]?) → ∃ W4, (Instr.endRound (w.heap.size + 1) jump).run P W3 = .ok (.bool jump.isNone) W4 ∧ Mod (T ++ [w.heap.size, w.heap.size + 1]) W3 W4 ∧
          W4.heap[w.heap.size + 1]? = some (.loop (rec (if jump.isNone then .ready else .done) jump)) ∧ W4.heap[w.heap.size]? = some (.deferred (some [])) ∧ ∀ k ∈ T, W4.heap[k]? = W.heap[k]? := fun jump W3 hk3 => by
        have hl3 : W3.heap[w.heap.size + 1]? = some (.loop { rec .ready none with state := .busy }) := (hk3 _ (by simp)).trans hl2
        have hd3 : W3.heap[w.heap.size]? = some (.deferred (some [])) := (hk3 _ (by simp)).trans hk2
        have hrun := run_endRound (P := P) jump hl3
        refine ⟨_, hrun, pb W3 _, ?_, (World.putObj_heap_other (by omega)).trans hd3, fun k hkT => ?_⟩
        · rw [World.putObj_heap_same (Array.getElem?_eq_some_iff.1 hl3).1, ← hrec]
        · have := hT k hkT
          exact (World.putObj_heap_other (by omega)).trans ((hk3 _ (by simp [hkT])).trans (hT2 k hkT))
      rintro e a3 W3 hp
      cases e with
      | normal =>
        obtain ⟨W4, h1, h2, h3, h4, h5⟩ := fin none W3 hp.1
        exact ⟨_, _, h1, .inl ⟨rfl, ⟨hI _ _ _ hp.2 h2, h3, h4⟩, h5⟩⟩
      | ret =>
        obtain ⟨W4, h1, h2, h3, h4, h5⟩ := fin (some .ret) W3 hp.1
        exact ⟨_, _, h1, .inr ⟨rfl, .ret, hIx _ _ _ _ hp.2 h2, h3, h4⟩⟩
      | exit id =>
        obtain ⟨W4, h1, h2, h3, h4, h5⟩ := fin (some (.exit id)) W3 hp.1
        exact ⟨_, _, h1, .inr ⟨rfl, .exit id, hIx _ _ _ _ hp.2 h2, h3, h4⟩⟩
      | goto t =>
        obtain ⟨W4, h1, h2, h3, h4, h5⟩ := fin (some (.goto t)) W3 hp.1
        exact ⟨_, _, h1, .inr ⟨rfl, .goto t, hIx _ _ _ _ hp.2 h2, h3, h4⟩⟩
      | panic ch => exact hp.elim
      | outgrown => exact hp.elim
    · intro k hk
      have := hT k hk
      rw [← hW1]
      exact (Below.heap_alloc _ _ _ (by simp; omega)).trans (Below.heap_alloc _ _ _ this)
    · rintro e W2 ⟨⟨v, rfl⟩, (⟨hi, hl, hk⟩ | ⟨pre, hpre, c, hi, hl, hk⟩)⟩
      · have hend := run_endLoop (P := P) hl (by rw [hr1]; simp)
        rw [show (rec .ready none).pending = none by rw [← hrec]] at hend
        exact ⟨none, _, hend, hdone _ (hI _ _ _ hi (pb W2 _)) ((World.putObj_heap_other (by omega)).trans hk)⟩
      · have hend := run_endLoop (P := P) hl (by rw [hr1]; simp)
        rw [show (rec .done (some c)).pending = some c by rw [← hrec]] at hend
        exact ⟨some c, _, hend, hstop c pre _ hpre (hIx _ _ _ _ hi (pb W2 _)) ((World.putObj_heap_other (by omega)).trans hk)⟩
end Go.Proofs.YtoflbpmbkmephaaGreatDoor
namespace Go.Proofs.YtoflbpmbkmephaaGreatDoor
open Go.RowKit Go.Shelf
attribute [local go_sem] Oper.semAt_some
def Gc : List UInt8 → List (List UInt8)
  | [] => []
  | x :: r => if x = 10 then [x] :: Gc r else match Gc r with | [] => [[x]] | p :: ps => (x :: p) :: ps
theorem P8 {s : List UInt8} (hs : s ≠ []) : (Lib.indexByte s 10 = -1 ∧ Gc s = [s] ∧ (10 : UInt8) ∉ s) ∨ ∃ i : Nat, Lib.indexByte s 10 = (i : Int) ∧ i < s.length ∧ s[i]? = some 10 ∧ (10 : UInt8) ∉ s.take i ∧ Gc s = s.take (i + 1) :: Gc (s.drop (i + 1)) := by
  induction s with
  | nil => exact absurd rfl hs
  | cons x r ih =>
    by_cases h : x = 10
    · subst h
      refine .inr ⟨0, ?_, by simp, rfl, by simp, ?_⟩
      · simp [Lib.indexByte]
      · simp [Gc]
    · have hb : (x == 10) = false := by simpa using h
      by_cases hr : r = []
      · subst hr
        refine .inl ⟨?_, ?_, ?_⟩
        · simp [Lib.indexByte, hb]
        · unfold Gc; rw [if_neg h]; rfl
        · simp; exact fun e => h e.symm
      · rcases ih hr with ⟨h1, h2, h3⟩ | ⟨i, h1, h2, h3, h4, h5⟩
        · refine .inl ⟨?_, ?_, ?_⟩
          · simp [Lib.indexByte, hb, h1]
          · unfold Gc; rw [if_neg h, h2]
          · simp [h3]; exact fun e => h e.symm
        · refine .inr ⟨i + 1, ?_, by simpa using h2, by simpa using h3, ?_, ?_⟩
          · have h0 : (Lib.indexByte r 10 == -1) = false := by rw [h1, beq_eq_false_iff_ne]; omega
            simp only [Lib.indexByte, hb, h0, h1]
            simp
          · simp [h4]; exact fun e => h e.symm
          · rw [List.take_succ_cons, List.drop_succ_cons]
            conv => lhs; unfold Gc
            rw [if_neg h, h5]
def LBox (W : World) (b : Nat) (r : List UInt8) : Prop := W.heap[b]? = some (.cells #[.string ⟨r.toArray⟩] 9 (0, 0))
theorem Er {W : World} {b : Nat} {r : List UInt8} (h : LBox W b r) : Ia W b = r.length := by
  unfold Ia
  rw [B3 h]
  exact Ra r
theorem Tw (m : Nat) (l b : Nat) (s : List UInt8) (hs : s.length ≤ maxLen) (J Jx : List (List UInt8) → World → Prop)
    (hJ : ∀ pre W1 (v : Value), J pre W1 → J pre (W1.setCell ⟨b, 0, none⟩ v)) (hJd : ∀ pre W1, J pre W1 → J pre W1.drew)
    (hY : ∀ pre x r W1, J pre W1 → LBox W1 b r → (∃ q, pre ++ x :: q = Gc s) → YieldAt Fence.wide (m - 1) Tryz.prog l #[.string ⟨x.toArray⟩] W1 fun e W' =>
      (e = .returned (.bool true) ∧ J (pre ++ [x]) W' ∧ W'.heap[b]? = W1.heap[b]?) ∨ (e = .returned (.bool false) ∧ Jx (pre ++ [x]) W'))
    (W : World) (hB : LBox W b s) (h0 : J [] W) :
    CallsIn Fence.wide m Tryz.prog 88 #[.func (.yield l) #[] #[], .pointer (some ⟨b, 0, none⟩)] W fun e W' => (∃ v, e = .returned v) ∧
      (J (Gc s) W' ∨ (∃ pre, pre <+: Gc s ∧ Jx pre W')) := by
  have c1 := B3 hB
  refine callsIn_of_wp Tryz.func88 rfl trivial ?_ rfl
  simp only [Tryz.ntmps88, List.size_toArray, List.length_cons, List.length_nil, Nat.reduceAdd, Nat.reduceSub, Array.replicate_succ, Array.replicate_zero, List.push_toArray, List.append_toArray, List.nil_append, List.cons_append]
  gi_wp2
  gi_loopw [4] (fun p wr => ∃ (pre : List (List UInt8)) (r : List UInt8), LBox wr b r ∧ pre ++ Gc r = Gc s ∧ r.length ≤ maxLen ∧ J pre wr) (fun p wr => Ia wr b)
  case atStart => exact ⟨[], s, hB, rfl, hs, h0⟩
  case round =>
    obtain ⟨pre, r, hb, hp, hr, hj⟩ := hrel
    have c1 := B3 hb
    have f1 := Cn hb
    have hrs := Ra r
    unfold maxLen at hr
    by_cases d : r = []
    · subst d
      gi_wp2
      go_end0
      exact ⟨⟨_, rfl⟩, .inl (by rw [← hp]; simpa [Gc] using hj)⟩
    · have hpos : 0 < r.length := List.length_pos_iff.2 d
      rcases P8 d with ⟨h1, h2, h3⟩ | ⟨i, h1, h2, h3, h4, h5⟩
      · have h1' : Lib.indexByte (⟨r.toArray⟩ : ByteArray).data.toList (10 : Int).toNat.toUInt8 = -1 := h1
        have a : LBox (wr.setCell ⟨b, 0, none⟩ (.string ⟨#[]⟩)) b [] := Gn hb
        obtain ⟨fn, tmps, assign, body, hy, hR⟩ := hY pre r [] (wr.setCell ⟨b, 0, none⟩ (.string ⟨#[]⟩)) (hJ _ _ _ hj) a ⟨[], by rw [← hp, h2]⟩
        gi_wp2_with (refine ⟨trivial, fun hh => (by cases hh), ?_⟩; gi_at_call 89; refine (callsIn_wide.2 (Tryz.strings_IndexByte (⟨r.toArray⟩ : ByteArray) 10 wr)).mono ?_; rintro e W3 ⟨rfl, rfl⟩; rw [h1'])
        refine ⟨fun hh => (by cases hh), ?_⟩
        refine hR.mono ?_
        rintro e W3 (⟨rfl, hJ3, hk⟩ | ⟨rfl, hJx3⟩)
        · have c : LBox W3 b [] := hk.trans a
          gi_wp2
          refine ⟨⟨pre ++ [r], [], c, by rw [← hp, h2]; simp [Gc], by simp, hJ3⟩, ?_⟩
          rw [Er c, Er hb]
          exact hpos
        · gi_wp2
          refine bodyPost_ret (results_none rfl _ _ _) rfl ?_
          exact ⟨⟨_, rfl⟩, .inr ⟨pre ++ [r], by rw [← hp, h2]; exact List.prefix_refl _, hJx3⟩⟩
      · have h1' : Lib.indexByte (⟨r.toArray⟩ : ByteArray).data.toList (10 : Int).toNat.toUInt8 = (i : Int) := h1
        gi_wp2_with (refine ⟨trivial, fun hh => (by cases hh), ?_⟩; gi_at_call 89; refine (callsIn_wide.2 (Tryz.strings_IndexByte (⟨r.toArray⟩ : ByteArray) 10 wr)).mono ?_; rintro e W3 ⟨rfl, rfl⟩; rw [h1'])
        gi_region
        have hex := Bx r 0 (i + 1) (by omega)
        rw [List.drop_zero] at hex
        have hex2 := Bx r (i + 1) r.length (Nat.le_refl _)
        rw [List.take_length] at hex2
        rw [hex, hex2]
        have a : LBox ((W3.setCell ⟨b, 0, none⟩ (.string ⟨(r.drop (i + 1)).toArray⟩)).drew) b (r.drop (i + 1)) := Gn hb
        obtain ⟨fn, tmps, assign, body, hy, hR⟩ := hY pre (r.take (i + 1)) (r.drop (i + 1)) _ (hJd _ _ (hJ _ _ _ hj)) a ⟨Gc (r.drop (i + 1)), by rw [← hp, h5]⟩
        gi_wp2
        refine ⟨fun hh => (by cases hh), ?_⟩
        refine hR.mono ?_
        rintro e W4 (⟨rfl, hJ3, hk⟩ | ⟨rfl, hJx3⟩)
        · have c : LBox W4 b (r.drop (i + 1)) := hk.trans a
          gi_wp2
          refine ⟨⟨pre ++ [r.take (i + 1)], r.drop (i + 1), c, by rw [← hp, h5]; simp, by unfold maxLen; rw [List.length_drop]; omega, hJ3⟩, ?_⟩
          rw [Er c, Er hb, List.length_drop]
          omega
        · gi_wp2
          refine bodyPost_ret (results_none rfl _ _ _) rfl ?_
          exact ⟨⟨_, rfl⟩, .inr ⟨pre ++ [r.take (i + 1)], ⟨Gc (r.drop (i + 1)), by rw [← hp, h5]; simp⟩, hJx3⟩⟩
end Go.Proofs.YtoflbpmbkmephaaGreatDoor
namespace Go.Proofs.YtoflbpmbkmephaaGreatDoor
open Go.RowKit Go.Shelf
attribute [local go_sem] Oper.semAt_some
abbrev StP := Int × Int × Int × Int × List Qb × Int × Bool
def Tx (st : StP) (x : List UInt8) : Option (Bool × StP) := Ys st.1 st.2.1 st.2.2.1 st.2.2.2.1 st.2.2.2.2.1 st.2.2.2.2.2.1 st.2.2.2.2.2.2 x
def Ro : List (List UInt8) → StP → Option (Sum Int StP)
  | [], st => some (.inr st)
  | x :: xs, st => (Tx st x).bind fun r => cond r.1 (Ro xs r.2) (some (.inl st.2.2.2.2.2.1))
theorem C7 : ∀ (pre ys : List (List UInt8)) (st : StP), Ro (pre ++ ys) st = (Ro pre st).bind fun z => match z with | .inl a => some (.inl a) | .inr st => Ro ys st
  | [], ys, st => rfl
  | x :: pre, ys, st => by
    rw [List.cons_append]
    cases h : Tx st x with
    | none => simp only [Ro, h, Option.bind_none]
    | some r =>
      obtain ⟨b, r⟩ := r
      cases b
      · simp only [Ro, h, Option.bind_some, cond_false]
      · simp only [Ro, h, Option.bind_some, cond_true]
        exact C7 pre ys r
def st0P : StP := (0, 0, 0, 0, [], 0, false)
def Y3 (s : List UInt8) : Option (Int × Int × Int × Int × List Qb × Int × Int) :=
  cond (decide (((List.length s : Nat) : Int) > 4096)) (some (0, 0, 0, 0, [], 2, 0))
    ((Ro (Gc s) st0P).bind fun z => match z with
      | .inl a => some (0, 0, 0, 0, [], 91, a)
      | .inr st => cond (st.2.2.2.2.2.1 == 0) (some (0, 0, 0, 0, [], 91, 0)) (some (st.1, st.2.1, st.2.2.1, st.2.2.2.1, st.2.2.2.2.1, 0, 0)))
theorem lines_any (s : ByteArray) (w : World) : Calls Tryz.prog 40 #[.string s] w fun e w' =>
    e = .returned (.func (.func 88) #[] #[.pointer (some ⟨w.heap.size, 0, none⟩)]) ∧ w' = w.alloc (.cells #[.string s] 9) := by
  go_enter Tryz.func40, Tryz.ntmps40
  go_wp2
  go_ret
  exact ⟨rfl, rfl⟩
theorem SP.other {w W W' : World} {es : List Ent} {K : List Nat} (h : SP [] w W es) (hm : Mod K W W') (h1 : ∀ k ∈ K, w.heap.size ≤ k) (h2 : ∀ e ∈ es, ∀ k ∈ e.fp, k ∉ K) : SP [] w W' es :=
  ⟨⟨hm.os.trans h.mod.os, hm.tape.trans h.mod.tape, hm.output.trans h.mod.output, Nat.le_trans h.mod.size hm.size, fun k hk hn => (hm.block k (Nat.lt_of_lt_of_le hk h.mod.size) fun hk' => by have := h1 k hk'; omega).trans (h.mod.block k hk hn)⟩,
    h.own.keep hm.size fun e he k hk => hm.block k (h.own.mem he |>.2 k hk).2 (h2 e he k hk)⟩
theorem SP.nilten {S : List Nat} {w W : World} {es : List Ent} (h : SP S w W es) : SP S w W (es ++ [Da none 0 []]) :=
  h.push (Below.refl _ _) ⟨World.ownsRow_nil W 0 _ _, ⟨fun y hy => (by cases hy), List.nodup_nil⟩, List.nodup_nil⟩ (fun k hk => (by cases hk))
theorem Bb {fn : Func} {P : Program} {w : World} {a b c : Tmp} {ta tb tc : TypeId} (h : fn.results = #[.cell a ta, .cell b tb, .cell c tc]) (tmps : Array Value) {g1 g2 g3 : Nat} {c1 c2 c3 : Array Value} {e1 e2 e3 : TypeId} {v1 v2 v3 : Value}
    (t1 : tmps.getD a undef = .pointer (some ⟨g1, 0, none⟩)) (t2 : tmps.getD b undef = .pointer (some ⟨g2, 0, none⟩)) (t3 : tmps.getD c undef = .pointer (some ⟨g3, 0, none⟩))
    (h1 : w.heap[g1]? = some (.cells c1 e1 (0, 0))) (h2 : w.heap[g2]? = some (.cells c2 e2 (0, 0))) (h3 : w.heap[g3]? = some (.cells c3 e3 (0, 0))) (l1 : K9 P ta 0 c1 = some v1) (l2 : K9 P tb 0 c2 = some v2) (l3 : K9 P tc 0 c3 = some v3) :
    (results fn tmps).run P w = .ok (.tuple #[v1, v2, v3]) w := by
  have k1 := Bu (w := w) l1 h1
  have k2 := Bu (w := w) l2 h2
  have k3 := Bu (w := w) l3 h3
  have t1' : tmps[a]?.getD undef = .pointer (some ⟨g1, 0, none⟩) := by simpa using t1
  have t2' : tmps[b]?.getD undef = .pointer (some ⟨g2, 0, none⟩) := by simpa using t2
  have t3' : tmps[c]?.getD undef = .pointer (some ⟨g3, 0, none⟩) := by simpa using t3
  simp [results, h, t1', t2', t3', asAddr, Sem.run_bind, Result.andThen, k1, k2, k3]
theorem SP.cell1 {S : List Nat} {w w0 : World} {es : List Ent} {i g off : Nat} {t : TypeId} {cs : Array Value} (v : Value) (hs : SP S w0 w es) (hi : es[i]? = some (Qs g t cs)) : SP S w0 (w.setCell ⟨g, off, none⟩ v) (es.set i (Qs g t (cs.setIfInBounds off v))) := by
  have hg : w.heap[g]? = some (.cells cs t (0, 0)) := hs.get hi
  have hlt : g < w.heap.size := (Array.getElem?_eq_some_iff.1 hg).1
  refine hs.set hi (T := [g]) ((Mod.refl [g] w).setCell (p := ⟨g, off, none⟩) (.inl (by simp)) _) (fun k hk => hk) ?_ fun k hk => ⟨.inl hk, ?_⟩
  · show (w.setCell ⟨g, off, none⟩ _).heap[g]? = _
    simp [World.setCell, hg, Array.getElem?_modify]
  · have : k = g := by simpa [Qs] using hk
    subst this
    simpa [World.setCell] using hlt
theorem R7 {W : World} {b off : Nat} {cs : Array Value} {v : Value} {t : TypeId} (h : W.heap[b]? = some (.cells cs t (0, 0))) (hv : cs[off]? = some v) : W.cell? ⟨b, off, none⟩ = some v := by rw [cell_of_row W b off _ t _ h]; exact hv
theorem Rf {W : World} {b off : Nat} {cs : Array Value} {t : TypeId} (h : W.heap[b]? = some (.cells cs t (0, 0))) : W.frozen? ⟨b, off, none⟩ = false := by simp [World.frozen?, h]
theorem Xe {W : World} {b off k : Nat} {v : Value} (h : k ≠ b) : (W.setCell ⟨b, off, none⟩ v).heap[k]? = W.heap[k]? := by
  simp [World.setCell, Array.getElem?_modify, Ne.symm h]
theorem alloc_at' {w : World} {o : Obj} {k : Nat} (h : k = w.heap.size) : (w.alloc o).heap[k]? = some o := by subst h; exact World.alloc_heap_new w o
def cfg0 : Array Value := #[.int .i64 0, .int .i64 0, .int .i64 0, .int .i64 0, .slice none 0 0]
def O7 (g : Nat) (st : StP) (A : Option Addr) (c : Nat) (d : List Qg) : List Ent :=
  [Qs g 24 cfg0, Qs (g + 1) 27 #[.int .i64 0], Qs (g + 1 + 1) 3 #[.int .i64 0],
    Qs (g + 1 + 1 + 1) 72 #[.int .i64 st.1, .int .i64 st.2.1, .int .i64 st.2.2.1, .int .i64 st.2.2.2.1, .slice A (List.length (List.map stT d)) c, .int .i64 st.2.2.2.2.2.1, .bool st.2.2.2.2.2.2],
    Qs (g + 1 + 1 + 1 + 1) 70 #[.pointer (some ⟨g + 1 + 1 + 1, 0, none⟩)], Da A c d]
theorem Gw (s : List UInt8) (w : World) (hL : Be w) (r : Int × Int × Int × Int × List Qb × Int × Int) (H : Y3 s = some r) :
    Calls Tryz.prog 16 #[.string ⟨List.toArray s⟩] w (fun e w' => ∃ (A : Option Addr) (c : Nat) (d : List Qg), e = .returned (.tuple #[(.agg #[(.int .i64 r.1), (.int .i64 r.2.1), (.int .i64 r.2.2.1), (.int .i64 r.2.2.2.1), (.slice A (List.length (List.map stT d)) c)]), (.int .i64 r.2.2.2.2.2.1), (.int .i64 r.2.2.2.2.2.2)]) ∧ r.2.2.2.2.1 = List.map stT d ∧ SP [] w w' [Da A c d]) := by
  refine (callsIn_wide (n := 3)).1 ?_
  refine callsIn_of_wp_marks Tryz.func16 rfl trivial ?_ rfl
  simp only [Tryz.ntmps16, List.size_toArray, List.length_cons, List.length_nil, Nat.reduceAdd, Nat.reduceSub, Array.replicate_succ, Array.replicate_zero, List.push_toArray, List.append_toArray, List.nil_append, List.cons_append]
  by_cases hlen : (4096 : Int) < ((List.length s : Nat) : Int)
  · have hr : r = (0, 0, 0, 0, [], 2, 0) := by
      unfold Y3 at H
      rw [show decide (((List.length s : Nat) : Int) > 4096) = true from decide_eq_true hlen] at H
      injection H with H
      exact H.symm
    subst hr
    have s3 := (((Qw [] w).alloc (t := 24) (cs := #[.int .i64 0, .int .i64 0, .int .i64 0, .int .i64 0, .slice none 0 0])).alloc (t := 27) (cs := #[.int .i64 2])).alloc (t := 3) (cs := #[.int .i64 0])
    gi_wp2
    refine ⟨_, Bb rfl _ rfl rfl rfl (s3.get (i := 0) rfl) (by have h := s3.get (i := 1) rfl; rw [World.size_alloc] at h; exact h) (by have h := s3.get (i := 2) rfl; rw [World.size_alloc, World.size_alloc] at h; exact h) (by kernel_rfl) (by kernel_rfl) (by kernel_rfl), none, 0, [], rfl, rfl, ?_⟩
    exact (s3.nilten).erase 0 rfl |>.erase 0 rfl |>.erase 0 rfl
  · gi_wp2_with (refine ⟨trivial, ?_⟩; gi_at_call 40; refine (callsIn_wide.2 (lines_any _ _)).mono ?_; rintro e w' ⟨rfl, rfl⟩)
    have hsl : s.length ≤ maxLen := by unfold maxLen; omega
    have hz : ∃ z, Ro (Gc s) st0P = some z := by
      unfold Y3 at H
      rw [show decide (((List.length s : Nat) : Int) > 4096) = false from decide_eq_false (by omega)] at H
      obtain ⟨z, hz, _⟩ := Qd (show (Ro (Gc s) st0P).bind _ = some r from H)
      exact ⟨z, hz⟩
    obtain ⟨z, hz⟩ := hz
    have s5 := ((((((Qw [] w).alloc (t := 24) (cs := #[.int .i64 0, .int .i64 0, .int .i64 0, .int .i64 0, .slice none 0 0])).alloc (t := 27) (cs := #[.int .i64 0])).alloc (t := 3) (cs := #[.int .i64 0])).alloc (t := 72) (cs := #[.int .i64 0, .int .i64 0, .int .i64 0, .int .i64 0, .slice none 0 0, .int .i64 0, .bool false])).alloc (t := 70) (cs := #[.pointer (some ⟨w.heap.size + 1 + 1 + 1, 0, none⟩)])).nilten
    simp only [World.size_alloc, List.nil_append, List.cons_append] at s5
    have s6 := s5.below ((Below.refl _ _).alloc (Nat.le_refl _) (.cells #[.string ⟨s.toArray⟩] 9))
    generalize hw6 : ((((((w.alloc (Obj.cells #[Value.int IntKind.i64 0, Value.int IntKind.i64 0, Value.int IntKind.i64 0, Value.int IntKind.i64 0, Value.slice none 0 0] 24)).alloc (Obj.cells #[Value.int IntKind.i64 0] 27)).alloc (Obj.cells #[Value.int IntKind.i64 0] 3)).alloc (Obj.cells #[Value.int IntKind.i64 0, Value.int IntKind.i64 0, Value.int IntKind.i64 0, Value.int IntKind.i64 0, Value.slice none 0 0, Value.int IntKind.i64 0, Value.bool false] 72)).alloc (Obj.cells #[Value.pointer (some { block := w.heap.size + 1 + 1 + 1, off := 0 })] 70)).alloc (Obj.cells #[Value.string { data := s.toArray }] 9)) = w6 at s6 ⊢
    have hsz6 : w6.heap.size = w.heap.size + 6 := by rw [← hw6]; simp
    have hbox : LBox w6 (w.heap.size + 1 + 1 + 1 + 1 + 1) s := by rw [← hw6]; exact alloc_at' (by simp)
    clear hw6
    refine Tv (gf := 88) (lb := #[.pointer (some ⟨w.heap.size + 1 + 1 + 1 + 1 + 1, 0, none⟩)]) rfl (enters_of Tryz.func88 (by kernel_rfl) rfl) (encs := fun x : List UInt8 => #[.string ⟨x.toArray⟩]) (fun _ => rfl) [w.heap.size + 1 + 1 + 1 + 1 + 1]
      (by intro k hk; simp at hk; omega) (S := Gc s) ?iter
      (fun pre W => ∃ (st : StP) (A : Option Addr) (c : Nat) (d : List Qg), Ro pre st0P = some (.inr st) ∧ st.2.2.2.2.1 = List.map stT d ∧ SP [] w W (O7 w.heap.size st A c d) ∧ (∀ k ∈ (Da A c d).fp, k < w.heap.size + 5 ∨ w.heap.size + 8 ≤ k))
      (fun c pre W => c = .ret ∧ ∃ a, Ro (Gc s) st0P = some (.inl a) ∧ SP [] w W [Qs w.heap.size 24 cfg0, Qs (w.heap.size + 1) 27 #[.int .i64 91], Qs (w.heap.size + 1 + 1) 3 #[.int .i64 a]]) ?hI ?hIx
      ⟨st0P, none, 0, [], rfl, rfl, s6, fun k hk => by cases hk⟩
      (fun x => { tmps := #[.string ⟨s.toArray⟩, undef, .pointer (some ⟨w.heap.size, 0, none⟩), .pointer (some ⟨w.heap.size + 1, 0, none⟩), .pointer (some ⟨w.heap.size + 1 + 1, 0, none⟩), .pointer (some ⟨w.heap.size + 1 + 1 + 1 + 1, 0, none⟩), .string ⟨x.toArray⟩, undef, .string ⟨s.toArray⟩, .int .i64 ((List.length s : Nat) : Int), .bool false, undef,
        .agg #[.int .i64 0, .int .i64 0, .int .i64 0, .int .i64 0, .slice none 0 0, .int .i64 0, .bool false], .pointer (some ⟨w.heap.size + 1 + 1 + 1, 0, none⟩), .string ⟨s.toArray⟩, .func (.func 88) #[] #[.pointer (some ⟨w.heap.size + 1 + 1 + 1 + 1 + 1, 0, none⟩)], .string ⟨x.toArray⟩, undef, undef, undef, undef, undef, undef, undef, undef, undef, undef, undef, undef, undef, undef, undef, undef, undef, undef, undef, undef], defers := [] }) ?assign ?body ?done ?stop
    case iter =>
      intro l J Jx W hJ hJd hY hT hJ0
      refine Tw _ l (w.heap.size + 1 + 1 + 1 + 1 + 1) s hsl J Jx (fun pre W1 v hj => hJ pre W1 _ v (by simp) hj) hJd (fun pre x r W1 hj hb hq => ?_) W ((hT _ (by simp)).trans hbox) hJ0
      obtain ⟨fn, tmps, assign, body, hy, hR⟩ := hY pre x W1 hj hq
      refine ⟨fn, tmps, assign, body, hy, hR.mono ?_⟩
      rintro e W' (⟨h1, h2, h3⟩ | h)
      · exact .inl ⟨h1, h2, h3 _ (by simp)⟩
      · exact .inr h
    case hI =>
      rintro xs W W' ⟨st, A, c, d, h1, h2, h3, h4⟩ hm
      refine ⟨st, A, c, d, h1, h2, h3.other hm (by intro k hk; simp at hk; omega) (fun e he k hk hK => ?_), h4⟩
      simp only [List.cons_append, List.nil_append, List.mem_cons, List.not_mem_nil, or_false, hsz6] at hK
      simp only [O7, List.mem_cons, List.not_mem_nil, or_false] at he
      rcases he with rfl | rfl | rfl | rfl | rfl | rfl
      · have hk' : k = w.heap.size := by simpa [Qs] using hk
        omega
      · have hk' : k = w.heap.size + 1 := by simpa [Qs] using hk
        omega
      · have hk' : k = w.heap.size + 1 + 1 := by simpa [Qs] using hk
        omega
      · have hk' : k = w.heap.size + 1 + 1 + 1 := by simpa [Qs] using hk
        omega
      · have hk' : k = w.heap.size + 1 + 1 + 1 + 1 := by simpa [Qs] using hk
        omega
      · have := h4 k hk
        omega
    case hIx =>
      rintro cc xs W W' ⟨h0, a, h1, h3⟩ hm
      refine ⟨h0, a, h1, h3.other hm (by intro k hk; simp at hk; omega) (fun e he k hk hK => ?_)⟩
      simp only [List.cons_append, List.nil_append, List.mem_cons, List.not_mem_nil, or_false, hsz6] at hK
      simp only [List.mem_cons, List.not_mem_nil, or_false] at he
      rcases he with rfl | rfl | rfl
      · have hk' : k = w.heap.size := by simpa [Qs] using hk
        omega
      · have hk' : k = w.heap.size + 1 := by simpa [Qs] using hk
        omega
      · have hk' : k = w.heap.size + 1 + 1 := by simpa [Qs] using hk
        omega
    case assign =>
      intro l x W K hK
      gi_wp2
      exact hK
    case body =>
      rintro l pre x W ⟨⟨wa, gr, id, le, tl, mn, bd⟩, A, c, d, h1, h2, h3, h4⟩ hsz ⟨q, hq⟩
      have h2 : tl = List.map stT d := h2
      subst h2
      rw [hsz6] at hsz
      have hz' := hz
      rw [← hq, C7, h1] at hz'
      simp only [Option.bind_some, Ro] at hz'
      obtain ⟨⟨b, rs⟩, hrr, hz'⟩ := Qd hz'
      have b4 : W.heap[w.heap.size + 1 + 1 + 1 + 1]? = some (.cells #[.pointer (some ⟨w.heap.size + 1 + 1 + 1, 0, none⟩)] 70 (0, 0)) := h3.get (i := 4) rfl
      have c4 := B3 b4
      have b3 := h3.get (i := 3) rfl
      have c35 : W.cell? ⟨w.heap.size + 1 + 1 + 1, 5, none⟩ = some (.int .i64 mn) := by rw [cell_of_row W _ 5 _ _ _ b3]; rfl
      have hw := Cp (w.heap.size + 1 + 1 + 1) A c wa gr id le d mn bd x W (fun w' hm => Q4 hL (Po h3 (l := [3, 5]) rfl hm)) (Ru h3 [3, 5] rfl rfl) (b, rs) hrr
      have hfps : ∀ k, k ∈ (Ms (O7 w.heap.size (wa, gr, id, le, List.map stT d, mn, bd) A c d) [3, 5]).flatMap Ent.fp → k < w.heap.size + 5 ∨ w.heap.size + 8 ≤ k := by
        intro k hk
        obtain ⟨e, he, hke⟩ := List.mem_flatMap.1 hk
        obtain ⟨j, hj, hej⟩ := Ce he
        simp only [List.mem_cons, List.not_mem_nil, or_false] at hj
        rcases hj with rfl | rfl
        · injection hej with hej
          subst hej
          have hk' : k = w.heap.size + 1 + 1 + 1 := by simpa [Qs] using hke
          omega
        · injection hej with hej
          subst hej
          exact h4 k hke
      cases b with
      | true =>
        gi_wp2_with (refine ⟨trivial, ?_⟩; gi_at_call 41; refine (CallsIn.inRound l (callsIn_wide.2 hw)).mono ?_; rintro e W' ⟨A', c', d', rfl, hd', hs'⟩)
        have hl1 : Ro (pre ++ [x]) st0P = some (.inr rs) := by
          rw [C7, h1]
          simp only [Option.bind_some, Ro]
          rw [show Tx (wa, gr, id, le, List.map stT d, mn, bd) x = some (true, rs) from hrr]
          rfl
        have hsp : SP [] w W' (O7 w.heap.size rs A' c' d') := SP.sel (Jq h3 [3, 5] [0, 1, 2, 4] rfl rfl hs' rfl) [0, 1, 2, 4, 3, 5] rfl rfl
        have hfp : ∀ k ∈ (Da A' c' d').fp, k < w.heap.size + 5 ∨ w.heap.size + 8 ≤ k := fun k hk => by
          rcases ((hs'.own.get (i := 1) rfl).2 k hk).1 with h | h
          · omega
          · exact hfps k h
        have hkeep : ∀ k ∈ [w.heap.size + 1 + 1 + 1 + 1 + 1] ++ [w6.heap.size, w6.heap.size + 1], W'.heap[k]? = W.heap[k]? := fun k hk => by
          simp only [List.cons_append, List.nil_append, List.mem_cons, List.not_mem_nil, or_false, hsz6] at hk
          refine hs'.mod.block k (by omega) fun hk' => ?_
          have := hfps k hk'
          omega
        gi_wp2
        exact ⟨hkeep, rs, A', c', d', hl1, hd', hsp, hfp⟩
      | false =>
        have hstop : Ro (Gc s) st0P = some (.inl mn) := by
          rw [← hq, C7, h1]
          simp only [Option.bind_some, Ro]
          rw [show Tx (wa, gr, id, le, List.map stT d, mn, bd) x = some (false, rs) from hrr]
          rfl
        gi_wp2_with (refine ⟨trivial, ?_⟩; gi_at_call 41; refine (CallsIn.inRound l (callsIn_wide.2 hw)).mono ?_; rintro e W' ⟨A', c', d', rfl, hd', hs'⟩; have hsp : SP [] w W' (O7 w.heap.size rs A' c' d') := SP.sel (Jq h3 [3, 5] [0, 1, 2, 4] rfl rfl hs' rfl) [0, 1, 2, 4, 3, 5] rfl rfl; have p0 := hsp.get (i := 0) rfl; have p1 := hsp.get (i := 1) rfl; have p2 := hsp.get (i := 2) rfl; have q0 := R7 (off := 0) p0 rfl; have q1 := R7 (off := 1) p0 rfl; have q2 := R7 (off := 2) p0 rfl; have q3 := R7 (off := 3) p0 rfl; have q4 := R7 (off := 4) p0 rfl; have q5 := R7 (off := 0) p1 rfl; have q6 := R7 (off := 0) p2 rfl; have f0 := Rf (off := 0) p0; have f1 := Rf (off := 1) p0; have f2 := Rf (off := 2) p0; have f3 := Rf (off := 3) p0; have f4 := Rf (off := 4) p0; have f5 := Rf (off := 0) p1; have f6 := Rf (off := 0) p2)
        have e7 := ((((((hsp.cell1 (off := 0) (.int .i64 0) (i := 0) rfl).cell1 (off := 1) (.int .i64 0) (i := 0) rfl).cell1 (off := 2) (.int .i64 0) (i := 0) rfl).cell1 (off := 3) (.int .i64 0) (i := 0) rfl).cell1 (off := 4) (.slice none 0 0) (i := 0) rfl).cell1 (off := 0) (.int .i64 91) (i := 1) rfl).cell1 (off := 0) (.int .i64 mn) (i := 2) rfl
        have hkeep : ∀ k ∈ [w.heap.size + 1 + 1 + 1 + 1 + 1] ++ [w6.heap.size, w6.heap.size + 1], W'.heap[k]? = W.heap[k]? := fun k hk => by
          simp only [List.cons_append, List.nil_append, List.mem_cons, List.not_mem_nil, or_false, hsz6] at hk
          refine hs'.mod.block k (by omega) fun hk' => ?_
          have := hfps k hk'
          omega
        refine ⟨fun k hk => ?_, rfl, mn, hstop, SP.sel e7 [0, 1, 2] rfl rfl⟩
        have hk2 := hkeep k hk
        simp only [List.cons_append, List.nil_append, List.mem_cons, List.not_mem_nil, or_false, hsz6] at hk
        exact (Xe (by omega)).trans ((Xe (by omega)).trans ((Xe (by omega)).trans ((Xe (by omega)).trans ((Xe (by omega)).trans ((Xe (by omega)).trans ((Xe (by omega)).trans hk2))))))
    case done =>
      rintro W ⟨⟨wa, gr, id, le, tl, mn, bd⟩, A, c, d, h1, h2, h3, h4⟩ hK
      rw [hsz6] at hK
      have h2 : tl = List.map stT d := h2
      subst h2
      unfold Y3 at H
      rw [show decide (((List.length s : Nat) : Int) > 4096) = false from decide_eq_false (by omega)] at H
      have H : (Ro (Gc s) st0P).bind _ = some r := H
      rw [h1] at H
      have H : cond (mn == 0) (some ((0 : Int), (0 : Int), (0 : Int), (0 : Int), ([] : List Qb), (91 : Int), (0 : Int))) (some (wa, gr, id, le, List.map stT d, 0, 0)) = some r := H
      have p0 := h3.get (i := 0) rfl
      have p1 := h3.get (i := 1) rfl
      have p2 := h3.get (i := 2) rfl
      have p3 := h3.get (i := 3) rfl
      have p4 := h3.get (i := 4) rfl
      have q0 := R7 (off := 0) p0 rfl
      have q1 := R7 (off := 1) p0 rfl
      have q2 := R7 (off := 2) p0 rfl
      have q3 := R7 (off := 3) p0 rfl
      have q4 := R7 (off := 4) p0 rfl
      have q5 := R7 (off := 0) p1 rfl
      have q6 := R7 (off := 0) p2 rfl
      have f0 := Rf (off := 0) p0
      have f1 := Rf (off := 1) p0
      have f2 := Rf (off := 2) p0
      have f3 := Rf (off := 3) p0
      have f4 := Rf (off := 4) p0
      have f5 := Rf (off := 0) p1
      have f6 := Rf (off := 0) p2
      have r0 := R7 (off := 0) p3 rfl
      have r1 := R7 (off := 1) p3 rfl
      have r2 := R7 (off := 2) p3 rfl
      have r3 := R7 (off := 3) p3 rfl
      have r4 := R7 (off := 4) p3 rfl
      have r5 := R7 (off := 5) p3 rfl
      have u0 := R7 (off := 0) p4 rfl
      cases hm : (mn == 0) with
      | true =>
        rw [hm] at H
        injection H with H
        subst H
        gi_wp2
        have e7 := ((((((h3.cell1 (off := 0) (.int .i64 0) (i := 0) rfl).cell1 (off := 1) (.int .i64 0) (i := 0) rfl).cell1 (off := 2) (.int .i64 0) (i := 0) rfl).cell1 (off := 3) (.int .i64 0) (i := 0) rfl).cell1 (off := 4) (.slice none 0 0) (i := 0) rfl).cell1 (off := 0) (.int .i64 91) (i := 1) rfl).cell1 (off := 0) (.int .i64 0) (i := 2) rfl
        refine ⟨by simp, .inl ⟨_, _, rfl, run_takeDeferred ((Xe (by omega)).trans ((Xe (by omega)).trans ((Xe (by omega)).trans ((Xe (by omega)).trans ((Xe (by omega)).trans ((Xe (by omega)).trans ((Xe (by omega)).trans hK))))))), ?_⟩⟩
        have s2 := (SP.sel e7 [0, 1, 2, 5] rfl rfl : SP [] w _ [Qs w.heap.size 24 #[.int .i64 0, .int .i64 0, .int .i64 0, .int .i64 0, .slice none 0 0], Qs (w.heap.size + 1) 27 #[.int .i64 91], Qs (w.heap.size + 1 + 1) 3 #[.int .i64 0], Da A c d]).other (Db _ (w.heap.size + 6) (.deferred none)) (by intro k hk; simp at hk; omega) (fun e he k hk hK' => by
          simp only [List.mem_cons, List.not_mem_nil, or_false] at he hK'
          rcases he with rfl | rfl | rfl | rfl
          · have hk' : k = w.heap.size := by simpa [Qs] using hk
            omega
          · have hk' : k = w.heap.size + 1 := by simpa [Qs] using hk
            omega
          · have hk' : k = w.heap.size + 1 + 1 := by simpa [Qs] using hk
            omega
          · have := h4 k hk
            omega)
        exact ⟨_, Bb rfl _ rfl rfl rfl (s2.get (i := 0) rfl) (s2.get (i := 1) rfl) (s2.get (i := 2) rfl) (v1 := .agg #[.int .i64 0, .int .i64 0, .int .i64 0, .int .i64 0, .slice none 0 0]) (v2 := .int .i64 91) (v3 := .int .i64 0) (by kernel_rfl) (by kernel_rfl) (by kernel_rfl), none, 0, [], rfl, rfl, ((SP.sel s2 [] rfl rfl : SP [] w _ []).nilten)⟩
      | false =>
        rw [hm] at H
        injection H with H
        subst H
        gi_wp2
        have e7 := ((((((h3.cell1 (off := 0) (.int .i64 wa) (i := 0) rfl).cell1 (off := 1) (.int .i64 gr) (i := 0) rfl).cell1 (off := 2) (.int .i64 id) (i := 0) rfl).cell1 (off := 3) (.int .i64 le) (i := 0) rfl).cell1 (off := 4) (.slice A d.length c) (i := 0) rfl).cell1 (off := 0) (.int .i64 0) (i := 1) rfl).cell1 (off := 0) (.int .i64 0) (i := 2) rfl
        refine ⟨by simp, .inl ⟨_, _, rfl, run_takeDeferred ((Xe (by omega)).trans ((Xe (by omega)).trans ((Xe (by omega)).trans ((Xe (by omega)).trans ((Xe (by omega)).trans ((Xe (by omega)).trans ((Xe (by omega)).trans hK))))))), ?_⟩⟩
        have s2 := (SP.sel e7 [0, 1, 2, 5] rfl rfl : SP [] w _ [Qs w.heap.size 24 #[.int .i64 wa, .int .i64 gr, .int .i64 id, .int .i64 le, .slice A d.length c], Qs (w.heap.size + 1) 27 #[.int .i64 0], Qs (w.heap.size + 1 + 1) 3 #[.int .i64 0], Da A c d]).other (Db _ (w.heap.size + 6) (.deferred none)) (by intro k hk; simp at hk; omega) (fun e he k hk hK' => by
          simp only [List.mem_cons, List.not_mem_nil, or_false] at he hK'
          rcases he with rfl | rfl | rfl | rfl
          · have hk' : k = w.heap.size := by simpa [Qs] using hk
            omega
          · have hk' : k = w.heap.size + 1 := by simpa [Qs] using hk
            omega
          · have hk' : k = w.heap.size + 1 + 1 := by simpa [Qs] using hk
            omega
          · have := h4 k hk
            omega)
        exact ⟨_, Bb rfl _ rfl rfl rfl (s2.get (i := 0) rfl) (s2.get (i := 1) rfl) (s2.get (i := 2) rfl) (v1 := .agg #[.int .i64 wa, .int .i64 gr, .int .i64 id, .int .i64 le, .slice A d.length c]) (v2 := .int .i64 0) (v3 := .int .i64 0) (by kernel_rfl) (by kernel_rfl) (by kernel_rfl), A, c, d, rfl, rfl, SP.sel s2 [3] rfl rfl⟩
    case stop =>
      rintro cc pre W hpre ⟨rfl, a, ha, hsp⟩ hK
      rw [hsz6] at hK
      unfold Y3 at H
      rw [show decide (((List.length s : Nat) : Int) > 4096) = false from decide_eq_false (by omega)] at H
      have H : (Ro (Gc s) st0P).bind _ = some r := H
      rw [ha] at H
      have H : some ((0 : Int), (0 : Int), (0 : Int), (0 : Int), ([] : List Qb), (91 : Int), a) = some r := H
      injection H with H
      subst H
      gi_wp2
      refine ⟨by simp, .inl ⟨_, _, rfl, run_takeDeferred hK, ?_⟩⟩
      have s2 := hsp.other (Db W (w.heap.size + 6) (.deferred none)) (by intro k hk; simp at hk; omega) (fun e he k hk hK' => by
        simp only [List.mem_cons, List.not_mem_nil, or_false] at he hK'
        rcases he with rfl | rfl | rfl
        · have hk' : k = w.heap.size := by simpa [Qs] using hk
          omega
        · have hk' : k = w.heap.size + 1 := by simpa [Qs] using hk
          omega
        · have hk' : k = w.heap.size + 1 + 1 := by simpa [Qs] using hk
          omega)
      exact ⟨_, Bb rfl _ rfl rfl rfl (s2.get (i := 0) rfl) (s2.get (i := 1) rfl) (s2.get (i := 2) rfl) (v1 := .agg #[.int .i64 0, .int .i64 0, .int .i64 0, .int .i64 0, .slice none 0 0]) (v2 := .int .i64 91) (v3 := .int .i64 a) (by kernel_rfl) (by kernel_rfl) (by kernel_rfl), none, 0, [], rfl, rfl, (s2.nilten).erase 0 rfl |>.erase 0 rfl |>.erase 0 rfl⟩
end Go.Proofs.YtoflbpmbkmephaaGreatDoor
namespace Go.Proofs.YtoflbpmbkmephaaGreatDoor
open Go.RowKit
def P9 : List Str → Bp → Nat → Sum Nat (Bp × Nat)
  | [], c, n => .inr (c, n)
  | p :: ps, c, n => match P5 c (decide (n = 0)) (Q3 32 p) with
    | none => .inl n
    | some c' => P9 ps c' (n + 1)
def failC (e : Int) (n : Nat) : Int × Int × Int × Int × List Qb × Int × Int := (0, 0, 0, 0, [], e, (n : Int))
def finC (r : Sum Nat (Bp × Nat)) (rest : Str) : Int × Int × Int × Int × List Qb × Int × Int := match r with
  | .inl n => failC 91 n
  | .inr (c, n) => if rest ≠ [] ∨ n = 0 then failC 91 n else (c.1, c.2.1, c.2.2.1, c.2.2.2.1, c.2.2.2.2, 0, 0)
def Y6 (s : Str) : Int × Int × Int × Int × List Qb × Int × Int :=
  if 4096 < s.length then failC 2 0 else finC (P9 (Q3 10 s).dropLast c0C 0) ((Q3 10 s).getLastD [])
theorem L2 {c c' : Bp} {f : Bool} {ws : List Str} (h : P5 c f ws = some c') : ∃ k q, ws = k :: q ∧ ((k == Zi) == f) = true ∧ Dv c k q = some c' ∧ okC c' = true := by
  cases ws with
  | nil => cases h
  | cons k q =>
    have h : (if (k == Zi) == f then (Dv c k q).filter okC else none) = some c' := h
    split at h
    · rename_i hf
      rw [Option.filter_eq_some_iff] at h
      exact ⟨k, q, rfl, hf, h.1, h.2⟩
    · cases h
theorem line_bnd {c c' : Bp} {f : Bool} {p : Str} (hc : Mu 0 c) (hp : p.length ≤ 5000) (h : P5 c f (Q3 32 p) = some c') : Mu 0 c' ∧ okC c' = true := by
  obtain ⟨k, q, hs, _, hw, ho⟩ := L2 h
  have hl := Rr 32 p
  rw [hs] at hl
  exact ⟨okC_bnd (Mq hc (fun w hm => Nat.le_trans (hl w (by simp [hm])) hp) hw) ho, ho⟩
theorem bnd_c0 : Mu 0 c0C := ⟨Nat.zero_le _, fun t ht => by cases ht⟩
theorem Kz : ∀ s : Str, Gc s = (Q3 10 s).dropLast.map (· ++ [10]) ++ (if (Q3 10 s).getLastD [] = [] then [] else [(Q3 10 s).getLastD []])
  | [] => rfl
  | x :: r => by
    have ih := Kz r
    unfold Gc Q3
    by_cases h : x = 10
    · subst h
      rw [if_pos rfl, if_pos rfl, ih]
      cases hs : Q3 10 r with
      | nil => exact absurd hs (U2 10 r)
      | cons p ps => simp [List.dropLast, List.getLastD_cons]
    · rw [if_neg h, if_neg h, ih]
      cases hs : Q3 10 r with
      | nil => exact absurd hs (U2 10 r)
      | cons p ps =>
        cases ps with
        | nil =>
          by_cases hp : p = []
          · subst hp; simp
          · simp [hp]
        | cons p2 ps => simp [List.dropLast, List.getLastD_cons]
def stC (c : Bp) (n : Nat) : StP := (c.1, c.2.1, c.2.2.1, c.2.2.2.1, c.2.2.2.2, (n : Int), false)
theorem K0 : ∀ (ps : List Str) (c : Bp) (n : Nat), Mu 0 c → (n = 0 → c = c0C) → n + ps.length ≤ 1000000 → (∀ p ∈ ps, p.length ≤ 5000) →
    Ro (ps.map (· ++ [10])) (stC c n) = some (match P9 ps c n with | .inl a => .inl (a : Int) | .inr (c', n') => .inr (stC c' n')) ∧ (∀ c' n', P9 ps c n = .inr (c', n') → n' = n + ps.length ∧ Mu 0 c' ∧ (n' = 0 → c' = c0C) ∧ (0 < ps.length → okC c' = true))
  | [], c, n, hc, hn, _, _ => ⟨rfl, fun c' n' h => by
      injection h with h
      injection h with h1 h2
      subst h1 h2
      exact ⟨rfl, hc, hn, fun h => absurd h (by simp)⟩⟩
  | p :: ps, c, n, hc, hn, hl, hp => by
    obtain ⟨z, hz, hr⟩ := pLineB c n p hc hn (by simp at hl; omega) (hp p (by simp))
    have hz' : Tx (stC c n) (p ++ [10]) = some z := hz
    rw [List.map_cons, Ro, hz', Option.bind_some]
    unfold P9
    cases hw : P5 c (decide (n = 0)) (Q3 32 p) with
    | none =>
      rw [hw] at hr
      have hr : z.1 = false := hr
      rw [hr]
      exact ⟨rfl, fun c' n' h => by cases h⟩
    | some c1 =>
      rw [hw] at hr
      have hr : z = (true, c1.1, c1.2.1, c1.2.2.1, c1.2.2.2.1, c1.2.2.2.2, ((n + 1 : Nat) : Int), false) := hr
      subst hr
      obtain ⟨b1, b2⟩ := line_bnd hc (hp p (by simp)) hw
      obtain ⟨h1, h2⟩ := K0 ps c1 (n + 1) b1 (fun h => by omega) (by simp at hl; omega) fun q hq => hp q (by simp [hq])
      refine ⟨h1, fun c' n' h => ?_⟩
      obtain ⟨e1, e2, e3, e4⟩ := h2 c' n' h
      refine ⟨by simp; omega, e2, e3, fun _ => ?_⟩
      cases ps with
      | nil =>
        injection h with h
        injection h with h3 _
        rw [← h3]
        exact b2
      | cons _ _ => exact e4 (by simp)
theorem Ih (c : UInt8) (s : Str) : Q3 c s = (Q3 c s).dropLast ++ [(Q3 c s).getLastD []] := by
  have hne := U2 c s
  conv => lhs; rw [← List.dropLast_concat_getLast hne]
  rw [List.getLastD_eq_getLast?, List.getLast?_eq_some_getLast hne]
  rfl
theorem S7 (c : UInt8) : ∀ (s p : Str), p ∈ Q3 c s → c ∉ p
  | [], p, h => by
    have : p = [] := by simpa [Q3] using h
    subst this
    simp
  | x :: r, p, h => by
    have ih := S7 c r
    unfold Q3 at h
    by_cases hx : x = c
    · rw [if_pos hx] at h
      rcases List.mem_cons.1 h with rfl | h
      · simp
      · exact ih p h
    · rw [if_neg hx] at h
      cases hs : Q3 c r with
      | nil => exact absurd hs (U2 c r)
      | cons q qs =>
        rw [hs] at h ih
        rcases List.mem_cons.1 h with rfl | h
        · have := ih q (by simp)
          simp only [List.mem_cons, not_or]
          exact ⟨fun e => hx e.symm, this⟩
        · exact ih p (by simp [h])
theorem pParse (s : Str) : Y3 s = some (Y6 s) := by
  unfold Y3 Y6
  by_cases hl : 4096 < s.length
  · rw [if_pos hl, show decide (((List.length s : Nat) : Int) > 4096) = true from decide_eq_true (by omega), cond_true]
    rfl
  · rw [if_neg hl, show decide (((List.length s : Nat) : Int) > 4096) = false from decide_eq_false (by omega), cond_false]
    have hlen := Rr 10 s
    have hcnt := B5 10 s
    have hc2 : s.count 10 ≤ s.length := List.count_le_length
    have hps : ∀ p ∈ (Q3 10 s).dropLast, p.length ≤ 5000 := fun p hp => by have := hlen p (List.dropLast_subset _ hp); omega
    have hdl : (Q3 10 s).dropLast.length = s.count 10 := by rw [List.length_dropLast]; omega
    obtain ⟨h1, h2⟩ := K0 (Q3 10 s).dropLast c0C 0 bnd_c0 (fun _ => rfl) (by omega) hps
    rw [Kz, C7, show st0P = stC c0C 0 from rfl, h1, Option.bind_some]
    have hlast := Ih 10 s
    have hmem : (Q3 10 s).getLastD [] ∈ Q3 10 s := by
      rw [List.getLastD_eq_getLast?, List.getLast?_eq_some_getLast (U2 10 s)]
      exact List.getLast_mem _
    cases hr : P9 (Q3 10 s).dropLast c0C 0 with
    | inl a => rfl
    | inr cn =>
      obtain ⟨c, n⟩ := cn
      obtain ⟨e1, e2, e3, e4⟩ := h2 c n hr
      by_cases hrest : (Q3 10 s).getLastD [] = []
      · rw [if_pos hrest]
        simp only [Ro, Option.bind_some, finC, hrest, ne_eq, not_true_eq_false, false_or]
        by_cases hn : n = 0
        · subst hn
          rfl
        · rw [if_neg hn, show ((stC c n).2.2.2.2.2.1 == 0) = false by rw [beq_eq_false_iff_ne]; show (n : Int) ≠ 0; omega]
          rfl
      · rw [if_neg hrest]
        have h10 := S7 10 s _ hmem
        obtain ⟨z, hz, hz1⟩ := pLineE c (n : Int) ((Q3 10 s).getLastD []) (by have := hlen _ hmem; omega) (fun e => h10 (List.mem_of_getLast? e))
        have hz' : Tx (stC c n) ((Q3 10 s).getLastD []) = some z := hz
        simp only [Ro, hz', Option.bind_some, hz1, cond_false, finC]
        rw [if_pos (.inl hrest)]
        rfl
theorem byte10 (c : UInt8) : (((c.toNat : Nat) : Int) == 10) = (c == 10) := by
  by_cases h : c = 10
  · subst h; rfl
  · rw [beq_eq_false_iff_ne.2 h, beq_eq_false_iff_ne]
    intro e
    apply h
    apply UInt8.toNat_inj.1
    show c.toNat = 10
    omega
theorem O8 (s : Str) (hs : s.length ≤ 4096) : ∀ (d k f a n : Nat) (c : Bp), d = s.length - k → k ≤ s.length → d < f → a ≤ k → n ≤ k → Mu 0 c → (10 : UInt8) ∉ (s.take k).drop a →
    Vz s f c.1 c.2.1 c.2.2.1 c.2.2.2.1 c.2.2.2.2 (a : Int) (n : Int) (k : Int) = some (finC (P9 (Q3 10 (s.drop a)).dropLast c n) ((Q3 10 (s.drop a)).getLastD [])) := by
  intro d
  induction d with
  | zero =>
    intro k f a n c hd hk hf ha hn hc h10
    obtain ⟨f, rfl⟩ : ∃ g, f = g + 1 := ⟨f - 1, by omega⟩
    have hke : k = s.length := by omega
    subst hke
    rw [List.take_length] at h10
    show Xu (Vz s f) s c.1 c.2.1 c.2.2.1 c.2.2.2.1 c.2.2.2.2 (a : Int) (n : Int) ((s.length : Nat) : Int) = _
    unfold Xu Jy
    rw [show decide (((s.length : Nat) : Int) < ((List.length s : Nat) : Int)) = false from decide_eq_false (by omega), cond_false, Ic 10 _ h10]
    simp only [List.dropLast_singleton, P9, finC, List.getLastD_cons, List.getLastD_nil]
    by_cases hr : a < s.length
    · rw [show decide ((a : Int) < ((List.length s : Nat) : Int)) = true from decide_eq_true (by omega), cond_true, cond_true, if_pos (.inl (fun e => by have := congrArg List.length e; simp at this; omega))]
      rfl
    · rw [show decide ((a : Int) < ((List.length s : Nat) : Int)) = false from decide_eq_false (by omega), cond_false]
      have he : s.drop a = [] := List.drop_of_length_le (by omega)
      rw [he]
      by_cases h0 : n = 0
      · subst h0
        rfl
      · rw [show ((n : Int) == 0) = false by rw [beq_eq_false_iff_ne]; omega, cond_false, if_neg (by simp [h0])]
  | succ d ih =>
    intro k f a n c hd hk hf ha hn hc h10
    obtain ⟨f, rfl⟩ : ∃ g, f = g + 1 := ⟨f - 1, by omega⟩
    have hlt : k < s.length := by omega
    show Xu (Vz s f) s c.1 c.2.1 c.2.2.1 c.2.2.2.1 c.2.2.2.2 (a : Int) (n : Int) (k : Int) = _
    unfold Xu Yl
    rw [show decide ((k : Int) < ((List.length s : Nat) : Int)) = true from decide_eq_true (by omega), cond_true, Zr hlt, Option.bind_some, show ((((s[k]).toNat : Nat) : Int) != 10) = !(s[k] == 10) by rw [bne, byte10], show ((k : Int) + 1) = ((k + 1 : Nat) : Int) by omega, Uy (by omega)]
    cases hx : (s[k] == 10) with
    | false =>
      have hx : s[k] ≠ 10 := by simpa using hx
      rw [Bool.not_false, cond_true]
      exact ih (k + 1) f a n c (by omega) (by omega) (by omega) (by omega) (by omega) hc (Hx 10 s a k hlt ha hx h10)
    | true =>
      have hx : s[k] = 10 := by simpa using hx
      rw [Bool.not_true, cond_false, Bn s ha (by omega), Option.bind_some, rWords _ (by simp; omega), Option.bind_some, Fk 10 s a k hlt ha hx h10]
      have hp : ((s.take k).drop a).length ≤ 5000 := by simp; omega
      have hl := Rr 32 ((s.take k).drop a)
      have hcnt := B5 32 ((s.take k).drop a)
      have hcl : ((s.take k).drop a).count 32 ≤ ((s.take k).drop a).length := List.count_le_length
      have hne2 := U2 10 (s.drop (k + 1))
      rw [List.dropLast_cons_of_ne_nil hne2]
      rw [show List.getLastD ((s.take k).drop a :: Q3 10 (s.drop (k + 1))) [] = (Q3 10 (s.drop (k + 1))).getLastD [] by
        cases hs2 : Q3 10 (s.drop (k + 1)) with
        | nil => exact absurd hs2 hne2
        | cons p ps => rfl]
      cases hs : Q3 32 ((s.take k).drop a) with
      | nil => exact absurd hs (U2 32 _)
      | cons kw q =>
        rw [hs] at hl hcnt
        have hq : ∀ w ∈ q, w.length ≤ 5000 := fun w h => Nat.le_trans (hl w (by simp [h])) hp
        obtain ⟨z, hz, hr⟩ := rWith c ((n : Int) == 0) kw q hc (by simp at hcnt; omega) (Nat.le_trans (hl kw (by simp)) hp) hq
        rw [show ((n : Int) == 0) = decide (n = 0) by
          by_cases h0 : n = 0
          · subst h0; rfl
          · rw [decide_eq_false h0, beq_eq_false_iff_ne]; omega] at hz hr ⊢
        rw [hz, Option.bind_some, Option.bind_some]
        unfold P9 Jw Yl
        rw [hs]
        show _ = some (finC (match (if (kw == Zi) == decide (n = 0) then (Dv c kw q).filter okC else none) with | none => .inl n | some c' => P9 _ c' (n + 1)) _)
        by_cases hf : ((kw == Zi) == decide (n = 0)) = true
        · rw [if_pos hf] at hr ⊢
          cases hw : Dv c kw q with
          | none =>
            rw [hw] at hr
            have hr : z.2.2.2.2.2 = false := hr
            rw [hr]
            rfl
          | some c' =>
            rw [hw] at hr
            have hr : z = (c'.1, c'.2.1, c'.2.2.1, c'.2.2.2.1, c'.2.2.2.2, true) := hr
            subst hr
            have hbn := Mq hc hq hw
            simp only [Bool.not_true, cond_false]
            rw [rCfg9 hbn, Option.bind_some]
            cases ho : okC c' with
            | false =>
              rw [Option.filter_some_neg (by simp [ho])]
              first | done | rfl
            | true =>
              rw [Option.filter_some_pos ho, Bool.not_true, cond_false, show ((n : Int) + 1) = ((n + 1 : Nat) : Int) by omega, Uy (by omega), show ((k : Int) + 1) = ((k + 1 : Nat) : Int) by omega, Uy (by omega)]
              exact ih (k + 1) f (k + 1) (n + 1) c' (by omega) (by omega) (by omega) (by omega) (by omega) (okC_bnd hbn ho) (by simp)
        · rw [if_neg hf] at hr ⊢
          have hr : z.2.2.2.2.2 = false := hr
          rw [hr]
          rfl
theorem rParse9 (s : Str) : Nm s = some (Y6 s) := by
  unfold Nm Y6
  by_cases hl : 4096 < s.length
  · rw [if_pos hl, show decide (((List.length s : Nat) : Int) > 4096) = true from decide_eq_true (by omega), cond_true]
    rfl
  · rw [if_neg hl, show decide (((List.length s : Nat) : Int) > 4096) = false from decide_eq_false (by omega), cond_false]
    have := O8 s (by omega) s.length 0 Zj 0 0 c0C (by omega) (by omega) (by unfold Zj; omega) (by omega) (by omega) bnd_c0 (by simp)
    rw [show ((0 : Nat) : Int) = 0 from rfl, List.drop_zero] at this
    exact this
end Go.Proofs.YtoflbpmbkmephaaGreatDoor
namespace Go.Proofs.YtoflbpmbkmephaaGreatDoor
open Go.RowKit
def bl_ren : Go.Shelf.Ren := ⟨fun | 240 => 105 | 276 => 150 | n => n, fun | 70 => 91 | 72 => 93 | 164 => 175 | 20 => 20 | 9 => 9 | 4 => 4 | 37 => 48 | 5 => 5 | n => n, fun | n => n⟩
theorem bl_lays : Go.Proofs.Lays.n240 Tryz.prog bl_ren := {
  mixed := by kernel_rfl
  f240 := Tryz.func105.trans (congrArg some (by kernel_rfl))
  f276 := Tryz.func150.trans (congrArg some (by kernel_rfl))
  t0 := Tryz.underlying0
  a0 := Tryz.isAgg0
  z0 := Tryz.sizeOf0
  v0 := Tryz.zeroValue0
  t4 := Tryz.underlying4
  a4 := Tryz.isAgg4
  z4 := Tryz.sizeOf4
  v4 := Tryz.zeroValue4
  t9 := Tryz.underlying9
  a9 := Tryz.isAgg9
  z9 := Tryz.sizeOf9
  v9 := Tryz.zeroValue9
  t20 := Tryz.underlying20
  a20 := Tryz.isAgg20
  z20 := Tryz.sizeOf20
  v20 := Tryz.zeroValue20
  t70 := Tryz.underlying91
  a70 := Tryz.isAgg91
  z70 := Tryz.sizeOf91
  v70 := Tryz.zeroValue91
  t72 := Tryz.underlying93
  a72 := Tryz.isAgg93
  z72 := Tryz.sizeOf93
  v72 := Tryz.zeroValue93
  t164 := Tryz.underlying175
  a164 := Tryz.isAgg175
  z164 := Tryz.sizeOf175
  v164 := Tryz.zeroValue175 }
theorem bl_x : Builder.X72 Tryz.prog bl_ren := { sizeBuilder := by kernel_rfl, liesBuilder := by kernel_rfl }
def BP (g : Nat) (v : Value) : Prop := v = .pointer none ∨ v = .pointer (some ⟨g, 0, none⟩)
theorem Lj {S : List Nat} {g : Nat} {v x : Value} {w w0 : World} {es : List Ent} (hv : BP g v) (hs : SP S w0 w es) {i : Nat} (hi : es[i]? = some (Qs g 93 #[v, x])) :
    Calls Tryz.prog 105 #[.pointer (some ⟨g, 0, none⟩)] w (fun e w' => e = .returned (.tuple #[]) ∧ SP S w0 w' (es.set i (Qs g 93 #[.pointer (some ⟨g, 0, none⟩), x]))) := by
  have hg : w.heap[g]? = some (.cells #[v, x] 93 (0, 0)) := hs.get hi
  rcases hv with rfl | rfl
  · refine (Any.Builder_copyCheck_fresh bl_lays bl_x g w (by rw [cell_of_row w g 0 _ _ _ hg]; rfl) (by simp [World.shape?, hg]; rfl) (by simp [World.frozen?, hg])).mono ?_
    rintro e w' ⟨rfl, rfl⟩
    refine ⟨rfl, ?_⟩
    have hlt : g < w.heap.size := (Array.getElem?_eq_some_iff.1 hg).1
    refine hs.set hi (T := [g]) ((Mod.refl [g] w).setCell (p := ⟨g, 0, none⟩) (.inl (by simp)) _) (fun k hk => hk) ?_ fun k hk => ⟨.inl hk, ?_⟩
    · show (w.setCell ⟨g, 0, none⟩ _).heap[g]? = _
      simp [World.setCell, hg, Array.getElem?_modify]
    · have : k = g := by simpa [Qs] using hk
      subst this
      simpa [World.setCell] using hlt
  · refine (Any.Builder_copyCheck_used bl_lays bl_x g w (by rw [cell_of_row w g 0 _ _ _ hg]; rfl)).mono ?_
    rintro e w' ⟨rfl, rfl⟩
    refine ⟨rfl, ?_⟩
    have : es.set i (Qs g 93 #[.pointer (some ⟨g, 0, none⟩), x]) = es := by
      apply List.ext_getElem?
      intro j
      rw [List.getElem?_set]
      split
      · rename_i hij; subst hij
        split
        · exact hi.symm
        · rename_i hge; rw [List.getElem?_eq_none (by omega)]
      · rfl
    rw [this]
    exact hs
theorem Ty {g : Nat} {v : Value} {A : Option Addr} {c : Nat} {l : List UInt8} {w w0 : World} {es : List Ent} (hs : SP [] w0 w es) {i j : Nat} (hi : es[i]? = some (Qs g 93 #[v, .slice A (List.length l) c])) (hj : es[j]? = some (Vh 5 eU8 A c l)) (hij : i ≠ j) (hv : BP g v) :
    Calls Tryz.prog 62 #[.pointer (some ⟨g, 0, none⟩)] w (fun e w' => e = .returned (.string ⟨List.toArray l⟩) ∧ SP [] w0 w' []) := by
  have hg : w.heap[g]? = some (.cells #[v, .slice A (List.length l) c] 93 (0, 0)) := hs.get hi
  have hr : w.ownsRow 0 5 1 (.slice A l.length c) l.length (Vm eU8 l) := hs.get hj
  have hb : w0.heap.size ≤ g := by
    rcases ((hs.own.get hi).2 g (by simp [Qs])).1 with h | h
    · exact h
    · cases h
  have hap := hs.own.apart hi hj hij
  have hcells : Vm eU8 l = Lib.byteCells l := L7 l
  have hown : w.ownsRow w0.heap.size 5 1 (.slice A l.length c) (Lib.byteCells l).length (Lib.byteCells l) := by
    rw [← hcells, Yh, show eU8.sz = 1 from rfl, Nat.mul_one]
    refine ⟨hr.1, ?_⟩
    rcases hr.2 with h | ⟨q, cap, cur, h1, h2, h3⟩
    · exact .inl h
    · refine .inr ⟨q, cap, cur, h1, ?_, h3⟩
      injection h1 with h1 _ _
      subst h1
      rcases ((hs.own.get hj).2 q (by simp [Vh, row, Value.ownBlock])).1 with h | h
      · exact h
      · cases h
  have hne : (Value.slice A l.length c).ownBlock ≠ some g := by
    intro h
    exact hap g (by simp [Qs]) (by simp [Vh, row, h])
  have hat : Lib.BuilderAt 93 5 w0.heap.size g v (Lib.byteCells l) w := ⟨hb, _, hg, hown, hne⟩
  refine (Tryz.Builder_String_any w0.heap.size g l w ?_ hs.mod.size).mono ?_
  · rcases hv with rfl | rfl
    · exact .inl hat
    · exact .inr hat
  · rintro e w' ⟨rfl, hb'⟩
    refine ⟨rfl, ⟨?_, trivial⟩⟩
    exact J3 (hs.keeps.trans hb') []
end Go.Proofs.YtoflbpmbkmephaaGreatDoor
namespace Go.Proofs.YtoflbpmbkmephaaGreatDoor
open Go.RowKit
def Y5 (q4 : (List UInt8)) (p7 : (List UInt8)) : Option (Int × (List UInt8)) :=
  ((app q4 p7).bind fun a => (some (((List.length p7 : Nat) : Int), a)))
set_option maxHeartbeats 40000000 in
theorem Dg {S : List Nat} (g1 : Nat) (v2 : Value) (A5 : Option Addr) (c6 : Nat) (q4 : Bs) (p7 : Bs) (w0 : World) (hO : SP S w0 w0 [Qs g1 93 #[v2, (lv A5 q4 c6)], Vh 5 eU8 A5 c6 q4]) (t : BP g1 v2) (r : (Int × Bs)) (H : Y5 q4 p7 = some r) :
  Calls Tryz.prog 57 #[(pt g1 0), (sv p7)] w0 (fun e W => ∃ (h : Option Addr) (j : Nat), e = .returned (.tuple #[(iv r.1), .nilIface]) ∧ SP S w0 W [Qs g1 93 #[(pt g1 0), (lv h r.2 j)], Vh 5 eU8 h j r.2]) := by
 unfold Y5 at H
 refine Qt (n := 19) Tryz.func57 K K K ?_
 have u := hO
 refine aC ?_
 refine iR 2 2 [(4, (iv 0)), (5, .nilIface)] ?_
 refine iF ?_
 refine aC ?_
 refine iR 1 1 [(6, (pt g1 0))] ?_
 refine iS 2 ?_
 refine cF 105 #[(.tmp 6)] #[91] 7 Tryz.call105 (Lj (g := g1) (v := v2) (x := (lv A5 q4 c6)) t u (i := 0) rfl) ?_
 rintro e w ⟨rfl, o⟩
 refine ⟨_, rfl, ?_⟩
 have p : SP S w0 w [Qs g1 93 #[(pt g1 0), (lv A5 q4 c6)], Vh 5 eU8 A5 c6 q4] := o
 clear o
 refine iF ?_
 refine aC ?_
 refine iR 4 4 [(8, (pt g1 0)), (9, (pt g1 0)), (10, (pt g1 0)), (11, (pt g1 1))] ?_
 refine jL 5 48 11 g1 1 0 (lv A5 q4 c6) 12 p rfl ?_
 refine iR 1 6 [(13, (sv p7))] ?_
 obtain ⟨hl26, H⟩ := Zx H
 obtain ⟨q, hyl27⟩ : ∃ y, q4 ++ p7 = y := ⟨_, rfl⟩
 try rw [hyl27] at H
 refine iS 7 ?_
 refine Qx.append (e := eU8) (l := q4) (m := p7) (A := A5) (c := c6) (T := 48) (TX := 9) (E := 5) (b := 1) (s := (.tmp 12)) (x := (.tmp 13)) (i := 1) (vx := (sv p7)) (d := (some 14)) (k := 6) K rfl K K K K rfl p rfl (src_str K p7) hl26 ?_
 rw [hyl27]
 intro a f a1 z
 refine iR 2 9 [(15, (pt g1 0)), (16, (pt g1 1))] ?_
 refine iS 10 ?_
 refine zT 48 (.tmp 16) (.tmp 14) g1 1 0 (lv a q f) #[(pt g1 0), (lv a q f)] none z ?_
 intro a2 a0
 refine iF ?_
 refine aC ?_
 refine iR 4 4 [(17, (sv p7)), (18, (iv (ln p7))), (4, (iv (ln p7))), (5, .nilIface)] ?_
 refine iF ?_
 refine At.ret K ?_
 refine ⟨(.tuple #[(iv (ln p7)), .nilIface]), K, ?_⟩
 obtain rfl := Qe H
 exact ⟨a, f, rfl, SP.sel a0 [0,1] rfl rfl⟩
def J6 (p1 : (List (List UInt8))) (q8 : (List UInt8)) : Option ((List UInt8)) :=
  ((G2 p1 ([32] : List UInt8)).bind fun a => ((app a ([10] : List UInt8)).bind fun b => ((Y5 q8 b).bind fun c => (some (c.2)))))
set_option maxHeartbeats 40000000 in
theorem N9 {S : List Nat} (A2 : Option Addr) (c3 : Nat) (g5 : Nat) (v6 : Value) (A9 : Option Addr) (c : Nat) (p1 : (List Bs)) (q8 : Bs) (w0 : World) (hO : SP S w0 w0 [Qs g5 93 #[v6, (lv A9 q8 c)], Vh 5 eU8 A9 c q8]) (q : ∀ w, Mod S w0 w → RdT Qj w A2 c3 p1) (s : BP g5 v6) (r : (Bs)) (H : J6 p1 q8 = some r) :
  Calls Tryz.prog 56 #[(lv A2 p1 c3), (pt g5 0)] w0 (fun e W => ∃ (j : Option Addr) (l : Nat), e = .returned (.tuple #[]) ∧ SP S w0 W [Qs g5 93 #[(pt g5 0), (lv j r l)], Vh 5 eU8 j l r]) := by
 unfold J6 at H
 refine Qt (n := 7) Tryz.func56 K K K ?_
 have m := hO
 refine aR ?_
 refine iR 1 1 [(3, (lv A2 p1 c3))] ?_
 obtain ⟨f, t, H⟩ := Qd H
 refine iS 2 ?_
 refine cS m 58 #[(.tmp 3), (.const (.string ⟨List.toArray ([32] : Bs)⟩))] #[79, 9] 4 Tryz.call58 (Bz A2 c3 p1 ([32] : Bs) w0 (q w0 (SP.mod m)) f t) ?_
 intro u o
 obtain ⟨hl36, H⟩ := Zx H
 obtain ⟨v, hyl35⟩ : ∃ y, f ++ ([10] : Bs) = y := ⟨_, rfl⟩
 rw [hyl35] at H
 refine iS 3 ?_
 refine Yn (T := 9) (T' := 9) (x := (.tmp 4)) (y := (.const (.string ⟨List.toArray ([10] : Bs)⟩))) (a := f) (b := ([10] : Bs)) (d := (some 5)) (k := 2) K rfl K K hl36 ?_
 rw [hyl35]
 obtain ⟨g, z, H⟩ := Qd H
 refine iS 4 ?_
 refine cF 57 #[(.tmp 1), (.tmp 5)] #[93, 9] 6 Tryz.call57 (Dg g5 v6 A9 c q8 v u (Ru o [0, 1] rfl rfl) s g z) ?_
 rintro e a0 ⟨h, i, rfl, p⟩
 refine ⟨_, rfl, ?_⟩
 have a1 : SP S w0 a0 [Qs g5 93 #[(pt g5 0), (lv h g.2 i)], Vh 5 eU8 h i g.2] := Jq o [0, 1] [] rfl rfl p rfl
 clear p
 refine iF ?_
 refine ⟨(.tuple #[]), K, ?_⟩
 obtain rfl := Qe H
 exact ⟨h, i, rfl, SP.sel a1 [0,1] rfl rfl⟩
def Jz (e : (List UInt8) → Int → Option ((List UInt8))) (k : (List UInt8) → Int → Option ((List UInt8))) (f : (List UInt8) → Int → Option ((List UInt8))) (g : Int) (c : Qb) (d : (List UInt8)) (b : Int) : Option ((List UInt8)) :=
  (cond (decide (b < ((List.length c.2.2.2.2 : Nat) : Int))) ((idx c.2.2.2.2 b).bind fun a => ((chk (Nat.ble (List.length a.2.1) 281474976710656)).bind fun _ => ((Bi a.2.1).bind fun h => ((Xv a.2.2).bind fun i => ((J6 ([([116, 111, 107, 101, 110] : List UInt8), a.1, h, i] : List (List UInt8)) d).bind fun j => (f j (IntKind.wrap .i64 (b + 1)))))))) (e d (IntKind.wrap .i64 (g + 1))))
def J0 (a : (List UInt8) → Int → Option ((List UInt8))) (b : (List UInt8) → Int → Option ((List UInt8))) (c : Int) (d : Qb) : Nat → (List UInt8) → Int → Option ((List UInt8))
  | 0, _, _ => none
  | f + 1, e, g => Jz a b (J0 a b c d f) c d e g
def J1 (f : (List UInt8) → Int → Option ((List UInt8))) (c : (List UInt8) → Int → Option ((List UInt8))) (g : Int) (a : Qb) (d : (List UInt8)) (b : Int) : Option ((List UInt8)) :=
  (cond (decide (b < ((List.length a.2.2.2.1 : Nat) : Int))) ((idx a.2.2.2.1 b).bind fun e => ((G5 e.1 e.2).bind fun h => ((J6 ([([110, 101, 116] : List UInt8), h] : List (List UInt8)) d).bind fun i => (c i (IntKind.wrap .i64 (b + 1)))))) (J0 f c g a Zj d 0))
def Zq (a : (List UInt8) → Int → Option ((List UInt8))) (b : Int) (c : Qb) : Nat → (List UInt8) → Int → Option ((List UInt8))
  | 0, _, _ => none
  | f + 1, d, e => J1 a (Zq a b c f) b c d e
def J2 (e : (List UInt8) → Int → Option ((List UInt8))) (c : (List Qb)) (d : (List UInt8)) (b : Int) : Option ((List UInt8)) :=
  (cond (decide (b < ((List.length c : Nat) : Int))) ((idx c b).bind fun a => ((Xv a.2.1).bind fun f => ((Xv a.2.2.1).bind fun g => ((J6 ([([116, 101, 110, 97, 110, 116] : List UInt8), a.1, f, g] : List (List UInt8)) d).bind fun h => (Zq e b a Zj h 0))))) (some (d)))
def Vg (a : (List Qb)) : Nat → (List UInt8) → Int → Option ((List UInt8))
  | 0, _, _ => none
  | f + 1, b, c => J2  (Vg a f) a b c
def G6 (a : Int) (b : Int) (c : Int) (d : Int) (e : (List Qb)) : Option ((List UInt8)) :=
  ((Jo a b c d e).bind fun f => (cond (!f) (some (([] : List UInt8))) ((Xv a).bind fun g => ((Xv b).bind fun h => ((Xv c).bind fun i => ((Xv d).bind fun j => ((J6 ([([116, 105, 109, 101, 115] : List UInt8), g, h, i, j] : List (List UInt8)) ([] : List UInt8)).bind fun k => (Vg e Zj k 0))))))))
set_option maxHeartbeats 40000000 in
theorem Y9 (A6 : Option Addr) (c7 : Nat) (b6 : Int) (b0 : Int) (a9 : Int) (a8 : Int) (d9 : (List Qg)) (w0 : World) (hL : Be w0) (c6 : (dDS Vu Fv).ok w0 (A6, c7, d9)) (r : (Bs)) (H : G6 b6 b0 a9 a8 (mT d9) = some r) :
  Calls Tryz.prog 24 #[(.agg #[(iv b6), (iv b0), (iv a9), (iv a8), (lv A6 (mT d9) c7)])] w0 (fun e W => e = .returned (sv r) ∧ SP [] w0 W []) := by
 unfold G6 at H
 refine Qt (n := 83) Tryz.func24 K K K ?_
 have l7 := Qw [] w0
 refine aC ?_
 refine iS 1 ?_
 refine zB 24 (.tmp 0) (.agg #[(iv b6), (iv b0), (iv a9), (iv a8), (lv A6 (mT d9) c7)]) 1 l7 ?_
 intro y l8 e6
 refine iR 1 2 [(2, (sv ([] : Bs)))] ?_
 refine iF ?_
 refine aQ ?_
 refine aC ?_
 refine jL 1 24 1 y 0 0 (.agg #[(iv b6), (iv b0), (iv a9), (iv a8), (lv A6 (mT d9) c7)]) 11 e6 rfl ?_
 obtain ⟨h7, l9, H⟩ := Qd H
 refine iS 2 ?_
 refine cS e6 22 #[(.tmp 11)] #[24] 12 Tryz.call22 (Za A6 c7 b6 b0 a9 a8 d9 l8 (Q4 hL (SP.keeps e6)) (Dp.sp c6 e6) h7 l9) ?_
 intro x0 h8
 refine iR 1 3 [(13, (bv (!h7)))] ?_
 refine iF ?_
 refine cD 13 H (fun H => ?_) fun H => ?_
 ·refine aC ?_
  refine iR 1 1 [(2, (sv ([] : Bs)))] ?_
  refine iF ?_
  refine At.ret K ?_
  refine ⟨(sv ([] : Bs)), K, ?_⟩
  obtain rfl := Qe H
  exact ⟨rfl, SP.sel h8 [] rfl rfl⟩
 refine At.skip K ?_
 refine aC ?_
 refine iS 1 ?_
 refine zA 93 (.agg #[(.pointer none), (lv none ([] : Bs) 0)]) 3 h8 ?_
 intro p x1 m0
 refine iF ?_
 refine aC ?_
 refine iR 2 2 [(14, (.func (.func 56) #[] #[(pt p 0)])), (4, (.func (.func 56) #[] #[(pt p 0)]))] ?_
 refine iF ?_
 refine aQ ?_
 obtain ⟨s, m1, H⟩ := Qd H
 obtain ⟨u, m2, H⟩ := Qd H
 obtain ⟨z, m3, H⟩ := Qd H
 obtain ⟨a0, m4, H⟩ := Qd H
 obtain ⟨d1, m5, H⟩ := Qd H
 refine aG [GEq (.func (.func 56) #[] #[(pt p 0)]), GEq (pt y 0), GEq (iv b6), GEq (sv s), GEq (pt y 1), GEq (iv b0), GEq (sv u), GEq (pt y 2), GEq (iv a9), GEq (sv z), GEq (pt y 3), GEq (iv a8), GEq (sv a0), Ry, GEq (.tuple #[])] [3, 6, 9, 12, 13, 14] ((fun (X0 X1 : Ent) => [([], fun vs w => VL vs [] ∧ SP [] w0 w [X0, X1]), ([3], fun vs w => VL vs [(sv s)] ∧ SP [] w0 w [X0, X1]), ([3, 6], fun vs w => VL vs [(sv s), (sv u)] ∧ SP [] w0 w [X0, X1]), ([3, 6, 9], fun vs w => VL vs [(sv s), (sv u), (sv z)] ∧ SP [] w0 w [X0, X1]), ([3, 6, 9, 12], fun vs w => VL vs [(sv s), (sv u), (sv z), (sv a0)] ∧ SP [] w0 w [X0, X1]), ([3, 6, 9, 12, 13], fun vs w => ∃ (c0 : Nat), VL vs [(sv s), (sv u), (sv z), (sv a0), (lv (some ⟨c0, 0, none⟩) ([([116, 105, 109, 101, 115] : Bs), s, u, z, a0] : List Bs) (List.length ([([116, 105, 109, 101, 115] : Bs), s, u, z, a0] : List Bs)))] ∧ SP [] w0 w [X0, X1, Vh 9 Qj (some ⟨c0, 0, none⟩) (List.length ([([116, 105, 109, 101, 115] : Bs), s, u, z, a0] : List Bs)) ([([116, 105, 109, 101, 115] : Bs), s, u, z, a0] : List Bs)]), ([3, 6, 9, 12, 13, 14], fun vs w => ∃ (f6 : Nat), ∃ (e7 : Option Addr), ∃ (e8 : Nat), VL vs [(sv s), (sv u), (sv z), (sv a0), (lv (some ⟨f6, 0, none⟩) ([([116, 105, 109, 101, 115] : Bs), s, u, z, a0] : List Bs) (List.length ([([116, 105, 109, 101, 115] : Bs), s, u, z, a0] : List Bs))), (.tuple #[])] ∧ SP [] w0 w [X0, Vh 9 Qj (some ⟨f6, 0, none⟩) (List.length ([([116, 105, 109, 101, 115] : Bs), s, u, z, a0] : List Bs)) ([([116, 105, 109, 101, 115] : Bs), s, u, z, a0] : List Bs), Qs p 93 #[(pt p 0), (lv e7 d1 e8)], Vh 5 eU8 e7 e8 d1])]) (Qs y 24 #[(iv b6), (iv b0), (iv a9), (iv a8), (lv A6 (mT d9) c7)]) (Qs p 93 #[(.pointer none), (lv none ([] : Bs) 0)])) 15 6 ⟨trivial, SP.drew m0⟩ ?_ ?_
 iterate 15 refine And.intro ?_ ?_
 exact trivial
 ·exact oU (hC (hS 4 (.func (.func 56) #[] #[(pt p 0)])) (h0))
 ·exact oU (hC (hS 1 (pt y 0)) (h0))
 ·refine oL 0 ?_
  rintro P W hs o ⟨-, m6⟩
  refine kM (kc (kA o 1 16) k0) fun m => ?_
  refine sL 2 16 y 0 0 (iv b6) 17 m6 rfl ?_
  exact eK m
 ·refine oH 0 1 ?_
  rintro P W hs o ⟨-, h9⟩
  refine kM (kc (kA o 2 17) k0) fun m => ?_
  refine cS h9 59 #[(.tmp 17)] #[2] 18 Tryz.call59 (Z2  b6 W (Q4 hL (SP.keeps h9)) s m1) ?_
  intro x2 m7
  refine ⟨_, Qa m, rfl, ?_⟩
  exact (ai (ai rfl (trivial)) m7)
 ·exact oU (hC (hS 1 (pt y 0)) (h0))
 ·refine Owe.light K [0, 1] K (Qc ?_ (Qc ?_ Qq))
  ·rintro P W hs o ⟨-, m8⟩
   refine kM (kc (kA o 4 19) k0) fun m => ?_
   refine sL 2 19 y 1 0 (iv b0) 20 m8 rfl ?_
   exact eK m
  rintro P W hs o ⟨⟨x3, -⟩, m9⟩
  refine kM (kc (kA o 4 19) k0) fun m => ?_
  refine sL 2 19 y 1 0 (iv b0) 20 m9 rfl ?_
  exact eK m
 ·refine oH 1 2 ?_
  rintro P W hs o ⟨⟨n0, -⟩, i0⟩
  refine kM (kc (kA o 5 20) k0) fun m => ?_
  refine cS i0 59 #[(.tmp 20)] #[2] 21 Tryz.call59 (Z2  b0 W (Q4 hL (SP.keeps i0)) u m2) ?_
  intro x4 n1
  refine ⟨_, Qa m, rfl, ?_⟩
  exact (ai (ai n0 (ai rfl (trivial))) n1)
 ·exact oU (hC (hS 1 (pt y 0)) (h0))
 ·refine Owe.light K [0, 1, 2] K (Qc ?_ (Qc ?_ (Qc ?_ Qq)))
  ·rintro P W hs o ⟨-, n2⟩
   refine kM (kc (kA o 7 22) k0) fun m => ?_
   refine sL 2 22 y 2 0 (iv a9) 23 n2 rfl ?_
   exact eK m
  ·rintro P W hs o ⟨⟨x5, -⟩, n3⟩
   refine kM (kc (kA o 7 22) k0) fun m => ?_
   refine sL 2 22 y 2 0 (iv a9) 23 n3 rfl ?_
   exact eK m
  rintro P W hs o ⟨⟨x6, x7, -⟩, n4⟩
  refine kM (kc (kA o 7 22) k0) fun m => ?_
  refine sL 2 22 y 2 0 (iv a9) 23 n4 rfl ?_
  exact eK m
 ·refine oH 2 3 ?_
  rintro P W hs o ⟨⟨n5, n6, -⟩, i1⟩
  refine kM (kc (kA o 8 23) k0) fun m => ?_
  refine cS i1 59 #[(.tmp 23)] #[2] 24 Tryz.call59 (Z2  a9 W (Q4 hL (SP.keeps i1)) z m3) ?_
  intro x8 n7
  refine ⟨_, Qa m, rfl, ?_⟩
  exact (ai (ai n5 (ai n6 (ai rfl (trivial)))) n7)
 ·exact oU (hC (hS 1 (pt y 0)) (h0))
 ·refine Owe.light K [0, 1, 2, 3] K (Qc ?_ (Qc ?_ (Qc ?_ (Qc ?_ Qq))))
  ·rintro P W hs o ⟨-, n8⟩
   refine kM (kc (kA o 10 25) k0) fun m => ?_
   refine sL 2 25 y 3 0 (iv a8) 26 n8 rfl ?_
   exact eK m
  ·rintro P W hs o ⟨⟨x9, -⟩, n9⟩
   refine kM (kc (kA o 10 25) k0) fun m => ?_
   refine sL 2 25 y 3 0 (iv a8) 26 n9 rfl ?_
   exact eK m
  ·rintro P W hs o ⟨⟨y0, y1, -⟩, o0⟩
   refine kM (kc (kA o 10 25) k0) fun m => ?_
   refine sL 2 25 y 3 0 (iv a8) 26 o0 rfl ?_
   exact eK m
  rintro P W hs o ⟨⟨y2, y3, y4, -⟩, o1⟩
  refine kM (kc (kA o 10 25) k0) fun m => ?_
  refine sL 2 25 y 3 0 (iv a8) 26 o1 rfl ?_
  exact eK m
 ·refine oH 3 4 ?_
  rintro P W hs o ⟨⟨o2, o3, o4, -⟩, i2⟩
  refine kM (kc (kA o 11 26) k0) fun m => ?_
  refine cS i2 59 #[(.tmp 26)] #[2] 27 Tryz.call59 (Z2  a8 W (Q4 hL (SP.keeps i2)) a0 m4) ?_
  intro y5 o5
  refine ⟨_, Qa m, rfl, ?_⟩
  exact (ai (ai o2 (ai o3 (ai o4 (ai rfl (trivial))))) o5)
 ·refine oH 4 5 ?_
  rintro P W hs o ⟨⟨i3, i4, i5, i6, -⟩, o6⟩
  refine kN [(18, (sv s)), (21, (sv u)), (24, (sv z)), (27, (sv a0))] ⟨(Qr (h := 3) K).symm.trans i3, (Qr (h := 6) K).symm.trans i4, (Qr (h := 9) K).symm.trans i5, (Qr (h := 12) K).symm.trans i6, trivial⟩ fun m => ?_
  refine zN Qj 79 9 5 #[(0, (.const (.string ⟨List.toArray ([116, 105, 109, 101, 115] : Bs)⟩))), (1, (.tmp 18)), (2, (.tmp 21)), (3, (.tmp 24)), (4, (.tmp 27))] #[(sv ([116, 105, 109, 101, 115] : Bs)), (sv s), (sv u), (sv z), (sv a0)] ([([116, 105, 109, 101, 115] : Bs), s, u, z, a0] : List Bs) 28 o6 ?_
  intro o7 y6 o8
  refine ⟨_, Qa m, trivial, ?_⟩
  exact (ei o7 (ai (ai i3 (ai i4 (ai i5 (ai i6 (ai rfl (trivial)))))) o8))
 ·refine oH 5 6 ?_
  rintro P W hs o ⟨c0, ⟨o9, p0, p1, p2, i7, -⟩, p3⟩
  refine kN [(15, (.func (.func 56) #[] #[(pt p 0)])), (28, (lv (some ⟨c0, 0, none⟩) ([([116, 105, 109, 101, 115] : Bs), s, u, z, a0] : List Bs) (List.length ([([116, 105, 109, 101, 115] : Bs), s, u, z, a0] : List Bs))))] ⟨o 0 15 K, (Qr (h := 13) K).symm.trans i7, trivial⟩ fun m => ?_
  have f7 : SP [] w0 W [Qs y 24 #[(iv b6), (iv b0), (iv a9), (iv a8), (lv A6 (mT d9) c7)], Qs p 93 #[(.pointer none), (lv none ([] : Bs) 0)], Vh 9 Qj (some ⟨c0, 0, none⟩) (List.length ([([116, 105, 109, 101, 115] : Bs), s, u, z, a0] : List Bs)) ([([116, 105, 109, 101, 115] : Bs), s, u, z, a0] : List Bs), Vh 5 eU8 none 0 ([] : Bs)] := Nu p3 5 eU8
  refine Uo (f := 56) (fo := (.tmp 15)) (xs := #[(.tmp 28)]) (tys := #[79]) (first := #[]) (captured := #[(pt p 0)]) (d := (some 29)) (k := 14) K rfl K K Tryz.call56 (N9 (some ⟨c0, 0, none⟩) (List.length ([([116, 105, 109, 101, 115] : Bs), s, u, z, a0] : List Bs)) p (.pointer none) none 0 ([([116, 105, 109, 101, 115] : Bs), s, u, z, a0] : List Bs) ([] : Bs) W (Ru f7 [1, 3] rfl rfl) (fun w hm => (Qz (SP.still f7 (l := [1, 3]) (i := 2) rfl rfl rfl hm))) (.inl rfl) d1 m5) ?_
  rintro e p4 ⟨f8, f9, rfl, i8⟩
  refine ⟨_, rfl, ?_⟩
  have p5 : SP [] w0 p4 [Qs y 24 #[(iv b6), (iv b0), (iv a9), (iv a8), (lv A6 (mT d9) c7)], Vh 9 Qj (some ⟨c0, 0, none⟩) (List.length ([([116, 105, 109, 101, 115] : Bs), s, u, z, a0] : List Bs)) ([([116, 105, 109, 101, 115] : Bs), s, u, z, a0] : List Bs), Qs p 93 #[(pt p 0), (lv f8 d1 f9)], Vh 5 eU8 f8 f9 d1] := Jq f7 [1, 3] [0, 2] rfl rfl i8 rfl
  clear i8
  refine ⟨_, Qa m, rfl, ?_⟩
  exact (ei c0 (ei f8 (ei f9 (ai (ai o9 (ai p0 (ai p1 (ai p2 (ai i7 (ai rfl (trivial))))))) p5))))
 rintro P y7 hs hf ⟨f6, e7, e8, ⟨y8, y9, z0, z1, z2, z3, -⟩, i9⟩
 refine Qy _ (kc (kT hs 1 (pt y 0)) (kc (kT hs 3 (pt p 0)) (kc (kT hs 4 (.func (.func 56) #[] #[(pt p 0)])) k0))) ?_
 refine aQ ?_
 refine aC ?_
 refine iR 1 1 [(30, (pt y 4))] ?_
 refine jL 2 22 30 y 4 0 (lv A6 (mT d9) c7) 31 i9 rfl ?_
 refine iR 2 4 [(32, (iv (ln (mT d9)))), (33, (iv 0))] ?_
 refine iF ?_
 refine Z3 K (id := 0) K ?_
 refine Gm K (fun b1 ρ w => ∃ (b2 : Bs) (a1 : Int) (c1 : Option Addr) (c2 : Nat), Vq ρ [(3, (pt p 0)), (4, (.func (.func 56) #[] #[(pt p 0)])), (31, (lv A6 (mT d9) c7)), (32, (iv (ln (mT d9)))), (33, (iv a1))] ∧ SP [] w0 w [Vh 5 eU8 c1 c2 b2, Qs p 93 #[(pt p 0), (lv c1 b2 c2)]] ∧ Vg (mT d9) b1 b2 a1 = some r) (by rintro ρ w ⟨b2, a1, c1, c2, hk, hs, H⟩; cases H) ?_ Zj ?_
 ·rintro b1 ρ z4 ⟨b2, a1, c1, c2, hk, e9, H⟩
  refine At.known _ hk ?_
  replace H := (show J2 (Vg (mT d9) b1) (mT d9) b2 a1 = some r from H)
  unfold J2 at H
  refine aC ?_
  refine iR 1 1 [(34, (bv (decide (a1 < (ln (mT d9))))))] ?_
  refine iF ?_
  refine aQ ?_
  refine cD 34 H (fun H => ?_) fun H => ?_
  ·refine At.skip K ?_
   refine aQ ?_
   refine Z3 K (id := 1) K ?_
   refine aC ?_
   obtain ⟨a, j0, j1, e0, H⟩ := J9 H
   refine iS 1 ?_
   refine Xd stT (e := Vu) (l := d9) (A := A6) (c := c7) (T := 22) (E := 33) (x := (.tmp 31)) (ix := (.tmp 33)) (ki := .i64) (iz := a1) (d := (some 35)) (k := 0) K rfl K K K K (RdT.sp (Zh c6) e9) j0 j1 ?_
   intro p6 p7 p8 z5 hc10395
   refine iS 2 ?_
   refine Qx.cells (t := 33) (x := (.tmp 35)) (b := p6) (off := (p7 + Int.toNat a1 * Vu.sz)) (xs := [(sv (stT a).1), (iv (stT a).2.1), (iv (stT a).2.2.1), (lv a.2.2.2.1.1 (stT a).2.2.2.1 a.2.2.2.1.2.1), (lv a.2.2.2.2.1 (stT a).2.2.2.2 a.2.2.2.2.2.1)]) (d := (some 36)) (k := 1) K rfl K K K (Vd (e := Vu) (Qh (RdT.sp (Zh c6) e9) p8 j0 j1) e0 rfl) ?_
   refine iS 3 ?_
   refine zA 33 (.agg #[(sv ([] : Bs)), (iv 0), (iv 0), (lv none ([] : List (Int × Int)) 0), (lv none ([] : List Tk) 0)]) 6 e9 ?_
   intro a2 z6 p9
   refine iS 4 ?_
   refine zT 33 (.tmp 6) (.tmp 36) a2 0 2 (.agg #[(sv (stT a).1), (iv (stT a).2.1), (iv (stT a).2.2.1), (lv a.2.2.2.1.1 (stT a).2.2.2.1 a.2.2.2.1.2.1), (lv a.2.2.2.2.1 (stT a).2.2.2.2 a.2.2.2.2.2.1)]) #[(sv (stT a).1), (iv (stT a).2.1), (iv (stT a).2.2.1), (lv a.2.2.2.1.1 (stT a).2.2.2.1 a.2.2.2.1.2.1), (lv a.2.2.2.2.1 (stT a).2.2.2.2 a.2.2.2.2.2.1)] none p9 ?_
   intro z7 q0
   refine iF ?_
   refine aQ ?_
   obtain ⟨a3, q1, H⟩ := Qd H
   obtain ⟨a5, q2, H⟩ := Qd H
   obtain ⟨d2, q3, H⟩ := Qd H
   refine aG [GEq (.func (.func 56) #[] #[(pt p 0)]), GEq (pt a2 0), GEq (sv (stT a).1), GEq (pt a2 1), GEq (iv (stT a).2.1), GEq (sv a3), GEq (pt a2 2), GEq (iv (stT a).2.2.1), GEq (sv a5), Ry, GEq (.tuple #[])] [5, 8, 9, 10] ((fun (X0 X1 X2 : Ent) => [([], fun vs w => VL vs [] ∧ SP [] w0 w [X0, X1, X2]), ([5], fun vs w => VL vs [(sv a3)] ∧ SP [] w0 w [X0, X1, X2]), ([5, 8], fun vs w => VL vs [(sv a3), (sv a5)] ∧ SP [] w0 w [X0, X1, X2]), ([5, 8, 9], fun vs w => ∃ (c8 : Nat), VL vs [(sv a3), (sv a5), (lv (some ⟨c8, 0, none⟩) ([([116, 101, 110, 97, 110, 116] : Bs), (stT a).1, a3, a5] : List Bs) (List.length ([([116, 101, 110, 97, 110, 116] : Bs), (stT a).1, a3, a5] : List Bs)))] ∧ SP [] w0 w [X0, X1, X2, Vh 9 Qj (some ⟨c8, 0, none⟩) (List.length ([([116, 101, 110, 97, 110, 116] : Bs), (stT a).1, a3, a5] : List Bs)) ([([116, 101, 110, 97, 110, 116] : Bs), (stT a).1, a3, a5] : List Bs)]), ([5, 8, 9, 10], fun vs w => ∃ (g0 : Nat), ∃ (f0 : Option Addr), ∃ (f1 : Nat), VL vs [(sv a3), (sv a5), (lv (some ⟨g0, 0, none⟩) ([([116, 101, 110, 97, 110, 116] : Bs), (stT a).1, a3, a5] : List Bs) (List.length ([([116, 101, 110, 97, 110, 116] : Bs), (stT a).1, a3, a5] : List Bs))), (.tuple #[])] ∧ SP [] w0 w [X2, Vh 9 Qj (some ⟨g0, 0, none⟩) (List.length ([([116, 101, 110, 97, 110, 116] : Bs), (stT a).1, a3, a5] : List Bs)) ([([116, 101, 110, 97, 110, 116] : Bs), (stT a).1, a3, a5] : List Bs), Qs p 93 #[(pt p 0), (lv f0 d2 f1)], Vh 5 eU8 f0 f1 d2])]) (Vh 5 eU8 c1 c2 b2) (Qs p 93 #[(pt p 0), (lv c1 b2 c2)]) (Qs a2 33 #[(sv (stT a).1), (iv (stT a).2.1), (iv (stT a).2.2.1), (lv a.2.2.2.1.1 (stT a).2.2.2.1 a.2.2.2.1.2.1), (lv a.2.2.2.2.1 (stT a).2.2.2.2 a.2.2.2.2.2.1)])) 11 4 ⟨trivial, SP.drew q0⟩ ?_ ?_
   iterate 11 refine And.intro ?_ ?_
   exact trivial
   ·exact oU (hC (hS 4 (.func (.func 56) #[] #[(pt p 0)])) (h0))
   ·exact oU (hC (hS 6 (pt a2 0)) (h0))
   ·refine Owe.light K [0, 1, 2] K (Qc ?_ (Qc ?_ (Qc ?_ Qq)))
    ·rintro P W hs o ⟨-, q4⟩
     refine kM (kc (kA o 1 38) k0) fun m => ?_
     refine sL 9 38 a2 0 2 (sv (stT a).1) 39 q4 rfl ?_
     exact eK m
    ·rintro P W hs o ⟨⟨z8, -⟩, q5⟩
     refine kM (kc (kA o 1 38) k0) fun m => ?_
     refine sL 9 38 a2 0 2 (sv (stT a).1) 39 q5 rfl ?_
     exact eK m
    rintro P W hs o ⟨⟨z9, aa0, -⟩, q6⟩
    refine kM (kc (kA o 1 38) k0) fun m => ?_
    refine sL 9 38 a2 0 2 (sv (stT a).1) 39 q6 rfl ?_
    exact eK m
   ·exact oU (hC (hS 6 (pt a2 0)) (h0))
   ·refine oL 0 ?_
    rintro P W hs o ⟨-, q7⟩
    refine kM (kc (kA o 3 40) k0) fun m => ?_
    refine sL 3 40 a2 1 2 (iv (stT a).2.1) 41 q7 rfl ?_
    exact eK m
   ·refine oH 0 1 ?_
    rintro P W hs o ⟨-, j2⟩
    refine kM (kc (kA o 4 41) k0) fun m => ?_
    refine cS j2 59 #[(.tmp 41)] #[2] 42 Tryz.call59 (Z2  (stT a).2.1 W (Q4 hL (SP.keeps j2)) a3 q1) ?_
    intro aa1 q8
    refine ⟨_, Qa m, rfl, ?_⟩
    exact (ai (ai rfl (trivial)) q8)
   ·exact oU (hC (hS 6 (pt a2 0)) (h0))
   ·refine Owe.light K [0, 1] K (Qc ?_ (Qc ?_ Qq))
    ·rintro P W hs o ⟨-, q9⟩
     refine kM (kc (kA o 6 43) k0) fun m => ?_
     refine sL 3 43 a2 2 2 (iv (stT a).2.2.1) 44 q9 rfl ?_
     exact eK m
    rintro P W hs o ⟨⟨aa2, -⟩, r0⟩
    refine kM (kc (kA o 6 43) k0) fun m => ?_
    refine sL 3 43 a2 2 2 (iv (stT a).2.2.1) 44 r0 rfl ?_
    exact eK m
   ·refine oH 1 2 ?_
    rintro P W hs o ⟨⟨r1, -⟩, j3⟩
    refine kM (kc (kA o 7 44) k0) fun m => ?_
    refine cS j3 59 #[(.tmp 44)] #[2] 45 Tryz.call59 (Z2  (stT a).2.2.1 W (Q4 hL (SP.keeps j3)) a5 q2) ?_
    intro aa3 r2
    refine ⟨_, Qa m, rfl, ?_⟩
    exact (ai (ai r1 (ai rfl (trivial))) r2)
   ·refine oH 2 3 ?_
    rintro P W hs o ⟨⟨j4, j5, -⟩, r3⟩
    refine kN [(39, (sv (stT a).1)), (42, (sv a3)), (45, (sv a5))] ⟨o 2 39 K, (Qr (h := 5) K).symm.trans j4, (Qr (h := 8) K).symm.trans j5, trivial⟩ fun m => ?_
    refine zN Qj 79 9 4 #[(0, (.const (.string ⟨List.toArray ([116, 101, 110, 97, 110, 116] : Bs)⟩))), (1, (.tmp 39)), (2, (.tmp 42)), (3, (.tmp 45))] #[(sv ([116, 101, 110, 97, 110, 116] : Bs)), (sv (stT a).1), (sv a3), (sv a5)] ([([116, 101, 110, 97, 110, 116] : Bs), (stT a).1, a3, a5] : List Bs) 46 r3 ?_
    intro r4 aa4 r5
    refine ⟨_, Qa m, trivial, ?_⟩
    exact (ei r4 (ai (ai j4 (ai j5 (ai rfl (trivial)))) r5))
   ·refine oH 3 4 ?_
    rintro P W hs o ⟨c8, ⟨r6, r7, j6, -⟩, g1⟩
    refine kN [(37, (.func (.func 56) #[] #[(pt p 0)])), (46, (lv (some ⟨c8, 0, none⟩) ([([116, 101, 110, 97, 110, 116] : Bs), (stT a).1, a3, a5] : List Bs) (List.length ([([116, 101, 110, 97, 110, 116] : Bs), (stT a).1, a3, a5] : List Bs))))] ⟨o 0 37 K, (Qr (h := 9) K).symm.trans j6, trivial⟩ fun m => ?_
    refine Uo (f := 56) (fo := (.tmp 37)) (xs := #[(.tmp 46)]) (tys := #[79]) (first := #[]) (captured := #[(pt p 0)]) (d := (some 47)) (k := 10) K rfl K K Tryz.call56 (N9 (some ⟨c8, 0, none⟩) (List.length ([([116, 101, 110, 97, 110, 116] : Bs), (stT a).1, a3, a5] : List Bs)) p (pt p 0) c1 c2 ([([116, 101, 110, 97, 110, 116] : Bs), (stT a).1, a3, a5] : List Bs) b2 W (Ru g1 [1, 0] rfl rfl) (fun w hm => (Qz (SP.still g1 (l := [1, 0]) (i := 3) rfl rfl rfl hm))) (.inr rfl) d2 q3) ?_
    rintro e r8 ⟨g2, g3, rfl, j7⟩
    refine ⟨_, rfl, ?_⟩
    have r9 : SP [] w0 r8 [Qs a2 33 #[(sv (stT a).1), (iv (stT a).2.1), (iv (stT a).2.2.1), (lv a.2.2.2.1.1 (stT a).2.2.2.1 a.2.2.2.1.2.1), (lv a.2.2.2.2.1 (stT a).2.2.2.2 a.2.2.2.2.2.1)], Vh 9 Qj (some ⟨c8, 0, none⟩) (List.length ([([116, 101, 110, 97, 110, 116] : Bs), (stT a).1, a3, a5] : List Bs)) ([([116, 101, 110, 97, 110, 116] : Bs), (stT a).1, a3, a5] : List Bs), Qs p 93 #[(pt p 0), (lv g2 d2 g3)], Vh 5 eU8 g2 g3 d2] := Jq g1 [1, 0] [2, 3] rfl rfl j7 rfl
    clear j7
    refine ⟨_, Qa m, rfl, ?_⟩
    exact (ei c8 (ei g2 (ei g3 (ai (ai r6 (ai r7 (ai j6 (ai rfl (trivial))))) r9))))
   rintro P aa5 hs hf ⟨g0, f0, f1, ⟨aa6, aa7, aa8, aa9, -⟩, j8⟩
   refine Qy _ (kc (kT hs 3 (pt p 0)) (kc (kT hs 4 (.func (.func 56) #[] #[(pt p 0)])) (kc (kT hs 6 (pt a2 0)) (kc (kT hs 31 (lv A6 (mT d9) c7)) (kc (kT hs 32 (iv (ln (mT d9)))) (kc (kT hs 33 (iv a1)) k0)))))) ?_
   refine aQ ?_
   refine aC ?_
   refine iR 1 1 [(48, (pt a2 3))] ?_
   refine jL 2 30 48 a2 3 0 (lv a.2.2.2.1.1 (stT a).2.2.2.1 a.2.2.2.1.2.1) 49 j8 rfl ?_
   refine iR 2 4 [(50, (iv (ln (stT a).2.2.2.1))), (51, (iv 0))] ?_
   refine iF ?_
   refine Z3 K (id := 2) K ?_
   refine Gm K (fun d3 ρ w => ∃ (c3 : Bs) (b7 : Int) (d4 : Option Addr) (d5 : Nat), Vq ρ [(3, (pt p 0)), (4, (.func (.func 56) #[] #[(pt p 0)])), (6, (pt a2 0)), (31, (lv A6 (mT d9) c7)), (32, (iv (ln (mT d9)))), (33, (iv a1)), (49, (lv a.2.2.2.1.1 (stT a).2.2.2.1 a.2.2.2.1.2.1)), (50, (iv (ln (stT a).2.2.2.1))), (51, (iv b7))] ∧ SP [] w0 w [Vh 5 eU8 d4 d5 c3, Qs p 93 #[(pt p 0), (lv d4 c3 d5)], Qs a2 33 #[(sv (stT a).1), (iv (stT a).2.1), (iv (stT a).2.2.1), (lv a.2.2.2.1.1 (stT a).2.2.2.1 a.2.2.2.1.2.1), (lv a.2.2.2.2.1 (stT a).2.2.2.2 a.2.2.2.2.2.1)]] ∧ Zq (Vg (mT d9) b1) a1 (stT a) d3 c3 b7 = some r) (by rintro ρ w ⟨c3, b7, d4, d5, hk, hs, H⟩; cases H) ?_ Zj ?_
   ·rintro d3 ρ ab0 ⟨c3, b7, d4, d5, hk, e1, H⟩
    refine At.known _ hk ?_
    replace H := (show J1 (Vg (mT d9) b1) (Zq (Vg (mT d9) b1) a1 (stT a) d3) a1 (stT a) c3 b7 = some r from H)
    unfold J1 at H
    refine aC ?_
    refine iR 1 1 [(52, (bv (decide (b7 < (ln (stT a).2.2.2.1)))))] ?_
    refine iF ?_
    refine aQ ?_
    refine cD 52 H (fun H => ?_) fun H => ?_
    ·refine At.skip K ?_
     refine aQ ?_
     refine Z3 K (id := 3) K ?_
     refine aC ?_
     obtain ⟨b3, j9, k1, s0, H⟩ := Qu H
     refine jE 1 (Qf (Qv .u32) (Qv .i64)) ((stT a).2.2.2.1) a.2.2.2.1.1 a.2.2.2.1.2.1 30 102 (.tmp 49) (.tmp 51) b7 53 (RdT.sp (Zh (dp1 (dp2 (dp2 (dp2 (Gd c6 e0)))))) e1) j9 k1 ?_
     intro s1 s2 s3 ab1 hc12962
     refine iS 2 ?_
     refine Qx.cells (t := 102) (x := (.tmp 53)) (b := s1) (off := (s2 + Int.toNat b7 * (Qf (Qv .u32) (Qv .i64)).sz)) (xs := [(.int .u32 b3.1), (iv b3.2)]) (d := (some 54)) (k := 1) K rfl K K K (Vd (e := (Qf (Qv .u32) (Qv .i64))) (Qh (RdT.sp (Zh (dp1 (dp2 (dp2 (dp2 (Gd c6 e0)))))) e1) s3 j9 k1) s0 rfl) ?_
     refine iS 3 ?_
     refine zA 102 (.agg #[(.int .u32 0), (iv 0)]) 8 e1 ?_
     intro g4 ab2 s4
     refine iS 4 ?_
     refine zT 102 (.tmp 8) (.tmp 54) g4 0 3 (.agg #[(.int .u32 b3.1), (iv b3.2)]) #[(.int .u32 b3.1), (iv b3.2)] none s4 ?_
     intro s5 g5
     refine iF ?_
     refine aR ?_
     refine iR 1 1 [(55, (.func (.func 56) #[] #[(pt p 0)]))] ?_
     refine jL 2 102 8 g4 0 3 (.agg #[(.int .u32 b3.1), (iv b3.2)]) 56 g5 rfl ?_
     obtain ⟨c9, s6, H⟩ := Qd H
     refine iS 3 ?_
     refine cS g5 60 #[(.tmp 56)] #[102] 57 Tryz.call60 (B1  b3.1 b3.2 s5 (Q4 hL (SP.keeps g5)) c9 s6) ?_
     intro ab3 s7
     refine iS 4 ?_
     refine zN Qj 79 9 2 #[(0, (.const (.string ⟨List.toArray ([110, 101, 116] : Bs)⟩))), (1, (.tmp 57))] #[(sv ([110, 101, 116] : Bs)), (sv c9)] ([([110, 101, 116] : Bs), c9] : List Bs) 58 s7 ?_
     intro k2 s8 g6
     obtain ⟨f2, s9, H⟩ := Qd H
     refine iS 5 ?_
     refine Uo (f := 56) (fo := (.tmp 55)) (xs := #[(.tmp 58)]) (tys := #[79]) (first := #[]) (captured := #[(pt p 0)]) (d := (some 59)) (k := 4) K rfl K K Tryz.call56 (N9 (some ⟨k2, 0, none⟩) (List.length ([([110, 101, 116] : Bs), c9] : List Bs)) p (pt p 0) d4 d5 ([([110, 101, 116] : Bs), c9] : List Bs) c3 s8 (Ru g6 [1, 0] rfl rfl) (fun w hm => (Qz (SP.still g6 (l := [1, 0]) (i := 4) rfl rfl rfl hm))) (.inr rfl) f2 s9) ?_
     rintro e t0 ⟨g7, g8, rfl, k3⟩
     refine ⟨_, rfl, ?_⟩
     have t1 : SP [] w0 t0 [Qs a2 33 #[(sv (stT a).1), (iv (stT a).2.1), (iv (stT a).2.2.1), (lv a.2.2.2.1.1 (stT a).2.2.2.1 a.2.2.2.1.2.1), (lv a.2.2.2.2.1 (stT a).2.2.2.2 a.2.2.2.2.2.1)], Qs g4 102 #[(.int .u32 b3.1), (iv b3.2)], Vh 9 Qj (some ⟨k2, 0, none⟩) (List.length ([([110, 101, 116] : Bs), c9] : List Bs)) ([([110, 101, 116] : Bs), c9] : List Bs), Qs p 93 #[(pt p 0), (lv g7 f2 g8)], Vh 5 eU8 g7 g8 f2] := Jq g6 [1, 0] [2, 3, 4] rfl rfl k3 rfl
     clear k3
     refine iF ?_
     refine aR ?_
     refine iR 2 2 [(60, (iv (IntKind.wrap .i64 (b7 + 1)))), (51, (iv (IntKind.wrap .i64 (b7 + 1))))] ?_
     refine iF ?_
     exact ⟨f2, (IntKind.wrap .i64 (b7 + 1)), g7, g8, ⟨K, K, K, K, K, K, K, K, K, trivial⟩, SP.sel t1 [4, 3, 0] rfl rfl, H⟩
    refine At.exit K (id := 2) K ?_
    refine aC ?_
    refine iR 1 1 [(61, (pt a2 4))] ?_
    refine jL 2 31 61 a2 4 2 (lv a.2.2.2.2.1 (stT a).2.2.2.2 a.2.2.2.2.2.1) 62 e1 rfl ?_
    refine iR 2 4 [(63, (iv (ln (stT a).2.2.2.2))), (64, (iv 0))] ?_
    refine iF ?_
    refine Z3 K (id := 4) K ?_
    refine Gm K (fun g9 ρ w => ∃ (b4 : Bs) (b5 : Int) (b8 : Option Addr) (b9 : Nat), Vq ρ [(3, (pt p 0)), (4, (.func (.func 56) #[] #[(pt p 0)])), (31, (lv A6 (mT d9) c7)), (32, (iv (ln (mT d9)))), (33, (iv a1)), (62, (lv a.2.2.2.2.1 (stT a).2.2.2.2 a.2.2.2.2.2.1)), (63, (iv (ln (stT a).2.2.2.2))), (64, (iv b5))] ∧ SP [] w0 w [Vh 5 eU8 b8 b9 b4, Qs p 93 #[(pt p 0), (lv b8 b4 b9)]] ∧ J0 (Vg (mT d9) b1) (Zq (Vg (mT d9) b1) a1 (stT a) d3) a1 (stT a) g9 b4 b5 = some r) (by rintro ρ w ⟨b4, b5, b8, b9, hk, hs, H⟩; cases H) ?_ Zj ?_
    ·rintro g9 ρ ab4 ⟨b4, b5, b8, b9, hk, f3, H⟩
     refine At.known _ hk ?_
     replace H := (show Jz (Vg (mT d9) b1) (Zq (Vg (mT d9) b1) a1 (stT a) d3) (J0 (Vg (mT d9) b1) (Zq (Vg (mT d9) b1) a1 (stT a) d3) a1 (stT a) g9) a1 (stT a) b4 b5 = some r from H)
     unfold Jz at H
     refine aC ?_
     refine iR 1 1 [(65, (bv (decide (b5 < (ln (stT a).2.2.2.2)))))] ?_
     refine iF ?_
     refine aQ ?_
     refine cD 65 H (fun H => ?_) fun H => ?_
     ·refine At.skip K ?_
      refine aQ ?_
      refine Z3 K (id := 5) K ?_
      refine aC ?_
      obtain ⟨q, k4, k5, t2, H⟩ := Qu H
      refine jE 1 (Qf Qj (Qf Qj (Qv .i64))) ((stT a).2.2.2.2) a.2.2.2.2.1 a.2.2.2.2.2.1 31 37 (.tmp 62) (.tmp 64) b5 66 (RdT.sp (Zh (dp2 (dp2 (dp2 (dp2 (Gd c6 e0)))))) f3) k4 k5 ?_
      intro t3 t4 t5 ab5 hc13578
      refine iS 2 ?_
      refine Qx.cells (t := 37) (x := (.tmp 66)) (b := t3) (off := (t4 + Int.toNat b5 * (Qf Qj (Qf Qj (Qv .i64))).sz)) (xs := [(sv q.1), (sv q.2.1), (iv q.2.2)]) (d := (some 67)) (k := 1) K rfl K K K (Vd (e := (Qf Qj (Qf Qj (Qv .i64)))) (Qh (RdT.sp (Zh (dp2 (dp2 (dp2 (dp2 (Gd c6 e0)))))) f3) t5 k4 k5) t2 rfl) ?_
      refine iS 3 ?_
      refine zA 37 (.agg #[(sv ([] : Bs)), (sv ([] : Bs)), (iv 0)]) 10 f3 ?_
      intro a7 ab6 t6
      refine iS 4 ?_
      refine zT 37 (.tmp 10) (.tmp 67) a7 0 2 (.agg #[(sv q.1), (sv q.2.1), (iv q.2.2)]) #[(sv q.1), (sv q.2.1), (iv q.2.2)] none t6 ?_
      intro ab7 t7
      refine iF ?_
      obtain ⟨t8, H⟩ := Dh H
      obtain ⟨a4, t9, H⟩ := Qd H
      obtain ⟨a6, u0, H⟩ := Qd H
      obtain ⟨d6, u1, H⟩ := Qd H
      refine aG [GEq (.func (.func 56) #[] #[(pt p 0)]), GEq (pt a7 0), GEq (sv q.1), GEq (pt a7 1), GEq (sv q.2.1), Ry, GEq (sv a4), GEq (pt a7 2), GEq (iv q.2.2), GEq (sv a6), Ry, GEq (.tuple #[])] [5, 6, 9, 10, 11] ((fun (X0 X1 X2 : Ent) => [([], fun vs w => VL vs [] ∧ SP [] w0 w [X0, X1, X2]), ([5], fun vs w => ∃ (c4 : Nat), ∃ (c5 : Nat), VL vs [(lv (some ⟨c4, 0, none⟩) q.2.1 c5)] ∧ SP [] w0 w [X0, X1, X2, rdE eU8 (some ⟨c4, 0, none⟩) c5 q.2.1]), ([5, 6], fun vs w => ∃ (d7 : Nat), ∃ (d8 : Nat), VL vs [(lv (some ⟨d7, 0, none⟩) q.2.1 d8), (sv a4)] ∧ SP [] w0 w [X0, X1, X2, rdE eU8 (some ⟨d7, 0, none⟩) d8 q.2.1]), ([5, 6, 9], fun vs w => ∃ (e2 : Nat), ∃ (e3 : Nat), VL vs [(lv (some ⟨e2, 0, none⟩) q.2.1 e3), (sv a4), (sv a6)] ∧ SP [] w0 w [X0, X1, X2, rdE eU8 (some ⟨e2, 0, none⟩) e3 q.2.1]), ([5, 6, 9, 10], fun vs w => ∃ (e4 : Nat), ∃ (e5 : Nat), ∃ (d0 : Nat), VL vs [(lv (some ⟨e4, 0, none⟩) q.2.1 e5), (sv a4), (sv a6), (lv (some ⟨d0, 0, none⟩) ([([116, 111, 107, 101, 110] : Bs), q.1, a4, a6] : List Bs) (List.length ([([116, 111, 107, 101, 110] : Bs), q.1, a4, a6] : List Bs)))] ∧ SP [] w0 w [X0, X1, X2, rdE eU8 (some ⟨e4, 0, none⟩) e5 q.2.1, Vh 9 Qj (some ⟨d0, 0, none⟩) (List.length ([([116, 111, 107, 101, 110] : Bs), q.1, a4, a6] : List Bs)) ([([116, 111, 107, 101, 110] : Bs), q.1, a4, a6] : List Bs)]), ([5, 6, 9, 10, 11], fun vs w => ∃ (h1 : Nat), ∃ (h2 : Nat), ∃ (h3 : Nat), ∃ (f4 : Option Addr), ∃ (f5 : Nat), VL vs [(lv (some ⟨h1, 0, none⟩) q.2.1 h2), (sv a4), (sv a6), (lv (some ⟨h3, 0, none⟩) ([([116, 111, 107, 101, 110] : Bs), q.1, a4, a6] : List Bs) (List.length ([([116, 111, 107, 101, 110] : Bs), q.1, a4, a6] : List Bs))), (.tuple #[])] ∧ SP [] w0 w [X2, rdE eU8 (some ⟨h1, 0, none⟩) h2 q.2.1, Vh 9 Qj (some ⟨h3, 0, none⟩) (List.length ([([116, 111, 107, 101, 110] : Bs), q.1, a4, a6] : List Bs)) ([([116, 111, 107, 101, 110] : Bs), q.1, a4, a6] : List Bs), Qs p 93 #[(pt p 0), (lv f4 d6 f5)], Vh 5 eU8 f4 f5 d6])]) (Vh 5 eU8 b8 b9 b4) (Qs p 93 #[(pt p 0), (lv b8 b4 b9)]) (Qs a7 37 #[(sv q.1), (sv q.2.1), (iv q.2.2)])) 12 5 ⟨trivial, SP.drew t7⟩ ?_ ?_
      iterate 12 refine And.intro ?_ ?_
      exact trivial
      ·exact oU (hC (hS 4 (.func (.func 56) #[] #[(pt p 0)])) (h0))
      ·exact oU (hC (hS 10 (pt a7 0)) (h0))
      ·refine Owe.light K [0, 1, 2, 3] K (Qc ?_ (Qc ?_ (Qc ?_ (Qc ?_ Qq))))
       ·rintro P W hs o ⟨-, u2⟩
        refine kM (kc (kA o 1 69) k0) fun m => ?_
        refine sL 9 69 a7 0 2 (sv q.1) 70 u2 rfl ?_
        exact eK m
       ·rintro P W hs o ⟨c4, c5, ⟨ab8, -⟩, u3⟩
        refine kM (kc (kA o 1 69) k0) fun m => ?_
        refine sL 9 69 a7 0 2 (sv q.1) 70 u3 rfl ?_
        exact eK m
       ·rintro P W hs o ⟨d7, d8, ⟨ab9, ac0, -⟩, u4⟩
        refine kM (kc (kA o 1 69) k0) fun m => ?_
        refine sL 9 69 a7 0 2 (sv q.1) 70 u4 rfl ?_
        exact eK m
       rintro P W hs o ⟨e2, e3, ⟨ac1, ac2, ac3, -⟩, u5⟩
       refine kM (kc (kA o 1 69) k0) fun m => ?_
       refine sL 9 69 a7 0 2 (sv q.1) 70 u5 rfl ?_
       exact eK m
      ·exact oU (hC (hS 10 (pt a7 0)) (h0))
      ·refine oL 0 ?_
       rintro P W hs o ⟨-, u6⟩
       refine kM (kc (kA o 3 71) k0) fun m => ?_
       refine sL 9 71 a7 1 2 (sv q.2.1) 72 u6 rfl ?_
       exact eK m
      ·refine oH 0 1 ?_
       rintro P W hs o ⟨-, u7⟩
       refine kM (kc (kA o 4 72) k0) fun m => ?_
       refine Fa (S' := 9) (T := 48) (E := 5) (x := (.tmp 72)) (l := q.2.1) (d := (some 73)) (k := 5) K rfl K K K K (Fc t8) u7 ?_
       intro k6 k7 u8 k8 _
       have u9 : SP [] w0 u8 [Vh 5 eU8 b8 b9 b4, Qs p 93 #[(pt p 0), (lv b8 b4 b9)], Qs a7 37 #[(sv q.1), (sv q.2.1), (iv q.2.2)], rdE eU8 (some ⟨k6, 0, none⟩) k7 q.2.1] := k8
       clear k8
       refine ⟨_, Qa m, trivial, ?_⟩
       exact (ei k6 (ei k7 (ai (ai rfl (trivial)) u9)))
      ·refine oH 1 2 ?_
       rintro P W hs o ⟨c4, c5, ⟨k9, -⟩, l0⟩
       refine kN [(73, (lv (some ⟨c4, 0, none⟩) q.2.1 c5))] ⟨(Qr (h := 5) K).symm.trans k9, trivial⟩ fun m => ?_
       refine cS l0 61 #[(.tmp 73)] #[48] 74 Tryz.call61 (Id (some ⟨c4, 0, none⟩) c5 q.2.1 W (So (SP.get l0 (i := 3) rfl)) a4 t9) ?_
       intro ac4 v0
       refine ⟨_, Qa m, rfl, ?_⟩
       exact (ei c4 (ei c5 (ai (ai k9 (ai rfl (trivial))) v0)))
      ·exact oU (hC (hS 10 (pt a7 0)) (h0))
      ·refine Owe.light K [0, 1, 2] K (Qc ?_ (Qc ?_ (Qc ?_ Qq)))
       ·rintro P W hs o ⟨-, v1⟩
        refine kM (kc (kA o 7 75) k0) fun m => ?_
        refine sL 2 75 a7 2 2 (iv q.2.2) 76 v1 rfl ?_
        exact eK m
       ·rintro P W hs o ⟨c4, c5, ⟨ac5, -⟩, v2⟩
        refine kM (kc (kA o 7 75) k0) fun m => ?_
        refine sL 2 75 a7 2 2 (iv q.2.2) 76 v2 rfl ?_
        exact eK m
       rintro P W hs o ⟨d7, d8, ⟨ac6, ac7, -⟩, v3⟩
       refine kM (kc (kA o 7 75) k0) fun m => ?_
       refine sL 2 75 a7 2 2 (iv q.2.2) 76 v3 rfl ?_
       exact eK m
      ·refine oH 2 3 ?_
       rintro P W hs o ⟨d7, d8, ⟨v4, v5, -⟩, l1⟩
       refine kM (kc (kA o 8 76) k0) fun m => ?_
       refine cS l1 59 #[(.tmp 76)] #[2] 77 Tryz.call59 (Z2  q.2.2 W (Q4 hL (SP.keeps l1)) a6 u0) ?_
       intro ac8 v6
       refine ⟨_, Qa m, rfl, ?_⟩
       exact (ei d7 (ei d8 (ai (ai v4 (ai v5 (ai rfl (trivial)))) v6)))
      ·refine oH 3 4 ?_
       rintro P W hs o ⟨e2, e3, ⟨v7, l2, l3, -⟩, v8⟩
       refine kN [(70, (sv q.1)), (74, (sv a4)), (77, (sv a6))] ⟨o 2 70 K, (Qr (h := 6) K).symm.trans l2, (Qr (h := 9) K).symm.trans l3, trivial⟩ fun m => ?_
       refine zN Qj 79 9 4 #[(0, (.const (.string ⟨List.toArray ([116, 111, 107, 101, 110] : Bs)⟩))), (1, (.tmp 70)), (2, (.tmp 74)), (3, (.tmp 77))] #[(sv ([116, 111, 107, 101, 110] : Bs)), (sv q.1), (sv a4), (sv a6)] ([([116, 111, 107, 101, 110] : Bs), q.1, a4, a6] : List Bs) 78 v8 ?_
       intro v9 ac9 w1
       refine ⟨_, Qa m, trivial, ?_⟩
       exact (ei e2 (ei e3 (ei v9 (ai (ai v7 (ai l2 (ai l3 (ai rfl (trivial))))) w1))))
      ·refine oH 4 5 ?_
       rintro P W hs o ⟨e4, e5, d0, ⟨w2, w3, w4, l4, -⟩, h4⟩
       refine kN [(68, (.func (.func 56) #[] #[(pt p 0)])), (78, (lv (some ⟨d0, 0, none⟩) ([([116, 111, 107, 101, 110] : Bs), q.1, a4, a6] : List Bs) (List.length ([([116, 111, 107, 101, 110] : Bs), q.1, a4, a6] : List Bs))))] ⟨o 0 68 K, (Qr (h := 10) K).symm.trans l4, trivial⟩ fun m => ?_
       refine Uo (f := 56) (fo := (.tmp 68)) (xs := #[(.tmp 78)]) (tys := #[79]) (first := #[]) (captured := #[(pt p 0)]) (d := (some 79)) (k := 11) K rfl K K Tryz.call56 (N9 (some ⟨d0, 0, none⟩) (List.length ([([116, 111, 107, 101, 110] : Bs), q.1, a4, a6] : List Bs)) p (pt p 0) b8 b9 ([([116, 111, 107, 101, 110] : Bs), q.1, a4, a6] : List Bs) b4 W (Ru h4 [1, 0] rfl rfl) (fun w hm => (Qz (SP.still h4 (l := [1, 0]) (i := 4) rfl rfl rfl hm))) (.inr rfl) d6 u1) ?_
       rintro e w5 ⟨h5, h6, rfl, l5⟩
       refine ⟨_, rfl, ?_⟩
       have w6 : SP [] w0 w5 [Qs a7 37 #[(sv q.1), (sv q.2.1), (iv q.2.2)], rdE eU8 (some ⟨e4, 0, none⟩) e5 q.2.1, Vh 9 Qj (some ⟨d0, 0, none⟩) (List.length ([([116, 111, 107, 101, 110] : Bs), q.1, a4, a6] : List Bs)) ([([116, 111, 107, 101, 110] : Bs), q.1, a4, a6] : List Bs), Qs p 93 #[(pt p 0), (lv h5 d6 h6)], Vh 5 eU8 h5 h6 d6] := Jq h4 [1, 0] [2, 3, 4] rfl rfl l5 rfl
       clear l5
       refine ⟨_, Qa m, rfl, ?_⟩
       exact (ei e4 (ei e5 (ei d0 (ei h5 (ei h6 (ai (ai w2 (ai w3 (ai w4 (ai l4 (ai rfl (trivial)))))) w6))))))
      rintro P ad0 hs hf ⟨h1, h2, h3, f4, f5, ⟨ad1, ad2, ad3, ad4, ad5, -⟩, w7⟩
      refine Qy _ (kc (kT hs 3 (pt p 0)) (kc (kT hs 4 (.func (.func 56) #[] #[(pt p 0)])) (kc (kT hs 31 (lv A6 (mT d9) c7)) (kc (kT hs 32 (iv (ln (mT d9)))) (kc (kT hs 33 (iv a1)) (kc (kT hs 62 (lv a.2.2.2.2.1 (stT a).2.2.2.2 a.2.2.2.2.2.1)) (kc (kT hs 63 (iv (ln (stT a).2.2.2.2))) (kc (kT hs 64 (iv b5)) k0)))))))) ?_
      refine aR ?_
      refine iR 2 2 [(80, (iv (IntKind.wrap .i64 (b5 + 1)))), (64, (iv (IntKind.wrap .i64 (b5 + 1))))] ?_
      refine iF ?_
      exact ⟨d6, (IntKind.wrap .i64 (b5 + 1)), f4, f5, ⟨K, K, K, K, K, K, K, K, trivial⟩, SP.sel w7 [4, 3] rfl rfl, H⟩
     refine At.exit K (id := 4) K ?_
     refine aR ?_
     refine iR 2 2 [(81, (iv (IntKind.wrap .i64 (a1 + 1)))), (33, (iv (IntKind.wrap .i64 (a1 + 1))))] ?_
     refine iF ?_
     exact ⟨b4, (IntKind.wrap .i64 (a1 + 1)), b8, b9, ⟨K, K, K, K, K, trivial⟩, SP.sel f3 [0, 1] rfl rfl, H⟩
    exact ⟨c3, 0, d4, d5, ⟨K, K, K, K, K, K, K, K, trivial⟩, SP.sel e1 [0, 1] rfl rfl, H⟩
   exact ⟨d2, 0, f0, f1, ⟨K, K, K, K, K, K, K, K, K, trivial⟩, SP.sel j8 [3, 2, 0] rfl rfl, H⟩
  refine At.exit K (id := 0) K ?_
  refine aC ?_
  refine iS 1 ?_
  refine cF 62 #[(.tmp 3)] #[93] 82 Tryz.call62 (Ty (g := p) (v := (pt p 0)) (A := c1) (c := c2) (l := b2) e9 (i := 1) (j := 0) rfl rfl (by decide) (.inr rfl)) ?_
  rintro e w8 ⟨rfl, l6⟩
  refine ⟨_, rfl, ?_⟩
  have w9 : SP [] w0 w8 [] := l6
  clear l6
  refine iR 1 2 [(2, (sv b2))] ?_
  refine iF ?_
  refine At.ret K ?_
  refine ⟨(sv b2), K, ?_⟩
  obtain rfl := Qe H
  exact ⟨rfl, SP.sel w9 [] rfl rfl⟩
 exact ⟨d1, 0, e7, e8, ⟨K, K, K, K, K, trivial⟩, SP.sel i9 [3, 2] rfl rfl, H⟩
end Go.Proofs.YtoflbpmbkmephaaGreatDoor
