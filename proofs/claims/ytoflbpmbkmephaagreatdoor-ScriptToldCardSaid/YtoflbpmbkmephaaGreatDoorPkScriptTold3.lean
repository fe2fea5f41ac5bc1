import Derived.Test.YtoflbpmbkmephaaGreatDoorPkScriptTold2
set_option linter.unusedSimpArgs false
set_option linter.unusedVariables false
set_option linter.unusedSectionVars false
set_option maxRecDepth 100000
set_option maxHeartbeats 4000000
namespace Go.Proofs.YtoflbpmbkmephaaGreatDoor
open Go.RowKit
def Jf  : Option Unit :=
  (some ())
set_option maxHeartbeats 40000000 in
theorem Zw   (w0 : World)  (r : Unit) (H : Jf  = some r) :
  Calls Tryz.prog 69 #[] w0 (fun e w' => ∃ (g1 : Nat), e = .returned (.map (some g1)) ∧ SP [] w0 w' [Cu g1 R3]) := by
 unfold Jf at H
 refine Qg (n := 12) Tryz.func69 K K K ?_
 have a := Vc [] w0
 refine aQ ?_
 refine aR ?_
 refine iR 1 1 [(0, (.map none))] ?_
 refine iF ?_
 refine aQ ?_
 refine aR ?_
 refine iS 1 ?_
 refine Fj (T := 113) (dst := (some 1)) (o := 0) K rfl a ?_
 intro g2 w3 b
 refine iR 1 2 [(2, (.agg #[(.string ⟨List.toArray ([99, 111, 110, 110, 101, 99, 116] : List UInt8)⟩), (.func (.func 112) #[] #[]), (.func (.func 113) #[] #[])]))] ?_
 refine iS 3 ?_
 refine Yw (T := 113) (kt := 3) (et := 118) (m := g2) (L := []) (k := (.int .i64 1)) (v := (.agg #[(.string ⟨List.toArray ([99, 111, 110, 110, 101, 99, 116] : List UInt8)⟩), (.func (.func 112) #[] #[]), (.func (.func 113) #[] #[])])) (d := (.int .i64)) (x := (.tmp 1)) (ix := (.const (.int .i64 (1)))) (y := (.tmp 2)) (i := 0) (dst := none) (o := 2) K rfl K K K K K K K K b rfl ?_
 intro w6 c
 refine iR 1 4 [(3, (.agg #[(.string ⟨List.toArray ([98, 121, 116, 101, 115] : List UInt8)⟩), (.func (.func 116) #[] #[]), (.func (.func 117) #[] #[])]))] ?_
 refine iS 5 ?_
 refine Yw (T := 113) (kt := 3) (et := 118) (m := g2) (L := ([] ++ [((.int .i64 1), (.agg #[(.string ⟨List.toArray ([99, 111, 110, 110, 101, 99, 116] : List UInt8)⟩), (.func (.func 112) #[] #[]), (.func (.func 113) #[] #[])]))])) (k := (.int .i64 2)) (v := (.agg #[(.string ⟨List.toArray ([98, 121, 116, 101, 115] : List UInt8)⟩), (.func (.func 116) #[] #[]), (.func (.func 117) #[] #[])])) (d := (.int .i64)) (x := (.tmp 1)) (ix := (.const (.int .i64 (2)))) (y := (.tmp 3)) (i := 0) (dst := none) (o := 4) K rfl K K K K K K K K c rfl ?_
 intro w9 f
 refine iR 1 6 [(4, (.agg #[(.string ⟨List.toArray ([98, 117, 100, 103, 101, 116] : List UInt8)⟩), (.func (.func 118) #[] #[]), (.func (.func 119) #[] #[])]))] ?_
 refine iS 7 ?_
 refine Yw (T := 113) (kt := 3) (et := 118) (m := g2) (L := (([] ++ [((.int .i64 1), (.agg #[(.string ⟨List.toArray ([99, 111, 110, 110, 101, 99, 116] : List UInt8)⟩), (.func (.func 112) #[] #[]), (.func (.func 113) #[] #[])]))]) ++ [((.int .i64 2), (.agg #[(.string ⟨List.toArray ([98, 121, 116, 101, 115] : List UInt8)⟩), (.func (.func 116) #[] #[]), (.func (.func 117) #[] #[])]))])) (k := (.int .i64 3)) (v := (.agg #[(.string ⟨List.toArray ([98, 117, 100, 103, 101, 116] : List UInt8)⟩), (.func (.func 118) #[] #[]), (.func (.func 119) #[] #[])])) (d := (.int .i64)) (x := (.tmp 1)) (ix := (.const (.int .i64 (3)))) (y := (.tmp 4)) (i := 0) (dst := none) (o := 6) K rfl K K K K K K K K f rfl ?_
 intro t g
 refine iR 1 8 [(5, (.agg #[(.string ⟨List.toArray ([104, 97, 108, 102] : List UInt8)⟩), (.func (.func 120) #[] #[]), (.func (.func 121) #[] #[])]))] ?_
 refine iS 9 ?_
 refine Yw (T := 113) (kt := 3) (et := 118) (m := g2) (L := ((([] ++ [((.int .i64 1), (.agg #[(.string ⟨List.toArray ([99, 111, 110, 110, 101, 99, 116] : List UInt8)⟩), (.func (.func 112) #[] #[]), (.func (.func 113) #[] #[])]))]) ++ [((.int .i64 2), (.agg #[(.string ⟨List.toArray ([98, 121, 116, 101, 115] : List UInt8)⟩), (.func (.func 116) #[] #[]), (.func (.func 117) #[] #[])]))]) ++ [((.int .i64 3), (.agg #[(.string ⟨List.toArray ([98, 117, 100, 103, 101, 116] : List UInt8)⟩), (.func (.func 118) #[] #[]), (.func (.func 119) #[] #[])]))])) (k := (.int .i64 4)) (v := (.agg #[(.string ⟨List.toArray ([104, 97, 108, 102] : List UInt8)⟩), (.func (.func 120) #[] #[]), (.func (.func 121) #[] #[])])) (d := (.int .i64)) (x := (.tmp 1)) (ix := (.const (.int .i64 (4)))) (y := (.tmp 5)) (i := 0) (dst := none) (o := 8) K rfl K K K K K K K K g rfl ?_
 intro u h
 refine iR 1 10 [(6, (.agg #[(.string ⟨List.toArray ([114, 101, 115, 101, 116] : List UInt8)⟩), (.func (.func 122) #[] #[]), (.func (.func 123) #[] #[])]))] ?_
 refine iS 11 ?_
 refine Yw (T := 113) (kt := 3) (et := 118) (m := g2) (L := (((([] ++ [((.int .i64 1), (.agg #[(.string ⟨List.toArray ([99, 111, 110, 110, 101, 99, 116] : List UInt8)⟩), (.func (.func 112) #[] #[]), (.func (.func 113) #[] #[])]))]) ++ [((.int .i64 2), (.agg #[(.string ⟨List.toArray ([98, 121, 116, 101, 115] : List UInt8)⟩), (.func (.func 116) #[] #[]), (.func (.func 117) #[] #[])]))]) ++ [((.int .i64 3), (.agg #[(.string ⟨List.toArray ([98, 117, 100, 103, 101, 116] : List UInt8)⟩), (.func (.func 118) #[] #[]), (.func (.func 119) #[] #[])]))]) ++ [((.int .i64 4), (.agg #[(.string ⟨List.toArray ([104, 97, 108, 102] : List UInt8)⟩), (.func (.func 120) #[] #[]), (.func (.func 121) #[] #[])]))])) (k := (.int .i64 5)) (v := (.agg #[(.string ⟨List.toArray ([114, 101, 115, 101, 116] : List UInt8)⟩), (.func (.func 122) #[] #[]), (.func (.func 123) #[] #[])])) (d := (.int .i64)) (x := (.tmp 1)) (ix := (.const (.int .i64 (5)))) (y := (.tmp 6)) (i := 0) (dst := none) (o := 10) K rfl K K K K K K K K h rfl ?_
 intro w j
 refine iR 1 12 [(7, (.agg #[(.string ⟨List.toArray ([116, 105, 99, 107] : List UInt8)⟩), (.func (.func 124) #[] #[]), (.func (.func 125) #[] #[])]))] ?_
 refine iS 13 ?_
 refine Yw (T := 113) (kt := 3) (et := 118) (m := g2) (L := ((((([] ++ [((.int .i64 1), (.agg #[(.string ⟨List.toArray ([99, 111, 110, 110, 101, 99, 116] : List UInt8)⟩), (.func (.func 112) #[] #[]), (.func (.func 113) #[] #[])]))]) ++ [((.int .i64 2), (.agg #[(.string ⟨List.toArray ([98, 121, 116, 101, 115] : List UInt8)⟩), (.func (.func 116) #[] #[]), (.func (.func 117) #[] #[])]))]) ++ [((.int .i64 3), (.agg #[(.string ⟨List.toArray ([98, 117, 100, 103, 101, 116] : List UInt8)⟩), (.func (.func 118) #[] #[]), (.func (.func 119) #[] #[])]))]) ++ [((.int .i64 4), (.agg #[(.string ⟨List.toArray ([104, 97, 108, 102] : List UInt8)⟩), (.func (.func 120) #[] #[]), (.func (.func 121) #[] #[])]))]) ++ [((.int .i64 5), (.agg #[(.string ⟨List.toArray ([114, 101, 115, 101, 116] : List UInt8)⟩), (.func (.func 122) #[] #[]), (.func (.func 123) #[] #[])]))])) (k := (.int .i64 6)) (v := (.agg #[(.string ⟨List.toArray ([116, 105, 99, 107] : List UInt8)⟩), (.func (.func 124) #[] #[]), (.func (.func 125) #[] #[])])) (d := (.int .i64)) (x := (.tmp 1)) (ix := (.const (.int .i64 (6)))) (y := (.tmp 7)) (i := 0) (dst := none) (o := 12) K rfl K K K K K K K K j rfl ?_
 intro z l
 refine iR 1 14 [(8, (.agg #[(.string ⟨List.toArray ([114, 101, 118, 111, 107, 101] : List UInt8)⟩), (.func (.func 126) #[] #[]), (.func (.func 128) #[] #[])]))] ?_
 refine iS 15 ?_
 refine Yw (T := 113) (kt := 3) (et := 118) (m := g2) (L := (((((([] ++ [((.int .i64 1), (.agg #[(.string ⟨List.toArray ([99, 111, 110, 110, 101, 99, 116] : List UInt8)⟩), (.func (.func 112) #[] #[]), (.func (.func 113) #[] #[])]))]) ++ [((.int .i64 2), (.agg #[(.string ⟨List.toArray ([98, 121, 116, 101, 115] : List UInt8)⟩), (.func (.func 116) #[] #[]), (.func (.func 117) #[] #[])]))]) ++ [((.int .i64 3), (.agg #[(.string ⟨List.toArray ([98, 117, 100, 103, 101, 116] : List UInt8)⟩), (.func (.func 118) #[] #[]), (.func (.func 119) #[] #[])]))]) ++ [((.int .i64 4), (.agg #[(.string ⟨List.toArray ([104, 97, 108, 102] : List UInt8)⟩), (.func (.func 120) #[] #[]), (.func (.func 121) #[] #[])]))]) ++ [((.int .i64 5), (.agg #[(.string ⟨List.toArray ([114, 101, 115, 101, 116] : List UInt8)⟩), (.func (.func 122) #[] #[]), (.func (.func 123) #[] #[])]))]) ++ [((.int .i64 6), (.agg #[(.string ⟨List.toArray ([116, 105, 99, 107] : List UInt8)⟩), (.func (.func 124) #[] #[]), (.func (.func 125) #[] #[])]))])) (k := (.int .i64 7)) (v := (.agg #[(.string ⟨List.toArray ([114, 101, 118, 111, 107, 101] : List UInt8)⟩), (.func (.func 126) #[] #[]), (.func (.func 128) #[] #[])])) (d := (.int .i64)) (x := (.tmp 1)) (ix := (.const (.int .i64 (7)))) (y := (.tmp 8)) (i := 0) (dst := none) (o := 14) K rfl K K K K K K K K l rfl ?_
 intro a0 p
 refine iR 1 16 [(9, (.agg #[(.string ⟨List.toArray ([101, 118, 105, 99, 116] : List UInt8)⟩), (.func (.func 130) #[] #[]), (.func (.func 131) #[] #[])]))] ?_
 refine iS 17 ?_
 refine Yw (T := 113) (kt := 3) (et := 118) (m := g2) (L := ((((((([] ++ [((.int .i64 1), (.agg #[(.string ⟨List.toArray ([99, 111, 110, 110, 101, 99, 116] : List UInt8)⟩), (.func (.func 112) #[] #[]), (.func (.func 113) #[] #[])]))]) ++ [((.int .i64 2), (.agg #[(.string ⟨List.toArray ([98, 121, 116, 101, 115] : List UInt8)⟩), (.func (.func 116) #[] #[]), (.func (.func 117) #[] #[])]))]) ++ [((.int .i64 3), (.agg #[(.string ⟨List.toArray ([98, 117, 100, 103, 101, 116] : List UInt8)⟩), (.func (.func 118) #[] #[]), (.func (.func 119) #[] #[])]))]) ++ [((.int .i64 4), (.agg #[(.string ⟨List.toArray ([104, 97, 108, 102] : List UInt8)⟩), (.func (.func 120) #[] #[]), (.func (.func 121) #[] #[])]))]) ++ [((.int .i64 5), (.agg #[(.string ⟨List.toArray ([114, 101, 115, 101, 116] : List UInt8)⟩), (.func (.func 122) #[] #[]), (.func (.func 123) #[] #[])]))]) ++ [((.int .i64 6), (.agg #[(.string ⟨List.toArray ([116, 105, 99, 107] : List UInt8)⟩), (.func (.func 124) #[] #[]), (.func (.func 125) #[] #[])]))]) ++ [((.int .i64 7), (.agg #[(.string ⟨List.toArray ([114, 101, 118, 111, 107, 101] : List UInt8)⟩), (.func (.func 126) #[] #[]), (.func (.func 128) #[] #[])]))])) (k := (.int .i64 8)) (v := (.agg #[(.string ⟨List.toArray ([101, 118, 105, 99, 116] : List UInt8)⟩), (.func (.func 130) #[] #[]), (.func (.func 131) #[] #[])])) (d := (.int .i64)) (x := (.tmp 1)) (ix := (.const (.int .i64 (8)))) (y := (.tmp 9)) (i := 0) (dst := none) (o := 16) K rfl K K K K K K K K p rfl ?_
 intro a1 q
 refine iR 1 18 [(10, (.agg #[(.string ⟨List.toArray ([100, 114, 97, 105, 110] : List UInt8)⟩), (.func (.func 132) #[] #[]), (.func (.func 133) #[] #[])]))] ?_
 refine iS 19 ?_
 refine Yw (T := 113) (kt := 3) (et := 118) (m := g2) (L := (((((((([] ++ [((.int .i64 1), (.agg #[(.string ⟨List.toArray ([99, 111, 110, 110, 101, 99, 116] : List UInt8)⟩), (.func (.func 112) #[] #[]), (.func (.func 113) #[] #[])]))]) ++ [((.int .i64 2), (.agg #[(.string ⟨List.toArray ([98, 121, 116, 101, 115] : List UInt8)⟩), (.func (.func 116) #[] #[]), (.func (.func 117) #[] #[])]))]) ++ [((.int .i64 3), (.agg #[(.string ⟨List.toArray ([98, 117, 100, 103, 101, 116] : List UInt8)⟩), (.func (.func 118) #[] #[]), (.func (.func 119) #[] #[])]))]) ++ [((.int .i64 4), (.agg #[(.string ⟨List.toArray ([104, 97, 108, 102] : List UInt8)⟩), (.func (.func 120) #[] #[]), (.func (.func 121) #[] #[])]))]) ++ [((.int .i64 5), (.agg #[(.string ⟨List.toArray ([114, 101, 115, 101, 116] : List UInt8)⟩), (.func (.func 122) #[] #[]), (.func (.func 123) #[] #[])]))]) ++ [((.int .i64 6), (.agg #[(.string ⟨List.toArray ([116, 105, 99, 107] : List UInt8)⟩), (.func (.func 124) #[] #[]), (.func (.func 125) #[] #[])]))]) ++ [((.int .i64 7), (.agg #[(.string ⟨List.toArray ([114, 101, 118, 111, 107, 101] : List UInt8)⟩), (.func (.func 126) #[] #[]), (.func (.func 128) #[] #[])]))]) ++ [((.int .i64 8), (.agg #[(.string ⟨List.toArray ([101, 118, 105, 99, 116] : List UInt8)⟩), (.func (.func 130) #[] #[]), (.func (.func 131) #[] #[])]))])) (k := (.int .i64 9)) (v := (.agg #[(.string ⟨List.toArray ([100, 114, 97, 105, 110] : List UInt8)⟩), (.func (.func 132) #[] #[]), (.func (.func 133) #[] #[])])) (d := (.int .i64)) (x := (.tmp 1)) (ix := (.const (.int .i64 (9)))) (y := (.tmp 10)) (i := 0) (dst := none) (o := 18) K rfl K K K K K K K K q rfl ?_
 intro a2 s
 refine iR 2 21 [(11, (.map (some g2))), (0, (.map (some g2)))] ?_
 refine iF ?_
 refine At.ret K ?_
 refine ⟨(.map (some g2)), K, ?_⟩
 obtain rfl := Qc H
 exact ⟨g2, rfl, SP.sel s [0] rfl rfl⟩
def X6 (a : ((List (List UInt8)) × Bool × Int × Int × Int × (List UInt8) × Int × (List UInt8) × (List UInt8) × (List UInt8))) (b : Bool) : Option (Int × Int × Int × (List UInt8) × Int × (List UInt8) × (List UInt8) × (List UInt8) × Bool) :=
  (cond b (some (0, 0, 0, ([] : List UInt8), 0, ([] : List UInt8), ([] : List UInt8), ([] : List UInt8), false)) (some (a.2.2.1, a.2.2.2.1, a.2.2.2.2.1, a.2.2.2.2.2.1, a.2.2.2.2.2.2.1, a.2.2.2.2.2.2.2.1, a.2.2.2.2.2.2.2.2.1, a.2.2.2.2.2.2.2.2.2, true)))
def Yk (p1 : (List UInt8)) : Option (Int × Int × Int × (List UInt8) × Int × (List UInt8) × (List UInt8) × (List UInt8) × Bool) :=
  ((Xg p1 ([32] : List UInt8)).bind fun z6 => ((Qt z6 false).bind fun b => ((Jf ).bind fun d => (optE (kfind b.1) (some (0, 0, 0, ([] : List UInt8), 0, ([] : List UInt8), ([] : List UInt8), ([] : List UInt8), false)) (fun c => ((L_kget c b.2.1 b.2.2 c 0 0 ([] : List UInt8) 0 ([] : List UInt8) ([] : List UInt8) ([] : List UInt8)).bind fun a => (cond a.2.1 (X6 a true) (X6 a (decide (((List.length a.1 : Nat) : Int) > 0))))))))))
set_option maxHeartbeats 40000000 in
theorem Yn  (p1 : (List UInt8)) (w0 : World) (hL : X8 w0)  (r : (Int × Int × Int × (List UInt8) × Int × (List UInt8) × (List UInt8) × (List UInt8) × Bool)) (H : Yk p1 = some r) :
  Calls Tryz.prog 31 #[(.string ⟨List.toArray p1⟩)] w0 (fun e w' => e = .returned (.tuple #[(.agg #[(.int .i64 r.1), (.int .i64 r.2.1), (.int .u32 r.2.2.1), (.string ⟨List.toArray r.2.2.2.1⟩), (.int .i64 r.2.2.2.2.1), (.string ⟨List.toArray r.2.2.2.2.2.1⟩), (.string ⟨List.toArray r.2.2.2.2.2.2.1⟩), (.string ⟨List.toArray r.2.2.2.2.2.2.2.1⟩)]), (.bool r.2.2.2.2.2.2.2.2)]) ∧ SP [] w0 w' []) := by
 unfold Yk at H
 refine Qg (n := 47) Tryz.func31 K K K ?_
 have d2 := Vc [] w0
 refine aQ ?_
 refine aR ?_
 refine iS 1 ?_
 refine Qd.alloc (t := 52) (z := (.agg #[(.int .i64 0), (.int .i64 0), (.int .u32 0), (.string ⟨List.toArray ([] : List UInt8)⟩), (.int .i64 0), (.string ⟨List.toArray ([] : List UInt8)⟩), (.string ⟨List.toArray ([] : List UInt8)⟩), (.string ⟨List.toArray ([] : List UInt8)⟩)])) (d := (some 2)) (k := 0) K rfl K d2 ?_
 intro g2 w3 d3
 refine iR 1 2 [(3, (.bool false))] ?_
 refine iF ?_
 refine aQ ?_
 refine aR ?_
 refine iR 1 1 [(9, (.string ⟨List.toArray p1⟩))] ?_
 obtain ⟨z6, d4, H⟩ := Qa H
 refine iS 2 ?_
 refine cF 67 #[(.tmp 9), (.const (.string ⟨List.toArray ([32] : List UInt8)⟩))] #[9, 9] 10 Tryz.call67 (J1  p1 ([32] : List UInt8) w3  z6 d4) ?_
 rintro e w8 ⟨a1, a2, rfl, b7⟩
 refine ⟨_, rfl, ?_⟩
 have d5 := SP.call d3 b7
 clear b7
 refine iR 1 3 [(11, (.agg #[(.slice a1 (List.length z6) a2), (.bool false)]))] ?_
 refine iS 4 ?_
 refine V9 (t := 112) (x := (.tmp 11)) (v := (.agg #[(.slice a1 (List.length z6) a2), (.bool false)])) (d := (some 12)) (k := 3) K rfl K d5 ?_
 intro j b8 d6
 refine iR 1 5 [(4, (pt j 0))] ?_
 refine iF ?_
 refine aQ ?_
 refine aR ?_
 refine iR 1 1 [(13, (pt j 0))] ?_
 obtain ⟨p, d7, H⟩ := Qa H
 refine iS 2 ?_
 have b9 : SP [] w0 b8 [Qf g2 52 #[(.int .i64 0), (.int .i64 0), (.int .u32 0), (.string ⟨List.toArray ([] : List UInt8)⟩), (.int .i64 0), (.string ⟨List.toArray ([] : List UInt8)⟩), (.string ⟨List.toArray ([] : List UInt8)⟩), (.string ⟨List.toArray ([] : List UInt8)⟩)], rdE Qi a1 a2 z6, Qf j 112 #[(.slice a1 (List.length z6) a2), (.bool false)]] := E2 d6 (i := 1) rfl
 refine cF 68 #[(.tmp 13)] #[109] 14 Tryz.call68 (Q2 j a1 a2 z6 false b8 (Q4 b9 [2, 1] rfl rfl) p d7) ?_
 rintro e c0 ⟨a3, a4, rfl, c1⟩
 refine ⟨_, rfl, ?_⟩
 have d8 : SP [] w0 c0 [Qf g2 52 #[(.int .i64 0), (.int .i64 0), (.int .u32 0), (.string ⟨List.toArray ([] : List UInt8)⟩), (.int .i64 0), (.string ⟨List.toArray ([] : List UInt8)⟩), (.string ⟨List.toArray ([] : List UInt8)⟩), (.string ⟨List.toArray ([] : List UInt8)⟩)], Qf j 112 #[(.slice a3 (List.length p.2.1) a4), (.bool p.2.2)], rdE Qi a3 a4 p.2.1] := Qh b9 [2, 1] [0] rfl rfl c1 rfl
 clear c1
 refine iR 1 3 [(5, (.string ⟨List.toArray p.1⟩))] ?_
 refine iF ?_
 refine aQ ?_
 refine aQ ?_
 refine aR ?_
 obtain ⟨d9, e0, H⟩ := Qa H
 refine iS 1 ?_
 refine cF 69 #[] #[] 15 Tryz.call69 (Zw   c0  d9 e0) ?_
 rintro e f4 ⟨a8, rfl, c2⟩
 refine ⟨_, rfl, ?_⟩
 have e1 := SP.call d8 c2
 clear c2
 refine iS 2 ?_
 refine Em (kne p.1) (T := 113) (kt := 3) (et := 118) (m := a8) (L := R3) (x := (.tmp 15)) (i := 3) (dst := (some 16)) (o := 1) K rfl K K e1 rfl ?_
 intro a5 f5 e2
 refine iF ?_
 refine Um K (id := 0) K ?_
 refine D0 K (fun f ρ w => ∃ a9, V1 ρ [(2, (pt g2 0)), (4, (pt j 0)), (5, (.string ⟨List.toArray p.1⟩)), (16, (pt a5 0))] ∧ SP [] w0 w [Qf g2 52 #[(.int .i64 0), (.int .i64 0), (.int .u32 0), (.string ⟨List.toArray ([] : List UInt8)⟩), (.int .i64 0), (.string ⟨List.toArray ([] : List UInt8)⟩), (.string ⟨List.toArray ([] : List UInt8)⟩), (.string ⟨List.toArray ([] : List UInt8)⟩)], Qf j 112 #[(.slice a3 (List.length p.2.1) a4), (.bool p.2.2)], rdE Qi a3 a4 p.2.1, Fk a8 a5 R3 (kne p.1) a9] ∧ a9 < f) (by rintro ρ w ⟨q, _, _, hq⟩; exact absurd hq (Nat.not_lt_zero _)) ?_ ((List.length R3) + 1) ?_
 ·rintro f ρ f6 ⟨a9, e3, c3, e4⟩
  refine At.known [(2, (pt g2 0)), (4, (pt j 0)), (5, (.string ⟨List.toArray p.1⟩)), (16, (pt a5 0))] e3 ?_
  refine aQ ?_
  refine aR ?_
  refine iS 1 ?_
  refine Fl (x := (.tmp 16)) (dst := (some 17)) (o := 0) K rfl K c3 (i := 3) rfl (fun hall43 => ?_) (fun f7 e5 f8 e6 e7 c4 => ?_)
  ·rw [ktab_none hall43] at H
   have H := optN H
   refine iR 1 2 [(18, (.bool false))] ?_
   refine iF ?_
   refine aQ ?_
   refine Xe K (o := (.tmp 18)) K (b := false) K (fun c5 => ?_) (fun c5 => ?_)
   ·cases c5
   refine At.exit K (id := 0) K ?_
   refine aQ ?_
   refine aR ?_
   refine iR 1 1 [(46, (.agg #[(.int .i64 0), (.int .i64 0), (.int .u32 0), (.string ⟨List.toArray ([] : List UInt8)⟩), (.int .i64 0), (.string ⟨List.toArray ([] : List UInt8)⟩), (.string ⟨List.toArray ([] : List UInt8)⟩), (.string ⟨List.toArray ([] : List UInt8)⟩)]))] ?_
   refine iS 2 ?_
   refine Qd.store (t := 52) (x := (.tmp 2)) (y := (.tmp 46)) (g := g2) (off := 0) (i := 0) (v := (.agg #[(.int .i64 0), (.int .i64 0), (.int .u32 0), (.string ⟨List.toArray ([] : List UInt8)⟩), (.int .i64 0), (.string ⟨List.toArray ([] : List UInt8)⟩), (.string ⟨List.toArray ([] : List UInt8)⟩), (.string ⟨List.toArray ([] : List UInt8)⟩)])) (cs' := #[(.int .i64 0), (.int .i64 0), (.int .u32 0), (.string ⟨List.toArray ([] : List UInt8)⟩), (.int .i64 0), (.string ⟨List.toArray ([] : List UInt8)⟩), (.string ⟨List.toArray ([] : List UInt8)⟩), (.string ⟨List.toArray ([] : List UInt8)⟩)]) (d := none) (k := 1) K rfl K K c3 rfl K ?_
   intro f9 c6
   refine iR 1 3 [(3, (.bool false))] ?_
   refine iF ?_
   refine At.ret K ?_
   refine ⟨(.tuple #[(.agg #[(.int .i64 0), (.int .i64 0), (.int .u32 0), (.string ⟨List.toArray ([] : List UInt8)⟩), (.int .i64 0), (.string ⟨List.toArray ([] : List UInt8)⟩), (.string ⟨List.toArray ([] : List UInt8)⟩), (.string ⟨List.toArray ([] : List UInt8)⟩)]), (.bool false)]), res_2 K (Gt (a := 2) (t := 52) (g := g2) (off := 0) K (SP.get c6 (i := 0) rfl) K) (Ch (t := 3) K), ?_⟩
   obtain rfl := Qc H
   exact ⟨rfl, SP.sel c6 [] rfl rfl⟩
  ·obtain ⟨h, c7, rfl⟩ := ktab_mem e6
   refine iR 1 2 [(18, (.bool true))] ?_
   refine iF ?_
   refine aQ ?_
   refine Xe K (o := (.tmp 18)) K (b := true) K (fun c8 => ?_) (fun c8 => ?_)
   rotate_left
   ·cases c8
   refine At.skip K ?_
   refine Um K (id := 1) K ?_
   refine aQ ?_
   refine aR ?_
   refine iS 1 ?_
   refine En (x := (.tmp 16)) (dst := (some 19)) (o := 0) K rfl K (SP.get c4 (i := 3) rfl) ?_
   refine iR 2 3 [(20, (.int .i64 h)), (21, (.agg #[(.string ⟨List.toArray (Xs h)⟩), (.func (.func (J7 h)) #[] #[]), (.func (.func (J8 h)) #[] #[])]))] ?_
   refine iS 4 ?_
   refine Qd.alloc (t := 118) (z := (.agg #[(.string ⟨List.toArray ([] : List UInt8)⟩), .nilFunc, .nilFunc])) (d := (some 7)) (k := 3) K rfl K c4 ?_
   intro u g0 e8
   refine iR 1 5 [(6, (.int .i64 h))] ?_
   refine iS 6 ?_
   refine Qd.store (t := 118) (x := (.tmp 7)) (y := (.tmp 21)) (g := u) (off := 0) (i := 4) (v := (.agg #[(.string ⟨List.toArray (Xs h)⟩), (.func (.func (J7 h)) #[] #[]), (.func (.func (J8 h)) #[] #[])])) (cs' := #[(.string ⟨List.toArray (Xs h)⟩), (.func (.func (J7 h)) #[] #[]), (.func (.func (J8 h)) #[] #[])]) (d := none) (k := 5) K rfl K K e8 rfl K ?_
   intro g1 b0
   refine iF ?_
   refine aQ ?_
   refine aQ ?_
   refine aR ?_
   refine iR 1 1 [(22, (pt u 0))] ?_
   refine iS 2 ?_
   refine sL 9 22 u 0 4 (.string ⟨List.toArray (Xs h)⟩) 23 b0 rfl ?_
   refine iR 1 3 [(24, (.string ⟨List.toArray p.1⟩))] ?_
   refine iS 4 ?_
   refine Vq (op := .neq) (T := 9) (T' := 9) (x := (.tmp 23)) (y := (.tmp 24)) (a := (Xs h)) (b := p.1) (r := (.bool (!((Xs h) == p.1)))) (d := (some 25)) (k := 3) K rfl K K rfl ?_
   refine iF ?_
   refine Xe K (o := (.tmp 25)) K (b := (!((Xs h) == p.1))) K (fun b1 => ?_) (fun b1 => ?_)
   ·skip
    refine At.exit K (id := 1) K ?_
    have e9 := SP.sel (SP.tback b0 (i := 3) rfl (kne_of c7 b1)) [0, 1, 2, 3] rfl rfl
    exact ⟨_, ⟨K, K, K, K, trivial⟩, e9, Nat.lt_of_lt_of_le e7 (Nat.le_of_lt_succ e4)⟩
   ·rw [ktab_hit c7 b1] at H
    have H := optS H
    refine At.skip K ?_
    refine aQ ?_
    refine aR ?_
    refine iR 2 2 [(26, (.int .i64 h)), (27, (.agg #[(.int .i64 h), (.int .i64 0), (.int .u32 0), (.string ⟨List.toArray ([] : List UInt8)⟩), (.int .i64 0), (.string ⟨List.toArray ([] : List UInt8)⟩), (.string ⟨List.toArray ([] : List UInt8)⟩), (.string ⟨List.toArray ([] : List UInt8)⟩)]))] ?_
    refine iS 3 ?_
    refine Qd.alloc (t := 52) (z := (.agg #[(.int .i64 0), (.int .i64 0), (.int .u32 0), (.string ⟨List.toArray ([] : List UInt8)⟩), (.int .i64 0), (.string ⟨List.toArray ([] : List UInt8)⟩), (.string ⟨List.toArray ([] : List UInt8)⟩), (.string ⟨List.toArray ([] : List UInt8)⟩)])) (d := (some 8)) (k := 2) K rfl K b0 ?_
    intro s g3 f0
    refine iS 4 ?_
    refine Qd.store (t := 52) (x := (.tmp 8)) (y := (.tmp 27)) (g := s) (off := 0) (i := 5) (v := (.agg #[(.int .i64 h), (.int .i64 0), (.int .u32 0), (.string ⟨List.toArray ([] : List UInt8)⟩), (.int .i64 0), (.string ⟨List.toArray ([] : List UInt8)⟩), (.string ⟨List.toArray ([] : List UInt8)⟩), (.string ⟨List.toArray ([] : List UInt8)⟩)])) (cs' := #[(.int .i64 h), (.int .i64 0), (.int .u32 0), (.string ⟨List.toArray ([] : List UInt8)⟩), (.int .i64 0), (.string ⟨List.toArray ([] : List UInt8)⟩), (.string ⟨List.toArray ([] : List UInt8)⟩), (.string ⟨List.toArray ([] : List UInt8)⟩)]) (d := none) (k := 3) K rfl K K f0 rfl K ?_
    intro f1 a6
    refine iF ?_
    refine aQ ?_
    refine aR ?_
    refine iR 1 1 [(28, (pt u 2))] ?_
    refine iS 2 ?_
    refine sL 116 28 u 2 4 (.func (.func (J8 h)) #[] #[]) 29 a6 rfl ?_
    refine iR 1 3 [(30, (pt j 0))] ?_
    obtain ⟨c, f2, H⟩ := Qa H
    refine iS 4 ?_
    refine Re (f := (J8 h)) (fo := (.tmp 29)) (xs := #[(.tmp 30), (.tmp 8)]) (tys := #[109, 119]) (first := #[]) (captured := #[]) (d := (some 31)) (k := 3) K rfl K K (Fo h) (Ep h j a3 a4 s p.2.1 p.2.2 h 0 0 ([] : List UInt8) 0 ([] : List UInt8) ([] : List UInt8) ([] : List UInt8) f1 (fun w hm => Qo hL (Xn a6 (l := [1, 2, 5]) rfl hm)) (Q4 a6 [1, 2, 5] rfl rfl) c f2) ?_
    rintro e f3 ⟨b2, b3, rfl, c9⟩
    refine ⟨_, rfl, ?_⟩
    have a7 : SP [] w0 f3 [Qf g2 52 #[(.int .i64 0), (.int .i64 0), (.int .u32 0), (.string ⟨List.toArray ([] : List UInt8)⟩), (.int .i64 0), (.string ⟨List.toArray ([] : List UInt8)⟩), (.string ⟨List.toArray ([] : List UInt8)⟩), (.string ⟨List.toArray ([] : List UInt8)⟩)], iterC a8 a5 R3 (kne p.1) e5 ((.int .i64 h), Cv h), Qf u 118 #[(.string ⟨List.toArray (Xs h)⟩), (.func (.func (J7 h)) #[] #[]), (.func (.func (J8 h)) #[] #[])], Qf j 112 #[(.slice b2 (List.length c.1) b3), (.bool c.2.1)], rdE Qi b2 b3 c.1, Qf s 52 #[(.int .i64 c.2.2.1), (.int .i64 c.2.2.2.1), (.int .u32 c.2.2.2.2.1), (.string ⟨List.toArray c.2.2.2.2.2.1⟩), (.int .i64 c.2.2.2.2.2.2.1), (.string ⟨List.toArray c.2.2.2.2.2.2.2.1⟩), (.string ⟨List.toArray c.2.2.2.2.2.2.2.2.1⟩), (.string ⟨List.toArray c.2.2.2.2.2.2.2.2.2⟩)]] := Qh a6 [1, 2, 5] [0, 3, 4] rfl rfl c9 rfl
    clear c9
    refine iF ?_
    refine aQ ?_
    refine aQ ?_
    refine At.join (fun ρ w => ∃ (a0 : Bool), V1 ρ [(2, (pt g2 0)), (8, (pt s 0)), (43, (.bool a0))] ∧ SP [] w0 w [Qf g2 52 #[(.int .i64 0), (.int .i64 0), (.int .u32 0), (.string ⟨List.toArray ([] : List UInt8)⟩), (.int .i64 0), (.string ⟨List.toArray ([] : List UInt8)⟩), (.string ⟨List.toArray ([] : List UInt8)⟩), (.string ⟨List.toArray ([] : List UInt8)⟩)], Qf s 52 #[(.int .i64 c.2.2.1), (.int .i64 c.2.2.2.1), (.int .u32 c.2.2.2.2.1), (.string ⟨List.toArray c.2.2.2.2.2.1⟩), (.int .i64 c.2.2.2.2.2.2.1), (.string ⟨List.toArray c.2.2.2.2.2.2.2.1⟩), (.string ⟨List.toArray c.2.2.2.2.2.2.2.2.1⟩), (.string ⟨List.toArray c.2.2.2.2.2.2.2.2.2⟩)]] ∧ X6 c a0 = some r) ?_ ?_
    ·refine aR ?_
     refine iR 3 3 [(32, (pt j 0)), (33, (pt j 0)), (34, (pt j 1))] ?_
     refine iS 4 ?_
     refine sL 4 34 j 1 3 (.bool c.2.1) 35 a7 rfl ?_
     refine iR 1 5 [(36, (.bool c.2.1))] ?_
     refine In.guard (t := 36) (b := c.2.1) K (fun b4 => ?_) (fun b4 => ?_)
     ·have H := ct H b4
      refine iR 7 12 [(37, undef), (38, undef), (39, undef), (40, undef), (41, undef), (42, undef), (43, (.bool true))] ?_
      refine iF ?_
      exact ⟨true, ⟨K, K, K, trivial⟩, SP.sel a7 [0, 5] rfl rfl, H⟩
     ·have H := cf H b4
      refine iR 3 8 [(37, (pt j 0)), (38, (pt j 0)), (39, (pt j 0))] ?_
      refine iS 9 ?_
      refine sL 79 39 j 0 3 (.slice b2 (List.length c.1) b3) 40 a7 rfl ?_
      refine iR 3 12 [(41, (.int .i64 ((List.length c.1 : Nat) : Int))), (42, (.bool (decide (((List.length c.1 : Nat) : Int) > 0)))), (43, (.bool (decide (((List.length c.1 : Nat) : Int) > 0))))] ?_
      refine iF ?_
      exact ⟨(decide (((List.length c.1 : Nat) : Int) > 0)), ⟨K, K, K, trivial⟩, SP.sel a7 [0, 5] rfl rfl, H⟩
    ·rintro ρ g4 ⟨a0, hk, b5, H⟩
     unfold X6 at H
     first | refine At.known [(2, (pt g2 0)), (8, (pt s 0)), (43, (.bool a0))] hk ?_ | rw [← Qj (l := [(2, (pt g2 0)), (8, (pt s 0)), (43, (.bool a0))]) hk]
     refine Xe K (o := (.tmp 43)) K (b := a0) K (fun b6 => ?_) (fun b6 => ?_)
     ·have H := ct H b6
      refine aQ ?_
      refine aR ?_
      refine iR 1 1 [(44, (.agg #[(.int .i64 0), (.int .i64 0), (.int .u32 0), (.string ⟨List.toArray ([] : List UInt8)⟩), (.int .i64 0), (.string ⟨List.toArray ([] : List UInt8)⟩), (.string ⟨List.toArray ([] : List UInt8)⟩), (.string ⟨List.toArray ([] : List UInt8)⟩)]))] ?_
      refine iS 2 ?_
      refine Qd.store (t := 52) (x := (.tmp 2)) (y := (.tmp 44)) (g := g2) (off := 0) (i := 0) (v := (.agg #[(.int .i64 0), (.int .i64 0), (.int .u32 0), (.string ⟨List.toArray ([] : List UInt8)⟩), (.int .i64 0), (.string ⟨List.toArray ([] : List UInt8)⟩), (.string ⟨List.toArray ([] : List UInt8)⟩), (.string ⟨List.toArray ([] : List UInt8)⟩)])) (cs' := #[(.int .i64 0), (.int .i64 0), (.int .u32 0), (.string ⟨List.toArray ([] : List UInt8)⟩), (.int .i64 0), (.string ⟨List.toArray ([] : List UInt8)⟩), (.string ⟨List.toArray ([] : List UInt8)⟩), (.string ⟨List.toArray ([] : List UInt8)⟩)]) (d := none) (k := 1) K rfl K K b5 rfl K ?_
      intro g5 d0
      refine iR 1 3 [(3, (.bool false))] ?_
      refine iF ?_
      refine At.ret K ?_
      refine ⟨(.tuple #[(.agg #[(.int .i64 0), (.int .i64 0), (.int .u32 0), (.string ⟨List.toArray ([] : List UInt8)⟩), (.int .i64 0), (.string ⟨List.toArray ([] : List UInt8)⟩), (.string ⟨List.toArray ([] : List UInt8)⟩), (.string ⟨List.toArray ([] : List UInt8)⟩)]), (.bool false)]), res_2 K (Gt (a := 2) (t := 52) (g := g2) (off := 0) K (SP.get d0 (i := 0) rfl) K) (Ch (t := 3) K), ?_⟩
      obtain rfl := Qc H
      exact ⟨rfl, SP.sel d0 [] rfl rfl⟩
     ·have H := cf H b6
      refine At.skip K ?_
      refine aQ ?_
      refine aR ?_
      refine iS 1 ?_
      refine sL 52 8 s 0 1 (.agg #[(.int .i64 c.2.2.1), (.int .i64 c.2.2.2.1), (.int .u32 c.2.2.2.2.1), (.string ⟨List.toArray c.2.2.2.2.2.1⟩), (.int .i64 c.2.2.2.2.2.2.1), (.string ⟨List.toArray c.2.2.2.2.2.2.2.1⟩), (.string ⟨List.toArray c.2.2.2.2.2.2.2.2.1⟩), (.string ⟨List.toArray c.2.2.2.2.2.2.2.2.2⟩)]) 45 b5 rfl ?_
      refine iS 2 ?_
      refine Qd.store (t := 52) (x := (.tmp 2)) (y := (.tmp 45)) (g := g2) (off := 0) (i := 0) (v := (.agg #[(.int .i64 c.2.2.1), (.int .i64 c.2.2.2.1), (.int .u32 c.2.2.2.2.1), (.string ⟨List.toArray c.2.2.2.2.2.1⟩), (.int .i64 c.2.2.2.2.2.2.1), (.string ⟨List.toArray c.2.2.2.2.2.2.2.1⟩), (.string ⟨List.toArray c.2.2.2.2.2.2.2.2.1⟩), (.string ⟨List.toArray c.2.2.2.2.2.2.2.2.2⟩)])) (cs' := #[(.int .i64 c.2.2.1), (.int .i64 c.2.2.2.1), (.int .u32 c.2.2.2.2.1), (.string ⟨List.toArray c.2.2.2.2.2.1⟩), (.int .i64 c.2.2.2.2.2.2.1), (.string ⟨List.toArray c.2.2.2.2.2.2.2.1⟩), (.string ⟨List.toArray c.2.2.2.2.2.2.2.2.1⟩), (.string ⟨List.toArray c.2.2.2.2.2.2.2.2.2⟩)]) (d := none) (k := 1) K rfl K K b5 rfl K ?_
      intro g6 d1
      refine iR 1 3 [(3, (.bool true))] ?_
      refine iF ?_
      refine At.ret K ?_
      refine ⟨(.tuple #[(.agg #[(.int .i64 c.2.2.1), (.int .i64 c.2.2.2.1), (.int .u32 c.2.2.2.2.1), (.string ⟨List.toArray c.2.2.2.2.2.1⟩), (.int .i64 c.2.2.2.2.2.2.1), (.string ⟨List.toArray c.2.2.2.2.2.2.2.1⟩), (.string ⟨List.toArray c.2.2.2.2.2.2.2.2.1⟩), (.string ⟨List.toArray c.2.2.2.2.2.2.2.2.2⟩)]), (.bool true)]), res_2 K (Gt (a := 2) (t := 52) (g := g2) (off := 0) K (SP.get d1 (i := 0) rfl) K) (Ch (t := 3) K), ?_⟩
      obtain rfl := Qc H
      exact ⟨rfl, SP.sel d1 [] rfl rfl⟩
 ·exact ⟨_, ⟨K, K, K, K, trivial⟩, e2, Nat.lt_succ_self _⟩
def Ym (a : ((List UInt8))) (b : Bool) : Option ((List UInt8)) :=
  (cond b (some (([] : List UInt8))) (some (a)))
def Yx (b : Int) (d : Int) (e : Int) (f : (List UInt8)) (g : Int) (h : (List UInt8)) (i : (List UInt8)) (j : (List UInt8)) : Option ((List UInt8)) :=
  ((Jf ).bind fun l => (cond (kin b) ((L_kput b ([(Xs b)] : List (List UInt8)) false b d e f g h i j).bind fun k => ((Qs k.1 k.2).bind fun c => ((Yk c).bind fun a => (cond (!a.2.2.2.2.2.2.2.2) (Ym c true) (Ym c (!((a.1 == b) && ((a.2.1 == d) && ((a.2.2.1 == e) && ((a.2.2.2.1 == f) && ((a.2.2.2.2.1 == g) && ((a.2.2.2.2.2.1 == h) && ((a.2.2.2.2.2.2.1 == i) && (a.2.2.2.2.2.2.2.1 == j)))))))))))))) (some (([] : List UInt8)))))
set_option maxHeartbeats 40000000 in
theorem Yy  (a : Int) (q : Int) (s : Int) (u : (List UInt8)) (a0 : Int) (a1 : (List UInt8)) (a2 : (List UInt8)) (a3 : (List UInt8)) (w0 : World) (hL : X8 w0)  (r : ((List UInt8))) (H : Yx a q s u a0 a1 a2 a3 = some r) :
  Calls Tryz.prog 35 #[(.agg #[(.int .i64 a), (.int .i64 q), (.int .u32 s), (.string ⟨List.toArray u⟩), (.int .i64 a0), (.string ⟨List.toArray a1⟩), (.string ⟨List.toArray a2⟩), (.string ⟨List.toArray a3⟩)])] w0 (fun e w' => e = .returned (.string ⟨List.toArray r⟩) ∧ SP [] w0 w' []) := by
 unfold Yx at H
 refine Qg (n := 43) Tryz.func35 K K K ?_
 have f2 := Vc [] w0
 refine aQ ?_
 refine aR ?_
 refine iS 1 ?_
 refine V9 (t := 52) (x := (.tmp 0)) (v := (.agg #[(.int .i64 a), (.int .i64 q), (.int .u32 s), (.string ⟨List.toArray u⟩), (.int .i64 a0), (.string ⟨List.toArray a1⟩), (.string ⟨List.toArray a2⟩), (.string ⟨List.toArray a3⟩)])) (d := (some 1)) (k := 0) K rfl K f2 ?_
 intro g9 l7 d1
 refine iR 1 2 [(2, (.string ⟨List.toArray ([] : List UInt8)⟩))] ?_
 refine iF ?_
 refine aQ ?_
 obtain ⟨c0, c1, H⟩ := Qa H
 rcases Bool.eq_false_or_eq_true (kin a) with b3 | b3
 ·have H := ct H b3
  refine aG [GAny, GEq (pt g9 0), GEq (.int .i64 a), GEq (.tuple #[(.agg #[(.string ⟨List.toArray (Xs a)⟩), (.func (.func (J7 a)) #[] #[]), (.func (.func (J8 a)) #[] #[])]), (.bool true)]), GEq (.tuple #[(.agg #[(.string ⟨List.toArray (Xs a)⟩), (.func (.func (J7 a)) #[] #[]), (.func (.func (J8 a)) #[] #[])]), (.bool true)]), GEq (.agg #[(.string ⟨List.toArray (Xs a)⟩), (.func (.func (J7 a)) #[] #[]), (.func (.func (J8 a)) #[] #[])]), GEq (.bool true), GAny, GAny, GEq (.bool true)] [0, 7, 8] [([], fun vs w => VL vs [] ∧ SP [] w0 w [Qf g9 52 #[(.int .i64 a), (.int .i64 q), (.int .u32 s), (.string ⟨List.toArray u⟩), (.int .i64 a0), (.string ⟨List.toArray a1⟩), (.string ⟨List.toArray a2⟩), (.string ⟨List.toArray a3⟩)]]), ([0], fun vs w => ∃ (a7 : Nat), VL vs [(.map (some a7))] ∧ SP [] w0 w [Qf g9 52 #[(.int .i64 a), (.int .i64 q), (.int .u32 s), (.string ⟨List.toArray u⟩), (.int .i64 a0), (.string ⟨List.toArray a1⟩), (.string ⟨List.toArray a2⟩), (.string ⟨List.toArray a3⟩)], Cu a7 R3]), ([7], fun vs w => ∃ (b6 : Nat), VL vs [(pt b6 0)] ∧ SP [] w0 w [Qf g9 52 #[(.int .i64 a), (.int .i64 q), (.int .u32 s), (.string ⟨List.toArray u⟩), (.int .i64 a0), (.string ⟨List.toArray a1⟩), (.string ⟨List.toArray a2⟩), (.string ⟨List.toArray a3⟩)], Qf b6 118 #[(.string ⟨List.toArray ([] : List UInt8)⟩), .nilFunc, .nilFunc]]), ([0, 7], fun vs w => ∃ (a8 : Nat), ∃ (a9 : Nat), VL vs [(.map (some a8)), (pt a9 0)] ∧ SP [] w0 w [Qf g9 52 #[(.int .i64 a), (.int .i64 q), (.int .u32 s), (.string ⟨List.toArray u⟩), (.int .i64 a0), (.string ⟨List.toArray a1⟩), (.string ⟨List.toArray a2⟩), (.string ⟨List.toArray a3⟩)], Cu a8 R3, Qf a9 118 #[(.string ⟨List.toArray ([] : List UInt8)⟩), .nilFunc, .nilFunc]]), ([0, 7, 8], fun vs w => ∃ (b7 : Nat), ∃ (a5 : Nat), VL vs [(.map (some b7)), (pt a5 0), undef] ∧ SP [] w0 w [Qf g9 52 #[(.int .i64 a), (.int .i64 q), (.int .u32 s), (.string ⟨List.toArray u⟩), (.int .i64 a0), (.string ⟨List.toArray a1⟩), (.string ⟨List.toArray a2⟩), (.string ⟨List.toArray a3⟩)], Cu b7 R3, Qf a5 118 #[(.string ⟨List.toArray (Xs a)⟩), (.func (.func (J7 a)) #[] #[]), (.func (.func (J8 a)) #[] #[])]])] 10 4 ⟨trivial, SP.drew d1⟩ ?_ ?_
  iterate 10 refine And.intro ?_ ?_
  exact trivial
  ·refine Owe.heavy K [(0, 1), (2, 3)] K (Qn ⟨K, K, ?_⟩ (Qn ⟨K, K, ?_⟩ Xm))
   ·rintro ρ' w' hs p ⟨l8, f3⟩
    refine kN [] trivial fun j => ?_
    refine cF 69 #[] #[] 10 Tryz.call69 (Zw   w'  c0 c1) ?_
    rintro e l9 ⟨f4, rfl, d2⟩
    refine ⟨_, rfl, ?_⟩
    have f5 := SP.call f3 d2
    clear d2
    refine ⟨_, Qm j, trivial, ?_⟩
    exact (Exists.intro f4 (And.intro (And.intro rfl (trivial)) (f5)))
   ·rintro ρ' w' hs p ⟨b6, ⟨f6, -⟩, f7⟩
    refine kN [] trivial fun j => ?_
    refine cF 69 #[] #[] 10 Tryz.call69 (Zw   w'  c0 c1) ?_
    rintro e m0 ⟨f8, rfl, d3⟩
    refine ⟨_, rfl, ?_⟩
    have f9 := SP.call f7 d3
    clear d3
    refine ⟨_, Qm j, trivial, ?_⟩
    exact (Exists.intro f8 (Exists.intro b6 (And.intro (And.intro rfl (And.intro f6 (trivial))) (SP.sel f9 [0, 2, 1] rfl rfl))))
  ·exact oV (hC (hS 1 (pt g9 0)) (h0)) (pt g9 0)
  ·refine Owe.light K [0, 1, 2, 3] K (Qn ?_ (Qn ?_ (Qn ?_ (Qn ?_ Xm))))
   ·rintro ρ' w' hs p ⟨m1, g0⟩
    refine kM (kc (kA p 1 11) k0) fun j => ?_
    refine sL 3 11 g9 0 0 (.int .i64 a) 12 g0 rfl ?_
    exact eK j
   ·rintro ρ' w' hs p ⟨a7, ⟨m2, -⟩, g1⟩
    refine kM (kc (kA p 1 11) k0) fun j => ?_
    refine sL 3 11 g9 0 0 (.int .i64 a) 12 g1 rfl ?_
    exact eK j
   ·rintro ρ' w' hs p ⟨b6, ⟨m3, -⟩, g2⟩
    refine kM (kc (kA p 1 11) k0) fun j => ?_
    refine sL 3 11 g9 0 0 (.int .i64 a) 12 g2 rfl ?_
    exact eK j
   ·rintro ρ' w' hs p ⟨a8, a9, ⟨m4, m5, -⟩, g3⟩
    refine kM (kc (kA p 1 11) k0) fun j => ?_
    refine sL 3 11 g9 0 0 (.int .i64 a) 12 g3 rfl ?_
    exact eK j
  ·refine Owe.light K [1, 3] K (Qn ?_ (Qn ?_ Xm))
   ·rintro ρ' w' hs p ⟨a7, ⟨g4, -⟩, g5⟩
    refine kN [(10, (.map (some a7))), (12, (.int .i64 a))] ⟨(Zb (h := 0) K).symm.trans g4, p 2 12 K, trivial⟩ fun j => ?_
    refine Dr (T := 113) (kt := 3) (et := 118) (m := a7) (L := R3) (k := (.int .i64 a)) (d := (.int .i64)) (x := (.tmp 10)) (ix := (.tmp 12)) (dst := (some 13)) (o := 3) (v := Cv a) K rfl K K K K K (ktab_in b3) (SP.get g5 (i := 1) rfl) ?_
    exact eK j
   ·rintro ρ' w' hs p ⟨a8, a9, ⟨g6, m6, -⟩, g7⟩
    refine kN [(10, (.map (some a8))), (12, (.int .i64 a))] ⟨(Zb (h := 0) K).symm.trans g6, p 2 12 K, trivial⟩ fun j => ?_
    refine Dr (T := 113) (kt := 3) (et := 118) (m := a8) (L := R3) (k := (.int .i64 a)) (d := (.int .i64)) (x := (.tmp 10)) (ix := (.tmp 12)) (dst := (some 13)) (o := 3) (v := Cv a) K rfl K K K K K (ktab_in b3) (SP.get g7 (i := 1) rfl) ?_
    exact eK j
  ·exact oV (hC (hA 3 13) (h0)) (.tuple #[(.agg #[(.string ⟨List.toArray (Xs a)⟩), (.func (.func (J7 a)) #[] #[]), (.func (.func (J8 a)) #[] #[])]), (.bool true)])
  ·exact oV (hC (hA 4 9) (h0)) (.agg #[(.string ⟨List.toArray (Xs a)⟩), (.func (.func (J7 a)) #[] #[]), (.func (.func (J8 a)) #[] #[])])
  ·exact oV (hC (hA 4 9) (h0)) (.bool true)
  ·refine Owe.heavy K [(0, 2), (1, 3)] K (Qn ⟨K, K, ?_⟩ (Qn ⟨K, K, ?_⟩ Xm))
   ·rintro ρ' w' hs p ⟨m7, g8⟩
    refine kN [] trivial fun j => ?_
    refine Qd.alloc (t := 118) (z := (.agg #[(.string ⟨List.toArray ([] : List UInt8)⟩), .nilFunc, .nilFunc])) (d := (some 3)) (k := 7) K rfl K g8 ?_
    intro h1 m8 h2
    refine ⟨_, Qm j, trivial, ?_⟩
    exact (Exists.intro h1 (And.intro (And.intro rfl (trivial)) (h2)))
   ·rintro ρ' w' hs p ⟨a7, ⟨h3, -⟩, h4⟩
    refine kN [] trivial fun j => ?_
    refine Qd.alloc (t := 118) (z := (.agg #[(.string ⟨List.toArray ([] : List UInt8)⟩), .nilFunc, .nilFunc])) (d := (some 3)) (k := 7) K rfl K h4 ?_
    intro h5 m9 h6
    refine ⟨_, Qm j, trivial, ?_⟩
    exact (Exists.intro a7 (Exists.intro h5 (And.intro (And.intro h3 (And.intro rfl (trivial))) (h6))))
  ·refine oH 3 4 ?_
   ·rintro ρ' w' hs p ⟨a8, a9, ⟨h7, d4, -⟩, h8⟩
    refine kN [(3, (pt a9 0)), (14, (.agg #[(.string ⟨List.toArray (Xs a)⟩), (.func (.func (J7 a)) #[] #[]), (.func (.func (J8 a)) #[] #[])]))] ⟨(Zb (h := 7) K).symm.trans d4, p 5 14 K, trivial⟩ fun j => ?_
    refine Qd.store (t := 118) (x := (.tmp 3)) (y := (.tmp 14)) (g := a9) (off := 0) (i := 2) (v := (.agg #[(.string ⟨List.toArray (Xs a)⟩), (.func (.func (J7 a)) #[] #[]), (.func (.func (J8 a)) #[] #[])])) (cs' := #[(.string ⟨List.toArray (Xs a)⟩), (.func (.func (J7 a)) #[] #[]), (.func (.func (J8 a)) #[] #[])]) (d := none) (k := 8) K rfl K K h8 rfl K ?_
    intro n0 h9
    refine ⟨_, Qm j, trivial, ?_⟩
    exact (Exists.intro a8 (Exists.intro a9 (And.intro (And.intro h7 (And.intro d4 (And.intro rfl (trivial)))) (h9))))
  ·exact oV (hC (hA 6 15) (h0)) (.bool true)
  ·rintro ρ' w' hs hf ⟨b7, a5, ⟨n1, i0, n2, -⟩, c4⟩
   refine Jh [(1, (pt g9 0)), (3, (pt a5 0)), (4, (.bool true))] ⟨(hs 1 K).trans K, (Zb (h := 7) K).symm.trans i0, hf 9 4 K, trivial⟩ ?_
   obtain ⟨n3, i1⟩ : ∃ x, w' = x := ⟨_, rfl⟩
   rw [i1] at c4 ⊢
   refine aQ ?_
   refine aQ ?_
   refine aR ?_
   refine iR 2 2 [(16, (.bool true)), (17, (.bool false))] ?_
   refine iF ?_
   refine Xe K (o := (.tmp 17)) K (b := false) K (fun d5 => ?_) (fun d5 => ?_)
   ·cases d5
   refine At.skip K ?_
   refine aQ ?_
   refine aR ?_
   refine iR 1 1 [(18, (pt a5 0))] ?_
   refine iS 2 ?_
   refine sL 9 18 a5 0 2 (.string ⟨List.toArray (Xs a)⟩) 19 c4 rfl ?_
   refine iS 3 ?_
   refine Vo (e := Qi) (T := 79) (E := 9) (len := 1) (parts := #[(0, (.tmp 19))]) (cs := #[(.string ⟨List.toArray (Xs a)⟩)]) ([(Xs a)] : List (List UInt8)) (d := (some 20)) (k := 2) K rfl (fun _ => K) c4 rfl rfl rfl rfl ?_
   intro c5 n4 i2
   refine iR 1 4 [(21, (.agg #[(.slice (some ⟨c5, 0, none⟩) (List.length ([(Xs a)] : List (List UInt8))) (List.length ([(Xs a)] : List (List UInt8)))), (.bool false)]))] ?_
   refine iS 5 ?_
   refine V9 (t := 133) (x := (.tmp 21)) (v := (.agg #[(.slice (some ⟨c5, 0, none⟩) (List.length ([(Xs a)] : List (List UInt8))) (List.length ([(Xs a)] : List (List UInt8)))), (.bool false)])) (d := (some 22)) (k := 4) K rfl K i2 ?_
   intro b4 i3 b8
   refine iR 1 6 [(5, (pt b4 0))] ?_
   refine iF ?_
   refine aQ ?_
   refine aR ?_
   refine iR 1 1 [(23, (pt a5 1))] ?_
   refine iS 2 ?_
   refine sL 115 23 a5 1 2 (.func (.func (J7 a)) #[] #[]) 24 b8 rfl ?_
   refine iR 1 3 [(25, (pt b4 0))] ?_
   refine iS 4 ?_
   refine sL 52 1 g9 0 0 (.agg #[(.int .i64 a), (.int .i64 q), (.int .u32 s), (.string ⟨List.toArray u⟩), (.int .i64 a0), (.string ⟨List.toArray a1⟩), (.string ⟨List.toArray a2⟩), (.string ⟨List.toArray a3⟩)]) 26 b8 rfl ?_
   obtain ⟨a6, i4, H⟩ := Qa H
   refine iS 5 ?_
   refine Re (f := (J7 a)) (fo := (.tmp 24)) (xs := #[(.tmp 25), (.tmp 26)]) (tys := #[132, 52]) (first := #[]) (captured := #[]) (d := (some 27)) (k := 4) K rfl K K (Fn a) (Eo a b4 (some ⟨c5, 0, none⟩) (List.length ([(Xs a)] : List (List UInt8))) ([(Xs a)] : List (List UInt8)) false a q s u a0 a1 a2 a3 i3 (fun w hm => Qo hL (Xn b8 (l := [4, 3]) rfl hm)) (Q4 b8 [4, 3] rfl rfl) a6 i4) ?_
   rintro e d6 ⟨c6, c7, rfl, d7⟩
   refine ⟨_, rfl, ?_⟩
   have d8 : SP [] w0 d6 [Qf g9 52 #[(.int .i64 a), (.int .i64 q), (.int .u32 s), (.string ⟨List.toArray u⟩), (.int .i64 a0), (.string ⟨List.toArray a1⟩), (.string ⟨List.toArray a2⟩), (.string ⟨List.toArray a3⟩)], Cu b7 R3, Qf a5 118 #[(.string ⟨List.toArray (Xs a)⟩), (.func (.func (J7 a)) #[] #[]), (.func (.func (J8 a)) #[] #[])], Qf b4 133 #[(.slice c6 (List.length a6.1) c7), (.bool a6.2)], Vf 9 Qi c6 c7 a6.1] := Qh b8 [4, 3] [0, 1, 2] rfl rfl d7 rfl
   clear d7
   refine iF ?_
   refine aQ ?_
   refine aR ?_
   refine iR 1 1 [(28, (pt b4 0))] ?_
   obtain ⟨a4, i5, H⟩ := Qa H
   refine iS 2 ?_
   refine cF 79 #[(.tmp 28)] #[132] 29 Tryz.call79 (Xb b4 c6 c7 a6.1 a6.2 d6 (Q4 d8 [3, 4] rfl rfl) a4 i5) ?_
   rintro e d9 ⟨e0, e1, rfl, e2⟩
   refine ⟨_, rfl, ?_⟩
   have e3 : SP [] w0 d9 [Qf g9 52 #[(.int .i64 a), (.int .i64 q), (.int .u32 s), (.string ⟨List.toArray u⟩), (.int .i64 a0), (.string ⟨List.toArray a1⟩), (.string ⟨List.toArray a2⟩), (.string ⟨List.toArray a3⟩)], Cu b7 R3, Qf a5 118 #[(.string ⟨List.toArray (Xs a)⟩), (.func (.func (J7 a)) #[] #[]), (.func (.func (J8 a)) #[] #[])], Qf b4 133 #[(.slice e0 (List.length a6.1) e1), (.bool a6.2)], Vf 9 Qi e0 e1 a6.1] := Qh d8 [3, 4] [0, 1, 2] rfl rfl e2 rfl
   clear e2
   refine iR 1 3 [(6, (.string ⟨List.toArray a4⟩))] ?_
   refine iF ?_
   refine aQ ?_
   refine aQ ?_
   refine aR ?_
   refine iR 1 1 [(31, (.string ⟨List.toArray a4⟩))] ?_
   obtain ⟨c, i6, H⟩ := Qa H
   refine iS 2 ?_
   refine cF 31 #[(.tmp 31)] #[9] 32 Tryz.call31 (Yn  a4 d9 (Qo hL (SP.keeps e3)) c i6) ?_
   rintro e n5 ⟨rfl, e4⟩
   refine ⟨_, rfl, ?_⟩
   have i7 := SP.call e3 e4
   clear e4
   refine iR 3 5 [(30, (.tuple #[(.agg #[(.int .i64 c.1), (.int .i64 c.2.1), (.int .u32 c.2.2.1), (.string ⟨List.toArray c.2.2.2.1⟩), (.int .i64 c.2.2.2.2.1), (.string ⟨List.toArray c.2.2.2.2.2.1⟩), (.string ⟨List.toArray c.2.2.2.2.2.2.1⟩), (.string ⟨List.toArray c.2.2.2.2.2.2.2.1⟩)]), (.bool c.2.2.2.2.2.2.2.2)])), (33, (.agg #[(.int .i64 c.1), (.int .i64 c.2.1), (.int .u32 c.2.2.1), (.string ⟨List.toArray c.2.2.2.1⟩), (.int .i64 c.2.2.2.2.1), (.string ⟨List.toArray c.2.2.2.2.2.1⟩), (.string ⟨List.toArray c.2.2.2.2.2.2.1⟩), (.string ⟨List.toArray c.2.2.2.2.2.2.2.1⟩)])), (34, (.bool c.2.2.2.2.2.2.2.2))] ?_
   refine iS 6 ?_
   refine Qd.alloc (t := 52) (z := (.agg #[(.int .i64 0), (.int .i64 0), (.int .u32 0), (.string ⟨List.toArray ([] : List UInt8)⟩), (.int .i64 0), (.string ⟨List.toArray ([] : List UInt8)⟩), (.string ⟨List.toArray ([] : List UInt8)⟩), (.string ⟨List.toArray ([] : List UInt8)⟩)])) (d := (some 7)) (k := 5) K rfl K i7 ?_
   intro e5 n6 i8
   refine iS 7 ?_
   refine Qd.store (t := 52) (x := (.tmp 7)) (y := (.tmp 33)) (g := e5) (off := 0) (i := 5) (v := (.agg #[(.int .i64 c.1), (.int .i64 c.2.1), (.int .u32 c.2.2.1), (.string ⟨List.toArray c.2.2.2.1⟩), (.int .i64 c.2.2.2.2.1), (.string ⟨List.toArray c.2.2.2.2.2.1⟩), (.string ⟨List.toArray c.2.2.2.2.2.2.1⟩), (.string ⟨List.toArray c.2.2.2.2.2.2.2.1⟩)])) (cs' := #[(.int .i64 c.1), (.int .i64 c.2.1), (.int .u32 c.2.2.1), (.string ⟨List.toArray c.2.2.2.1⟩), (.int .i64 c.2.2.2.2.1), (.string ⟨List.toArray c.2.2.2.2.2.1⟩), (.string ⟨List.toArray c.2.2.2.2.2.2.1⟩), (.string ⟨List.toArray c.2.2.2.2.2.2.2.1⟩)]) (d := none) (k := 6) K rfl K K i8 rfl K ?_
   intro n7 c2
   refine iR 1 8 [(8, (.bool c.2.2.2.2.2.2.2.2))] ?_
   refine iF ?_
   refine aQ ?_
   refine At.join (fun ρ w => ∃ (b5 : Bool), V1 ρ [(6, (.string ⟨List.toArray a4⟩)), (41, (.bool b5))] ∧ SP [] w0 w [] ∧ Ym a4 b5 = some r) ?_ ?_
   ·refine aR ?_
    refine iR 3 3 [(35, (.bool c.2.2.2.2.2.2.2.2)), (36, (.bool (!c.2.2.2.2.2.2.2.2))), (37, (.bool (!c.2.2.2.2.2.2.2.2)))] ?_
    refine In.guard (t := 37) (b := (!c.2.2.2.2.2.2.2.2)) K (fun c8 => ?_) (fun c8 => ?_)
    ·have H := ct H c8
     refine iR 4 7 [(38, undef), (39, undef), (40, undef), (41, (.bool true))] ?_
     refine iF ?_
     exact ⟨true, ⟨K, K, trivial⟩, SP.sel c2 [] rfl rfl, H⟩
    ·have H := cf H c8
     refine iS 4 ?_
     refine sL 52 7 e5 0 5 (.agg #[(.int .i64 c.1), (.int .i64 c.2.1), (.int .u32 c.2.2.1), (.string ⟨List.toArray c.2.2.2.1⟩), (.int .i64 c.2.2.2.2.1), (.string ⟨List.toArray c.2.2.2.2.2.1⟩), (.string ⟨List.toArray c.2.2.2.2.2.2.1⟩), (.string ⟨List.toArray c.2.2.2.2.2.2.2.1⟩)]) 38 c2 rfl ?_
     refine iS 5 ?_
     refine sL 52 1 g9 0 0 (.agg #[(.int .i64 a), (.int .i64 q), (.int .u32 s), (.string ⟨List.toArray u⟩), (.int .i64 a0), (.string ⟨List.toArray a1⟩), (.string ⟨List.toArray a2⟩), (.string ⟨List.toArray a3⟩)]) 39 c2 rfl ?_
     refine iS 6 ?_
     refine Bs (op := .neq) (T := 52) (T' := 52) (x := (.tmp 38)) (y := (.tmp 39)) (vx := (.agg #[(.int .i64 c.1), (.int .i64 c.2.1), (.int .u32 c.2.2.1), (.string ⟨List.toArray c.2.2.2.1⟩), (.int .i64 c.2.2.2.2.1), (.string ⟨List.toArray c.2.2.2.2.2.1⟩), (.string ⟨List.toArray c.2.2.2.2.2.2.1⟩), (.string ⟨List.toArray c.2.2.2.2.2.2.2.1⟩)])) (vy := (.agg #[(.int .i64 a), (.int .i64 q), (.int .u32 s), (.string ⟨List.toArray u⟩), (.int .i64 a0), (.string ⟨List.toArray a1⟩), (.string ⟨List.toArray a2⟩), (.string ⟨List.toArray a3⟩)])) (v := (.bool (!((c.1 == a) && ((c.2.1 == q) && ((c.2.2.1 == s) && ((c.2.2.2.1 == u) && ((c.2.2.2.2.1 == a0) && ((c.2.2.2.2.2.1 == a1) && ((c.2.2.2.2.2.2.1 == a2) && (c.2.2.2.2.2.2.2.1 == a3))))))))))) (d := (some 40)) (k := 5) K rfl K K (by clear H; intro w; simp only [Rh]; go_simp; simp only [Rg, Gs, Di, Rh, Bool.and_true] <;> simp only [Bool.not_and]) ?_
     refine iR 1 7 [(41, (.bool (!((c.1 == a) && ((c.2.1 == q) && ((c.2.2.1 == s) && ((c.2.2.2.1 == u) && ((c.2.2.2.2.1 == a0) && ((c.2.2.2.2.2.1 == a1) && ((c.2.2.2.2.2.2.1 == a2) && (c.2.2.2.2.2.2.2.1 == a3)))))))))))] ?_
     refine iF ?_
     exact ⟨(!((c.1 == a) && ((c.2.1 == q) && ((c.2.2.1 == s) && ((c.2.2.2.1 == u) && ((c.2.2.2.2.1 == a0) && ((c.2.2.2.2.2.1 == a1) && ((c.2.2.2.2.2.2.1 == a2) && (c.2.2.2.2.2.2.2.1 == a3))))))))), ⟨K, K, trivial⟩, SP.sel c2 [] rfl rfl, H⟩
   ·rintro ρ n8 ⟨b5, hk, e6, H⟩
    unfold Ym at H
    first | refine At.known [(6, (.string ⟨List.toArray a4⟩)), (41, (.bool b5))] hk ?_ | rw [← Qj (l := [(6, (.string ⟨List.toArray a4⟩)), (41, (.bool b5))]) hk]
    refine Xe K (o := (.tmp 41)) K (b := b5) K (fun c9 => ?_) (fun c9 => ?_)
    ·have H := ct H c9
     refine aQ ?_
     refine aR ?_
     refine iR 1 1 [(2, (.string ⟨List.toArray ([] : List UInt8)⟩))] ?_
     refine iF ?_
     refine At.ret K ?_
     refine ⟨(.string ⟨List.toArray ([] : List UInt8)⟩), K, ?_⟩
     obtain rfl := Qc H
     exact ⟨rfl, SP.sel e6 [] rfl rfl⟩
    ·have H := cf H c9
     refine At.skip K ?_
     refine aQ ?_
     refine aR ?_
     refine iR 2 2 [(42, (.string ⟨List.toArray a4⟩)), (2, (.string ⟨List.toArray a4⟩))] ?_
     refine iF ?_
     refine At.ret K ?_
     refine ⟨(.string ⟨List.toArray a4⟩), K, ?_⟩
     obtain rfl := Qc H
     exact ⟨rfl, SP.sel e6 [] rfl rfl⟩
 ·have H := cf H b3
  refine aG [GAny, GEq (pt g9 0), GEq (.int .i64 a), GEq (.tuple #[(.agg #[(.string ⟨List.toArray ([] : List UInt8)⟩), .nilFunc, .nilFunc]), (.bool false)]), GEq (.tuple #[(.agg #[(.string ⟨List.toArray ([] : List UInt8)⟩), .nilFunc, .nilFunc]), (.bool false)]), GEq (.agg #[(.string ⟨List.toArray ([] : List UInt8)⟩), .nilFunc, .nilFunc]), GEq (.bool false), GAny, GAny, GEq (.bool false)] [0, 7, 8] [([], fun vs w => VL vs [] ∧ SP [] w0 w [Qf g9 52 #[(.int .i64 a), (.int .i64 q), (.int .u32 s), (.string ⟨List.toArray u⟩), (.int .i64 a0), (.string ⟨List.toArray a1⟩), (.string ⟨List.toArray a2⟩), (.string ⟨List.toArray a3⟩)]]), ([0], fun vs w => ∃ (b0 : Nat), VL vs [(.map (some b0))] ∧ SP [] w0 w [Qf g9 52 #[(.int .i64 a), (.int .i64 q), (.int .u32 s), (.string ⟨List.toArray u⟩), (.int .i64 a0), (.string ⟨List.toArray a1⟩), (.string ⟨List.toArray a2⟩), (.string ⟨List.toArray a3⟩)], Cu b0 R3]), ([7], fun vs w => ∃ (b9 : Nat), VL vs [(pt b9 0)] ∧ SP [] w0 w [Qf g9 52 #[(.int .i64 a), (.int .i64 q), (.int .u32 s), (.string ⟨List.toArray u⟩), (.int .i64 a0), (.string ⟨List.toArray a1⟩), (.string ⟨List.toArray a2⟩), (.string ⟨List.toArray a3⟩)], Qf b9 118 #[(.string ⟨List.toArray ([] : List UInt8)⟩), .nilFunc, .nilFunc]]), ([0, 7], fun vs w => ∃ (b1 : Nat), ∃ (b2 : Nat), VL vs [(.map (some b1)), (pt b2 0)] ∧ SP [] w0 w [Qf g9 52 #[(.int .i64 a), (.int .i64 q), (.int .u32 s), (.string ⟨List.toArray u⟩), (.int .i64 a0), (.string ⟨List.toArray a1⟩), (.string ⟨List.toArray a2⟩), (.string ⟨List.toArray a3⟩)], Cu b1 R3, Qf b2 118 #[(.string ⟨List.toArray ([] : List UInt8)⟩), .nilFunc, .nilFunc]]), ([0, 7, 8], fun vs w => ∃ (d0 : Nat), ∃ (c3 : Nat), VL vs [(.map (some d0)), (pt c3 0), undef] ∧ SP [] w0 w [Qf g9 52 #[(.int .i64 a), (.int .i64 q), (.int .u32 s), (.string ⟨List.toArray u⟩), (.int .i64 a0), (.string ⟨List.toArray a1⟩), (.string ⟨List.toArray a2⟩), (.string ⟨List.toArray a3⟩)], Cu d0 R3, Qf c3 118 #[(.string ⟨List.toArray ([] : List UInt8)⟩), .nilFunc, .nilFunc]])] 10 4 ⟨trivial, SP.drew d1⟩ ?_ ?_
  iterate 10 refine And.intro ?_ ?_
  exact trivial
  ·refine Owe.heavy K [(0, 1), (2, 3)] K (Qn ⟨K, K, ?_⟩ (Qn ⟨K, K, ?_⟩ Xm))
   ·rintro ρ' w' hs p ⟨n9, i9⟩
    refine kN [] trivial fun j => ?_
    refine cF 69 #[] #[] 10 Tryz.call69 (Zw   w'  c0 c1) ?_
    rintro e o0 ⟨j0, rfl, e7⟩
    refine ⟨_, rfl, ?_⟩
    have j1 := SP.call i9 e7
    clear e7
    refine ⟨_, Qm j, trivial, ?_⟩
    exact (Exists.intro j0 (And.intro (And.intro rfl (trivial)) (j1)))
   ·rintro ρ' w' hs p ⟨b9, ⟨j2, -⟩, j3⟩
    refine kN [] trivial fun j => ?_
    refine cF 69 #[] #[] 10 Tryz.call69 (Zw   w'  c0 c1) ?_
    rintro e o1 ⟨j4, rfl, e8⟩
    refine ⟨_, rfl, ?_⟩
    have j5 := SP.call j3 e8
    clear e8
    refine ⟨_, Qm j, trivial, ?_⟩
    exact (Exists.intro j4 (Exists.intro b9 (And.intro (And.intro rfl (And.intro j2 (trivial))) (SP.sel j5 [0, 2, 1] rfl rfl))))
  ·exact oV (hC (hS 1 (pt g9 0)) (h0)) (pt g9 0)
  ·refine Owe.light K [0, 1, 2, 3] K (Qn ?_ (Qn ?_ (Qn ?_ (Qn ?_ Xm))))
   ·rintro ρ' w' hs p ⟨o2, j6⟩
    refine kM (kc (kA p 1 11) k0) fun j => ?_
    refine sL 3 11 g9 0 0 (.int .i64 a) 12 j6 rfl ?_
    exact eK j
   ·rintro ρ' w' hs p ⟨b0, ⟨o3, -⟩, j7⟩
    refine kM (kc (kA p 1 11) k0) fun j => ?_
    refine sL 3 11 g9 0 0 (.int .i64 a) 12 j7 rfl ?_
    exact eK j
   ·rintro ρ' w' hs p ⟨b9, ⟨o4, -⟩, j8⟩
    refine kM (kc (kA p 1 11) k0) fun j => ?_
    refine sL 3 11 g9 0 0 (.int .i64 a) 12 j8 rfl ?_
    exact eK j
   ·rintro ρ' w' hs p ⟨b1, b2, ⟨o5, o6, -⟩, j9⟩
    refine kM (kc (kA p 1 11) k0) fun j => ?_
    refine sL 3 11 g9 0 0 (.int .i64 a) 12 j9 rfl ?_
    exact eK j
  ·refine Owe.light K [1, 3] K (Qn ?_ (Qn ?_ Xm))
   ·rintro ρ' w' hs p ⟨b0, ⟨k1, -⟩, k2⟩
    refine kN [(10, (.map (some b0))), (12, (.int .i64 a))] ⟨(Zb (h := 0) K).symm.trans k1, p 2 12 K, trivial⟩ fun j => ?_
    refine Ds (T := 113) (kt := 3) (et := 118) (m := b0) (L := R3) (k := (.int .i64 a)) (d := (.int .i64)) (x := (.tmp 10)) (ix := (.tmp 12)) (dst := (some 13)) (o := 3) (v := (.agg #[(.string ⟨List.toArray ([] : List UInt8)⟩), .nilFunc, .nilFunc])) K rfl K K K K (fun _ => K) K (E4 b3) (SP.get k2 (i := 1) rfl) ?_
    exact eK j
   ·rintro ρ' w' hs p ⟨b1, b2, ⟨k3, o7, -⟩, k4⟩
    refine kN [(10, (.map (some b1))), (12, (.int .i64 a))] ⟨(Zb (h := 0) K).symm.trans k3, p 2 12 K, trivial⟩ fun j => ?_
    refine Ds (T := 113) (kt := 3) (et := 118) (m := b1) (L := R3) (k := (.int .i64 a)) (d := (.int .i64)) (x := (.tmp 10)) (ix := (.tmp 12)) (dst := (some 13)) (o := 3) (v := (.agg #[(.string ⟨List.toArray ([] : List UInt8)⟩), .nilFunc, .nilFunc])) K rfl K K K K (fun _ => K) K (E4 b3) (SP.get k4 (i := 1) rfl) ?_
    exact eK j
  ·exact oV (hC (hA 3 13) (h0)) (.tuple #[(.agg #[(.string ⟨List.toArray ([] : List UInt8)⟩), .nilFunc, .nilFunc]), (.bool false)])
  ·exact oV (hC (hA 4 9) (h0)) (.agg #[(.string ⟨List.toArray ([] : List UInt8)⟩), .nilFunc, .nilFunc])
  ·exact oV (hC (hA 4 9) (h0)) (.bool false)
  ·refine Owe.heavy K [(0, 2), (1, 3)] K (Qn ⟨K, K, ?_⟩ (Qn ⟨K, K, ?_⟩ Xm))
   ·rintro ρ' w' hs p ⟨o8, k5⟩
    refine kN [] trivial fun j => ?_
    refine Qd.alloc (t := 118) (z := (.agg #[(.string ⟨List.toArray ([] : List UInt8)⟩), .nilFunc, .nilFunc])) (d := (some 3)) (k := 7) K rfl K k5 ?_
    intro k6 o9 k7
    refine ⟨_, Qm j, trivial, ?_⟩
    exact (Exists.intro k6 (And.intro (And.intro rfl (trivial)) (k7)))
   ·rintro ρ' w' hs p ⟨b0, ⟨k8, -⟩, k9⟩
    refine kN [] trivial fun j => ?_
    refine Qd.alloc (t := 118) (z := (.agg #[(.string ⟨List.toArray ([] : List UInt8)⟩), .nilFunc, .nilFunc])) (d := (some 3)) (k := 7) K rfl K k9 ?_
    intro l0 p0 l1
    refine ⟨_, Qm j, trivial, ?_⟩
    exact (Exists.intro b0 (Exists.intro l0 (And.intro (And.intro k8 (And.intro rfl (trivial))) (l1))))
  ·refine oH 3 4 ?_
   ·rintro ρ' w' hs p ⟨b1, b2, ⟨l2, e9, -⟩, l3⟩
    refine kN [(3, (pt b2 0)), (14, (.agg #[(.string ⟨List.toArray ([] : List UInt8)⟩), .nilFunc, .nilFunc]))] ⟨(Zb (h := 7) K).symm.trans e9, p 5 14 K, trivial⟩ fun j => ?_
    refine Qd.store (t := 118) (x := (.tmp 3)) (y := (.tmp 14)) (g := b2) (off := 0) (i := 2) (v := (.agg #[(.string ⟨List.toArray ([] : List UInt8)⟩), .nilFunc, .nilFunc])) (cs' := #[(.string ⟨List.toArray ([] : List UInt8)⟩), .nilFunc, .nilFunc]) (d := none) (k := 8) K rfl K K l3 rfl K ?_
    intro p1 l4
    refine ⟨_, Qm j, trivial, ?_⟩
    exact (Exists.intro b1 (Exists.intro b2 (And.intro (And.intro l2 (And.intro e9 (And.intro rfl (trivial)))) (l4))))
  ·exact oV (hC (hA 6 15) (h0)) (.bool false)
  ·rintro ρ' w' hs hf ⟨d0, c3, ⟨p2, l5, p3, -⟩, f0⟩
   refine Jh [(1, (pt g9 0)), (3, (pt c3 0)), (4, (.bool false))] ⟨(hs 1 K).trans K, (Zb (h := 7) K).symm.trans l5, hf 9 4 K, trivial⟩ ?_
   obtain ⟨p4, l6⟩ : ∃ x, w' = x := ⟨_, rfl⟩
   rw [l6] at f0 ⊢
   refine aQ ?_
   refine aQ ?_
   refine aR ?_
   refine iR 2 2 [(16, (.bool false)), (17, (.bool true))] ?_
   refine iF ?_
   refine Xe K (o := (.tmp 17)) K (b := true) K (fun f1 => ?_) (fun f1 => ?_)
   rotate_left
   ·cases f1
   refine aQ ?_
   refine aR ?_
   refine iR 1 1 [(2, (.string ⟨List.toArray ([] : List UInt8)⟩))] ?_
   refine iF ?_
   refine At.ret K ?_
   refine ⟨(.string ⟨List.toArray ([] : List UInt8)⟩), K, ?_⟩
   obtain rfl := Qc H
   exact ⟨rfl, SP.sel f0 [] rfl rfl⟩
def Zd (a : ((List (List UInt8)) × Bool)) (b : Bool) : Option ((List UInt8)) :=
  ((Qs a.1 b).bind fun c => (some (c)))
def Ze (c : (List (List UInt8)) → Bool → Int → Int → Option ((List UInt8))) (d : (List (List UInt8))) (e : Int) (a : (Int × (List UInt8) × Bool × Bool)) (f : Bool) : Option ((List UInt8)) :=
  ((Z4 a.1).bind fun g => ((app g ([61] : List UInt8)).bind fun h => ((V6 a.2.1).bind fun i => ((app h i).bind fun j => ((Yv a.2.2.1 ([43] : List UInt8)).bind fun k => ((app j k).bind fun l => ((Yv a.2.2.2 ([33] : List UInt8)).bind fun m => ((app l m).bind fun n => ((Qp d f ([n] : List (List UInt8))).bind fun b => (c b.1 b.2 a.1 (IntKind.wrap .i64 (e + 1))))))))))))
def Zf (d : (List (List UInt8)) → Bool → Int → Int → Option ((List UInt8))) (e : (List (Int × (List UInt8) × Bool × Bool))) (c : (List (List UInt8))) (f : Bool) (g : Int) (a : Int) : Option ((List UInt8)) :=
  (cond (decide (a < ((List.length e : Nat) : Int))) ((idx e a).bind fun b => (cond f (Ze d c a b true) (cond (decide (b.1 ≤ g)) (Ze d c a b true) (Ze d c a b (decide (b.1 > 1099511627776)))))) ((Qs c f).bind fun h => (some (h))))
def Vp (a : (List (Int × (List UInt8) × Bool × Bool))) : Nat → (List (List UInt8)) → Bool → Int → Int → Option ((List UInt8))
  | 0, _, _, _, _ => none
  | f + 1, b, c, d, e => Zf  (Vp a f) a b c d e
def Z6 (b : Int) (c : Int) (d : Int) (e : (List (Int × (List UInt8) × Bool × Bool))) : Option ((List UInt8)) :=
  (cond (b != 0) ((Qp ([] : List (List UInt8)) false ([([101, 114, 114] : List UInt8)] : List (List UInt8))).bind fun f => ((Qq f.1 f.2 b).bind fun a => (cond a.2 (Zd a true) (cond (c != 0) (Zd a true) (cond (d != 0) (Zd a true) (Zd a (decide (((List.length e : Nat) : Int) > 0)))))))) ((Qp ([] : List (List UInt8)) false ([([111, 107] : List UInt8)] : List (List UInt8))).bind fun g => ((Qq g.1 g.2 c).bind fun h => ((Qq h.1 h.2 d).bind fun i => (Vp e Ye i.1 i.2 (-1) 0)))))
set_option maxHeartbeats 40000000 in
theorem X0 (A5 : Option Addr) (c6 : Nat) (a8 : Int) (a3 : Int) (a4 : Int) (s : (List (Int × (List UInt8) × Bool × Bool))) (w0 : World) (hL : X8 w0) (g3 : RdT (Ql (Ub .i64) (Ql Qi (Ql Vb Vb))) w0 A5 c6 s) (r : ((List UInt8))) (H : Z6 a8 a3 a4 s = some r) :
  Calls Tryz.prog 37 #[(.agg #[(.int .i64 a8), (.int .i64 a3), (.int .i64 a4), (.slice A5 (List.length s) c6)])] w0 (fun e w' => e = .returned (.string ⟨List.toArray r⟩) ∧ SP [] w0 w' []) := by
 unfold Z6 at H
 refine Qg (n := 104) Tryz.func37 K K K ?_
 have j5 := Vc [] w0
 refine aQ ?_
 refine aR ?_
 refine iS 1 ?_
 refine V9 (t := 55) (x := (.tmp 0)) (v := (.agg #[(.int .i64 a8), (.int .i64 a3), (.int .i64 a4), (.slice A5 (List.length s) c6)])) (d := (some 1)) (k := 0) K rfl K j5 ?_
 intro g8 w9 j6
 refine iR 1 2 [(2, (.string ⟨List.toArray ([] : List UInt8)⟩))] ?_
 refine iF ?_
 refine aQ ?_
 refine aR ?_
 refine iR 1 1 [(7, (.agg #[(.slice none (List.length ([] : List (List UInt8))) 0), (.bool false)]))] ?_
 refine iS 2 ?_
 refine V9 (t := 133) (x := (.tmp 7)) (v := (.agg #[(.slice none (List.length ([] : List (List UInt8))) 0), (.bool false)])) (d := (some 8)) (k := 1) K rfl K j6 ?_
 intro j r9 d8
 refine iR 1 3 [(3, (pt j 0))] ?_
 refine iF ?_
 refine aQ ?_
 refine aQ ?_
 refine aR ?_
 refine iR 1 1 [(9, (pt g8 0))] ?_
 refine iS 2 ?_
 refine sL 27 9 g8 0 0 (.int .i64 a8) 10 d8 rfl ?_
 refine iR 1 3 [(11, (.bool (a8 != 0)))] ?_
 refine iF ?_
 refine Xe K (o := (.tmp 11)) K (b := (a8 != 0)) K (fun d9 => ?_) (fun d9 => ?_)
 ·have H := ct H d9
  refine aQ ?_
  refine aR ?_
  refine iR 1 1 [(12, (pt j 0))] ?_
  refine iS 2 ?_
  refine Vo (e := Qi) (T := 79) (E := 9) (len := 1) (parts := #[(0, (.const (.string ⟨List.toArray ([101, 114, 114] : List UInt8)⟩)))]) (cs := #[(.string ⟨List.toArray ([101, 114, 114] : List UInt8)⟩)]) ([([101, 114, 114] : List UInt8)] : List (List UInt8)) (d := (some 13)) (k := 1) K rfl (fun _ => K) d8 rfl rfl rfl rfl ?_
  intro d1 g4 j7
  obtain ⟨c1, j8, H⟩ := Qa H
  refine iS 3 ?_
  have e0 : SP [] w0 g4 [Qf g8 55 #[(.int .i64 a8), (.int .i64 a3), (.int .i64 a4), (.slice A5 (List.length s) c6)], Qf j 133 #[(.slice none (List.length ([] : List (List UInt8))) 0), (.bool false)], Vf 9 Qi (some ⟨d1, 0, none⟩) (List.length ([([101, 114, 114] : List UInt8)] : List (List UInt8))) ([([101, 114, 114] : List UInt8)] : List (List UInt8)), Vf 9 Qi none 0 ([] : List (List UInt8))] := Yd j7 9 Qi
  refine cF 84 #[(.tmp 12), (.tmp 13)] #[132, 79] 14 Tryz.call84 (Qz j none 0 (some ⟨d1, 0, none⟩) (List.length ([([101, 114, 114] : List UInt8)] : List (List UInt8))) ([] : List (List UInt8)) false ([([101, 114, 114] : List UInt8)] : List (List UInt8)) g4 (Q4 e0 [1, 3] rfl rfl) (fun w hm => (Vv (SP.still e0 (l := [1, 3]) (i := 2) rfl rfl rfl hm))) c1 j8) ?_
  rintro e g5 ⟨e1, e2, rfl, g6⟩
  refine ⟨_, rfl, ?_⟩
  have d2 : SP [] w0 g5 [Qf g8 55 #[(.int .i64 a8), (.int .i64 a3), (.int .i64 a4), (.slice A5 (List.length s) c6)], Vf 9 Qi (some ⟨d1, 0, none⟩) (List.length ([([101, 114, 114] : List UInt8)] : List (List UInt8))) ([([101, 114, 114] : List UInt8)] : List (List UInt8)), Qf j 133 #[(.slice e1 (List.length c1.1) e2), (.bool c1.2)], Vf 9 Qi e1 e2 c1.1] := Qh e0 [1, 3] [0, 2] rfl rfl g6 rfl
  clear g6
  refine iF ?_
  refine aQ ?_
  refine aR ?_
  refine iR 2 2 [(15, (pt j 0)), (16, (pt g8 0))] ?_
  refine iS 3 ?_
  refine sL 27 16 g8 0 0 (.int .i64 a8) 17 d2 rfl ?_
  obtain ⟨a5, j9, H⟩ := Qa H
  refine iS 4 ?_
  refine cF 85 #[(.tmp 15), (.tmp 17)] #[132, 2] 18 Tryz.call85 (Qv j e1 e2 c1.1 c1.2 a8 g5 (fun w hm => Qo hL (Xn d2 (l := [2, 3]) rfl hm)) (Q4 d2 [2, 3] rfl rfl) a5 j9) ?_
  rintro e k1 ⟨b4, b5, rfl, g7⟩
  refine ⟨_, rfl, ?_⟩
  have b7 : SP [] w0 k1 [Qf g8 55 #[(.int .i64 a8), (.int .i64 a3), (.int .i64 a4), (.slice A5 (List.length s) c6)], Vf 9 Qi (some ⟨d1, 0, none⟩) (List.length ([([101, 114, 114] : List UInt8)] : List (List UInt8))) ([([101, 114, 114] : List UInt8)] : List (List UInt8)), Qf j 133 #[(.slice b4 (List.length a5.1) b5), (.bool a5.2)], Vf 9 Qi b4 b5 a5.1] := Qh d2 [2, 3] [0, 1] rfl rfl g7 rfl
  clear g7
  refine iF ?_
  refine aQ ?_
  refine At.join (fun ρ w => ∃ (c8 : Bool), V1 ρ [(3, (pt j 0))] ∧ SP [] w0 w [Vf 9 Qi b4 b5 a5.1, Qf j 133 #[(.slice b4 (List.length a5.1) b5), (.bool c8)]] ∧ Zd a5 c8 = some r) ?_ ?_
  ·refine aR ?_
   refine iR 4 4 [(19, (pt j 0)), (20, (pt j 0)), (21, (pt j 0)), (22, (pt j 1))] ?_
   refine iS 5 ?_
   refine sL 4 22 j 1 2 (.bool a5.2) 23 b7 rfl ?_
   refine iR 1 6 [(24, (.bool a5.2))] ?_
   refine In.guard (t := 24) (b := a5.2) K (fun e3 => ?_) (fun e3 => ?_)
   ·have H := ct H e3
    refine iR 17 23 [(25, undef), (26, undef), (27, undef), (28, (.bool true)), (29, (.bool true)), (30, undef), (31, undef), (32, undef), (33, (.bool true)), (34, (.bool true)), (35, undef), (36, undef), (37, undef), (38, undef), (39, (.bool true)), (40, (pt j 0)), (41, (pt j 1))] ?_
    refine iS 24 ?_
    refine Qd.store (t := 4) (x := (.tmp 41)) (y := (.tmp 39)) (g := j) (off := 1) (i := 2) (v := (.bool true)) (cs' := #[(.slice b4 (List.length a5.1) b5), (.bool true)]) (d := none) (k := 23) K rfl K K b7 rfl K ?_
    intro s0 k2
    refine iF ?_
    exact ⟨true, ⟨K, trivial⟩, SP.sel k2 [3, 2] rfl rfl, H⟩
   ·have H := cf H e3
    refine iR 1 7 [(25, (pt g8 1))] ?_
    refine iS 8 ?_
    refine sL 3 25 g8 1 0 (.int .i64 a3) 26 b7 rfl ?_
    refine iR 3 11 [(27, (.bool (a3 != 0))), (28, (.bool (a3 != 0))), (29, (.bool (a3 != 0)))] ?_
    refine In.guard (t := 29) (b := (a3 != 0)) K (fun e4 => ?_) (fun e4 => ?_)
    ·have H := ct H e4
     refine iR 12 23 [(30, undef), (31, undef), (32, undef), (33, (.bool true)), (34, (.bool true)), (35, undef), (36, undef), (37, undef), (38, undef), (39, (.bool true)), (40, (pt j 0)), (41, (pt j 1))] ?_
     refine iS 24 ?_
     refine Qd.store (t := 4) (x := (.tmp 41)) (y := (.tmp 39)) (g := j) (off := 1) (i := 2) (v := (.bool true)) (cs' := #[(.slice b4 (List.length a5.1) b5), (.bool true)]) (d := none) (k := 23) K rfl K K b7 rfl K ?_
     intro s1 k3
     refine iF ?_
     exact ⟨true, ⟨K, trivial⟩, SP.sel k3 [3, 2] rfl rfl, H⟩
    ·have H := cf H e4
     refine iR 1 12 [(30, (pt g8 2))] ?_
     refine iS 13 ?_
     refine sL 3 30 g8 2 0 (.int .i64 a4) 31 b7 rfl ?_
     refine iR 3 16 [(32, (.bool (a4 != 0))), (33, (.bool (a4 != 0))), (34, (.bool (a4 != 0)))] ?_
     refine In.guard (t := 34) (b := (a4 != 0)) K (fun e5 => ?_) (fun e5 => ?_)
     ·have H := ct H e5
      refine iR 7 23 [(35, undef), (36, undef), (37, undef), (38, undef), (39, (.bool true)), (40, (pt j 0)), (41, (pt j 1))] ?_
      refine iS 24 ?_
      refine Qd.store (t := 4) (x := (.tmp 41)) (y := (.tmp 39)) (g := j) (off := 1) (i := 2) (v := (.bool true)) (cs' := #[(.slice b4 (List.length a5.1) b5), (.bool true)]) (d := none) (k := 23) K rfl K K b7 rfl K ?_
      intro s2 k4
      refine iF ?_
      exact ⟨true, ⟨K, trivial⟩, SP.sel k4 [3, 2] rfl rfl, H⟩
     ·have H := cf H e5
      refine iR 1 17 [(35, (pt g8 3))] ?_
      refine iS 18 ?_
      refine sL 53 35 g8 3 0 (.slice A5 (List.length s) c6) 36 b7 rfl ?_
      refine iR 5 23 [(37, (.int .i64 ((List.length s : Nat) : Int))), (38, (.bool (decide (((List.length s : Nat) : Int) > 0)))), (39, (.bool (decide (((List.length s : Nat) : Int) > 0)))), (40, (pt j 0)), (41, (pt j 1))] ?_
      refine iS 24 ?_
      refine Qd.store (t := 4) (x := (.tmp 41)) (y := (.tmp 39)) (g := j) (off := 1) (i := 2) (v := (.bool (decide (((List.length s : Nat) : Int) > 0)))) (cs' := #[(.slice b4 (List.length a5.1) b5), (.bool (decide (((List.length s : Nat) : Int) > 0)))]) (d := none) (k := 23) K rfl K K b7 rfl K ?_
      intro s3 k5
      refine iF ?_
      exact ⟨(decide (((List.length s : Nat) : Int) > 0)), ⟨K, trivial⟩, SP.sel k5 [3, 2] rfl rfl, H⟩
  ·rintro ρ k6 ⟨c8, hk, g9, H⟩
   unfold Zd at H
   first | refine At.known [(3, (pt j 0))] hk ?_ | rw [← Qj (l := [(3, (pt j 0))]) hk]
   refine aQ ?_
   refine aR ?_
   refine iR 1 1 [(42, (pt j 0))] ?_
   obtain ⟨e6, k7, H⟩ := Qa H
   refine iS 2 ?_
   refine cF 79 #[(.tmp 42)] #[132] 43 Tryz.call79 (Xb j b4 b5 a5.1 c8 k6 (Q4 g9 [1, 0] rfl rfl) e6 k7) ?_
   rintro e k8 ⟨h1, h2, rfl, h3⟩
   refine ⟨_, rfl, ?_⟩
   have k9 : SP [] w0 k8 [Qf j 133 #[(.slice h1 (List.length a5.1) h2), (.bool c8)], Vf 9 Qi h1 h2 a5.1] := Qh g9 [1, 0] [] rfl rfl h3 rfl
   clear h3
   refine iR 1 3 [(2, (.string ⟨List.toArray e6⟩))] ?_
   refine iF ?_
   refine At.ret K ?_
   refine ⟨(.string ⟨List.toArray e6⟩), K, ?_⟩
   obtain rfl := Qc H
   exact ⟨rfl, SP.sel k9 [] rfl rfl⟩
 ·have H := cf H d9
  refine At.skip K ?_
  refine aQ ?_
  refine aR ?_
  refine iR 1 1 [(44, (pt j 0))] ?_
  refine iS 2 ?_
  refine Vo (e := Qi) (T := 79) (E := 9) (len := 1) (parts := #[(0, (.const (.string ⟨List.toArray ([111, 107] : List UInt8)⟩)))]) (cs := #[(.string ⟨List.toArray ([111, 107] : List UInt8)⟩)]) ([([111, 107] : List UInt8)] : List (List UInt8)) (d := (some 45)) (k := 1) K rfl (fun _ => K) d8 rfl rfl rfl rfl ?_
  intro c9 h4 l0
  obtain ⟨c2, l1, H⟩ := Qa H
  refine iS 3 ?_
  have e7 : SP [] w0 h4 [Qf g8 55 #[(.int .i64 a8), (.int .i64 a3), (.int .i64 a4), (.slice A5 (List.length s) c6)], Qf j 133 #[(.slice none (List.length ([] : List (List UInt8))) 0), (.bool false)], Vf 9 Qi (some ⟨c9, 0, none⟩) (List.length ([([111, 107] : List UInt8)] : List (List UInt8))) ([([111, 107] : List UInt8)] : List (List UInt8)), Vf 9 Qi none 0 ([] : List (List UInt8))] := Yd l0 9 Qi
  refine cF 84 #[(.tmp 44), (.tmp 45)] #[132, 79] 46 Tryz.call84 (Qz j none 0 (some ⟨c9, 0, none⟩) (List.length ([([111, 107] : List UInt8)] : List (List UInt8))) ([] : List (List UInt8)) false ([([111, 107] : List UInt8)] : List (List UInt8)) h4 (Q4 e7 [1, 3] rfl rfl) (fun w hm => (Vv (SP.still e7 (l := [1, 3]) (i := 2) rfl rfl rfl hm))) c2 l1) ?_
  rintro e h5 ⟨e8, e9, rfl, h6⟩
  refine ⟨_, rfl, ?_⟩
  have d3 : SP [] w0 h5 [Qf g8 55 #[(.int .i64 a8), (.int .i64 a3), (.int .i64 a4), (.slice A5 (List.length s) c6)], Vf 9 Qi (some ⟨c9, 0, none⟩) (List.length ([([111, 107] : List UInt8)] : List (List UInt8))) ([([111, 107] : List UInt8)] : List (List UInt8)), Qf j 133 #[(.slice e8 (List.length c2.1) e9), (.bool c2.2)], Vf 9 Qi e8 e9 c2.1] := Qh e7 [1, 3] [0, 2] rfl rfl h6 rfl
  clear h6
  refine iF ?_
  refine aQ ?_
  refine aR ?_
  refine iR 2 2 [(47, (pt j 0)), (48, (pt g8 1))] ?_
  refine iS 3 ?_
  refine sL 3 48 g8 1 0 (.int .i64 a3) 49 d3 rfl ?_
  obtain ⟨c3, l2, H⟩ := Qa H
  refine iS 4 ?_
  refine cF 85 #[(.tmp 47), (.tmp 49)] #[132, 2] 50 Tryz.call85 (Qv j e8 e9 c2.1 c2.2 a3 h5 (fun w hm => Qo hL (Xn d3 (l := [2, 3]) rfl hm)) (Q4 d3 [2, 3] rfl rfl) c3 l2) ?_
  rintro e h7 ⟨f0, f1, rfl, h8⟩
  refine ⟨_, rfl, ?_⟩
  have d4 : SP [] w0 h7 [Qf g8 55 #[(.int .i64 a8), (.int .i64 a3), (.int .i64 a4), (.slice A5 (List.length s) c6)], Vf 9 Qi (some ⟨c9, 0, none⟩) (List.length ([([111, 107] : List UInt8)] : List (List UInt8))) ([([111, 107] : List UInt8)] : List (List UInt8)), Qf j 133 #[(.slice f0 (List.length c3.1) f1), (.bool c3.2)], Vf 9 Qi f0 f1 c3.1] := Qh d3 [2, 3] [0, 1] rfl rfl h8 rfl
  clear h8
  refine iF ?_
  refine aQ ?_
  refine aR ?_
  refine iR 2 2 [(51, (pt j 0)), (52, (pt g8 2))] ?_
  refine iS 3 ?_
  refine sL 3 52 g8 2 0 (.int .i64 a4) 53 d4 rfl ?_
  obtain ⟨c4, l3, H⟩ := Qa H
  refine iS 4 ?_
  refine cF 85 #[(.tmp 51), (.tmp 53)] #[132, 2] 54 Tryz.call85 (Qv j f0 f1 c3.1 c3.2 a4 h7 (fun w hm => Qo hL (Xn d4 (l := [2, 3]) rfl hm)) (Q4 d4 [2, 3] rfl rfl) c4 l3) ?_
  rintro e l4 ⟨f2, f3, rfl, h9⟩
  refine ⟨_, rfl, ?_⟩
  have i0 : SP [] w0 l4 [Qf g8 55 #[(.int .i64 a8), (.int .i64 a3), (.int .i64 a4), (.slice A5 (List.length s) c6)], Vf 9 Qi (some ⟨c9, 0, none⟩) (List.length ([([111, 107] : List UInt8)] : List (List UInt8))) ([([111, 107] : List UInt8)] : List (List UInt8)), Qf j 133 #[(.slice f2 (List.length c4.1) f3), (.bool c4.2)], Vf 9 Qi f2 f3 c4.1] := Qh d4 [2, 3] [0, 1] rfl rfl h9 rfl
  clear h9
  refine iF ?_
  refine aQ ?_
  refine aR ?_
  refine iR 1 1 [(4, (.int .i64 (-1)))] ?_
  refine iF ?_
  refine aQ ?_
  refine aQ ?_
  refine aR ?_
  refine iR 1 1 [(55, (pt g8 3))] ?_
  refine iS 2 ?_
  refine sL 53 55 g8 3 0 (.slice A5 (List.length s) c6) 56 i0 rfl ?_
  refine iR 2 4 [(57, (.int .i64 ((List.length s : Nat) : Int))), (58, (.int .i64 0))] ?_
  refine iF ?_
  refine Um K (id := 0) K ?_
  refine D0 K (fun f5 ρ w => ∃ (u : (List (List UInt8))) (b2 : Bool) (b0 : Int) (a2 : Int) (a0 : Option Addr) (a1 : Nat), V1 ρ [(3, (pt j 0)), (4, (.int .i64 b0)), (56, (.slice A5 (List.length s) c6)), (57, (.int .i64 ((List.length s : Nat) : Int))), (58, (.int .i64 a2))] ∧ SP [] w0 w [Vf 9 Qi a0 a1 u, Qf j 133 #[(.slice a0 (List.length u) a1), (.bool b2)]] ∧ Vp s f5 u b2 b0 a2 = some r) (by rintro ρ w ⟨u, b2, b0, a2, a0, a1, hk, hs, H⟩; cases H) ?_ Ye ?_
  ·rintro f5 ρ l5 ⟨u, b2, b0, a2, a0, a1, hk, d0, H⟩
   refine At.known [(3, (pt j 0)), (4, (.int .i64 b0)), (56, (.slice A5 (List.length s) c6)), (57, (.int .i64 ((List.length s : Nat) : Int))), (58, (.int .i64 a2))] hk ?_
   replace H := (show Zf (Vp s f5) s u b2 b0 a2 = some r from H)
   unfold Zf at H
   refine aQ ?_
   refine aR ?_
   refine iR 1 1 [(59, (.bool (decide (a2 < ((List.length s : Nat) : Int)))))] ?_
   refine iF ?_
   refine aQ ?_
   refine Xe K (o := (.tmp 59)) K (b := (decide (a2 < ((List.length s : Nat) : Int)))) K (fun f4 => ?_) (fun f4 => ?_)
   ·have H := ct H f4
    refine At.skip K ?_
    refine aQ ?_
    refine Um K (id := 1) K ?_
    refine aQ ?_
    refine aR ?_
    obtain ⟨f, i1, i2, l6, H⟩ := Zy H
    refine iS 1 ?_
    refine Xf (e := (Ql (Ub .i64) (Ql Qi (Ql Vb Vb)))) (l := s) (A := A5) (c := c6) (T := 53) (E := 108) (x := (.tmp 56)) (ix := (.tmp 58)) (ki := .i64) (iz := a2) (d := (some 60)) (k := 0) K rfl K K K K (RdT.sp g3 d0) i1 i2 ?_
    intro l7 l8 l9 s4 hc1099
    refine iS 2 ?_
    refine Qd.cells (t := 108) (x := (.tmp 60)) (b := l7) (off := (l8 + Int.toNat a2 * (Ql (Ub .i64) (Ql Qi (Ql Vb Vb))).sz)) (xs := [(.int .i64 f.1), (.string ⟨List.toArray f.2.1⟩), (.bool f.2.2.1), (.bool f.2.2.2)]) (d := (some 61)) (k := 1) K rfl K K K (Gu (e := (Ql (Ub .i64) (Ql Qi (Ql Vb Vb)))) (Jj (RdT.sp g3 d0) l9 i1 i2) l6 rfl) ?_
    refine iS 3 ?_
    refine Qd.alloc (t := 108) (z := (.agg #[(.int .i64 0), (.string ⟨List.toArray ([] : List UInt8)⟩), (.bool false), (.bool false)])) (d := (some 6)) (k := 2) K rfl K d0 ?_
    intro q s5 m0
    refine iS 4 ?_
    refine Qd.store (t := 108) (x := (.tmp 6)) (y := (.tmp 61)) (g := q) (off := 0) (i := 2) (v := (.agg #[(.int .i64 f.1), (.string ⟨List.toArray f.2.1⟩), (.bool f.2.2.1), (.bool f.2.2.2)])) (cs' := #[(.int .i64 f.1), (.string ⟨List.toArray f.2.1⟩), (.bool f.2.2.1), (.bool f.2.2.2)]) (d := none) (k := 3) K rfl K K m0 rfl K ?_
    intro s6 c5
    refine iF ?_
    refine aQ ?_
    refine At.join (fun ρ w => ∃ (b3 : Bool), V1 ρ [(3, (pt j 0)), (6, (pt q 0)), (56, (.slice A5 (List.length s) c6)), (57, (.int .i64 ((List.length s : Nat) : Int))), (58, (.int .i64 a2))] ∧ SP [] w0 w [Vf 9 Qi a0 a1 u, Qf j 133 #[(.slice a0 (List.length u) a1), (.bool b3)], Qf q 108 #[(.int .i64 f.1), (.string ⟨List.toArray f.2.1⟩), (.bool f.2.2.1), (.bool f.2.2.2)]] ∧ Ze (Vp s f5) u a2 f b3 = some r) ?_ ?_
    ·refine aR ?_
     refine iR 4 4 [(62, (pt j 0)), (63, (pt j 0)), (64, (pt j 0)), (65, (pt j 1))] ?_
     refine iS 5 ?_
     refine sL 4 65 j 1 1 (.bool b2) 66 c5 rfl ?_
     refine iR 1 6 [(67, (.bool b2))] ?_
     refine In.guard (t := 67) (b := b2) K (fun f6 => ?_) (fun f6 => ?_)
     ·have H := ct H f6
      refine iR 12 18 [(68, undef), (69, undef), (70, undef), (71, undef), (72, (.bool true)), (73, (.bool true)), (74, undef), (75, undef), (76, undef), (77, (.bool true)), (78, (pt j 0)), (79, (pt j 1))] ?_
      refine iS 19 ?_
      refine Qd.store (t := 4) (x := (.tmp 79)) (y := (.tmp 77)) (g := j) (off := 1) (i := 1) (v := (.bool true)) (cs' := #[(.slice a0 (List.length u) a1), (.bool true)]) (d := none) (k := 18) K rfl K K c5 rfl K ?_
      intro s7 m1
      refine iF ?_
      exact ⟨true, ⟨K, K, K, K, K, trivial⟩, SP.sel m1 [0, 1, 2] rfl rfl, H⟩
     ·have H := cf H f6
      refine iR 1 7 [(68, (pt q 0))] ?_
      refine iS 8 ?_
      refine sL 3 68 q 0 2 (.int .i64 f.1) 69 c5 rfl ?_
      refine iR 4 12 [(70, (.int .i64 b0)), (71, (.bool (decide (f.1 ≤ b0)))), (72, (.bool (decide (f.1 ≤ b0)))), (73, (.bool (decide (f.1 ≤ b0))))] ?_
      refine In.guard (t := 73) (b := (decide (f.1 ≤ b0))) K (fun f7 => ?_) (fun f7 => ?_)
      ·have H := ct H f7
       refine iR 6 18 [(74, undef), (75, undef), (76, undef), (77, (.bool true)), (78, (pt j 0)), (79, (pt j 1))] ?_
       refine iS 19 ?_
       refine Qd.store (t := 4) (x := (.tmp 79)) (y := (.tmp 77)) (g := j) (off := 1) (i := 1) (v := (.bool true)) (cs' := #[(.slice a0 (List.length u) a1), (.bool true)]) (d := none) (k := 18) K rfl K K c5 rfl K ?_
       intro s8 m2
       refine iF ?_
       exact ⟨true, ⟨K, K, K, K, K, trivial⟩, SP.sel m2 [0, 1, 2] rfl rfl, H⟩
      ·have H := cf H f7
       refine iR 1 13 [(74, (pt q 0))] ?_
       refine iS 14 ?_
       refine sL 3 74 q 0 2 (.int .i64 f.1) 75 c5 rfl ?_
       refine iR 4 18 [(76, (.bool (decide (f.1 > 1099511627776)))), (77, (.bool (decide (f.1 > 1099511627776)))), (78, (pt j 0)), (79, (pt j 1))] ?_
       refine iS 19 ?_
       refine Qd.store (t := 4) (x := (.tmp 79)) (y := (.tmp 77)) (g := j) (off := 1) (i := 1) (v := (.bool (decide (f.1 > 1099511627776)))) (cs' := #[(.slice a0 (List.length u) a1), (.bool (decide (f.1 > 1099511627776)))]) (d := none) (k := 18) K rfl K K c5 rfl K ?_
       intro s9 m3
       refine iF ?_
       exact ⟨(decide (f.1 > 1099511627776)), ⟨K, K, K, K, K, trivial⟩, SP.sel m3 [0, 1, 2] rfl rfl, H⟩
    ·rintro ρ t0 ⟨b3, hk, i3, H⟩
     unfold Ze at H
     first | refine At.known [(3, (pt j 0)), (6, (pt q 0)), (56, (.slice A5 (List.length s) c6)), (57, (.int .i64 ((List.length s : Nat) : Int))), (58, (.int .i64 a2))] hk ?_ | rw [← Qj (l := [(3, (pt j 0)), (6, (pt q 0)), (56, (.slice A5 (List.length s) c6)), (57, (.int .i64 ((List.length s : Nat) : Int))), (58, (.int .i64 a2))]) hk]
     refine aQ ?_
     refine aR ?_
     refine iR 1 1 [(80, (pt q 0))] ?_
     refine iS 2 ?_
     refine sL 3 80 q 0 2 (.int .i64 f.1) 81 i3 rfl ?_
     refine iR 1 3 [(4, (.int .i64 f.1))] ?_
     refine iF ?_
     obtain ⟨a6, m4, H⟩ := Qa H
     obtain ⟨hl1130, H⟩ := U2 H
     obtain ⟨b8, hyl1129⟩ : ∃ y, a6 ++ ([61] : List UInt8) = y := ⟨_, rfl⟩
     rw [hyl1129] at H
     obtain ⟨a9, m5, H⟩ := Qa H
     obtain ⟨hl1138, H⟩ := U2 H
     obtain ⟨c7, hyl1137⟩ : ∃ y, b8 ++ a9 = y := ⟨_, rfl⟩
     rw [hyl1137] at H
     obtain ⟨b1, m6, H⟩ := Qa H
     obtain ⟨hl1146, H⟩ := U2 H
     obtain ⟨d5, hyl1145⟩ : ∃ y, c7 ++ b1 = y := ⟨_, rfl⟩
     rw [hyl1145] at H
     obtain ⟨b9, m7, H⟩ := Qa H
     obtain ⟨hl1154, H⟩ := U2 H
     obtain ⟨a7, hyl1153⟩ : ∃ y, d5 ++ b9 = y := ⟨_, rfl⟩
     rw [hyl1153] at H
     obtain ⟨b6, m8, H⟩ := Qa H
     refine aG [GEq (pt j 0), GEq (pt q 0), GEq (.int .i64 f.1), GEq (.string ⟨List.toArray a6⟩), GEq (.string ⟨List.toArray b8⟩), GEq (pt q 1), GEq (.string ⟨List.toArray f.2.1⟩), GEq (.string ⟨List.toArray a9⟩), GEq (.string ⟨List.toArray c7⟩), GEq (pt q 2), GEq (.bool f.2.2.1), GEq (.string ⟨List.toArray b1⟩), GEq (.string ⟨List.toArray d5⟩), GEq (pt q 3), GEq (.bool f.2.2.2), GEq (.string ⟨List.toArray b9⟩), GEq (.string ⟨List.toArray a7⟩), GAny, GEq (.tuple #[])] [3, 7, 11, 15, 17, 18] [([], fun vs w => VL vs [] ∧ SP [] w0 w [Vf 9 Qi a0 a1 u, Qf j 133 #[(.slice a0 (List.length u) a1), (.bool b3)], Qf q 108 #[(.int .i64 f.1), (.string ⟨List.toArray f.2.1⟩), (.bool f.2.2.1), (.bool f.2.2.2)]]), ([3], fun vs w => VL vs [(.string ⟨List.toArray a6⟩)] ∧ SP [] w0 w [Vf 9 Qi a0 a1 u, Qf j 133 #[(.slice a0 (List.length u) a1), (.bool b3)], Qf q 108 #[(.int .i64 f.1), (.string ⟨List.toArray f.2.1⟩), (.bool f.2.2.1), (.bool f.2.2.2)]]), ([3, 7], fun vs w => VL vs [(.string ⟨List.toArray a6⟩), (.string ⟨List.toArray a9⟩)] ∧ SP [] w0 w [Vf 9 Qi a0 a1 u, Qf j 133 #[(.slice a0 (List.length u) a1), (.bool b3)], Qf q 108 #[(.int .i64 f.1), (.string ⟨List.toArray f.2.1⟩), (.bool f.2.2.1), (.bool f.2.2.2)]]), ([3, 7, 11], fun vs w => VL vs [(.string ⟨List.toArray a6⟩), (.string ⟨List.toArray a9⟩), (.string ⟨List.toArray b1⟩)] ∧ SP [] w0 w [Vf 9 Qi a0 a1 u, Qf j 133 #[(.slice a0 (List.length u) a1), (.bool b3)], Qf q 108 #[(.int .i64 f.1), (.string ⟨List.toArray f.2.1⟩), (.bool f.2.2.1), (.bool f.2.2.2)]]), ([3, 7, 11, 15], fun vs w => VL vs [(.string ⟨List.toArray a6⟩), (.string ⟨List.toArray a9⟩), (.string ⟨List.toArray b1⟩), (.string ⟨List.toArray b9⟩)] ∧ SP [] w0 w [Vf 9 Qi a0 a1 u, Qf j 133 #[(.slice a0 (List.length u) a1), (.bool b3)], Qf q 108 #[(.int .i64 f.1), (.string ⟨List.toArray f.2.1⟩), (.bool f.2.2.1), (.bool f.2.2.2)]]), ([3, 7, 11, 15, 17], fun vs w => ∃ (c0 : Nat), VL vs [(.string ⟨List.toArray a6⟩), (.string ⟨List.toArray a9⟩), (.string ⟨List.toArray b1⟩), (.string ⟨List.toArray b9⟩), (.slice (some ⟨c0, 0, none⟩) (List.length ([a7] : List (List UInt8))) (List.length ([a7] : List (List UInt8))))] ∧ SP [] w0 w [Vf 9 Qi a0 a1 u, Qf j 133 #[(.slice a0 (List.length u) a1), (.bool b3)], Qf q 108 #[(.int .i64 f.1), (.string ⟨List.toArray f.2.1⟩), (.bool f.2.2.1), (.bool f.2.2.2)], Vf 9 Qi (some ⟨c0, 0, none⟩) (List.length ([a7] : List (List UInt8))) ([a7] : List (List UInt8))]), ([3, 7, 11, 15, 17, 18], fun vs w => ∃ (f8 : Nat), ∃ (d6 : Option Addr), ∃ (d7 : Nat), VL vs [(.string ⟨List.toArray a6⟩), (.string ⟨List.toArray a9⟩), (.string ⟨List.toArray b1⟩), (.string ⟨List.toArray b9⟩), (.slice (some ⟨f8, 0, none⟩) (List.length ([a7] : List (List UInt8))) (List.length ([a7] : List (List UInt8)))), (.tuple #[])] ∧ SP [] w0 w [Qf q 108 #[(.int .i64 f.1), (.string ⟨List.toArray f.2.1⟩), (.bool f.2.2.1), (.bool f.2.2.2)], Vf 9 Qi (some ⟨f8, 0, none⟩) (List.length ([a7] : List (List UInt8))) ([a7] : List (List UInt8)), Qf j 133 #[(.slice d6 (List.length b6.1) d7), (.bool b6.2)], Vf 9 Qi d6 d7 b6.1])] 19 6 ⟨trivial, SP.drew i3⟩ ?_ ?_
     iterate 19 refine And.intro ?_ ?_
     exact trivial
     ·exact oV (hC (hS 3 (pt j 0)) (h0)) (pt j 0)
     ·exact oV (hC (hS 6 (pt q 0)) (h0)) (pt q 0)
     ·refine oL 0 ?_
      ·rintro ρ' w' hs p ⟨t1, m9⟩
       refine kM (kc (kA p 1 83) k0) fun m => ?_
       refine sL 3 83 q 0 2 (.int .i64 f.1) 84 m9 rfl ?_
       exact eK m
     ·refine oH 0 1 ?_
      ·rintro ρ' w' hs p ⟨t2, i4⟩
       refine kM (kc (kA p 2 84) k0) fun m => ?_
       refine cF 59 #[(.tmp 84)] #[2] 85 Tryz.call59 (Xx  f.1 w' (Qo hL (SP.keeps i4)) a6 m4) ?_
       rintro e t3 ⟨rfl, i5⟩
       refine ⟨_, rfl, ?_⟩
       have n0 := SP.call i4 i5
       clear i5
       refine ⟨_, Qm m, rfl, ?_⟩
       exact (And.intro (And.intro rfl (trivial)) (n0))
     ·refine Owe.light K [1, 2, 3, 4] K (Qn ?_ (Qn ?_ (Qn ?_ (Qn ?_ Xm))))
      ·rintro ρ' w' hs p ⟨⟨n1, -⟩, t4⟩
       refine kN [(85, (.string ⟨List.toArray a6⟩))] ⟨(Zb (h := 3) K).symm.trans n1, trivial⟩ fun m => ?_
       refine Z8 (T := 9) (T' := 9) (x := (.tmp 85)) (y := (.const (.string ⟨List.toArray ([61] : List UInt8)⟩))) (a := a6) (b := ([61] : List UInt8)) (d := (some 86)) (k := 4) K rfl K K hl1130 ?_
       rw [hyl1129]
       exact eK m
      ·rintro ρ' w' hs p ⟨⟨n2, t5, -⟩, t6⟩
       refine kN [(85, (.string ⟨List.toArray a6⟩))] ⟨(Zb (h := 3) K).symm.trans n2, trivial⟩ fun m => ?_
       refine Z8 (T := 9) (T' := 9) (x := (.tmp 85)) (y := (.const (.string ⟨List.toArray ([61] : List UInt8)⟩))) (a := a6) (b := ([61] : List UInt8)) (d := (some 86)) (k := 4) K rfl K K hl1130 ?_
       rw [hyl1129]
       exact eK m
      ·rintro ρ' w' hs p ⟨⟨n3, t7, t8, -⟩, t9⟩
       refine kN [(85, (.string ⟨List.toArray a6⟩))] ⟨(Zb (h := 3) K).symm.trans n3, trivial⟩ fun m => ?_
       refine Z8 (T := 9) (T' := 9) (x := (.tmp 85)) (y := (.const (.string ⟨List.toArray ([61] : List UInt8)⟩))) (a := a6) (b := ([61] : List UInt8)) (d := (some 86)) (k := 4) K rfl K K hl1130 ?_
       rw [hyl1129]
       exact eK m
      ·rintro ρ' w' hs p ⟨⟨n4, u0, u1, u2, -⟩, u3⟩
       refine kN [(85, (.string ⟨List.toArray a6⟩))] ⟨(Zb (h := 3) K).symm.trans n4, trivial⟩ fun m => ?_
       refine Z8 (T := 9) (T' := 9) (x := (.tmp 85)) (y := (.const (.string ⟨List.toArray ([61] : List UInt8)⟩))) (a := a6) (b := ([61] : List UInt8)) (d := (some 86)) (k := 4) K rfl K K hl1130 ?_
       rw [hyl1129]
       exact eK m
     ·exact oV (hC (hS 6 (pt q 0)) (h0)) (pt q 1)
     ·refine Owe.light K [0, 1] K (Qn ?_ (Qn ?_ Xm))
      ·rintro ρ' w' hs p ⟨u4, n5⟩
       refine kM (kc (kA p 5 87) k0) fun m => ?_
       refine sL 9 87 q 1 2 (.string ⟨List.toArray f.2.1⟩) 88 n5 rfl ?_
       exact eK m
      ·rintro ρ' w' hs p ⟨⟨u5, -⟩, n6⟩
       refine kM (kc (kA p 5 87) k0) fun m => ?_
       refine sL 9 87 q 1 2 (.string ⟨List.toArray f.2.1⟩) 88 n6 rfl ?_
       exact eK m
     ·refine oH 1 2 ?_
      ·rintro ρ' w' hs p ⟨⟨n7, -⟩, n8⟩
       refine kM (kc (kA p 6 88) k0) fun m => ?_
       refine cF 86 #[(.tmp 88)] #[9] 89 Tryz.call86 (Zt  f.2.1 w'  a9 m5) ?_
       rintro e u6 ⟨rfl, i6⟩
       refine ⟨_, rfl, ?_⟩
       have n9 := SP.call n8 i6
       clear i6
       refine ⟨_, Qm m, rfl, ?_⟩
       exact (And.intro (And.intro n7 (And.intro rfl (trivial))) (n9))
     ·refine Owe.light K [2, 3, 4] K (Qn ?_ (Qn ?_ (Qn ?_ Xm)))
      ·rintro ρ' w' hs p ⟨⟨u7, o0, -⟩, u8⟩
       refine kN [(86, (.string ⟨List.toArray b8⟩)), (89, (.string ⟨List.toArray a9⟩))] ⟨p 4 86 K, (Zb (h := 7) K).symm.trans o0, trivial⟩ fun m => ?_
       refine Z8 (T := 9) (T' := 9) (x := (.tmp 86)) (y := (.tmp 89)) (a := b8) (b := a9) (d := (some 90)) (k := 8) K rfl K K hl1138 ?_
       rw [hyl1137]
       exact eK m
      ·rintro ρ' w' hs p ⟨⟨u9, o1, v0, -⟩, v1⟩
       refine kN [(86, (.string ⟨List.toArray b8⟩)), (89, (.string ⟨List.toArray a9⟩))] ⟨p 4 86 K, (Zb (h := 7) K).symm.trans o1, trivial⟩ fun m => ?_
       refine Z8 (T := 9) (T' := 9) (x := (.tmp 86)) (y := (.tmp 89)) (a := b8) (b := a9) (d := (some 90)) (k := 8) K rfl K K hl1138 ?_
       rw [hyl1137]
       exact eK m
      ·rintro ρ' w' hs p ⟨⟨v2, o2, v3, v4, -⟩, v5⟩
       refine kN [(86, (.string ⟨List.toArray b8⟩)), (89, (.string ⟨List.toArray a9⟩))] ⟨p 4 86 K, (Zb (h := 7) K).symm.trans o2, trivial⟩ fun m => ?_
       refine Z8 (T := 9) (T' := 9) (x := (.tmp 86)) (y := (.tmp 89)) (a := b8) (b := a9) (d := (some 90)) (k := 8) K rfl K K hl1138 ?_
       rw [hyl1137]
       exact eK m
     ·exact oV (hC (hS 6 (pt q 0)) (h0)) (pt q 2)
     ·refine Owe.light K [0, 1, 2] K (Qn ?_ (Qn ?_ (Qn ?_ Xm)))
      ·rintro ρ' w' hs p ⟨v6, o3⟩
       refine kM (kc (kA p 9 91) k0) fun m => ?_
       refine sL 4 91 q 2 2 (.bool f.2.2.1) 92 o3 rfl ?_
       exact eK m
      ·rintro ρ' w' hs p ⟨⟨v7, -⟩, o4⟩
       refine kM (kc (kA p 9 91) k0) fun m => ?_
       refine sL 4 91 q 2 2 (.bool f.2.2.1) 92 o4 rfl ?_
       exact eK m
      ·rintro ρ' w' hs p ⟨⟨v8, v9, -⟩, o5⟩
       refine kM (kc (kA p 9 91) k0) fun m => ?_
       refine sL 4 91 q 2 2 (.bool f.2.2.1) 92 o5 rfl ?_
       exact eK m
     ·refine oH 2 3 ?_
      ·rintro ρ' w' hs p ⟨⟨o6, o7, -⟩, o8⟩
       refine kM (kc (kA p 10 92) k0) fun m => ?_
       refine cF 87 #[(.tmp 92), (.const (.string ⟨List.toArray ([43] : List UInt8)⟩))] #[4, 9] 93 Tryz.call87 (Uj  f.2.2.1 ([43] : List UInt8) w'  b1 m6) ?_
       rintro e w1 ⟨rfl, i7⟩
       refine ⟨_, rfl, ?_⟩
       have o9 := SP.call o8 i7
       clear i7
       refine ⟨_, Qm m, rfl, ?_⟩
       exact (And.intro (And.intro o6 (And.intro o7 (And.intro rfl (trivial)))) (o9))
     ·refine Owe.light K [3, 4] K (Qn ?_ (Qn ?_ Xm))
      ·rintro ρ' w' hs p ⟨⟨w2, w3, p0, -⟩, w4⟩
       refine kN [(90, (.string ⟨List.toArray c7⟩)), (93, (.string ⟨List.toArray b1⟩))] ⟨p 8 90 K, (Zb (h := 11) K).symm.trans p0, trivial⟩ fun m => ?_
       refine Z8 (T := 9) (T' := 9) (x := (.tmp 90)) (y := (.tmp 93)) (a := c7) (b := b1) (d := (some 94)) (k := 12) K rfl K K hl1146 ?_
       rw [hyl1145]
       exact eK m
      ·rintro ρ' w' hs p ⟨⟨w5, w6, p1, w7, -⟩, w8⟩
       refine kN [(90, (.string ⟨List.toArray c7⟩)), (93, (.string ⟨List.toArray b1⟩))] ⟨p 8 90 K, (Zb (h := 11) K).symm.trans p1, trivial⟩ fun m => ?_
       refine Z8 (T := 9) (T' := 9) (x := (.tmp 90)) (y := (.tmp 93)) (a := c7) (b := b1) (d := (some 94)) (k := 12) K rfl K K hl1146 ?_
       rw [hyl1145]
       exact eK m
     ·exact oV (hC (hS 6 (pt q 0)) (h0)) (pt q 3)
     ·refine Owe.light K [0, 1, 2, 3] K (Qn ?_ (Qn ?_ (Qn ?_ (Qn ?_ Xm))))
      ·rintro ρ' w' hs p ⟨x0, p2⟩
       refine kM (kc (kA p 13 95) k0) fun m => ?_
       refine sL 4 95 q 3 2 (.bool f.2.2.2) 96 p2 rfl ?_
       exact eK m
      ·rintro ρ' w' hs p ⟨⟨x1, -⟩, p3⟩
       refine kM (kc (kA p 13 95) k0) fun m => ?_
       refine sL 4 95 q 3 2 (.bool f.2.2.2) 96 p3 rfl ?_
       exact eK m
      ·rintro ρ' w' hs p ⟨⟨x2, x3, -⟩, p4⟩
       refine kM (kc (kA p 13 95) k0) fun m => ?_
       refine sL 4 95 q 3 2 (.bool f.2.2.2) 96 p4 rfl ?_
       exact eK m
      ·rintro ρ' w' hs p ⟨⟨x4, x5, x6, -⟩, p5⟩
       refine kM (kc (kA p 13 95) k0) fun m => ?_
       refine sL 4 95 q 3 2 (.bool f.2.2.2) 96 p5 rfl ?_
       exact eK m
     ·refine oH 3 4 ?_
      ·rintro ρ' w' hs p ⟨⟨p6, p7, p8, -⟩, p9⟩
       refine kM (kc (kA p 14 96) k0) fun m => ?_
       refine cF 87 #[(.tmp 96), (.const (.string ⟨List.toArray ([33] : List UInt8)⟩))] #[4, 9] 97 Tryz.call87 (Uj  f.2.2.2 ([33] : List UInt8) w'  b9 m7) ?_
       rintro e x7 ⟨rfl, i8⟩
       refine ⟨_, rfl, ?_⟩
       have q0 := SP.call p9 i8
       clear i8
       refine ⟨_, Qm m, rfl, ?_⟩
       exact (And.intro (And.intro p6 (And.intro p7 (And.intro p8 (And.intro rfl (trivial))))) (q0))
     ·refine oL 4 ?_
      ·rintro ρ' w' hs p ⟨⟨x8, x9, y0, q1, -⟩, y1⟩
       refine kN [(94, (.string ⟨List.toArray d5⟩)), (97, (.string ⟨List.toArray b9⟩))] ⟨p 12 94 K, (Zb (h := 15) K).symm.trans q1, trivial⟩ fun m => ?_
       refine Z8 (T := 9) (T' := 9) (x := (.tmp 94)) (y := (.tmp 97)) (a := d5) (b := b9) (d := (some 98)) (k := 16) K rfl K K hl1154 ?_
       rw [hyl1153]
       exact eK m
     ·refine oH 4 5 ?_
      ·rintro ρ' w' hs p ⟨⟨q2, q3, q4, q5, -⟩, q6⟩
       refine kM (kc (kA p 16 98) k0) fun m => ?_
       refine Vo (e := Qi) (T := 79) (E := 9) (len := 1) (parts := #[(0, (.tmp 98))]) (cs := #[(.string ⟨List.toArray a7⟩)]) ([a7] : List (List UInt8)) (d := (some 99)) (k := 17) K rfl (fun _ => K) q6 rfl rfl rfl rfl ?_
       intro q7 y2 q8
       refine ⟨_, Qm m, trivial, ?_⟩
       exact (Exists.intro q7 (And.intro (And.intro q2 (And.intro q3 (And.intro q4 (And.intro q5 (And.intro rfl (trivial)))))) (q8)))
     ·refine oH 5 6 ?_
      ·rintro ρ' w' hs p ⟨c0, ⟨q9, r0, r1, r2, i9, -⟩, f9⟩
       refine kN [(82, (pt j 0)), (99, (.slice (some ⟨c0, 0, none⟩) (List.length ([a7] : List (List UInt8))) (List.length ([a7] : List (List UInt8)))))] ⟨p 0 82 K, (Zb (h := 17) K).symm.trans i9, trivial⟩ fun m => ?_
       refine cF 84 #[(.tmp 82), (.tmp 99)] #[132, 79] 100 Tryz.call84 (Qz j a0 a1 (some ⟨c0, 0, none⟩) (List.length ([a7] : List (List UInt8))) u b3 ([a7] : List (List UInt8)) w' (Q4 f9 [1, 0] rfl rfl) (fun w hm => (Vv (SP.still f9 (l := [1, 0]) (i := 3) rfl rfl rfl hm))) b6 m8) ?_
       rintro e r3 ⟨g0, g1, rfl, j0⟩
       refine ⟨_, rfl, ?_⟩
       have r4 : SP [] w0 r3 [Qf q 108 #[(.int .i64 f.1), (.string ⟨List.toArray f.2.1⟩), (.bool f.2.2.1), (.bool f.2.2.2)], Vf 9 Qi (some ⟨c0, 0, none⟩) (List.length ([a7] : List (List UInt8))) ([a7] : List (List UInt8)), Qf j 133 #[(.slice g0 (List.length b6.1) g1), (.bool b6.2)], Vf 9 Qi g0 g1 b6.1] := Qh f9 [1, 0] [2, 3] rfl rfl j0 rfl
       clear j0
       refine ⟨_, Qm m, rfl, ?_⟩
       exact (Exists.intro c0 (Exists.intro g0 (Exists.intro g1 (And.intro (And.intro q9 (And.intro r0 (And.intro r1 (And.intro r2 (And.intro i9 (And.intro rfl (trivial))))))) (r4)))))
     ·rintro ρ' w' hs hf ⟨f8, d6, d7, ⟨y3, y4, y5, y6, y7, y8, -⟩, j1⟩
      refine Jh [(3, (pt j 0)), (4, (.int .i64 f.1)), (56, (.slice A5 (List.length s) c6)), (57, (.int .i64 ((List.length s : Nat) : Int))), (58, (.int .i64 a2))] ⟨(hs 3 K).trans K, (hs 4 K).trans K, (hs 56 K).trans K, (hs 57 K).trans K, (hs 58 K).trans K, trivial⟩ ?_
      obtain ⟨y9, r5⟩ : ∃ x, w' = x := ⟨_, rfl⟩
      rw [r5] at j1 ⊢
      refine aR ?_
      refine iR 2 2 [(101, (.int .i64 (IntKind.wrap .i64 (a2 + 1)))), (58, (.int .i64 (IntKind.wrap .i64 (a2 + 1))))] ?_
      refine iF ?_
      exact ⟨b6.1, b6.2, f.1, (IntKind.wrap .i64 (a2 + 1)), d6, d7, ⟨K, K, K, K, K, trivial⟩, SP.sel j1 [3, 2] rfl rfl, H⟩
   ·have H := cf H f4
    refine At.exit K (id := 0) K ?_
    refine aQ ?_
    refine aR ?_
    refine iR 1 1 [(102, (pt j 0))] ?_
    obtain ⟨g2, r6, H⟩ := Qa H
    refine iS 2 ?_
    refine cF 79 #[(.tmp 102)] #[132] 103 Tryz.call79 (Xb j a0 a1 u b2 l5 (Q4 d0 [1, 0] rfl rfl) g2 r6) ?_
    rintro e r7 ⟨j2, j3, rfl, j4⟩
    refine ⟨_, rfl, ?_⟩
    have r8 : SP [] w0 r7 [Qf j 133 #[(.slice j2 (List.length u) j3), (.bool b2)], Vf 9 Qi j2 j3 u] := Qh d0 [1, 0] [] rfl rfl j4 rfl
    clear j4
    refine iR 1 3 [(2, (.string ⟨List.toArray g2⟩))] ?_
    refine iF ?_
    refine At.ret K ?_
    refine ⟨(.string ⟨List.toArray g2⟩), K, ?_⟩
    obtain rfl := Qc H
    exact ⟨rfl, SP.sel r8 [] rfl rfl⟩
  ·exact ⟨c4.1, c4.2, (-1), 0, f2, f3, ⟨K, K, K, K, K, trivial⟩, SP.sel i0 [3, 2] rfl rfl, H⟩
def Xh (a : Bool) (b : Int) (c : Int) (d : Int) (e : (List (Int × (List UInt8) × Bool × Bool))) : Option (Int × Int × Int × (List (Int × (List UInt8) × Bool × Bool)) × Bool) :=
  (cond a (some (0, 0, 0, ([] : List (Int × (List UInt8) × Bool × Bool)), false)) (some (b, c, d, e, true)))
def Zo (a : (Int × (List (List UInt8)) × Bool)) (b : Bool) : Option (Int × Int × Int × (List (Int × (List UInt8) × Bool × Bool)) × Bool) :=
  (Xh b a.1 0 0 ([] : List (Int × (List UInt8) × Bool × Bool)))
def Xi (a : Bool) (b : Int) (c : Int) (d : Int) (e : (List (Int × (List UInt8) × Bool × Bool))) : Option (Int × Int × Int × (List (Int × (List UInt8) × Bool × Bool)) × Bool) :=
  (Xh a b c d e)
def Zp (b : (List (List UInt8)) → Bool → Int → Int → Int → (List (Int × (List UInt8) × Bool × Bool)) → Int → Option (Int × Int × Int × (List (Int × (List UInt8) × Bool × Bool)) × Bool)) (c : Int) (d : Int) (e : Int) (f : (List (Int × (List UInt8) × Bool × Bool))) (a : (Int × (List UInt8) × Bool × Bool × (List (List UInt8)) × Bool)) (g : Bool) : Option (Int × Int × Int × (List (Int × (List UInt8) × Bool × Bool)) × Bool) :=
  ((app f ([(a.1, a.2.1, a.2.2.1, a.2.2.2.1)] : List (Int × (List UInt8) × Bool × Bool))).bind fun h => (b a.2.2.2.2.1 g c d e h a.1))
def V4 (f : (List (List UInt8)) → Bool → Int → Int → Int → (List (Int × (List UInt8) × Bool × Bool)) → Int → Option (Int × Int × Int × (List (Int × (List UInt8) × Bool × Bool)) × Bool)) (g : (List (List UInt8))) (h : Bool) (b : Int) (c : Int) (d : Int) (e : (List (Int × (List UInt8) × Bool × Bool))) (i : Int) : Option (Int × Int × Int × (List (Int × (List UInt8) × Bool × Bool)) × Bool) :=
  (cond (decide (((List.length g : Nat) : Int) > 0)) ((Zj g h).bind fun a => (cond a.2.2.2.2.2 (Zp f b c d e a true) (Zp f b c d e a (decide (a.1 ≤ i))))) (Xi h b c d e))
def Vk  : Nat → (List (List UInt8)) → Bool → Int → Int → Int → (List (Int × (List UInt8) × Bool × Bool)) → Int → Option (Int × Int × Int × (List (Int × (List UInt8) × Bool × Bool)) × Bool)
  | 0, _, _, _, _, _, _, _ => none
  | f + 1, a, b, c, d, e, g, h => V4  (Vk  f) a b c d e g h
def Z7 (p1 : (List UInt8)) : Option (Int × Int × Int × (List (Int × (List UInt8) × Bool × Bool)) × Bool) :=
  ((Xg p1 ([32] : List UInt8)).bind fun z8 => ((Qt z8 false).bind fun a => (cond (a.1 == ([101, 114, 114] : List UInt8)) ((Qr a.2.1 a.2.2).bind fun b => (cond b.2.2 (Zo b true) (cond (b.1 == 0) (Zo b true) (Zo b (decide (((List.length b.2.1 : Nat) : Int) > 0)))))) (cond (a.1 == ([111, 107] : List UInt8)) ((Qr a.2.1 a.2.2).bind fun c => ((Qr c.2.1 c.2.2).bind fun d => (Vk  Ye d.2.1 d.2.2 0 c.1 d.1 ([] : List (Int × (List UInt8) × Bool × Bool)) (-1)))) (Xi true 0 0 0 ([] : List (Int × (List UInt8) × Bool × Bool)))))))
set_option maxHeartbeats 40000000 in
theorem X1  (p1 : (List UInt8)) (w0 : World) (hL : X8 w0)  (r : (Int × Int × Int × (List (Int × (List UInt8) × Bool × Bool)) × Bool)) (H : Z7 p1 = some r) :
  Calls Tryz.prog 33 #[(.string ⟨List.toArray p1⟩)] w0 (fun e w' => ∃ (A2 : Option Addr) (c3 : Nat), e = .returned (.tuple #[(.agg #[(.int .i64 r.1), (.int .i64 r.2.1), (.int .i64 r.2.2.1), (.slice A2 (List.length r.2.2.2.1) c3)]), (.bool r.2.2.2.2)]) ∧ SP [] w0 w' [Vf 108 (Ql (Ub .i64) (Ql Qi (Ql Vb Vb))) A2 c3 r.2.2.2.1]) := by
 unfold Z7 at H
 refine Qg (n := 85) Tryz.func33 K K K ?_
 have i1 := Vc [] w0
 refine aQ ?_
 refine aR ?_
 refine iS 1 ?_
 refine Qd.alloc (t := 55) (z := (.agg #[(.int .i64 0), (.int .i64 0), (.int .i64 0), (.slice none (List.length ([] : List (Int × (List UInt8) × Bool × Bool))) 0)])) (d := (some 2)) (k := 0) K rfl K i1 ?_
 intro g4 w5 i2
 refine iR 1 2 [(3, (.bool false))] ?_
 refine iF ?_
 refine aQ ?_
 refine aR ?_
 refine iR 1 1 [(8, (.string ⟨List.toArray p1⟩))] ?_
 obtain ⟨z8, i3, H⟩ := Qa H
 refine iS 2 ?_
 refine cF 67 #[(.tmp 8), (.const (.string ⟨List.toArray ([32] : List UInt8)⟩))] #[9, 9] 9 Tryz.call67 (J1  p1 ([32] : List UInt8) w5  z8 i3) ?_
 rintro e l6 ⟨c9, d0, rfl, g8⟩
 refine ⟨_, rfl, ?_⟩
 have i4 := SP.call i2 g8
 clear g8
 refine iR 1 3 [(10, (.agg #[(.slice c9 (List.length z8) d0), (.bool false)]))] ?_
 refine iS 4 ?_
 refine V9 (t := 112) (x := (.tmp 10)) (v := (.agg #[(.slice c9 (List.length z8) d0), (.bool false)])) (d := (some 11)) (k := 3) K rfl K i4 ?_
 intro f l7 i5
 refine iR 1 5 [(4, (pt f 0))] ?_
 refine iF ?_
 refine aQ ?_
 refine aR ?_
 refine iS 1 ?_
 refine Qd.alloc (t := 55) (z := (.agg #[(.int .i64 0), (.int .i64 0), (.int .i64 0), (.slice none (List.length ([] : List (Int × (List UInt8) × Bool × Bool))) 0)])) (d := (some 5)) (k := 0) K rfl K i5 ?_
 intro j g9 i6
 refine iF ?_
 refine aQ ?_
 refine aQ ?_
 refine aR ?_
 refine iR 1 1 [(12, (pt f 0))] ?_
 obtain ⟨q, i7, H⟩ := Qa H
 refine iS 2 ?_
 have h1 : SP [] w0 g9 [Qf g4 55 #[(.int .i64 0), (.int .i64 0), (.int .i64 0), (.slice none (List.length ([] : List (Int × (List UInt8) × Bool × Bool))) 0)], rdE Qi c9 d0 z8, Qf f 112 #[(.slice c9 (List.length z8) d0), (.bool false)], Qf j 55 #[(.int .i64 0), (.int .i64 0), (.int .i64 0), (.slice none (List.length ([] : List (Int × (List UInt8) × Bool × Bool))) 0)]] := E2 i6 (i := 1) rfl
 refine cF 68 #[(.tmp 12)] #[109] 13 Tryz.call68 (Q2 f c9 d0 z8 false g9 (Q4 h1 [2, 1] rfl rfl) q i7) ?_
 rintro e f1 ⟨c5, c6, rfl, h2⟩
 refine ⟨_, rfl, ?_⟩
 have b8 : SP [] w0 f1 [Qf g4 55 #[(.int .i64 0), (.int .i64 0), (.int .i64 0), (.slice none (List.length ([] : List (Int × (List UInt8) × Bool × Bool))) 0)], Qf j 55 #[(.int .i64 0), (.int .i64 0), (.int .i64 0), (.slice none (List.length ([] : List (Int × (List UInt8) × Bool × Bool))) 0)], Qf f 112 #[(.slice c5 (List.length q.2.1) c6), (.bool q.2.2)], rdE Qi c5 c6 q.2.1] := Qh h1 [2, 1] [0, 3] rfl rfl h2 rfl
 clear h2
 refine iF ?_
 refine Um K (id := 0) K ?_
 refine aQ ?_
 refine aR ?_
 refine iS 1 ?_
 refine Vq (op := .eql) (T := 9) (T' := 9) (x := (.tmp 13)) (y := (.const (.string ⟨List.toArray ([101, 114, 114] : List UInt8)⟩))) (a := q.1) (b := ([101, 114, 114] : List UInt8)) (r := (.bool (q.1 == ([101, 114, 114] : List UInt8)))) (d := (some 18)) (k := 0) K rfl K K rfl ?_
 refine iR 1 2 [(17, (.bool (q.1 == ([101, 114, 114] : List UInt8))))] ?_
 refine iF ?_
 refine At.join (fun ρ w => ∃ (d1 : (List (List UInt8))) (c7 : Bool) (b5 : Int) (b6 : Int) (b7 : Int) (a7 : (List (Int × (List UInt8) × Bool × Bool))) (d2 : Option Addr) (d3 : Nat) (a8 : Option Addr) (a9 : Nat), V1 ρ [(2, (pt g4 0)), (4, (pt f 0)), (5, (pt j 0))] ∧ SP [] w0 w [Qf g4 55 #[(.int .i64 0), (.int .i64 0), (.int .i64 0), (.slice none (List.length ([] : List (Int × (List UInt8) × Bool × Bool))) 0)], rdE Qi d2 d3 d1, Qf f 112 #[(.slice d2 (List.length d1) d3), (.bool c7)], Vf 108 (Ql (Ub .i64) (Ql Qi (Ql Vb Vb))) a8 a9 a7, Qf j 55 #[(.int .i64 b5), (.int .i64 b6), (.int .i64 b7), (.slice a8 (List.length a7) a9)]] ∧ Xh c7 b5 b6 b7 a7 = some r) ?_ ?_
 ·refine Xe K (o := (.tmp 17)) K (b := (q.1 == ([101, 114, 114] : List UInt8))) K (fun f2 => ?_) (fun f2 => ?_)
  ·have H := ct H f2
   refine aQ ?_
   refine aR ?_
   refine iR 1 1 [(19, (pt f 0))] ?_
   obtain ⟨p, i8, H⟩ := Qa H
   refine iS 2 ?_
   refine cF 76 #[(.tmp 19)] #[109] 20 Tryz.call76 (Qw f c5 c6 q.2.1 q.2.2 f1 (fun w hm => Qo hL (Xn b8 (l := [2, 3]) rfl hm)) (Q4 b8 [2, 3] rfl rfl) p i8) ?_
   rintro e i9 ⟨b2, b3, rfl, h3⟩
   refine ⟨_, rfl, ?_⟩
   have j0 : SP [] w0 i9 [Qf g4 55 #[(.int .i64 0), (.int .i64 0), (.int .i64 0), (.slice none (List.length ([] : List (Int × (List UInt8) × Bool × Bool))) 0)], Qf j 55 #[(.int .i64 0), (.int .i64 0), (.int .i64 0), (.slice none (List.length ([] : List (Int × (List UInt8) × Bool × Bool))) 0)], Qf f 112 #[(.slice b2 (List.length p.2.1) b3), (.bool p.2.2)], rdE Qi b2 b3 p.2.1] := Qh b8 [2, 3] [0, 1] rfl rfl h3 rfl
   clear h3
   refine iR 1 3 [(21, (pt j 0))] ?_
   refine iS 4 ?_
   refine Qd.store (t := 27) (x := (.tmp 21)) (y := (.tmp 20)) (g := j) (off := 0) (i := 1) (v := (.int .i64 p.1)) (cs' := #[(.int .i64 p.1), (.int .i64 0), (.int .i64 0), (.slice none (List.length ([] : List (Int × (List UInt8) × Bool × Bool))) 0)]) (d := none) (k := 3) K rfl K K j0 rfl K ?_
   intro l8 c8
   refine iF ?_
   refine At.join (fun ρ w => ∃ (d6 : Bool), V1 ρ [(2, (pt g4 0)), (4, (pt f 0)), (5, (pt j 0))] ∧ SP [] w0 w [Qf g4 55 #[(.int .i64 0), (.int .i64 0), (.int .i64 0), (.slice none (List.length ([] : List (Int × (List UInt8) × Bool × Bool))) 0)], rdE Qi b2 b3 p.2.1, Qf f 112 #[(.slice b2 (List.length p.2.1) b3), (.bool d6)], Qf j 55 #[(.int .i64 p.1), (.int .i64 0), (.int .i64 0), (.slice none (List.length ([] : List (Int × (List UInt8) × Bool × Bool))) 0)]] ∧ Zo p d6 = some r) ?_ ?_
   ·refine aR ?_
    refine iR 4 4 [(22, (pt f 0)), (23, (pt f 0)), (24, (pt f 0)), (25, (pt f 1))] ?_
    refine iS 5 ?_
    refine sL 4 25 f 1 2 (.bool p.2.2) 26 c8 rfl ?_
    refine iR 1 6 [(27, (.bool p.2.2))] ?_
    refine In.guard (t := 27) (b := p.2.2) K (fun f3 => ?_) (fun f3 => ?_)
    ·have H := ct H f3
     refine iR 14 20 [(28, undef), (29, undef), (30, undef), (31, (.bool true)), (32, (.bool true)), (33, undef), (34, undef), (35, undef), (36, undef), (37, undef), (38, undef), (39, (.bool true)), (40, (pt f 0)), (41, (pt f 1))] ?_
     refine iS 21 ?_
     refine Qd.store (t := 4) (x := (.tmp 41)) (y := (.tmp 39)) (g := f) (off := 1) (i := 2) (v := (.bool true)) (cs' := #[(.slice b2 (List.length p.2.1) b3), (.bool true)]) (d := none) (k := 20) K rfl K K c8 rfl K ?_
     intro l9 j1
     refine iF ?_
     exact ⟨true, ⟨K, K, K, trivial⟩, SP.sel j1 [0, 3, 2, 1] rfl rfl, H⟩
    ·have H := cf H f3
     refine iR 1 7 [(28, (pt j 0))] ?_
     refine iS 8 ?_
     refine sL 27 28 j 0 1 (.int .i64 p.1) 29 c8 rfl ?_
     refine iR 3 11 [(30, (.bool (p.1 == 0))), (31, (.bool (p.1 == 0))), (32, (.bool (p.1 == 0)))] ?_
     refine In.guard (t := 32) (b := (p.1 == 0)) K (fun f4 => ?_) (fun f4 => ?_)
     ·have H := ct H f4
      refine iR 9 20 [(33, undef), (34, undef), (35, undef), (36, undef), (37, undef), (38, undef), (39, (.bool true)), (40, (pt f 0)), (41, (pt f 1))] ?_
      refine iS 21 ?_
      refine Qd.store (t := 4) (x := (.tmp 41)) (y := (.tmp 39)) (g := f) (off := 1) (i := 2) (v := (.bool true)) (cs' := #[(.slice b2 (List.length p.2.1) b3), (.bool true)]) (d := none) (k := 20) K rfl K K c8 rfl K ?_
      intro m0 j2
      refine iF ?_
      exact ⟨true, ⟨K, K, K, trivial⟩, SP.sel j2 [0, 3, 2, 1] rfl rfl, H⟩
     ·have H := cf H f4
      refine iR 3 14 [(33, (pt f 0)), (34, (pt f 0)), (35, (pt f 0))] ?_
      refine iS 15 ?_
      refine sL 79 35 f 0 2 (.slice b2 (List.length p.2.1) b3) 36 c8 rfl ?_
      refine iR 5 20 [(37, (.int .i64 ((List.length p.2.1 : Nat) : Int))), (38, (.bool (decide (((List.length p.2.1 : Nat) : Int) > 0)))), (39, (.bool (decide (((List.length p.2.1 : Nat) : Int) > 0)))), (40, (pt f 0)), (41, (pt f 1))] ?_
      refine iS 21 ?_
      refine Qd.store (t := 4) (x := (.tmp 41)) (y := (.tmp 39)) (g := f) (off := 1) (i := 2) (v := (.bool (decide (((List.length p.2.1 : Nat) : Int) > 0)))) (cs' := #[(.slice b2 (List.length p.2.1) b3), (.bool (decide (((List.length p.2.1 : Nat) : Int) > 0)))]) (d := none) (k := 20) K rfl K K c8 rfl K ?_
      intro m1 j3
      refine iF ?_
      exact ⟨(decide (((List.length p.2.1 : Nat) : Int) > 0)), ⟨K, K, K, trivial⟩, SP.sel j3 [0, 3, 2, 1] rfl rfl, H⟩
   ·rintro ρ m2 ⟨d6, hk, j4, H⟩
    unfold Zo at H
    first | refine At.known [(2, (pt g4 0)), (4, (pt f 0)), (5, (pt j 0))] hk ?_ | rw [← Qj (l := [(2, (pt g4 0)), (4, (pt f 0)), (5, (pt j 0))]) hk]
    exact ⟨p.2.1, d6, p.1, 0, 0, ([] : List (Int × (List UInt8) × Bool × Bool)), b2, b3, none, 0, ⟨K, K, K, trivial⟩, SP.sel (Yd j4 108 (Ql (Ub .i64) (Ql Qi (Ql Vb Vb)))) [0, 1, 2, 4, 3] rfl rfl, H⟩
  ·have H := cf H f2
   refine aQ ?_
   refine aR ?_
   refine iS 1 ?_
   refine Vq (op := .eql) (T := 9) (T' := 9) (x := (.tmp 13)) (y := (.const (.string ⟨List.toArray ([111, 107] : List UInt8)⟩))) (a := q.1) (b := ([111, 107] : List UInt8)) (r := (.bool (q.1 == ([111, 107] : List UInt8)))) (d := (some 43)) (k := 0) K rfl K K rfl ?_
   refine iR 1 2 [(42, (.bool (q.1 == ([111, 107] : List UInt8))))] ?_
   refine iF ?_
   refine At.join (fun ρ w => ∃ (d7 : (List (List UInt8))) (d8 : Bool) (d9 : Int) (e0 : Int) (e1 : Int) (d4 : (List (Int × (List UInt8) × Bool × Bool))) (e2 : Option Addr) (e3 : Nat) (e4 : Option Addr) (e5 : Nat), V1 ρ [(2, (pt g4 0)), (4, (pt f 0)), (5, (pt j 0))] ∧ SP [] w0 w [Qf g4 55 #[(.int .i64 0), (.int .i64 0), (.int .i64 0), (.slice none (List.length ([] : List (Int × (List UInt8) × Bool × Bool))) 0)], rdE Qi e2 e3 d7, Qf f 112 #[(.slice e2 (List.length d7) e3), (.bool d8)], Vf 108 (Ql (Ub .i64) (Ql Qi (Ql Vb Vb))) e4 e5 d4, Qf j 55 #[(.int .i64 d9), (.int .i64 e0), (.int .i64 e1), (.slice e4 (List.length d4) e5)]] ∧ Xi d8 d9 e0 e1 d4 = some r) ?_ ?_
   ·refine Xe K (o := (.tmp 42)) K (b := (q.1 == ([111, 107] : List UInt8))) K (fun f5 => ?_) (fun f5 => ?_)
    ·have H := ct H f5
     refine aQ ?_
     refine aR ?_
     refine iR 1 1 [(44, (pt f 0))] ?_
     obtain ⟨b0, j5, H⟩ := Qa H
     refine iS 2 ?_
     refine cF 76 #[(.tmp 44)] #[109] 45 Tryz.call76 (Qw f c5 c6 q.2.1 q.2.2 f1 (fun w hm => Qo hL (Xn b8 (l := [2, 3]) rfl hm)) (Q4 b8 [2, 3] rfl rfl) b0 j5) ?_
     rintro e h4 ⟨f6, f7, rfl, h5⟩
     refine ⟨_, rfl, ?_⟩
     have f8 : SP [] w0 h4 [Qf g4 55 #[(.int .i64 0), (.int .i64 0), (.int .i64 0), (.slice none (List.length ([] : List (Int × (List UInt8) × Bool × Bool))) 0)], Qf j 55 #[(.int .i64 0), (.int .i64 0), (.int .i64 0), (.slice none (List.length ([] : List (Int × (List UInt8) × Bool × Bool))) 0)], Qf f 112 #[(.slice f6 (List.length b0.2.1) f7), (.bool b0.2.2)], rdE Qi f6 f7 b0.2.1] := Qh b8 [2, 3] [0, 1] rfl rfl h5 rfl
     clear h5
     refine iR 1 3 [(46, (pt f 0))] ?_
     obtain ⟨b4, j6, H⟩ := Qa H
     refine iS 4 ?_
     refine cF 76 #[(.tmp 46)] #[109] 47 Tryz.call76 (Qw f f6 f7 b0.2.1 b0.2.2 h4 (fun w hm => Qo hL (Xn f8 (l := [2, 3]) rfl hm)) (Q4 f8 [2, 3] rfl rfl) b4 j6) ?_
     rintro e j7 ⟨f9, g0, rfl, h6⟩
     refine ⟨_, rfl, ?_⟩
     have j8 : SP [] w0 j7 [Qf g4 55 #[(.int .i64 0), (.int .i64 0), (.int .i64 0), (.slice none (List.length ([] : List (Int × (List UInt8) × Bool × Bool))) 0)], Qf j 55 #[(.int .i64 0), (.int .i64 0), (.int .i64 0), (.slice none (List.length ([] : List (Int × (List UInt8) × Bool × Bool))) 0)], Qf f 112 #[(.slice f9 (List.length b4.2.1) g0), (.bool b4.2.2)], rdE Qi f9 g0 b4.2.1] := Qh f8 [2, 3] [0, 1] rfl rfl h6 rfl
     clear h6
     refine iR 1 5 [(48, (pt j 1))] ?_
     refine iS 6 ?_
     refine Qd.store (t := 3) (x := (.tmp 48)) (y := (.tmp 45)) (g := j) (off := 1) (i := 1) (v := (.int .i64 b0.1)) (cs' := #[(.int .i64 0), (.int .i64 b0.1), (.int .i64 0), (.slice none (List.length ([] : List (Int × (List UInt8) × Bool × Bool))) 0)]) (d := none) (k := 5) K rfl K K j8 rfl K ?_
     intro m3 j9
     refine iR 1 7 [(49, (pt j 2))] ?_
     refine iS 8 ?_
     refine Qd.store (t := 3) (x := (.tmp 49)) (y := (.tmp 47)) (g := j) (off := 2) (i := 1) (v := (.int .i64 b4.1)) (cs' := #[(.int .i64 0), (.int .i64 b0.1), (.int .i64 b4.1), (.slice none (List.length ([] : List (Int × (List UInt8) × Bool × Bool))) 0)]) (d := none) (k := 7) K rfl K K j9 rfl K ?_
     intro m4 k1
     refine iF ?_
     refine aQ ?_
     refine aR ?_
     refine iR 1 1 [(6, (.int .i64 (-1)))] ?_
     refine iF ?_
     refine Um K (id := 1) K ?_
     refine D0 K (fun e6 ρ w => ∃ (a0 : (List (List UInt8))) (b9 : Bool) (a2 : Int) (a3 : Int) (a4 : Int) (u : (List (Int × (List UInt8) × Bool × Bool))) (a1 : Int) (c0 : Option Addr) (c1 : Nat) (a5 : Option Addr) (a6 : Nat), V1 ρ [(2, (pt g4 0)), (4, (pt f 0)), (5, (pt j 0)), (6, (.int .i64 a1))] ∧ SP [] w0 w [Qf g4 55 #[(.int .i64 0), (.int .i64 0), (.int .i64 0), (.slice none (List.length ([] : List (Int × (List UInt8) × Bool × Bool))) 0)], rdE Qi c0 c1 a0, Qf f 112 #[(.slice c0 (List.length a0) c1), (.bool b9)], Vf 108 (Ql (Ub .i64) (Ql Qi (Ql Vb Vb))) a5 a6 u, Qf j 55 #[(.int .i64 a2), (.int .i64 a3), (.int .i64 a4), (.slice a5 (List.length u) a6)]] ∧ Vk  e6 a0 b9 a2 a3 a4 u a1 = some r) (by rintro ρ w ⟨a0, b9, a2, a3, a4, u, a1, c0, c1, a5, a6, hk, hs, H⟩; cases H) ?_ Ye ?_
     ·rintro e6 ρ k2 ⟨a0, b9, a2, a3, a4, u, a1, c0, c1, a5, a6, hk, d5, H⟩
      refine At.known [(2, (pt g4 0)), (4, (pt f 0)), (5, (pt j 0)), (6, (.int .i64 a1))] hk ?_
      replace H := (show V4 (Vk e6) a0 b9 a2 a3 a4 u a1 = some r from H)
      unfold V4 at H
      refine aQ ?_
      refine aQ ?_
      refine aR ?_
      refine iR 3 3 [(50, (pt f 0)), (51, (pt f 0)), (52, (pt f 0))] ?_
      refine iS 4 ?_
      refine sL 79 52 f 0 2 (.slice c0 (List.length a0) c1) 53 d5 rfl ?_
      refine iR 2 6 [(54, (.int .i64 ((List.length a0 : Nat) : Int))), (55, (.bool (decide (((List.length a0 : Nat) : Int) > 0))))] ?_
      refine iF ?_
      refine Xe K (o := (.tmp 55)) K (b := (decide (((List.length a0 : Nat) : Int) > 0))) K (fun g1 => ?_) (fun g1 => ?_)
      ·have H := ct H g1
       refine At.skip K ?_
       refine Um K (id := 2) K ?_
       refine aQ ?_
       refine aR ?_
       refine iR 1 1 [(56, (pt f 0))] ?_
       obtain ⟨h, k3, H⟩ := Qa H
       refine iS 2 ?_
       refine cF 77 #[(.tmp 56)] #[109] 57 Tryz.call77 (Uq f c0 c1 a0 b9 k2 (fun w hm => Qo hL (Xn d5 (l := [2, 1]) rfl hm)) (Q4 d5 [2, 1] rfl rfl) h k3) ?_
       rintro e k4 ⟨c2, c4, rfl, h7⟩
       refine ⟨_, rfl, ?_⟩
       have k5 : SP [] w0 k4 [Qf g4 55 #[(.int .i64 0), (.int .i64 0), (.int .i64 0), (.slice none (List.length ([] : List (Int × (List UInt8) × Bool × Bool))) 0)], Vf 108 (Ql (Ub .i64) (Ql Qi (Ql Vb Vb))) a5 a6 u, Qf j 55 #[(.int .i64 a2), (.int .i64 a3), (.int .i64 a4), (.slice a5 (List.length u) a6)], Qf f 112 #[(.slice c2 (List.length h.2.2.2.2.1) c4), (.bool h.2.2.2.2.2)], rdE Qi c2 c4 h.2.2.2.2.1] := Qh d5 [2, 1] [0, 3, 4] rfl rfl h7 rfl
       clear h7
       refine iS 3 ?_
       refine Qd.alloc (t := 108) (z := (.agg #[(.int .i64 0), (.string ⟨List.toArray ([] : List UInt8)⟩), (.bool false), (.bool false)])) (d := (some 7)) (k := 2) K rfl K k5 ?_
       intro b1 m5 k6
       refine iS 4 ?_
       refine Qd.store (t := 108) (x := (.tmp 7)) (y := (.tmp 57)) (g := b1) (off := 0) (i := 5) (v := (.agg #[(.int .i64 h.1), (.string ⟨List.toArray h.2.1⟩), (.bool h.2.2.1), (.bool h.2.2.2.1)])) (cs' := #[(.int .i64 h.1), (.string ⟨List.toArray h.2.1⟩), (.bool h.2.2.1), (.bool h.2.2.2.1)]) (d := none) (k := 3) K rfl K K k6 rfl K ?_
       intro m6 e7
       refine iF ?_
       refine aQ ?_
       refine At.join (fun ρ w => ∃ (e8 : Bool), V1 ρ [(2, (pt g4 0)), (4, (pt f 0)), (5, (pt j 0)), (7, (pt b1 0))] ∧ SP [] w0 w [Qf g4 55 #[(.int .i64 0), (.int .i64 0), (.int .i64 0), (.slice none (List.length ([] : List (Int × (List UInt8) × Bool × Bool))) 0)], rdE Qi c2 c4 h.2.2.2.2.1, Qf f 112 #[(.slice c2 (List.length h.2.2.2.2.1) c4), (.bool e8)], Vf 108 (Ql (Ub .i64) (Ql Qi (Ql Vb Vb))) a5 a6 u, Qf j 55 #[(.int .i64 a2), (.int .i64 a3), (.int .i64 a4), (.slice a5 (List.length u) a6)], Qf b1 108 #[(.int .i64 h.1), (.string ⟨List.toArray h.2.1⟩), (.bool h.2.2.1), (.bool h.2.2.2.1)]] ∧ Zp (Vk e6) a2 a3 a4 u h e8 = some r) ?_ ?_
       ·refine aR ?_
        refine iR 4 4 [(58, (pt f 0)), (59, (pt f 0)), (60, (pt f 0)), (61, (pt f 1))] ?_
        refine iS 5 ?_
        refine sL 4 61 f 1 3 (.bool h.2.2.2.2.2) 62 e7 rfl ?_
        refine iR 1 6 [(63, (.bool h.2.2.2.2.2))] ?_
        refine In.guard (t := 63) (b := h.2.2.2.2.2) K (fun g2 => ?_) (fun g2 => ?_)
        ·have H := ct H g2
         refine iR 7 13 [(64, undef), (65, undef), (66, undef), (67, undef), (68, (.bool true)), (69, (pt f 0)), (70, (pt f 1))] ?_
         refine iS 14 ?_
         refine Qd.store (t := 4) (x := (.tmp 70)) (y := (.tmp 68)) (g := f) (off := 1) (i := 3) (v := (.bool true)) (cs' := #[(.slice c2 (List.length h.2.2.2.2.1) c4), (.bool true)]) (d := none) (k := 13) K rfl K K e7 rfl K ?_
         intro m7 k7
         refine iF ?_
         exact ⟨true, ⟨K, K, K, K, trivial⟩, SP.sel k7 [0, 4, 3, 1, 2, 5] rfl rfl, H⟩
        ·have H := cf H g2
         refine iR 1 7 [(64, (pt b1 0))] ?_
         refine iS 8 ?_
         refine sL 3 64 b1 0 5 (.int .i64 h.1) 65 e7 rfl ?_
         refine iR 5 13 [(66, (.int .i64 a1)), (67, (.bool (decide (h.1 ≤ a1)))), (68, (.bool (decide (h.1 ≤ a1)))), (69, (pt f 0)), (70, (pt f 1))] ?_
         refine iS 14 ?_
         refine Qd.store (t := 4) (x := (.tmp 70)) (y := (.tmp 68)) (g := f) (off := 1) (i := 3) (v := (.bool (decide (h.1 ≤ a1)))) (cs' := #[(.slice c2 (List.length h.2.2.2.2.1) c4), (.bool (decide (h.1 ≤ a1)))]) (d := none) (k := 13) K rfl K K e7 rfl K ?_
         intro m8 k8
         refine iF ?_
         exact ⟨(decide (h.1 ≤ a1)), ⟨K, K, K, K, trivial⟩, SP.sel k8 [0, 4, 3, 1, 2, 5] rfl rfl, H⟩
       ·rintro ρ m9 ⟨e8, hk, e9, H⟩
        unfold Zp at H
        first | refine At.known [(2, (pt g4 0)), (4, (pt f 0)), (5, (pt j 0)), (7, (pt b1 0))] hk ?_ | rw [← Qj (l := [(2, (pt g4 0)), (4, (pt f 0)), (5, (pt j 0)), (7, (pt b1 0))]) hk]
        refine aQ ?_
        refine aR ?_
        refine iR 1 1 [(71, (pt b1 0))] ?_
        refine iS 2 ?_
        refine sL 3 71 b1 0 5 (.int .i64 h.1) 72 e9 rfl ?_
        refine iR 1 3 [(6, (.int .i64 h.1))] ?_
        refine iF ?_
        refine aR ?_
        refine iR 1 1 [(73, (pt j 3))] ?_
        refine iS 2 ?_
        refine sL 53 73 j 3 4 (.slice a5 (List.length u) a6) 74 e9 rfl ?_
        refine iS 3 ?_
        refine sL 108 7 b1 0 5 (.agg #[(.int .i64 h.1), (.string ⟨List.toArray h.2.1⟩), (.bool h.2.2.1), (.bool h.2.2.2.1)]) 75 e9 rfl ?_
        refine iS 4 ?_
        refine Vo (e := (Ql (Ub .i64) (Ql Qi (Ql Vb Vb)))) (T := 53) (E := 108) (len := 1) (parts := #[(0, (.tmp 75))]) (cs := #[(.int .i64 h.1), (.string ⟨List.toArray h.2.1⟩), (.bool h.2.2.1), (.bool h.2.2.2.1)]) ([(h.1, h.2.1, h.2.2.1, h.2.2.2.1)] : List (Int × (List UInt8) × Bool × Bool)) (d := (some 76)) (k := 3) K rfl (fun _ => K) e9 rfl rfl rfl rfl ?_
        intro k9 n0 h8
        obtain ⟨hl1096, H⟩ := U2 H
        obtain ⟨g3, hyl1097⟩ : ∃ y, u ++ ([(h.1, h.2.1, h.2.2.1, h.2.2.2.1)] : List (Int × (List UInt8) × Bool × Bool)) = y := ⟨_, rfl⟩
        rw [hyl1097] at H
        refine iS 5 ?_
        refine Qd.append (e := (Ql (Ub .i64) (Ql Qi (Ql Vb Vb)))) (l := u) (m := ([(h.1, h.2.1, h.2.2.1, h.2.2.2.1)] : List (Int × (List UInt8) × Bool × Bool))) (A := a5) (c := a6) (T := 53) (TX := 53) (E := 108) (b := 32) (s := (.tmp 74)) (x := (.tmp 76)) (i := 3) (vx := (.slice (some ⟨k9, 0, none⟩) (List.length ([(h.1, h.2.1, h.2.2.1, h.2.2.2.1)] : List (Int × (List UInt8) × Bool × Bool))) (List.length ([(h.1, h.2.1, h.2.2.1, h.2.2.2.1)] : List (Int × (List UInt8) × Bool × Bool))))) (d := (some 77)) (k := 4) K rfl K K K K rfl h8 rfl (Eb (E := 108) K (Vv (SP.get h8 (i := 6) rfl))) hl1096 ?_
        rw [hyl1097]
        intro g5 g6 n1 l0
        refine iR 1 6 [(78, (pt j 3))] ?_
        refine iS 7 ?_
        refine Qd.store (t := 53) (x := (.tmp 78)) (y := (.tmp 77)) (g := j) (off := 3) (i := 4) (v := (.slice g5 (List.length g3) g6)) (cs' := #[(.int .i64 a2), (.int .i64 a3), (.int .i64 a4), (.slice g5 (List.length g3) g6)]) (d := none) (k := 6) K rfl K K l0 rfl K ?_
        intro n2 l1
        refine iF ?_
        exact ⟨h.2.2.2.2.1, e8, a2, a3, a4, g3, h.1, c2, c4, g5, g6, ⟨K, K, K, K, trivial⟩, SP.sel l1 [0, 1, 2, 3, 4] rfl rfl, H⟩
      ·have H := cf H g1
       refine At.exit K (id := 1) K ?_
       exact ⟨a0, b9, a2, a3, a4, u, c0, c1, a5, a6, ⟨K, K, K, trivial⟩, SP.sel d5 [0, 1, 2, 3, 4] rfl rfl, H⟩
     ·exact ⟨b4.2.1, b4.2.2, 0, b0.1, b4.1, ([] : List (Int × (List UInt8) × Bool × Bool)), (-1), f9, g0, none, 0, ⟨K, K, K, K, trivial⟩, SP.sel (Yd k1 108 (Ql (Ub .i64) (Ql Qi (Ql Vb Vb)))) [0, 3, 2, 4, 1] rfl rfl, H⟩
    ·have H := cf H f5
     refine aR ?_
     refine iR 3 3 [(14, (pt f 0)), (15, (pt f 0)), (16, (pt f 1))] ?_
     refine iS 4 ?_
     refine Qd.store (t := 4) (x := (.tmp 16)) (y := (.const (.bool true))) (g := f) (off := 1) (i := 2) (v := (.bool true)) (cs' := #[(.slice c5 (List.length q.2.1) c6), (.bool true)]) (d := none) (k := 3) K rfl K K b8 rfl K ?_
     intro n3 l2
     refine iF ?_
     exact ⟨q.2.1, true, 0, 0, 0, ([] : List (Int × (List UInt8) × Bool × Bool)), c5, c6, none, 0, ⟨K, K, K, trivial⟩, SP.sel (Yd l2 108 (Ql (Ub .i64) (Ql Qi (Ql Vb Vb)))) [0, 3, 2, 4, 1] rfl rfl, H⟩
   ·rintro ρ n4 ⟨d7, d8, d9, e0, e1, d4, e2, e3, e4, e5, hk, l3, H⟩
    unfold Xi at H
    first | refine At.known [(2, (pt g4 0)), (4, (pt f 0)), (5, (pt j 0))] hk ?_ | rw [← Qj (l := [(2, (pt g4 0)), (4, (pt f 0)), (5, (pt j 0))]) hk]
    exact ⟨d7, d8, d9, e0, e1, d4, e2, e3, e4, e5, ⟨K, K, K, trivial⟩, SP.sel l3 [0, 1, 2, 3, 4] rfl rfl, H⟩
 ·rintro ρ n5 ⟨d1, c7, b5, b6, b7, a7, d2, d3, a8, a9, hk, f0, H⟩
  unfold Xh at H
  first | refine At.known [(2, (pt g4 0)), (4, (pt f 0)), (5, (pt j 0))] hk ?_ | rw [← Qj (l := [(2, (pt g4 0)), (4, (pt f 0)), (5, (pt j 0))]) hk]
  refine aQ ?_
  refine aQ ?_
  refine aR ?_
  refine iR 3 3 [(79, (pt f 0)), (80, (pt f 0)), (81, (pt f 1))] ?_
  refine iS 4 ?_
  refine sL 4 81 f 1 2 (.bool c7) 82 f0 rfl ?_
  refine iF ?_
  refine Xe K (o := (.tmp 82)) K (b := c7) K (fun g7 => ?_) (fun g7 => ?_)
  ·have H := ct H g7
   refine aQ ?_
   refine aR ?_
   refine iR 1 1 [(83, (.agg #[(.int .i64 0), (.int .i64 0), (.int .i64 0), (.slice none (List.length ([] : List (Int × (List UInt8) × Bool × Bool))) 0)]))] ?_
   refine iS 2 ?_
   refine Qd.store (t := 55) (x := (.tmp 2)) (y := (.tmp 83)) (g := g4) (off := 0) (i := 0) (v := (.agg #[(.int .i64 0), (.int .i64 0), (.int .i64 0), (.slice none (List.length ([] : List (Int × (List UInt8) × Bool × Bool))) 0)])) (cs' := #[(.int .i64 0), (.int .i64 0), (.int .i64 0), (.slice none (List.length ([] : List (Int × (List UInt8) × Bool × Bool))) 0)]) (d := none) (k := 1) K rfl K K f0 rfl K ?_
   intro l4 h9
   refine iR 1 3 [(3, (.bool false))] ?_
   refine iF ?_
   refine At.ret K ?_
   have l5 : SP [] w0 l4 [Qf g4 55 #[(.int .i64 0), (.int .i64 0), (.int .i64 0), (.slice none (List.length ([] : List (Int × (List UInt8) × Bool × Bool))) 0)], rdE Qi d2 d3 d1, Qf f 112 #[(.slice d2 (List.length d1) d3), (.bool c7)], Vf 108 (Ql (Ub .i64) (Ql Qi (Ql Vb Vb))) a8 a9 a7, Qf j 55 #[(.int .i64 b5), (.int .i64 b6), (.int .i64 b7), (.slice a8 (List.length a7) a9)], Vf 108 (Ql (Ub .i64) (Ql Qi (Ql Vb Vb))) none 0 ([] : List (Int × (List UInt8) × Bool × Bool))] := Yd h9 108 (Ql (Ub .i64) (Ql Qi (Ql Vb Vb)))
   refine ⟨(.tuple #[(.agg #[(.int .i64 0), (.int .i64 0), (.int .i64 0), (.slice none (List.length ([] : List (Int × (List UInt8) × Bool × Bool))) 0)]), (.bool false)]), res_2 K (Gt (a := 2) (t := 55) (g := g4) (off := 0) K (SP.get h9 (i := 0) rfl) K) (Ch (t := 3) K), ?_⟩
   obtain rfl := Qc H
   exact ⟨none, 0, rfl, SP.sel l5 [5] rfl rfl⟩
  ·have H := cf H g7
   refine At.skip K ?_
   refine aQ ?_
   refine aR ?_
   refine iS 1 ?_
   refine sL 55 5 j 0 4 (.agg #[(.int .i64 b5), (.int .i64 b6), (.int .i64 b7), (.slice a8 (List.length a7) a9)]) 84 f0 rfl ?_
   refine iS 2 ?_
   refine Qd.store (t := 55) (x := (.tmp 2)) (y := (.tmp 84)) (g := g4) (off := 0) (i := 0) (v := (.agg #[(.int .i64 b5), (.int .i64 b6), (.int .i64 b7), (.slice a8 (List.length a7) a9)])) (cs' := #[(.int .i64 b5), (.int .i64 b6), (.int .i64 b7), (.slice a8 (List.length a7) a9)]) (d := none) (k := 1) K rfl K K f0 rfl K ?_
   intro n6 i0
   refine iR 1 3 [(3, (.bool true))] ?_
   refine iF ?_
   refine At.ret K ?_
   refine ⟨(.tuple #[(.agg #[(.int .i64 b5), (.int .i64 b6), (.int .i64 b7), (.slice a8 (List.length a7) a9)]), (.bool true)]), res_2 K (Gt (a := 2) (t := 55) (g := g4) (off := 0) K (SP.get i0 (i := 0) rfl) K) (Ch (t := 3) K), ?_⟩
   obtain rfl := Qc H
   exact ⟨a8, a9, rfl, SP.sel i0 [3] rfl rfl⟩
end Go.Proofs.YtoflbpmbkmephaaGreatDoor
namespace Go.Proofs.YtoflbpmbkmephaaGreatDoor
open Go.RowKit
def Q7 (e : Int → Option (Bool)) (d : (List (Int × (List UInt8) × Bool × Bool))) (f : (List (Int × (List UInt8) × Bool × Bool))) (a : Int) : Option (Bool) :=
  (cond (decide (a < ((List.length d : Nat) : Int))) ((idx d a).bind fun b => ((idx f a).bind fun c => (cond (!((b.1 == c.1) && ((b.2.1 == c.2.1) && ((b.2.2.1 == c.2.2.1) && (b.2.2.2 == c.2.2.2))))) (some (false)) (e (IntKind.wrap .i64 (a + 1)))))) (some (true)))
def Q8 (a : (List (Int × (List UInt8) × Bool × Bool))) (b : (List (Int × (List UInt8) × Bool × Bool))) : Nat → Int → Option (Bool)
  | 0, _ => none
  | f + 1, c => Q7  (Q8 a b f) a b c
def Q9 (a : (List (Int × (List UInt8) × Bool × Bool))) (b : (List (Int × (List UInt8) × Bool × Bool))) (c : Bool) : Option (Bool) :=
  (cond c (some (false)) (Q8 a b Ye 0))
def Q1 (c : Int) (d : Int) (e : Int) (a : (List (Int × (List UInt8) × Bool × Bool))) (f : Int) (g : Int) (h : Int) (b : (List (Int × (List UInt8) × Bool × Bool))) : Option (Bool) :=
  (cond (c != f) (Q9 a b true) (cond (d != g) (Q9 a b true) (cond (e != h) (Q9 a b true) (Q9 a b (((List.length a : Nat) : Int) != ((List.length b : Nat) : Int))))))
set_option maxHeartbeats 40000000 in
theorem V0 (A5 : Option Addr) (c6 : Nat) (u : Option Addr) (a3 : Nat) (a4 : Int) (z : Int) (a0 : Int) (h : (List (Int × (List UInt8) × Bool × Bool))) (a5 : Int) (a1 : Int) (a2 : Int) (m : (List (Int × (List UInt8) × Bool × Bool))) (w0 : World) (b5 : RdT (Ql (Ub .i64) (Ql Qi (Ql Vb Vb))) w0 A5 c6 h) (b6 : RdT (Ql (Ub .i64) (Ql Qi (Ql Vb Vb))) w0 u a3 m) (r : (Bool)) (H : Q1 a4 z a0 h a5 a1 a2 m = some r) :
  Calls Tryz.prog 39 #[(.agg #[(.int .i64 a4), (.int .i64 z), (.int .i64 a0), (.slice A5 (List.length h) c6)]), (.agg #[(.int .i64 a5), (.int .i64 a1), (.int .i64 a2), (.slice u (List.length m) a3)])] w0 (fun e w' => e = .returned (.bool r) ∧ SP [] w0 w' []) := by
 unfold Q1 at H
 refine Qg (n := 52) Tryz.func39 K K K ?_
 have c2 := Vc [] w0
 refine aQ ?_
 refine aR ?_
 refine iS 1 ?_
 refine V9 (t := 55) (x := (.tmp 0)) (v := (.agg #[(.int .i64 a4), (.int .i64 z), (.int .i64 a0), (.slice A5 (List.length h) c6)])) (d := (some 2)) (k := 0) K rfl K c2 ?_
 intro i e8 c3
 refine iS 2 ?_
 refine V9 (t := 55) (x := (.tmp 1)) (v := (.agg #[(.int .i64 a5), (.int .i64 a1), (.int .i64 a2), (.slice u (List.length m) a3)])) (d := (some 3)) (k := 1) K rfl K c3 ?_
 intro j e9 s
 refine iR 1 3 [(4, (.bool false))] ?_
 refine iF ?_
 refine aQ ?_
 refine aQ ?_
 refine At.join (fun ρ w => ∃ (a6 : Bool), V1 ρ [(2, (pt i 0)), (3, (pt j 0)), (33, (.bool a6))] ∧ SP [] w0 w [Qf i 55 #[(.int .i64 a4), (.int .i64 z), (.int .i64 a0), (.slice A5 (List.length h) c6)], Qf j 55 #[(.int .i64 a5), (.int .i64 a1), (.int .i64 a2), (.slice u (List.length m) a3)]] ∧ Q9 h m a6 = some r) ?_ ?_
 ·refine aR ?_
  refine iR 1 1 [(6, (pt i 0))] ?_
  refine iS 2 ?_
  refine sL 27 6 i 0 0 (.int .i64 a4) 7 s rfl ?_
  refine iR 1 3 [(8, (pt j 0))] ?_
  refine iS 4 ?_
  refine sL 27 8 j 0 1 (.int .i64 a5) 9 s rfl ?_
  refine iR 2 6 [(10, (.bool (a4 != a5))), (11, (.bool (a4 != a5)))] ?_
  refine In.guard (t := 11) (b := (a4 != a5)) K (fun a7 => ?_) (fun a7 => ?_)
  ·have H := ct H a7
   refine iR 22 28 [(12, undef), (13, undef), (14, undef), (15, undef), (16, undef), (17, (.bool true)), (18, (.bool true)), (19, undef), (20, undef), (21, undef), (22, undef), (23, undef), (24, (.bool true)), (25, (.bool true)), (26, undef), (27, undef), (28, undef), (29, undef), (30, undef), (31, undef), (32, undef), (33, (.bool true))] ?_
   refine iF ?_
   exact ⟨true, ⟨K, K, K, trivial⟩, SP.sel s [0, 1] rfl rfl, H⟩
  ·have H := cf H a7
   refine iR 1 7 [(12, (pt i 1))] ?_
   refine iS 8 ?_
   refine sL 3 12 i 1 0 (.int .i64 z) 13 s rfl ?_
   refine iR 1 9 [(14, (pt j 1))] ?_
   refine iS 10 ?_
   refine sL 3 14 j 1 1 (.int .i64 a1) 15 s rfl ?_
   refine iR 3 13 [(16, (.bool (z != a1))), (17, (.bool (z != a1))), (18, (.bool (z != a1)))] ?_
   refine In.guard (t := 18) (b := (z != a1)) K (fun a8 => ?_) (fun a8 => ?_)
   ·have H := ct H a8
    refine iR 15 28 [(19, undef), (20, undef), (21, undef), (22, undef), (23, undef), (24, (.bool true)), (25, (.bool true)), (26, undef), (27, undef), (28, undef), (29, undef), (30, undef), (31, undef), (32, undef), (33, (.bool true))] ?_
    refine iF ?_
    exact ⟨true, ⟨K, K, K, trivial⟩, SP.sel s [0, 1] rfl rfl, H⟩
   ·have H := cf H a8
    refine iR 1 14 [(19, (pt i 2))] ?_
    refine iS 15 ?_
    refine sL 3 19 i 2 0 (.int .i64 a0) 20 s rfl ?_
    refine iR 1 16 [(21, (pt j 2))] ?_
    refine iS 17 ?_
    refine sL 3 21 j 2 1 (.int .i64 a2) 22 s rfl ?_
    refine iR 3 20 [(23, (.bool (a0 != a2))), (24, (.bool (a0 != a2))), (25, (.bool (a0 != a2)))] ?_
    refine In.guard (t := 25) (b := (a0 != a2)) K (fun a9 => ?_) (fun a9 => ?_)
    ·have H := ct H a9
     refine iR 8 28 [(26, undef), (27, undef), (28, undef), (29, undef), (30, undef), (31, undef), (32, undef), (33, (.bool true))] ?_
     refine iF ?_
     exact ⟨true, ⟨K, K, K, trivial⟩, SP.sel s [0, 1] rfl rfl, H⟩
    ·have H := cf H a9
     refine iR 1 21 [(26, (pt i 3))] ?_
     refine iS 22 ?_
     refine sL 53 26 i 3 0 (.slice A5 (List.length h) c6) 27 s rfl ?_
     refine iR 2 24 [(28, (.int .i64 ((List.length h : Nat) : Int))), (29, (pt j 3))] ?_
     refine iS 25 ?_
     refine sL 53 29 j 3 1 (.slice u (List.length m) a3) 30 s rfl ?_
     refine iR 3 28 [(31, (.int .i64 ((List.length m : Nat) : Int))), (32, (.bool (((List.length h : Nat) : Int) != ((List.length m : Nat) : Int)))), (33, (.bool (((List.length h : Nat) : Int) != ((List.length m : Nat) : Int))))] ?_
     refine iF ?_
     exact ⟨(((List.length h : Nat) : Int) != ((List.length m : Nat) : Int)), ⟨K, K, K, trivial⟩, SP.sel s [0, 1] rfl rfl, H⟩
 ·rintro ρ f0 ⟨a6, hk, b7, H⟩
  unfold Q9 at H
  first | refine At.known [(2, (pt i 0)), (3, (pt j 0)), (33, (.bool a6))] hk ?_ | rw [← Qj (l := [(2, (pt i 0)), (3, (pt j 0)), (33, (.bool a6))]) hk]
  refine Xe K (o := (.tmp 33)) K (b := a6) K (fun b0 => ?_) (fun b0 => ?_)
  ·have H := ct H b0
   refine aQ ?_
   refine aR ?_
   refine iR 1 1 [(4, (.bool false))] ?_
   refine iF ?_
   refine At.ret K ?_
   refine ⟨(.bool false), K, ?_⟩
   obtain rfl := Qc H
   exact ⟨rfl, SP.sel b7 [] rfl rfl⟩
  ·have H := cf H b0
   refine At.skip K ?_
   refine aQ ?_
   refine aQ ?_
   refine aR ?_
   refine iR 1 1 [(5, (.int .i64 0))] ?_
   refine iF ?_
   refine Um K (id := 0) K ?_
   refine D0 K (fun f2 ρ w => ∃ (g : Int), V1 ρ [(2, (pt i 0)), (3, (pt j 0)), (5, (.int .i64 g))] ∧ SP [] w0 w [Qf i 55 #[(.int .i64 a4), (.int .i64 z), (.int .i64 a0), (.slice A5 (List.length h) c6)], Qf j 55 #[(.int .i64 a5), (.int .i64 a1), (.int .i64 a2), (.slice u (List.length m) a3)]] ∧ Q8 h m f2 g = some r) (by rintro ρ w ⟨g, hk, hs, H⟩; cases H) ?_ Ye ?_
   ·rintro f2 ρ f1 ⟨g, hk, b1, H⟩
    refine At.known [(2, (pt i 0)), (3, (pt j 0)), (5, (.int .i64 g))] hk ?_
    replace H := (show Q7 (Q8 h m f2) h m g = some r from H)
    unfold Q7 at H
    refine aQ ?_
    refine aQ ?_
    refine aR ?_
    refine iR 2 2 [(34, (.int .i64 g)), (35, (pt i 3))] ?_
    refine iS 3 ?_
    refine sL 53 35 i 3 0 (.slice A5 (List.length h) c6) 36 b1 rfl ?_
    refine iR 2 5 [(37, (.int .i64 ((List.length h : Nat) : Int))), (38, (.bool (decide (g < ((List.length h : Nat) : Int)))))] ?_
    refine iF ?_
    refine Xe K (o := (.tmp 38)) K (b := (decide (g < ((List.length h : Nat) : Int)))) K (fun b2 => ?_) (fun b2 => ?_)
    ·have H := ct H b2
     refine At.skip K ?_
     refine aQ ?_
     refine Um K (id := 1) K ?_
     refine aQ ?_
     obtain ⟨a, b8, b9, c4, H⟩ := Zy H
     obtain ⟨f, c0, c1, c5, H⟩ := Zy H
     refine aG [GEq (pt i 3), GEq (.slice A5 (List.length h) c6), GEq (.int .i64 g), E1 A5 (Ql (Ub .i64) (Ql Qi (Ql Vb Vb))).sz g, GEq (.agg #[(.int .i64 a.1), (.string ⟨List.toArray a.2.1⟩), (.bool a.2.2.1), (.bool a.2.2.2)]), GEq (pt j 3), GEq (.slice u (List.length m) a3), GEq (.int .i64 g), E1 u (Ql (Ub .i64) (Ql Qi (Ql Vb Vb))).sz g, GEq (.agg #[(.int .i64 f.1), (.string ⟨List.toArray f.2.1⟩), (.bool f.2.2.1), (.bool f.2.2.2)]), GEq (.bool (!((a.1 == f.1) && ((a.2.1 == f.2.1) && ((a.2.2.1 == f.2.2.1) && (a.2.2.2 == f.2.2.2))))))] [] (tG [] w0 [Qf i 55 #[(.int .i64 a4), (.int .i64 z), (.int .i64 a0), (.slice A5 (List.length h) c6)], Qf j 55 #[(.int .i64 a5), (.int .i64 a1), (.int .i64 a2), (.slice u (List.length m) a3)]] [([], [])]) 11 0 ⟨trivial, SP.drew b1⟩ ?_ ?_
     iterate 11 refine And.intro ?_ ?_
     exact trivial
     ·exact oV (hC (hS 2 (pt i 0)) (h0)) (pt i 3)
     ·refine oL 0 ?_
      ·rintro ρ' w' hs p ⟨f3, c7⟩
       refine kM (kc (kA p 0 41) k0) fun q => ?_
       refine sL 53 41 i 3 0 (.slice A5 (List.length h) c6) 42 c7 rfl ?_
       exact eK q
     ·exact oV (hC (hS 5 (.int .i64 g)) (h0)) (.int .i64 g)
     ·refine oL 0 ?_
      ·rintro ρ' w' hs p ⟨f4, c8⟩
       refine kM (kc (kA p 1 42) (kc (kA p 2 43) k0)) fun q => ?_
       refine Xf (e := (Ql (Ub .i64) (Ql Qi (Ql Vb Vb)))) (l := h) (A := A5) (c := c6) (T := 53) (E := 108) (x := (.tmp 42)) (ix := (.tmp 43)) (ki := .i64) (iz := g) (d := (some 44)) (k := 3) K rfl K K K K (RdT.sp b5 c8) b8 b9 ?_
       intro c9 d0 d1 f5 hc165
       exact ⟨rfl, _, Qm q, ⟨c9, d0, d1, rfl⟩⟩
     ·refine oL 0 ?_
      ·rintro ρ' w' hs p ⟨f6, d2⟩
       obtain ⟨d3, d4, d5, d6⟩ := p 3 44 K
       refine kM (kc d6 k0) fun q => ?_
       refine Qd.cells (t := 108) (x := (.tmp 44)) (b := d3) (off := (d4 + Int.toNat g * (Ql (Ub .i64) (Ql Qi (Ql Vb Vb))).sz)) (xs := [(.int .i64 a.1), (.string ⟨List.toArray a.2.1⟩), (.bool a.2.2.1), (.bool a.2.2.2)]) (d := (some 45)) (k := 4) K rfl K K K (Gu (e := (Ql (Ub .i64) (Ql Qi (Ql Vb Vb)))) (Jj (RdT.sp b5 d2) d5 b8 b9) c4 rfl) ?_
       exact eK q
     ·exact oV (hC (hS 3 (pt j 0)) (h0)) (pt j 3)
     ·refine oL 0 ?_
      ·rintro ρ' w' hs p ⟨f7, d7⟩
       refine kM (kc (kA p 5 46) k0) fun q => ?_
       refine sL 53 46 j 3 1 (.slice u (List.length m) a3) 47 d7 rfl ?_
       exact eK q
     ·exact oV (hC (hS 5 (.int .i64 g)) (h0)) (.int .i64 g)
     ·refine oL 0 ?_
      ·rintro ρ' w' hs p ⟨f8, d8⟩
       refine kM (kc (kA p 6 47) (kc (kA p 7 48) k0)) fun q => ?_
       refine Xf (e := (Ql (Ub .i64) (Ql Qi (Ql Vb Vb)))) (l := m) (A := u) (c := a3) (T := 53) (E := 108) (x := (.tmp 47)) (ix := (.tmp 48)) (ki := .i64) (iz := g) (d := (some 49)) (k := 8) K rfl K K K K (RdT.sp b6 d8) c0 c1 ?_
       intro d9 e0 e1 f9 hc179
       exact ⟨rfl, _, Qm q, ⟨d9, e0, e1, rfl⟩⟩
     ·refine oL 0 ?_
      ·rintro ρ' w' hs p ⟨g0, e2⟩
       obtain ⟨e3, e4, e5, e6⟩ := p 8 49 K
       refine kM (kc e6 k0) fun q => ?_
       refine Qd.cells (t := 108) (x := (.tmp 49)) (b := e3) (off := (e4 + Int.toNat g * (Ql (Ub .i64) (Ql Qi (Ql Vb Vb))).sz)) (xs := [(.int .i64 f.1), (.string ⟨List.toArray f.2.1⟩), (.bool f.2.2.1), (.bool f.2.2.2)]) (d := (some 50)) (k := 9) K rfl K K K (Gu (e := (Ql (Ub .i64) (Ql Qi (Ql Vb Vb)))) (Jj (RdT.sp b6 e2) e5 c0 c1) c5 rfl) ?_
       exact eK q
     ·refine oL 0 ?_
      ·rintro ρ' w' hs p ⟨g1, g2⟩
       refine kM (kc (kA p 4 45) (kc (kA p 9 50) k0)) fun q => ?_
       refine Bs (op := .neq) (T := 108) (T' := 108) (x := (.tmp 45)) (y := (.tmp 50)) (vx := (.agg #[(.int .i64 a.1), (.string ⟨List.toArray a.2.1⟩), (.bool a.2.2.1), (.bool a.2.2.2)])) (vy := (.agg #[(.int .i64 f.1), (.string ⟨List.toArray f.2.1⟩), (.bool f.2.2.1), (.bool f.2.2.2)])) (v := (.bool (!((a.1 == f.1) && ((a.2.1 == f.2.1) && ((a.2.2.1 == f.2.2.1) && (a.2.2.2 == f.2.2.2))))))) (d := (some 51)) (k := 10) K rfl K K (by clear H; intro w; simp only [Rh]; go_simp; simp only [Rg, Gs, Di, Rh, Bool.and_true] <;> simp only [Bool.not_and]) ?_
       exact eK q
     ·rintro ρ' w' hs hf ⟨g3, b3⟩
      refine Jh [(2, (pt i 0)), (3, (pt j 0)), (5, (.int .i64 g)), (51, (.bool (!((a.1 == f.1) && ((a.2.1 == f.2.1) && ((a.2.2.1 == f.2.2.1) && (a.2.2.2 == f.2.2.2)))))))] ⟨(hs 2 K).trans K, (hs 3 K).trans K, (hs 5 K).trans K, hf 10 51 K, trivial⟩ ?_
      obtain ⟨g4, e7⟩ : ∃ x, w' = x := ⟨_, rfl⟩
      rw [e7] at b3 ⊢
      refine Xe K (o := (.tmp 51)) K (b := (!((a.1 == f.1) && ((a.2.1 == f.2.1) && ((a.2.2.1 == f.2.2.1) && (a.2.2.2 == f.2.2.2)))))) K (fun b4 => ?_) (fun b4 => ?_)
      ·have H := ct H b4
       refine aQ ?_
       refine aR ?_
       refine iR 1 1 [(4, (.bool false))] ?_
       refine iF ?_
       refine At.ret K ?_
       refine ⟨(.bool false), K, ?_⟩
       obtain rfl := Qc H
       exact ⟨rfl, SP.sel b3 [] rfl rfl⟩
      ·have H := cf H b4
       refine At.skip K ?_
       refine aR ?_
       refine iR 3 3 [(39, (.int .i64 g)), (40, (.int .i64 (IntKind.wrap .i64 (g + 1)))), (5, (.int .i64 (IntKind.wrap .i64 (g + 1))))] ?_
       refine iF ?_
       exact ⟨(IntKind.wrap .i64 (g + 1)), ⟨K, K, K, trivial⟩, SP.sel b3 [0, 1] rfl rfl, H⟩
    ·have H := cf H b2
     refine At.exit K (id := 0) K ?_
     refine aQ ?_
     refine aR ?_
     refine iR 1 1 [(4, (.bool true))] ?_
     refine iF ?_
     refine At.ret K ?_
     refine ⟨(.bool true), K, ?_⟩
     obtain rfl := Qc H
     exact ⟨rfl, SP.sel b1 [] rfl rfl⟩
   ·exact ⟨0, ⟨K, K, K, trivial⟩, SP.sel b7 [0, 1] rfl rfl, H⟩
def Qk (a : Bool) : Option (Bool) :=
  (some (a))
def X2  : Option (Bool) :=
  ((Yk ([98, 121, 116, 101, 115, 32, 51, 32, 54, 49, 54, 50, 32, 45] : List UInt8)).bind fun z8 => ((Yk ([98, 121, 116, 101, 115, 32, 51, 32, 54, 49, 54, 50] : List UInt8)).bind fun b => ((Z7 ([111, 107, 32, 50, 32, 48, 32, 49, 61, 54, 49, 43, 32, 51, 61, 45, 33] : List UInt8)).bind fun a => ((Z7 ([111, 107, 32, 50, 32, 48, 32, 51, 61, 45, 32, 49, 61, 45] : List UInt8)).bind fun c => ((Yx 2 3 0 ([97, 98] : List UInt8) 0 ([] : List UInt8) ([] : List UInt8) ([] : List UInt8)).bind fun d => (cond (d == ([98, 121, 116, 101, 115, 32, 51, 32, 54, 49, 54, 50, 32, 45] : List UInt8)) (cond z8.2.2.2.2.2.2.2.2 (cond ((z8.1 == 2) && ((z8.2.1 == 3) && ((z8.2.2.1 == 0) && ((z8.2.2.2.1 == ([97, 98] : List UInt8)) && ((z8.2.2.2.2.1 == 0) && ((z8.2.2.2.2.2.1 == ([] : List UInt8)) && ((z8.2.2.2.2.2.2.1 == ([] : List UInt8)) && (z8.2.2.2.2.2.2.2.1 == ([] : List UInt8))))))))) (cond (!b.2.2.2.2.2.2.2.2) ((Z6 0 2 0 ([(1, ([97] : List UInt8), true, false), (3, ([] : List UInt8), false, true)] : List (Int × (List UInt8) × Bool × Bool))).bind fun e => (cond (e == ([111, 107, 32, 50, 32, 48, 32, 49, 61, 54, 49, 43, 32, 51, 61, 45, 33] : List UInt8)) (cond a.2.2.2.2 ((Q1 a.1 a.2.1 a.2.2.1 a.2.2.2.1 0 2 0 ([(1, ([97] : List UInt8), true, false), (3, ([] : List UInt8), false, true)] : List (Int × (List UInt8) × Bool × Bool))).bind fun f => (cond f (cond (!c.2.2.2.2) ((Z6 3 0 0 ([] : List (Int × (List UInt8) × Bool × Bool))).bind fun g => (cond (g == ([101, 114, 114, 32, 51] : List UInt8)) ((Yx 0 0 0 ([] : List UInt8) 0 ([] : List UInt8) ([] : List UInt8) ([] : List UInt8)).bind fun h => (cond (h == ([] : List UInt8)) ((Yx 9 0 0 ([] : List UInt8) 0 ([] : List UInt8) ([] : List UInt8) ([] : List UInt8)).bind fun i => (Qk (i == ([100, 114, 97, 105, 110] : List UInt8)))) (Qk false))) (Qk false))) (Qk false)) (Qk false))) (Qk false)) (Qk false))) (Qk false)) (Qk false)) (Qk false)) (Qk false)))))))
set_option maxHeartbeats 40000000 in
theorem Nf   (w0 : World) (hL : X8 w0)  (r : (Bool)) (H : X2  = some r) :
  Calls Tryz.prog 28 #[] w0 (fun e w' => e = .returned (.bool r) ∧ SP [] w0 w' []) := by
 unfold X2 at H
 refine Qg (n := 79) Tryz.func28 K K K ?_
 have d9 := Vc [] w0
 refine aQ ?_
 refine aR ?_
 refine iR 1 1 [(0, (.bool false))] ?_
 refine iF ?_
 refine aQ ?_
 refine aR ?_
 refine iR 1 1 [(11, (.agg #[(.int .i64 2), (.int .i64 3), (.int .u32 0), (.string ⟨List.toArray ([97, 98] : List UInt8)⟩), (.int .i64 0), (.string ⟨List.toArray ([] : List UInt8)⟩), (.string ⟨List.toArray ([] : List UInt8)⟩), (.string ⟨List.toArray ([] : List UInt8)⟩)]))] ?_
 refine iS 2 ?_
 refine Qd.alloc (t := 52) (z := (.agg #[(.int .i64 0), (.int .i64 0), (.int .u32 0), (.string ⟨List.toArray ([] : List UInt8)⟩), (.int .i64 0), (.string ⟨List.toArray ([] : List UInt8)⟩), (.string ⟨List.toArray ([] : List UInt8)⟩), (.string ⟨List.toArray ([] : List UInt8)⟩)])) (d := (some 1)) (k := 1) K rfl K d9 ?_
 intro g1 w2 e0
 refine iS 3 ?_
 refine Qd.store (t := 52) (x := (.tmp 1)) (y := (.tmp 11)) (g := g1) (off := 0) (i := 0) (v := (.agg #[(.int .i64 2), (.int .i64 3), (.int .u32 0), (.string ⟨List.toArray ([97, 98] : List UInt8)⟩), (.int .i64 0), (.string ⟨List.toArray ([] : List UInt8)⟩), (.string ⟨List.toArray ([] : List UInt8)⟩), (.string ⟨List.toArray ([] : List UInt8)⟩)])) (cs' := #[(.int .i64 2), (.int .i64 3), (.int .u32 0), (.string ⟨List.toArray ([97, 98] : List UInt8)⟩), (.int .i64 0), (.string ⟨List.toArray ([] : List UInt8)⟩), (.string ⟨List.toArray ([] : List UInt8)⟩), (.string ⟨List.toArray ([] : List UInt8)⟩)]) (d := none) (k := 2) K rfl K K e0 rfl K ?_
 intro w5 c2
 refine iF ?_
 refine aQ ?_
 refine aR ?_
 obtain ⟨z8, e1, H⟩ := Qa H
 refine iS 1 ?_
 refine cF 31 #[(.const (.string ⟨List.toArray ([98, 121, 116, 101, 115, 32, 51, 32, 54, 49, 54, 50, 32, 45] : List UInt8)⟩))] #[9] 13 Tryz.call31 (Yn  ([98, 121, 116, 101, 115, 32, 51, 32, 54, 49, 54, 50, 32, 45] : List UInt8) w5 (Qo hL (SP.keeps c2)) z8 e1) ?_
 rintro e h6 ⟨rfl, c3⟩
 refine ⟨_, rfl, ?_⟩
 have e2 := SP.call c2 c3
 clear c3
 refine iR 3 4 [(12, (.tuple #[(.agg #[(.int .i64 z8.1), (.int .i64 z8.2.1), (.int .u32 z8.2.2.1), (.string ⟨List.toArray z8.2.2.2.1⟩), (.int .i64 z8.2.2.2.2.1), (.string ⟨List.toArray z8.2.2.2.2.2.1⟩), (.string ⟨List.toArray z8.2.2.2.2.2.2.1⟩), (.string ⟨List.toArray z8.2.2.2.2.2.2.2.1⟩)]), (.bool z8.2.2.2.2.2.2.2.2)])), (14, (.agg #[(.int .i64 z8.1), (.int .i64 z8.2.1), (.int .u32 z8.2.2.1), (.string ⟨List.toArray z8.2.2.2.1⟩), (.int .i64 z8.2.2.2.2.1), (.string ⟨List.toArray z8.2.2.2.2.2.1⟩), (.string ⟨List.toArray z8.2.2.2.2.2.2.1⟩), (.string ⟨List.toArray z8.2.2.2.2.2.2.2.1⟩)])), (15, (.bool z8.2.2.2.2.2.2.2.2))] ?_
 refine iS 5 ?_
 refine Qd.alloc (t := 52) (z := (.agg #[(.int .i64 0), (.int .i64 0), (.int .u32 0), (.string ⟨List.toArray ([] : List UInt8)⟩), (.int .i64 0), (.string ⟨List.toArray ([] : List UInt8)⟩), (.string ⟨List.toArray ([] : List UInt8)⟩), (.string ⟨List.toArray ([] : List UInt8)⟩)])) (d := (some 2)) (k := 4) K rfl K e2 ?_
 intro c4 h7 e3
 refine iS 6 ?_
 refine Qd.store (t := 52) (x := (.tmp 2)) (y := (.tmp 14)) (g := c4) (off := 0) (i := 1) (v := (.agg #[(.int .i64 z8.1), (.int .i64 z8.2.1), (.int .u32 z8.2.2.1), (.string ⟨List.toArray z8.2.2.2.1⟩), (.int .i64 z8.2.2.2.2.1), (.string ⟨List.toArray z8.2.2.2.2.2.1⟩), (.string ⟨List.toArray z8.2.2.2.2.2.2.1⟩), (.string ⟨List.toArray z8.2.2.2.2.2.2.2.1⟩)])) (cs' := #[(.int .i64 z8.1), (.int .i64 z8.2.1), (.int .u32 z8.2.2.1), (.string ⟨List.toArray z8.2.2.2.1⟩), (.int .i64 z8.2.2.2.2.1), (.string ⟨List.toArray z8.2.2.2.2.2.1⟩), (.string ⟨List.toArray z8.2.2.2.2.2.2.1⟩), (.string ⟨List.toArray z8.2.2.2.2.2.2.2.1⟩)]) (d := none) (k := 5) K rfl K K e3 rfl K ?_
 intro e4 c5
 refine iR 1 7 [(3, (.bool z8.2.2.2.2.2.2.2.2))] ?_
 refine iF ?_
 refine aQ ?_
 refine aR ?_
 obtain ⟨c, e5, H⟩ := Qa H
 refine iS 1 ?_
 refine cF 31 #[(.const (.string ⟨List.toArray ([98, 121, 116, 101, 115, 32, 51, 32, 54, 49, 54, 50] : List UInt8)⟩))] #[9] 17 Tryz.call31 (Yn  ([98, 121, 116, 101, 115, 32, 51, 32, 54, 49, 54, 50] : List UInt8) e4 (Qo hL (SP.keeps c5)) c e5) ?_
 rintro e h8 ⟨rfl, c6⟩
 refine ⟨_, rfl, ?_⟩
 have e6 := SP.call c5 c6
 clear c6
 refine iR 3 4 [(16, (.tuple #[(.agg #[(.int .i64 c.1), (.int .i64 c.2.1), (.int .u32 c.2.2.1), (.string ⟨List.toArray c.2.2.2.1⟩), (.int .i64 c.2.2.2.2.1), (.string ⟨List.toArray c.2.2.2.2.2.1⟩), (.string ⟨List.toArray c.2.2.2.2.2.2.1⟩), (.string ⟨List.toArray c.2.2.2.2.2.2.2.1⟩)]), (.bool c.2.2.2.2.2.2.2.2)])), (18, (.agg #[(.int .i64 c.1), (.int .i64 c.2.1), (.int .u32 c.2.2.1), (.string ⟨List.toArray c.2.2.2.1⟩), (.int .i64 c.2.2.2.2.1), (.string ⟨List.toArray c.2.2.2.2.2.1⟩), (.string ⟨List.toArray c.2.2.2.2.2.2.1⟩), (.string ⟨List.toArray c.2.2.2.2.2.2.2.1⟩)])), (19, (.bool c.2.2.2.2.2.2.2.2))] ?_
 refine iS 5 ?_
 refine Qd.alloc (t := 52) (z := (.agg #[(.int .i64 0), (.int .i64 0), (.int .u32 0), (.string ⟨List.toArray ([] : List UInt8)⟩), (.int .i64 0), (.string ⟨List.toArray ([] : List UInt8)⟩), (.string ⟨List.toArray ([] : List UInt8)⟩), (.string ⟨List.toArray ([] : List UInt8)⟩)])) (d := (some 4)) (k := 4) K rfl K e6 ?_
 intro e7 h9 e8
 refine iS 6 ?_
 refine Qd.store (t := 52) (x := (.tmp 4)) (y := (.tmp 18)) (g := e7) (off := 0) (i := 2) (v := (.agg #[(.int .i64 c.1), (.int .i64 c.2.1), (.int .u32 c.2.2.1), (.string ⟨List.toArray c.2.2.2.1⟩), (.int .i64 c.2.2.2.2.1), (.string ⟨List.toArray c.2.2.2.2.2.1⟩), (.string ⟨List.toArray c.2.2.2.2.2.2.1⟩), (.string ⟨List.toArray c.2.2.2.2.2.2.2.1⟩)])) (cs' := #[(.int .i64 c.1), (.int .i64 c.2.1), (.int .u32 c.2.2.1), (.string ⟨List.toArray c.2.2.2.1⟩), (.int .i64 c.2.2.2.2.1), (.string ⟨List.toArray c.2.2.2.2.2.1⟩), (.string ⟨List.toArray c.2.2.2.2.2.2.1⟩), (.string ⟨List.toArray c.2.2.2.2.2.2.2.1⟩)]) (d := none) (k := 5) K rfl K K e8 rfl K ?_
 intro i0 e9
 refine iR 1 7 [(5, (.bool c.2.2.2.2.2.2.2.2))] ?_
 refine iF ?_
 refine aQ ?_
 refine aR ?_
 refine iR 2 2 [(20, (.agg #[(.int .i64 1), (.string ⟨List.toArray ([97] : List UInt8)⟩), (.bool true), (.bool false)])), (21, (.agg #[(.int .i64 3), (.string ⟨List.toArray ([] : List UInt8)⟩), (.bool false), (.bool true)]))] ?_
 refine iS 3 ?_
 refine Vo (e := (Ql (Ub .i64) (Ql Qi (Ql Vb Vb)))) (T := 53) (E := 108) (len := 2) (parts := #[(0, (.tmp 20)), (1, (.tmp 21))]) (cs := #[(.int .i64 1), (.string ⟨List.toArray ([97] : List UInt8)⟩), (.bool true), (.bool false), (.int .i64 3), (.string ⟨List.toArray ([] : List UInt8)⟩), (.bool false), (.bool true)]) ([(1, ([97] : List UInt8), true, false), (3, ([] : List UInt8), false, true)] : List (Int × (List UInt8) × Bool × Bool)) (d := (some 22)) (k := 2) K rfl (fun _ => K) e9 rfl rfl rfl rfl ?_
 intro m i1 f0
 refine iR 1 4 [(23, (.agg #[(.int .i64 0), (.int .i64 2), (.int .i64 0), (.slice (some ⟨m, 0, none⟩) (List.length ([(1, ([97] : List UInt8), true, false), (3, ([] : List UInt8), false, true)] : List (Int × (List UInt8) × Bool × Bool))) (List.length ([(1, ([97] : List UInt8), true, false), (3, ([] : List UInt8), false, true)] : List (Int × (List UInt8) × Bool × Bool))))]))] ?_
 refine iS 5 ?_
 refine Qd.alloc (t := 55) (z := (.agg #[(.int .i64 0), (.int .i64 0), (.int .i64 0), (.slice none (List.length ([] : List (Int × (List UInt8) × Bool × Bool))) 0)])) (d := (some 6)) (k := 4) K rfl K f0 ?_
 intro a8 i2 f1
 refine iS 6 ?_
 refine Qd.store (t := 55) (x := (.tmp 6)) (y := (.tmp 23)) (g := a8) (off := 0) (i := 4) (v := (.agg #[(.int .i64 0), (.int .i64 2), (.int .i64 0), (.slice (some ⟨m, 0, none⟩) (List.length ([(1, ([97] : List UInt8), true, false), (3, ([] : List UInt8), false, true)] : List (Int × (List UInt8) × Bool × Bool))) (List.length ([(1, ([97] : List UInt8), true, false), (3, ([] : List UInt8), false, true)] : List (Int × (List UInt8) × Bool × Bool))))])) (cs' := #[(.int .i64 0), (.int .i64 2), (.int .i64 0), (.slice (some ⟨m, 0, none⟩) (List.length ([(1, ([97] : List UInt8), true, false), (3, ([] : List UInt8), false, true)] : List (Int × (List UInt8) × Bool × Bool))) (List.length ([(1, ([97] : List UInt8), true, false), (3, ([] : List UInt8), false, true)] : List (Int × (List UInt8) × Bool × Bool))))]) (d := none) (k := 5) K rfl K K f1 rfl K ?_
 intro f2 c7
 refine iF ?_
 refine aQ ?_
 refine aR ?_
 obtain ⟨f, f3, H⟩ := Qa H
 refine iS 1 ?_
 refine cF 33 #[(.const (.string ⟨List.toArray ([111, 107, 32, 50, 32, 48, 32, 49, 61, 54, 49, 43, 32, 51, 61, 45, 33] : List UInt8)⟩))] #[9] 25 Tryz.call33 (X1  ([111, 107, 32, 50, 32, 48, 32, 49, 61, 54, 49, 43, 32, 51, 61, 45, 33] : List UInt8) f2 (Qo hL (SP.keeps c7)) f f3) ?_
 rintro e i3 ⟨p, q, rfl, c8⟩
 refine ⟨_, rfl, ?_⟩
 have f4 := SP.call c7 c8
 clear c8
 refine iR 3 4 [(24, (.tuple #[(.agg #[(.int .i64 f.1), (.int .i64 f.2.1), (.int .i64 f.2.2.1), (.slice p (List.length f.2.2.2.1) q)]), (.bool f.2.2.2.2)])), (26, (.agg #[(.int .i64 f.1), (.int .i64 f.2.1), (.int .i64 f.2.2.1), (.slice p (List.length f.2.2.2.1) q)])), (27, (.bool f.2.2.2.2))] ?_
 refine iS 5 ?_
 refine Qd.alloc (t := 55) (z := (.agg #[(.int .i64 0), (.int .i64 0), (.int .i64 0), (.slice none (List.length ([] : List (Int × (List UInt8) × Bool × Bool))) 0)])) (d := (some 7)) (k := 4) K rfl K f4 ?_
 intro c9 i4 f5
 refine iS 6 ?_
 refine Qd.store (t := 55) (x := (.tmp 7)) (y := (.tmp 26)) (g := c9) (off := 0) (i := 6) (v := (.agg #[(.int .i64 f.1), (.int .i64 f.2.1), (.int .i64 f.2.2.1), (.slice p (List.length f.2.2.2.1) q)])) (cs' := #[(.int .i64 f.1), (.int .i64 f.2.1), (.int .i64 f.2.2.1), (.slice p (List.length f.2.2.2.1) q)]) (d := none) (k := 5) K rfl K K f5 rfl K ?_
 intro f6 d0
 refine iR 1 7 [(8, (.bool f.2.2.2.2))] ?_
 refine iF ?_
 refine aQ ?_
 refine aR ?_
 obtain ⟨h, f7, H⟩ := Qa H
 refine iS 1 ?_
 refine cF 33 #[(.const (.string ⟨List.toArray ([111, 107, 32, 50, 32, 48, 32, 51, 61, 45, 32, 49, 61, 45] : List UInt8)⟩))] #[9] 29 Tryz.call33 (X1  ([111, 107, 32, 50, 32, 48, 32, 51, 61, 45, 32, 49, 61, 45] : List UInt8) f6 (Qo hL (SP.keeps d0)) h f7) ?_
 rintro e i5 ⟨a4, a5, rfl, d1⟩
 refine ⟨_, rfl, ?_⟩
 have f8 := SP.call d0 d1
 clear d1
 refine iR 3 4 [(28, (.tuple #[(.agg #[(.int .i64 h.1), (.int .i64 h.2.1), (.int .i64 h.2.2.1), (.slice a4 (List.length h.2.2.2.1) a5)]), (.bool h.2.2.2.2)])), (30, (.agg #[(.int .i64 h.1), (.int .i64 h.2.1), (.int .i64 h.2.2.1), (.slice a4 (List.length h.2.2.2.1) a5)])), (31, (.bool h.2.2.2.2))] ?_
 refine iS 5 ?_
 refine Qd.alloc (t := 55) (z := (.agg #[(.int .i64 0), (.int .i64 0), (.int .i64 0), (.slice none (List.length ([] : List (Int × (List UInt8) × Bool × Bool))) 0)])) (d := (some 9)) (k := 4) K rfl K f8 ?_
 intro f9 i6 g0
 refine iS 6 ?_
 refine Qd.store (t := 55) (x := (.tmp 9)) (y := (.tmp 30)) (g := f9) (off := 0) (i := 8) (v := (.agg #[(.int .i64 h.1), (.int .i64 h.2.1), (.int .i64 h.2.2.1), (.slice a4 (List.length h.2.2.2.1) a5)])) (cs' := #[(.int .i64 h.1), (.int .i64 h.2.1), (.int .i64 h.2.2.1), (.slice a4 (List.length h.2.2.2.1) a5)]) (d := none) (k := 5) K rfl K K g0 rfl K ?_
 intro g2 a9
 refine iR 1 7 [(10, (.bool h.2.2.2.2))] ?_
 refine iF ?_
 refine aQ ?_
 refine At.join (fun ρ w => ∃ (s : Bool), V1 ρ [(0, (.bool s))] ∧ SP [] w0 w [] ∧ Qk s = some r) ?_ ?_
 ·refine aR ?_
  refine iS 1 ?_
  refine sL 52 1 g1 0 0 (.agg #[(.int .i64 2), (.int .i64 3), (.int .u32 0), (.string ⟨List.toArray ([97, 98] : List UInt8)⟩), (.int .i64 0), (.string ⟨List.toArray ([] : List UInt8)⟩), (.string ⟨List.toArray ([] : List UInt8)⟩), (.string ⟨List.toArray ([] : List UInt8)⟩)]) 32 a9 rfl ?_
  obtain ⟨a3, g3, H⟩ := Qa H
  refine iS 2 ?_
  refine cF 35 #[(.tmp 32)] #[52] 33 Tryz.call35 (Yy  2 3 0 ([97, 98] : List UInt8) 0 ([] : List UInt8) ([] : List UInt8) ([] : List UInt8) g2 (Qo hL (SP.keeps a9)) a3 g3) ?_
  rintro e g4 ⟨rfl, d2⟩
  refine ⟨_, rfl, ?_⟩
  have j := SP.call a9 d2
  clear d2
  refine iS 3 ?_
  refine Vq (op := .eql) (T := 9) (T' := 9) (x := (.tmp 33)) (y := (.const (.string ⟨List.toArray ([98, 121, 116, 101, 115, 32, 51, 32, 54, 49, 54, 50, 32, 45] : List UInt8)⟩))) (a := a3) (b := ([98, 121, 116, 101, 115, 32, 51, 32, 54, 49, 54, 50, 32, 45] : List UInt8)) (r := (.bool (a3 == ([98, 121, 116, 101, 115, 32, 51, 32, 54, 49, 54, 50, 32, 45] : List UInt8)))) (d := (some 34)) (k := 2) K rfl K K rfl ?_
  refine iR 1 4 [(35, (.bool (a3 == ([98, 121, 116, 101, 115, 32, 51, 32, 54, 49, 54, 50, 32, 45] : List UInt8))))] ?_
  refine In.guard (t := 35) (b := (a3 == ([98, 121, 116, 101, 115, 32, 51, 32, 54, 49, 54, 50, 32, 45] : List UInt8))) K (fun b0 => ?_) (fun b0 => ?_)
  ·have H := ct H b0
   refine iR 3 7 [(36, (.bool z8.2.2.2.2.2.2.2.2)), (37, (.bool z8.2.2.2.2.2.2.2.2)), (38, (.bool z8.2.2.2.2.2.2.2.2))] ?_
   refine In.guard (t := 38) (b := z8.2.2.2.2.2.2.2.2) K (fun b1 => ?_) (fun b1 => ?_)
   ·have H := ct H b1
    refine iS 8 ?_
    refine sL 52 2 c4 0 1 (.agg #[(.int .i64 z8.1), (.int .i64 z8.2.1), (.int .u32 z8.2.2.1), (.string ⟨List.toArray z8.2.2.2.1⟩), (.int .i64 z8.2.2.2.2.1), (.string ⟨List.toArray z8.2.2.2.2.2.1⟩), (.string ⟨List.toArray z8.2.2.2.2.2.2.1⟩), (.string ⟨List.toArray z8.2.2.2.2.2.2.2.1⟩)]) 39 j rfl ?_
    refine iS 9 ?_
    refine sL 52 1 g1 0 0 (.agg #[(.int .i64 2), (.int .i64 3), (.int .u32 0), (.string ⟨List.toArray ([97, 98] : List UInt8)⟩), (.int .i64 0), (.string ⟨List.toArray ([] : List UInt8)⟩), (.string ⟨List.toArray ([] : List UInt8)⟩), (.string ⟨List.toArray ([] : List UInt8)⟩)]) 40 j rfl ?_
    refine iS 10 ?_
    refine Bs (op := .eql) (T := 52) (T' := 52) (x := (.tmp 39)) (y := (.tmp 40)) (vx := (.agg #[(.int .i64 z8.1), (.int .i64 z8.2.1), (.int .u32 z8.2.2.1), (.string ⟨List.toArray z8.2.2.2.1⟩), (.int .i64 z8.2.2.2.2.1), (.string ⟨List.toArray z8.2.2.2.2.2.1⟩), (.string ⟨List.toArray z8.2.2.2.2.2.2.1⟩), (.string ⟨List.toArray z8.2.2.2.2.2.2.2.1⟩)])) (vy := (.agg #[(.int .i64 2), (.int .i64 3), (.int .u32 0), (.string ⟨List.toArray ([97, 98] : List UInt8)⟩), (.int .i64 0), (.string ⟨List.toArray ([] : List UInt8)⟩), (.string ⟨List.toArray ([] : List UInt8)⟩), (.string ⟨List.toArray ([] : List UInt8)⟩)])) (v := (.bool ((z8.1 == 2) && ((z8.2.1 == 3) && ((z8.2.2.1 == 0) && ((z8.2.2.2.1 == ([97, 98] : List UInt8)) && ((z8.2.2.2.2.1 == 0) && ((z8.2.2.2.2.2.1 == ([] : List UInt8)) && ((z8.2.2.2.2.2.2.1 == ([] : List UInt8)) && (z8.2.2.2.2.2.2.2.1 == ([] : List UInt8))))))))))) (d := (some 41)) (k := 9) K rfl K K (by clear H; intro w; simp only [Rh]; go_simp; simp only [Rg, Gs, Di, Rh, Bool.and_true] <;> simp only [Bool.not_and]) ?_
    refine iR 2 12 [(42, (.bool ((z8.1 == 2) && ((z8.2.1 == 3) && ((z8.2.2.1 == 0) && ((z8.2.2.2.1 == ([97, 98] : List UInt8)) && ((z8.2.2.2.2.1 == 0) && ((z8.2.2.2.2.2.1 == ([] : List UInt8)) && ((z8.2.2.2.2.2.2.1 == ([] : List UInt8)) && (z8.2.2.2.2.2.2.2.1 == ([] : List UInt8))))))))))), (43, (.bool ((z8.1 == 2) && ((z8.2.1 == 3) && ((z8.2.2.1 == 0) && ((z8.2.2.2.1 == ([97, 98] : List UInt8)) && ((z8.2.2.2.2.1 == 0) && ((z8.2.2.2.2.2.1 == ([] : List UInt8)) && ((z8.2.2.2.2.2.2.1 == ([] : List UInt8)) && (z8.2.2.2.2.2.2.2.1 == ([] : List UInt8)))))))))))] ?_
    refine In.guard (t := 43) (b := ((z8.1 == 2) && ((z8.2.1 == 3) && ((z8.2.2.1 == 0) && ((z8.2.2.2.1 == ([97, 98] : List UInt8)) && ((z8.2.2.2.2.1 == 0) && ((z8.2.2.2.2.2.1 == ([] : List UInt8)) && ((z8.2.2.2.2.2.2.1 == ([] : List UInt8)) && (z8.2.2.2.2.2.2.2.1 == ([] : List UInt8)))))))))) K (fun b2 => ?_) (fun b2 => ?_)
    ·have H := ct H b2
     refine iR 4 16 [(44, (.bool c.2.2.2.2.2.2.2.2)), (45, (.bool (!c.2.2.2.2.2.2.2.2))), (46, (.bool (!c.2.2.2.2.2.2.2.2))), (47, (.bool (!c.2.2.2.2.2.2.2.2)))] ?_
     refine In.guard (t := 47) (b := (!c.2.2.2.2.2.2.2.2)) K (fun b3 => ?_) (fun b3 => ?_)
     ·have H := ct H b3
      refine iS 17 ?_
      refine sL 55 6 a8 0 4 (.agg #[(.int .i64 0), (.int .i64 2), (.int .i64 0), (.slice (some ⟨m, 0, none⟩) (List.length ([(1, ([97] : List UInt8), true, false), (3, ([] : List UInt8), false, true)] : List (Int × (List UInt8) × Bool × Bool))) (List.length ([(1, ([97] : List UInt8), true, false), (3, ([] : List UInt8), false, true)] : List (Int × (List UInt8) × Bool × Bool))))]) 48 j rfl ?_
      obtain ⟨u, g5, H⟩ := Qa H
      refine iS 18 ?_
      refine cF 37 #[(.tmp 48)] #[55] 49 Tryz.call37 (X0 (some ⟨m, 0, none⟩) (List.length ([(1, ([97] : List UInt8), true, false), (3, ([] : List UInt8), false, true)] : List (Int × (List UInt8) × Bool × Bool))) 0 2 0 ([(1, ([97] : List UInt8), true, false), (3, ([] : List UInt8), false, true)] : List (Int × (List UInt8) × Bool × Bool)) g4 (Qo hL (SP.keeps j)) (Vv (SP.get j (i := 3) rfl)) u g5) ?_
      rintro e g6 ⟨rfl, d3⟩
      refine ⟨_, rfl, ?_⟩
      have o := SP.call j d3
      clear d3
      refine iS 19 ?_
      refine Vq (op := .eql) (T := 9) (T' := 9) (x := (.tmp 49)) (y := (.const (.string ⟨List.toArray ([111, 107, 32, 50, 32, 48, 32, 49, 61, 54, 49, 43, 32, 51, 61, 45, 33] : List UInt8)⟩))) (a := u) (b := ([111, 107, 32, 50, 32, 48, 32, 49, 61, 54, 49, 43, 32, 51, 61, 45, 33] : List UInt8)) (r := (.bool (u == ([111, 107, 32, 50, 32, 48, 32, 49, 61, 54, 49, 43, 32, 51, 61, 45, 33] : List UInt8)))) (d := (some 50)) (k := 18) K rfl K K rfl ?_
      refine iR 2 21 [(51, (.bool (u == ([111, 107, 32, 50, 32, 48, 32, 49, 61, 54, 49, 43, 32, 51, 61, 45, 33] : List UInt8)))), (52, (.bool (u == ([111, 107, 32, 50, 32, 48, 32, 49, 61, 54, 49, 43, 32, 51, 61, 45, 33] : List UInt8))))] ?_
      refine In.guard (t := 52) (b := (u == ([111, 107, 32, 50, 32, 48, 32, 49, 61, 54, 49, 43, 32, 51, 61, 45, 33] : List UInt8))) K (fun b4 => ?_) (fun b4 => ?_)
      ·have H := ct H b4
       refine iR 3 24 [(53, (.bool f.2.2.2.2)), (54, (.bool f.2.2.2.2)), (55, (.bool f.2.2.2.2))] ?_
       refine In.guard (t := 55) (b := f.2.2.2.2) K (fun b5 => ?_) (fun b5 => ?_)
       ·have H := ct H b5
        refine iS 25 ?_
        refine sL 55 7 c9 0 6 (.agg #[(.int .i64 f.1), (.int .i64 f.2.1), (.int .i64 f.2.2.1), (.slice p (List.length f.2.2.2.1) q)]) 56 o rfl ?_
        refine iS 26 ?_
        refine sL 55 6 a8 0 4 (.agg #[(.int .i64 0), (.int .i64 2), (.int .i64 0), (.slice (some ⟨m, 0, none⟩) (List.length ([(1, ([97] : List UInt8), true, false), (3, ([] : List UInt8), false, true)] : List (Int × (List UInt8) × Bool × Bool))) (List.length ([(1, ([97] : List UInt8), true, false), (3, ([] : List UInt8), false, true)] : List (Int × (List UInt8) × Bool × Bool))))]) 57 o rfl ?_
        obtain ⟨a6, g7, H⟩ := Qa H
        refine iS 27 ?_
        refine cF 39 #[(.tmp 56), (.tmp 57)] #[55, 55] 58 Tryz.call39 (V0 p q (some ⟨m, 0, none⟩) (List.length ([(1, ([97] : List UInt8), true, false), (3, ([] : List UInt8), false, true)] : List (Int × (List UInt8) × Bool × Bool))) f.1 f.2.1 f.2.2.1 f.2.2.2.1 0 2 0 ([(1, ([97] : List UInt8), true, false), (3, ([] : List UInt8), false, true)] : List (Int × (List UInt8) × Bool × Bool)) g6 (Vv (SP.get o (i := 5) rfl)) (Vv (SP.get o (i := 3) rfl)) a6 g7) ?_
        rintro e d4 ⟨rfl, d5⟩
        refine ⟨_, rfl, ?_⟩
        have a7 := SP.call o d5
        clear d5
        refine iR 2 29 [(59, (.bool a6)), (60, (.bool a6))] ?_
        refine In.guard (t := 60) (b := a6) K (fun b6 => ?_) (fun b6 => ?_)
        ·have H := ct H b6
         refine iR 4 33 [(61, (.bool h.2.2.2.2)), (62, (.bool (!h.2.2.2.2))), (63, (.bool (!h.2.2.2.2))), (64, (.bool (!h.2.2.2.2)))] ?_
         refine In.guard (t := 64) (b := (!h.2.2.2.2)) K (fun b7 => ?_) (fun b7 => ?_)
         ·have H := ct H b7
          refine iR 1 34 [(65, (.agg #[(.int .i64 3), (.int .i64 0), (.int .i64 0), (.slice none (List.length ([] : List (Int × (List UInt8) × Bool × Bool))) 0)]))] ?_
          obtain ⟨a0, g8, H⟩ := Qa H
          refine iS 35 ?_
          refine cF 37 #[(.tmp 65)] #[55] 66 Tryz.call37 (X0 none 0 3 0 0 ([] : List (Int × (List UInt8) × Bool × Bool)) d4 (Qo hL (SP.keeps a7)) (RdT.nil (Ql (Ub .i64) (Ql Qi (Ql Vb Vb))) d4) a0 g8) ?_
          rintro e g9 ⟨rfl, d6⟩
          refine ⟨_, rfl, ?_⟩
          have b8 := SP.call a7 d6
          clear d6
          refine iS 36 ?_
          refine Vq (op := .eql) (T := 9) (T' := 9) (x := (.tmp 66)) (y := (.const (.string ⟨List.toArray ([101, 114, 114, 32, 51] : List UInt8)⟩))) (a := a0) (b := ([101, 114, 114, 32, 51] : List UInt8)) (r := (.bool (a0 == ([101, 114, 114, 32, 51] : List UInt8)))) (d := (some 67)) (k := 35) K rfl K K rfl ?_
          refine iR 2 38 [(68, (.bool (a0 == ([101, 114, 114, 32, 51] : List UInt8)))), (69, (.bool (a0 == ([101, 114, 114, 32, 51] : List UInt8))))] ?_
          refine In.guard (t := 69) (b := (a0 == ([101, 114, 114, 32, 51] : List UInt8))) K (fun b9 => ?_) (fun b9 => ?_)
          ·have H := ct H b9
           refine iR 1 39 [(70, (.agg #[(.int .i64 0), (.int .i64 0), (.int .u32 0), (.string ⟨List.toArray ([] : List UInt8)⟩), (.int .i64 0), (.string ⟨List.toArray ([] : List UInt8)⟩), (.string ⟨List.toArray ([] : List UInt8)⟩), (.string ⟨List.toArray ([] : List UInt8)⟩)]))] ?_
           obtain ⟨a1, h1, H⟩ := Qa H
           refine iS 40 ?_
           refine cF 35 #[(.tmp 70)] #[52] 71 Tryz.call35 (Yy  0 0 0 ([] : List UInt8) 0 ([] : List UInt8) ([] : List UInt8) ([] : List UInt8) g9 (Qo hL (SP.keeps b8)) a1 h1) ?_
           rintro e h2 ⟨rfl, d7⟩
           refine ⟨_, rfl, ?_⟩
           have c0 := SP.call b8 d7
           clear d7
           refine iS 41 ?_
           refine Vq (op := .eql) (T := 9) (T' := 9) (x := (.tmp 71)) (y := (.const (.string ⟨List.toArray ([] : List UInt8)⟩))) (a := a1) (b := ([] : List UInt8)) (r := (.bool (a1 == ([] : List UInt8)))) (d := (some 72)) (k := 40) K rfl K K rfl ?_
           refine iR 2 43 [(73, (.bool (a1 == ([] : List UInt8)))), (74, (.bool (a1 == ([] : List UInt8))))] ?_
           refine In.guard (t := 74) (b := (a1 == ([] : List UInt8))) K (fun c1 => ?_) (fun c1 => ?_)
           ·have H := ct H c1
            refine iR 1 44 [(75, (.agg #[(.int .i64 9), (.int .i64 0), (.int .u32 0), (.string ⟨List.toArray ([] : List UInt8)⟩), (.int .i64 0), (.string ⟨List.toArray ([] : List UInt8)⟩), (.string ⟨List.toArray ([] : List UInt8)⟩), (.string ⟨List.toArray ([] : List UInt8)⟩)]))] ?_
            obtain ⟨a2, h3, H⟩ := Qa H
            refine iS 45 ?_
            refine cF 35 #[(.tmp 75)] #[52] 76 Tryz.call35 (Yy  9 0 0 ([] : List UInt8) 0 ([] : List UInt8) ([] : List UInt8) ([] : List UInt8) h2 (Qo hL (SP.keeps c0)) a2 h3) ?_
            rintro e i7 ⟨rfl, d8⟩
            refine ⟨_, rfl, ?_⟩
            have h4 := SP.call c0 d8
            clear d8
            refine iS 46 ?_
            refine Vq (op := .eql) (T := 9) (T' := 9) (x := (.tmp 76)) (y := (.const (.string ⟨List.toArray ([100, 114, 97, 105, 110] : List UInt8)⟩))) (a := a2) (b := ([100, 114, 97, 105, 110] : List UInt8)) (r := (.bool (a2 == ([100, 114, 97, 105, 110] : List UInt8)))) (d := (some 77)) (k := 45) K rfl K K rfl ?_
            refine iR 2 48 [(78, (.bool (a2 == ([100, 114, 97, 105, 110] : List UInt8)))), (0, (.bool (a2 == ([100, 114, 97, 105, 110] : List UInt8))))] ?_
            refine iF ?_
            exact ⟨(a2 == ([100, 114, 97, 105, 110] : List UInt8)), ⟨K, trivial⟩, SP.sel h4 [] rfl rfl, H⟩
           ·have H := cf H c1
            refine iR 5 48 [(75, undef), (76, undef), (77, undef), (78, (.bool false)), (0, (.bool false))] ?_
            refine iF ?_
            exact ⟨false, ⟨K, trivial⟩, SP.sel c0 [] rfl rfl, H⟩
          ·have H := cf H b9
           refine iR 10 48 [(70, undef), (71, undef), (72, undef), (73, (.bool false)), (74, (.bool false)), (75, undef), (76, undef), (77, undef), (78, (.bool false)), (0, (.bool false))] ?_
           refine iF ?_
           exact ⟨false, ⟨K, trivial⟩, SP.sel b8 [] rfl rfl, H⟩
         ·have H := cf H b7
          refine iR 15 48 [(65, undef), (66, undef), (67, undef), (68, (.bool false)), (69, (.bool false)), (70, undef), (71, undef), (72, undef), (73, (.bool false)), (74, (.bool false)), (75, undef), (76, undef), (77, undef), (78, (.bool false)), (0, (.bool false))] ?_
          refine iF ?_
          exact ⟨false, ⟨K, trivial⟩, SP.sel a7 [] rfl rfl, H⟩
        ·have H := cf H b6
         refine iR 19 48 [(61, undef), (62, undef), (63, (.bool false)), (64, (.bool false)), (65, undef), (66, undef), (67, undef), (68, (.bool false)), (69, (.bool false)), (70, undef), (71, undef), (72, undef), (73, (.bool false)), (74, (.bool false)), (75, undef), (76, undef), (77, undef), (78, (.bool false)), (0, (.bool false))] ?_
         refine iF ?_
         exact ⟨false, ⟨K, trivial⟩, SP.sel a7 [] rfl rfl, H⟩
       ·have H := cf H b5
        refine iR 24 48 [(56, undef), (57, undef), (58, undef), (59, (.bool false)), (60, (.bool false)), (61, undef), (62, undef), (63, (.bool false)), (64, (.bool false)), (65, undef), (66, undef), (67, undef), (68, (.bool false)), (69, (.bool false)), (70, undef), (71, undef), (72, undef), (73, (.bool false)), (74, (.bool false)), (75, undef), (76, undef), (77, undef), (78, (.bool false)), (0, (.bool false))] ?_
        refine iF ?_
        exact ⟨false, ⟨K, trivial⟩, SP.sel o [] rfl rfl, H⟩
      ·have H := cf H b4
       refine iR 27 48 [(53, undef), (54, (.bool false)), (55, (.bool false)), (56, undef), (57, undef), (58, undef), (59, (.bool false)), (60, (.bool false)), (61, undef), (62, undef), (63, (.bool false)), (64, (.bool false)), (65, undef), (66, undef), (67, undef), (68, (.bool false)), (69, (.bool false)), (70, undef), (71, undef), (72, undef), (73, (.bool false)), (74, (.bool false)), (75, undef), (76, undef), (77, undef), (78, (.bool false)), (0, (.bool false))] ?_
       refine iF ?_
       exact ⟨false, ⟨K, trivial⟩, SP.sel o [] rfl rfl, H⟩
     ·have H := cf H b3
      refine iR 32 48 [(48, undef), (49, undef), (50, undef), (51, (.bool false)), (52, (.bool false)), (53, undef), (54, (.bool false)), (55, (.bool false)), (56, undef), (57, undef), (58, undef), (59, (.bool false)), (60, (.bool false)), (61, undef), (62, undef), (63, (.bool false)), (64, (.bool false)), (65, undef), (66, undef), (67, undef), (68, (.bool false)), (69, (.bool false)), (70, undef), (71, undef), (72, undef), (73, (.bool false)), (74, (.bool false)), (75, undef), (76, undef), (77, undef), (78, (.bool false)), (0, (.bool false))] ?_
      refine iF ?_
      exact ⟨false, ⟨K, trivial⟩, SP.sel j [] rfl rfl, H⟩
    ·have H := cf H b2
     refine iR 36 48 [(44, undef), (45, undef), (46, (.bool false)), (47, (.bool false)), (48, undef), (49, undef), (50, undef), (51, (.bool false)), (52, (.bool false)), (53, undef), (54, (.bool false)), (55, (.bool false)), (56, undef), (57, undef), (58, undef), (59, (.bool false)), (60, (.bool false)), (61, undef), (62, undef), (63, (.bool false)), (64, (.bool false)), (65, undef), (66, undef), (67, undef), (68, (.bool false)), (69, (.bool false)), (70, undef), (71, undef), (72, undef), (73, (.bool false)), (74, (.bool false)), (75, undef), (76, undef), (77, undef), (78, (.bool false)), (0, (.bool false))] ?_
     refine iF ?_
     exact ⟨false, ⟨K, trivial⟩, SP.sel j [] rfl rfl, H⟩
   ·have H := cf H b1
    refine iR 41 48 [(39, undef), (40, undef), (41, undef), (42, (.bool false)), (43, (.bool false)), (44, undef), (45, undef), (46, (.bool false)), (47, (.bool false)), (48, undef), (49, undef), (50, undef), (51, (.bool false)), (52, (.bool false)), (53, undef), (54, (.bool false)), (55, (.bool false)), (56, undef), (57, undef), (58, undef), (59, (.bool false)), (60, (.bool false)), (61, undef), (62, undef), (63, (.bool false)), (64, (.bool false)), (65, undef), (66, undef), (67, undef), (68, (.bool false)), (69, (.bool false)), (70, undef), (71, undef), (72, undef), (73, (.bool false)), (74, (.bool false)), (75, undef), (76, undef), (77, undef), (78, (.bool false)), (0, (.bool false))] ?_
    refine iF ?_
    exact ⟨false, ⟨K, trivial⟩, SP.sel j [] rfl rfl, H⟩
  ·have H := cf H b0
   refine iR 44 48 [(36, undef), (37, (.bool false)), (38, (.bool false)), (39, undef), (40, undef), (41, undef), (42, (.bool false)), (43, (.bool false)), (44, undef), (45, undef), (46, (.bool false)), (47, (.bool false)), (48, undef), (49, undef), (50, undef), (51, (.bool false)), (52, (.bool false)), (53, undef), (54, (.bool false)), (55, (.bool false)), (56, undef), (57, undef), (58, undef), (59, (.bool false)), (60, (.bool false)), (61, undef), (62, undef), (63, (.bool false)), (64, (.bool false)), (65, undef), (66, undef), (67, undef), (68, (.bool false)), (69, (.bool false)), (70, undef), (71, undef), (72, undef), (73, (.bool false)), (74, (.bool false)), (75, undef), (76, undef), (77, undef), (78, (.bool false)), (0, (.bool false))] ?_
   refine iF ?_
   exact ⟨false, ⟨K, trivial⟩, SP.sel j [] rfl rfl, H⟩
 ·rintro ρ i8 ⟨s, hk, h5, H⟩
  unfold Qk at H
  first | refine At.known [(0, (.bool s))] hk ?_ | rw [← Qj (l := [(0, (.bool s))]) hk]
  refine At.ret K ?_
  refine ⟨(.bool s), K, ?_⟩
  obtain rfl := Qc H
  exact ⟨rfl, SP.sel h5 [] rfl rfl⟩
def Vd (d : Int → Int → Option (Bool)) (e : (List (Int × (List UInt8) × Bool × Bool))) (a : Int) (b : Int) (f : Bool) : Option (Bool) :=
  (cond f ((idx e b).bind fun c => (d (IntKind.wrap .i64 (a + (if 9000 < ((List.length c.2.1 : Nat) : Int) then 9000 else ((List.length c.2.1 : Nat) : Int)))) (IntKind.wrap .i64 (b + 1)))) (some ((decide (a ≥ 9000)))))
def Q3 (d : Int → Int → Option (Bool)) (a : (List (Int × (List UInt8) × Bool × Bool))) (b : Int) (c : Int) : Option (Bool) :=
  (cond (decide (c < ((List.length a : Nat) : Int))) (Vd d a b c (decide (b < 9000))) (Vd d a b c false))
def Qx (a : (List (Int × (List UInt8) × Bool × Bool))) : Nat → Int → Int → Option (Bool)
  | 0, _, _ => none
  | f + 1, b, c => Q3  (Qx a f) a b c
def Zz (b : Int) (c : Int) (d : Int) (a : (List (Int × (List UInt8) × Bool × Bool))) : Option (Bool) :=
  (Qx a Ye ((List.length a : Nat) : Int) 0)
set_option maxHeartbeats 40000000 in
theorem J9 (A5 : Option Addr) (c6 : Nat) (m : Int) (p : Int) (q : Int) (a : (List (Int × (List UInt8) × Bool × Bool))) (w0 : World) (a0 : RdT (Ql (Ub .i64) (Ql Qi (Ql Vb Vb))) w0 A5 c6 a) (r : (Bool)) (H : Zz m p q a = some r) :
  Calls Tryz.prog 30 #[(.agg #[(.int .i64 m), (.int .i64 p), (.int .i64 q), (.slice A5 (List.length a) c6)])] w0 (fun e w' => e = .returned (.bool r) ∧ SP [] w0 w' []) := by
 unfold Zz at H
 refine Qg (n := 31) Tryz.func30 K K K ?_
 have a6 := Vc [] w0
 refine aQ ?_
 refine aR ?_
 refine iS 1 ?_
 refine V9 (t := 55) (x := (.tmp 0)) (v := (.agg #[(.int .i64 m), (.int .i64 p), (.int .i64 q), (.slice A5 (List.length a) c6)])) (d := (some 1)) (k := 0) K rfl K a6 ?_
 intro g8 w9 a1
 refine iR 1 2 [(2, (.bool false))] ?_
 refine iF ?_
 refine aQ ?_
 refine aR ?_
 refine iR 1 1 [(5, (pt g8 3))] ?_
 refine iS 2 ?_
 refine sL 53 5 g8 3 0 (.slice A5 (List.length a) c6) 6 a1 rfl ?_
 refine iR 2 4 [(7, (.int .i64 ((List.length a : Nat) : Int))), (3, (.int .i64 ((List.length a : Nat) : Int)))] ?_
 refine iF ?_
 refine aQ ?_
 refine aQ ?_
 refine aR ?_
 refine iR 1 1 [(4, (.int .i64 0))] ?_
 refine iF ?_
 refine Um K (id := 0) K ?_
 refine D0 K (fun f3 ρ w => ∃ (f : Int) (g : Int), V1 ρ [(1, (pt g8 0)), (3, (.int .i64 f)), (4, (.int .i64 g))] ∧ SP [] w0 w [Qf g8 55 #[(.int .i64 m), (.int .i64 p), (.int .i64 q), (.slice A5 (List.length a) c6)]] ∧ Qx a f3 f g = some r) (by rintro ρ w ⟨f, g, hk, hs, H⟩; cases H) ?_ Ye ?_
 ·rintro f3 ρ a9 ⟨f, g, hk, u, H⟩
  refine At.known [(1, (pt g8 0)), (3, (.int .i64 f)), (4, (.int .i64 g))] hk ?_
  replace H := (show Q3 (Qx a f3) a f g = some r from H)
  unfold Q3 at H
  refine aQ ?_
  refine aQ ?_
  refine At.join (fun ρ w => ∃ (i : Bool), V1 ρ [(1, (pt g8 0)), (3, (.int .i64 f)), (4, (.int .i64 g)), (16, (.bool i))] ∧ SP [] w0 w [Qf g8 55 #[(.int .i64 m), (.int .i64 p), (.int .i64 q), (.slice A5 (List.length a) c6)]] ∧ Vd (Qx a f3) a f g i = some r) ?_ ?_
  ·refine aR ?_
   refine iR 2 2 [(8, (.int .i64 g)), (9, (pt g8 3))] ?_
   refine iS 3 ?_
   refine sL 53 9 g8 3 0 (.slice A5 (List.length a) c6) 10 u rfl ?_
   refine iR 3 6 [(11, (.int .i64 ((List.length a : Nat) : Int))), (12, (.bool (decide (g < ((List.length a : Nat) : Int))))), (13, (.bool (decide (g < ((List.length a : Nat) : Int)))))] ?_
   refine In.guard (t := 13) (b := (decide (g < ((List.length a : Nat) : Int)))) K (fun y => ?_) (fun y => ?_)
   ·have H := ct H y
    refine iR 3 9 [(14, (.int .i64 f)), (15, (.bool (decide (f < 9000)))), (16, (.bool (decide (f < 9000))))] ?_
    refine iF ?_
    exact ⟨(decide (f < 9000)), ⟨K, K, K, K, trivial⟩, SP.sel u [0] rfl rfl, H⟩
   ·have H := cf H y
    refine iR 3 9 [(14, undef), (15, undef), (16, (.bool false))] ?_
    refine iF ?_
    exact ⟨false, ⟨K, K, K, K, trivial⟩, SP.sel u [0] rfl rfl, H⟩
  ·rintro ρ b0 ⟨i, hk, s, H⟩
   unfold Vd at H
   first | refine At.known [(1, (pt g8 0)), (3, (.int .i64 f)), (4, (.int .i64 g)), (16, (.bool i))] hk ?_ | rw [← Qj (l := [(1, (pt g8 0)), (3, (.int .i64 f)), (4, (.int .i64 g)), (16, (.bool i))]) hk]
   refine Xe K (o := (.tmp 16)) K (b := i) K (fun z => ?_) (fun z => ?_)
   ·have H := ct H z
    refine At.skip K ?_
    refine aQ ?_
    refine Um K (id := 1) K ?_
    refine aR ?_
    refine iR 2 2 [(19, (.int .i64 f)), (20, (pt g8 3))] ?_
    refine iS 3 ?_
    refine sL 53 20 g8 3 0 (.slice A5 (List.length a) c6) 21 s rfl ?_
    refine iR 1 4 [(22, (.int .i64 g))] ?_
    obtain ⟨h, a2, a3, a7, H⟩ := Zy H
    refine iS 5 ?_
    refine Xf (e := (Ql (Ub .i64) (Ql Qi (Ql Vb Vb)))) (l := a) (A := A5) (c := c6) (T := 53) (E := 108) (x := (.tmp 21)) (ix := (.tmp 22)) (ki := .i64) (iz := g) (d := (some 23)) (k := 4) K rfl K K K K (RdT.sp a0 s) a2 a3 ?_
    intro a4 a5 a8 b1 hc59
    refine iR 1 6 [(24, (.pointer (some ⟨a4, (a5 + Int.toNat g * (Ql (Ub .i64) (Ql Qi (Ql Vb Vb))).sz + 1), none⟩)))] ?_
    refine iS 7 ?_
    refine sC 9 24 a4 (a5 + Int.toNat g * (Ql (Ub .i64) (Ql Qi (Ql Vb Vb))).sz + 1) (.string ⟨List.toArray h.2.1⟩) 25 (Ut (e := (Ql (Ub .i64) (Ql Qi (Ql Vb Vb)))) (Jj (RdT.sp a0 s) a8 a2 a3) a7 (j := 1) rfl) ?_
    refine iR 4 11 [(26, (.int .i64 ((List.length h.2.1 : Nat) : Int))), (27, (.int .i64 (if 9000 < ((List.length h.2.1 : Nat) : Int) then 9000 else ((List.length h.2.1 : Nat) : Int)))), (28, (.int .i64 (IntKind.wrap .i64 (f + (if 9000 < ((List.length h.2.1 : Nat) : Int) then 9000 else ((List.length h.2.1 : Nat) : Int)))))), (3, (.int .i64 (IntKind.wrap .i64 (f + (if 9000 < ((List.length h.2.1 : Nat) : Int) then 9000 else ((List.length h.2.1 : Nat) : Int))))))] ?_
    refine iF ?_
    refine aR ?_
    refine iR 3 3 [(17, (.int .i64 g)), (18, (.int .i64 (IntKind.wrap .i64 (g + 1)))), (4, (.int .i64 (IntKind.wrap .i64 (g + 1))))] ?_
    refine iF ?_
    exact ⟨(IntKind.wrap .i64 (f + (if 9000 < ((List.length h.2.1 : Nat) : Int) then 9000 else ((List.length h.2.1 : Nat) : Int)))), (IntKind.wrap .i64 (g + 1)), ⟨K, K, K, trivial⟩, SP.sel s [0] rfl rfl, H⟩
   ·have H := cf H z
    refine At.exit K (id := 0) K ?_
    refine aQ ?_
    refine aR ?_
    refine iR 3 3 [(29, (.int .i64 f)), (30, (.bool (decide (f ≥ 9000)))), (2, (.bool (decide (f ≥ 9000))))] ?_
    refine iF ?_
    refine At.ret K ?_
    refine ⟨(.bool (decide (f ≥ 9000))), K, ?_⟩
    obtain rfl := Qc H
    exact ⟨rfl, SP.sel s [] rfl rfl⟩
 ·exact ⟨((List.length a : Nat) : Int), 0, ⟨K, K, K, trivial⟩, SP.sel a1 [0] rfl rfl, H⟩
end Go.Proofs.YtoflbpmbkmephaaGreatDoor
namespace Go.Proofs.YtoflbpmbkmephaaGreatDoor
open Go.RowKit
def Qu (a : Bool) : Option (Bool) :=
  (some (a))
def Va (p8 : (List UInt8)) (b : (Bool)) : Option (Bool) :=
  ((Z7 p8).bind fun a => (cond b (cond a.2.2.2.2 ((Z6 a.1 a.2.1 a.2.2.1 a.2.2.2.1).bind fun c => (cond (c == p8) (Qu true) (cond (!a.2.2.2.2) ((Q1 a.1 a.2.1 a.2.2.1 a.2.2.2.1 0 0 0 ([] : List (Int × (List UInt8) × Bool × Bool))).bind fun d => (Qu d)) (Qu false)))) (cond (!a.2.2.2.2) ((Q1 a.1 a.2.1 a.2.2.1 a.2.2.2.1 0 0 0 ([] : List (Int × (List UInt8) × Bool × Bool))).bind fun e => (Qu e)) (Qu false))) (Qu false)))
def Vw (p8 : (List UInt8)) (a : (Bool)) (b : Bool) : Option (Bool) :=
  (cond b (some (false)) (Va p8 a))
def Vh (c : Int) (d : Int) (e : Int) (f : (List (Int × (List UInt8) × Bool × Bool))) (p8 : (List UInt8)) (b : (Bool)) (h : Bool) : Option (Bool) :=
  (cond h (some (b)) ((Z6 c d e f).bind fun g => (cond (!(g == ([] : List UInt8))) ((Z7 g).bind fun a => (cond (!a.2.2.2.2) (Vw p8 b true) ((Q1 a.1 a.2.1 a.2.2.1 a.2.2.2.1 c d e f).bind fun i => (Vw p8 b (!i))))) (Va p8 b))))
def Za (a : Int) (b : Int) (c : Int) (d : (List (Int × (List UInt8) × Bool × Bool))) (p8 : (List UInt8)) : Option (Bool) :=
  ((X2 ).bind fun e => ((Zz a b c d).bind fun f => (cond f (Vh a b c d p8 e true) (Vh a b c d p8 e (decide (((List.length p8 : Nat) : Int) > 9000))))))
set_option maxHeartbeats 40000000 in
theorem Jy (A5 : Option Addr) (c6 : Nat) (m : Int) (p : Int) (q : Int) (j : (List (Int × (List UInt8) × Bool × Bool))) (p8 : (List UInt8)) (w0 : World) (hL : X8 w0) (b5 : RdT (Ql (Ub .i64) (Ql Qi (Ql Vb Vb))) w0 A5 c6 j) (r : (Bool)) (H : Za m p q j p8 = some r) :
  Calls Tryz.prog 11 #[(.agg #[(.int .i64 m), (.int .i64 p), (.int .i64 q), (.slice A5 (List.length j) c6)]), (.string ⟨List.toArray p8⟩)] w0 (fun e w' => e = .returned (.bool r) ∧ SP [] w0 w' []) := by
 unfold Za at H
 refine Qg (n := 61) Tryz.func11 K K K ?_
 have e6 := Vc [] w0
 refine aQ ?_
 refine aR ?_
 refine iS 1 ?_
 refine V9 (t := 55) (x := (.tmp 0)) (v := (.agg #[(.int .i64 m), (.int .i64 p), (.int .i64 q), (.slice A5 (List.length j) c6)])) (d := (some 2)) (k := 0) K rfl K e6 ?_
 intro g9 e7 d1
 refine iR 1 2 [(4, (.bool false))] ?_
 refine iF ?_
 refine aQ ?_
 refine aR ?_
 obtain ⟨h, e8, H⟩ := Qa H
 refine iS 1 ?_
 refine cF 28 #[] #[] 11 Tryz.call28 (Nf   e7 (Qo hL (SP.keeps d1)) h e8) ?_
 rintro e e9 ⟨rfl, d2⟩
 refine ⟨_, rfl, ?_⟩
 have b6 := SP.call d1 d2
 clear d2
 refine iR 1 2 [(5, (.bool h))] ?_
 refine iF ?_
 refine aQ ?_
 refine aQ ?_
 refine At.join (fun ρ w => ∃ (a2 : Bool), V1 ρ [(1, (.string ⟨List.toArray p8⟩)), (2, (pt g9 0)), (5, (.bool h)), (18, (.bool a2))] ∧ SP [] w0 w [Qf g9 55 #[(.int .i64 m), (.int .i64 p), (.int .i64 q), (.slice A5 (List.length j) c6)]] ∧ Vh m p q j p8 h a2 = some r) ?_ ?_
 ·refine aR ?_
  refine iS 1 ?_
  refine sL 55 2 g9 0 0 (.agg #[(.int .i64 m), (.int .i64 p), (.int .i64 q), (.slice A5 (List.length j) c6)]) 12 b6 rfl ?_
  obtain ⟨b7, f0, H⟩ := Qa H
  refine iS 2 ?_
  refine cF 30 #[(.tmp 12)] #[55] 13 Tryz.call30 (J9 A5 c6 m p q j e9 (RdT.sp b5 b6) b7 f0) ?_
  rintro e h1 ⟨rfl, d3⟩
  refine ⟨_, rfl, ?_⟩
  have d4 := SP.call b6 d3
  clear d3
  refine iR 1 3 [(14, (.bool b7))] ?_
  refine In.guard (t := 14) (b := b7) K (fun b8 => ?_) (fun b8 => ?_)
  ·have H := ct H b8
   refine iR 4 7 [(15, undef), (16, undef), (17, undef), (18, (.bool true))] ?_
   refine iF ?_
   exact ⟨true, ⟨K, K, K, K, trivial⟩, SP.sel d4 [0] rfl rfl, H⟩
  ·have H := cf H b8
   refine iR 4 7 [(15, (.string ⟨List.toArray p8⟩)), (16, (.int .i64 ((List.length p8 : Nat) : Int))), (17, (.bool (decide (((List.length p8 : Nat) : Int) > 9000)))), (18, (.bool (decide (((List.length p8 : Nat) : Int) > 9000))))] ?_
   refine iF ?_
   exact ⟨(decide (((List.length p8 : Nat) : Int) > 9000)), ⟨K, K, K, K, trivial⟩, SP.sel d4 [0] rfl rfl, H⟩
 ·rintro ρ f1 ⟨a2, hk, b1, H⟩
  unfold Vh at H
  first | refine At.known [(1, (.string ⟨List.toArray p8⟩)), (2, (pt g9 0)), (5, (.bool h)), (18, (.bool a2))] hk ?_ | rw [← Qj (l := [(1, (.string ⟨List.toArray p8⟩)), (2, (pt g9 0)), (5, (.bool h)), (18, (.bool a2))]) hk]
  refine Xe K (o := (.tmp 18)) K (b := a2) K (fun b9 => ?_) (fun b9 => ?_)
  ·have H := ct H b9
   refine aQ ?_
   refine aR ?_
   refine iR 2 2 [(19, (.bool h)), (4, (.bool h))] ?_
   refine iF ?_
   refine At.ret K ?_
   refine ⟨(.bool h), K, ?_⟩
   obtain rfl := Qc H
   exact ⟨rfl, SP.sel b1 [] rfl rfl⟩
  ·have H := cf H b9
   refine At.skip K ?_
   refine aQ ?_
   refine aR ?_
   refine iS 1 ?_
   refine sL 55 2 g9 0 0 (.agg #[(.int .i64 m), (.int .i64 p), (.int .i64 q), (.slice A5 (List.length j) c6)]) 20 b1 rfl ?_
   obtain ⟨a1, f2, H⟩ := Qa H
   refine iS 2 ?_
   refine cF 37 #[(.tmp 20)] #[55] 21 Tryz.call37 (X0 A5 c6 m p q j f1 (Qo hL (SP.keeps b1)) (RdT.sp b5 b1) a1 f2) ?_
   rintro e w32 ⟨rfl, d5⟩
   refine ⟨_, rfl, ?_⟩
   have c0 := SP.call b1 d5
   clear d5
   refine iR 1 3 [(6, (.string ⟨List.toArray a1⟩))] ?_
   refine iF ?_
   refine aQ ?_
   refine aQ ?_
   refine aR ?_
   refine iR 1 1 [(22, (.string ⟨List.toArray a1⟩))] ?_
   refine iS 2 ?_
   refine Vq (op := .neq) (T := 9) (T' := 9) (x := (.tmp 22)) (y := (.const (.string ⟨List.toArray ([] : List UInt8)⟩))) (a := a1) (b := ([] : List UInt8)) (r := (.bool (!(a1 == ([] : List UInt8))))) (d := (some 23)) (k := 1) K rfl K K rfl ?_
   refine iF ?_
   refine At.join (fun ρ w => V1 ρ [(1, (.string ⟨List.toArray p8⟩)), (5, (.bool h))] ∧ SP [] w0 w [] ∧ Va p8 h = some r) ?_ ?_
   ·refine Xe K (o := (.tmp 23)) K (b := (!(a1 == ([] : List UInt8)))) K (fun c1 => ?_) (fun c1 => ?_)
    ·have H := ct H c1
     refine aQ ?_
     refine aR ?_
     refine iR 1 1 [(25, (.string ⟨List.toArray a1⟩))] ?_
     obtain ⟨f, f3, H⟩ := Qa H
     refine iS 2 ?_
     refine cF 33 #[(.tmp 25)] #[9] 26 Tryz.call33 (X1  a1 w32 (Qo hL (SP.keeps c0)) f f3) ?_
     rintro e h2 ⟨a3, a4, rfl, d6⟩
     refine ⟨_, rfl, ?_⟩
     have f4 := SP.call c0 d6
     clear d6
     refine iR 3 5 [(24, (.tuple #[(.agg #[(.int .i64 f.1), (.int .i64 f.2.1), (.int .i64 f.2.2.1), (.slice a3 (List.length f.2.2.2.1) a4)]), (.bool f.2.2.2.2)])), (27, (.agg #[(.int .i64 f.1), (.int .i64 f.2.1), (.int .i64 f.2.2.1), (.slice a3 (List.length f.2.2.2.1) a4)])), (28, (.bool f.2.2.2.2))] ?_
     refine iS 6 ?_
     refine Qd.alloc (t := 55) (z := (.agg #[(.int .i64 0), (.int .i64 0), (.int .i64 0), (.slice none (List.length ([] : List (Int × (List UInt8) × Bool × Bool))) 0)])) (d := (some 7)) (k := 5) K rfl K f4 ?_
     intro d7 h3 f5
     refine iS 7 ?_
     refine Qd.store (t := 55) (x := (.tmp 7)) (y := (.tmp 27)) (g := d7) (off := 0) (i := 2) (v := (.agg #[(.int .i64 f.1), (.int .i64 f.2.1), (.int .i64 f.2.2.1), (.slice a3 (List.length f.2.2.2.1) a4)])) (cs' := #[(.int .i64 f.1), (.int .i64 f.2.1), (.int .i64 f.2.2.1), (.slice a3 (List.length f.2.2.2.1) a4)]) (d := none) (k := 6) K rfl K K f5 rfl K ?_
     intro f6 a5
     refine iR 1 8 [(8, (.bool f.2.2.2.2))] ?_
     refine iF ?_
     refine aQ ?_
     refine At.join (fun ρ w => ∃ (a6 : Bool), V1 ρ [(1, (.string ⟨List.toArray p8⟩)), (5, (.bool h)), (36, (.bool a6))] ∧ SP [] w0 w [] ∧ Vw p8 h a6 = some r) ?_ ?_
     ·refine aR ?_
      refine iR 3 3 [(29, (.bool f.2.2.2.2)), (30, (.bool (!f.2.2.2.2))), (31, (.bool (!f.2.2.2.2)))] ?_
      refine In.guard (t := 31) (b := (!f.2.2.2.2)) K (fun c2 => ?_) (fun c2 => ?_)
      ·have H := ct H c2
       refine iR 5 8 [(32, undef), (33, undef), (34, undef), (35, undef), (36, (.bool true))] ?_
       refine iF ?_
       exact ⟨true, ⟨K, K, K, trivial⟩, SP.sel a5 [] rfl rfl, H⟩
      ·have H := cf H c2
       refine iS 4 ?_
       refine sL 55 7 d7 0 2 (.agg #[(.int .i64 f.1), (.int .i64 f.2.1), (.int .i64 f.2.2.1), (.slice a3 (List.length f.2.2.2.1) a4)]) 32 a5 rfl ?_
       refine iS 5 ?_
       refine sL 55 2 g9 0 0 (.agg #[(.int .i64 m), (.int .i64 p), (.int .i64 q), (.slice A5 (List.length j) c6)]) 33 a5 rfl ?_
       obtain ⟨b3, f7, H⟩ := Qa H
       refine iS 6 ?_
       refine cF 39 #[(.tmp 32), (.tmp 33)] #[55, 55] 34 Tryz.call39 (V0 a3 a4 A5 c6 f.1 f.2.1 f.2.2.1 f.2.2.2.1 m p q j f6 (Vv (SP.get a5 (i := 1) rfl)) (RdT.sp b5 a5) b3 f7) ?_
       rintro e h4 ⟨rfl, d8⟩
       refine ⟨_, rfl, ?_⟩
       have f8 := SP.call a5 d8
       clear d8
       refine iR 2 8 [(35, (.bool (!b3))), (36, (.bool (!b3)))] ?_
       refine iF ?_
       exact ⟨(!b3), ⟨K, K, K, trivial⟩, SP.sel f8 [] rfl rfl, H⟩
     ·rintro ρ h5 ⟨a6, hk, d9, H⟩
      unfold Vw at H
      first | refine At.known [(1, (.string ⟨List.toArray p8⟩)), (5, (.bool h)), (36, (.bool a6))] hk ?_ | rw [← Qj (l := [(1, (.string ⟨List.toArray p8⟩)), (5, (.bool h)), (36, (.bool a6))]) hk]
      refine Xe K (o := (.tmp 36)) K (b := a6) K (fun c3 => ?_) (fun c3 => ?_)
      ·have H := ct H c3
       refine aQ ?_
       refine aR ?_
       refine iR 1 1 [(4, (.bool false))] ?_
       refine iF ?_
       refine At.ret K ?_
       refine ⟨(.bool false), K, ?_⟩
       obtain rfl := Qc H
       exact ⟨rfl, SP.sel d9 [] rfl rfl⟩
      ·have H := cf H c3
       refine At.skip K ?_
       exact ⟨⟨K, K, trivial⟩, SP.sel d9 [] rfl rfl, H⟩
    ·have H := cf H c1
     refine At.skip K ?_
     exact ⟨⟨K, K, trivial⟩, SP.sel c0 [] rfl rfl, H⟩
   ·rintro ρ f9 ⟨hk, e0, H⟩
    unfold Va at H
    first | refine At.known [(1, (.string ⟨List.toArray p8⟩)), (5, (.bool h))] hk ?_ | rw [← Qj (l := [(1, (.string ⟨List.toArray p8⟩)), (5, (.bool h))]) hk]
    refine aQ ?_
    refine aR ?_
    refine iR 1 1 [(38, (.string ⟨List.toArray p8⟩))] ?_
    obtain ⟨c, g0, H⟩ := Qa H
    refine iS 2 ?_
    refine cF 33 #[(.tmp 38)] #[9] 39 Tryz.call33 (X1  p8 f9 (Qo hL (SP.keeps e0)) c g0) ?_
    rintro e h6 ⟨s, u, rfl, e1⟩
    refine ⟨_, rfl, ?_⟩
    have g1 := SP.call e0 e1
    clear e1
    refine iR 3 5 [(37, (.tuple #[(.agg #[(.int .i64 c.1), (.int .i64 c.2.1), (.int .i64 c.2.2.1), (.slice s (List.length c.2.2.2.1) u)]), (.bool c.2.2.2.2)])), (40, (.agg #[(.int .i64 c.1), (.int .i64 c.2.1), (.int .i64 c.2.2.1), (.slice s (List.length c.2.2.2.1) u)])), (41, (.bool c.2.2.2.2))] ?_
    refine iS 6 ?_
    refine Qd.alloc (t := 55) (z := (.agg #[(.int .i64 0), (.int .i64 0), (.int .i64 0), (.slice none (List.length ([] : List (Int × (List UInt8) × Bool × Bool))) 0)])) (d := (some 9)) (k := 5) K rfl K g1 ?_
    intro b4 h7 g2
    refine iS 7 ?_
    refine Qd.store (t := 55) (x := (.tmp 9)) (y := (.tmp 40)) (g := b4) (off := 0) (i := 1) (v := (.agg #[(.int .i64 c.1), (.int .i64 c.2.1), (.int .i64 c.2.2.1), (.slice s (List.length c.2.2.2.1) u)])) (cs' := #[(.int .i64 c.1), (.int .i64 c.2.1), (.int .i64 c.2.2.1), (.slice s (List.length c.2.2.2.1) u)]) (d := none) (k := 6) K rfl K K g2 rfl K ?_
    intro c4 a0
    refine iR 1 8 [(10, (.bool c.2.2.2.2))] ?_
    refine iF ?_
    refine aQ ?_
    refine At.join (fun ρ w => ∃ (a7 : Bool), V1 ρ [(4, (.bool a7))] ∧ SP [] w0 w [] ∧ Qu a7 = some r) ?_ ?_
    ·refine aR ?_
     refine iR 2 2 [(42, (.bool h)), (43, (.bool h))] ?_
     refine In.guard (t := 43) (b := h) K (fun c5 => ?_) (fun c5 => ?_)
     ·have H := ct H c5
      refine iR 2 4 [(44, (.bool c.2.2.2.2)), (45, (.bool c.2.2.2.2))] ?_
      refine In.guard (t := 45) (b := c.2.2.2.2) K (fun c7 => ?_) (fun c7 => ?_)
      ·have H := ct H c7
       refine iS 5 ?_
       refine sL 55 9 b4 0 1 (.agg #[(.int .i64 c.1), (.int .i64 c.2.1), (.int .i64 c.2.2.1), (.slice s (List.length c.2.2.2.1) u)]) 46 a0 rfl ?_
       obtain ⟨a8, g3, H⟩ := Qa H
       refine iS 6 ?_
       refine cF 37 #[(.tmp 46)] #[55] 47 Tryz.call37 (X0 s u c.1 c.2.1 c.2.2.1 c.2.2.2.1 c4 (Qo hL (SP.keeps a0)) (Vv (SP.get a0 (i := 0) rfl)) a8 g3) ?_
       rintro e e2 ⟨rfl, e3⟩
       refine ⟨_, rfl, ?_⟩
       have b2 := SP.call a0 e3
       clear e3
       refine iR 1 7 [(48, (.string ⟨List.toArray p8⟩))] ?_
       refine iS 8 ?_
       refine Vq (op := .eql) (T := 9) (T' := 9) (x := (.tmp 47)) (y := (.tmp 48)) (a := a8) (b := p8) (r := (.bool (a8 == p8))) (d := (some 49)) (k := 7) K rfl K K rfl ?_
       refine iR 2 10 [(50, (.bool (a8 == p8))), (51, (.bool (a8 == p8)))] ?_
       refine In.guard (t := 51) (b := (a8 == p8)) K (fun c8 => ?_) (fun c8 => ?_)
       ·have H := ct H c8
        refine iR 10 20 [(52, undef), (53, undef), (54, undef), (55, undef), (56, undef), (57, undef), (58, undef), (59, (.bool true)), (60, (.bool true)), (4, (.bool true))] ?_
        refine iF ?_
        exact ⟨true, ⟨K, trivial⟩, SP.sel b2 [] rfl rfl, H⟩
       ·have H := cf H c8
        refine iR 3 13 [(52, (.bool c.2.2.2.2)), (53, (.bool (!c.2.2.2.2))), (54, (.bool (!c.2.2.2.2)))] ?_
        refine In.guard (t := 54) (b := (!c.2.2.2.2)) K (fun c9 => ?_) (fun c9 => ?_)
        ·have H := ct H c9
         refine iS 14 ?_
         refine sL 55 9 b4 0 1 (.agg #[(.int .i64 c.1), (.int .i64 c.2.1), (.int .i64 c.2.2.1), (.slice s (List.length c.2.2.2.1) u)]) 55 b2 rfl ?_
         refine iR 1 15 [(56, (.agg #[(.int .i64 0), (.int .i64 0), (.int .i64 0), (.slice none (List.length ([] : List (Int × (List UInt8) × Bool × Bool))) 0)]))] ?_
         obtain ⟨a9, g4, H⟩ := Qa H
         refine iS 16 ?_
         refine cF 39 #[(.tmp 55), (.tmp 56)] #[55, 55] 57 Tryz.call39 (V0 s u none 0 c.1 c.2.1 c.2.2.1 c.2.2.2.1 0 0 0 ([] : List (Int × (List UInt8) × Bool × Bool)) e2 (Vv (SP.get b2 (i := 0) rfl)) (RdT.nil (Ql (Ub .i64) (Ql Qi (Ql Vb Vb))) e2) a9 g4) ?_
         rintro e h8 ⟨rfl, e4⟩
         refine ⟨_, rfl, ?_⟩
         have g5 := SP.call b2 e4
         clear e4
         refine iR 4 20 [(58, (.bool a9)), (59, (.bool a9)), (60, (.bool a9)), (4, (.bool a9))] ?_
         refine iF ?_
         exact ⟨a9, ⟨K, trivial⟩, SP.sel g5 [] rfl rfl, H⟩
        ·have H := cf H c9
         refine iR 7 20 [(55, undef), (56, undef), (57, undef), (58, (.bool false)), (59, (.bool false)), (60, (.bool false)), (4, (.bool false))] ?_
         refine iF ?_
         exact ⟨false, ⟨K, trivial⟩, SP.sel b2 [] rfl rfl, H⟩
      ·have H := cf H c7
       refine iR 9 13 [(46, undef), (47, undef), (48, undef), (49, undef), (50, (.bool false)), (51, (.bool false)), (52, (.bool c.2.2.2.2)), (53, (.bool (!c.2.2.2.2))), (54, (.bool (!c.2.2.2.2)))] ?_
       refine In.guard (t := 54) (b := (!c.2.2.2.2)) K (fun d0 => ?_) (fun d0 => ?_)
       ·have H := ct H d0
        refine iS 14 ?_
        refine sL 55 9 b4 0 1 (.agg #[(.int .i64 c.1), (.int .i64 c.2.1), (.int .i64 c.2.2.1), (.slice s (List.length c.2.2.2.1) u)]) 55 a0 rfl ?_
        refine iR 1 15 [(56, (.agg #[(.int .i64 0), (.int .i64 0), (.int .i64 0), (.slice none (List.length ([] : List (Int × (List UInt8) × Bool × Bool))) 0)]))] ?_
        obtain ⟨b0, g6, H⟩ := Qa H
        refine iS 16 ?_
        refine cF 39 #[(.tmp 55), (.tmp 56)] #[55, 55] 57 Tryz.call39 (V0 s u none 0 c.1 c.2.1 c.2.2.1 c.2.2.2.1 0 0 0 ([] : List (Int × (List UInt8) × Bool × Bool)) c4 (Vv (SP.get a0 (i := 0) rfl)) (RdT.nil (Ql (Ub .i64) (Ql Qi (Ql Vb Vb))) c4) b0 g6) ?_
        rintro e h9 ⟨rfl, e5⟩
        refine ⟨_, rfl, ?_⟩
        have g7 := SP.call a0 e5
        clear e5
        refine iR 4 20 [(58, (.bool b0)), (59, (.bool b0)), (60, (.bool b0)), (4, (.bool b0))] ?_
        refine iF ?_
        exact ⟨b0, ⟨K, trivial⟩, SP.sel g7 [] rfl rfl, H⟩
       ·have H := cf H d0
        refine iR 7 20 [(55, undef), (56, undef), (57, undef), (58, (.bool false)), (59, (.bool false)), (60, (.bool false)), (4, (.bool false))] ?_
        refine iF ?_
        exact ⟨false, ⟨K, trivial⟩, SP.sel a0 [] rfl rfl, H⟩
     ·have H := cf H c5
      refine iR 18 20 [(44, undef), (45, undef), (46, undef), (47, undef), (48, undef), (49, undef), (50, undef), (51, undef), (52, undef), (53, undef), (54, undef), (55, undef), (56, undef), (57, undef), (58, undef), (59, undef), (60, (.bool false)), (4, (.bool false))] ?_
      refine iF ?_
      exact ⟨false, ⟨K, trivial⟩, SP.sel a0 [] rfl rfl, H⟩
    ·rintro ρ i0 ⟨a7, hk, g8, H⟩
     unfold Qu at H
     first | refine At.known [(4, (.bool a7))] hk ?_ | rw [← Qj (l := [(4, (.bool a7))]) hk]
     refine At.ret K ?_
     refine ⟨(.bool a7), K, ?_⟩
     obtain rfl := Qc H
     exact ⟨rfl, SP.sel g8 [] rfl rfl⟩
end Go.Proofs.YtoflbpmbkmephaaGreatDoor
namespace Go.Proofs.YtoflbpmbkmephaaGreatDoor
open Go.RowKit
theorem Ng (c : UInt8) : ∀ s : List UInt8, (Q5 c s).length = s.count c + 1
  | [] => rfl
  | x :: r => by
    have ih := Ng c r
    unfold Q5
    by_cases h : x = c
    · subst h
      rw [if_pos rfl, List.length_cons, ih, List.count_cons_self]
    · rw [if_neg h, List.count_cons_of_ne h]
      cases hs : Q5 c r with
      | nil => exact absurd hs (Jk c r)
      | cons p ps => rw [hs] at ih; simpa using ih
theorem lIndex (s : List UInt8) (c : UInt8) : Yt s [c] = some (Lib.indexByte s c) := rfl
theorem E5 {α : Type} (l : List α) (n : Nat) (x z : α) (h : 0 < n) : (l ++ List.replicate n z).set l.length x = l ++ x :: List.replicate (n - 1) z := by
  obtain ⟨m, rfl⟩ : ∃ m, n = m + 1 := ⟨n - 1, by omega⟩
  simp [List.replicate_succ]
theorem E6 {α : Type} (l : List α) (n : Nat) (z : α) (h : 0 < n) : (l ++ List.replicate n z)[l.length]? = some z := by
  obtain ⟨m, rfl⟩ : ∃ m, n = m + 1 := ⟨n - 1, by omega⟩
  simp [List.replicate_succ]
theorem split_end (done : List (List UInt8)) (r : List UInt8) (m : Nat) (hm : 0 < m) (hl : done.length + m ≤ 2000000) :
    Vr r (done ++ List.replicate m []) ((done.length : Nat) : Int) = some (done ++ [r]) := by
  unfold Vr
  rw [Bw, E6 done m [] hm]
  simp only [Option.bind_some, Int.toNat_natCast]
  rw [E5 done m r [] hm, show IntKind.wrap .i64 (((done.length : Nat) : Int) + 1) = ((done.length + 1 : Nat) : Int) by rw [Y1 (by omega)]; omega]
  have := Nz (done ++ r :: List.replicate (m - 1) []) (i := 0) (j := done.length + 1) (by omega) (by simp)
  rw [show ((0 : Nat) : Int) = 0 from rfl] at this
  rw [this, List.drop_zero, show done ++ r :: List.replicate (m - 1) [] = (done ++ [r]) ++ List.replicate (m - 1) [] by simp, List.take_left' (by simp)]
  rfl
theorem Fp (s : List UInt8) (c : UInt8) (M : Int) (hs : s.length ≤ 1000000) : ∀ (m : Nat) (r : List UInt8) (done : List (List UInt8)) (f : Nat), r.length ≤ 1000000 → (Q5 c r).length = m → m < f → done.length + m ≤ 2000000 → M = ((done.length + m : Nat) : Int) →
    Vs s [c] 0 M f r (done ++ List.replicate m []) ((done.length : Nat) : Int) = some (done ++ Q5 c r) ∨ ¬ (M ≤ ((s.length : Nat) : Int) + 1) := by
  intro m
  induction m with
  | zero =>
    intro r done f hr hm
    have := Jk c r
    simp at hm
    exact absurd hm this
  | succ m ih =>
    intro r done f hr hm hf hd hM
    by_cases hle : M ≤ ((s.length : Nat) : Int) + 1
    · left
      obtain ⟨f, rfl⟩ : ∃ g, f = g + 1 := ⟨f - 1, by omega⟩
      show V7 (Vs s [c] 0 M f) s [c] 0 M _ _ _ = _
      unfold V7
      have hif : (if IntKind.wrap .i64 (((s.length : Nat) : Int) + 1) < M then IntKind.wrap .i64 (((s.length : Nat) : Int) + 1) else M) = M := by
        rw [Y1 (by omega), if_neg (by omega)]
      rw [hif, hM, show IntKind.wrap .i64 (((done.length + (m + 1) : Nat) : Int) - 1) = ((done.length + m : Nat) : Int) by rw [Y1 (by omega)]; omega]
      rcases X3 c r with ⟨h1, h2, h3⟩ | ⟨i, h1, h2, h3, h4, h5⟩
      · rw [h2] at hm
        have : m = 0 := by simpa using hm.symm
        subst this
        rw [show decide (((done.length : Nat) : Int) < ((done.length + 0 : Nat) : Int)) = false by rw [decide_eq_false_iff_not]; omega, h2]
        exact split_end done r 1 (by omega) (by omega)
      · rw [h5, List.length_cons] at hm
        have hm' : (Q5 c (r.drop (i + 1))).length = m := by omega
        have hpos : 0 < m := by
          have := Jk c (r.drop (i + 1))
          have : 0 < (Q5 c (r.drop (i + 1))).length := List.length_pos_iff.2 this
          omega
        rw [show decide (((done.length : Nat) : Int) < ((done.length + m : Nat) : Int)) = true by rw [decide_eq_true_eq]; omega, lIndex, h1]
        simp only [cond_true, Option.bind_some]
        rw [show decide ((i : Int) < 0) = false by rw [decide_eq_false_iff_not]; omega, Int.add_zero, R2 (by omega)]
        have s1 := Nz r (i := 0) (j := i) (by omega) (by omega)
        rw [show ((0 : Nat) : Int) = 0 from rfl] at s1
        have s2 := Nz r (i := i + 1) (j := r.length) (by omega) (by omega)
        rw [s1, Bw, E6 done (m + 1) [] (by omega), show IntKind.wrap .i64 ((i : Int) + ((([c] : List UInt8).length : Nat) : Int)) = ((i + 1 : Nat) : Int) by rw [Y1 (by simp; omega)]; simp, s2]
        simp only [cond_false, Option.bind_some, Int.toNat_natCast, List.drop_zero, List.take_length]
        rw [E5 done (m + 1) _ [] (by omega), show IntKind.wrap .i64 (((done.length : Nat) : Int) + 1) = ((done.length + 1 : Nat) : Int) by rw [Y1 (by omega)]; omega]
        have := ih (r.drop (i + 1)) (done ++ [r.take i]) f (by rw [List.length_drop]; omega) hm' (by omega) (by simp; omega) (by rw [hM]; simp; omega)
        rcases this with this | this
        · rw [List.length_append, List.append_assoc] at this
          rw [show m + 1 - 1 = m by omega, h5, ← hM]
          refine Eq.trans ?_ (this.trans ?_)
          · rfl
          · simp
        · exact absurd hle this
    · exact .inr hle
theorem lSplit (s : List UInt8) (c : UInt8) (hs : s.length ≤ 1000000) : Xg s [c] = some (Q5 c s) := by
  unfold Xg Xz
  have hc := Ng c s
  have hcl : s.count c ≤ s.length := List.count_le_length
  simp only [Ys, Lib.countByte]
  rw [show ((-1 : Int) == 0) = false from rfl, show (([c] : List UInt8) == []) = false from rfl, show decide ((-1 : Int) < 0) = true from rfl]
  simp only [cond_false, cond_true, Option.bind_some]
  rw [show IntKind.wrap .i64 (((s.count c : Nat) : Int) + 1) = (((Q5 c s).length : Nat) : Int) by rw [Y1 (by omega), hc]; omega]
  unfold V8
  have hif : (if IntKind.wrap .i64 (((s.length : Nat) : Int) + 1) < (((Q5 c s).length : Nat) : Int) then IntKind.wrap .i64 (((s.length : Nat) : Int) + 1) else (((Q5 c s).length : Nat) : Int)) = (((Q5 c s).length : Nat) : Int) := by
    rw [Y1 (by omega), if_neg (by omega)]
  rw [hif, show decide (0 ≤ (((Q5 c s).length : Nat) : Int) ∧ (((Q5 c s).length : Nat) : Int) ≤ 2147483648) = true by rw [decide_eq_true_eq]; omega]
  simp only [chk, Option.bind_some, Int.toNat_natCast]
  have := Fp s c (((Q5 c s).length : Nat) : Int) hs (Q5 c s).length s [] Ye (by omega) rfl (by unfold Ye; omega) (by simp; omega) (by simp)
  rcases this with this | this
  · rw [List.nil_append, List.nil_append] at this
    rw [show ((([] : List (List UInt8)).length : Nat) : Int) = 0 from rfl] at this
    rw [this]
    rfl
  · omega
end Go.Proofs.YtoflbpmbkmephaaGreatDoor
namespace Go.Proofs.YtoflbpmbkmephaaGreatDoor
open Go.Lib (decDigits)
theorem w32 {b : Int} (h0 : 0 ≤ b) (h1 : b ≤ 32) : IntKind.wrap .i64 (32 - b) = ((32 - b.toNat : Nat) : Int) := by rw [Y1 (by omega)]; omega
end Go.Proofs.YtoflbpmbkmephaaGreatDoor
namespace Go.Proofs.YtoflbpmbkmephaaGreatDoor
open Go.Lib (decDigits)
def Rw (c : UInt8) (s : List UInt8) : List UInt8 × List UInt8 × Bool := if Lib.indexByte s c < 0 then (s, [], false) else (s.take (Lib.indexByte s c).toNat, s.drop ((Lib.indexByte s c).toNat + 1), true)
theorem cutL_len (c : UInt8) (s : List UInt8) : (Rw c s).1.length ≤ s.length ∧ (Rw c s).2.1.length ≤ s.length := by
  unfold Rw
  split
  · simp
  · simp only [List.length_take, List.length_drop]; omega
theorem Bf (c : UInt8) : ∀ (x r : List UInt8), c ∉ x → Q5 c (x ++ c :: r) = x :: Q5 c r
  | [], r, _ => by simp [Q5]
  | y :: x, r, h => by
    have hy : y ≠ c := fun e => h (by simp [e])
    have ih := Bf c x r (fun hm => h (by simp [hm]))
    rw [List.cons_append]
    conv => lhs; unfold Q5
    rw [if_neg hy, ih]
theorem Bg (c : UInt8) : ∀ (x : List UInt8), c ∉ x → Q5 c x = [x]
  | [], _ => rfl
  | y :: x, h => by
    have hy : y ≠ c := fun e => h (by simp [e])
    have ih := Bg c x (fun hm => h (by simp [hm]))
    unfold Q5
    rw [if_neg hy, ih]
def Gj (c : UInt8) : List (List UInt8) → List UInt8
  | [] => []
  | [p] => p
  | p :: q :: ps => p ++ c :: Gj c (q :: ps)
theorem Bh (c : UInt8) : ∀ s : List UInt8, Gj c (Q5 c s) = s
  | [] => rfl
  | x :: r => by
    have ih := Bh c r
    unfold Q5
    by_cases h : x = c
    · rw [if_pos h]
      cases hs : Q5 c r with
      | nil => exact absurd hs (Jk c r)
      | cons p ps => rw [hs] at ih; show [] ++ c :: Gj c (p :: ps) = _; rw [ih, h]; rfl
    · rw [if_neg h]
      cases hs : Q5 c r with
      | nil => exact absurd hs (Jk c r)
      | cons p ps =>
        rw [hs] at ih
        simp only
        cases ps with
        | nil => rw [← ih]; rfl
        | cons q qs => rw [← ih]; rfl
theorem dec_no {n : Nat} {c : UInt8} (hc : Gv c = false) : c ∉ decDigits n := fun h => by
  have := dec_all n
  rw [List.all_eq_true] at this
  rw [this c h] at hc
  cases hc
theorem cutL_app (c : UInt8) (x y : List UInt8) (h : c ∉ x) : Rw c (x ++ c :: y) = (x, y, true) := by
  unfold Rw
  rcases X3 c (x ++ c :: y) with ⟨_, _, h3⟩ | ⟨i, h1, h2, h3, h4, _⟩
  · exact absurd (by simp) h3
  · have hi : i = x.length := by
      rcases Nat.lt_trichotomy i x.length with h' | h' | h'
      · rw [List.getElem?_append_left h'] at h3
        exact absurd (List.mem_of_getElem? h3) h
      · exact h'
      · exfalso
        refine h4 (List.mem_of_getElem? (i := x.length) ?_)
        rw [List.getElem?_take, if_pos h']
        simp
    subst hi
    rw [h1, if_neg (by omega), Int.toNat_natCast]
    simp
theorem cutL_true {c : UInt8} {s x y : List UInt8} (h : Rw c s = (x, y, true)) : s = x ++ c :: y := by
  unfold Rw at h
  rcases X3 c s with ⟨h1, _, _⟩ | ⟨i, h1, h2, h3, _, _⟩
  · rw [h1, if_pos (by omega)] at h
    simp at h
  · rw [h1, if_neg (by omega), Int.toNat_natCast] at h
    injection h with hx h
    injection h with hy _
    subst hx hy
    have hc : s[i] = c := by rw [List.getElem?_eq_getElem h2] at h3; exact Option.some.inj h3
    rw [← hc, ← List.drop_eq_getElem_cons h2, List.take_append_drop]
end Go.Proofs.YtoflbpmbkmephaaGreatDoor
namespace Go.Proofs.YtoflbpmbkmephaaGreatDoor
open Go.RowKit
theorem bShr_nat (k : IntKind) (a b : Nat) (hb : b ≤ k.bits) : E0 k (a : Int) (b : Int) = ((a / 2 ^ b : Nat) : Int) := by
  unfold E0
  rw [Int.toNat_natCast, Nat.min_eq_left hb, Int.fdiv_eq_ediv_of_nonneg _ (by exact Int.le_of_lt (Int.pow_pos (by omega)))]
  have : ((2 : Int) ^ b) = ((2 ^ b : Nat) : Int) := by push_cast; rfl
  rw [this]
  rfl
theorem G6 {α : Type} (l : List α) (i : Nat) (d : α) (h : i < l.length) : idx l (i : Int) = some (l.getD i d) := by rw [Ny h]; simp [List.getD, h]
def Ua : List UInt8 := [48, 49, 50, 51, 52, 53, 54, 55, 56, 57, 97, 98, 99, 100, 101, 102]
def hexC (c : UInt8) : List UInt8 := [Ua.getD (c.toNat / 16) 0, Ua.getD (c.toNat % 16) 0]
def B0 (b : List UInt8) : List UInt8 := b.flatMap hexC
theorem X4 : ∀ b : List UInt8, (B0 b).length = 2 * b.length
  | [] => rfl
  | c :: b => by
    have := X4 b
    simp [B0, hexC] at *
    omega
theorem hexL_snoc (b : List UInt8) (c : UInt8) : B0 (b ++ [c]) = B0 b ++ hexC c := by simp [B0]
theorem take_snoc {α : Type} (l : List α) (i : Nat) (d : α) (h : i < l.length) : l.take (i + 1) = l.take i ++ [l.getD i d] := by
  rw [List.take_add_one, List.getElem?_eq_getElem h]
  simp [List.getD, h]
theorem hi_prog (c : UInt8) : E0 .u8 ((c.toNat : Nat) : Int) 4 = ((c.toNat / 16 : Nat) : Int) := bShr_nat .u8 c.toNat 4 (by decide)
theorem lo_prog (c : UInt8) : bAnd .u8 ((c.toNat : Nat) : Int) 15 = ((c.toNat % 16 : Nat) : Int) := by
  have h := c.toNat_lt
  unfold bAnd
  have : (BitVec.ofInt 8 ((c.toNat : Nat) : Int) &&& BitVec.ofInt 8 15).toNat = c.toNat % 16 := by
    rw [BitVec.toNat_and, BitVec.ofInt_natCast, BitVec.toNat_ofNat, Nat.mod_eq_of_lt (by omega)]
    show c.toNat &&& 15 = _
    exact Nat.and_two_pow_sub_one_eq_mod c.toNat 4
  show IntKind.wrap .u8 ((BitVec.ofInt 8 ((c.toNat : Nat) : Int) &&& BitVec.ofInt 8 15).toNat : Int) = _
  rw [this, wrap8]
  omega
theorem Cx : Ua.length = 16 := rfl
def hexS (b : List UInt8) (i : Nat) : List UInt8 := B0 (b.take i) ++ List.replicate (2 * b.length - 2 * i) 0
theorem Er (b : List UInt8) (i : Nat) (h : i ≤ b.length) : (hexS b i).length = 2 * b.length := by
  simp [hexS, X4]
  omega
theorem hexS_next (b : List UInt8) (i : Nat) (h : i < b.length) : ((hexS b i).set (2 * i) (Ua.getD ((b.getD i 0).toNat / 16) 0)).set (2 * i + 1) (Ua.getD ((b.getD i 0).toNat % 16) 0) = hexS b (i + 1) := by
  have hl : (B0 (b.take i)).length = 2 * i := by rw [X4, List.length_take]; omega
  unfold hexS
  rw [show 2 * b.length - 2 * i = (2 * b.length - 2 * (i + 1)) + 1 + 1 by omega, List.replicate_succ, List.replicate_succ]
  rw [List.set_append_right _ _ (by omega), List.set_append_right _ _ (by omega), hl, Nat.sub_self, show 2 * i + 1 - 2 * i = 1 by omega]
  rw [take_snoc b i 0 h, hexL_snoc]
  simp [hexC]
theorem B1 (b : List UInt8) (hb : b.length ≤ 1000000) : ∀ (d i f : Nat), d = b.length - i → i ≤ b.length → d < f → Zs b f (hexS b i) (i : Int) = some (B0 b) := by
  intro d
  induction d with
  | zero =>
    intro i f hd hi hf
    obtain ⟨f, rfl⟩ : ∃ g, f = g + 1 := ⟨f - 1, by omega⟩
    have : i = b.length := by omega
    subst this
    show Zr (Zs b f) b (hexS b b.length) ((b.length : Nat) : Int) = _
    unfold Zr
    rw [show decide (((b.length : Nat) : Int) < ((b.length : Nat) : Int)) = false by simp, cond_false]
    unfold hexS
    rw [List.take_length, Nat.sub_self]
    simp
  | succ d ih =>
    intro i f hd hi hf
    obtain ⟨f, rfl⟩ : ∃ g, f = g + 1 := ⟨f - 1, by omega⟩
    show Zr (Zs b f) b (hexS b i) (i : Int) = _
    unfold Zr
    have hl := Er b i (by omega)
    rw [show decide ((i : Int) < ((b.length : Nat) : Int)) = true by simp; omega, cond_true, G6 b i 0 (by omega)]
    have hlt := (b.getD i 0).toNat_lt
    have e1 : idx ([48, 49, 50, 51, 52, 53, 54, 55, 56, 57, 97, 98, 99, 100, 101, 102] : List UInt8) (((b.getD i 0).toNat / 16 : Nat) : Int) = some (Ua.getD ((b.getD i 0).toNat / 16) 0) := G6 Ua _ 0 (by rw [Cx]; omega)
    have e2 : idx ([48, 49, 50, 51, 52, 53, 54, 55, 56, 57, 97, 98, 99, 100, 101, 102] : List UInt8) (((b.getD i 0).toNat % 16 : Nat) : Int) = some (Ua.getD ((b.getD i 0).toNat % 16) 0) := G6 Ua _ 0 (by rw [Cx]; omega)
    have w2 : IntKind.wrap .i64 (2 * (i : Int)) = ((2 * i : Nat) : Int) := by rw [show (2 * (i : Int)) = ((2 * i : Nat) : Int) by omega, R2 (by omega)]
    have w3 : IntKind.wrap .i64 (((2 * i : Nat) : Int) + 1) = ((2 * i + 1 : Nat) : Int) := by rw [show (((2 * i : Nat) : Int) + 1) = ((2 * i + 1 : Nat) : Int) by omega, R2 (by omega)]
    have w4 : IntKind.wrap .i64 ((i : Int) + 1) = ((i + 1 : Nat) : Int) := by rw [show ((i : Int) + 1) = ((i + 1 : Nat) : Int) by omega, R2 (by omega)]
    simp only [Option.bind_some, hi_prog, lo_prog, e1, e2, w2, w3, w4]
    rw [G6 _ (2 * i) 0 (by omega), Option.bind_some, G6 _ (2 * i + 1) 0 (by simp; omega), Option.bind_some, Int.toNat_natCast, Int.toNat_natCast, hexS_next b i (by omega)]
    exact ih (i + 1) f (by omega) (by omega) (by omega)
theorem prog_hex (b : List UInt8) (hb : b.length ≤ 1000000) : Jl b = some (B0 b) := by
  unfold Jl
  rw [show (2 * ((b.length : Nat) : Int)) = ((2 * b.length : Nat) : Int) by omega, R2 (by omega), show decide (0 ≤ ((2 * b.length : Nat) : Int) ∧ ((2 * b.length : Nat) : Int) ≤ 2147483648) = true from decide_eq_true ⟨by omega, by omega⟩]
  simp only [chk, Option.bind_some, Int.toNat_natCast]
  have := B1 b hb b.length 0 Ye (by omega) (by omega) (by unfold Ye; omega)
  have h0 : hexS b 0 = List.replicate (2 * b.length) 0 := by simp [hexS, B0]
  rw [h0] at this
  exact this
def Cy (c : UInt8) : Option Nat := if 48 ≤ c.toNat ∧ c.toNat ≤ 57 then some (c.toNat - 48) else if 97 ≤ c.toNat ∧ c.toNat ≤ 102 then some (c.toNat - 87) else none
def Yq : List UInt8 → Option (List UInt8)
  | [] => some []
  | [_] => none
  | a :: b :: r => match Cy a, Cy b with
    | some x, some y => (Yq r).map fun l => UInt8.ofNat (16 * x + y) :: l
    | _, _ => none
def unhexD (x : Option (List UInt8)) : List UInt8 × Bool := match x with | none => ([], false) | some l => (l, true)
theorem of_fin {p : UInt8 → Prop} (h : ∀ n : Fin 256, p (UInt8.ofNat n.val)) (c : UInt8) : p c := by
  have e := h ⟨c.toNat, c.toNat_lt⟩
  have : UInt8.ofNat c.toNat = c := by simp
  rwa [this] at e
theorem B2 {c : UInt8} {x : Nat} (h : Cy c = some x) : x < 16 := by
  unfold Cy at h
  split at h
  · injection h with h; omega
  · split at h
    · injection h with h; omega
    · cases h
theorem ix_dig (c : UInt8) : Lib.indexByte Ua c = match Cy c with | some x => (x : Int) | none => -1 :=
  of_fin (p := fun c => Lib.indexByte Ua c = match Cy c with | some x => (x : Int) | none => -1) (by decide +kernel) c
theorem B3 {x : Nat} (h : x < 16) : Cy (Ua.getD x 0) = some x := (by decide +kernel : ∀ n : Fin 16, Cy (Ua.getD n.val 0) = some n.val) ⟨x, h⟩
theorem hex_dig (c : UInt8) : ∀ x, Cy c = some x → Ua.getD x 0 = c :=
  fun x h => by
    have := of_fin (p := fun c => ((Cy c).map fun x => Ua.getD x 0) = (Cy c).map fun _ => c) (by decide +kernel) c
    rw [h] at this
    exact Option.some.inj this
theorem hex_pair {x y : Nat} (hx : x < 16) (hy : y < 16) : hexC (UInt8.ofNat (16 * x + y)) = [Ua.getD x 0, Ua.getD y 0] :=
  (by decide +kernel : ∀ n m : Fin 16, hexC (UInt8.ofNat (16 * n.val + m.val)) = [Ua.getD n.val 0, Ua.getD m.val 0]) ⟨x, hx⟩ ⟨y, hy⟩
theorem pair_hex (c : UInt8) : UInt8.ofNat (16 * (c.toNat / 16) + c.toNat % 16) = c := by
  rw [Nat.div_add_mod]
  simp
theorem Cz : ∀ b : List UInt8, Yq (B0 b) = some b
  | [] => rfl
  | c :: b => by
    have hl := c.toNat_lt
    show Yq (Ua.getD (c.toNat / 16) 0 :: Ua.getD (c.toNat % 16) 0 :: B0 b) = _
    simp only [Yq, B3 (show c.toNat / 16 < 16 by omega), B3 (show c.toNat % 16 < 16 by omega), Cz b, Option.map_some, pair_hex]
theorem Rn : ∀ {s b : List UInt8}, Yq s = some b → B0 b = s
  | [], b, h => by injection h with h; subst h; rfl
  | [_], b, h => by cases h
  | a :: c :: r, b, h => by
    simp only [Yq] at h
    cases hx : Cy a with
    | none => rw [hx] at h; cases h
    | some x =>
      cases hy : Cy c with
      | none => rw [hx, hy] at h; cases h
      | some y =>
        rw [hx, hy] at h
        simp only [Option.map_eq_some_iff] at h
        obtain ⟨l, hl, rfl⟩ := h
        show hexC _ ++ B0 l = _
        rw [hex_pair (B2 hx) (B2 hy), Rn hl, hex_dig a x hx, hex_dig c y hy]
        rfl
theorem Fq {s b : List UInt8} (h : Yq s = some b) : s.length = 2 * b.length := by rw [← Rn h, X4]
theorem Fs {s : List UInt8} (h : s.length % 2 = 1) : Yq s = none := by
  cases hu : Yq s with
  | none => rfl
  | some b => have := Fq hu; omega
theorem set_mid {α : Type} (l r : List α) (x y : α) (k : Nat) (h : l.length = k) : (l ++ x :: r).set k y = l ++ y :: r := by
  subst h
  simp
theorem get_mid {α : Type} (l r : List α) (x : α) (k : Nat) (h : l.length = k) : (l ++ x :: r)[k]? = some x := by
  subst h
  simp
theorem drop_two {α : Type} {l : List α} {i : Nat} (h : i + 1 < l.length) : l.drop i = l[i] :: l[i + 1] :: l.drop (i + 2) := by
  rw [List.drop_eq_getElem_cons (by omega), List.drop_eq_getElem_cons h]
theorem or_hi {x : Nat} (hx : x < 16) : toU8 (bOr .u8 (Fw .u8 (((0 : UInt8).toNat : Nat) : Int) 4) (IntKind.wrap .u8 (x : Int))) = UInt8.ofNat x :=
  (by decide +kernel : ∀ n : Fin 16, toU8 (bOr .u8 (Fw .u8 (((0 : UInt8).toNat : Nat) : Int) 4) (IntKind.wrap .u8 ((n.val : Nat) : Int))) = UInt8.ofNat n.val) ⟨x, hx⟩
theorem or_lo {x y : Nat} (hx : x < 16) (hy : y < 16) : toU8 (bOr .u8 (Fw .u8 (((UInt8.ofNat x).toNat : Nat) : Int) 4) (IntKind.wrap .u8 (y : Int))) = UInt8.ofNat (16 * x + y) :=
  (by decide +kernel : ∀ n m : Fin 16, toU8 (bOr .u8 (Fw .u8 (((UInt8.ofNat n.val).toNat : Nat) : Int) 4) (IntKind.wrap .u8 ((m.val : Nat) : Int))) = UInt8.ofNat (16 * n.val + m.val)) ⟨x, hx⟩ ⟨y, hy⟩
theorem Dt (s : List UInt8) (hs : s.length ≤ 1000000) : ∀ (n k f : Nat) (dec : List UInt8), s.length = 2 * k + 2 * n → dec.length = k → 2 * n < f →
    Vt s f (dec ++ List.replicate n 0) ((2 * k : Nat) : Int) = some (match Yq (s.drop (2 * k)) with | some l => (dec ++ l, true) | none => ([], false)) := by
  intro n
  induction n with
  | zero =>
    intro k f dec h1 h2 h3
    obtain ⟨f, rfl⟩ : ∃ g, f = g + 1 := ⟨f - 1, by omega⟩
    show Vi (Vt s f) s _ _ = _
    unfold Vi
    rw [show decide (((2 * k : Nat) : Int) < ((s.length : Nat) : Int)) = false by rw [decide_eq_false_iff_not]; omega, List.drop_of_length_le (by omega)]
    simp [Yq]
  | succ n ih =>
    intro k f dec h1 h2 h3
    obtain ⟨f, rfl⟩ : ∃ g, f = g + 1 + 1 := ⟨f - 2, by omega⟩
    have t0 : IntKind.wrap .i64 (Int.tdiv ((2 * k : Nat) : Int) 2) = (k : Int) := by
      have := Bv (2 * k) 2
      rw [show ((2 : Nat) : Int) = 2 from rfl] at this
      rw [this, show 2 * k / 2 = k by omega]
      exact R2 (by omega)
    have t1 : IntKind.wrap .i64 (Int.tdiv ((2 * k + 1 : Nat) : Int) 2) = (k : Int) := by
      have := Bv (2 * k + 1) 2
      rw [show ((2 : Nat) : Int) = 2 from rfl] at this
      rw [this, show (2 * k + 1) / 2 = k by omega]
      exact R2 (by omega)
    have w0 : IntKind.wrap .i64 (((2 * k : Nat) : Int) + 1) = ((2 * k + 1 : Nat) : Int) := by rw [Y1 (by omega)]; omega
    have w1 : IntKind.wrap .i64 (((2 * k + 1 : Nat) : Int) + 1) = ((2 * (k + 1) : Nat) : Int) := by rw [Y1 (by omega)]; omega
    have i0 : idx s ((2 * k : Nat) : Int) = some (s[2 * k]'(by omega)) := Ny (by omega)
    have i1 : idx s ((2 * k + 1 : Nat) : Int) = some (s[2 * k + 1]'(by omega)) := Ny (by omega)
    have e0 : ∀ (x : UInt8) (r : List UInt8), idx (dec ++ x :: r) (k : Int) = some x := fun x r => by rw [Bw]; exact get_mid dec r x k h2
    rw [drop_two (show 2 * k + 1 < s.length by omega)]
    show Vi (Vt s (f + 1)) s _ _ = _
    unfold Vi
    rw [show decide (((2 * k : Nat) : Int) < ((s.length : Nat) : Int)) = true by rw [decide_eq_true_eq]; omega, i0, t0, w0]
    simp only [cond_true, Option.bind_some, Zq]
    rw [show Lib.indexByte [48, 49, 50, 51, 52, 53, 54, 55, 56, 57, 97, 98, 99, 100, 101, 102] (s[2 * k]'(by omega)) = _ from ix_dig _]
    cases ha : Cy (s[2 * k]'(by omega)) with
    | none => simp [Yq, ha]
    | some x =>
      have hx := B2 ha
      rw [show decide ((x : Int) < 0) = false by rw [decide_eq_false_iff_not]; omega, show List.replicate (n + 1) (0 : UInt8) = 0 :: List.replicate n 0 from rfl]
      simp only [cond_false, e0, Option.bind_some, Int.toNat_natCast]
      rw [set_mid dec _ _ _ k h2, or_hi hx]
      show Vi (Vt s f) s _ _ = _
      unfold Vi
      rw [show decide (((2 * k + 1 : Nat) : Int) < ((s.length : Nat) : Int)) = true by rw [decide_eq_true_eq]; omega, i1, t1, w1]
      simp only [cond_true, Option.bind_some, Zq]
      rw [show Lib.indexByte [48, 49, 50, 51, 52, 53, 54, 55, 56, 57, 97, 98, 99, 100, 101, 102] (s[2 * k + 1]'(by omega)) = _ from ix_dig _]
      cases hb : Cy (s[2 * k + 1]'(by omega)) with
      | none => simp [Yq, ha, hb]
      | some y =>
        have hy := B2 hb
        rw [show decide ((y : Int) < 0) = false by rw [decide_eq_false_iff_not]; omega]
        simp only [cond_false, e0, Option.bind_some, Int.toNat_natCast]
        rw [set_mid dec _ _ _ k h2, or_lo hx hy]
        have := ih (k + 1) f (dec ++ [UInt8.ofNat (16 * x + y)]) (by omega) (by simp [h2]) (by omega)
        rw [List.append_assoc, List.singleton_append] at this
        rw [this, show 2 * (k + 1) = 2 * k + 2 by omega]
        simp only [Yq, ha, hb]
        cases Yq (s.drop (2 * k + 2)) <;> simp
theorem Ft (s : List UInt8) (hs : s.length ≤ 1000000) : Yi s = some (unhexD (Yq s)) := by
  unfold Yi
  have tm := tmod_nat s.length 2
  rw [show ((2 : Nat) : Int) = 2 from rfl] at tm
  have td := Bv s.length 2
  rw [show ((2 : Nat) : Int) = 2 from rfl] at td
  rw [tm, td, R2 (show s.length / 2 < 4611686018427387904 by omega)]
  by_cases ho : s.length % 2 = 1
  · rw [show decide (((s.length % 2 : Nat) : Int) > 0) = true by rw [decide_eq_true_eq]; omega, Fs ho]
    rfl
  · rw [show decide (((s.length % 2 : Nat) : Int) > 0) = false by rw [decide_eq_false_iff_not]; omega, show decide (0 ≤ ((s.length / 2 : Nat) : Int) ∧ ((s.length / 2 : Nat) : Int) ≤ 2147483648) = true by rw [decide_eq_true_eq]; omega]
    simp only [cond_false, chk, if_true, Option.bind_some, Int.toNat_natCast]
    have := Dt s hs (s.length / 2) 0 Ye [] (by omega) rfl (by unfold Ye; omega)
    rw [List.nil_append] at this
    refine this.trans ?_
    rw [List.drop_zero]
    cases Yq s <;> rfl
end Go.Proofs.YtoflbpmbkmephaaGreatDoor
namespace Go.Proofs.YtoflbpmbkmephaaGreatDoor
open Go.RowKit
open Go.Lib (decDigits)
def unb (w : Str) : Option Str := if w = [45] then some [] else match Yq w with | some b => if b = [] then none else some b | none => none
def unbD (x : Option Str) : Str × Bool := match x with | none => ([], false) | some b => (b, true)
def Zx (s : Str) : Str := if s = [] then [45] else B0 s
theorem lUnb (w : Str) (h : w.length ≤ 1000000) : Z3 w = some (unbD (unb w)) := by
  unfold Z3 unb
  by_cases hw : w = [45]
  · rw [if_pos hw, hw]; rfl
  · rw [if_neg hw, beq_eq_false_iff_ne.2 hw, Ft w h]
    simp only [cond_false, Option.bind_some]
    cases Yq w with
    | none => rfl
    | some b =>
      cases b with
      | nil => rfl
      | cons x r => simp [unhexD, Zu, unbD]
theorem lBytes (s : Str) (h : s.length ≤ 1000000) : V6 s = some (Zx s) := by
  unfold V6 Zx
  by_cases hs : s = []
  · rw [if_pos hs, hs]; rfl
  · rw [if_neg hs, beq_eq_false_iff_ne.2 hs, prog_hex s h, Nat.ble_eq_true_of_le (show s.length ≤ 281474976710656 by omega)]
    rfl
theorem Es (q : List Str) (b : Bool) : Qt q b = some (q.headD [], q.tail, b || q.isEmpty) := by
  cases q with
  | nil => simp [Qt]
  | cons x r =>
    unfold Qt
    have s2 := Nz (x :: r) (i := 1) (j := (x :: r).length) (by simp) (by omega)
    rw [show ((((x :: r).length : Nat) : Int) == 0) = false by rw [beq_eq_false_iff_ne]; simp; omega]
    rw [show ((1 : Nat) : Int) = 1 from rfl] at s2
    rw [s2]
    simp [idx]
theorem sr_num (q : List Str) (b : Bool) (h : ∀ w ∈ q, w.length ≤ 1000000) : Qr q b = some ((Ug (Zg (q.headD []))).1, q.tail, (b || q.isEmpty) || !(Ug (Zg (q.headD []))).2) := by
  have hl : (q.headD []).length ≤ 2147483648 := by
    cases q with
    | nil => simp
    | cons x r => have := h x (by simp); simp; omega
  unfold Qr
  rw [Es]
  simp only [Option.bind_some, lParse _ hl, Xq, V2]
  cases (b || q.isEmpty) <;> rfl
end Go.Proofs.YtoflbpmbkmephaaGreatDoor
namespace Go.Proofs.YtoflbpmbkmephaaGreatDoor
open Go.RowKit
open Go.Lib (decDigits)
theorem Bi (c : UInt8) : ∀ l : List (List UInt8), Lib.join l [c] = Gj c l
  | [] => rfl
  | [p] => Lib.join_one p [c]
  | p :: q :: ps => by
    have ih := Bi c (q :: ps)
    rw [Lib.join_cons] at ih ⊢
    show p ++ Lib.joinTail [c] (q :: ps) = p ++ c :: Gj c (q :: ps)
    rw [← ih]
    simp [Lib.joinTail]
theorem G7 (c : UInt8) : ∀ l : List (List UInt8), (Gj c l).length ≤ (l.map List.length).sum + l.length
  | [] => by simp [Gj]
  | [p] => by simp [Gj]
  | p :: q :: ps => by
    have ih := G7 c (q :: ps)
    simp only [Gj, List.length_append, List.length_cons, List.map_cons, List.sum_cons] at ih ⊢
    omega
theorem Ro (c : UInt8) : ∀ l : List (List UInt8), l ≠ [] → (∀ w ∈ l, c ∉ w) → Q5 c (Gj c l) = l
  | [], h, _ => absurd rfl h
  | [p], _, h => Bg c p (h p (by simp))
  | p :: q :: ps, _, h => by
    rw [Gj, Bf c p _ (h p (by simp)), Ro c (q :: ps) (by simp) fun w hw => h w (by simp [hw])]
def Bj (n : Int) : Bool := decide (0 ≤ n) && decide (n ≤ 1099511627776)
structure EvOk (e : EvL) (N : Nat) : Prop where
  addr : 0 ≤ e.2.2.1 ∧ e.2.2.1 < 4294967296
  b : e.2.2.2.1.length ≤ N
  name : e.2.2.2.2.2.1.length ≤ N
  token : e.2.2.2.2.2.2.1.length ≤ N
  draw : e.2.2.2.2.2.2.2.length ≤ N
theorem bytes_unb (s : Str) : unb (Zx s) = some s := by
  unfold Zx
  by_cases hs : s = []
  · rw [if_pos hs, hs]; rfl
  · rw [if_neg hs]
    unfold unb
    have hl := X4 s
    have hp : 0 < s.length := List.length_pos_iff.2 hs
    have hne : B0 s ≠ [45] := fun h => by rw [h] at hl; simp at hl; omega
    rw [if_neg hne, Cz]
    simp only [if_neg hs]
theorem unb_bytes {w s : Str} (h : unb w = some s) : Zx s = w := by
  unfold unb at h
  by_cases hw : w = [45]
  · rw [if_pos hw] at h
    injection h with h
    rw [← h, hw]
    rfl
  · rw [if_neg hw] at h
    cases hu : Yq w with
    | none => rw [hu] at h; cases h
    | some b =>
      rw [hu] at h
      simp only at h
      by_cases hb : b = []
      · rw [if_pos hb] at h; cases h
      · rw [if_neg hb] at h
        injection h with h
        subst h
        unfold Zx
        rw [if_neg hb, Rn hu]
theorem hex_no {c : UInt8} (h : Cy c = none) (s : Str) : c ∉ B0 s := by
  induction s with
  | nil => simp [B0]
  | cons x s ih =>
    have hx := x.toNat_lt
    have h1 := B3 (show x.toNat / 16 < 16 by omega)
    have h2 := B3 (show x.toNat % 16 < 16 by omega)
    show c ∉ Ua.getD (x.toNat / 16) 0 :: Ua.getD (x.toNat % 16) 0 :: B0 s
    rw [List.mem_cons, List.mem_cons]
    rintro (e | e | e)
    · rw [← e, h] at h1; cases h1
    · rw [← e, h] at h2; cases h2
    · exact ih e
theorem B4 {c : UInt8} (h : Cy c = none) (h2 : c ≠ 45) (s : Str) : c ∉ Zx s := by
  unfold Zx
  split
  · simpa using h2
  · exact hex_no h s
theorem Et {c : UInt8} (hc : Gv c = false) (n : Int) : c ∉ R6 n := by
  unfold R6
  split
  · exact dec_no hc
  · simp
theorem R7 {n : Int} (h : Bj n = true) : ∃ m : Nat, Zg (R6 n) = some m ∧ (m : Int) = n := by
  unfold Bj at h
  rw [Bool.and_eq_true, decide_eq_true_eq, decide_eq_true_eq] at h
  refine ⟨n.toNat, ?_, by omega⟩
  unfold R6
  rw [if_pos h]
  exact parse_dec (by unfold J0; omega)
theorem G8 {w : Str} {m : Nat} (h : Zg w = some m) : R6 (m : Int) = w ∧ Bj (m : Int) = true := by
  obtain ⟨h1, h2⟩ := dec_parse h
  unfold J0 at h2
  refine ⟨?_, ?_⟩
  · unfold R6
    rw [if_pos (by omega), Int.toNat_natCast]
    exact h1
  · unfold Bj
    rw [decide_eq_true (by omega), decide_eq_true (by omega)]
    rfl
end Go.Proofs.YtoflbpmbkmephaaGreatDoor
namespace Go.Proofs.YtoflbpmbkmephaaGreatDoor
open Go.RowKit
theorem E7 (q : List Str) (b : Bool) (p : List Str) (h : q.length + p.length ≤ 1000000) : Qp q b p = some (q ++ p, b) := by
  unfold Qp
  rw [Be (by omega)]
  rfl
theorem fin_gt (n : Int) : (if n < 0 then true else decide (n > 1099511627776)) = !(Bj n) := by
  unfold Bj
  by_cases h : n < 0
  · rw [if_pos h, show decide (0 ≤ n) = false by rw [decide_eq_false_iff_not]; omega]; rfl
  · rw [if_neg h, show decide (0 ≤ n) = true by rw [decide_eq_true_eq]; omega, Bool.true_and, ← decide_not]
    exact decide_eq_decide.2 (by omega)
theorem sw_num (q : List Str) (b : Bool) (n : Int) (h : q.length ≤ 1000000 - 1) : Qq q b n = some (q ++ [R6 n], b || !(Bj n)) := by
  unfold Qq Vl
  simp only [Bx, Option.bind_some]
  have hp : ∀ b, Qp q b [R6 n] = some (q ++ [R6 n], b) := fun b => E7 q b _ (by simp; omega)
  simp only [hp, Option.bind_some]
  rw [← fin_gt]
  cases b
  · by_cases h0 : n < 0
    · rw [if_pos h0, show decide (n < 0) = true by rw [decide_eq_true_eq]; exact h0]; rfl
    · rw [if_neg h0, show decide (n < 0) = false by rw [decide_eq_false_iff_not]; exact h0]; rfl
  · rfl
theorem Uk (n : Int) : (R6 n).length ≤ 13 := by
  unfold R6
  split
  · exact dec_len13 (by unfold J0; omega)
  · simp
theorem Bk (s : Str) : (Zx s).length ≤ 2 * s.length + 1 := by
  unfold Zx
  split
  · simp
  · rw [X4]; omega
end Go.Proofs.YtoflbpmbkmephaaGreatDoor
namespace Go.Proofs.YtoflbpmbkmephaaGreatDoor
open Go.RowKit
set_option maxRecDepth 1000000 in
theorem scrHead : X2 = some true := by decide +kernel
end Go.Proofs.YtoflbpmbkmephaaGreatDoor
namespace Go.Proofs.YtoflbpmbkmephaaGreatDoor
open Go.RowKit
theorem C0 (s : Str) : s.length ≤ (Zx s).length := by
  unfold Zx
  split
  · rename_i h; subst h; simp
  · rw [X4]; omega
theorem EvOk.mono {e : EvL} {n m : Nat} (h : EvOk e n) (hm : n ≤ m) : EvOk e m := ⟨h.addr, Nat.le_trans h.b hm, Nat.le_trans h.name hm, Nat.le_trans h.token hm, Nat.le_trans h.draw hm⟩
end Go.Proofs.YtoflbpmbkmephaaGreatDoor
namespace Go.Proofs.YtoflbpmbkmephaaGreatDoor
open Go.RowKit
open Go.Lib (decDigits)
abbrev J4 := Int × Str × Bool × Bool
abbrev Eu := Int × Int × Int × List J4
def sfx (c : UInt8) (s : Str) : Str × Bool := if s.getLast? = some c then (s.dropLast, true) else (s, false)
theorem sfx_len (c : UInt8) (s : Str) : (sfx c s).1.length ≤ s.length := by
  unfold sfx
  split
  · simp
  · exact Nat.le_refl _
theorem lSfx (c : UInt8) (s : Str) (h : s.length ≤ 1000000) : V3 s [c] = some (sfx c s) := by
  have hs : Q6 s [c] = some (decide (s.getLast? = some c)) := by
    unfold Q6 Qy
    by_cases h0 : s = []
    · subst h0; rfl
    · have hp := List.length_pos_iff.2 h0
      rw [decide_eq_true (show ((s.length : Nat) : Int) ≥ ((([c] : List UInt8).length : Nat) : Int) by simp; omega), show IntKind.wrap .i64 (((s.length : Nat) : Int) - ((([c] : List UInt8).length : Nat) : Int)) = ((s.length - 1 : Nat) : Int) by rw [Y1 (by simp; omega)]; simp; omega, Nz s (by omega) (Nat.le_refl _)]
      simp only [cond_true, Option.bind_some, List.take_length]
      congr 1
      obtain ⟨a, x, rfl⟩ : ∃ a x, s = a ++ [x] := ⟨s.dropLast, s.getLast h0, (List.dropLast_concat_getLast h0).symm⟩
      rw [show (a ++ [x]).length - 1 = a.length by simp, List.drop_left, List.getLast?_append]
      by_cases hx : x = c
      · subst hx; simp
      · rw [beq_eq_false_iff_ne.2 (by simpa using hx)]
        symm
        rw [decide_eq_false_iff_not]
        simpa using hx
  unfold V3 Vg
  rw [hs]
  unfold sfx
  by_cases hc : s.getLast? = some c
  · have h0 : s ≠ [] := fun e => by rw [e] at hc; cases hc
    have hp := List.length_pos_iff.2 h0
    have s1 := Nz s (i := 0) (j := s.length - 1) (by omega) (by omega)
    rw [show ((0 : Nat) : Int) = 0 from rfl] at s1
    rw [if_pos hc, decide_eq_true hc]
    simp only [Option.bind_some, Bool.not_true, cond_false]
    rw [show IntKind.wrap .i64 (((s.length : Nat) : Int) - ((([c] : List UInt8).length : Nat) : Int)) = ((s.length - 1 : Nat) : Int) by rw [Y1 (by simp; omega)]; simp; omega, s1]
    simp only [Option.bind_some, List.drop_zero]
    rw [List.dropLast_eq_take]
  · rw [if_neg hc, decide_eq_false hc]
    rfl
theorem lCutW (c : UInt8) (s : Str) (hs : s.length ≤ 1000000) : Yu s [c] = some (Rw c s) := by
  unfold Yu Vy Ve Rw
  simp only [Option.bind_some]
  rcases X3 c s with ⟨h1, h2, h3⟩ | ⟨i, h1, h2, h3, h4, h5⟩
  · rw [h1]; rfl
  · rw [h1, if_neg (show ¬ ((i : Int) < 0) by omega), decide_eq_true (show (i : Int) ≥ 0 by omega)]
    have s1 := Nz s (i := 0) (j := i) (by omega) (by omega)
    rw [show ((0 : Nat) : Int) = 0 from rfl] at s1
    have s2 := Nz s (i := i + 1) (j := s.length) (by omega) (by omega)
    rw [s1, show IntKind.wrap .i64 ((i : Int) + ((([c] : List UInt8).length : Nat) : Int)) = ((i + 1 : Nat) : Int) by rw [Y1 (by simp; omega)]; simp, s2]
    simp
def D3 (w : Str) : Option J4 :=
  match (Rw 61 w).2.2 with
  | false => none
  | true => (Zg (Rw 61 w).1).bind fun (n : Nat) => (unb (sfx 43 (sfx 33 (Rw 61 w).2.1).1).1).map fun b => ((n : Int), b, (sfx 43 (sfx 33 (Rw 61 w).2.1).1).2, (sfx 33 (Rw 61 w).2.1).2)
theorem sr_sent (w : Str) (q : List Str) (b : Bool) (h : w.length ≤ 1000000) : ∃ x : J4, Zj (w :: q) b = some (x.1, x.2.1, x.2.2.1, x.2.2.2, q, b || (D3 w).isNone) ∧ ∀ y, D3 w = some y → x = y := by
  have c1 := cutL_len 61 w
  have c2 := sfx_len 33 (Rw 61 w).2.1
  have c3 := sfx_len 43 (sfx 33 (Rw 61 w).2.1).1
  unfold Zj
  rw [Es]
  simp only [List.headD_cons, List.tail_cons, List.isEmpty_cons, Bool.or_false, Option.bind_some]
  rw [lCutW 61 w h]
  simp only [Option.bind_some]
  rw [lParse _ (by omega), lSfx 33 _ (by omega)]
  simp only [Option.bind_some]
  rw [lSfx 43 _ (by omega)]
  simp only [Option.bind_some]
  rw [lUnb _ (by omega)]
  simp only [Option.bind_some, Vm, Vn, Vj]
  unfold D3
  refine ⟨((Ug (Zg (Rw 61 w).1)).1, (unbD (unb (sfx 43 (sfx 33 (Rw 61 w).2.1).1).1)).1, (sfx 43 (sfx 33 (Rw 61 w).2.1).1).2, (sfx 33 (Rw 61 w).2.1).2), ?_, ?_⟩
  · cases (Rw 61 w).2.2 <;> cases Zg (Rw 61 w).1 <;> cases unb (sfx 43 (sfx 33 (Rw 61 w).2.1).1).1 <;> cases b <;> rfl
  · intro y hy
    cases hc : (Rw 61 w).2.2 with
    | false => rw [hc] at hy; cases hy
    | true =>
      rw [hc] at hy
      simp only [Option.bind_eq_some_iff, Option.map_eq_some_iff] at hy
      obtain ⟨n, hn, z, hz, rfl⟩ := hy
      rw [hn, hz]
      rfl
def N9 (last : Int) : List Str → Option (List J4)
  | [] => some []
  | w :: q => (D3 w).bind fun x => if x.1 ≤ last then none else (N9 x.1 q).map fun l => x :: l
def Ur (q : List Str) : Option Eu := match q with | [a] => (Zg a).bind fun (n : Nat) => if n = 0 then none else some ((n : Int), 0, 0, []) | _ => none
def G9 (q : List Str) : Option Eu := match q with | a :: b :: r => (Zg a).bind fun (n : Nat) => (Zg b).bind fun (m : Nat) => (N9 (-1) r).map fun l => (0, (n : Int), (m : Int), l) | _ => none
def Ev (ws : List Str) : Option Eu :=
  match ws with
  | [] => none
  | w :: q => if w = [101, 114, 114] then Ur q else if w = [111, 107] then G9 q else none
theorem Gg (w : Str) (q : List Str) : Ev (w :: q) = if w = [101, 114, 114] then Ur q else if w = [111, 107] then G9 q else none := rfl
abbrev Out5 := Int × Int × Int × List J4 × Bool
def Ra (x : Option Eu) : Out5 := match x with | none => (0, 0, 0, [], false) | some o => (o.1, o.2.1, o.2.2.1, o.2.2.2, true)
theorem Nh (b : Bool) (e c t : Int) (l : List J4) : Xh b e c t l = some (if b = true then (0, 0, 0, [], false) else (e, c, t, l, true)) := by
  cases b <;> rfl
theorem told_loop : ∀ (q : List Str) (b : Bool) (e c t : Int) (acc : List J4) (last : Int) (f : Nat), (∀ w ∈ q, w.length ≤ 1000000) → q.length < f → acc.length + q.length ≤ 2000000 →
    Vk f q b e c t acc last = some (match N9 last q, b with | some l, false => (e, c, t, acc ++ l, true) | _, _ => (0, 0, 0, [], false)) := by
  intro q
  induction q with
  | nil =>
    intro b e c t acc last f h1 h2 h3
    obtain ⟨f, rfl⟩ : ∃ g, f = g + 1 := ⟨f - 1, by omega⟩
    show V4 (Vk f) _ _ _ _ _ _ _ = _
    unfold V4 Xi
    rw [show decide (((([] : List Str).length : Nat) : Int) > 0) = false from rfl, cond_false, Nh]
    cases b <;> simp [N9]
  | cons w q ih =>
    intro b e c t acc last f h1 h2 h3
    obtain ⟨f, rfl⟩ : ∃ g, f = g + 1 := ⟨f - 1, by simp at h2; omega⟩
    obtain ⟨x, hx, hy⟩ := sr_sent w q b (h1 w (by simp))
    simp only [List.length_cons] at h2 h3
    have step : ∀ b', Zp (Vk f) e c t acc (x.1, x.2.1, x.2.2.1, x.2.2.2, q, b || (D3 w).isNone) b' = some (match N9 x.1 q, b' with | some l, false => (e, c, t, acc ++ (x :: l), true) | _, _ => (0, 0, 0, [], false)) := fun b' => by
      unfold Zp
      rw [Be (by simp; omega)]
      simp only [Option.bind_some]
      rw [ih b' e c t (acc ++ [x]) x.1 f (fun v hv => h1 v (by simp [hv])) (by omega) (by simp; omega)]
      simp
    show V4 (Vk f) _ _ _ _ _ _ _ = _
    unfold V4
    rw [show decide ((((w :: q).length : Nat) : Int) > 0) = true by rw [decide_eq_true_eq, List.length_cons]; omega, cond_true, hx]
    simp only [Option.bind_some, step]
    cases hs : D3 w with
    | none =>
      simp only [Option.isNone_none, Bool.or_true, cond_true, N9, hs, Option.bind_none]
      cases N9 x.1 q <;> rfl
    | some y =>
      have := hy y hs
      subst this
      simp only [Option.isNone_some, Bool.or_false, N9, hs, Option.bind_some]
      by_cases hle : x.1 ≤ last
      · rw [decide_eq_true hle, if_pos hle]
        cases b <;> cases N9 x.1 q <;> rfl
      · rw [decide_eq_false hle, if_neg hle]
        cases b <;> cases N9 x.1 q <;> rfl
theorem lTold (s : Str) (h : s.length ≤ 1000000) : Z7 s = some (Ra (Ev (Q5 32 s))) := by
  unfold Z7
  rw [lSplit s 32 h]
  simp only [Option.bind_some, Es]
  have hl := J5 32 s
  have hcnt := Ng 32 s
  have hcl : s.count 32 ≤ s.length := List.count_le_length
  cases hw : Q5 32 s with
  | nil => exact absurd hw (Jk 32 s)
  | cons w q =>
    rw [hw] at hl hcnt
    have hq : ∀ x ∈ q, x.length ≤ 1000000 := fun x hx => by have := hl x (by simp [hx]); omega
    simp only [List.length_cons] at hcnt
    simp only [List.headD_cons, List.tail_cons, List.isEmpty_cons, Bool.or_false]
    rw [Gg]
    by_cases h1 : w = [101, 114, 114]
    · subst h1
      rw [if_pos rfl, show (([101, 114, 114] : Str) == [101, 114, 114]) = true from rfl, cond_true, sr_num q false hq]
      simp only [Option.bind_some, Zo]
      rcases q with _ | ⟨a, _ | ⟨c, r⟩⟩
      · rfl
      · cases ha : Zg a with
        | none => simp [ha, Ug, Nh, Ra, Ur]
        | some n =>
          by_cases hn : n = 0
          · subst hn; simp [ha, Ug, Nh, Ra, Ur]
          · simp [ha, Ug, Nh, Ra, Ur, hn, beq_eq_false_iff_ne.2 (show (n : Int) ≠ 0 by omega)]
      · cases ha : Zg a with
        | none => simp [ha, Ug, Nh, Ra, Ur]
        | some n =>
          have : decide ((0 : Int) < ((r.length : Nat) : Int) + 1) = true := by rw [decide_eq_true_eq]; omega
          by_cases hn : n = 0
          · subst hn; simp [ha, Ug, Nh, Ra, Ur]
          · simp [ha, Ug, Nh, Ra, Ur, hn, beq_eq_false_iff_ne.2 (show (n : Int) ≠ 0 by omega), this]
    · rw [if_neg h1, beq_eq_false_iff_ne.2 h1, cond_false]
      by_cases h2 : w = [111, 107]
      · subst h2
        rw [if_pos rfl, show (([111, 107] : Str) == [111, 107]) = true from rfl, cond_true, sr_num q false hq]
        simp only [Option.bind_some]
        rw [sr_num q.tail _ (fun x hx => hq x (List.mem_of_mem_tail hx))]
        simp only [Option.bind_some]
        rw [told_loop q.tail.tail _ _ _ _ _ _ Ye (fun x hx => hq x (List.mem_of_mem_tail (List.mem_of_mem_tail hx))) (by simp; unfold Ye; omega) (by simp; omega)]
        rcases q with _ | ⟨a, _ | ⟨c, r⟩⟩
        · simp [N9, Ra, G9]
        · simp [N9, Ra, G9]
        · cases ha : Zg a with
          | none => simp [ha, Ug, Ra, G9]
          | some n =>
            cases hc : Zg c with
            | none => simp [ha, hc, Ug, Ra, G9]
            | some m => simp [ha, hc, Ug, G9]; cases N9 (-1) r <;> rfl
      · rw [if_neg h2, beq_eq_false_iff_ne.2 h2, cond_false]
        rfl
end Go.Proofs.YtoflbpmbkmephaaGreatDoor
namespace Go.Proofs.YtoflbpmbkmephaaGreatDoor
open Go.RowKit
def Jz (x : J4) : Str := R6 x.1 ++ [61] ++ Zx x.2.1 ++ (if x.2.2.1 = true then [43] else []) ++ (if x.2.2.2 = true then [33] else [])
def okS (last : Int) : List J4 → Bool
  | [] => true
  | x :: r => (decide (last < x.1) && decide (x.1 ≤ 1099511627776)) && okS x.1 r
def tellE (o : Eu) : Bool := Bj o.1 && (decide (o.2.1 = 0) && (decide (o.2.2.1 = 0) && decide (o.2.2.2.length = 0)))
def tellK (o : Eu) : Bool := Bj o.2.1 && (Bj o.2.2.1 && okS (-1) o.2.2.2)
def Du (o : Eu) : List Str := [[101, 114, 114], R6 o.1]
def Ga (o : Eu) : List Str := [111, 107] :: R6 o.2.1 :: R6 o.2.2.1 :: o.2.2.2.map Jz
def Dv (o : Eu) : Str := if o.1 = 0 then (if tellK o = true then Gj 32 (Ga o) else []) else (if tellE o = true then Gj 32 (Du o) else [])
theorem lFlag (b : Bool) (w : Str) : Yv b w = some (if b = true then w else []) := by cases b <;> rfl
theorem E8 (q : List Str) (b : Bool) (h : b = false → (q.map List.length).sum + q.length ≤ 140737488355328) (hq : q.length ≤ 1000000) : Qs q b = some (if b = true then [] else Gj 32 q) := by
  unfold Qs
  cases b
  · have hl := G7 32 q
    have := h rfl
    unfold Yh
    rw [Bi, Nat.ble_eq_true_of_le (show q.length ≤ 140737488355328 by omega), Nat.ble_eq_true_of_le (show (Gj 32 q).length ≤ 140737488355328 by omega)]
    rfl
  · rfl
theorem tell_loop (l : List J4) (hl : l.length ≤ 100000) (hb : ∀ x ∈ l, x.2.1.length ≤ 1000000) : ∀ (d i f : Nat) (ws : List Str) (b : Bool) (last : Int), d = l.length - i → i ≤ l.length → d < f → ws.length ≤ 3 + i →
    Vp l f ws b last (i : Int) = Qs (ws ++ (l.drop i).map Jz) (b || !(okS last (l.drop i))) := by
  intro d
  induction d with
  | zero =>
    intro i f ws b last h1 h2 h3 h4
    obtain ⟨f, rfl⟩ : ∃ g, f = g + 1 := ⟨f - 1, by omega⟩
    show Zf (Vp l f) l ws b last (i : Int) = _
    unfold Zf
    rw [decide_eq_false (show ¬ ((i : Int) < ((l.length : Nat) : Int)) by omega), cond_false, List.drop_of_length_le (by omega)]
    simp only [List.map_nil, List.append_nil, okS, Bool.not_true, Bool.or_false]
    cases Qs ws b <;> rfl
  | succ d ih =>
    intro i f ws b last h1 h2 h3 h4
    obtain ⟨f, rfl⟩ : ∃ g, f = g + 1 := ⟨f - 1, by omega⟩
    have hi : i < l.length := by omega
    have hB := hb l[i] (List.getElem_mem hi)
    have hd := Uk l[i].1
    have hw := Bk l[i].2.1
    have step : ∀ b', Ze (Vp l f) ws (i : Int) l[i] b' = Qs (ws ++ (l.drop i).map Jz) (b' || !(okS l[i].1 (l.drop (i + 1)))) := fun b' => by
      unfold Ze
      simp only [Bx, Option.bind_some, lBytes _ hB, lFlag]
      rw [Be (by simp; omega)]
      simp only [Option.bind_some]
      rw [Be (by simp; omega)]
      simp only [Option.bind_some]
      rw [Be (by simp only [List.length_append, List.length_cons, List.length_nil]; split <;> simp <;> omega)]
      simp only [Option.bind_some]
      rw [Be (by simp only [List.length_append, List.length_cons, List.length_nil]; split <;> split <;> simp <;> omega)]
      simp only [Option.bind_some]
      rw [E7 _ _ _ (by simp only [List.length_cons, List.length_nil]; omega)]
      simp only [Option.bind_some]
      rw [show (i : Int) + 1 = ((i + 1 : Nat) : Int) by omega, R2 (by omega), ih (i + 1) f _ _ _ (by omega) (by omega) (by omega) (by simp only [List.length_append, List.length_cons, List.length_nil]; omega)]
      rw [List.drop_eq_getElem_cons hi, List.map_cons, List.append_assoc]
      rfl
    show Zf (Vp l f) l ws b last (i : Int) = _
    unfold Zf
    rw [decide_eq_true (show (i : Int) < ((l.length : Nat) : Int) by omega), cond_true, Ny hi]
    simp only [Option.bind_some, step]
    have hok : okS last (l.drop i) = ((decide (last < l[i].1) && decide (l[i].1 ≤ 1099511627776)) && okS l[i].1 (l.drop (i + 1))) := by rw [List.drop_eq_getElem_cons hi]; rfl
    rw [hok]
    cases b with
    | true => rfl
    | false =>
      simp only [cond_false, Bool.false_or]
      by_cases hc : l[i].1 ≤ last
      · rw [decide_eq_true hc, cond_true, decide_eq_false (show ¬ (last < l[i].1) by omega)]
        rfl
      · rw [decide_eq_false hc, cond_false, decide_eq_true (show last < l[i].1 by omega)]
        by_cases hg : l[i].1 > 1099511627776
        · rw [decide_eq_true hg, decide_eq_false (show ¬ (l[i].1 ≤ 1099511627776) by omega)]; rfl
        · rw [decide_eq_false hg, decide_eq_true (show l[i].1 ≤ 1099511627776 by omega)]; rfl
theorem C1 (x : J4) : (Jz x).length ≤ 2 * x.2.1.length + 17 := by
  have hd := Uk x.1
  have hw := Bk x.2.1
  unfold Jz
  simp only [List.length_append, List.length_cons, List.length_nil]
  split <;> split <;> simp <;> omega
theorem C2 {α : Type} (g : α → Nat) (M : Nat) : ∀ l : List α, (∀ x ∈ l, g x ≤ M) → (l.map g).sum ≤ l.length * M
  | [], _ => by simp
  | x :: l, h => by
    have ih := C2 g M l fun y hy => h y (by simp [hy])
    have := h x (by simp)
    simp only [List.map_cons, List.sum_cons, List.length_cons, Nat.succ_mul]
    omega
theorem Fu (o : Eu) (hl : o.2.2.2.length ≤ 100000) (hb : ∀ x ∈ o.2.2.2, x.2.1.length ≤ 1000000) : ((Ga o).map List.length).sum + (Ga o).length ≤ 140737488355328 := by
  have h1 := Uk o.2.1
  have h2 := Uk o.2.2.1
  have h3 := C2 (fun x => (Jz x).length) 2000017 o.2.2.2 fun x hx => by have := C1 x; have := hb x hx; omega
  have h4 : o.2.2.2.length * 2000017 ≤ 100000 * 2000017 := Nat.mul_le_mul_right _ hl
  unfold Ga
  simp only [List.map_cons, List.sum_cons, List.length_cons, List.length_nil, List.length_map, List.map_map]
  have : (o.2.2.2.map (List.length ∘ Jz)).sum = (o.2.2.2.map fun x => (Jz x).length).sum := rfl
  rw [this]
  omega
theorem lTell (o : Eu) (hl : o.2.2.2.length ≤ 100000) (hb : ∀ x ∈ o.2.2.2, x.2.1.length ≤ 1000000) : Z6 o.1 o.2.1 o.2.2.1 o.2.2.2 = some (Dv o) := by
  unfold Z6 Dv
  by_cases he : o.1 = 0
  · rw [if_pos he, show (o.1 != 0) = false by rw [he]; rfl, cond_false, E7 _ _ _ (by simp)]
    simp only [Option.bind_some, List.nil_append]
    rw [sw_num _ _ _ (by simp)]
    simp only [Option.bind_some]
    rw [sw_num _ _ _ (by simp)]
    simp only [Option.bind_some]
    have := tell_loop o.2.2.2 hl hb o.2.2.2.length 0 Ye [[111, 107], R6 o.2.1, R6 o.2.2.1] ((false || !(Bj o.2.1)) || !(Bj o.2.2.1)) (-1) (by omega) (by omega) (by unfold Ye; omega) (by simp)
    refine this.trans ?_
    rw [List.drop_zero]
    show Qs (Ga o) _ = _
    rw [E8 _ _ (fun _ => Fu o hl hb) (by simp [Ga]; omega)]
    unfold tellK
    cases Bj o.2.1 <;> cases Bj o.2.2.1 <;> cases okS (-1) o.2.2.2 <;> rfl
  · rw [if_neg he, show (o.1 != 0) = true by rw [bne_iff_ne]; exact he, cond_true, E7 _ _ _ (by simp)]
    simp only [Option.bind_some, List.nil_append]
    rw [sw_num _ _ _ (by simp)]
    simp only [Option.bind_some, Zd]
    have hd := Uk o.1
    have hlin : ∀ b, Qs ([[101, 114, 114]] ++ [R6 o.1]) b = some (if b = true then [] else Gj 32 (Du o)) := fun b => E8 _ b (fun _ => by simp; omega) (by simp)
    simp only [hlin, Option.bind_some]
    unfold tellE
    have z : decide (((List.length o.2.2.2 : Nat) : Int) > 0) = !(decide (o.2.2.2.length = 0)) := by rw [← decide_not]; exact decide_eq_decide.2 (by omega)
    rw [z]
    have n1 : (o.2.1 != 0) = !(decide (o.2.1 = 0)) := by
      by_cases h : o.2.1 = 0
      · rw [h]; rfl
      · rw [decide_eq_false h, bne_iff_ne.2 h]; rfl
    have n2 : (o.2.2.1 != 0) = !(decide (o.2.2.1 = 0)) := by
      by_cases h : o.2.2.1 = 0
      · rw [h]; rfl
      · rw [decide_eq_false h, bne_iff_ne.2 h]; rfl
    rw [n1, n2]
    cases Bj o.1 <;> cases decide (o.2.1 = 0) <;> cases decide (o.2.2.1 = 0) <;> cases decide (o.2.2.2.length = 0) <;> rfl
theorem Ew (s : Str) : ∃ a x, Zx s = a ++ [x] ∧ x ≠ 43 ∧ x ≠ 33 := by
  have hne : Zx s ≠ [] := by
    unfold Zx
    split
    · simp
    · rename_i h
      have := X4 s
      have hp := List.length_pos_iff.2 h
      intro e
      rw [e] at this
      simp at this
      omega
  have hm := List.getLast_mem hne
  refine ⟨(Zx s).dropLast, (Zx s).getLast hne, (List.dropLast_concat_getLast hne).symm, fun e => ?_, fun e => ?_⟩
  · rw [e] at hm; exact B4 (c := 43) (by decide) (by decide) s hm
  · rw [e] at hm; exact B4 (c := 33) (by decide) (by decide) s hm
theorem sfx_yes (c : UInt8) (a : Str) : sfx c (a ++ [c]) = (a, true) := by
  unfold sfx
  rw [if_pos (by simp)]
  simp
theorem sfx_no (c : UInt8) (a : Str) (x : UInt8) (h : x ≠ c) : sfx c (a ++ [x]) = (a ++ [x], false) := by
  unfold sfx
  rw [if_neg (by simpa using h)]
theorem sfx_inv {c : UInt8} {s a : Str} {b : Bool} (h : sfx c s = (a, b)) : s = a ++ (if b = true then [c] else []) := by
  unfold sfx at h
  split at h
  · rename_i hc
    injection h with h1 h2
    subst h1 h2
    have h0 : s ≠ [] := fun e => by rw [e] at hc; cases hc
    rw [List.getLast?_eq_some_getLast h0] at hc
    injection hc with hc
    rw [if_pos rfl, ← hc]
    exact (List.dropLast_concat_getLast h0).symm
  · injection h with h1 h2
    subst h1 h2
    simp
theorem sent_back (x : J4) (h : Bj x.1 = true) : D3 (Jz x) = some x := by
  obtain ⟨n, b, e, c⟩ := x
  obtain ⟨m, h1, h2⟩ := R7 h
  obtain ⟨a, z, hz, hz1, hz2⟩ := Ew b
  have hcut : Rw 61 (Jz (n, b, e, c)) = (R6 n, Zx b ++ (if e = true then [43] else []) ++ (if c = true then [33] else []), true) := by
    have := cutL_app 61 (R6 n) (Zx b ++ (if e = true then [43] else []) ++ (if c = true then [33] else [])) (Et (by decide) n)
    rw [← this]
    simp [Jz]
  have hs1 : sfx 33 (Zx b ++ (if e = true then [43] else []) ++ (if c = true then [33] else [])) = (Zx b ++ (if e = true then [43] else []), c) := by
    cases c
    · cases e
      · show sfx 33 (Zx b ++ [] ++ []) = (Zx b ++ [], false)
        rw [List.append_nil, List.append_nil, hz]; exact sfx_no 33 a z hz2
      · show sfx 33 (Zx b ++ [43] ++ []) = (Zx b ++ [43], false)
        rw [List.append_nil]; exact sfx_no 33 (Zx b) 43 (by decide)
    · exact sfx_yes 33 _
  have hs2 : sfx 43 (Zx b ++ (if e = true then [43] else [])) = (Zx b, e) := by
    cases e
    · show sfx 43 (Zx b ++ []) = (Zx b, false)
      rw [List.append_nil, hz]; exact sfx_no 43 a z hz1
    · exact sfx_yes 43 _
  unfold D3
  simp only [hcut, hs1, hs2]
  simp only at h1 h2
  rw [h1, bytes_unb]
  simp only [Option.bind_some, Option.map_some, h2]
theorem Fv {w : Str} {x : J4} (h : D3 w = some x) : Jz x = w ∧ Bj x.1 = true ∧ x.2.1.length ≤ w.length := by
  unfold D3 at h
  rcases hc : Rw 61 w with ⟨id, rest, is⟩
  rw [hc] at h
  cases is with
  | false => cases h
  | true =>
    simp only at h
    rcases hs1 : sfx 33 rest with ⟨r1, c⟩
    rw [hs1] at h
    simp only at h
    rcases hs2 : sfx 43 r1 with ⟨r2, e⟩
    rw [hs2] at h
    simp only [Option.bind_eq_some_iff, Option.map_eq_some_iff] at h
    obtain ⟨n, hn, b, hb, rfl⟩ := h
    obtain ⟨d1, d2⟩ := G8 hn
    have hw := cutL_true hc
    have i1 := sfx_inv hs1
    have i2 := sfx_inv hs2
    have hge := C0 b
    have e1 : Jz ((n : Int), b, e, c) = w := by
      unfold Jz
      simp only [d1, unb_bytes hb]
      rw [hw, i1, i2]
      simp
    refine ⟨e1, d2, ?_⟩
    rw [← e1]
    unfold Jz
    simp only [List.length_append]
    omega
theorem okS_fin {last : Int} {x : J4} {r : List J4} (h0 : -1 ≤ last) (h : okS last (x :: r) = true) : Bj x.1 = true ∧ last < x.1 ∧ okS x.1 r = true := by
  unfold okS at h
  simp only [Bool.and_eq_true, decide_eq_true_eq] at h
  refine ⟨?_, h.1.1, h.2⟩
  unfold Bj
  rw [decide_eq_true (by omega), decide_eq_true h.1.2]
  rfl
theorem Bl : ∀ (l : List J4) (last : Int), -1 ≤ last → okS last l = true → N9 last (l.map Jz) = some l
  | [], _, _, _ => rfl
  | x :: r, last, h0, h => by
    obtain ⟨h1, h2, h3⟩ := okS_fin h0 h
    rw [List.map_cons]
    unfold N9
    rw [sent_back x h1]
    simp only [Option.bind_some]
    rw [if_neg (by omega), Bl r x.1 (by omega) h3]
    rfl
theorem Dw : ∀ (q : List Str) (last : Int) (l : List J4), -1 ≤ last → N9 last q = some l → l.map Jz = q ∧ okS last l = true
  | [], _, l, _, h => by injection h with h; subst h; exact ⟨rfl, rfl⟩
  | w :: q, last, l, h0, h => by
    unfold N9 at h
    rw [Option.bind_eq_some_iff] at h
    obtain ⟨x, hx, h⟩ := h
    split at h
    · cases h
    · rename_i hle
      rw [Option.map_eq_some_iff] at h
      obtain ⟨r, hr, rfl⟩ := h
      obtain ⟨s1, s2, _⟩ := Fv hx
      obtain ⟨i1, i2⟩ := Dw q x.1 r (by omega) hr
      unfold Bj at s2
      rw [Bool.and_eq_true, decide_eq_true_eq, decide_eq_true_eq] at s2
      refine ⟨by rw [List.map_cons, s1, i1], ?_⟩
      unfold okS
      rw [decide_eq_true (show last < x.1 by omega), decide_eq_true s2.2, i2]
      rfl
theorem sentW_no (x : J4) : (32 : UInt8) ∉ Jz x := by
  unfold Jz
  have h1 := Et (c := 32) (by decide) x.1
  have h2 := B4 (c := 32) (by decide) (by decide) x.2.1
  simp only [List.mem_append]
  rintro ((((h | h) | h) | h) | h)
  · exact h1 h
  · simp at h
  · exact h2 h
  · split at h <;> simp at h
  · split at h <;> simp at h
theorem tell_told {o : Eu} (h : Dv o ≠ []) : Ev (Q5 32 (Dv o)) = some o := by
  unfold Dv at h ⊢
  obtain ⟨e, c, t, l⟩ := o
  simp only at h ⊢
  have hd : ∀ n, (32 : UInt8) ∉ R6 n := Et (by decide)
  by_cases he : e = 0
  · subst he
    rw [if_pos rfl] at h ⊢
    by_cases hk : tellK (0, c, t, l) = true
    · rw [if_pos hk] at h ⊢
      unfold tellK at hk
      simp only [Bool.and_eq_true] at hk
      obtain ⟨m, h1, h2⟩ := R7 hk.1
      obtain ⟨m', h3, h4⟩ := R7 hk.2.1
      rw [Ro 32 _ (by simp [Ga]) (fun w hw => by
        simp only [Ga, List.mem_cons, List.mem_map] at hw
        rcases hw with rfl | rfl | rfl | ⟨x, _, rfl⟩
        · decide
        · exact hd _
        · exact hd _
        · exact sentW_no x)]
      show Ev ([111, 107] :: _) = _
      rw [Gg, if_neg (by decide), if_pos rfl]
      unfold G9
      simp only [h1, h3, Option.bind_some]
      rw [Bl l (-1) (by omega) hk.2.2]
      simp only [Option.map_some, h2, h4]
    · rw [if_neg hk] at h
      exact absurd rfl h
  · rw [if_neg he] at h ⊢
    by_cases hk : tellE (e, c, t, l) = true
    · rw [if_pos hk] at h ⊢
      unfold tellE at hk
      simp only [Bool.and_eq_true, decide_eq_true_eq] at hk
      obtain ⟨hf, rfl, rfl, hl⟩ := hk
      have hl := List.length_eq_zero_iff.1 hl
      subst hl
      obtain ⟨m, h1, h2⟩ := R7 hf
      rw [Ro 32 _ (by simp [Du]) (fun w hw => by
        simp only [Du, List.mem_cons, List.not_mem_nil, or_false] at hw
        rcases hw with rfl | rfl
        · decide
        · exact hd _)]
      show Ev ([101, 114, 114] :: _) = _
      rw [Gg, if_pos rfl]
      unfold Ur
      simp only [h1, Option.bind_some]
      rw [if_neg (by omega), h2]
    · rw [if_neg hk] at h
      exact absurd rfl h
theorem told_inv {s : Str} {o : Eu} (h : Ev (Q5 32 s) = some o) : Dv o = s ∧ o.2.2.2.length ≤ s.length + 1 ∧ ∀ x ∈ o.2.2.2, x.2.1.length ≤ s.length := by
  have hlen := J5 32 s
  have hcnt := Ng 32 s
  have hcl : s.count 32 ≤ s.length := List.count_le_length
  have hj := Bh 32 s
  cases hw : Q5 32 s with
  | nil => exact absurd hw (Jk 32 s)
  | cons w q =>
    rw [hw] at h hlen hcnt hj
    rw [Gg] at h
    by_cases h1 : w = [101, 114, 114]
    · rw [if_pos h1] at h
      subst h1
      unfold Ur at h
      rcases q with _ | ⟨a, _ | ⟨b, r⟩⟩ <;> try (cases h; done)
      simp only [Option.bind_eq_some_iff] at h
      obtain ⟨n, hn, h⟩ := h
      split at h
      · cases h
      · rename_i h0
        injection h with h
        subst h
        obtain ⟨d1, d2⟩ := G8 hn
        refine ⟨?_, by simp, by simp⟩
        unfold Dv
        simp only
        rw [if_neg (by omega), if_pos (by unfold tellE; simp only [d2]; rfl)]
        rw [← hj]
        simp only [Du, d1]
    · rw [if_neg h1] at h
      by_cases h2 : w = [111, 107]
      · rw [if_pos h2] at h
        subst h2
        unfold G9 at h
        rcases q with _ | ⟨a, _ | ⟨b, r⟩⟩ <;> try (cases h; done)
        simp only [Option.bind_eq_some_iff, Option.map_eq_some_iff] at h
        obtain ⟨n, hn, m, hm, l, hl, rfl⟩ := h
        obtain ⟨d1, d2⟩ := G8 hn
        obtain ⟨d3, d4⟩ := G8 hm
        obtain ⟨t1, t2⟩ := Dw r (-1) l (by omega) hl
        refine ⟨?_, ?_, fun x hx => ?_⟩
        · unfold Dv
          simp only
          rw [if_pos trivial, if_pos (by unfold tellK; simp only [d2, d4, t2]; rfl), ← hj]
          simp only [Ga, d1, d3, t1]
        · have := congrArg List.length t1
          simp only [List.length_map] at this
          simp only [List.length_cons] at hcnt
          simp only
          omega
        · have hm : Jz x ∈ r := by rw [← t1]; exact List.mem_map.2 ⟨x, hx, rfl⟩
          have h5 := hlen (Jz x) (by simp [hm])
          have h6 := C0 x.2.1
          unfold Jz at h5
          simp only [List.length_append] at h5
          omega
      · rw [if_neg h2] at h
        cases h
theorem same_loop (a b : List J4) (hlen : a.length = b.length) (hl : a.length ≤ 140737488355328) : ∀ (d i f : Nat), d = a.length - i → i ≤ a.length → d < f → Q8 a b f (i : Int) = some (decide (a.drop i = b.drop i)) := by
  intro d
  induction d with
  | zero =>
    intro i f h1 h2 h3
    obtain ⟨f, rfl⟩ : ∃ g, f = g + 1 := ⟨f - 1, by omega⟩
    show Q7 (Q8 a b f) a b (i : Int) = _
    unfold Q7
    rw [decide_eq_false (show ¬ ((i : Int) < ((a.length : Nat) : Int)) by omega), cond_false, List.drop_of_length_le (by omega), List.drop_of_length_le (by omega)]
    rfl
  | succ d ih =>
    intro i f h1 h2 h3
    obtain ⟨f, rfl⟩ : ∃ g, f = g + 1 := ⟨f - 1, by omega⟩
    have hi : i < a.length := by omega
    have hib : i < b.length := by omega
    show Q7 (Q8 a b f) a b (i : Int) = _
    unfold Q7
    rw [decide_eq_true (show (i : Int) < ((a.length : Nat) : Int) by omega), cond_true, Ny hi, Ny hib]
    simp only [Option.bind_some]
    rw [List.drop_eq_getElem_cons hi, List.drop_eq_getElem_cons hib]
    have heq : ((a[i].1 == b[i].1) && ((a[i].2.1 == b[i].2.1) && ((a[i].2.2.1 == b[i].2.2.1) && (a[i].2.2.2 == b[i].2.2.2)))) = decide (a[i] = b[i]) := by
      generalize a[i] = x
      generalize b[i] = y
      obtain ⟨x1, x2, x3, x4⟩ := x
      obtain ⟨y1, y2, y3, y4⟩ := y
      rw [Bool.eq_iff_iff]
      simp
    rw [heq]
    by_cases hx : a[i] = b[i]
    · rw [decide_eq_true hx, show (i : Int) + 1 = ((i + 1 : Nat) : Int) by omega, R2 (by omega)]
      simp only [Bool.not_true, cond_false]
      rw [ih (i + 1) f (by omega) (by omega) (by omega), hx]
      congr 1
      exact decide_eq_decide.2 (by rw [List.cons.injEq]; simp only [true_and])
    · rw [decide_eq_false hx]
      simp only [Bool.not_false, cond_true]
      congr 1
      symm
      rw [decide_eq_false_iff_not]
      intro e
      injection e with e _
      exact hx e
theorem same_out (a b : Eu) (hl : a.2.2.2.length ≤ 140737488355328) : ∃ r, Q1 a.1 a.2.1 a.2.2.1 a.2.2.2 b.1 b.2.1 b.2.2.1 b.2.2.2 = some r ∧ (r = true ↔ a = b) := by
  obtain ⟨a1, a2, a3, a4⟩ := a
  obtain ⟨b1, b2, b3, b4⟩ := b
  unfold Q1 Q9
  simp only [Prod.mk.injEq]
  by_cases h1 : a1 = b1
  · subst h1
    by_cases h2 : a2 = b2
    · subst h2
      by_cases h3 : a3 = b3
      · subst h3
        simp only [bne_self_eq_false, cond_false, true_and]
        by_cases h4 : a4.length = b4.length
        · have := same_loop a4 b4 h4 hl a4.length 0 Ye (by omega) (by omega) (by unfold Ye; simp only at hl; omega)
          rw [List.drop_zero, List.drop_zero] at this
          rw [h4, bne_self_eq_false, cond_false]
          exact ⟨_, this, decide_eq_true_iff⟩
        · rw [show (((a4.length : Nat) : Int) != ((b4.length : Nat) : Int)) = true by rw [bne_iff_ne]; omega, cond_true]
          exact ⟨_, rfl, by simp only [Bool.false_eq_true, false_iff]; intro e; exact h4 (by rw [e])⟩
      · rw [bne_self_eq_false, bne_self_eq_false, show (a3 != b3) = true from bne_iff_ne.2 h3]
        exact ⟨_, rfl, by simp [h3]⟩
    · rw [bne_self_eq_false, show (a2 != b2) = true from bne_iff_ne.2 h2]
      exact ⟨_, rfl, by simp [h2]⟩
  · rw [show (a1 != b1) = true from bne_iff_ne.2 h1]
    exact ⟨_, rfl, by simp [h1]⟩
theorem B5 (l : List J4) (hl : l.length ≤ 140737488355328) (hb : ∀ x ∈ l, x.2.1.length ≤ 140737488355328) : ∀ (d i f n : Nat), d = l.length - i → i ≤ l.length → d < f → n ≤ 140737488355328 + 9000 →
    ∃ b, Qx l f (n : Int) (i : Int) = some b ∧ (b = false → n + ((l.drop i).map fun x => x.2.1.length).sum < 9000) := by
  intro d
  induction d with
  | zero =>
    intro i f n h1 h2 h3 h4
    obtain ⟨f, rfl⟩ : ∃ g, f = g + 1 := ⟨f - 1, by omega⟩
    show ∃ b, Q3 (Qx l f) l (n : Int) (i : Int) = some b ∧ _
    unfold Q3 Vd
    rw [decide_eq_false (show ¬ ((i : Int) < ((l.length : Nat) : Int)) by omega), cond_false, cond_false, List.drop_of_length_le (by omega)]
    refine ⟨_, rfl, fun h => ?_⟩
    have := of_decide_eq_false h
    simp
    omega
  | succ d ih =>
    intro i f n h1 h2 h3 h4
    obtain ⟨f, rfl⟩ : ∃ g, f = g + 1 := ⟨f - 1, by omega⟩
    have hi : i < l.length := by omega
    show ∃ b, Q3 (Qx l f) l (n : Int) (i : Int) = some b ∧ _
    unfold Q3 Vd
    rw [decide_eq_true (show (i : Int) < ((l.length : Nat) : Int) by omega), cond_true]
    by_cases hn : n < 9000
    · rw [decide_eq_true (show (n : Int) < 9000 by omega), cond_true, Ny hi]
      simp only [Option.bind_some]
      have hm : (if (9000 : Int) < ((List.length l[i].2.1 : Nat) : Int) then (9000 : Int) else ((List.length l[i].2.1 : Nat) : Int)) = ((min l[i].2.1.length 9000 : Nat) : Int) := by split <;> omega
      rw [hm, show (n : Int) + ((min l[i].2.1.length 9000 : Nat) : Int) = ((n + min l[i].2.1.length 9000 : Nat) : Int) by omega, show (i : Int) + 1 = ((i + 1 : Nat) : Int) by omega, R2 (by omega), R2 (by omega)]
      obtain ⟨b, hb1, hb2⟩ := ih (i + 1) f (n + min l[i].2.1.length 9000) (by omega) (by omega) (by omega) (by omega)
      refine ⟨b, hb1, fun h => ?_⟩
      have := hb2 h
      rw [List.drop_eq_getElem_cons hi, List.map_cons, List.sum_cons]
      omega
    · rw [decide_eq_false (show ¬ ((n : Int) < 9000) by omega), cond_false]
      refine ⟨_, rfl, fun h => ?_⟩
      have := of_decide_eq_false h
      omega
theorem mem_sum {α : Type} (g : α → Nat) : ∀ (l : List α) (x : α), x ∈ l → g x ≤ (l.map g).sum
  | y :: l, x, h => by
    rcases List.mem_cons.1 h with rfl | h
    · simp
    · have := mem_sum g l x h
      simp only [List.map_cons, List.sum_cons]
      omega
theorem Ex (e c t : Int) (l : List J4) (hl : l.length ≤ 140737488355328) (hb : ∀ x ∈ l, x.2.1.length ≤ 140737488355328) :
    ∃ b, Zz e c t l = some b ∧ (b = false → l.length < 9000 ∧ (l.map fun x => x.2.1.length).sum < 9000) := by
  obtain ⟨b, h1, h2⟩ := B5 l hl hb l.length 0 Ye l.length (by omega) (by omega) (by unfold Ye; omega) (by omega)
  refine ⟨b, h1, fun h => ?_⟩
  have := h2 h
  rw [List.drop_zero] at this
  omega
end Go.Proofs.YtoflbpmbkmephaaGreatDoor
namespace Go.Proofs.YtoflbpmbkmephaaGreatDoor
theorem same_zero : Q1 0 0 0 [] 0 0 0 [] = some true := by decide +kernel
theorem tellL_len (o : Eu) (h1 : o.2.2.2.length ≤ 9000) (h2 : (o.2.2.2.map fun x => x.2.1.length).sum ≤ 9000) : (Dv o).length ≤ 1000000 := by
  have d1 := Uk o.1
  have d2 := Uk o.2.1
  have d3 := Uk o.2.2.1
  have hs : ∀ l : List J4, (l.map fun x => (Jz x).length).sum ≤ 2 * (l.map fun x => x.2.1.length).sum + 17 * l.length := by
    intro l
    induction l with
    | nil => simp
    | cons x l ih =>
      have := C1 x
      simp only [List.map_cons, List.sum_cons, List.length_cons]
      omega
  have h3 := hs o.2.2.2
  unfold Dv
  split
  · split
    · have := G7 32 (Ga o)
      unfold Ga at this ⊢
      simp only [List.map_cons, List.sum_cons, List.length_cons, List.length_nil, List.length_map, List.map_map] at this
      have e : (o.2.2.2.map (List.length ∘ Jz)).sum = (o.2.2.2.map fun x => (Jz x).length).sum := rfl
      rw [e] at this
      omega
    · simp
  · split
    · have := G7 32 (Du o)
      unfold Du at this ⊢
      simp only [List.map_cons, List.sum_cons, List.length_cons, List.length_nil, List.map_nil, List.sum_nil] at this
      omega
    · simp
theorem Rb (s : Str) (hs : s.length ≤ 9000) : Va s true = some true := by
  unfold Va
  rw [lTold s (by omega)]
  simp only [Option.bind_some]
  cases ho : Ev (Q5 32 s) with
  | none =>
    simp only [Ra, cond_true, cond_false, Bool.not_false, same_zero, Option.bind_some]
    rfl
  | some o =>
    obtain ⟨h1, h2, h3⟩ := told_inv ho
    have hl := lTell o (by omega) (fun x hx => by have := h3 x hx; omega)
    rw [h1] at hl
    simp only [Ra, cond_true, hl, Option.bind_some, beq_self_eq_true]
    rfl
theorem R4 (e c t : Int) (l : List J4) (s : Str) (hn : ∀ n ∈ [e, c, t], -9223372036854775808 ≤ n ∧ n ≤ 9223372036854775807) (hl : l.length ≤ 140737488355328) (hb : ∀ x ∈ l, (-9223372036854775808 ≤ x.1 ∧ x.1 ≤ 9223372036854775807) ∧ x.2.1.length ≤ 140737488355328) :
    Za e c t l s = some true := by
  unfold Za
  obtain ⟨b, hg, hq⟩ := Ex e c t l hl fun x hx => (hb x hx).2
  rw [scrHead, hg]
  simp only [Option.bind_some]
  cases b with
  | true => rfl
  | false =>
    obtain ⟨q1, q2⟩ := hq rfl
    simp only [cond_false]
    by_cases hs : ((List.length s : Nat) : Int) > 9000
    · rw [decide_eq_true hs]; rfl
    · rw [decide_eq_false hs]
      have hs : s.length ≤ 9000 := by omega
      have hB : ∀ x ∈ l, x.2.1.length ≤ 1000000 := fun x hx => by have := mem_sum (fun x : J4 => x.2.1.length) l x hx; omega
      have hT := lTell (e, c, t, l) (by show l.length ≤ _; omega) hB
      unfold Vh
      simp only at hT
      rw [hT]
      simp only [cond_false, Option.bind_some]
      by_cases hne : Dv (e, c, t, l) = []
      · rw [hne]
        exact Rb s hs
      · rw [beq_eq_false_iff_ne.2 hne]
        simp only [Bool.not_false, cond_true]
        rw [lTold _ (tellL_len (e, c, t, l) (by show l.length ≤ _; omega) (by show (l.map fun x => x.2.1.length).sum ≤ _; omega)), tell_told hne]
        simp only [Ra, Option.bind_some, Bool.not_true, cond_false]
        obtain ⟨r, hr1, hr2⟩ := same_out (e, c, t, l) (e, c, t, l) hl
        simp only at hr1
        rw [hr1, hr2.2 rfl]
        exact Rb s hs
end Go.Proofs.YtoflbpmbkmephaaGreatDoor
namespace Go.Proofs.YtoflbpmbkmephaaGreatDoor
open Go.RowKit Go.ChangeShapes Go.WideShapes Go.Deep
theorem own : ownKnob Tryz.prog.godebug = none := by kernel_rfl
theorem laidOut : laidOutB Tryz.prog = true := by kernel_rfl
section
variable {H : Type} {enc : TypeId × Value → H} {W : World} {spare : Nat → Bool} {held : Bool} {base b0 : Nat} {r : Reach}
end
end Go.Proofs.YtoflbpmbkmephaaGreatDoor
namespace Go.Proofs.YtoflbpmbkmephaaGreatDoor
open Go.RowKit Go.ChangeShapes Go.WideShapes Go.Deep
section
variable {H : Type} {enc : TypeId × Value → H} {P : Program} {W : World}
def Rds (enc : TypeId × Value → H) (P : Program) (W : World) (t : TypeId) {α : Type} (e : Enc α) (Q : Nat → α → Prop) : Prop :=
  ∀ (Ye : Nat) (cs : List Value) (x : DataW H × List MemPlace), DataW.trod enc P W 0 (fun _ => true) true Ye t cs = some x → ∃ a, cs = e.enc a ∧ ∀ r, (x.1.weights P t).all (· ≤ r) = true → Q r a
def RdsFs (enc : TypeId × Value → H) (P : Program) (W : World) (o : Nat) (fs : List (TypeId × Nat)) {α : Type} (e : Enc α) (Q : Nat → α → Prop) : Prop :=
  ∀ (Ye : Nat) (cs : List Value) (xs : List (DataW H × List MemPlace)), xs.length = fs.length → (∀ (i : Nat) f, fs[i]? = some f → DataW.trod enc P W 0 (fun _ => true) true Ye f.1 ((cs.drop f.2).take (P.cellsOf f.1)) = xs[i]?) →
    ∃ a, (cs.drop o).take e.sz = e.enc a ∧ ∀ r, (DataW.weightsEach P (fs.map (·.1)) (xs.map (·.1))).all (· ≤ r) = true → Q r a
theorem B6 {t : TypeId} {k : IntKind} (ht : P.underlying t = some (.int k)) : Rds enc P W t (Ub k) (fun _ n => (Lit.int k n).wf = true) := by
  intro Ye cs x h
  obtain ⟨n, rfl, rfl, hw⟩ := DataW.trod_int ht h
  exact ⟨n, rfl, fun _ _ => hw⟩
theorem rds_str {t : TypeId} (ht : P.underlying t = some .string) : Rds enc P W t Qi (fun r s => s.length ≤ r) := by
  intro Ye cs x h
  obtain ⟨s, rfl, rfl, hs⟩ := DataW.trod_string ht h
  refine ⟨s.data.toList, rfl, fun r hr => ?_⟩
  simpa [DataW.weights] using hr
theorem E9 {t : TypeId} (ht : P.underlying t = some .bool) : Rds enc P W t Vb (fun _ _ => True) := by
  intro Ye cs x h
  cases Ye with
  | zero => simp [DataW.trod] at h
  | succ n =>
    unfold DataW.trod at h
    rw [ht] at h
    split at h
    · exact ⟨_, rfl, fun _ _ => trivial⟩
    all_goals simp_all
theorem fs_one {t : TypeId} {o : Nat} {α : Type} {e : Enc α} {Q : Nat → α → Prop} (h : Rds enc P W t e Q) (hc : P.cellsOf t = e.sz) : RdsFs enc P W o [(t, o)] e Q := by
  intro Ye cs xs hl hf
  match xs, hl with
  | [x], _ =>
    have := hf 0 (t, o) rfl
    obtain ⟨a, ha, hq⟩ := h Ye _ _ this
    rw [hc] at ha
    refine ⟨a, ha, fun r hr => hq r ?_⟩
    simpa [DataW.weightsEach] using hr
theorem Rp {t : TypeId} {o : Nat} {fs : List (TypeId × Nat)} {α β : Type} {e : Enc α} {e' : Enc β} {Q : Nat → α → Prop} {Q' : Nat → β → Prop} (h : Rds enc P W t e Q) (hc : P.cellsOf t = e.sz) (hr : RdsFs enc P W (o + e.sz) fs e' Q') :
    RdsFs enc P W o ((t, o) :: fs) (Ql e e') (fun r a => Q r a.1 ∧ Q' r a.2) := by
  intro Ye cs xs hl hf
  match xs, hl with
  | x :: xs, hl =>
    have := hf 0 (t, o) rfl
    obtain ⟨a, ha, hq⟩ := h Ye _ _ this
    obtain ⟨b, hb, hq'⟩ := hr Ye cs xs (by simpa using hl) (fun i f hi => by have := hf (i + 1) f (by simpa using hi); simpa using this)
    refine ⟨(a, b), ?_, fun r hw => ?_⟩
    · show (cs.drop o).take (e.sz + e'.sz) = e.enc a ++ e'.enc b
      rw [hc] at ha
      rw [← ha, ← hb, List.take_add, List.drop_drop]
    · simp only [List.map_cons, DataW.weightsEach, List.all_append, Bool.and_eq_true] at hw
      exact ⟨hq r hw.1, hq' r hw.2⟩
theorem Bm {t : TypeId} {l : List (TypeId × Nat)} {α : Type} {e : Enc α} {Q : Nat → α → Prop} (hl : (match P.underlying t with | some (.struct fs) => some (fs.toList.map (fun f => (f.type, f.offset))) | _ => none) = some l) (hc : P.cellsOf t = e.sz)
    (hr : RdsFs enc P W 0 l e Q) : Rds enc P W t e Q := by
  intro Ye cs x hx
  split at hl
  · rename_i fs hs
    simp only [Option.some.injEq] at hl
    subst hl
    obtain ⟨xs, n, _, rfl, hlen, hxs, hg⟩ := DataW.trod_struct hs hx
    obtain ⟨a, ha, hq⟩ := hr n cs xs (by simpa using hxs) (fun i f hi => by
      rw [List.getElem?_map, Option.map_eq_some_iff] at hi
      obtain ⟨f', hf', rfl⟩ := hi
      exact hg i f' (by simpa using hf'))
    rw [List.drop_zero, List.take_of_length_le (by omega)] at ha
    refine ⟨a, ha, fun r hw => hq r ?_⟩
    simp only [DataW.weights, hs] at hw
    simpa [List.map_map, Function.comp_def] using hw
  · cases hl
theorem Gq {t : TypeId} {n : Nat} : ∀ {ds : List (DataW H)} {d : DataW H}, d ∈ ds → n ∈ d.weights P t → n ∈ DataW.weightsAll P t ds
  | d0 :: ds, d, hd, hn => by
    simp only [DataW.weightsAll, List.mem_append]
    rcases List.mem_cons.1 hd with rfl | h
    · exact .inl hn
    · exact .inr (Gq h hn)
theorem rds_row {t te : TypeId} {α : Type} {e : Enc α} {Q : Nat → α → Prop} (ht : P.underlying t = some (.slice te)) (h : Rds enc P W te e Q) (hc : P.cellsOf te = e.sz) (h0 : 0 < e.sz) {Ye : Nat} {cs : List Value} {x : DataW H × List MemPlace}
    (hx : DataW.trod enc P W 0 (fun _ => true) true Ye t cs = some x) :
    ∃ (A : Option Addr) (c : Nat) (l : List α), cs = [.slice A l.length c] ∧ RdT e W A c l ∧ ∀ r, (x.1.weights P t).all (· ≤ r) = true → l.length * P.bytesOf te ≤ r ∧ ∀ a ∈ l, Q r a := by
  rcases DataW.trod_slice ht hx with ⟨rfl, rfl⟩ | ⟨a, len, cap, elems, rest, n, _, rfl, rfl, _, hl, hm, hlen, hel, _, _⟩
  · exact ⟨none, 0, [], rfl, RdT.nil _ W, fun r _ => ⟨by simp, fun a ha => by cases ha⟩⟩
  · have each : ∀ i, i ≤ len → ∃ l : List α, l.length = i ∧ ∀ j (hj : j < l.length), W.cells? 0 (a.add (j * P.cellsOf te)) (P.cellsOf te) = some (e.enc l[j]) ∧ ∀ y, elems[j]? = some y → ∀ r, (y.1.weights P te).all (· ≤ r) = true → Q r l[j] := by
      intro i
      induction i with
      | zero => exact fun _ => ⟨[], rfl, fun j hj => by simp at hj⟩
      | succ i ih =>
        intro hi
        obtain ⟨l, hll, hlg⟩ := ih (by omega)
        have := hel i (by omega)
        rw [List.getElem?_eq_getElem (by omega), Option.bind_eq_some_iff] at this
        obtain ⟨cs', h1, h2⟩ := this
        obtain ⟨b, rfl, hb⟩ := h n cs' _ h2
        refine ⟨l ++ [b], by simp [hll], fun j hj => ?_⟩
        by_cases hji : j < l.length
        · rw [List.getElem_append_left hji]
          exact hlg j hji
        · obtain rfl : j = i := by simp at hj; omega
          subst hll
          rw [List.getElem_concat_length rfl]
          refine ⟨h1, fun y hy => ?_⟩
          rw [List.getElem?_eq_getElem (by omega), Option.some.injEq] at hy
          subst hy
          exact hb
    obtain ⟨l, hll, hlg⟩ := each len (Nat.le_refl _)
    subst hll
    refine ⟨some a, cap, l, rfl, ⟨by rw [V5], hl, hm, fun hn => ?_⟩, fun r hw => ?_⟩
    · have cell : ∀ j (hj : j < l.length) k, k < e.sz → W.cell? ((a.add (j * e.sz)).add k) = (e.enc l[j])[k]? := by
        intro j hj k hk
        have := (hlg j hj).1
        rw [hc] at this
        exact (World.cells?_some this).2.2 k hk
      have c0 := cell 0 hn 0 h0
      rw [Nat.zero_mul, List.getElem?_eq_getElem (by rw [e.len]; exact h0)] at c0
      obtain ⟨b, off, spot⟩ := a
      obtain rfl : spot = none := by simpa [Addr.add] using World.cell?_spot c0
      have hadd : ∀ i j : Nat, ((⟨b, off, none⟩ : Addr).add i).add j = ⟨b, off + (i + j), none⟩ := by
        intro i j
        unfold Addr.add
        by_cases hi : i = 0 <;> by_cases hj : j = 0 <;> simp [hi, hj, Nat.add_assoc]
      rw [hadd] at c0
      refine ⟨b, off, rfl, block_lt_of_cell c0, fun j u hu => ?_⟩
      have hlen2 := (List.getElem?_eq_some_iff.1 hu).1
      rw [V5] at hlen2
      have hq : j / e.sz < l.length := Nat.div_lt_of_lt_mul (by rw [Nat.mul_comm]; exact hlen2)
      have hk : j % e.sz < e.sz := Nat.mod_lt _ h0
      have hj : j = j / e.sz * e.sz + j % e.sz := by rw [Nat.mul_comm]; exact (Nat.div_add_mod j e.sz).symm
      have hce := cell (j / e.sz) hq (j % e.sz) hk
      rw [hadd, ← hj] at hce
      rw [hce]
      have hgt := U1 e (l := l) (i := j / e.sz) (x := l[j / e.sz]) (List.getElem?_eq_getElem hq) (j := j % e.sz) (u := (e.enc l[j / e.sz])[j % e.sz]'(by rw [e.len]; exact hk)) (List.getElem?_eq_getElem _)
      rw [← hj, hu] at hgt
      rw [List.getElem?_eq_getElem (by rw [e.len]; exact hk), ← hgt]
    · simp only [DataW.weights, ht, List.all_cons, Bool.and_eq_true, decide_eq_true_eq, List.all_append] at hw
      refine ⟨Nat.le_trans (Nat.mul_le_mul_right _ (by simp; omega)) hw.1, fun b hb => ?_⟩
      obtain ⟨j, hj, rfl⟩ := List.mem_iff_getElem.1 hb
      refine (hlg j hj).2 _ (List.getElem?_eq_getElem (by omega)) r ?_
      rw [List.all_eq_true] at hw ⊢
      intro m hm'
      exact hw.2.1 m (Gq (List.mem_map.2 ⟨_, List.getElem_mem (by omega), rfl⟩) hm')
variable {r0 : Reach} {b0 : Nat}
theorem open_agg {t : TypeId} {fs : Array Field} {α : Type} {e : Enc α} {Q : Nat → α → Prop} (hs : P.underlying t = some (.struct fs)) (h : Rds enc P W t e Q) {v : Value} {d : DataW H} {p : List MemPlace} (hv : Value.okWide P W r0 b0 t v)
    (hd : DataW.Trod enc P W 0 (fun _ => true) true t v d p) (hr : ∀ n ∈ d.weights P t, n ≤ reachBytes) : ∃ a, v = .agg ⟨e.enc a⟩ ∧ Q reachBytes a := by
  obtain ⟨cs, rfl, hsz⟩ := okWide_struct hs hv
  obtain ⟨Ye, hf⟩ := hd
  obtain ⟨a, ha, hq⟩ := h Ye _ _ hf
  refine ⟨a, ?_, hq _ (by rw [List.all_eq_true]; intro n hn; exact decide_eq_true (hr n hn))⟩
  simp only [Value.cells] at ha
  rw [← ha]
end
end Go.Proofs.YtoflbpmbkmephaaGreatDoor
namespace Go.Proofs.YtoflbpmbkmephaaGreatDoor
theorem reachM : reachBytes ≤ 140737488355328 := by decide
section
variable {H : Type} {enc : TypeId × Value → H} {P : Program} {W : World}
theorem rds_rowq {t te : TypeId} {α : Type} {e : Enc α} {Q : Nat → α → Prop} (ht : P.underlying t = some (.slice te)) (h : Rds enc P W te e Q) (hc : P.cellsOf te = e.sz) (h0 : 0 < e.sz) (hb : Nat.ble 1 (P.bytesOf te) = true) :
    Rds enc P W t (eDS e) (fun r x => RdT e W x.1 x.2.1 x.2.2 ∧ x.2.2.length ≤ r ∧ ∀ a ∈ x.2.2, Q r a) := by
  intro Ye cs x hx
  obtain ⟨A, c, l, rfl, hr, hq⟩ := rds_row ht h hc h0 hx
  refine ⟨(A, c, l), rfl, fun r hw => ?_⟩
  obtain ⟨h1, h2⟩ := hq r hw
  exact ⟨hr, Nat.le_trans (Nat.le_mul_of_pos_right _ (Nat.le_of_ble_eq_true hb)) h1, h2⟩
abbrev SentV := Int × List UInt8 × Bool × Bool
def SentQ (r : Nat) (x : SentV) : Prop := (Lit.int .i64 x.1).wf = true ∧ x.2.1.length ≤ r ∧ True ∧ True
theorem sent_rds : Rds enc Tryz.prog W 108 (Ql (Ub .i64) (Ql Qi (Ql Vb Vb))) SentQ :=
  Bm (l := [(3, 0), (9, 1), (4, 2), (4, 3)]) (by kernel_rfl) (by kernel_rfl)
    (Rp (B6 Tryz.underlying3) (by kernel_rfl) (Rp (rds_str Tryz.underlying9) (by kernel_rfl) (Rp (E9 Tryz.underlying4) (by kernel_rfl) (fs_one (E9 Tryz.underlying4) (by kernel_rfl)))))
abbrev eSent : Enc SentV := Ql (Ub .i64) (Ql Qi (Ql Vb Vb))
def OutQ (W : World) (r : Nat) (c : Int × Int × Int × DS SentV) : Prop := (Lit.int .i64 c.1).wf = true ∧ (Lit.int .i64 c.2.1).wf = true ∧ (Lit.int .i64 c.2.2.1).wf = true ∧
  (RdT eSent W c.2.2.2.1 c.2.2.2.2.1 c.2.2.2.2.2 ∧ c.2.2.2.2.2.length ≤ r ∧ ∀ y ∈ c.2.2.2.2.2, SentQ r y)
theorem out_rds : Rds enc Tryz.prog W 55 (Ql (Ub .i64) (Ql (Ub .i64) (Ql (Ub .i64) (eDS eSent)))) (OutQ W) :=
  Bm (l := [(27, 0), (3, 1), (3, 2), (53, 3)]) (by kernel_rfl) (by kernel_rfl)
    (Rp (B6 Tryz.underlying27) (by kernel_rfl) (Rp (B6 Tryz.underlying3) (by kernel_rfl) (Rp (B6 Tryz.underlying3) (by kernel_rfl)
      (fs_one (rds_rowq Tryz.underlying53 sent_rds (by kernel_rfl) (by decide) (by kernel_rfl)) (by kernel_rfl)))))
theorem open_out {r0 : Reach} {b0 : Nat} {v : Value} {d : DataW H} {p : List MemPlace} (hv : Value.okWide Tryz.prog W r0 b0 55 v) (hd : DataW.Trod enc Tryz.prog W 0 (fun _ => true) true 55 v d p) (hr : ∀ n ∈ d.weights Tryz.prog 55, n ≤ reachBytes) :
    ∃ (a b c : Int) (A : Option Addr) (k : Nat) (l : List SentV), v = .agg #[.int .i64 a, .int .i64 b, .int .i64 c, .slice A (List.length l) k] ∧ OutQ W reachBytes (a, b, c, A, k, l) := by
  obtain ⟨⟨a, b, c, A, k, l⟩, rfl, q⟩ := open_agg Tryz.underlying55 out_rds hv hd hr
  exact ⟨a, b, c, A, k, l, rfl, q⟩
theorem out_q {W : World} {a b c : Int} {A : Option Addr} {k : Nat} {l : List SentV} (h : OutQ W reachBytes (a, b, c, A, k, l)) : (∀ n ∈ [a, b, c], -9223372036854775808 ≤ n ∧ n ≤ 9223372036854775807) ∧ l.length ≤ 140737488355328 ∧ ∀ x ∈ l, (-9223372036854775808 ≤ x.1 ∧ x.1 ≤ 9223372036854775807) ∧ x.2.1.length ≤ 140737488355328 := by
  have hM := reachM
  have w : ∀ {n : Int}, (Lit.int .i64 n).wf = true → -9223372036854775808 ≤ n ∧ n ≤ 9223372036854775807 := fun {n} h => by
    simp [Lit.wf, IntKind.min, IntKind.max, IntKind.signed, IntKind.bits] at h
    omega
  obtain ⟨h1, h2, h3, _, h4, h5⟩ := h
  refine ⟨fun n hn => ?_, Nat.le_trans h4 hM, fun x hx => ⟨w (h5 x hx).1, Nat.le_trans (h5 x hx).2.1 hM⟩⟩
  simp only [List.mem_cons, List.not_mem_nil, or_false] at hn
  rcases hn with rfl | rfl | rfl
  · exact w h1
  · exact w h2
  · exact w h3
end
end Go.Proofs.YtoflbpmbkmephaaGreatDoor
