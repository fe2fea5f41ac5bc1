import Derived.Test.YtoflbpmbkmephaaGreatDoorPkScriptDrawn2
set_option linter.unusedSimpArgs false
set_option linter.unusedVariables false
set_option linter.unusedSectionVars false
set_option maxRecDepth 100000
set_option maxHeartbeats 4000000
namespace Go.Proofs.YtoflbpmbkmephaaGreatDoor
open Go.RowKit
def Yb  : Option Unit :=
  (some ())
set_option maxHeartbeats 40000000 in
theorem Zp   (w0 : World)  (r : Unit) (H : Yb  = some r) :
  Calls Tryz.prog 69 #[] w0 (fun e w' => ∃ (g1 : Nat), e = .returned (.map (some g1)) ∧ SP [] w0 w' [Cu g1 R4]) := by
 unfold Yb at H
 refine Qj (n := 12) Tryz.func69 K K K ?_
 have a := Q7 [] w0
 refine aQ ?_
 refine aR ?_
 refine iR 1 1 [(0, (.map none))] ?_
 refine iF ?_
 refine aQ ?_
 refine aR ?_
 refine iS 1 ?_
 refine Fi (T := 113) (dst := (some 1)) (o := 0) K rfl a ?_
 intro g2 w3 b
 refine iR 1 2 [(2, (.agg #[(.string ⟨List.toArray ([99, 111, 110, 110, 101, 99, 116] : List UInt8)⟩), (.func (.func 112) #[] #[]), (.func (.func 113) #[] #[])]))] ?_
 refine iS 3 ?_
 refine Y8 (T := 113) (kt := 3) (et := 118) (m := g2) (L := []) (k := (.int .i64 1)) (v := (.agg #[(.string ⟨List.toArray ([99, 111, 110, 110, 101, 99, 116] : List UInt8)⟩), (.func (.func 112) #[] #[]), (.func (.func 113) #[] #[])])) (d := (.int .i64)) (x := (.tmp 1)) (ix := (.const (.int .i64 (1)))) (y := (.tmp 2)) (i := 0) (dst := none) (o := 2) K rfl K K K K K K K K b rfl ?_
 intro w6 c
 refine iR 1 4 [(3, (.agg #[(.string ⟨List.toArray ([98, 121, 116, 101, 115] : List UInt8)⟩), (.func (.func 116) #[] #[]), (.func (.func 117) #[] #[])]))] ?_
 refine iS 5 ?_
 refine Y8 (T := 113) (kt := 3) (et := 118) (m := g2) (L := ([] ++ [((.int .i64 1), (.agg #[(.string ⟨List.toArray ([99, 111, 110, 110, 101, 99, 116] : List UInt8)⟩), (.func (.func 112) #[] #[]), (.func (.func 113) #[] #[])]))])) (k := (.int .i64 2)) (v := (.agg #[(.string ⟨List.toArray ([98, 121, 116, 101, 115] : List UInt8)⟩), (.func (.func 116) #[] #[]), (.func (.func 117) #[] #[])])) (d := (.int .i64)) (x := (.tmp 1)) (ix := (.const (.int .i64 (2)))) (y := (.tmp 3)) (i := 0) (dst := none) (o := 4) K rfl K K K K K K K K c rfl ?_
 intro w9 f
 refine iR 1 6 [(4, (.agg #[(.string ⟨List.toArray ([98, 117, 100, 103, 101, 116] : List UInt8)⟩), (.func (.func 118) #[] #[]), (.func (.func 119) #[] #[])]))] ?_
 refine iS 7 ?_
 refine Y8 (T := 113) (kt := 3) (et := 118) (m := g2) (L := (([] ++ [((.int .i64 1), (.agg #[(.string ⟨List.toArray ([99, 111, 110, 110, 101, 99, 116] : List UInt8)⟩), (.func (.func 112) #[] #[]), (.func (.func 113) #[] #[])]))]) ++ [((.int .i64 2), (.agg #[(.string ⟨List.toArray ([98, 121, 116, 101, 115] : List UInt8)⟩), (.func (.func 116) #[] #[]), (.func (.func 117) #[] #[])]))])) (k := (.int .i64 3)) (v := (.agg #[(.string ⟨List.toArray ([98, 117, 100, 103, 101, 116] : List UInt8)⟩), (.func (.func 118) #[] #[]), (.func (.func 119) #[] #[])])) (d := (.int .i64)) (x := (.tmp 1)) (ix := (.const (.int .i64 (3)))) (y := (.tmp 4)) (i := 0) (dst := none) (o := 6) K rfl K K K K K K K K f rfl ?_
 intro t g
 refine iR 1 8 [(5, (.agg #[(.string ⟨List.toArray ([104, 97, 108, 102] : List UInt8)⟩), (.func (.func 120) #[] #[]), (.func (.func 121) #[] #[])]))] ?_
 refine iS 9 ?_
 refine Y8 (T := 113) (kt := 3) (et := 118) (m := g2) (L := ((([] ++ [((.int .i64 1), (.agg #[(.string ⟨List.toArray ([99, 111, 110, 110, 101, 99, 116] : List UInt8)⟩), (.func (.func 112) #[] #[]), (.func (.func 113) #[] #[])]))]) ++ [((.int .i64 2), (.agg #[(.string ⟨List.toArray ([98, 121, 116, 101, 115] : List UInt8)⟩), (.func (.func 116) #[] #[]), (.func (.func 117) #[] #[])]))]) ++ [((.int .i64 3), (.agg #[(.string ⟨List.toArray ([98, 117, 100, 103, 101, 116] : List UInt8)⟩), (.func (.func 118) #[] #[]), (.func (.func 119) #[] #[])]))])) (k := (.int .i64 4)) (v := (.agg #[(.string ⟨List.toArray ([104, 97, 108, 102] : List UInt8)⟩), (.func (.func 120) #[] #[]), (.func (.func 121) #[] #[])])) (d := (.int .i64)) (x := (.tmp 1)) (ix := (.const (.int .i64 (4)))) (y := (.tmp 5)) (i := 0) (dst := none) (o := 8) K rfl K K K K K K K K g rfl ?_
 intro u h
 refine iR 1 10 [(6, (.agg #[(.string ⟨List.toArray ([114, 101, 115, 101, 116] : List UInt8)⟩), (.func (.func 122) #[] #[]), (.func (.func 123) #[] #[])]))] ?_
 refine iS 11 ?_
 refine Y8 (T := 113) (kt := 3) (et := 118) (m := g2) (L := (((([] ++ [((.int .i64 1), (.agg #[(.string ⟨List.toArray ([99, 111, 110, 110, 101, 99, 116] : List UInt8)⟩), (.func (.func 112) #[] #[]), (.func (.func 113) #[] #[])]))]) ++ [((.int .i64 2), (.agg #[(.string ⟨List.toArray ([98, 121, 116, 101, 115] : List UInt8)⟩), (.func (.func 116) #[] #[]), (.func (.func 117) #[] #[])]))]) ++ [((.int .i64 3), (.agg #[(.string ⟨List.toArray ([98, 117, 100, 103, 101, 116] : List UInt8)⟩), (.func (.func 118) #[] #[]), (.func (.func 119) #[] #[])]))]) ++ [((.int .i64 4), (.agg #[(.string ⟨List.toArray ([104, 97, 108, 102] : List UInt8)⟩), (.func (.func 120) #[] #[]), (.func (.func 121) #[] #[])]))])) (k := (.int .i64 5)) (v := (.agg #[(.string ⟨List.toArray ([114, 101, 115, 101, 116] : List UInt8)⟩), (.func (.func 122) #[] #[]), (.func (.func 123) #[] #[])])) (d := (.int .i64)) (x := (.tmp 1)) (ix := (.const (.int .i64 (5)))) (y := (.tmp 6)) (i := 0) (dst := none) (o := 10) K rfl K K K K K K K K h rfl ?_
 intro w j
 refine iR 1 12 [(7, (.agg #[(.string ⟨List.toArray ([116, 105, 99, 107] : List UInt8)⟩), (.func (.func 124) #[] #[]), (.func (.func 125) #[] #[])]))] ?_
 refine iS 13 ?_
 refine Y8 (T := 113) (kt := 3) (et := 118) (m := g2) (L := ((((([] ++ [((.int .i64 1), (.agg #[(.string ⟨List.toArray ([99, 111, 110, 110, 101, 99, 116] : List UInt8)⟩), (.func (.func 112) #[] #[]), (.func (.func 113) #[] #[])]))]) ++ [((.int .i64 2), (.agg #[(.string ⟨List.toArray ([98, 121, 116, 101, 115] : List UInt8)⟩), (.func (.func 116) #[] #[]), (.func (.func 117) #[] #[])]))]) ++ [((.int .i64 3), (.agg #[(.string ⟨List.toArray ([98, 117, 100, 103, 101, 116] : List UInt8)⟩), (.func (.func 118) #[] #[]), (.func (.func 119) #[] #[])]))]) ++ [((.int .i64 4), (.agg #[(.string ⟨List.toArray ([104, 97, 108, 102] : List UInt8)⟩), (.func (.func 120) #[] #[]), (.func (.func 121) #[] #[])]))]) ++ [((.int .i64 5), (.agg #[(.string ⟨List.toArray ([114, 101, 115, 101, 116] : List UInt8)⟩), (.func (.func 122) #[] #[]), (.func (.func 123) #[] #[])]))])) (k := (.int .i64 6)) (v := (.agg #[(.string ⟨List.toArray ([116, 105, 99, 107] : List UInt8)⟩), (.func (.func 124) #[] #[]), (.func (.func 125) #[] #[])])) (d := (.int .i64)) (x := (.tmp 1)) (ix := (.const (.int .i64 (6)))) (y := (.tmp 7)) (i := 0) (dst := none) (o := 12) K rfl K K K K K K K K j rfl ?_
 intro z l
 refine iR 1 14 [(8, (.agg #[(.string ⟨List.toArray ([114, 101, 118, 111, 107, 101] : List UInt8)⟩), (.func (.func 126) #[] #[]), (.func (.func 128) #[] #[])]))] ?_
 refine iS 15 ?_
 refine Y8 (T := 113) (kt := 3) (et := 118) (m := g2) (L := (((((([] ++ [((.int .i64 1), (.agg #[(.string ⟨List.toArray ([99, 111, 110, 110, 101, 99, 116] : List UInt8)⟩), (.func (.func 112) #[] #[]), (.func (.func 113) #[] #[])]))]) ++ [((.int .i64 2), (.agg #[(.string ⟨List.toArray ([98, 121, 116, 101, 115] : List UInt8)⟩), (.func (.func 116) #[] #[]), (.func (.func 117) #[] #[])]))]) ++ [((.int .i64 3), (.agg #[(.string ⟨List.toArray ([98, 117, 100, 103, 101, 116] : List UInt8)⟩), (.func (.func 118) #[] #[]), (.func (.func 119) #[] #[])]))]) ++ [((.int .i64 4), (.agg #[(.string ⟨List.toArray ([104, 97, 108, 102] : List UInt8)⟩), (.func (.func 120) #[] #[]), (.func (.func 121) #[] #[])]))]) ++ [((.int .i64 5), (.agg #[(.string ⟨List.toArray ([114, 101, 115, 101, 116] : List UInt8)⟩), (.func (.func 122) #[] #[]), (.func (.func 123) #[] #[])]))]) ++ [((.int .i64 6), (.agg #[(.string ⟨List.toArray ([116, 105, 99, 107] : List UInt8)⟩), (.func (.func 124) #[] #[]), (.func (.func 125) #[] #[])]))])) (k := (.int .i64 7)) (v := (.agg #[(.string ⟨List.toArray ([114, 101, 118, 111, 107, 101] : List UInt8)⟩), (.func (.func 126) #[] #[]), (.func (.func 128) #[] #[])])) (d := (.int .i64)) (x := (.tmp 1)) (ix := (.const (.int .i64 (7)))) (y := (.tmp 8)) (i := 0) (dst := none) (o := 14) K rfl K K K K K K K K l rfl ?_
 intro a0 p
 refine iR 1 16 [(9, (.agg #[(.string ⟨List.toArray ([101, 118, 105, 99, 116] : List UInt8)⟩), (.func (.func 130) #[] #[]), (.func (.func 131) #[] #[])]))] ?_
 refine iS 17 ?_
 refine Y8 (T := 113) (kt := 3) (et := 118) (m := g2) (L := ((((((([] ++ [((.int .i64 1), (.agg #[(.string ⟨List.toArray ([99, 111, 110, 110, 101, 99, 116] : List UInt8)⟩), (.func (.func 112) #[] #[]), (.func (.func 113) #[] #[])]))]) ++ [((.int .i64 2), (.agg #[(.string ⟨List.toArray ([98, 121, 116, 101, 115] : List UInt8)⟩), (.func (.func 116) #[] #[]), (.func (.func 117) #[] #[])]))]) ++ [((.int .i64 3), (.agg #[(.string ⟨List.toArray ([98, 117, 100, 103, 101, 116] : List UInt8)⟩), (.func (.func 118) #[] #[]), (.func (.func 119) #[] #[])]))]) ++ [((.int .i64 4), (.agg #[(.string ⟨List.toArray ([104, 97, 108, 102] : List UInt8)⟩), (.func (.func 120) #[] #[]), (.func (.func 121) #[] #[])]))]) ++ [((.int .i64 5), (.agg #[(.string ⟨List.toArray ([114, 101, 115, 101, 116] : List UInt8)⟩), (.func (.func 122) #[] #[]), (.func (.func 123) #[] #[])]))]) ++ [((.int .i64 6), (.agg #[(.string ⟨List.toArray ([116, 105, 99, 107] : List UInt8)⟩), (.func (.func 124) #[] #[]), (.func (.func 125) #[] #[])]))]) ++ [((.int .i64 7), (.agg #[(.string ⟨List.toArray ([114, 101, 118, 111, 107, 101] : List UInt8)⟩), (.func (.func 126) #[] #[]), (.func (.func 128) #[] #[])]))])) (k := (.int .i64 8)) (v := (.agg #[(.string ⟨List.toArray ([101, 118, 105, 99, 116] : List UInt8)⟩), (.func (.func 130) #[] #[]), (.func (.func 131) #[] #[])])) (d := (.int .i64)) (x := (.tmp 1)) (ix := (.const (.int .i64 (8)))) (y := (.tmp 9)) (i := 0) (dst := none) (o := 16) K rfl K K K K K K K K p rfl ?_
 intro a1 q
 refine iR 1 18 [(10, (.agg #[(.string ⟨List.toArray ([100, 114, 97, 105, 110] : List UInt8)⟩), (.func (.func 132) #[] #[]), (.func (.func 133) #[] #[])]))] ?_
 refine iS 19 ?_
 refine Y8 (T := 113) (kt := 3) (et := 118) (m := g2) (L := (((((((([] ++ [((.int .i64 1), (.agg #[(.string ⟨List.toArray ([99, 111, 110, 110, 101, 99, 116] : List UInt8)⟩), (.func (.func 112) #[] #[]), (.func (.func 113) #[] #[])]))]) ++ [((.int .i64 2), (.agg #[(.string ⟨List.toArray ([98, 121, 116, 101, 115] : List UInt8)⟩), (.func (.func 116) #[] #[]), (.func (.func 117) #[] #[])]))]) ++ [((.int .i64 3), (.agg #[(.string ⟨List.toArray ([98, 117, 100, 103, 101, 116] : List UInt8)⟩), (.func (.func 118) #[] #[]), (.func (.func 119) #[] #[])]))]) ++ [((.int .i64 4), (.agg #[(.string ⟨List.toArray ([104, 97, 108, 102] : List UInt8)⟩), (.func (.func 120) #[] #[]), (.func (.func 121) #[] #[])]))]) ++ [((.int .i64 5), (.agg #[(.string ⟨List.toArray ([114, 101, 115, 101, 116] : List UInt8)⟩), (.func (.func 122) #[] #[]), (.func (.func 123) #[] #[])]))]) ++ [((.int .i64 6), (.agg #[(.string ⟨List.toArray ([116, 105, 99, 107] : List UInt8)⟩), (.func (.func 124) #[] #[]), (.func (.func 125) #[] #[])]))]) ++ [((.int .i64 7), (.agg #[(.string ⟨List.toArray ([114, 101, 118, 111, 107, 101] : List UInt8)⟩), (.func (.func 126) #[] #[]), (.func (.func 128) #[] #[])]))]) ++ [((.int .i64 8), (.agg #[(.string ⟨List.toArray ([101, 118, 105, 99, 116] : List UInt8)⟩), (.func (.func 130) #[] #[]), (.func (.func 131) #[] #[])]))])) (k := (.int .i64 9)) (v := (.agg #[(.string ⟨List.toArray ([100, 114, 97, 105, 110] : List UInt8)⟩), (.func (.func 132) #[] #[]), (.func (.func 133) #[] #[])])) (d := (.int .i64)) (x := (.tmp 1)) (ix := (.const (.int .i64 (9)))) (y := (.tmp 10)) (i := 0) (dst := none) (o := 18) K rfl K K K K K K K K q rfl ?_
 intro a2 s
 refine iR 2 21 [(11, (.map (some g2))), (0, (.map (some g2)))] ?_
 refine iF ?_
 refine At.ret K ?_
 refine ⟨(.map (some g2)), K, ?_⟩
 obtain rfl := Qc H
 exact ⟨g2, rfl, SP.sel s [0] rfl rfl⟩
def V1 (a : ((List (List UInt8)) × Bool × Int × Int × Int × (List UInt8) × Int × (List UInt8) × (List UInt8) × (List UInt8))) (b : Bool) : Option (Int × Int × Int × (List UInt8) × Int × (List UInt8) × (List UInt8) × (List UInt8) × Bool) :=
  (cond b (some (0, 0, 0, ([] : List UInt8), 0, ([] : List UInt8), ([] : List UInt8), ([] : List UInt8), false)) (some (a.2.2.1, a.2.2.2.1, a.2.2.2.2.1, a.2.2.2.2.2.1, a.2.2.2.2.2.2.1, a.2.2.2.2.2.2.2.1, a.2.2.2.2.2.2.2.2.1, a.2.2.2.2.2.2.2.2.2, true)))
def Zh (p1 : (List UInt8)) : Option (Int × Int × Int × (List UInt8) × Int × (List UInt8) × (List UInt8) × (List UInt8) × Bool) :=
  ((Xa p1 ([32] : List UInt8)).bind fun z6 => ((Qu z6 false).bind fun b => ((Yb ).bind fun d => (optE (B0 b.1) (some (0, 0, 0, ([] : List UInt8), 0, ([] : List UInt8), ([] : List UInt8), ([] : List UInt8), false)) (fun c => ((Cw c b.2.1 b.2.2 c 0 0 ([] : List UInt8) 0 ([] : List UInt8) ([] : List UInt8) ([] : List UInt8)).bind fun a => (cond a.2.1 (V1 a true) (V1 a (decide (((List.length a.1 : Nat) : Int) > 0))))))))))
set_option maxHeartbeats 40000000 in
theorem Xu  (p1 : (List UInt8)) (w0 : World) (hL : Yr w0)  (r : (Int × Int × Int × (List UInt8) × Int × (List UInt8) × (List UInt8) × (List UInt8) × Bool)) (H : Zh p1 = some r) :
  Calls Tryz.prog 31 #[(.string ⟨List.toArray p1⟩)] w0 (fun e w' => e = .returned (.tuple #[(.agg #[(.int .i64 r.1), (.int .i64 r.2.1), (.int .u32 r.2.2.1), (.string ⟨List.toArray r.2.2.2.1⟩), (.int .i64 r.2.2.2.2.1), (.string ⟨List.toArray r.2.2.2.2.2.1⟩), (.string ⟨List.toArray r.2.2.2.2.2.2.1⟩), (.string ⟨List.toArray r.2.2.2.2.2.2.2.1⟩)]), (.bool r.2.2.2.2.2.2.2.2)]) ∧ SP [] w0 w' []) := by
 unfold Zh at H
 refine Qj (n := 47) Tryz.func31 K K K ?_
 have d2 := Q7 [] w0
 refine aQ ?_
 refine aR ?_
 refine iS 1 ?_
 refine Qf.alloc (t := 52) (z := (.agg #[(.int .i64 0), (.int .i64 0), (.int .u32 0), (.string ⟨List.toArray ([] : List UInt8)⟩), (.int .i64 0), (.string ⟨List.toArray ([] : List UInt8)⟩), (.string ⟨List.toArray ([] : List UInt8)⟩), (.string ⟨List.toArray ([] : List UInt8)⟩)])) (d := (some 2)) (k := 0) K rfl K d2 ?_
 intro g2 w3 d3
 refine iR 1 2 [(3, (.bool false))] ?_
 refine iF ?_
 refine aQ ?_
 refine aR ?_
 refine iR 1 1 [(9, (.string ⟨List.toArray p1⟩))] ?_
 obtain ⟨z6, d4, H⟩ := Qa H
 refine iS 2 ?_
 refine cF 67 #[(.tmp 9), (.const (.string ⟨List.toArray ([32] : List UInt8)⟩))] #[9, 9] 10 Tryz.call67 (Ju  p1 ([32] : List UInt8) w3  z6 d4) ?_
 rintro e w8 ⟨a1, a2, rfl, b7⟩
 refine ⟨_, rfl, ?_⟩
 have d5 := SP.call d3 b7
 clear b7
 refine iR 1 3 [(11, (.agg #[(.slice a1 (List.length z6) a2), (.bool false)]))] ?_
 refine iS 4 ?_
 refine Zq (t := 112) (x := (.tmp 11)) (v := (.agg #[(.slice a1 (List.length z6) a2), (.bool false)])) (d := (some 12)) (k := 3) K rfl K d5 ?_
 intro j b8 d6
 refine iR 1 5 [(4, (pt j 0))] ?_
 refine iF ?_
 refine aQ ?_
 refine aR ?_
 refine iR 1 1 [(13, (pt j 0))] ?_
 obtain ⟨p, d7, H⟩ := Qa H
 refine iS 2 ?_
 have b9 : SP [] w0 b8 [Qh g2 52 #[(.int .i64 0), (.int .i64 0), (.int .u32 0), (.string ⟨List.toArray ([] : List UInt8)⟩), (.int .i64 0), (.string ⟨List.toArray ([] : List UInt8)⟩), (.string ⟨List.toArray ([] : List UInt8)⟩), (.string ⟨List.toArray ([] : List UInt8)⟩)], rdE Qg a1 a2 z6, Qh j 112 #[(.slice a1 (List.length z6) a2), (.bool false)]] := E2 d6 (i := 1) rfl
 refine cF 68 #[(.tmp 13)] #[109] 14 Tryz.call68 (Q1 j a1 a2 z6 false b8 (Q2 b9 [2, 1] rfl rfl) p d7) ?_
 rintro e c0 ⟨a3, a4, rfl, c1⟩
 refine ⟨_, rfl, ?_⟩
 have d8 : SP [] w0 c0 [Qh g2 52 #[(.int .i64 0), (.int .i64 0), (.int .u32 0), (.string ⟨List.toArray ([] : List UInt8)⟩), (.int .i64 0), (.string ⟨List.toArray ([] : List UInt8)⟩), (.string ⟨List.toArray ([] : List UInt8)⟩), (.string ⟨List.toArray ([] : List UInt8)⟩)], Qh j 112 #[(.slice a3 (List.length p.2.1) a4), (.bool p.2.2)], rdE Qg a3 a4 p.2.1] := Qk b9 [2, 1] [0] rfl rfl c1 rfl
 clear c1
 refine iR 1 3 [(5, (.string ⟨List.toArray p.1⟩))] ?_
 refine iF ?_
 refine aQ ?_
 refine aQ ?_
 refine aR ?_
 obtain ⟨d9, e0, H⟩ := Qa H
 refine iS 1 ?_
 refine cF 69 #[] #[] 15 Tryz.call69 (Zp   c0  d9 e0) ?_
 rintro e f4 ⟨a8, rfl, c2⟩
 refine ⟨_, rfl, ?_⟩
 have e1 := SP.call d8 c2
 clear c2
 refine iS 2 ?_
 refine En (kne p.1) (T := 113) (kt := 3) (et := 118) (m := a8) (L := R4) (x := (.tmp 15)) (i := 3) (dst := (some 16)) (o := 1) K rfl K K e1 rfl ?_
 intro a5 f5 e2
 refine iF ?_
 refine J3 K (id := 0) K ?_
 refine De K (fun f ρ w => ∃ a9, V5 ρ [(2, (pt g2 0)), (4, (pt j 0)), (5, (.string ⟨List.toArray p.1⟩)), (16, (pt a5 0))] ∧ SP [] w0 w [Qh g2 52 #[(.int .i64 0), (.int .i64 0), (.int .u32 0), (.string ⟨List.toArray ([] : List UInt8)⟩), (.int .i64 0), (.string ⟨List.toArray ([] : List UInt8)⟩), (.string ⟨List.toArray ([] : List UInt8)⟩), (.string ⟨List.toArray ([] : List UInt8)⟩)], Qh j 112 #[(.slice a3 (List.length p.2.1) a4), (.bool p.2.2)], rdE Qg a3 a4 p.2.1, Fj a8 a5 R4 (kne p.1) a9] ∧ a9 < f) (by rintro ρ w ⟨q, _, _, hq⟩; exact absurd hq (Nat.not_lt_zero _)) ?_ ((List.length R4) + 1) ?_
 ·rintro f ρ f6 ⟨a9, e3, c3, e4⟩
  refine At.known [(2, (pt g2 0)), (4, (pt j 0)), (5, (.string ⟨List.toArray p.1⟩)), (16, (pt a5 0))] e3 ?_
  refine aQ ?_
  refine aR ?_
  refine iS 1 ?_
  refine Fk (x := (.tmp 16)) (dst := (some 17)) (o := 0) K rfl K c3 (i := 3) rfl (fun hall43 => ?_) (fun f7 e5 f8 e6 e7 c4 => ?_)
  ·rw [ktab_none hall43] at H
   have H := optN H
   refine iR 1 2 [(18, (.bool false))] ?_
   refine iF ?_
   refine aQ ?_
   refine Z8 K (o := (.tmp 18)) K (b := false) K (fun c5 => ?_) (fun c5 => ?_)
   ·cases c5
   refine At.exit K (id := 0) K ?_
   refine aQ ?_
   refine aR ?_
   refine iR 1 1 [(46, (.agg #[(.int .i64 0), (.int .i64 0), (.int .u32 0), (.string ⟨List.toArray ([] : List UInt8)⟩), (.int .i64 0), (.string ⟨List.toArray ([] : List UInt8)⟩), (.string ⟨List.toArray ([] : List UInt8)⟩), (.string ⟨List.toArray ([] : List UInt8)⟩)]))] ?_
   refine iS 2 ?_
   refine Qf.store (t := 52) (x := (.tmp 2)) (y := (.tmp 46)) (g := g2) (off := 0) (i := 0) (v := (.agg #[(.int .i64 0), (.int .i64 0), (.int .u32 0), (.string ⟨List.toArray ([] : List UInt8)⟩), (.int .i64 0), (.string ⟨List.toArray ([] : List UInt8)⟩), (.string ⟨List.toArray ([] : List UInt8)⟩), (.string ⟨List.toArray ([] : List UInt8)⟩)])) (cs' := #[(.int .i64 0), (.int .i64 0), (.int .u32 0), (.string ⟨List.toArray ([] : List UInt8)⟩), (.int .i64 0), (.string ⟨List.toArray ([] : List UInt8)⟩), (.string ⟨List.toArray ([] : List UInt8)⟩), (.string ⟨List.toArray ([] : List UInt8)⟩)]) (d := none) (k := 1) K rfl K K c3 rfl K ?_
   intro f9 c6
   refine iR 1 3 [(3, (.bool false))] ?_
   refine iF ?_
   refine At.ret K ?_
   refine ⟨(.tuple #[(.agg #[(.int .i64 0), (.int .i64 0), (.int .u32 0), (.string ⟨List.toArray ([] : List UInt8)⟩), (.int .i64 0), (.string ⟨List.toArray ([] : List UInt8)⟩), (.string ⟨List.toArray ([] : List UInt8)⟩), (.string ⟨List.toArray ([] : List UInt8)⟩)]), (.bool false)]), res_2 K (Gz (a := 2) (t := 52) (g := g2) (off := 0) K (SP.get c6 (i := 0) rfl) K) (Cf (t := 3) K), ?_⟩
   obtain rfl := Qc H
   exact ⟨rfl, SP.sel c6 [] rfl rfl⟩
  ·obtain ⟨h, c7, rfl⟩ := ktab_mem e6
   refine iR 1 2 [(18, (.bool true))] ?_
   refine iF ?_
   refine aQ ?_
   refine Z8 K (o := (.tmp 18)) K (b := true) K (fun c8 => ?_) (fun c8 => ?_)
   rotate_left
   ·cases c8
   refine At.skip K ?_
   refine J3 K (id := 1) K ?_
   refine aQ ?_
   refine aR ?_
   refine iS 1 ?_
   refine Eo (x := (.tmp 16)) (dst := (some 19)) (o := 0) K rfl K (SP.get c4 (i := 3) rfl) ?_
   refine iR 2 3 [(20, (.int .i64 h)), (21, (.agg #[(.string ⟨List.toArray (Vo h)⟩), (.func (.func (J7 h)) #[] #[]), (.func (.func (J8 h)) #[] #[])]))] ?_
   refine iS 4 ?_
   refine Qf.alloc (t := 118) (z := (.agg #[(.string ⟨List.toArray ([] : List UInt8)⟩), .nilFunc, .nilFunc])) (d := (some 7)) (k := 3) K rfl K c4 ?_
   intro u g0 e8
   refine iR 1 5 [(6, (.int .i64 h))] ?_
   refine iS 6 ?_
   refine Qf.store (t := 118) (x := (.tmp 7)) (y := (.tmp 21)) (g := u) (off := 0) (i := 4) (v := (.agg #[(.string ⟨List.toArray (Vo h)⟩), (.func (.func (J7 h)) #[] #[]), (.func (.func (J8 h)) #[] #[])])) (cs' := #[(.string ⟨List.toArray (Vo h)⟩), (.func (.func (J7 h)) #[] #[]), (.func (.func (J8 h)) #[] #[])]) (d := none) (k := 5) K rfl K K e8 rfl K ?_
   intro g1 b0
   refine iF ?_
   refine aQ ?_
   refine aQ ?_
   refine aR ?_
   refine iR 1 1 [(22, (pt u 0))] ?_
   refine iS 2 ?_
   refine sL 9 22 u 0 4 (.string ⟨List.toArray (Vo h)⟩) 23 b0 rfl ?_
   refine iR 1 3 [(24, (.string ⟨List.toArray p.1⟩))] ?_
   refine iS 4 ?_
   refine Va (op := .neq) (T := 9) (T' := 9) (x := (.tmp 23)) (y := (.tmp 24)) (a := (Vo h)) (b := p.1) (r := (.bool (!((Vo h) == p.1)))) (d := (some 25)) (k := 3) K rfl K K rfl ?_
   refine iF ?_
   refine Z8 K (o := (.tmp 25)) K (b := (!((Vo h) == p.1))) K (fun b1 => ?_) (fun b1 => ?_)
   ·skip
    refine At.exit K (id := 1) K ?_
    have e9 := SP.sel (SP.tback b0 (i := 3) rfl (kne_of c7 b1)) [0, 1, 2, 3] rfl rfl
    exact ⟨_, ⟨K, K, K, K, trivial⟩, e9, Nat.lt_of_lt_of_le e7 (Nat.le_of_lt_succ e4)⟩
   ·rw [ktab_hit c7 b1] at H
    have H := optS H
    refine At.skip K ?_
    refine aQ ?_
    refine aR ?_
    refine iR 2 2 [(26, (.int .i64 h)), (27, (.agg #[(.int .i64 h), (.int .i64 0), (.int .u32 0), (.string ⟨List.toArray ([] : List UInt8)⟩), (.int .i64 0), (.string ⟨List.toArray ([] : List UInt8)⟩), (.string ⟨List.toArray ([] : List UInt8)⟩), (.string ⟨List.toArray ([] : List UInt8)⟩)]))] ?_
    refine iS 3 ?_
    refine Qf.alloc (t := 52) (z := (.agg #[(.int .i64 0), (.int .i64 0), (.int .u32 0), (.string ⟨List.toArray ([] : List UInt8)⟩), (.int .i64 0), (.string ⟨List.toArray ([] : List UInt8)⟩), (.string ⟨List.toArray ([] : List UInt8)⟩), (.string ⟨List.toArray ([] : List UInt8)⟩)])) (d := (some 8)) (k := 2) K rfl K b0 ?_
    intro s g3 f0
    refine iS 4 ?_
    refine Qf.store (t := 52) (x := (.tmp 8)) (y := (.tmp 27)) (g := s) (off := 0) (i := 5) (v := (.agg #[(.int .i64 h), (.int .i64 0), (.int .u32 0), (.string ⟨List.toArray ([] : List UInt8)⟩), (.int .i64 0), (.string ⟨List.toArray ([] : List UInt8)⟩), (.string ⟨List.toArray ([] : List UInt8)⟩), (.string ⟨List.toArray ([] : List UInt8)⟩)])) (cs' := #[(.int .i64 h), (.int .i64 0), (.int .u32 0), (.string ⟨List.toArray ([] : List UInt8)⟩), (.int .i64 0), (.string ⟨List.toArray ([] : List UInt8)⟩), (.string ⟨List.toArray ([] : List UInt8)⟩), (.string ⟨List.toArray ([] : List UInt8)⟩)]) (d := none) (k := 3) K rfl K K f0 rfl K ?_
    intro f1 a6
    refine iF ?_
    refine aQ ?_
    refine aR ?_
    refine iR 1 1 [(28, (pt u 2))] ?_
    refine iS 2 ?_
    refine sL 116 28 u 2 4 (.func (.func (J8 h)) #[] #[]) 29 a6 rfl ?_
    refine iR 1 3 [(30, (pt j 0))] ?_
    obtain ⟨c, f2, H⟩ := Qa H
    refine iS 4 ?_
    refine Ri (f := (J8 h)) (fo := (.tmp 29)) (xs := #[(.tmp 30), (.tmp 8)]) (tys := #[109, 119]) (first := #[]) (captured := #[]) (d := (some 31)) (k := 3) K rfl K K (Fm h) (Er h j a3 a4 s p.2.1 p.2.2 h 0 0 ([] : List UInt8) 0 ([] : List UInt8) ([] : List UInt8) ([] : List UInt8) f1 (fun w hm => Qr hL (Xp a6 (l := [1, 2, 5]) rfl hm)) (Q2 a6 [1, 2, 5] rfl rfl) c f2) ?_
    rintro e f3 ⟨b2, b3, rfl, c9⟩
    refine ⟨_, rfl, ?_⟩
    have a7 : SP [] w0 f3 [Qh g2 52 #[(.int .i64 0), (.int .i64 0), (.int .u32 0), (.string ⟨List.toArray ([] : List UInt8)⟩), (.int .i64 0), (.string ⟨List.toArray ([] : List UInt8)⟩), (.string ⟨List.toArray ([] : List UInt8)⟩), (.string ⟨List.toArray ([] : List UInt8)⟩)], iterC a8 a5 R4 (kne p.1) e5 ((.int .i64 h), Cv h), Qh u 118 #[(.string ⟨List.toArray (Vo h)⟩), (.func (.func (J7 h)) #[] #[]), (.func (.func (J8 h)) #[] #[])], Qh j 112 #[(.slice b2 (List.length c.1) b3), (.bool c.2.1)], rdE Qg b2 b3 c.1, Qh s 52 #[(.int .i64 c.2.2.1), (.int .i64 c.2.2.2.1), (.int .u32 c.2.2.2.2.1), (.string ⟨List.toArray c.2.2.2.2.2.1⟩), (.int .i64 c.2.2.2.2.2.2.1), (.string ⟨List.toArray c.2.2.2.2.2.2.2.1⟩), (.string ⟨List.toArray c.2.2.2.2.2.2.2.2.1⟩), (.string ⟨List.toArray c.2.2.2.2.2.2.2.2.2⟩)]] := Qk a6 [1, 2, 5] [0, 3, 4] rfl rfl c9 rfl
    clear c9
    refine iF ?_
    refine aQ ?_
    refine aQ ?_
    refine At.join (fun ρ w => ∃ (a0 : Bool), V5 ρ [(2, (pt g2 0)), (8, (pt s 0)), (43, (.bool a0))] ∧ SP [] w0 w [Qh g2 52 #[(.int .i64 0), (.int .i64 0), (.int .u32 0), (.string ⟨List.toArray ([] : List UInt8)⟩), (.int .i64 0), (.string ⟨List.toArray ([] : List UInt8)⟩), (.string ⟨List.toArray ([] : List UInt8)⟩), (.string ⟨List.toArray ([] : List UInt8)⟩)], Qh s 52 #[(.int .i64 c.2.2.1), (.int .i64 c.2.2.2.1), (.int .u32 c.2.2.2.2.1), (.string ⟨List.toArray c.2.2.2.2.2.1⟩), (.int .i64 c.2.2.2.2.2.2.1), (.string ⟨List.toArray c.2.2.2.2.2.2.2.1⟩), (.string ⟨List.toArray c.2.2.2.2.2.2.2.2.1⟩), (.string ⟨List.toArray c.2.2.2.2.2.2.2.2.2⟩)]] ∧ V1 c a0 = some r) ?_ ?_
    ·refine aR ?_
     refine iR 3 3 [(32, (pt j 0)), (33, (pt j 0)), (34, (pt j 1))] ?_
     refine iS 4 ?_
     refine sL 4 34 j 1 3 (.bool c.2.1) 35 a7 rfl ?_
     refine iR 1 5 [(36, (.bool c.2.1))] ?_
     refine In.guard (t := 36) (b := c.2.1) K (fun b4 => ?_) (fun b4 => ?_)
     ·have H := ct H b4
      refine iR 7 12 [(37, undef), (38, undef), (39, undef), (40, undef), (41, undef), (42, undef), (43, (.bool true))] ?_
      refine iF ?_
      exact ⟨true, ⟨K, K, K, trivial⟩, SP.sel a7 [0, 5] rfl rfl, H⟩
     ·have H := cf H b4
      refine iR 3 8 [(37, (pt j 0)), (38, (pt j 0)), (39, (pt j 0))] ?_
      refine iS 9 ?_
      refine sL 79 39 j 0 3 (.slice b2 (List.length c.1) b3) 40 a7 rfl ?_
      refine iR 3 12 [(41, (.int .i64 ((List.length c.1 : Nat) : Int))), (42, (.bool (decide (((List.length c.1 : Nat) : Int) > 0)))), (43, (.bool (decide (((List.length c.1 : Nat) : Int) > 0))))] ?_
      refine iF ?_
      exact ⟨(decide (((List.length c.1 : Nat) : Int) > 0)), ⟨K, K, K, trivial⟩, SP.sel a7 [0, 5] rfl rfl, H⟩
    ·rintro ρ g4 ⟨a0, hk, b5, H⟩
     unfold V1 at H
     first | refine At.known [(2, (pt g2 0)), (8, (pt s 0)), (43, (.bool a0))] hk ?_ | rw [← Qq (l := [(2, (pt g2 0)), (8, (pt s 0)), (43, (.bool a0))]) hk]
     refine Z8 K (o := (.tmp 43)) K (b := a0) K (fun b6 => ?_) (fun b6 => ?_)
     ·have H := ct H b6
      refine aQ ?_
      refine aR ?_
      refine iR 1 1 [(44, (.agg #[(.int .i64 0), (.int .i64 0), (.int .u32 0), (.string ⟨List.toArray ([] : List UInt8)⟩), (.int .i64 0), (.string ⟨List.toArray ([] : List UInt8)⟩), (.string ⟨List.toArray ([] : List UInt8)⟩), (.string ⟨List.toArray ([] : List UInt8)⟩)]))] ?_
      refine iS 2 ?_
      refine Qf.store (t := 52) (x := (.tmp 2)) (y := (.tmp 44)) (g := g2) (off := 0) (i := 0) (v := (.agg #[(.int .i64 0), (.int .i64 0), (.int .u32 0), (.string ⟨List.toArray ([] : List UInt8)⟩), (.int .i64 0), (.string ⟨List.toArray ([] : List UInt8)⟩), (.string ⟨List.toArray ([] : List UInt8)⟩), (.string ⟨List.toArray ([] : List UInt8)⟩)])) (cs' := #[(.int .i64 0), (.int .i64 0), (.int .u32 0), (.string ⟨List.toArray ([] : List UInt8)⟩), (.int .i64 0), (.string ⟨List.toArray ([] : List UInt8)⟩), (.string ⟨List.toArray ([] : List UInt8)⟩), (.string ⟨List.toArray ([] : List UInt8)⟩)]) (d := none) (k := 1) K rfl K K b5 rfl K ?_
      intro g5 d0
      refine iR 1 3 [(3, (.bool false))] ?_
      refine iF ?_
      refine At.ret K ?_
      refine ⟨(.tuple #[(.agg #[(.int .i64 0), (.int .i64 0), (.int .u32 0), (.string ⟨List.toArray ([] : List UInt8)⟩), (.int .i64 0), (.string ⟨List.toArray ([] : List UInt8)⟩), (.string ⟨List.toArray ([] : List UInt8)⟩), (.string ⟨List.toArray ([] : List UInt8)⟩)]), (.bool false)]), res_2 K (Gz (a := 2) (t := 52) (g := g2) (off := 0) K (SP.get d0 (i := 0) rfl) K) (Cf (t := 3) K), ?_⟩
      obtain rfl := Qc H
      exact ⟨rfl, SP.sel d0 [] rfl rfl⟩
     ·have H := cf H b6
      refine At.skip K ?_
      refine aQ ?_
      refine aR ?_
      refine iS 1 ?_
      refine sL 52 8 s 0 1 (.agg #[(.int .i64 c.2.2.1), (.int .i64 c.2.2.2.1), (.int .u32 c.2.2.2.2.1), (.string ⟨List.toArray c.2.2.2.2.2.1⟩), (.int .i64 c.2.2.2.2.2.2.1), (.string ⟨List.toArray c.2.2.2.2.2.2.2.1⟩), (.string ⟨List.toArray c.2.2.2.2.2.2.2.2.1⟩), (.string ⟨List.toArray c.2.2.2.2.2.2.2.2.2⟩)]) 45 b5 rfl ?_
      refine iS 2 ?_
      refine Qf.store (t := 52) (x := (.tmp 2)) (y := (.tmp 45)) (g := g2) (off := 0) (i := 0) (v := (.agg #[(.int .i64 c.2.2.1), (.int .i64 c.2.2.2.1), (.int .u32 c.2.2.2.2.1), (.string ⟨List.toArray c.2.2.2.2.2.1⟩), (.int .i64 c.2.2.2.2.2.2.1), (.string ⟨List.toArray c.2.2.2.2.2.2.2.1⟩), (.string ⟨List.toArray c.2.2.2.2.2.2.2.2.1⟩), (.string ⟨List.toArray c.2.2.2.2.2.2.2.2.2⟩)])) (cs' := #[(.int .i64 c.2.2.1), (.int .i64 c.2.2.2.1), (.int .u32 c.2.2.2.2.1), (.string ⟨List.toArray c.2.2.2.2.2.1⟩), (.int .i64 c.2.2.2.2.2.2.1), (.string ⟨List.toArray c.2.2.2.2.2.2.2.1⟩), (.string ⟨List.toArray c.2.2.2.2.2.2.2.2.1⟩), (.string ⟨List.toArray c.2.2.2.2.2.2.2.2.2⟩)]) (d := none) (k := 1) K rfl K K b5 rfl K ?_
      intro g6 d1
      refine iR 1 3 [(3, (.bool true))] ?_
      refine iF ?_
      refine At.ret K ?_
      refine ⟨(.tuple #[(.agg #[(.int .i64 c.2.2.1), (.int .i64 c.2.2.2.1), (.int .u32 c.2.2.2.2.1), (.string ⟨List.toArray c.2.2.2.2.2.1⟩), (.int .i64 c.2.2.2.2.2.2.1), (.string ⟨List.toArray c.2.2.2.2.2.2.2.1⟩), (.string ⟨List.toArray c.2.2.2.2.2.2.2.2.1⟩), (.string ⟨List.toArray c.2.2.2.2.2.2.2.2.2⟩)]), (.bool true)]), res_2 K (Gz (a := 2) (t := 52) (g := g2) (off := 0) K (SP.get d1 (i := 0) rfl) K) (Cf (t := 3) K), ?_⟩
      obtain rfl := Qc H
      exact ⟨rfl, SP.sel d1 [] rfl rfl⟩
 ·exact ⟨_, ⟨K, K, K, K, trivial⟩, e2, Nat.lt_succ_self _⟩
def X5 (a : ((List UInt8))) (b : Bool) : Option ((List UInt8)) :=
  (cond b (some (([] : List UInt8))) (some (a)))
def Zf (b : Int) (d : Int) (e : Int) (f : (List UInt8)) (g : Int) (h : (List UInt8)) (i : (List UInt8)) (j : (List UInt8)) : Option ((List UInt8)) :=
  ((Yb ).bind fun l => (cond (kin b) ((E5 b ([(Vo b)] : List (List UInt8)) false b d e f g h i j).bind fun k => ((Vf k.1 k.2).bind fun c => ((Zh c).bind fun a => (cond (!a.2.2.2.2.2.2.2.2) (X5 c true) (X5 c (!((a.1 == b) && ((a.2.1 == d) && ((a.2.2.1 == e) && ((a.2.2.2.1 == f) && ((a.2.2.2.2.1 == g) && ((a.2.2.2.2.2.1 == h) && ((a.2.2.2.2.2.2.1 == i) && (a.2.2.2.2.2.2.2.1 == j)))))))))))))) (some (([] : List UInt8)))))
set_option maxHeartbeats 40000000 in
theorem Z1  (a : Int) (q : Int) (s : Int) (u : (List UInt8)) (a0 : Int) (a1 : (List UInt8)) (a2 : (List UInt8)) (a3 : (List UInt8)) (w0 : World) (hL : Yr w0)  (r : ((List UInt8))) (H : Zf a q s u a0 a1 a2 a3 = some r) :
  Calls Tryz.prog 35 #[(.agg #[(.int .i64 a), (.int .i64 q), (.int .u32 s), (.string ⟨List.toArray u⟩), (.int .i64 a0), (.string ⟨List.toArray a1⟩), (.string ⟨List.toArray a2⟩), (.string ⟨List.toArray a3⟩)])] w0 (fun e w' => e = .returned (.string ⟨List.toArray r⟩) ∧ SP [] w0 w' []) := by
 unfold Zf at H
 refine Qj (n := 43) Tryz.func35 K K K ?_
 have f2 := Q7 [] w0
 refine aQ ?_
 refine aR ?_
 refine iS 1 ?_
 refine Zq (t := 52) (x := (.tmp 0)) (v := (.agg #[(.int .i64 a), (.int .i64 q), (.int .u32 s), (.string ⟨List.toArray u⟩), (.int .i64 a0), (.string ⟨List.toArray a1⟩), (.string ⟨List.toArray a2⟩), (.string ⟨List.toArray a3⟩)])) (d := (some 1)) (k := 0) K rfl K f2 ?_
 intro g9 l7 d1
 refine iR 1 2 [(2, (.string ⟨List.toArray ([] : List UInt8)⟩))] ?_
 refine iF ?_
 refine aQ ?_
 obtain ⟨c0, c1, H⟩ := Qa H
 rcases Bool.eq_false_or_eq_true (kin a) with b3 | b3
 ·have H := ct H b3
  refine aG [GAny, GEq (pt g9 0), GEq (.int .i64 a), GEq (.tuple #[(.agg #[(.string ⟨List.toArray (Vo a)⟩), (.func (.func (J7 a)) #[] #[]), (.func (.func (J8 a)) #[] #[])]), (.bool true)]), GEq (.tuple #[(.agg #[(.string ⟨List.toArray (Vo a)⟩), (.func (.func (J7 a)) #[] #[]), (.func (.func (J8 a)) #[] #[])]), (.bool true)]), GEq (.agg #[(.string ⟨List.toArray (Vo a)⟩), (.func (.func (J7 a)) #[] #[]), (.func (.func (J8 a)) #[] #[])]), GEq (.bool true), GAny, GAny, GEq (.bool true)] [0, 7, 8] [([], fun vs w => VL vs [] ∧ SP [] w0 w [Qh g9 52 #[(.int .i64 a), (.int .i64 q), (.int .u32 s), (.string ⟨List.toArray u⟩), (.int .i64 a0), (.string ⟨List.toArray a1⟩), (.string ⟨List.toArray a2⟩), (.string ⟨List.toArray a3⟩)]]), ([0], fun vs w => ∃ (a7 : Nat), VL vs [(.map (some a7))] ∧ SP [] w0 w [Qh g9 52 #[(.int .i64 a), (.int .i64 q), (.int .u32 s), (.string ⟨List.toArray u⟩), (.int .i64 a0), (.string ⟨List.toArray a1⟩), (.string ⟨List.toArray a2⟩), (.string ⟨List.toArray a3⟩)], Cu a7 R4]), ([7], fun vs w => ∃ (b6 : Nat), VL vs [(pt b6 0)] ∧ SP [] w0 w [Qh g9 52 #[(.int .i64 a), (.int .i64 q), (.int .u32 s), (.string ⟨List.toArray u⟩), (.int .i64 a0), (.string ⟨List.toArray a1⟩), (.string ⟨List.toArray a2⟩), (.string ⟨List.toArray a3⟩)], Qh b6 118 #[(.string ⟨List.toArray ([] : List UInt8)⟩), .nilFunc, .nilFunc]]), ([0, 7], fun vs w => ∃ (a8 : Nat), ∃ (a9 : Nat), VL vs [(.map (some a8)), (pt a9 0)] ∧ SP [] w0 w [Qh g9 52 #[(.int .i64 a), (.int .i64 q), (.int .u32 s), (.string ⟨List.toArray u⟩), (.int .i64 a0), (.string ⟨List.toArray a1⟩), (.string ⟨List.toArray a2⟩), (.string ⟨List.toArray a3⟩)], Cu a8 R4, Qh a9 118 #[(.string ⟨List.toArray ([] : List UInt8)⟩), .nilFunc, .nilFunc]]), ([0, 7, 8], fun vs w => ∃ (b7 : Nat), ∃ (a5 : Nat), VL vs [(.map (some b7)), (pt a5 0), undef] ∧ SP [] w0 w [Qh g9 52 #[(.int .i64 a), (.int .i64 q), (.int .u32 s), (.string ⟨List.toArray u⟩), (.int .i64 a0), (.string ⟨List.toArray a1⟩), (.string ⟨List.toArray a2⟩), (.string ⟨List.toArray a3⟩)], Cu b7 R4, Qh a5 118 #[(.string ⟨List.toArray (Vo a)⟩), (.func (.func (J7 a)) #[] #[]), (.func (.func (J8 a)) #[] #[])]])] 10 4 ⟨trivial, SP.drew d1⟩ ?_ ?_
  iterate 10 refine And.intro ?_ ?_
  exact trivial
  ·refine Owe.heavy K [(0, 1), (2, 3)] K (Qo ⟨K, K, ?_⟩ (Qo ⟨K, K, ?_⟩ Xo))
   ·rintro ρ' w' hs p ⟨l8, f3⟩
    refine kN [] trivial fun j => ?_
    refine cF 69 #[] #[] 10 Tryz.call69 (Zp   w'  c0 c1) ?_
    rintro e l9 ⟨f4, rfl, d2⟩
    refine ⟨_, rfl, ?_⟩
    have f5 := SP.call f3 d2
    clear d2
    refine ⟨_, Ql j, trivial, ?_⟩
    exact (Exists.intro f4 (And.intro (And.intro rfl (trivial)) (f5)))
   ·rintro ρ' w' hs p ⟨b6, ⟨f6, -⟩, f7⟩
    refine kN [] trivial fun j => ?_
    refine cF 69 #[] #[] 10 Tryz.call69 (Zp   w'  c0 c1) ?_
    rintro e m0 ⟨f8, rfl, d3⟩
    refine ⟨_, rfl, ?_⟩
    have f9 := SP.call f7 d3
    clear d3
    refine ⟨_, Ql j, trivial, ?_⟩
    exact (Exists.intro f8 (Exists.intro b6 (And.intro (And.intro rfl (And.intro f6 (trivial))) (SP.sel f9 [0, 2, 1] rfl rfl))))
  ·exact oV (hC (hS 1 (pt g9 0)) (h0)) (pt g9 0)
  ·refine Owe.light K [0, 1, 2, 3] K (Qo ?_ (Qo ?_ (Qo ?_ (Qo ?_ Xo))))
   ·rintro ρ' w' hs p ⟨m1, g0⟩
    refine kM (kc (kA p 1 11) k0) fun j => ?_
    refine sL 3 11 g9 0 0 (.int .i64 a) 12 g0 rfl ?_
    exact eK j
   ·rintro ρ' w' hs p ⟨a7, ⟨m2, -⟩, g1⟩
    refine kM (kc (kA p 1 11) k0) fun j => ?_
    refine sL 3 11 g9 0 0 (.int .i64 a) 12 g1 rfl ?_
    exact eK j
   ·rintro ρ' w' hs p ⟨b6, ⟨m3, -⟩, g2⟩
    refine kM (kc (kA p 1 11) k0) fun j => ?_
    refine sL 3 11 g9 0 0 (.int .i64 a) 12 g2 rfl ?_
    exact eK j
   ·rintro ρ' w' hs p ⟨a8, a9, ⟨m4, m5, -⟩, g3⟩
    refine kM (kc (kA p 1 11) k0) fun j => ?_
    refine sL 3 11 g9 0 0 (.int .i64 a) 12 g3 rfl ?_
    exact eK j
  ·refine Owe.light K [1, 3] K (Qo ?_ (Qo ?_ Xo))
   ·rintro ρ' w' hs p ⟨a7, ⟨g4, -⟩, g5⟩
    refine kN [(10, (.map (some a7))), (12, (.int .i64 a))] ⟨(Zb (h := 0) K).symm.trans g4, p 2 12 K, trivial⟩ fun j => ?_
    refine Dt (T := 113) (kt := 3) (et := 118) (m := a7) (L := R4) (k := (.int .i64 a)) (d := (.int .i64)) (x := (.tmp 10)) (ix := (.tmp 12)) (dst := (some 13)) (o := 3) (v := Cv a) K rfl K K K K K (ktab_in b3) (SP.get g5 (i := 1) rfl) ?_
    exact eK j
   ·rintro ρ' w' hs p ⟨a8, a9, ⟨g6, m6, -⟩, g7⟩
    refine kN [(10, (.map (some a8))), (12, (.int .i64 a))] ⟨(Zb (h := 0) K).symm.trans g6, p 2 12 K, trivial⟩ fun j => ?_
    refine Dt (T := 113) (kt := 3) (et := 118) (m := a8) (L := R4) (k := (.int .i64 a)) (d := (.int .i64)) (x := (.tmp 10)) (ix := (.tmp 12)) (dst := (some 13)) (o := 3) (v := Cv a) K rfl K K K K K (ktab_in b3) (SP.get g7 (i := 1) rfl) ?_
    exact eK j
  ·exact oV (hC (hA 3 13) (h0)) (.tuple #[(.agg #[(.string ⟨List.toArray (Vo a)⟩), (.func (.func (J7 a)) #[] #[]), (.func (.func (J8 a)) #[] #[])]), (.bool true)])
  ·exact oV (hC (hA 4 9) (h0)) (.agg #[(.string ⟨List.toArray (Vo a)⟩), (.func (.func (J7 a)) #[] #[]), (.func (.func (J8 a)) #[] #[])])
  ·exact oV (hC (hA 4 9) (h0)) (.bool true)
  ·refine Owe.heavy K [(0, 2), (1, 3)] K (Qo ⟨K, K, ?_⟩ (Qo ⟨K, K, ?_⟩ Xo))
   ·rintro ρ' w' hs p ⟨m7, g8⟩
    refine kN [] trivial fun j => ?_
    refine Qf.alloc (t := 118) (z := (.agg #[(.string ⟨List.toArray ([] : List UInt8)⟩), .nilFunc, .nilFunc])) (d := (some 3)) (k := 7) K rfl K g8 ?_
    intro h1 m8 h2
    refine ⟨_, Ql j, trivial, ?_⟩
    exact (Exists.intro h1 (And.intro (And.intro rfl (trivial)) (h2)))
   ·rintro ρ' w' hs p ⟨a7, ⟨h3, -⟩, h4⟩
    refine kN [] trivial fun j => ?_
    refine Qf.alloc (t := 118) (z := (.agg #[(.string ⟨List.toArray ([] : List UInt8)⟩), .nilFunc, .nilFunc])) (d := (some 3)) (k := 7) K rfl K h4 ?_
    intro h5 m9 h6
    refine ⟨_, Ql j, trivial, ?_⟩
    exact (Exists.intro a7 (Exists.intro h5 (And.intro (And.intro h3 (And.intro rfl (trivial))) (h6))))
  ·refine oH 3 4 ?_
   ·rintro ρ' w' hs p ⟨a8, a9, ⟨h7, d4, -⟩, h8⟩
    refine kN [(3, (pt a9 0)), (14, (.agg #[(.string ⟨List.toArray (Vo a)⟩), (.func (.func (J7 a)) #[] #[]), (.func (.func (J8 a)) #[] #[])]))] ⟨(Zb (h := 7) K).symm.trans d4, p 5 14 K, trivial⟩ fun j => ?_
    refine Qf.store (t := 118) (x := (.tmp 3)) (y := (.tmp 14)) (g := a9) (off := 0) (i := 2) (v := (.agg #[(.string ⟨List.toArray (Vo a)⟩), (.func (.func (J7 a)) #[] #[]), (.func (.func (J8 a)) #[] #[])])) (cs' := #[(.string ⟨List.toArray (Vo a)⟩), (.func (.func (J7 a)) #[] #[]), (.func (.func (J8 a)) #[] #[])]) (d := none) (k := 8) K rfl K K h8 rfl K ?_
    intro n0 h9
    refine ⟨_, Ql j, trivial, ?_⟩
    exact (Exists.intro a8 (Exists.intro a9 (And.intro (And.intro h7 (And.intro d4 (And.intro rfl (trivial)))) (h9))))
  ·exact oV (hC (hA 6 15) (h0)) (.bool true)
  ·rintro ρ' w' hs hf ⟨b7, a5, ⟨n1, i0, n2, -⟩, c4⟩
   refine Yh [(1, (pt g9 0)), (3, (pt a5 0)), (4, (.bool true))] ⟨(hs 1 K).trans K, (Zb (h := 7) K).symm.trans i0, hf 9 4 K, trivial⟩ ?_
   obtain ⟨n3, i1⟩ : ∃ x, w' = x := ⟨_, rfl⟩
   rw [i1] at c4 ⊢
   refine aQ ?_
   refine aQ ?_
   refine aR ?_
   refine iR 2 2 [(16, (.bool true)), (17, (.bool false))] ?_
   refine iF ?_
   refine Z8 K (o := (.tmp 17)) K (b := false) K (fun d5 => ?_) (fun d5 => ?_)
   ·cases d5
   refine At.skip K ?_
   refine aQ ?_
   refine aR ?_
   refine iR 1 1 [(18, (pt a5 0))] ?_
   refine iS 2 ?_
   refine sL 9 18 a5 0 2 (.string ⟨List.toArray (Vo a)⟩) 19 c4 rfl ?_
   refine iS 3 ?_
   refine Vb (e := Qg) (T := 79) (E := 9) (len := 1) (parts := #[(0, (.tmp 19))]) (cs := #[(.string ⟨List.toArray (Vo a)⟩)]) ([(Vo a)] : List (List UInt8)) (d := (some 20)) (k := 2) K rfl (fun _ => K) c4 rfl rfl rfl rfl ?_
   intro c5 n4 i2
   refine iR 1 4 [(21, (.agg #[(.slice (some ⟨c5, 0, none⟩) (List.length ([(Vo a)] : List (List UInt8))) (List.length ([(Vo a)] : List (List UInt8)))), (.bool false)]))] ?_
   refine iS 5 ?_
   refine Zq (t := 133) (x := (.tmp 21)) (v := (.agg #[(.slice (some ⟨c5, 0, none⟩) (List.length ([(Vo a)] : List (List UInt8))) (List.length ([(Vo a)] : List (List UInt8)))), (.bool false)])) (d := (some 22)) (k := 4) K rfl K i2 ?_
   intro b4 i3 b8
   refine iR 1 6 [(5, (pt b4 0))] ?_
   refine iF ?_
   refine aQ ?_
   refine aR ?_
   refine iR 1 1 [(23, (pt a5 1))] ?_
   refine iS 2 ?_
   refine sL 115 23 a5 1 2 (.func (.func (J7 a)) #[] #[]) 24 b8 rfl ?_
   refine iR 1 3 [(25, (pt b4 0))] ?_
   refine iS 4 ?_
   refine sL 52 1 g9 0 0 (.agg #[(.int .i64 a), (.int .i64 q), (.int .u32 s), (.string ⟨List.toArray u⟩), (.int .i64 a0), (.string ⟨List.toArray a1⟩), (.string ⟨List.toArray a2⟩), (.string ⟨List.toArray a3⟩)]) 26 b8 rfl ?_
   obtain ⟨a6, i4, H⟩ := Qa H
   refine iS 5 ?_
   refine Ri (f := (J7 a)) (fo := (.tmp 24)) (xs := #[(.tmp 25), (.tmp 26)]) (tys := #[132, 52]) (first := #[]) (captured := #[]) (d := (some 27)) (k := 4) K rfl K K (Fl a) (Ep a b4 (some ⟨c5, 0, none⟩) (List.length ([(Vo a)] : List (List UInt8))) ([(Vo a)] : List (List UInt8)) false a q s u a0 a1 a2 a3 i3 (fun w hm => Qr hL (Xp b8 (l := [4, 3]) rfl hm)) (Q2 b8 [4, 3] rfl rfl) a6 i4) ?_
   rintro e d6 ⟨c6, c7, rfl, d7⟩
   refine ⟨_, rfl, ?_⟩
   have d8 : SP [] w0 d6 [Qh g9 52 #[(.int .i64 a), (.int .i64 q), (.int .u32 s), (.string ⟨List.toArray u⟩), (.int .i64 a0), (.string ⟨List.toArray a1⟩), (.string ⟨List.toArray a2⟩), (.string ⟨List.toArray a3⟩)], Cu b7 R4, Qh a5 118 #[(.string ⟨List.toArray (Vo a)⟩), (.func (.func (J7 a)) #[] #[]), (.func (.func (J8 a)) #[] #[])], Qh b4 133 #[(.slice c6 (List.length a6.1) c7), (.bool a6.2)], Q6 9 Qg c6 c7 a6.1] := Qk b8 [4, 3] [0, 1, 2] rfl rfl d7 rfl
   clear d7
   refine iF ?_
   refine aQ ?_
   refine aR ?_
   refine iR 1 1 [(28, (pt b4 0))] ?_
   obtain ⟨a4, i5, H⟩ := Qa H
   refine iS 2 ?_
   refine cF 79 #[(.tmp 28)] #[132] 29 Tryz.call79 (Z6 b4 c6 c7 a6.1 a6.2 d6 (Q2 d8 [3, 4] rfl rfl) a4 i5) ?_
   rintro e d9 ⟨e0, e1, rfl, e2⟩
   refine ⟨_, rfl, ?_⟩
   have e3 : SP [] w0 d9 [Qh g9 52 #[(.int .i64 a), (.int .i64 q), (.int .u32 s), (.string ⟨List.toArray u⟩), (.int .i64 a0), (.string ⟨List.toArray a1⟩), (.string ⟨List.toArray a2⟩), (.string ⟨List.toArray a3⟩)], Cu b7 R4, Qh a5 118 #[(.string ⟨List.toArray (Vo a)⟩), (.func (.func (J7 a)) #[] #[]), (.func (.func (J8 a)) #[] #[])], Qh b4 133 #[(.slice e0 (List.length a6.1) e1), (.bool a6.2)], Q6 9 Qg e0 e1 a6.1] := Qk d8 [3, 4] [0, 1, 2] rfl rfl e2 rfl
   clear e2
   refine iR 1 3 [(6, (.string ⟨List.toArray a4⟩))] ?_
   refine iF ?_
   refine aQ ?_
   refine aQ ?_
   refine aR ?_
   refine iR 1 1 [(31, (.string ⟨List.toArray a4⟩))] ?_
   obtain ⟨c, i6, H⟩ := Qa H
   refine iS 2 ?_
   refine cF 31 #[(.tmp 31)] #[9] 32 Tryz.call31 (Xu  a4 d9 (Qr hL (SP.keeps e3)) c i6) ?_
   rintro e n5 ⟨rfl, e4⟩
   refine ⟨_, rfl, ?_⟩
   have i7 := SP.call e3 e4
   clear e4
   refine iR 3 5 [(30, (.tuple #[(.agg #[(.int .i64 c.1), (.int .i64 c.2.1), (.int .u32 c.2.2.1), (.string ⟨List.toArray c.2.2.2.1⟩), (.int .i64 c.2.2.2.2.1), (.string ⟨List.toArray c.2.2.2.2.2.1⟩), (.string ⟨List.toArray c.2.2.2.2.2.2.1⟩), (.string ⟨List.toArray c.2.2.2.2.2.2.2.1⟩)]), (.bool c.2.2.2.2.2.2.2.2)])), (33, (.agg #[(.int .i64 c.1), (.int .i64 c.2.1), (.int .u32 c.2.2.1), (.string ⟨List.toArray c.2.2.2.1⟩), (.int .i64 c.2.2.2.2.1), (.string ⟨List.toArray c.2.2.2.2.2.1⟩), (.string ⟨List.toArray c.2.2.2.2.2.2.1⟩), (.string ⟨List.toArray c.2.2.2.2.2.2.2.1⟩)])), (34, (.bool c.2.2.2.2.2.2.2.2))] ?_
   refine iS 6 ?_
   refine Qf.alloc (t := 52) (z := (.agg #[(.int .i64 0), (.int .i64 0), (.int .u32 0), (.string ⟨List.toArray ([] : List UInt8)⟩), (.int .i64 0), (.string ⟨List.toArray ([] : List UInt8)⟩), (.string ⟨List.toArray ([] : List UInt8)⟩), (.string ⟨List.toArray ([] : List UInt8)⟩)])) (d := (some 7)) (k := 5) K rfl K i7 ?_
   intro e5 n6 i8
   refine iS 7 ?_
   refine Qf.store (t := 52) (x := (.tmp 7)) (y := (.tmp 33)) (g := e5) (off := 0) (i := 5) (v := (.agg #[(.int .i64 c.1), (.int .i64 c.2.1), (.int .u32 c.2.2.1), (.string ⟨List.toArray c.2.2.2.1⟩), (.int .i64 c.2.2.2.2.1), (.string ⟨List.toArray c.2.2.2.2.2.1⟩), (.string ⟨List.toArray c.2.2.2.2.2.2.1⟩), (.string ⟨List.toArray c.2.2.2.2.2.2.2.1⟩)])) (cs' := #[(.int .i64 c.1), (.int .i64 c.2.1), (.int .u32 c.2.2.1), (.string ⟨List.toArray c.2.2.2.1⟩), (.int .i64 c.2.2.2.2.1), (.string ⟨List.toArray c.2.2.2.2.2.1⟩), (.string ⟨List.toArray c.2.2.2.2.2.2.1⟩), (.string ⟨List.toArray c.2.2.2.2.2.2.2.1⟩)]) (d := none) (k := 6) K rfl K K i8 rfl K ?_
   intro n7 c2
   refine iR 1 8 [(8, (.bool c.2.2.2.2.2.2.2.2))] ?_
   refine iF ?_
   refine aQ ?_
   refine At.join (fun ρ w => ∃ (b5 : Bool), V5 ρ [(6, (.string ⟨List.toArray a4⟩)), (41, (.bool b5))] ∧ SP [] w0 w [] ∧ X5 a4 b5 = some r) ?_ ?_
   ·refine aR ?_
    refine iR 3 3 [(35, (.bool c.2.2.2.2.2.2.2.2)), (36, (.bool (!c.2.2.2.2.2.2.2.2))), (37, (.bool (!c.2.2.2.2.2.2.2.2)))] ?_
    refine In.guard (t := 37) (b := (!c.2.2.2.2.2.2.2.2)) K (fun c8 => ?_) (fun c8 => ?_)
    ·have H := ct H c8
     refine iR 4 7 [(38, undef), (39, undef), (40, undef), (41, (.bool true))] ?_
     refine iF ?_
     exact ⟨true, ⟨K, K, trivial⟩, SP.sel c2 [] rfl rfl, H⟩
    ·have H := cf H c8
     refine iS 4 ?_
     refine sL 52 7 e5 0 5 (.agg #[(.int .i64 c.1), (.int .i64 c.2.1), (.int .u32 c.2.2.1), (.string ⟨List.toArray c.2.2.2.1⟩), (.int .i64 c.2.2.2.2.1), (.string ⟨List.toArray c.2.2.2.2.2.1⟩), (.string ⟨List.toArray c.2.2.2.2.2.2.1⟩), (.string ⟨List.toArray c.2.2.2.2.2.2.2.1⟩)]) 38 c2 rfl ?_
     refine iS 5 ?_
     refine sL 52 1 g9 0 0 (.agg #[(.int .i64 a), (.int .i64 q), (.int .u32 s), (.string ⟨List.toArray u⟩), (.int .i64 a0), (.string ⟨List.toArray a1⟩), (.string ⟨List.toArray a2⟩), (.string ⟨List.toArray a3⟩)]) 39 c2 rfl ?_
     refine iS 6 ?_
     refine R6 (op := .neq) (T := 52) (T' := 52) (x := (.tmp 38)) (y := (.tmp 39)) (vx := (.agg #[(.int .i64 c.1), (.int .i64 c.2.1), (.int .u32 c.2.2.1), (.string ⟨List.toArray c.2.2.2.1⟩), (.int .i64 c.2.2.2.2.1), (.string ⟨List.toArray c.2.2.2.2.2.1⟩), (.string ⟨List.toArray c.2.2.2.2.2.2.1⟩), (.string ⟨List.toArray c.2.2.2.2.2.2.2.1⟩)])) (vy := (.agg #[(.int .i64 a), (.int .i64 q), (.int .u32 s), (.string ⟨List.toArray u⟩), (.int .i64 a0), (.string ⟨List.toArray a1⟩), (.string ⟨List.toArray a2⟩), (.string ⟨List.toArray a3⟩)])) (v := (.bool (!((c.1 == a) && ((c.2.1 == q) && ((c.2.2.1 == s) && ((c.2.2.2.1 == u) && ((c.2.2.2.2.1 == a0) && ((c.2.2.2.2.2.1 == a1) && ((c.2.2.2.2.2.2.1 == a2) && (c.2.2.2.2.2.2.2.1 == a3))))))))))) (d := (some 40)) (k := 5) K rfl K K (by clear H; intro w; simp only [Ny]; go_simp; simp only [Gg, U2, G5, Ny, Bool.and_true] <;> simp only [Bool.not_and]) ?_
     refine iR 1 7 [(41, (.bool (!((c.1 == a) && ((c.2.1 == q) && ((c.2.2.1 == s) && ((c.2.2.2.1 == u) && ((c.2.2.2.2.1 == a0) && ((c.2.2.2.2.2.1 == a1) && ((c.2.2.2.2.2.2.1 == a2) && (c.2.2.2.2.2.2.2.1 == a3)))))))))))] ?_
     refine iF ?_
     exact ⟨(!((c.1 == a) && ((c.2.1 == q) && ((c.2.2.1 == s) && ((c.2.2.2.1 == u) && ((c.2.2.2.2.1 == a0) && ((c.2.2.2.2.2.1 == a1) && ((c.2.2.2.2.2.2.1 == a2) && (c.2.2.2.2.2.2.2.1 == a3))))))))), ⟨K, K, trivial⟩, SP.sel c2 [] rfl rfl, H⟩
   ·rintro ρ n8 ⟨b5, hk, e6, H⟩
    unfold X5 at H
    first | refine At.known [(6, (.string ⟨List.toArray a4⟩)), (41, (.bool b5))] hk ?_ | rw [← Qq (l := [(6, (.string ⟨List.toArray a4⟩)), (41, (.bool b5))]) hk]
    refine Z8 K (o := (.tmp 41)) K (b := b5) K (fun c9 => ?_) (fun c9 => ?_)
    ·have H := ct H c9
     refine aQ ?_
     refine aR ?_
     refine iR 1 1 [(2, (.string ⟨List.toArray ([] : List UInt8)⟩))] ?_
     refine iF ?_
     refine At.ret K ?_
     refine ⟨(.string ⟨List.toArray ([] : List UInt8)⟩), K, ?_⟩
     obtain rfl := Qc H
     exact ⟨rfl, SP.sel e6 [] rfl rfl⟩
    ·have H := cf H c9
     refine At.skip K ?_
     refine aQ ?_
     refine aR ?_
     refine iR 2 2 [(42, (.string ⟨List.toArray a4⟩)), (2, (.string ⟨List.toArray a4⟩))] ?_
     refine iF ?_
     refine At.ret K ?_
     refine ⟨(.string ⟨List.toArray a4⟩), K, ?_⟩
     obtain rfl := Qc H
     exact ⟨rfl, SP.sel e6 [] rfl rfl⟩
 ·have H := cf H b3
  refine aG [GAny, GEq (pt g9 0), GEq (.int .i64 a), GEq (.tuple #[(.agg #[(.string ⟨List.toArray ([] : List UInt8)⟩), .nilFunc, .nilFunc]), (.bool false)]), GEq (.tuple #[(.agg #[(.string ⟨List.toArray ([] : List UInt8)⟩), .nilFunc, .nilFunc]), (.bool false)]), GEq (.agg #[(.string ⟨List.toArray ([] : List UInt8)⟩), .nilFunc, .nilFunc]), GEq (.bool false), GAny, GAny, GEq (.bool false)] [0, 7, 8] [([], fun vs w => VL vs [] ∧ SP [] w0 w [Qh g9 52 #[(.int .i64 a), (.int .i64 q), (.int .u32 s), (.string ⟨List.toArray u⟩), (.int .i64 a0), (.string ⟨List.toArray a1⟩), (.string ⟨List.toArray a2⟩), (.string ⟨List.toArray a3⟩)]]), ([0], fun vs w => ∃ (b0 : Nat), VL vs [(.map (some b0))] ∧ SP [] w0 w [Qh g9 52 #[(.int .i64 a), (.int .i64 q), (.int .u32 s), (.string ⟨List.toArray u⟩), (.int .i64 a0), (.string ⟨List.toArray a1⟩), (.string ⟨List.toArray a2⟩), (.string ⟨List.toArray a3⟩)], Cu b0 R4]), ([7], fun vs w => ∃ (b9 : Nat), VL vs [(pt b9 0)] ∧ SP [] w0 w [Qh g9 52 #[(.int .i64 a), (.int .i64 q), (.int .u32 s), (.string ⟨List.toArray u⟩), (.int .i64 a0), (.string ⟨List.toArray a1⟩), (.string ⟨List.toArray a2⟩), (.string ⟨List.toArray a3⟩)], Qh b9 118 #[(.string ⟨List.toArray ([] : List UInt8)⟩), .nilFunc, .nilFunc]]), ([0, 7], fun vs w => ∃ (b1 : Nat), ∃ (b2 : Nat), VL vs [(.map (some b1)), (pt b2 0)] ∧ SP [] w0 w [Qh g9 52 #[(.int .i64 a), (.int .i64 q), (.int .u32 s), (.string ⟨List.toArray u⟩), (.int .i64 a0), (.string ⟨List.toArray a1⟩), (.string ⟨List.toArray a2⟩), (.string ⟨List.toArray a3⟩)], Cu b1 R4, Qh b2 118 #[(.string ⟨List.toArray ([] : List UInt8)⟩), .nilFunc, .nilFunc]]), ([0, 7, 8], fun vs w => ∃ (d0 : Nat), ∃ (c3 : Nat), VL vs [(.map (some d0)), (pt c3 0), undef] ∧ SP [] w0 w [Qh g9 52 #[(.int .i64 a), (.int .i64 q), (.int .u32 s), (.string ⟨List.toArray u⟩), (.int .i64 a0), (.string ⟨List.toArray a1⟩), (.string ⟨List.toArray a2⟩), (.string ⟨List.toArray a3⟩)], Cu d0 R4, Qh c3 118 #[(.string ⟨List.toArray ([] : List UInt8)⟩), .nilFunc, .nilFunc]])] 10 4 ⟨trivial, SP.drew d1⟩ ?_ ?_
  iterate 10 refine And.intro ?_ ?_
  exact trivial
  ·refine Owe.heavy K [(0, 1), (2, 3)] K (Qo ⟨K, K, ?_⟩ (Qo ⟨K, K, ?_⟩ Xo))
   ·rintro ρ' w' hs p ⟨n9, i9⟩
    refine kN [] trivial fun j => ?_
    refine cF 69 #[] #[] 10 Tryz.call69 (Zp   w'  c0 c1) ?_
    rintro e o0 ⟨j0, rfl, e7⟩
    refine ⟨_, rfl, ?_⟩
    have j1 := SP.call i9 e7
    clear e7
    refine ⟨_, Ql j, trivial, ?_⟩
    exact (Exists.intro j0 (And.intro (And.intro rfl (trivial)) (j1)))
   ·rintro ρ' w' hs p ⟨b9, ⟨j2, -⟩, j3⟩
    refine kN [] trivial fun j => ?_
    refine cF 69 #[] #[] 10 Tryz.call69 (Zp   w'  c0 c1) ?_
    rintro e o1 ⟨j4, rfl, e8⟩
    refine ⟨_, rfl, ?_⟩
    have j5 := SP.call j3 e8
    clear e8
    refine ⟨_, Ql j, trivial, ?_⟩
    exact (Exists.intro j4 (Exists.intro b9 (And.intro (And.intro rfl (And.intro j2 (trivial))) (SP.sel j5 [0, 2, 1] rfl rfl))))
  ·exact oV (hC (hS 1 (pt g9 0)) (h0)) (pt g9 0)
  ·refine Owe.light K [0, 1, 2, 3] K (Qo ?_ (Qo ?_ (Qo ?_ (Qo ?_ Xo))))
   ·rintro ρ' w' hs p ⟨o2, j6⟩
    refine kM (kc (kA p 1 11) k0) fun j => ?_
    refine sL 3 11 g9 0 0 (.int .i64 a) 12 j6 rfl ?_
    exact eK j
   ·rintro ρ' w' hs p ⟨b0, ⟨o3, -⟩, j7⟩
    refine kM (kc (kA p 1 11) k0) fun j => ?_
    refine sL 3 11 g9 0 0 (.int .i64 a) 12 j7 rfl ?_
    exact eK j
   ·rintro ρ' w' hs p ⟨b9, ⟨o4, -⟩, j8⟩
    refine kM (kc (kA p 1 11) k0) fun j => ?_
    refine sL 3 11 g9 0 0 (.int .i64 a) 12 j8 rfl ?_
    exact eK j
   ·rintro ρ' w' hs p ⟨b1, b2, ⟨o5, o6, -⟩, j9⟩
    refine kM (kc (kA p 1 11) k0) fun j => ?_
    refine sL 3 11 g9 0 0 (.int .i64 a) 12 j9 rfl ?_
    exact eK j
  ·refine Owe.light K [1, 3] K (Qo ?_ (Qo ?_ Xo))
   ·rintro ρ' w' hs p ⟨b0, ⟨k1, -⟩, k2⟩
    refine kN [(10, (.map (some b0))), (12, (.int .i64 a))] ⟨(Zb (h := 0) K).symm.trans k1, p 2 12 K, trivial⟩ fun j => ?_
    refine Du (T := 113) (kt := 3) (et := 118) (m := b0) (L := R4) (k := (.int .i64 a)) (d := (.int .i64)) (x := (.tmp 10)) (ix := (.tmp 12)) (dst := (some 13)) (o := 3) (v := (.agg #[(.string ⟨List.toArray ([] : List UInt8)⟩), .nilFunc, .nilFunc])) K rfl K K K K (fun _ => K) K (E4 b3) (SP.get k2 (i := 1) rfl) ?_
    exact eK j
   ·rintro ρ' w' hs p ⟨b1, b2, ⟨k3, o7, -⟩, k4⟩
    refine kN [(10, (.map (some b1))), (12, (.int .i64 a))] ⟨(Zb (h := 0) K).symm.trans k3, p 2 12 K, trivial⟩ fun j => ?_
    refine Du (T := 113) (kt := 3) (et := 118) (m := b1) (L := R4) (k := (.int .i64 a)) (d := (.int .i64)) (x := (.tmp 10)) (ix := (.tmp 12)) (dst := (some 13)) (o := 3) (v := (.agg #[(.string ⟨List.toArray ([] : List UInt8)⟩), .nilFunc, .nilFunc])) K rfl K K K K (fun _ => K) K (E4 b3) (SP.get k4 (i := 1) rfl) ?_
    exact eK j
  ·exact oV (hC (hA 3 13) (h0)) (.tuple #[(.agg #[(.string ⟨List.toArray ([] : List UInt8)⟩), .nilFunc, .nilFunc]), (.bool false)])
  ·exact oV (hC (hA 4 9) (h0)) (.agg #[(.string ⟨List.toArray ([] : List UInt8)⟩), .nilFunc, .nilFunc])
  ·exact oV (hC (hA 4 9) (h0)) (.bool false)
  ·refine Owe.heavy K [(0, 2), (1, 3)] K (Qo ⟨K, K, ?_⟩ (Qo ⟨K, K, ?_⟩ Xo))
   ·rintro ρ' w' hs p ⟨o8, k5⟩
    refine kN [] trivial fun j => ?_
    refine Qf.alloc (t := 118) (z := (.agg #[(.string ⟨List.toArray ([] : List UInt8)⟩), .nilFunc, .nilFunc])) (d := (some 3)) (k := 7) K rfl K k5 ?_
    intro k6 o9 k7
    refine ⟨_, Ql j, trivial, ?_⟩
    exact (Exists.intro k6 (And.intro (And.intro rfl (trivial)) (k7)))
   ·rintro ρ' w' hs p ⟨b0, ⟨k8, -⟩, k9⟩
    refine kN [] trivial fun j => ?_
    refine Qf.alloc (t := 118) (z := (.agg #[(.string ⟨List.toArray ([] : List UInt8)⟩), .nilFunc, .nilFunc])) (d := (some 3)) (k := 7) K rfl K k9 ?_
    intro l0 p0 l1
    refine ⟨_, Ql j, trivial, ?_⟩
    exact (Exists.intro b0 (Exists.intro l0 (And.intro (And.intro k8 (And.intro rfl (trivial))) (l1))))
  ·refine oH 3 4 ?_
   ·rintro ρ' w' hs p ⟨b1, b2, ⟨l2, e9, -⟩, l3⟩
    refine kN [(3, (pt b2 0)), (14, (.agg #[(.string ⟨List.toArray ([] : List UInt8)⟩), .nilFunc, .nilFunc]))] ⟨(Zb (h := 7) K).symm.trans e9, p 5 14 K, trivial⟩ fun j => ?_
    refine Qf.store (t := 118) (x := (.tmp 3)) (y := (.tmp 14)) (g := b2) (off := 0) (i := 2) (v := (.agg #[(.string ⟨List.toArray ([] : List UInt8)⟩), .nilFunc, .nilFunc])) (cs' := #[(.string ⟨List.toArray ([] : List UInt8)⟩), .nilFunc, .nilFunc]) (d := none) (k := 8) K rfl K K l3 rfl K ?_
    intro p1 l4
    refine ⟨_, Ql j, trivial, ?_⟩
    exact (Exists.intro b1 (Exists.intro b2 (And.intro (And.intro l2 (And.intro e9 (And.intro rfl (trivial)))) (l4))))
  ·exact oV (hC (hA 6 15) (h0)) (.bool false)
  ·rintro ρ' w' hs hf ⟨d0, c3, ⟨p2, l5, p3, -⟩, f0⟩
   refine Yh [(1, (pt g9 0)), (3, (pt c3 0)), (4, (.bool false))] ⟨(hs 1 K).trans K, (Zb (h := 7) K).symm.trans l5, hf 9 4 K, trivial⟩ ?_
   obtain ⟨p4, l6⟩ : ∃ x, w' = x := ⟨_, rfl⟩
   rw [l6] at f0 ⊢
   refine aQ ?_
   refine aQ ?_
   refine aR ?_
   refine iR 2 2 [(16, (.bool false)), (17, (.bool true))] ?_
   refine iF ?_
   refine Z8 K (o := (.tmp 17)) K (b := true) K (fun f1 => ?_) (fun f1 => ?_)
   rotate_left
   ·cases f1
   refine aQ ?_
   refine aR ?_
   refine iR 1 1 [(2, (.string ⟨List.toArray ([] : List UInt8)⟩))] ?_
   refine iF ?_
   refine At.ret K ?_
   refine ⟨(.string ⟨List.toArray ([] : List UInt8)⟩), K, ?_⟩
   obtain rfl := Qc H
   exact ⟨rfl, SP.sel f0 [] rfl rfl⟩
def Zw (a : ((List (List UInt8)) × Bool)) (b : Bool) : Option ((List UInt8)) :=
  ((Vf a.1 b).bind fun c => (some (c)))
def X6 (c : (List (List UInt8)) → Bool → Int → Int → Option ((List UInt8))) (d : (List (List UInt8))) (e : Int) (a : (Int × (List UInt8) × Bool × Bool)) (f : Bool) : Option ((List UInt8)) :=
  ((Zx a.1).bind fun g => ((app g ([61] : List UInt8)).bind fun h => ((V2 a.2.1).bind fun i => ((app h i).bind fun j => ((Jw a.2.2.1 ([43] : List UInt8)).bind fun k => ((app j k).bind fun l => ((Jw a.2.2.2 ([33] : List UInt8)).bind fun m => ((app l m).bind fun n => ((Qn d f ([n] : List (List UInt8))).bind fun b => (c b.1 b.2 a.1 (IntKind.wrap .i64 (e + 1))))))))))))
def Jt (d : (List (List UInt8)) → Bool → Int → Int → Option ((List UInt8))) (e : (List (Int × (List UInt8) × Bool × Bool))) (c : (List (List UInt8))) (f : Bool) (g : Int) (a : Int) : Option ((List UInt8)) :=
  (cond (decide (a < ((List.length e : Nat) : Int))) ((idx e a).bind fun b => (cond f (X6 d c a b true) (cond (decide (b.1 ≤ g)) (X6 d c a b true) (X6 d c a b (decide (b.1 > 1099511627776)))))) ((Vf c f).bind fun h => (some (h))))
def X7 (a : (List (Int × (List UInt8) × Bool × Bool))) : Nat → (List (List UInt8)) → Bool → Int → Int → Option ((List UInt8))
  | 0, _, _, _, _ => none
  | f + 1, b, c, d, e => Jt  (X7 a f) a b c d e
def Jy (b : Int) (c : Int) (d : Int) (e : (List (Int × (List UInt8) × Bool × Bool))) : Option ((List UInt8)) :=
  (cond (b != 0) ((Qn ([] : List (List UInt8)) false ([([101, 114, 114] : List UInt8)] : List (List UInt8))).bind fun f => ((Qs f.1 f.2 b).bind fun a => (cond a.2 (Zw a true) (cond (c != 0) (Zw a true) (cond (d != 0) (Zw a true) (Zw a (decide (((List.length e : Nat) : Int) > 0)))))))) ((Qn ([] : List (List UInt8)) false ([([111, 107] : List UInt8)] : List (List UInt8))).bind fun g => ((Qs g.1 g.2 c).bind fun h => ((Qs h.1 h.2 d).bind fun i => (X7 e J4 i.1 i.2 (-1) 0)))))
set_option maxHeartbeats 40000000 in
theorem Ui (A5 : Option Addr) (c6 : Nat) (a8 : Int) (a3 : Int) (a4 : Int) (s : (List (Int × (List UInt8) × Bool × Bool))) (w0 : World) (hL : Yr w0) (g3 : RdT (Qd (Zd .i64) (Qd Qg (Qd Vp Vp))) w0 A5 c6 s) (r : ((List UInt8))) (H : Jy a8 a3 a4 s = some r) :
  Calls Tryz.prog 37 #[(.agg #[(.int .i64 a8), (.int .i64 a3), (.int .i64 a4), (.slice A5 (List.length s) c6)])] w0 (fun e w' => e = .returned (.string ⟨List.toArray r⟩) ∧ SP [] w0 w' []) := by
 unfold Jy at H
 refine Qj (n := 104) Tryz.func37 K K K ?_
 have j5 := Q7 [] w0
 refine aQ ?_
 refine aR ?_
 refine iS 1 ?_
 refine Zq (t := 55) (x := (.tmp 0)) (v := (.agg #[(.int .i64 a8), (.int .i64 a3), (.int .i64 a4), (.slice A5 (List.length s) c6)])) (d := (some 1)) (k := 0) K rfl K j5 ?_
 intro g8 w9 j6
 refine iR 1 2 [(2, (.string ⟨List.toArray ([] : List UInt8)⟩))] ?_
 refine iF ?_
 refine aQ ?_
 refine aR ?_
 refine iR 1 1 [(7, (.agg #[(.slice none (List.length ([] : List (List UInt8))) 0), (.bool false)]))] ?_
 refine iS 2 ?_
 refine Zq (t := 133) (x := (.tmp 7)) (v := (.agg #[(.slice none (List.length ([] : List (List UInt8))) 0), (.bool false)])) (d := (some 8)) (k := 1) K rfl K j6 ?_
 intro j r9 d8
 refine iR 1 3 [(3, (pt j 0))] ?_
 refine iF ?_
 refine aQ ?_
 refine aQ ?_
 refine aR ?_
 refine iR 1 1 [(9, (pt g8 0))] ?_
 refine iS 2 ?_
 refine sL 27 9 g8 0 0 (.int .i64 a8) 10 d8 rfl ?_
 refine iR 1 3 [(11, (.bool (a8 != 0)))] ?_
 refine iF ?_
 refine Z8 K (o := (.tmp 11)) K (b := (a8 != 0)) K (fun d9 => ?_) (fun d9 => ?_)
 ·have H := ct H d9
  refine aQ ?_
  refine aR ?_
  refine iR 1 1 [(12, (pt j 0))] ?_
  refine iS 2 ?_
  refine Vb (e := Qg) (T := 79) (E := 9) (len := 1) (parts := #[(0, (.const (.string ⟨List.toArray ([101, 114, 114] : List UInt8)⟩)))]) (cs := #[(.string ⟨List.toArray ([101, 114, 114] : List UInt8)⟩)]) ([([101, 114, 114] : List UInt8)] : List (List UInt8)) (d := (some 13)) (k := 1) K rfl (fun _ => K) d8 rfl rfl rfl rfl ?_
  intro d1 g4 j7
  obtain ⟨c1, j8, H⟩ := Qa H
  refine iS 3 ?_
  have e0 : SP [] w0 g4 [Qh g8 55 #[(.int .i64 a8), (.int .i64 a3), (.int .i64 a4), (.slice A5 (List.length s) c6)], Qh j 133 #[(.slice none (List.length ([] : List (List UInt8))) 0), (.bool false)], Q6 9 Qg (some ⟨d1, 0, none⟩) (List.length ([([101, 114, 114] : List UInt8)] : List (List UInt8))) ([([101, 114, 114] : List UInt8)] : List (List UInt8)), Q6 9 Qg none 0 ([] : List (List UInt8))] := Yv j7 9 Qg
  refine cF 84 #[(.tmp 12), (.tmp 13)] #[132, 79] 14 Tryz.call84 (Qz j none 0 (some ⟨d1, 0, none⟩) (List.length ([([101, 114, 114] : List UInt8)] : List (List UInt8))) ([] : List (List UInt8)) false ([([101, 114, 114] : List UInt8)] : List (List UInt8)) g4 (Q2 e0 [1, 3] rfl rfl) (fun w hm => (Vi (SP.still e0 (l := [1, 3]) (i := 2) rfl rfl rfl hm))) c1 j8) ?_
  rintro e g5 ⟨e1, e2, rfl, g6⟩
  refine ⟨_, rfl, ?_⟩
  have d2 : SP [] w0 g5 [Qh g8 55 #[(.int .i64 a8), (.int .i64 a3), (.int .i64 a4), (.slice A5 (List.length s) c6)], Q6 9 Qg (some ⟨d1, 0, none⟩) (List.length ([([101, 114, 114] : List UInt8)] : List (List UInt8))) ([([101, 114, 114] : List UInt8)] : List (List UInt8)), Qh j 133 #[(.slice e1 (List.length c1.1) e2), (.bool c1.2)], Q6 9 Qg e1 e2 c1.1] := Qk e0 [1, 3] [0, 2] rfl rfl g6 rfl
  clear g6
  refine iF ?_
  refine aQ ?_
  refine aR ?_
  refine iR 2 2 [(15, (pt j 0)), (16, (pt g8 0))] ?_
  refine iS 3 ?_
  refine sL 27 16 g8 0 0 (.int .i64 a8) 17 d2 rfl ?_
  obtain ⟨a5, j9, H⟩ := Qa H
  refine iS 4 ?_
  refine cF 85 #[(.tmp 15), (.tmp 17)] #[132, 2] 18 Tryz.call85 (Qv j e1 e2 c1.1 c1.2 a8 g5 (fun w hm => Qr hL (Xp d2 (l := [2, 3]) rfl hm)) (Q2 d2 [2, 3] rfl rfl) a5 j9) ?_
  rintro e k1 ⟨b4, b5, rfl, g7⟩
  refine ⟨_, rfl, ?_⟩
  have b7 : SP [] w0 k1 [Qh g8 55 #[(.int .i64 a8), (.int .i64 a3), (.int .i64 a4), (.slice A5 (List.length s) c6)], Q6 9 Qg (some ⟨d1, 0, none⟩) (List.length ([([101, 114, 114] : List UInt8)] : List (List UInt8))) ([([101, 114, 114] : List UInt8)] : List (List UInt8)), Qh j 133 #[(.slice b4 (List.length a5.1) b5), (.bool a5.2)], Q6 9 Qg b4 b5 a5.1] := Qk d2 [2, 3] [0, 1] rfl rfl g7 rfl
  clear g7
  refine iF ?_
  refine aQ ?_
  refine At.join (fun ρ w => ∃ (c8 : Bool), V5 ρ [(3, (pt j 0))] ∧ SP [] w0 w [Q6 9 Qg b4 b5 a5.1, Qh j 133 #[(.slice b4 (List.length a5.1) b5), (.bool c8)]] ∧ Zw a5 c8 = some r) ?_ ?_
  ·refine aR ?_
   refine iR 4 4 [(19, (pt j 0)), (20, (pt j 0)), (21, (pt j 0)), (22, (pt j 1))] ?_
   refine iS 5 ?_
   refine sL 4 22 j 1 2 (.bool a5.2) 23 b7 rfl ?_
   refine iR 1 6 [(24, (.bool a5.2))] ?_
   refine In.guard (t := 24) (b := a5.2) K (fun e3 => ?_) (fun e3 => ?_)
   ·have H := ct H e3
    refine iR 17 23 [(25, undef), (26, undef), (27, undef), (28, (.bool true)), (29, (.bool true)), (30, undef), (31, undef), (32, undef), (33, (.bool true)), (34, (.bool true)), (35, undef), (36, undef), (37, undef), (38, undef), (39, (.bool true)), (40, (pt j 0)), (41, (pt j 1))] ?_
    refine iS 24 ?_
    refine Qf.store (t := 4) (x := (.tmp 41)) (y := (.tmp 39)) (g := j) (off := 1) (i := 2) (v := (.bool true)) (cs' := #[(.slice b4 (List.length a5.1) b5), (.bool true)]) (d := none) (k := 23) K rfl K K b7 rfl K ?_
    intro s0 k2
    refine iF ?_
    exact ⟨true, ⟨K, trivial⟩, SP.sel k2 [3, 2] rfl rfl, H⟩
   ·have H := cf H e3
    refine iR 1 7 [(25, (pt g8 1))] ?_
    refine iS 8 ?_
    refine sL 3 25 g8 1 0 (.int .i64 a3) 26 b7 rfl ?_
    refine iR 3 11 [(27, (.bool (a3 != 0))), (28, (.bool (a3 != 0))), (29, (.bool (a3 != 0)))] ?_
    refine In.guard (t := 29) (b := (a3 != 0)) K (fun e4 => ?_) (fun e4 => ?_)
    ·have H := ct H e4
     refine iR 12 23 [(30, undef), (31, undef), (32, undef), (33, (.bool true)), (34, (.bool true)), (35, undef), (36, undef), (37, undef), (38, undef), (39, (.bool true)), (40, (pt j 0)), (41, (pt j 1))] ?_
     refine iS 24 ?_
     refine Qf.store (t := 4) (x := (.tmp 41)) (y := (.tmp 39)) (g := j) (off := 1) (i := 2) (v := (.bool true)) (cs' := #[(.slice b4 (List.length a5.1) b5), (.bool true)]) (d := none) (k := 23) K rfl K K b7 rfl K ?_
     intro s1 k3
     refine iF ?_
     exact ⟨true, ⟨K, trivial⟩, SP.sel k3 [3, 2] rfl rfl, H⟩
    ·have H := cf H e4
     refine iR 1 12 [(30, (pt g8 2))] ?_
     refine iS 13 ?_
     refine sL 3 30 g8 2 0 (.int .i64 a4) 31 b7 rfl ?_
     refine iR 3 16 [(32, (.bool (a4 != 0))), (33, (.bool (a4 != 0))), (34, (.bool (a4 != 0)))] ?_
     refine In.guard (t := 34) (b := (a4 != 0)) K (fun e5 => ?_) (fun e5 => ?_)
     ·have H := ct H e5
      refine iR 7 23 [(35, undef), (36, undef), (37, undef), (38, undef), (39, (.bool true)), (40, (pt j 0)), (41, (pt j 1))] ?_
      refine iS 24 ?_
      refine Qf.store (t := 4) (x := (.tmp 41)) (y := (.tmp 39)) (g := j) (off := 1) (i := 2) (v := (.bool true)) (cs' := #[(.slice b4 (List.length a5.1) b5), (.bool true)]) (d := none) (k := 23) K rfl K K b7 rfl K ?_
      intro s2 k4
      refine iF ?_
      exact ⟨true, ⟨K, trivial⟩, SP.sel k4 [3, 2] rfl rfl, H⟩
     ·have H := cf H e5
      refine iR 1 17 [(35, (pt g8 3))] ?_
      refine iS 18 ?_
      refine sL 53 35 g8 3 0 (.slice A5 (List.length s) c6) 36 b7 rfl ?_
      refine iR 5 23 [(37, (.int .i64 ((List.length s : Nat) : Int))), (38, (.bool (decide (((List.length s : Nat) : Int) > 0)))), (39, (.bool (decide (((List.length s : Nat) : Int) > 0)))), (40, (pt j 0)), (41, (pt j 1))] ?_
      refine iS 24 ?_
      refine Qf.store (t := 4) (x := (.tmp 41)) (y := (.tmp 39)) (g := j) (off := 1) (i := 2) (v := (.bool (decide (((List.length s : Nat) : Int) > 0)))) (cs' := #[(.slice b4 (List.length a5.1) b5), (.bool (decide (((List.length s : Nat) : Int) > 0)))]) (d := none) (k := 23) K rfl K K b7 rfl K ?_
      intro s3 k5
      refine iF ?_
      exact ⟨(decide (((List.length s : Nat) : Int) > 0)), ⟨K, trivial⟩, SP.sel k5 [3, 2] rfl rfl, H⟩
  ·rintro ρ k6 ⟨c8, hk, g9, H⟩
   unfold Zw at H
   first | refine At.known [(3, (pt j 0))] hk ?_ | rw [← Qq (l := [(3, (pt j 0))]) hk]
   refine aQ ?_
   refine aR ?_
   refine iR 1 1 [(42, (pt j 0))] ?_
   obtain ⟨e6, k7, H⟩ := Qa H
   refine iS 2 ?_
   refine cF 79 #[(.tmp 42)] #[132] 43 Tryz.call79 (Z6 j b4 b5 a5.1 c8 k6 (Q2 g9 [1, 0] rfl rfl) e6 k7) ?_
   rintro e k8 ⟨h1, h2, rfl, h3⟩
   refine ⟨_, rfl, ?_⟩
   have k9 : SP [] w0 k8 [Qh j 133 #[(.slice h1 (List.length a5.1) h2), (.bool c8)], Q6 9 Qg h1 h2 a5.1] := Qk g9 [1, 0] [] rfl rfl h3 rfl
   clear h3
   refine iR 1 3 [(2, (.string ⟨List.toArray e6⟩))] ?_
   refine iF ?_
   refine At.ret K ?_
   refine ⟨(.string ⟨List.toArray e6⟩), K, ?_⟩
   obtain rfl := Qc H
   exact ⟨rfl, SP.sel k9 [] rfl rfl⟩
 ·have H := cf H d9
  refine At.skip K ?_
  refine aQ ?_
  refine aR ?_
  refine iR 1 1 [(44, (pt j 0))] ?_
  refine iS 2 ?_
  refine Vb (e := Qg) (T := 79) (E := 9) (len := 1) (parts := #[(0, (.const (.string ⟨List.toArray ([111, 107] : List UInt8)⟩)))]) (cs := #[(.string ⟨List.toArray ([111, 107] : List UInt8)⟩)]) ([([111, 107] : List UInt8)] : List (List UInt8)) (d := (some 45)) (k := 1) K rfl (fun _ => K) d8 rfl rfl rfl rfl ?_
  intro c9 h4 l0
  obtain ⟨c2, l1, H⟩ := Qa H
  refine iS 3 ?_
  have e7 : SP [] w0 h4 [Qh g8 55 #[(.int .i64 a8), (.int .i64 a3), (.int .i64 a4), (.slice A5 (List.length s) c6)], Qh j 133 #[(.slice none (List.length ([] : List (List UInt8))) 0), (.bool false)], Q6 9 Qg (some ⟨c9, 0, none⟩) (List.length ([([111, 107] : List UInt8)] : List (List UInt8))) ([([111, 107] : List UInt8)] : List (List UInt8)), Q6 9 Qg none 0 ([] : List (List UInt8))] := Yv l0 9 Qg
  refine cF 84 #[(.tmp 44), (.tmp 45)] #[132, 79] 46 Tryz.call84 (Qz j none 0 (some ⟨c9, 0, none⟩) (List.length ([([111, 107] : List UInt8)] : List (List UInt8))) ([] : List (List UInt8)) false ([([111, 107] : List UInt8)] : List (List UInt8)) h4 (Q2 e7 [1, 3] rfl rfl) (fun w hm => (Vi (SP.still e7 (l := [1, 3]) (i := 2) rfl rfl rfl hm))) c2 l1) ?_
  rintro e h5 ⟨e8, e9, rfl, h6⟩
  refine ⟨_, rfl, ?_⟩
  have d3 : SP [] w0 h5 [Qh g8 55 #[(.int .i64 a8), (.int .i64 a3), (.int .i64 a4), (.slice A5 (List.length s) c6)], Q6 9 Qg (some ⟨c9, 0, none⟩) (List.length ([([111, 107] : List UInt8)] : List (List UInt8))) ([([111, 107] : List UInt8)] : List (List UInt8)), Qh j 133 #[(.slice e8 (List.length c2.1) e9), (.bool c2.2)], Q6 9 Qg e8 e9 c2.1] := Qk e7 [1, 3] [0, 2] rfl rfl h6 rfl
  clear h6
  refine iF ?_
  refine aQ ?_
  refine aR ?_
  refine iR 2 2 [(47, (pt j 0)), (48, (pt g8 1))] ?_
  refine iS 3 ?_
  refine sL 3 48 g8 1 0 (.int .i64 a3) 49 d3 rfl ?_
  obtain ⟨c3, l2, H⟩ := Qa H
  refine iS 4 ?_
  refine cF 85 #[(.tmp 47), (.tmp 49)] #[132, 2] 50 Tryz.call85 (Qv j e8 e9 c2.1 c2.2 a3 h5 (fun w hm => Qr hL (Xp d3 (l := [2, 3]) rfl hm)) (Q2 d3 [2, 3] rfl rfl) c3 l2) ?_
  rintro e h7 ⟨f0, f1, rfl, h8⟩
  refine ⟨_, rfl, ?_⟩
  have d4 : SP [] w0 h7 [Qh g8 55 #[(.int .i64 a8), (.int .i64 a3), (.int .i64 a4), (.slice A5 (List.length s) c6)], Q6 9 Qg (some ⟨c9, 0, none⟩) (List.length ([([111, 107] : List UInt8)] : List (List UInt8))) ([([111, 107] : List UInt8)] : List (List UInt8)), Qh j 133 #[(.slice f0 (List.length c3.1) f1), (.bool c3.2)], Q6 9 Qg f0 f1 c3.1] := Qk d3 [2, 3] [0, 1] rfl rfl h8 rfl
  clear h8
  refine iF ?_
  refine aQ ?_
  refine aR ?_
  refine iR 2 2 [(51, (pt j 0)), (52, (pt g8 2))] ?_
  refine iS 3 ?_
  refine sL 3 52 g8 2 0 (.int .i64 a4) 53 d4 rfl ?_
  obtain ⟨c4, l3, H⟩ := Qa H
  refine iS 4 ?_
  refine cF 85 #[(.tmp 51), (.tmp 53)] #[132, 2] 54 Tryz.call85 (Qv j f0 f1 c3.1 c3.2 a4 h7 (fun w hm => Qr hL (Xp d4 (l := [2, 3]) rfl hm)) (Q2 d4 [2, 3] rfl rfl) c4 l3) ?_
  rintro e l4 ⟨f2, f3, rfl, h9⟩
  refine ⟨_, rfl, ?_⟩
  have i0 : SP [] w0 l4 [Qh g8 55 #[(.int .i64 a8), (.int .i64 a3), (.int .i64 a4), (.slice A5 (List.length s) c6)], Q6 9 Qg (some ⟨c9, 0, none⟩) (List.length ([([111, 107] : List UInt8)] : List (List UInt8))) ([([111, 107] : List UInt8)] : List (List UInt8)), Qh j 133 #[(.slice f2 (List.length c4.1) f3), (.bool c4.2)], Q6 9 Qg f2 f3 c4.1] := Qk d4 [2, 3] [0, 1] rfl rfl h9 rfl
  clear h9
  refine iF ?_
  refine aQ ?_
  refine aR ?_
  refine iR 1 1 [(4, (.int .i64 (-1)))] ?_
  refine iF ?_
  refine aQ ?_
  refine aQ ?_
  refine aR ?_
  refine iR 1 1 [(55, (pt g8 3))] ?_
  refine iS 2 ?_
  refine sL 53 55 g8 3 0 (.slice A5 (List.length s) c6) 56 i0 rfl ?_
  refine iR 2 4 [(57, (.int .i64 ((List.length s : Nat) : Int))), (58, (.int .i64 0))] ?_
  refine iF ?_
  refine J3 K (id := 0) K ?_
  refine De K (fun f5 ρ w => ∃ (u : (List (List UInt8))) (b2 : Bool) (b0 : Int) (a2 : Int) (a0 : Option Addr) (a1 : Nat), V5 ρ [(3, (pt j 0)), (4, (.int .i64 b0)), (56, (.slice A5 (List.length s) c6)), (57, (.int .i64 ((List.length s : Nat) : Int))), (58, (.int .i64 a2))] ∧ SP [] w0 w [Q6 9 Qg a0 a1 u, Qh j 133 #[(.slice a0 (List.length u) a1), (.bool b2)]] ∧ X7 s f5 u b2 b0 a2 = some r) (by rintro ρ w ⟨u, b2, b0, a2, a0, a1, hk, hs, H⟩; cases H) ?_ J4 ?_
  ·rintro f5 ρ l5 ⟨u, b2, b0, a2, a0, a1, hk, d0, H⟩
   refine At.known [(3, (pt j 0)), (4, (.int .i64 b0)), (56, (.slice A5 (List.length s) c6)), (57, (.int .i64 ((List.length s : Nat) : Int))), (58, (.int .i64 a2))] hk ?_
   replace H := (show Jt (X7 s f5) s u b2 b0 a2 = some r from H)
   unfold Jt at H
   refine aQ ?_
   refine aR ?_
   refine iR 1 1 [(59, (.bool (decide (a2 < ((List.length s : Nat) : Int)))))] ?_
   refine iF ?_
   refine aQ ?_
   refine Z8 K (o := (.tmp 59)) K (b := (decide (a2 < ((List.length s : Nat) : Int)))) K (fun f4 => ?_) (fun f4 => ?_)
   ·have H := ct H f4
    refine At.skip K ?_
    refine aQ ?_
    refine J3 K (id := 1) K ?_
    refine aQ ?_
    refine aR ?_
    obtain ⟨f, i1, i2, l6, H⟩ := V8 H
    refine iS 1 ?_
    refine Zi (e := (Qd (Zd .i64) (Qd Qg (Qd Vp Vp)))) (l := s) (A := A5) (c := c6) (T := 53) (E := 108) (x := (.tmp 56)) (ix := (.tmp 58)) (ki := .i64) (iz := a2) (d := (some 60)) (k := 0) K rfl K K K K (RdT.sp g3 d0) i1 i2 ?_
    intro l7 l8 l9 s4 hc1099
    refine iS 2 ?_
    refine Qf.cells (t := 108) (x := (.tmp 60)) (b := l7) (off := (l8 + Int.toNat a2 * (Qd (Zd .i64) (Qd Qg (Qd Vp Vp))).sz)) (xs := [(.int .i64 f.1), (.string ⟨List.toArray f.2.1⟩), (.bool f.2.2.1), (.bool f.2.2.2)]) (d := (some 61)) (k := 1) K rfl K K K (Jh (e := (Qd (Zd .i64) (Qd Qg (Qd Vp Vp)))) (Yx (RdT.sp g3 d0) l9 i1 i2) l6 rfl) ?_
    refine iS 3 ?_
    refine Qf.alloc (t := 108) (z := (.agg #[(.int .i64 0), (.string ⟨List.toArray ([] : List UInt8)⟩), (.bool false), (.bool false)])) (d := (some 6)) (k := 2) K rfl K d0 ?_
    intro q s5 m0
    refine iS 4 ?_
    refine Qf.store (t := 108) (x := (.tmp 6)) (y := (.tmp 61)) (g := q) (off := 0) (i := 2) (v := (.agg #[(.int .i64 f.1), (.string ⟨List.toArray f.2.1⟩), (.bool f.2.2.1), (.bool f.2.2.2)])) (cs' := #[(.int .i64 f.1), (.string ⟨List.toArray f.2.1⟩), (.bool f.2.2.1), (.bool f.2.2.2)]) (d := none) (k := 3) K rfl K K m0 rfl K ?_
    intro s6 c5
    refine iF ?_
    refine aQ ?_
    refine At.join (fun ρ w => ∃ (b3 : Bool), V5 ρ [(3, (pt j 0)), (6, (pt q 0)), (56, (.slice A5 (List.length s) c6)), (57, (.int .i64 ((List.length s : Nat) : Int))), (58, (.int .i64 a2))] ∧ SP [] w0 w [Q6 9 Qg a0 a1 u, Qh j 133 #[(.slice a0 (List.length u) a1), (.bool b3)], Qh q 108 #[(.int .i64 f.1), (.string ⟨List.toArray f.2.1⟩), (.bool f.2.2.1), (.bool f.2.2.2)]] ∧ X6 (X7 s f5) u a2 f b3 = some r) ?_ ?_
    ·refine aR ?_
     refine iR 4 4 [(62, (pt j 0)), (63, (pt j 0)), (64, (pt j 0)), (65, (pt j 1))] ?_
     refine iS 5 ?_
     refine sL 4 65 j 1 1 (.bool b2) 66 c5 rfl ?_
     refine iR 1 6 [(67, (.bool b2))] ?_
     refine In.guard (t := 67) (b := b2) K (fun f6 => ?_) (fun f6 => ?_)
     ·have H := ct H f6
      refine iR 12 18 [(68, undef), (69, undef), (70, undef), (71, undef), (72, (.bool true)), (73, (.bool true)), (74, undef), (75, undef), (76, undef), (77, (.bool true)), (78, (pt j 0)), (79, (pt j 1))] ?_
      refine iS 19 ?_
      refine Qf.store (t := 4) (x := (.tmp 79)) (y := (.tmp 77)) (g := j) (off := 1) (i := 1) (v := (.bool true)) (cs' := #[(.slice a0 (List.length u) a1), (.bool true)]) (d := none) (k := 18) K rfl K K c5 rfl K ?_
      intro s7 m1
      refine iF ?_
      exact ⟨true, ⟨K, K, K, K, K, trivial⟩, SP.sel m1 [0, 1, 2] rfl rfl, H⟩
     ·have H := cf H f6
      refine iR 1 7 [(68, (pt q 0))] ?_
      refine iS 8 ?_
      refine sL 3 68 q 0 2 (.int .i64 f.1) 69 c5 rfl ?_
      refine iR 4 12 [(70, (.int .i64 b0)), (71, (.bool (decide (f.1 ≤ b0)))), (72, (.bool (decide (f.1 ≤ b0)))), (73, (.bool (decide (f.1 ≤ b0))))] ?_
      refine In.guard (t := 73) (b := (decide (f.1 ≤ b0))) K (fun f7 => ?_) (fun f7 => ?_)
      ·have H := ct H f7
       refine iR 6 18 [(74, undef), (75, undef), (76, undef), (77, (.bool true)), (78, (pt j 0)), (79, (pt j 1))] ?_
       refine iS 19 ?_
       refine Qf.store (t := 4) (x := (.tmp 79)) (y := (.tmp 77)) (g := j) (off := 1) (i := 1) (v := (.bool true)) (cs' := #[(.slice a0 (List.length u) a1), (.bool true)]) (d := none) (k := 18) K rfl K K c5 rfl K ?_
       intro s8 m2
       refine iF ?_
       exact ⟨true, ⟨K, K, K, K, K, trivial⟩, SP.sel m2 [0, 1, 2] rfl rfl, H⟩
      ·have H := cf H f7
       refine iR 1 13 [(74, (pt q 0))] ?_
       refine iS 14 ?_
       refine sL 3 74 q 0 2 (.int .i64 f.1) 75 c5 rfl ?_
       refine iR 4 18 [(76, (.bool (decide (f.1 > 1099511627776)))), (77, (.bool (decide (f.1 > 1099511627776)))), (78, (pt j 0)), (79, (pt j 1))] ?_
       refine iS 19 ?_
       refine Qf.store (t := 4) (x := (.tmp 79)) (y := (.tmp 77)) (g := j) (off := 1) (i := 1) (v := (.bool (decide (f.1 > 1099511627776)))) (cs' := #[(.slice a0 (List.length u) a1), (.bool (decide (f.1 > 1099511627776)))]) (d := none) (k := 18) K rfl K K c5 rfl K ?_
       intro s9 m3
       refine iF ?_
       exact ⟨(decide (f.1 > 1099511627776)), ⟨K, K, K, K, K, trivial⟩, SP.sel m3 [0, 1, 2] rfl rfl, H⟩
    ·rintro ρ t0 ⟨b3, hk, i3, H⟩
     unfold X6 at H
     first | refine At.known [(3, (pt j 0)), (6, (pt q 0)), (56, (.slice A5 (List.length s) c6)), (57, (.int .i64 ((List.length s : Nat) : Int))), (58, (.int .i64 a2))] hk ?_ | rw [← Qq (l := [(3, (pt j 0)), (6, (pt q 0)), (56, (.slice A5 (List.length s) c6)), (57, (.int .i64 ((List.length s : Nat) : Int))), (58, (.int .i64 a2))]) hk]
     refine aQ ?_
     refine aR ?_
     refine iR 1 1 [(80, (pt q 0))] ?_
     refine iS 2 ?_
     refine sL 3 80 q 0 2 (.int .i64 f.1) 81 i3 rfl ?_
     refine iR 1 3 [(4, (.int .i64 f.1))] ?_
     refine iF ?_
     obtain ⟨a6, m4, H⟩ := Qa H
     obtain ⟨hl1130, H⟩ := U0 H
     obtain ⟨b8, hyl1129⟩ : ∃ y, a6 ++ ([61] : List UInt8) = y := ⟨_, rfl⟩
     rw [hyl1129] at H
     obtain ⟨a9, m5, H⟩ := Qa H
     obtain ⟨hl1138, H⟩ := U0 H
     obtain ⟨c7, hyl1137⟩ : ∃ y, b8 ++ a9 = y := ⟨_, rfl⟩
     rw [hyl1137] at H
     obtain ⟨b1, m6, H⟩ := Qa H
     obtain ⟨hl1146, H⟩ := U0 H
     obtain ⟨d5, hyl1145⟩ : ∃ y, c7 ++ b1 = y := ⟨_, rfl⟩
     rw [hyl1145] at H
     obtain ⟨b9, m7, H⟩ := Qa H
     obtain ⟨hl1154, H⟩ := U0 H
     obtain ⟨a7, hyl1153⟩ : ∃ y, d5 ++ b9 = y := ⟨_, rfl⟩
     rw [hyl1153] at H
     obtain ⟨b6, m8, H⟩ := Qa H
     refine aG [GEq (pt j 0), GEq (pt q 0), GEq (.int .i64 f.1), GEq (.string ⟨List.toArray a6⟩), GEq (.string ⟨List.toArray b8⟩), GEq (pt q 1), GEq (.string ⟨List.toArray f.2.1⟩), GEq (.string ⟨List.toArray a9⟩), GEq (.string ⟨List.toArray c7⟩), GEq (pt q 2), GEq (.bool f.2.2.1), GEq (.string ⟨List.toArray b1⟩), GEq (.string ⟨List.toArray d5⟩), GEq (pt q 3), GEq (.bool f.2.2.2), GEq (.string ⟨List.toArray b9⟩), GEq (.string ⟨List.toArray a7⟩), GAny, GEq (.tuple #[])] [3, 7, 11, 15, 17, 18] [([], fun vs w => VL vs [] ∧ SP [] w0 w [Q6 9 Qg a0 a1 u, Qh j 133 #[(.slice a0 (List.length u) a1), (.bool b3)], Qh q 108 #[(.int .i64 f.1), (.string ⟨List.toArray f.2.1⟩), (.bool f.2.2.1), (.bool f.2.2.2)]]), ([3], fun vs w => VL vs [(.string ⟨List.toArray a6⟩)] ∧ SP [] w0 w [Q6 9 Qg a0 a1 u, Qh j 133 #[(.slice a0 (List.length u) a1), (.bool b3)], Qh q 108 #[(.int .i64 f.1), (.string ⟨List.toArray f.2.1⟩), (.bool f.2.2.1), (.bool f.2.2.2)]]), ([3, 7], fun vs w => VL vs [(.string ⟨List.toArray a6⟩), (.string ⟨List.toArray a9⟩)] ∧ SP [] w0 w [Q6 9 Qg a0 a1 u, Qh j 133 #[(.slice a0 (List.length u) a1), (.bool b3)], Qh q 108 #[(.int .i64 f.1), (.string ⟨List.toArray f.2.1⟩), (.bool f.2.2.1), (.bool f.2.2.2)]]), ([3, 7, 11], fun vs w => VL vs [(.string ⟨List.toArray a6⟩), (.string ⟨List.toArray a9⟩), (.string ⟨List.toArray b1⟩)] ∧ SP [] w0 w [Q6 9 Qg a0 a1 u, Qh j 133 #[(.slice a0 (List.length u) a1), (.bool b3)], Qh q 108 #[(.int .i64 f.1), (.string ⟨List.toArray f.2.1⟩), (.bool f.2.2.1), (.bool f.2.2.2)]]), ([3, 7, 11, 15], fun vs w => VL vs [(.string ⟨List.toArray a6⟩), (.string ⟨List.toArray a9⟩), (.string ⟨List.toArray b1⟩), (.string ⟨List.toArray b9⟩)] ∧ SP [] w0 w [Q6 9 Qg a0 a1 u, Qh j 133 #[(.slice a0 (List.length u) a1), (.bool b3)], Qh q 108 #[(.int .i64 f.1), (.string ⟨List.toArray f.2.1⟩), (.bool f.2.2.1), (.bool f.2.2.2)]]), ([3, 7, 11, 15, 17], fun vs w => ∃ (c0 : Nat), VL vs [(.string ⟨List.toArray a6⟩), (.string ⟨List.toArray a9⟩), (.string ⟨List.toArray b1⟩), (.string ⟨List.toArray b9⟩), (.slice (some ⟨c0, 0, none⟩) (List.length ([a7] : List (List UInt8))) (List.length ([a7] : List (List UInt8))))] ∧ SP [] w0 w [Q6 9 Qg a0 a1 u, Qh j 133 #[(.slice a0 (List.length u) a1), (.bool b3)], Qh q 108 #[(.int .i64 f.1), (.string ⟨List.toArray f.2.1⟩), (.bool f.2.2.1), (.bool f.2.2.2)], Q6 9 Qg (some ⟨c0, 0, none⟩) (List.length ([a7] : List (List UInt8))) ([a7] : List (List UInt8))]), ([3, 7, 11, 15, 17, 18], fun vs w => ∃ (f8 : Nat), ∃ (d6 : Option Addr), ∃ (d7 : Nat), VL vs [(.string ⟨List.toArray a6⟩), (.string ⟨List.toArray a9⟩), (.string ⟨List.toArray b1⟩), (.string ⟨List.toArray b9⟩), (.slice (some ⟨f8, 0, none⟩) (List.length ([a7] : List (List UInt8))) (List.length ([a7] : List (List UInt8)))), (.tuple #[])] ∧ SP [] w0 w [Qh q 108 #[(.int .i64 f.1), (.string ⟨List.toArray f.2.1⟩), (.bool f.2.2.1), (.bool f.2.2.2)], Q6 9 Qg (some ⟨f8, 0, none⟩) (List.length ([a7] : List (List UInt8))) ([a7] : List (List UInt8)), Qh j 133 #[(.slice d6 (List.length b6.1) d7), (.bool b6.2)], Q6 9 Qg d6 d7 b6.1])] 19 6 ⟨trivial, SP.drew i3⟩ ?_ ?_
     iterate 19 refine And.intro ?_ ?_
     exact trivial
     ·exact oV (hC (hS 3 (pt j 0)) (h0)) (pt j 0)
     ·exact oV (hC (hS 6 (pt q 0)) (h0)) (pt q 0)
     ·refine oL 0 ?_
      ·rintro ρ' w' hs p ⟨t1, m9⟩
       refine kM (kc (kA p 1 83) k0) fun m => ?_
       refine sL 3 83 q 0 2 (.int .i64 f.1) 84 m9 rfl ?_
       exact eK m
     ·refine oH 0 1 ?_
      ·rintro ρ' w' hs p ⟨t2, i4⟩
       refine kM (kc (kA p 2 84) k0) fun m => ?_
       refine cF 59 #[(.tmp 84)] #[2] 85 Tryz.call59 (Ye  f.1 w' (Qr hL (SP.keeps i4)) a6 m4) ?_
       rintro e t3 ⟨rfl, i5⟩
       refine ⟨_, rfl, ?_⟩
       have n0 := SP.call i4 i5
       clear i5
       refine ⟨_, Ql m, rfl, ?_⟩
       exact (And.intro (And.intro rfl (trivial)) (n0))
     ·refine Owe.light K [1, 2, 3, 4] K (Qo ?_ (Qo ?_ (Qo ?_ (Qo ?_ Xo))))
      ·rintro ρ' w' hs p ⟨⟨n1, -⟩, t4⟩
       refine kN [(85, (.string ⟨List.toArray a6⟩))] ⟨(Zb (h := 3) K).symm.trans n1, trivial⟩ fun m => ?_
       refine Z3 (T := 9) (T' := 9) (x := (.tmp 85)) (y := (.const (.string ⟨List.toArray ([61] : List UInt8)⟩))) (a := a6) (b := ([61] : List UInt8)) (d := (some 86)) (k := 4) K rfl K K hl1130 ?_
       rw [hyl1129]
       exact eK m
      ·rintro ρ' w' hs p ⟨⟨n2, t5, -⟩, t6⟩
       refine kN [(85, (.string ⟨List.toArray a6⟩))] ⟨(Zb (h := 3) K).symm.trans n2, trivial⟩ fun m => ?_
       refine Z3 (T := 9) (T' := 9) (x := (.tmp 85)) (y := (.const (.string ⟨List.toArray ([61] : List UInt8)⟩))) (a := a6) (b := ([61] : List UInt8)) (d := (some 86)) (k := 4) K rfl K K hl1130 ?_
       rw [hyl1129]
       exact eK m
      ·rintro ρ' w' hs p ⟨⟨n3, t7, t8, -⟩, t9⟩
       refine kN [(85, (.string ⟨List.toArray a6⟩))] ⟨(Zb (h := 3) K).symm.trans n3, trivial⟩ fun m => ?_
       refine Z3 (T := 9) (T' := 9) (x := (.tmp 85)) (y := (.const (.string ⟨List.toArray ([61] : List UInt8)⟩))) (a := a6) (b := ([61] : List UInt8)) (d := (some 86)) (k := 4) K rfl K K hl1130 ?_
       rw [hyl1129]
       exact eK m
      ·rintro ρ' w' hs p ⟨⟨n4, u0, u1, u2, -⟩, u3⟩
       refine kN [(85, (.string ⟨List.toArray a6⟩))] ⟨(Zb (h := 3) K).symm.trans n4, trivial⟩ fun m => ?_
       refine Z3 (T := 9) (T' := 9) (x := (.tmp 85)) (y := (.const (.string ⟨List.toArray ([61] : List UInt8)⟩))) (a := a6) (b := ([61] : List UInt8)) (d := (some 86)) (k := 4) K rfl K K hl1130 ?_
       rw [hyl1129]
       exact eK m
     ·exact oV (hC (hS 6 (pt q 0)) (h0)) (pt q 1)
     ·refine Owe.light K [0, 1] K (Qo ?_ (Qo ?_ Xo))
      ·rintro ρ' w' hs p ⟨u4, n5⟩
       refine kM (kc (kA p 5 87) k0) fun m => ?_
       refine sL 9 87 q 1 2 (.string ⟨List.toArray f.2.1⟩) 88 n5 rfl ?_
       exact eK m
      ·rintro ρ' w' hs p ⟨⟨u5, -⟩, n6⟩
       refine kM (kc (kA p 5 87) k0) fun m => ?_
       refine sL 9 87 q 1 2 (.string ⟨List.toArray f.2.1⟩) 88 n6 rfl ?_
       exact eK m
     ·refine oH 1 2 ?_
      ·rintro ρ' w' hs p ⟨⟨n7, -⟩, n8⟩
       refine kM (kc (kA p 6 88) k0) fun m => ?_
       refine cF 86 #[(.tmp 88)] #[9] 89 Tryz.call86 (Zm  f.2.1 w'  a9 m5) ?_
       rintro e u6 ⟨rfl, i6⟩
       refine ⟨_, rfl, ?_⟩
       have n9 := SP.call n8 i6
       clear i6
       refine ⟨_, Ql m, rfl, ?_⟩
       exact (And.intro (And.intro n7 (And.intro rfl (trivial))) (n9))
     ·refine Owe.light K [2, 3, 4] K (Qo ?_ (Qo ?_ (Qo ?_ Xo)))
      ·rintro ρ' w' hs p ⟨⟨u7, o0, -⟩, u8⟩
       refine kN [(86, (.string ⟨List.toArray b8⟩)), (89, (.string ⟨List.toArray a9⟩))] ⟨p 4 86 K, (Zb (h := 7) K).symm.trans o0, trivial⟩ fun m => ?_
       refine Z3 (T := 9) (T' := 9) (x := (.tmp 86)) (y := (.tmp 89)) (a := b8) (b := a9) (d := (some 90)) (k := 8) K rfl K K hl1138 ?_
       rw [hyl1137]
       exact eK m
      ·rintro ρ' w' hs p ⟨⟨u9, o1, v0, -⟩, v1⟩
       refine kN [(86, (.string ⟨List.toArray b8⟩)), (89, (.string ⟨List.toArray a9⟩))] ⟨p 4 86 K, (Zb (h := 7) K).symm.trans o1, trivial⟩ fun m => ?_
       refine Z3 (T := 9) (T' := 9) (x := (.tmp 86)) (y := (.tmp 89)) (a := b8) (b := a9) (d := (some 90)) (k := 8) K rfl K K hl1138 ?_
       rw [hyl1137]
       exact eK m
      ·rintro ρ' w' hs p ⟨⟨v2, o2, v3, v4, -⟩, v5⟩
       refine kN [(86, (.string ⟨List.toArray b8⟩)), (89, (.string ⟨List.toArray a9⟩))] ⟨p 4 86 K, (Zb (h := 7) K).symm.trans o2, trivial⟩ fun m => ?_
       refine Z3 (T := 9) (T' := 9) (x := (.tmp 86)) (y := (.tmp 89)) (a := b8) (b := a9) (d := (some 90)) (k := 8) K rfl K K hl1138 ?_
       rw [hyl1137]
       exact eK m
     ·exact oV (hC (hS 6 (pt q 0)) (h0)) (pt q 2)
     ·refine Owe.light K [0, 1, 2] K (Qo ?_ (Qo ?_ (Qo ?_ Xo)))
      ·rintro ρ' w' hs p ⟨v6, o3⟩
       refine kM (kc (kA p 9 91) k0) fun m => ?_
       refine sL 4 91 q 2 2 (.bool f.2.2.1) 92 o3 rfl ?_
       exact eK m
      ·rintro ρ' w' hs p ⟨⟨v7, -⟩, o4⟩
       refine kM (kc (kA p 9 91) k0) fun m => ?_
       refine sL 4 91 q 2 2 (.bool f.2.2.1) 92 o4 rfl ?_
       exact eK m
      ·rintro ρ' w' hs p ⟨⟨v8, v9, -⟩, o5⟩
       refine kM (kc (kA p 9 91) k0) fun m => ?_
       refine sL 4 91 q 2 2 (.bool f.2.2.1) 92 o5 rfl ?_
       exact eK m
     ·refine oH 2 3 ?_
      ·rintro ρ' w' hs p ⟨⟨o6, o7, -⟩, o8⟩
       refine kM (kc (kA p 10 92) k0) fun m => ?_
       refine cF 87 #[(.tmp 92), (.const (.string ⟨List.toArray ([43] : List UInt8)⟩))] #[4, 9] 93 Tryz.call87 (Uh  f.2.2.1 ([43] : List UInt8) w'  b1 m6) ?_
       rintro e w1 ⟨rfl, i7⟩
       refine ⟨_, rfl, ?_⟩
       have o9 := SP.call o8 i7
       clear i7
       refine ⟨_, Ql m, rfl, ?_⟩
       exact (And.intro (And.intro o6 (And.intro o7 (And.intro rfl (trivial)))) (o9))
     ·refine Owe.light K [3, 4] K (Qo ?_ (Qo ?_ Xo))
      ·rintro ρ' w' hs p ⟨⟨w2, w3, p0, -⟩, w4⟩
       refine kN [(90, (.string ⟨List.toArray c7⟩)), (93, (.string ⟨List.toArray b1⟩))] ⟨p 8 90 K, (Zb (h := 11) K).symm.trans p0, trivial⟩ fun m => ?_
       refine Z3 (T := 9) (T' := 9) (x := (.tmp 90)) (y := (.tmp 93)) (a := c7) (b := b1) (d := (some 94)) (k := 12) K rfl K K hl1146 ?_
       rw [hyl1145]
       exact eK m
      ·rintro ρ' w' hs p ⟨⟨w5, w6, p1, w7, -⟩, w8⟩
       refine kN [(90, (.string ⟨List.toArray c7⟩)), (93, (.string ⟨List.toArray b1⟩))] ⟨p 8 90 K, (Zb (h := 11) K).symm.trans p1, trivial⟩ fun m => ?_
       refine Z3 (T := 9) (T' := 9) (x := (.tmp 90)) (y := (.tmp 93)) (a := c7) (b := b1) (d := (some 94)) (k := 12) K rfl K K hl1146 ?_
       rw [hyl1145]
       exact eK m
     ·exact oV (hC (hS 6 (pt q 0)) (h0)) (pt q 3)
     ·refine Owe.light K [0, 1, 2, 3] K (Qo ?_ (Qo ?_ (Qo ?_ (Qo ?_ Xo))))
      ·rintro ρ' w' hs p ⟨x0, p2⟩
       refine kM (kc (kA p 13 95) k0) fun m => ?_
       refine sL 4 95 q 3 2 (.bool f.2.2.2) 96 p2 rfl ?_
       exact eK m
      ·rintro ρ' w' hs p ⟨⟨x1, -⟩, p3⟩
       refine kM (kc (kA p 13 95) k0) fun m => ?_
       refine sL 4 95 q 3 2 (.bool f.2.2.2) 96 p3 rfl ?_
       exact eK m
      ·rintro ρ' w' hs p ⟨⟨x2, x3, -⟩, p4⟩
       refine kM (kc (kA p 13 95) k0) fun m => ?_
       refine sL 4 95 q 3 2 (.bool f.2.2.2) 96 p4 rfl ?_
       exact eK m
      ·rintro ρ' w' hs p ⟨⟨x4, x5, x6, -⟩, p5⟩
       refine kM (kc (kA p 13 95) k0) fun m => ?_
       refine sL 4 95 q 3 2 (.bool f.2.2.2) 96 p5 rfl ?_
       exact eK m
     ·refine oH 3 4 ?_
      ·rintro ρ' w' hs p ⟨⟨p6, p7, p8, -⟩, p9⟩
       refine kM (kc (kA p 14 96) k0) fun m => ?_
       refine cF 87 #[(.tmp 96), (.const (.string ⟨List.toArray ([33] : List UInt8)⟩))] #[4, 9] 97 Tryz.call87 (Uh  f.2.2.2 ([33] : List UInt8) w'  b9 m7) ?_
       rintro e x7 ⟨rfl, i8⟩
       refine ⟨_, rfl, ?_⟩
       have q0 := SP.call p9 i8
       clear i8
       refine ⟨_, Ql m, rfl, ?_⟩
       exact (And.intro (And.intro p6 (And.intro p7 (And.intro p8 (And.intro rfl (trivial))))) (q0))
     ·refine oL 4 ?_
      ·rintro ρ' w' hs p ⟨⟨x8, x9, y0, q1, -⟩, y1⟩
       refine kN [(94, (.string ⟨List.toArray d5⟩)), (97, (.string ⟨List.toArray b9⟩))] ⟨p 12 94 K, (Zb (h := 15) K).symm.trans q1, trivial⟩ fun m => ?_
       refine Z3 (T := 9) (T' := 9) (x := (.tmp 94)) (y := (.tmp 97)) (a := d5) (b := b9) (d := (some 98)) (k := 16) K rfl K K hl1154 ?_
       rw [hyl1153]
       exact eK m
     ·refine oH 4 5 ?_
      ·rintro ρ' w' hs p ⟨⟨q2, q3, q4, q5, -⟩, q6⟩
       refine kM (kc (kA p 16 98) k0) fun m => ?_
       refine Vb (e := Qg) (T := 79) (E := 9) (len := 1) (parts := #[(0, (.tmp 98))]) (cs := #[(.string ⟨List.toArray a7⟩)]) ([a7] : List (List UInt8)) (d := (some 99)) (k := 17) K rfl (fun _ => K) q6 rfl rfl rfl rfl ?_
       intro q7 y2 q8
       refine ⟨_, Ql m, trivial, ?_⟩
       exact (Exists.intro q7 (And.intro (And.intro q2 (And.intro q3 (And.intro q4 (And.intro q5 (And.intro rfl (trivial)))))) (q8)))
     ·refine oH 5 6 ?_
      ·rintro ρ' w' hs p ⟨c0, ⟨q9, r0, r1, r2, i9, -⟩, f9⟩
       refine kN [(82, (pt j 0)), (99, (.slice (some ⟨c0, 0, none⟩) (List.length ([a7] : List (List UInt8))) (List.length ([a7] : List (List UInt8)))))] ⟨p 0 82 K, (Zb (h := 17) K).symm.trans i9, trivial⟩ fun m => ?_
       refine cF 84 #[(.tmp 82), (.tmp 99)] #[132, 79] 100 Tryz.call84 (Qz j a0 a1 (some ⟨c0, 0, none⟩) (List.length ([a7] : List (List UInt8))) u b3 ([a7] : List (List UInt8)) w' (Q2 f9 [1, 0] rfl rfl) (fun w hm => (Vi (SP.still f9 (l := [1, 0]) (i := 3) rfl rfl rfl hm))) b6 m8) ?_
       rintro e r3 ⟨g0, g1, rfl, j0⟩
       refine ⟨_, rfl, ?_⟩
       have r4 : SP [] w0 r3 [Qh q 108 #[(.int .i64 f.1), (.string ⟨List.toArray f.2.1⟩), (.bool f.2.2.1), (.bool f.2.2.2)], Q6 9 Qg (some ⟨c0, 0, none⟩) (List.length ([a7] : List (List UInt8))) ([a7] : List (List UInt8)), Qh j 133 #[(.slice g0 (List.length b6.1) g1), (.bool b6.2)], Q6 9 Qg g0 g1 b6.1] := Qk f9 [1, 0] [2, 3] rfl rfl j0 rfl
       clear j0
       refine ⟨_, Ql m, rfl, ?_⟩
       exact (Exists.intro c0 (Exists.intro g0 (Exists.intro g1 (And.intro (And.intro q9 (And.intro r0 (And.intro r1 (And.intro r2 (And.intro i9 (And.intro rfl (trivial))))))) (r4)))))
     ·rintro ρ' w' hs hf ⟨f8, d6, d7, ⟨y3, y4, y5, y6, y7, y8, -⟩, j1⟩
      refine Yh [(3, (pt j 0)), (4, (.int .i64 f.1)), (56, (.slice A5 (List.length s) c6)), (57, (.int .i64 ((List.length s : Nat) : Int))), (58, (.int .i64 a2))] ⟨(hs 3 K).trans K, (hs 4 K).trans K, (hs 56 K).trans K, (hs 57 K).trans K, (hs 58 K).trans K, trivial⟩ ?_
      obtain ⟨y9, r5⟩ : ∃ x, w' = x := ⟨_, rfl⟩
      rw [r5] at j1 ⊢
      refine aR ?_
      refine iR 2 2 [(101, (.int .i64 (IntKind.wrap .i64 (a2 + 1)))), (58, (.int .i64 (IntKind.wrap .i64 (a2 + 1))))] ?_
      refine iF ?_
      exact ⟨b6.1, b6.2, f.1, (IntKind.wrap .i64 (a2 + 1)), d6, d7, ⟨K, K, K, K, K, trivial⟩, SP.sel j1 [3, 2] rfl rfl, H⟩
   ·have H := cf H f4
    refine At.exit K (id := 0) K ?_
    refine aQ ?_
    refine aR ?_
    refine iR 1 1 [(102, (pt j 0))] ?_
    obtain ⟨g2, r6, H⟩ := Qa H
    refine iS 2 ?_
    refine cF 79 #[(.tmp 102)] #[132] 103 Tryz.call79 (Z6 j a0 a1 u b2 l5 (Q2 d0 [1, 0] rfl rfl) g2 r6) ?_
    rintro e r7 ⟨j2, j3, rfl, j4⟩
    refine ⟨_, rfl, ?_⟩
    have r8 : SP [] w0 r7 [Qh j 133 #[(.slice j2 (List.length u) j3), (.bool b2)], Q6 9 Qg j2 j3 u] := Qk d0 [1, 0] [] rfl rfl j4 rfl
    clear j4
    refine iR 1 3 [(2, (.string ⟨List.toArray g2⟩))] ?_
    refine iF ?_
    refine At.ret K ?_
    refine ⟨(.string ⟨List.toArray g2⟩), K, ?_⟩
    obtain rfl := Qc H
    exact ⟨rfl, SP.sel r8 [] rfl rfl⟩
  ·exact ⟨c4.1, c4.2, (-1), 0, f2, f3, ⟨K, K, K, K, K, trivial⟩, SP.sel i0 [3, 2] rfl rfl, H⟩
def Yn (a : Bool) (b : Int) (c : Int) (d : Int) (e : (List (Int × (List UInt8) × Bool × Bool))) : Option (Int × Int × Int × (List (Int × (List UInt8) × Bool × Bool)) × Bool) :=
  (cond a (some (0, 0, 0, ([] : List (Int × (List UInt8) × Bool × Bool)), false)) (some (b, c, d, e, true)))
def Xi (a : (Int × (List (List UInt8)) × Bool)) (b : Bool) : Option (Int × Int × Int × (List (Int × (List UInt8) × Bool × Bool)) × Bool) :=
  (Yn b a.1 0 0 ([] : List (Int × (List UInt8) × Bool × Bool)))
def Yo (a : Bool) (b : Int) (c : Int) (d : Int) (e : (List (Int × (List UInt8) × Bool × Bool))) : Option (Int × Int × Int × (List (Int × (List UInt8) × Bool × Bool)) × Bool) :=
  (Yn a b c d e)
def Yp (b : (List (List UInt8)) → Bool → Int → Int → Int → (List (Int × (List UInt8) × Bool × Bool)) → Int → Option (Int × Int × Int × (List (Int × (List UInt8) × Bool × Bool)) × Bool)) (c : Int) (d : Int) (e : Int) (f : (List (Int × (List UInt8) × Bool × Bool))) (a : (Int × (List UInt8) × Bool × Bool × (List (List UInt8)) × Bool)) (g : Bool) : Option (Int × Int × Int × (List (Int × (List UInt8) × Bool × Bool)) × Bool) :=
  ((app f ([(a.1, a.2.1, a.2.2.1, a.2.2.2.1)] : List (Int × (List UInt8) × Bool × Bool))).bind fun h => (b a.2.2.2.2.1 g c d e h a.1))
def Jk (f : (List (List UInt8)) → Bool → Int → Int → Int → (List (Int × (List UInt8) × Bool × Bool)) → Int → Option (Int × Int × Int × (List (Int × (List UInt8) × Bool × Bool)) × Bool)) (g : (List (List UInt8))) (h : Bool) (b : Int) (c : Int) (d : Int) (e : (List (Int × (List UInt8) × Bool × Bool))) (i : Int) : Option (Int × Int × Int × (List (Int × (List UInt8) × Bool × Bool)) × Bool) :=
  (cond (decide (((List.length g : Nat) : Int) > 0)) ((Yu g h).bind fun a => (cond a.2.2.2.2.2 (Yp f b c d e a true) (Yp f b c d e a (decide (a.1 ≤ i))))) (Yo h b c d e))
def Xj  : Nat → (List (List UInt8)) → Bool → Int → Int → Int → (List (Int × (List UInt8) × Bool × Bool)) → Int → Option (Int × Int × Int × (List (Int × (List UInt8) × Bool × Bool)) × Bool)
  | 0, _, _, _, _, _, _, _ => none
  | f + 1, a, b, c, d, e, g, h => Jk  (Xj  f) a b c d e g h
def Jz (p1 : (List UInt8)) : Option (Int × Int × Int × (List (Int × (List UInt8) × Bool × Bool)) × Bool) :=
  ((Xa p1 ([32] : List UInt8)).bind fun z8 => ((Qu z8 false).bind fun a => (cond (a.1 == ([101, 114, 114] : List UInt8)) ((Qt a.2.1 a.2.2).bind fun b => (cond b.2.2 (Xi b true) (cond (b.1 == 0) (Xi b true) (Xi b (decide (((List.length b.2.1 : Nat) : Int) > 0)))))) (cond (a.1 == ([111, 107] : List UInt8)) ((Qt a.2.1 a.2.2).bind fun c => ((Qt c.2.1 c.2.2).bind fun d => (Xj  J4 d.2.1 d.2.2 0 c.1 d.1 ([] : List (Int × (List UInt8) × Bool × Bool)) (-1)))) (Yo true 0 0 0 ([] : List (Int × (List UInt8) × Bool × Bool)))))))
set_option maxHeartbeats 40000000 in
theorem Uj  (p1 : (List UInt8)) (w0 : World) (hL : Yr w0)  (r : (Int × Int × Int × (List (Int × (List UInt8) × Bool × Bool)) × Bool)) (H : Jz p1 = some r) :
  Calls Tryz.prog 33 #[(.string ⟨List.toArray p1⟩)] w0 (fun e w' => ∃ (A2 : Option Addr) (c3 : Nat), e = .returned (.tuple #[(.agg #[(.int .i64 r.1), (.int .i64 r.2.1), (.int .i64 r.2.2.1), (.slice A2 (List.length r.2.2.2.1) c3)]), (.bool r.2.2.2.2)]) ∧ SP [] w0 w' [Q6 108 (Qd (Zd .i64) (Qd Qg (Qd Vp Vp))) A2 c3 r.2.2.2.1]) := by
 unfold Jz at H
 refine Qj (n := 85) Tryz.func33 K K K ?_
 have i1 := Q7 [] w0
 refine aQ ?_
 refine aR ?_
 refine iS 1 ?_
 refine Qf.alloc (t := 55) (z := (.agg #[(.int .i64 0), (.int .i64 0), (.int .i64 0), (.slice none (List.length ([] : List (Int × (List UInt8) × Bool × Bool))) 0)])) (d := (some 2)) (k := 0) K rfl K i1 ?_
 intro g4 w5 i2
 refine iR 1 2 [(3, (.bool false))] ?_
 refine iF ?_
 refine aQ ?_
 refine aR ?_
 refine iR 1 1 [(8, (.string ⟨List.toArray p1⟩))] ?_
 obtain ⟨z8, i3, H⟩ := Qa H
 refine iS 2 ?_
 refine cF 67 #[(.tmp 8), (.const (.string ⟨List.toArray ([32] : List UInt8)⟩))] #[9, 9] 9 Tryz.call67 (Ju  p1 ([32] : List UInt8) w5  z8 i3) ?_
 rintro e l6 ⟨c9, d0, rfl, g8⟩
 refine ⟨_, rfl, ?_⟩
 have i4 := SP.call i2 g8
 clear g8
 refine iR 1 3 [(10, (.agg #[(.slice c9 (List.length z8) d0), (.bool false)]))] ?_
 refine iS 4 ?_
 refine Zq (t := 112) (x := (.tmp 10)) (v := (.agg #[(.slice c9 (List.length z8) d0), (.bool false)])) (d := (some 11)) (k := 3) K rfl K i4 ?_
 intro f l7 i5
 refine iR 1 5 [(4, (pt f 0))] ?_
 refine iF ?_
 refine aQ ?_
 refine aR ?_
 refine iS 1 ?_
 refine Qf.alloc (t := 55) (z := (.agg #[(.int .i64 0), (.int .i64 0), (.int .i64 0), (.slice none (List.length ([] : List (Int × (List UInt8) × Bool × Bool))) 0)])) (d := (some 5)) (k := 0) K rfl K i5 ?_
 intro j g9 i6
 refine iF ?_
 refine aQ ?_
 refine aQ ?_
 refine aR ?_
 refine iR 1 1 [(12, (pt f 0))] ?_
 obtain ⟨q, i7, H⟩ := Qa H
 refine iS 2 ?_
 have h1 : SP [] w0 g9 [Qh g4 55 #[(.int .i64 0), (.int .i64 0), (.int .i64 0), (.slice none (List.length ([] : List (Int × (List UInt8) × Bool × Bool))) 0)], rdE Qg c9 d0 z8, Qh f 112 #[(.slice c9 (List.length z8) d0), (.bool false)], Qh j 55 #[(.int .i64 0), (.int .i64 0), (.int .i64 0), (.slice none (List.length ([] : List (Int × (List UInt8) × Bool × Bool))) 0)]] := E2 i6 (i := 1) rfl
 refine cF 68 #[(.tmp 12)] #[109] 13 Tryz.call68 (Q1 f c9 d0 z8 false g9 (Q2 h1 [2, 1] rfl rfl) q i7) ?_
 rintro e f1 ⟨c5, c6, rfl, h2⟩
 refine ⟨_, rfl, ?_⟩
 have b8 : SP [] w0 f1 [Qh g4 55 #[(.int .i64 0), (.int .i64 0), (.int .i64 0), (.slice none (List.length ([] : List (Int × (List UInt8) × Bool × Bool))) 0)], Qh j 55 #[(.int .i64 0), (.int .i64 0), (.int .i64 0), (.slice none (List.length ([] : List (Int × (List UInt8) × Bool × Bool))) 0)], Qh f 112 #[(.slice c5 (List.length q.2.1) c6), (.bool q.2.2)], rdE Qg c5 c6 q.2.1] := Qk h1 [2, 1] [0, 3] rfl rfl h2 rfl
 clear h2
 refine iF ?_
 refine J3 K (id := 0) K ?_
 refine aQ ?_
 refine aR ?_
 refine iS 1 ?_
 refine Va (op := .eql) (T := 9) (T' := 9) (x := (.tmp 13)) (y := (.const (.string ⟨List.toArray ([101, 114, 114] : List UInt8)⟩))) (a := q.1) (b := ([101, 114, 114] : List UInt8)) (r := (.bool (q.1 == ([101, 114, 114] : List UInt8)))) (d := (some 18)) (k := 0) K rfl K K rfl ?_
 refine iR 1 2 [(17, (.bool (q.1 == ([101, 114, 114] : List UInt8))))] ?_
 refine iF ?_
 refine At.join (fun ρ w => ∃ (d1 : (List (List UInt8))) (c7 : Bool) (b5 : Int) (b6 : Int) (b7 : Int) (a7 : (List (Int × (List UInt8) × Bool × Bool))) (d2 : Option Addr) (d3 : Nat) (a8 : Option Addr) (a9 : Nat), V5 ρ [(2, (pt g4 0)), (4, (pt f 0)), (5, (pt j 0))] ∧ SP [] w0 w [Qh g4 55 #[(.int .i64 0), (.int .i64 0), (.int .i64 0), (.slice none (List.length ([] : List (Int × (List UInt8) × Bool × Bool))) 0)], rdE Qg d2 d3 d1, Qh f 112 #[(.slice d2 (List.length d1) d3), (.bool c7)], Q6 108 (Qd (Zd .i64) (Qd Qg (Qd Vp Vp))) a8 a9 a7, Qh j 55 #[(.int .i64 b5), (.int .i64 b6), (.int .i64 b7), (.slice a8 (List.length a7) a9)]] ∧ Yn c7 b5 b6 b7 a7 = some r) ?_ ?_
 ·refine Z8 K (o := (.tmp 17)) K (b := (q.1 == ([101, 114, 114] : List UInt8))) K (fun f2 => ?_) (fun f2 => ?_)
  ·have H := ct H f2
   refine aQ ?_
   refine aR ?_
   refine iR 1 1 [(19, (pt f 0))] ?_
   obtain ⟨p, i8, H⟩ := Qa H
   refine iS 2 ?_
   refine cF 76 #[(.tmp 19)] #[109] 20 Tryz.call76 (Qw f c5 c6 q.2.1 q.2.2 f1 (fun w hm => Qr hL (Xp b8 (l := [2, 3]) rfl hm)) (Q2 b8 [2, 3] rfl rfl) p i8) ?_
   rintro e i9 ⟨b2, b3, rfl, h3⟩
   refine ⟨_, rfl, ?_⟩
   have j0 : SP [] w0 i9 [Qh g4 55 #[(.int .i64 0), (.int .i64 0), (.int .i64 0), (.slice none (List.length ([] : List (Int × (List UInt8) × Bool × Bool))) 0)], Qh j 55 #[(.int .i64 0), (.int .i64 0), (.int .i64 0), (.slice none (List.length ([] : List (Int × (List UInt8) × Bool × Bool))) 0)], Qh f 112 #[(.slice b2 (List.length p.2.1) b3), (.bool p.2.2)], rdE Qg b2 b3 p.2.1] := Qk b8 [2, 3] [0, 1] rfl rfl h3 rfl
   clear h3
   refine iR 1 3 [(21, (pt j 0))] ?_
   refine iS 4 ?_
   refine Qf.store (t := 27) (x := (.tmp 21)) (y := (.tmp 20)) (g := j) (off := 0) (i := 1) (v := (.int .i64 p.1)) (cs' := #[(.int .i64 p.1), (.int .i64 0), (.int .i64 0), (.slice none (List.length ([] : List (Int × (List UInt8) × Bool × Bool))) 0)]) (d := none) (k := 3) K rfl K K j0 rfl K ?_
   intro l8 c8
   refine iF ?_
   refine At.join (fun ρ w => ∃ (d6 : Bool), V5 ρ [(2, (pt g4 0)), (4, (pt f 0)), (5, (pt j 0))] ∧ SP [] w0 w [Qh g4 55 #[(.int .i64 0), (.int .i64 0), (.int .i64 0), (.slice none (List.length ([] : List (Int × (List UInt8) × Bool × Bool))) 0)], rdE Qg b2 b3 p.2.1, Qh f 112 #[(.slice b2 (List.length p.2.1) b3), (.bool d6)], Qh j 55 #[(.int .i64 p.1), (.int .i64 0), (.int .i64 0), (.slice none (List.length ([] : List (Int × (List UInt8) × Bool × Bool))) 0)]] ∧ Xi p d6 = some r) ?_ ?_
   ·refine aR ?_
    refine iR 4 4 [(22, (pt f 0)), (23, (pt f 0)), (24, (pt f 0)), (25, (pt f 1))] ?_
    refine iS 5 ?_
    refine sL 4 25 f 1 2 (.bool p.2.2) 26 c8 rfl ?_
    refine iR 1 6 [(27, (.bool p.2.2))] ?_
    refine In.guard (t := 27) (b := p.2.2) K (fun f3 => ?_) (fun f3 => ?_)
    ·have H := ct H f3
     refine iR 14 20 [(28, undef), (29, undef), (30, undef), (31, (.bool true)), (32, (.bool true)), (33, undef), (34, undef), (35, undef), (36, undef), (37, undef), (38, undef), (39, (.bool true)), (40, (pt f 0)), (41, (pt f 1))] ?_
     refine iS 21 ?_
     refine Qf.store (t := 4) (x := (.tmp 41)) (y := (.tmp 39)) (g := f) (off := 1) (i := 2) (v := (.bool true)) (cs' := #[(.slice b2 (List.length p.2.1) b3), (.bool true)]) (d := none) (k := 20) K rfl K K c8 rfl K ?_
     intro l9 j1
     refine iF ?_
     exact ⟨true, ⟨K, K, K, trivial⟩, SP.sel j1 [0, 3, 2, 1] rfl rfl, H⟩
    ·have H := cf H f3
     refine iR 1 7 [(28, (pt j 0))] ?_
     refine iS 8 ?_
     refine sL 27 28 j 0 1 (.int .i64 p.1) 29 c8 rfl ?_
     refine iR 3 11 [(30, (.bool (p.1 == 0))), (31, (.bool (p.1 == 0))), (32, (.bool (p.1 == 0)))] ?_
     refine In.guard (t := 32) (b := (p.1 == 0)) K (fun f4 => ?_) (fun f4 => ?_)
     ·have H := ct H f4
      refine iR 9 20 [(33, undef), (34, undef), (35, undef), (36, undef), (37, undef), (38, undef), (39, (.bool true)), (40, (pt f 0)), (41, (pt f 1))] ?_
      refine iS 21 ?_
      refine Qf.store (t := 4) (x := (.tmp 41)) (y := (.tmp 39)) (g := f) (off := 1) (i := 2) (v := (.bool true)) (cs' := #[(.slice b2 (List.length p.2.1) b3), (.bool true)]) (d := none) (k := 20) K rfl K K c8 rfl K ?_
      intro m0 j2
      refine iF ?_
      exact ⟨true, ⟨K, K, K, trivial⟩, SP.sel j2 [0, 3, 2, 1] rfl rfl, H⟩
     ·have H := cf H f4
      refine iR 3 14 [(33, (pt f 0)), (34, (pt f 0)), (35, (pt f 0))] ?_
      refine iS 15 ?_
      refine sL 79 35 f 0 2 (.slice b2 (List.length p.2.1) b3) 36 c8 rfl ?_
      refine iR 5 20 [(37, (.int .i64 ((List.length p.2.1 : Nat) : Int))), (38, (.bool (decide (((List.length p.2.1 : Nat) : Int) > 0)))), (39, (.bool (decide (((List.length p.2.1 : Nat) : Int) > 0)))), (40, (pt f 0)), (41, (pt f 1))] ?_
      refine iS 21 ?_
      refine Qf.store (t := 4) (x := (.tmp 41)) (y := (.tmp 39)) (g := f) (off := 1) (i := 2) (v := (.bool (decide (((List.length p.2.1 : Nat) : Int) > 0)))) (cs' := #[(.slice b2 (List.length p.2.1) b3), (.bool (decide (((List.length p.2.1 : Nat) : Int) > 0)))]) (d := none) (k := 20) K rfl K K c8 rfl K ?_
      intro m1 j3
      refine iF ?_
      exact ⟨(decide (((List.length p.2.1 : Nat) : Int) > 0)), ⟨K, K, K, trivial⟩, SP.sel j3 [0, 3, 2, 1] rfl rfl, H⟩
   ·rintro ρ m2 ⟨d6, hk, j4, H⟩
    unfold Xi at H
    first | refine At.known [(2, (pt g4 0)), (4, (pt f 0)), (5, (pt j 0))] hk ?_ | rw [← Qq (l := [(2, (pt g4 0)), (4, (pt f 0)), (5, (pt j 0))]) hk]
    exact ⟨p.2.1, d6, p.1, 0, 0, ([] : List (Int × (List UInt8) × Bool × Bool)), b2, b3, none, 0, ⟨K, K, K, trivial⟩, SP.sel (Yv j4 108 (Qd (Zd .i64) (Qd Qg (Qd Vp Vp)))) [0, 1, 2, 4, 3] rfl rfl, H⟩
  ·have H := cf H f2
   refine aQ ?_
   refine aR ?_
   refine iS 1 ?_
   refine Va (op := .eql) (T := 9) (T' := 9) (x := (.tmp 13)) (y := (.const (.string ⟨List.toArray ([111, 107] : List UInt8)⟩))) (a := q.1) (b := ([111, 107] : List UInt8)) (r := (.bool (q.1 == ([111, 107] : List UInt8)))) (d := (some 43)) (k := 0) K rfl K K rfl ?_
   refine iR 1 2 [(42, (.bool (q.1 == ([111, 107] : List UInt8))))] ?_
   refine iF ?_
   refine At.join (fun ρ w => ∃ (d7 : (List (List UInt8))) (d8 : Bool) (d9 : Int) (e0 : Int) (e1 : Int) (d4 : (List (Int × (List UInt8) × Bool × Bool))) (e2 : Option Addr) (e3 : Nat) (e4 : Option Addr) (e5 : Nat), V5 ρ [(2, (pt g4 0)), (4, (pt f 0)), (5, (pt j 0))] ∧ SP [] w0 w [Qh g4 55 #[(.int .i64 0), (.int .i64 0), (.int .i64 0), (.slice none (List.length ([] : List (Int × (List UInt8) × Bool × Bool))) 0)], rdE Qg e2 e3 d7, Qh f 112 #[(.slice e2 (List.length d7) e3), (.bool d8)], Q6 108 (Qd (Zd .i64) (Qd Qg (Qd Vp Vp))) e4 e5 d4, Qh j 55 #[(.int .i64 d9), (.int .i64 e0), (.int .i64 e1), (.slice e4 (List.length d4) e5)]] ∧ Yo d8 d9 e0 e1 d4 = some r) ?_ ?_
   ·refine Z8 K (o := (.tmp 42)) K (b := (q.1 == ([111, 107] : List UInt8))) K (fun f5 => ?_) (fun f5 => ?_)
    ·have H := ct H f5
     refine aQ ?_
     refine aR ?_
     refine iR 1 1 [(44, (pt f 0))] ?_
     obtain ⟨b0, j5, H⟩ := Qa H
     refine iS 2 ?_
     refine cF 76 #[(.tmp 44)] #[109] 45 Tryz.call76 (Qw f c5 c6 q.2.1 q.2.2 f1 (fun w hm => Qr hL (Xp b8 (l := [2, 3]) rfl hm)) (Q2 b8 [2, 3] rfl rfl) b0 j5) ?_
     rintro e h4 ⟨f6, f7, rfl, h5⟩
     refine ⟨_, rfl, ?_⟩
     have f8 : SP [] w0 h4 [Qh g4 55 #[(.int .i64 0), (.int .i64 0), (.int .i64 0), (.slice none (List.length ([] : List (Int × (List UInt8) × Bool × Bool))) 0)], Qh j 55 #[(.int .i64 0), (.int .i64 0), (.int .i64 0), (.slice none (List.length ([] : List (Int × (List UInt8) × Bool × Bool))) 0)], Qh f 112 #[(.slice f6 (List.length b0.2.1) f7), (.bool b0.2.2)], rdE Qg f6 f7 b0.2.1] := Qk b8 [2, 3] [0, 1] rfl rfl h5 rfl
     clear h5
     refine iR 1 3 [(46, (pt f 0))] ?_
     obtain ⟨b4, j6, H⟩ := Qa H
     refine iS 4 ?_
     refine cF 76 #[(.tmp 46)] #[109] 47 Tryz.call76 (Qw f f6 f7 b0.2.1 b0.2.2 h4 (fun w hm => Qr hL (Xp f8 (l := [2, 3]) rfl hm)) (Q2 f8 [2, 3] rfl rfl) b4 j6) ?_
     rintro e j7 ⟨f9, g0, rfl, h6⟩
     refine ⟨_, rfl, ?_⟩
     have j8 : SP [] w0 j7 [Qh g4 55 #[(.int .i64 0), (.int .i64 0), (.int .i64 0), (.slice none (List.length ([] : List (Int × (List UInt8) × Bool × Bool))) 0)], Qh j 55 #[(.int .i64 0), (.int .i64 0), (.int .i64 0), (.slice none (List.length ([] : List (Int × (List UInt8) × Bool × Bool))) 0)], Qh f 112 #[(.slice f9 (List.length b4.2.1) g0), (.bool b4.2.2)], rdE Qg f9 g0 b4.2.1] := Qk f8 [2, 3] [0, 1] rfl rfl h6 rfl
     clear h6
     refine iR 1 5 [(48, (pt j 1))] ?_
     refine iS 6 ?_
     refine Qf.store (t := 3) (x := (.tmp 48)) (y := (.tmp 45)) (g := j) (off := 1) (i := 1) (v := (.int .i64 b0.1)) (cs' := #[(.int .i64 0), (.int .i64 b0.1), (.int .i64 0), (.slice none (List.length ([] : List (Int × (List UInt8) × Bool × Bool))) 0)]) (d := none) (k := 5) K rfl K K j8 rfl K ?_
     intro m3 j9
     refine iR 1 7 [(49, (pt j 2))] ?_
     refine iS 8 ?_
     refine Qf.store (t := 3) (x := (.tmp 49)) (y := (.tmp 47)) (g := j) (off := 2) (i := 1) (v := (.int .i64 b4.1)) (cs' := #[(.int .i64 0), (.int .i64 b0.1), (.int .i64 b4.1), (.slice none (List.length ([] : List (Int × (List UInt8) × Bool × Bool))) 0)]) (d := none) (k := 7) K rfl K K j9 rfl K ?_
     intro m4 k1
     refine iF ?_
     refine aQ ?_
     refine aR ?_
     refine iR 1 1 [(6, (.int .i64 (-1)))] ?_
     refine iF ?_
     refine J3 K (id := 1) K ?_
     refine De K (fun e6 ρ w => ∃ (a0 : (List (List UInt8))) (b9 : Bool) (a2 : Int) (a3 : Int) (a4 : Int) (u : (List (Int × (List UInt8) × Bool × Bool))) (a1 : Int) (c0 : Option Addr) (c1 : Nat) (a5 : Option Addr) (a6 : Nat), V5 ρ [(2, (pt g4 0)), (4, (pt f 0)), (5, (pt j 0)), (6, (.int .i64 a1))] ∧ SP [] w0 w [Qh g4 55 #[(.int .i64 0), (.int .i64 0), (.int .i64 0), (.slice none (List.length ([] : List (Int × (List UInt8) × Bool × Bool))) 0)], rdE Qg c0 c1 a0, Qh f 112 #[(.slice c0 (List.length a0) c1), (.bool b9)], Q6 108 (Qd (Zd .i64) (Qd Qg (Qd Vp Vp))) a5 a6 u, Qh j 55 #[(.int .i64 a2), (.int .i64 a3), (.int .i64 a4), (.slice a5 (List.length u) a6)]] ∧ Xj  e6 a0 b9 a2 a3 a4 u a1 = some r) (by rintro ρ w ⟨a0, b9, a2, a3, a4, u, a1, c0, c1, a5, a6, hk, hs, H⟩; cases H) ?_ J4 ?_
     ·rintro e6 ρ k2 ⟨a0, b9, a2, a3, a4, u, a1, c0, c1, a5, a6, hk, d5, H⟩
      refine At.known [(2, (pt g4 0)), (4, (pt f 0)), (5, (pt j 0)), (6, (.int .i64 a1))] hk ?_
      replace H := (show Jk (Xj e6) a0 b9 a2 a3 a4 u a1 = some r from H)
      unfold Jk at H
      refine aQ ?_
      refine aQ ?_
      refine aR ?_
      refine iR 3 3 [(50, (pt f 0)), (51, (pt f 0)), (52, (pt f 0))] ?_
      refine iS 4 ?_
      refine sL 79 52 f 0 2 (.slice c0 (List.length a0) c1) 53 d5 rfl ?_
      refine iR 2 6 [(54, (.int .i64 ((List.length a0 : Nat) : Int))), (55, (.bool (decide (((List.length a0 : Nat) : Int) > 0))))] ?_
      refine iF ?_
      refine Z8 K (o := (.tmp 55)) K (b := (decide (((List.length a0 : Nat) : Int) > 0))) K (fun g1 => ?_) (fun g1 => ?_)
      ·have H := ct H g1
       refine At.skip K ?_
       refine J3 K (id := 2) K ?_
       refine aQ ?_
       refine aR ?_
       refine iR 1 1 [(56, (pt f 0))] ?_
       obtain ⟨h, k3, H⟩ := Qa H
       refine iS 2 ?_
       refine cF 77 #[(.tmp 56)] #[109] 57 Tryz.call77 (Uo f c0 c1 a0 b9 k2 (fun w hm => Qr hL (Xp d5 (l := [2, 1]) rfl hm)) (Q2 d5 [2, 1] rfl rfl) h k3) ?_
       rintro e k4 ⟨c2, c4, rfl, h7⟩
       refine ⟨_, rfl, ?_⟩
       have k5 : SP [] w0 k4 [Qh g4 55 #[(.int .i64 0), (.int .i64 0), (.int .i64 0), (.slice none (List.length ([] : List (Int × (List UInt8) × Bool × Bool))) 0)], Q6 108 (Qd (Zd .i64) (Qd Qg (Qd Vp Vp))) a5 a6 u, Qh j 55 #[(.int .i64 a2), (.int .i64 a3), (.int .i64 a4), (.slice a5 (List.length u) a6)], Qh f 112 #[(.slice c2 (List.length h.2.2.2.2.1) c4), (.bool h.2.2.2.2.2)], rdE Qg c2 c4 h.2.2.2.2.1] := Qk d5 [2, 1] [0, 3, 4] rfl rfl h7 rfl
       clear h7
       refine iS 3 ?_
       refine Qf.alloc (t := 108) (z := (.agg #[(.int .i64 0), (.string ⟨List.toArray ([] : List UInt8)⟩), (.bool false), (.bool false)])) (d := (some 7)) (k := 2) K rfl K k5 ?_
       intro b1 m5 k6
       refine iS 4 ?_
       refine Qf.store (t := 108) (x := (.tmp 7)) (y := (.tmp 57)) (g := b1) (off := 0) (i := 5) (v := (.agg #[(.int .i64 h.1), (.string ⟨List.toArray h.2.1⟩), (.bool h.2.2.1), (.bool h.2.2.2.1)])) (cs' := #[(.int .i64 h.1), (.string ⟨List.toArray h.2.1⟩), (.bool h.2.2.1), (.bool h.2.2.2.1)]) (d := none) (k := 3) K rfl K K k6 rfl K ?_
       intro m6 e7
       refine iF ?_
       refine aQ ?_
       refine At.join (fun ρ w => ∃ (e8 : Bool), V5 ρ [(2, (pt g4 0)), (4, (pt f 0)), (5, (pt j 0)), (7, (pt b1 0))] ∧ SP [] w0 w [Qh g4 55 #[(.int .i64 0), (.int .i64 0), (.int .i64 0), (.slice none (List.length ([] : List (Int × (List UInt8) × Bool × Bool))) 0)], rdE Qg c2 c4 h.2.2.2.2.1, Qh f 112 #[(.slice c2 (List.length h.2.2.2.2.1) c4), (.bool e8)], Q6 108 (Qd (Zd .i64) (Qd Qg (Qd Vp Vp))) a5 a6 u, Qh j 55 #[(.int .i64 a2), (.int .i64 a3), (.int .i64 a4), (.slice a5 (List.length u) a6)], Qh b1 108 #[(.int .i64 h.1), (.string ⟨List.toArray h.2.1⟩), (.bool h.2.2.1), (.bool h.2.2.2.1)]] ∧ Yp (Xj e6) a2 a3 a4 u h e8 = some r) ?_ ?_
       ·refine aR ?_
        refine iR 4 4 [(58, (pt f 0)), (59, (pt f 0)), (60, (pt f 0)), (61, (pt f 1))] ?_
        refine iS 5 ?_
        refine sL 4 61 f 1 3 (.bool h.2.2.2.2.2) 62 e7 rfl ?_
        refine iR 1 6 [(63, (.bool h.2.2.2.2.2))] ?_
        refine In.guard (t := 63) (b := h.2.2.2.2.2) K (fun g2 => ?_) (fun g2 => ?_)
        ·have H := ct H g2
         refine iR 7 13 [(64, undef), (65, undef), (66, undef), (67, undef), (68, (.bool true)), (69, (pt f 0)), (70, (pt f 1))] ?_
         refine iS 14 ?_
         refine Qf.store (t := 4) (x := (.tmp 70)) (y := (.tmp 68)) (g := f) (off := 1) (i := 3) (v := (.bool true)) (cs' := #[(.slice c2 (List.length h.2.2.2.2.1) c4), (.bool true)]) (d := none) (k := 13) K rfl K K e7 rfl K ?_
         intro m7 k7
         refine iF ?_
         exact ⟨true, ⟨K, K, K, K, trivial⟩, SP.sel k7 [0, 4, 3, 1, 2, 5] rfl rfl, H⟩
        ·have H := cf H g2
         refine iR 1 7 [(64, (pt b1 0))] ?_
         refine iS 8 ?_
         refine sL 3 64 b1 0 5 (.int .i64 h.1) 65 e7 rfl ?_
         refine iR 5 13 [(66, (.int .i64 a1)), (67, (.bool (decide (h.1 ≤ a1)))), (68, (.bool (decide (h.1 ≤ a1)))), (69, (pt f 0)), (70, (pt f 1))] ?_
         refine iS 14 ?_
         refine Qf.store (t := 4) (x := (.tmp 70)) (y := (.tmp 68)) (g := f) (off := 1) (i := 3) (v := (.bool (decide (h.1 ≤ a1)))) (cs' := #[(.slice c2 (List.length h.2.2.2.2.1) c4), (.bool (decide (h.1 ≤ a1)))]) (d := none) (k := 13) K rfl K K e7 rfl K ?_
         intro m8 k8
         refine iF ?_
         exact ⟨(decide (h.1 ≤ a1)), ⟨K, K, K, K, trivial⟩, SP.sel k8 [0, 4, 3, 1, 2, 5] rfl rfl, H⟩
       ·rintro ρ m9 ⟨e8, hk, e9, H⟩
        unfold Yp at H
        first | refine At.known [(2, (pt g4 0)), (4, (pt f 0)), (5, (pt j 0)), (7, (pt b1 0))] hk ?_ | rw [← Qq (l := [(2, (pt g4 0)), (4, (pt f 0)), (5, (pt j 0)), (7, (pt b1 0))]) hk]
        refine aQ ?_
        refine aR ?_
        refine iR 1 1 [(71, (pt b1 0))] ?_
        refine iS 2 ?_
        refine sL 3 71 b1 0 5 (.int .i64 h.1) 72 e9 rfl ?_
        refine iR 1 3 [(6, (.int .i64 h.1))] ?_
        refine iF ?_
        refine aR ?_
        refine iR 1 1 [(73, (pt j 3))] ?_
        refine iS 2 ?_
        refine sL 53 73 j 3 4 (.slice a5 (List.length u) a6) 74 e9 rfl ?_
        refine iS 3 ?_
        refine sL 108 7 b1 0 5 (.agg #[(.int .i64 h.1), (.string ⟨List.toArray h.2.1⟩), (.bool h.2.2.1), (.bool h.2.2.2.1)]) 75 e9 rfl ?_
        refine iS 4 ?_
        refine Vb (e := (Qd (Zd .i64) (Qd Qg (Qd Vp Vp)))) (T := 53) (E := 108) (len := 1) (parts := #[(0, (.tmp 75))]) (cs := #[(.int .i64 h.1), (.string ⟨List.toArray h.2.1⟩), (.bool h.2.2.1), (.bool h.2.2.2.1)]) ([(h.1, h.2.1, h.2.2.1, h.2.2.2.1)] : List (Int × (List UInt8) × Bool × Bool)) (d := (some 76)) (k := 3) K rfl (fun _ => K) e9 rfl rfl rfl rfl ?_
        intro k9 n0 h8
        obtain ⟨hl1096, H⟩ := U0 H
        obtain ⟨g3, hyl1097⟩ : ∃ y, u ++ ([(h.1, h.2.1, h.2.2.1, h.2.2.2.1)] : List (Int × (List UInt8) × Bool × Bool)) = y := ⟨_, rfl⟩
        rw [hyl1097] at H
        refine iS 5 ?_
        refine Qf.append (e := (Qd (Zd .i64) (Qd Qg (Qd Vp Vp)))) (l := u) (m := ([(h.1, h.2.1, h.2.2.1, h.2.2.2.1)] : List (Int × (List UInt8) × Bool × Bool))) (A := a5) (c := a6) (T := 53) (TX := 53) (E := 108) (b := 32) (s := (.tmp 74)) (x := (.tmp 76)) (i := 3) (vx := (.slice (some ⟨k9, 0, none⟩) (List.length ([(h.1, h.2.1, h.2.2.1, h.2.2.2.1)] : List (Int × (List UInt8) × Bool × Bool))) (List.length ([(h.1, h.2.1, h.2.2.1, h.2.2.2.1)] : List (Int × (List UInt8) × Bool × Bool))))) (d := (some 77)) (k := 4) K rfl K K K K rfl h8 rfl (Ec (E := 108) K (Vi (SP.get h8 (i := 6) rfl))) hl1096 ?_
        rw [hyl1097]
        intro g5 g6 n1 l0
        refine iR 1 6 [(78, (pt j 3))] ?_
        refine iS 7 ?_
        refine Qf.store (t := 53) (x := (.tmp 78)) (y := (.tmp 77)) (g := j) (off := 3) (i := 4) (v := (.slice g5 (List.length g3) g6)) (cs' := #[(.int .i64 a2), (.int .i64 a3), (.int .i64 a4), (.slice g5 (List.length g3) g6)]) (d := none) (k := 6) K rfl K K l0 rfl K ?_
        intro n2 l1
        refine iF ?_
        exact ⟨h.2.2.2.2.1, e8, a2, a3, a4, g3, h.1, c2, c4, g5, g6, ⟨K, K, K, K, trivial⟩, SP.sel l1 [0, 1, 2, 3, 4] rfl rfl, H⟩
      ·have H := cf H g1
       refine At.exit K (id := 1) K ?_
       exact ⟨a0, b9, a2, a3, a4, u, c0, c1, a5, a6, ⟨K, K, K, trivial⟩, SP.sel d5 [0, 1, 2, 3, 4] rfl rfl, H⟩
     ·exact ⟨b4.2.1, b4.2.2, 0, b0.1, b4.1, ([] : List (Int × (List UInt8) × Bool × Bool)), (-1), f9, g0, none, 0, ⟨K, K, K, K, trivial⟩, SP.sel (Yv k1 108 (Qd (Zd .i64) (Qd Qg (Qd Vp Vp)))) [0, 3, 2, 4, 1] rfl rfl, H⟩
    ·have H := cf H f5
     refine aR ?_
     refine iR 3 3 [(14, (pt f 0)), (15, (pt f 0)), (16, (pt f 1))] ?_
     refine iS 4 ?_
     refine Qf.store (t := 4) (x := (.tmp 16)) (y := (.const (.bool true))) (g := f) (off := 1) (i := 2) (v := (.bool true)) (cs' := #[(.slice c5 (List.length q.2.1) c6), (.bool true)]) (d := none) (k := 3) K rfl K K b8 rfl K ?_
     intro n3 l2
     refine iF ?_
     exact ⟨q.2.1, true, 0, 0, 0, ([] : List (Int × (List UInt8) × Bool × Bool)), c5, c6, none, 0, ⟨K, K, K, trivial⟩, SP.sel (Yv l2 108 (Qd (Zd .i64) (Qd Qg (Qd Vp Vp)))) [0, 3, 2, 4, 1] rfl rfl, H⟩
   ·rintro ρ n4 ⟨d7, d8, d9, e0, e1, d4, e2, e3, e4, e5, hk, l3, H⟩
    unfold Yo at H
    first | refine At.known [(2, (pt g4 0)), (4, (pt f 0)), (5, (pt j 0))] hk ?_ | rw [← Qq (l := [(2, (pt g4 0)), (4, (pt f 0)), (5, (pt j 0))]) hk]
    exact ⟨d7, d8, d9, e0, e1, d4, e2, e3, e4, e5, ⟨K, K, K, trivial⟩, SP.sel l3 [0, 1, 2, 3, 4] rfl rfl, H⟩
 ·rintro ρ n5 ⟨d1, c7, b5, b6, b7, a7, d2, d3, a8, a9, hk, f0, H⟩
  unfold Yn at H
  first | refine At.known [(2, (pt g4 0)), (4, (pt f 0)), (5, (pt j 0))] hk ?_ | rw [← Qq (l := [(2, (pt g4 0)), (4, (pt f 0)), (5, (pt j 0))]) hk]
  refine aQ ?_
  refine aQ ?_
  refine aR ?_
  refine iR 3 3 [(79, (pt f 0)), (80, (pt f 0)), (81, (pt f 1))] ?_
  refine iS 4 ?_
  refine sL 4 81 f 1 2 (.bool c7) 82 f0 rfl ?_
  refine iF ?_
  refine Z8 K (o := (.tmp 82)) K (b := c7) K (fun g7 => ?_) (fun g7 => ?_)
  ·have H := ct H g7
   refine aQ ?_
   refine aR ?_
   refine iR 1 1 [(83, (.agg #[(.int .i64 0), (.int .i64 0), (.int .i64 0), (.slice none (List.length ([] : List (Int × (List UInt8) × Bool × Bool))) 0)]))] ?_
   refine iS 2 ?_
   refine Qf.store (t := 55) (x := (.tmp 2)) (y := (.tmp 83)) (g := g4) (off := 0) (i := 0) (v := (.agg #[(.int .i64 0), (.int .i64 0), (.int .i64 0), (.slice none (List.length ([] : List (Int × (List UInt8) × Bool × Bool))) 0)])) (cs' := #[(.int .i64 0), (.int .i64 0), (.int .i64 0), (.slice none (List.length ([] : List (Int × (List UInt8) × Bool × Bool))) 0)]) (d := none) (k := 1) K rfl K K f0 rfl K ?_
   intro l4 h9
   refine iR 1 3 [(3, (.bool false))] ?_
   refine iF ?_
   refine At.ret K ?_
   have l5 : SP [] w0 l4 [Qh g4 55 #[(.int .i64 0), (.int .i64 0), (.int .i64 0), (.slice none (List.length ([] : List (Int × (List UInt8) × Bool × Bool))) 0)], rdE Qg d2 d3 d1, Qh f 112 #[(.slice d2 (List.length d1) d3), (.bool c7)], Q6 108 (Qd (Zd .i64) (Qd Qg (Qd Vp Vp))) a8 a9 a7, Qh j 55 #[(.int .i64 b5), (.int .i64 b6), (.int .i64 b7), (.slice a8 (List.length a7) a9)], Q6 108 (Qd (Zd .i64) (Qd Qg (Qd Vp Vp))) none 0 ([] : List (Int × (List UInt8) × Bool × Bool))] := Yv h9 108 (Qd (Zd .i64) (Qd Qg (Qd Vp Vp)))
   refine ⟨(.tuple #[(.agg #[(.int .i64 0), (.int .i64 0), (.int .i64 0), (.slice none (List.length ([] : List (Int × (List UInt8) × Bool × Bool))) 0)]), (.bool false)]), res_2 K (Gz (a := 2) (t := 55) (g := g4) (off := 0) K (SP.get h9 (i := 0) rfl) K) (Cf (t := 3) K), ?_⟩
   obtain rfl := Qc H
   exact ⟨none, 0, rfl, SP.sel l5 [5] rfl rfl⟩
  ·have H := cf H g7
   refine At.skip K ?_
   refine aQ ?_
   refine aR ?_
   refine iS 1 ?_
   refine sL 55 5 j 0 4 (.agg #[(.int .i64 b5), (.int .i64 b6), (.int .i64 b7), (.slice a8 (List.length a7) a9)]) 84 f0 rfl ?_
   refine iS 2 ?_
   refine Qf.store (t := 55) (x := (.tmp 2)) (y := (.tmp 84)) (g := g4) (off := 0) (i := 0) (v := (.agg #[(.int .i64 b5), (.int .i64 b6), (.int .i64 b7), (.slice a8 (List.length a7) a9)])) (cs' := #[(.int .i64 b5), (.int .i64 b6), (.int .i64 b7), (.slice a8 (List.length a7) a9)]) (d := none) (k := 1) K rfl K K f0 rfl K ?_
   intro n6 i0
   refine iR 1 3 [(3, (.bool true))] ?_
   refine iF ?_
   refine At.ret K ?_
   refine ⟨(.tuple #[(.agg #[(.int .i64 b5), (.int .i64 b6), (.int .i64 b7), (.slice a8 (List.length a7) a9)]), (.bool true)]), res_2 K (Gz (a := 2) (t := 55) (g := g4) (off := 0) K (SP.get i0 (i := 0) rfl) K) (Cf (t := 3) K), ?_⟩
   obtain rfl := Qc H
   exact ⟨a8, a9, rfl, SP.sel i0 [3] rfl rfl⟩
end Go.Proofs.YtoflbpmbkmephaaGreatDoor
namespace Go.Proofs.YtoflbpmbkmephaaGreatDoor
open Go.RowKit
def Xk (e : Int → Option (Bool)) (d : (List (Int × (List UInt8) × Bool × Bool))) (f : (List (Int × (List UInt8) × Bool × Bool))) (a : Int) : Option (Bool) :=
  (cond (decide (a < ((List.length d : Nat) : Int))) ((idx d a).bind fun b => ((idx f a).bind fun c => (cond (!((b.1 == c.1) && ((b.2.1 == c.2.1) && ((b.2.2.1 == c.2.2.1) && (b.2.2.2 == c.2.2.2))))) (some (false)) (e (IntKind.wrap .i64 (a + 1)))))) (some (true)))
def Za (a : (List (Int × (List UInt8) × Bool × Bool))) (b : (List (Int × (List UInt8) × Bool × Bool))) : Nat → Int → Option (Bool)
  | 0, _ => none
  | f + 1, c => Xk  (Za a b f) a b c
def Q9 (a : (List (Int × (List UInt8) × Bool × Bool))) (b : (List (Int × (List UInt8) × Bool × Bool))) (c : Bool) : Option (Bool) :=
  (cond c (some (false)) (Za a b J4 0))
def Yj (c : Int) (d : Int) (e : Int) (a : (List (Int × (List UInt8) × Bool × Bool))) (f : Int) (g : Int) (h : Int) (b : (List (Int × (List UInt8) × Bool × Bool))) : Option (Bool) :=
  (cond (c != f) (Q9 a b true) (cond (d != g) (Q9 a b true) (cond (e != h) (Q9 a b true) (Q9 a b (((List.length a : Nat) : Int) != ((List.length b : Nat) : Int))))))
set_option maxHeartbeats 40000000 in
theorem Ua (A5 : Option Addr) (c6 : Nat) (u : Option Addr) (a3 : Nat) (a4 : Int) (z : Int) (a0 : Int) (h : (List (Int × (List UInt8) × Bool × Bool))) (a5 : Int) (a1 : Int) (a2 : Int) (m : (List (Int × (List UInt8) × Bool × Bool))) (w0 : World) (b5 : RdT (Qd (Zd .i64) (Qd Qg (Qd Vp Vp))) w0 A5 c6 h) (b6 : RdT (Qd (Zd .i64) (Qd Qg (Qd Vp Vp))) w0 u a3 m) (r : (Bool)) (H : Yj a4 z a0 h a5 a1 a2 m = some r) :
  Calls Tryz.prog 39 #[(.agg #[(.int .i64 a4), (.int .i64 z), (.int .i64 a0), (.slice A5 (List.length h) c6)]), (.agg #[(.int .i64 a5), (.int .i64 a1), (.int .i64 a2), (.slice u (List.length m) a3)])] w0 (fun e w' => e = .returned (.bool r) ∧ SP [] w0 w' []) := by
 unfold Yj at H
 refine Qj (n := 52) Tryz.func39 K K K ?_
 have c2 := Q7 [] w0
 refine aQ ?_
 refine aR ?_
 refine iS 1 ?_
 refine Zq (t := 55) (x := (.tmp 0)) (v := (.agg #[(.int .i64 a4), (.int .i64 z), (.int .i64 a0), (.slice A5 (List.length h) c6)])) (d := (some 2)) (k := 0) K rfl K c2 ?_
 intro i e8 c3
 refine iS 2 ?_
 refine Zq (t := 55) (x := (.tmp 1)) (v := (.agg #[(.int .i64 a5), (.int .i64 a1), (.int .i64 a2), (.slice u (List.length m) a3)])) (d := (some 3)) (k := 1) K rfl K c3 ?_
 intro j e9 s
 refine iR 1 3 [(4, (.bool false))] ?_
 refine iF ?_
 refine aQ ?_
 refine aQ ?_
 refine At.join (fun ρ w => ∃ (a6 : Bool), V5 ρ [(2, (pt i 0)), (3, (pt j 0)), (33, (.bool a6))] ∧ SP [] w0 w [Qh i 55 #[(.int .i64 a4), (.int .i64 z), (.int .i64 a0), (.slice A5 (List.length h) c6)], Qh j 55 #[(.int .i64 a5), (.int .i64 a1), (.int .i64 a2), (.slice u (List.length m) a3)]] ∧ Q9 h m a6 = some r) ?_ ?_
 ·refine aR ?_
  refine iR 1 1 [(6, (pt i 0))] ?_
  refine iS 2 ?_
  refine sL 27 6 i 0 0 (.int .i64 a4) 7 s rfl ?_
  refine iR 1 3 [(8, (pt j 0))] ?_
  refine iS 4 ?_
  refine sL 27 8 j 0 1 (.int .i64 a5) 9 s rfl ?_
  refine iR 2 6 [(10, (.bool (a4 != a5))), (11, (.bool (a4 != a5)))] ?_
  refine In.guard (t := 11) (b := (a4 != a5)) K (fun a7 => ?_) (fun a7 => ?_)
  ·have H := ct H a7
   refine iR 22 28 [(12, undef), (13, undef), (14, undef), (15, undef), (16, undef), (17, (.bool true)), (18, (.bool true)), (19, undef), (20, undef), (21, undef), (22, undef), (23, undef), (24, (.bool true)), (25, (.bool true)), (26, undef), (27, undef), (28, undef), (29, undef), (30, undef), (31, undef), (32, undef), (33, (.bool true))] ?_
   refine iF ?_
   exact ⟨true, ⟨K, K, K, trivial⟩, SP.sel s [0, 1] rfl rfl, H⟩
  ·have H := cf H a7
   refine iR 1 7 [(12, (pt i 1))] ?_
   refine iS 8 ?_
   refine sL 3 12 i 1 0 (.int .i64 z) 13 s rfl ?_
   refine iR 1 9 [(14, (pt j 1))] ?_
   refine iS 10 ?_
   refine sL 3 14 j 1 1 (.int .i64 a1) 15 s rfl ?_
   refine iR 3 13 [(16, (.bool (z != a1))), (17, (.bool (z != a1))), (18, (.bool (z != a1)))] ?_
   refine In.guard (t := 18) (b := (z != a1)) K (fun a8 => ?_) (fun a8 => ?_)
   ·have H := ct H a8
    refine iR 15 28 [(19, undef), (20, undef), (21, undef), (22, undef), (23, undef), (24, (.bool true)), (25, (.bool true)), (26, undef), (27, undef), (28, undef), (29, undef), (30, undef), (31, undef), (32, undef), (33, (.bool true))] ?_
    refine iF ?_
    exact ⟨true, ⟨K, K, K, trivial⟩, SP.sel s [0, 1] rfl rfl, H⟩
   ·have H := cf H a8
    refine iR 1 14 [(19, (pt i 2))] ?_
    refine iS 15 ?_
    refine sL 3 19 i 2 0 (.int .i64 a0) 20 s rfl ?_
    refine iR 1 16 [(21, (pt j 2))] ?_
    refine iS 17 ?_
    refine sL 3 21 j 2 1 (.int .i64 a2) 22 s rfl ?_
    refine iR 3 20 [(23, (.bool (a0 != a2))), (24, (.bool (a0 != a2))), (25, (.bool (a0 != a2)))] ?_
    refine In.guard (t := 25) (b := (a0 != a2)) K (fun a9 => ?_) (fun a9 => ?_)
    ·have H := ct H a9
     refine iR 8 28 [(26, undef), (27, undef), (28, undef), (29, undef), (30, undef), (31, undef), (32, undef), (33, (.bool true))] ?_
     refine iF ?_
     exact ⟨true, ⟨K, K, K, trivial⟩, SP.sel s [0, 1] rfl rfl, H⟩
    ·have H := cf H a9
     refine iR 1 21 [(26, (pt i 3))] ?_
     refine iS 22 ?_
     refine sL 53 26 i 3 0 (.slice A5 (List.length h) c6) 27 s rfl ?_
     refine iR 2 24 [(28, (.int .i64 ((List.length h : Nat) : Int))), (29, (pt j 3))] ?_
     refine iS 25 ?_
     refine sL 53 29 j 3 1 (.slice u (List.length m) a3) 30 s rfl ?_
     refine iR 3 28 [(31, (.int .i64 ((List.length m : Nat) : Int))), (32, (.bool (((List.length h : Nat) : Int) != ((List.length m : Nat) : Int)))), (33, (.bool (((List.length h : Nat) : Int) != ((List.length m : Nat) : Int))))] ?_
     refine iF ?_
     exact ⟨(((List.length h : Nat) : Int) != ((List.length m : Nat) : Int)), ⟨K, K, K, trivial⟩, SP.sel s [0, 1] rfl rfl, H⟩
 ·rintro ρ f0 ⟨a6, hk, b7, H⟩
  unfold Q9 at H
  first | refine At.known [(2, (pt i 0)), (3, (pt j 0)), (33, (.bool a6))] hk ?_ | rw [← Qq (l := [(2, (pt i 0)), (3, (pt j 0)), (33, (.bool a6))]) hk]
  refine Z8 K (o := (.tmp 33)) K (b := a6) K (fun b0 => ?_) (fun b0 => ?_)
  ·have H := ct H b0
   refine aQ ?_
   refine aR ?_
   refine iR 1 1 [(4, (.bool false))] ?_
   refine iF ?_
   refine At.ret K ?_
   refine ⟨(.bool false), K, ?_⟩
   obtain rfl := Qc H
   exact ⟨rfl, SP.sel b7 [] rfl rfl⟩
  ·have H := cf H b0
   refine At.skip K ?_
   refine aQ ?_
   refine aQ ?_
   refine aR ?_
   refine iR 1 1 [(5, (.int .i64 0))] ?_
   refine iF ?_
   refine J3 K (id := 0) K ?_
   refine De K (fun f2 ρ w => ∃ (g : Int), V5 ρ [(2, (pt i 0)), (3, (pt j 0)), (5, (.int .i64 g))] ∧ SP [] w0 w [Qh i 55 #[(.int .i64 a4), (.int .i64 z), (.int .i64 a0), (.slice A5 (List.length h) c6)], Qh j 55 #[(.int .i64 a5), (.int .i64 a1), (.int .i64 a2), (.slice u (List.length m) a3)]] ∧ Za h m f2 g = some r) (by rintro ρ w ⟨g, hk, hs, H⟩; cases H) ?_ J4 ?_
   ·rintro f2 ρ f1 ⟨g, hk, b1, H⟩
    refine At.known [(2, (pt i 0)), (3, (pt j 0)), (5, (.int .i64 g))] hk ?_
    replace H := (show Xk (Za h m f2) h m g = some r from H)
    unfold Xk at H
    refine aQ ?_
    refine aQ ?_
    refine aR ?_
    refine iR 2 2 [(34, (.int .i64 g)), (35, (pt i 3))] ?_
    refine iS 3 ?_
    refine sL 53 35 i 3 0 (.slice A5 (List.length h) c6) 36 b1 rfl ?_
    refine iR 2 5 [(37, (.int .i64 ((List.length h : Nat) : Int))), (38, (.bool (decide (g < ((List.length h : Nat) : Int)))))] ?_
    refine iF ?_
    refine Z8 K (o := (.tmp 38)) K (b := (decide (g < ((List.length h : Nat) : Int)))) K (fun b2 => ?_) (fun b2 => ?_)
    ·have H := ct H b2
     refine At.skip K ?_
     refine aQ ?_
     refine J3 K (id := 1) K ?_
     refine aQ ?_
     obtain ⟨a, b8, b9, c4, H⟩ := V8 H
     obtain ⟨f, c0, c1, c5, H⟩ := V8 H
     refine aG [GEq (pt i 3), GEq (.slice A5 (List.length h) c6), GEq (.int .i64 g), Ck A5 (Qd (Zd .i64) (Qd Qg (Qd Vp Vp))).sz g, GEq (.agg #[(.int .i64 a.1), (.string ⟨List.toArray a.2.1⟩), (.bool a.2.2.1), (.bool a.2.2.2)]), GEq (pt j 3), GEq (.slice u (List.length m) a3), GEq (.int .i64 g), Ck u (Qd (Zd .i64) (Qd Qg (Qd Vp Vp))).sz g, GEq (.agg #[(.int .i64 f.1), (.string ⟨List.toArray f.2.1⟩), (.bool f.2.2.1), (.bool f.2.2.2)]), GEq (.bool (!((a.1 == f.1) && ((a.2.1 == f.2.1) && ((a.2.2.1 == f.2.2.1) && (a.2.2.2 == f.2.2.2))))))] [] (tG [] w0 [Qh i 55 #[(.int .i64 a4), (.int .i64 z), (.int .i64 a0), (.slice A5 (List.length h) c6)], Qh j 55 #[(.int .i64 a5), (.int .i64 a1), (.int .i64 a2), (.slice u (List.length m) a3)]] [([], [])]) 11 0 ⟨trivial, SP.drew b1⟩ ?_ ?_
     iterate 11 refine And.intro ?_ ?_
     exact trivial
     ·exact oV (hC (hS 2 (pt i 0)) (h0)) (pt i 3)
     ·refine oL 0 ?_
      ·rintro ρ' w' hs p ⟨f3, c7⟩
       refine kM (kc (kA p 0 41) k0) fun q => ?_
       refine sL 53 41 i 3 0 (.slice A5 (List.length h) c6) 42 c7 rfl ?_
       exact eK q
     ·exact oV (hC (hS 5 (.int .i64 g)) (h0)) (.int .i64 g)
     ·refine oL 0 ?_
      ·rintro ρ' w' hs p ⟨f4, c8⟩
       refine kM (kc (kA p 1 42) (kc (kA p 2 43) k0)) fun q => ?_
       refine Zi (e := (Qd (Zd .i64) (Qd Qg (Qd Vp Vp)))) (l := h) (A := A5) (c := c6) (T := 53) (E := 108) (x := (.tmp 42)) (ix := (.tmp 43)) (ki := .i64) (iz := g) (d := (some 44)) (k := 3) K rfl K K K K (RdT.sp b5 c8) b8 b9 ?_
       intro c9 d0 d1 f5 hc165
       exact ⟨rfl, _, Ql q, ⟨c9, d0, d1, rfl⟩⟩
     ·refine oL 0 ?_
      ·rintro ρ' w' hs p ⟨f6, d2⟩
       obtain ⟨d3, d4, d5, d6⟩ := p 3 44 K
       refine kM (kc d6 k0) fun q => ?_
       refine Qf.cells (t := 108) (x := (.tmp 44)) (b := d3) (off := (d4 + Int.toNat g * (Qd (Zd .i64) (Qd Qg (Qd Vp Vp))).sz)) (xs := [(.int .i64 a.1), (.string ⟨List.toArray a.2.1⟩), (.bool a.2.2.1), (.bool a.2.2.2)]) (d := (some 45)) (k := 4) K rfl K K K (Jh (e := (Qd (Zd .i64) (Qd Qg (Qd Vp Vp)))) (Yx (RdT.sp b5 d2) d5 b8 b9) c4 rfl) ?_
       exact eK q
     ·exact oV (hC (hS 3 (pt j 0)) (h0)) (pt j 3)
     ·refine oL 0 ?_
      ·rintro ρ' w' hs p ⟨f7, d7⟩
       refine kM (kc (kA p 5 46) k0) fun q => ?_
       refine sL 53 46 j 3 1 (.slice u (List.length m) a3) 47 d7 rfl ?_
       exact eK q
     ·exact oV (hC (hS 5 (.int .i64 g)) (h0)) (.int .i64 g)
     ·refine oL 0 ?_
      ·rintro ρ' w' hs p ⟨f8, d8⟩
       refine kM (kc (kA p 6 47) (kc (kA p 7 48) k0)) fun q => ?_
       refine Zi (e := (Qd (Zd .i64) (Qd Qg (Qd Vp Vp)))) (l := m) (A := u) (c := a3) (T := 53) (E := 108) (x := (.tmp 47)) (ix := (.tmp 48)) (ki := .i64) (iz := g) (d := (some 49)) (k := 8) K rfl K K K K (RdT.sp b6 d8) c0 c1 ?_
       intro d9 e0 e1 f9 hc179
       exact ⟨rfl, _, Ql q, ⟨d9, e0, e1, rfl⟩⟩
     ·refine oL 0 ?_
      ·rintro ρ' w' hs p ⟨g0, e2⟩
       obtain ⟨e3, e4, e5, e6⟩ := p 8 49 K
       refine kM (kc e6 k0) fun q => ?_
       refine Qf.cells (t := 108) (x := (.tmp 49)) (b := e3) (off := (e4 + Int.toNat g * (Qd (Zd .i64) (Qd Qg (Qd Vp Vp))).sz)) (xs := [(.int .i64 f.1), (.string ⟨List.toArray f.2.1⟩), (.bool f.2.2.1), (.bool f.2.2.2)]) (d := (some 50)) (k := 9) K rfl K K K (Jh (e := (Qd (Zd .i64) (Qd Qg (Qd Vp Vp)))) (Yx (RdT.sp b6 e2) e5 c0 c1) c5 rfl) ?_
       exact eK q
     ·refine oL 0 ?_
      ·rintro ρ' w' hs p ⟨g1, g2⟩
       refine kM (kc (kA p 4 45) (kc (kA p 9 50) k0)) fun q => ?_
       refine R6 (op := .neq) (T := 108) (T' := 108) (x := (.tmp 45)) (y := (.tmp 50)) (vx := (.agg #[(.int .i64 a.1), (.string ⟨List.toArray a.2.1⟩), (.bool a.2.2.1), (.bool a.2.2.2)])) (vy := (.agg #[(.int .i64 f.1), (.string ⟨List.toArray f.2.1⟩), (.bool f.2.2.1), (.bool f.2.2.2)])) (v := (.bool (!((a.1 == f.1) && ((a.2.1 == f.2.1) && ((a.2.2.1 == f.2.2.1) && (a.2.2.2 == f.2.2.2))))))) (d := (some 51)) (k := 10) K rfl K K (by clear H; intro w; simp only [Ny]; go_simp; simp only [Gg, U2, G5, Ny, Bool.and_true] <;> simp only [Bool.not_and]) ?_
       exact eK q
     ·rintro ρ' w' hs hf ⟨g3, b3⟩
      refine Yh [(2, (pt i 0)), (3, (pt j 0)), (5, (.int .i64 g)), (51, (.bool (!((a.1 == f.1) && ((a.2.1 == f.2.1) && ((a.2.2.1 == f.2.2.1) && (a.2.2.2 == f.2.2.2)))))))] ⟨(hs 2 K).trans K, (hs 3 K).trans K, (hs 5 K).trans K, hf 10 51 K, trivial⟩ ?_
      obtain ⟨g4, e7⟩ : ∃ x, w' = x := ⟨_, rfl⟩
      rw [e7] at b3 ⊢
      refine Z8 K (o := (.tmp 51)) K (b := (!((a.1 == f.1) && ((a.2.1 == f.2.1) && ((a.2.2.1 == f.2.2.1) && (a.2.2.2 == f.2.2.2)))))) K (fun b4 => ?_) (fun b4 => ?_)
      ·have H := ct H b4
       refine aQ ?_
       refine aR ?_
       refine iR 1 1 [(4, (.bool false))] ?_
       refine iF ?_
       refine At.ret K ?_
       refine ⟨(.bool false), K, ?_⟩
       obtain rfl := Qc H
       exact ⟨rfl, SP.sel b3 [] rfl rfl⟩
      ·have H := cf H b4
       refine At.skip K ?_
       refine aR ?_
       refine iR 3 3 [(39, (.int .i64 g)), (40, (.int .i64 (IntKind.wrap .i64 (g + 1)))), (5, (.int .i64 (IntKind.wrap .i64 (g + 1))))] ?_
       refine iF ?_
       exact ⟨(IntKind.wrap .i64 (g + 1)), ⟨K, K, K, trivial⟩, SP.sel b3 [0, 1] rfl rfl, H⟩
    ·have H := cf H b2
     refine At.exit K (id := 0) K ?_
     refine aQ ?_
     refine aR ?_
     refine iR 1 1 [(4, (.bool true))] ?_
     refine iF ?_
     refine At.ret K ?_
     refine ⟨(.bool true), K, ?_⟩
     obtain rfl := Qc H
     exact ⟨rfl, SP.sel b1 [] rfl rfl⟩
   ·exact ⟨0, ⟨K, K, K, trivial⟩, SP.sel b7 [0, 1] rfl rfl, H⟩
def Qm (a : Bool) : Option (Bool) :=
  (some (a))
def Yg  : Option (Bool) :=
  ((Zh ([98, 121, 116, 101, 115, 32, 51, 32, 54, 49, 54, 50, 32, 45] : List UInt8)).bind fun z8 => ((Zh ([98, 121, 116, 101, 115, 32, 51, 32, 54, 49, 54, 50] : List UInt8)).bind fun b => ((Jz ([111, 107, 32, 50, 32, 48, 32, 49, 61, 54, 49, 43, 32, 51, 61, 45, 33] : List UInt8)).bind fun a => ((Jz ([111, 107, 32, 50, 32, 48, 32, 51, 61, 45, 32, 49, 61, 45] : List UInt8)).bind fun c => ((Zf 2 3 0 ([97, 98] : List UInt8) 0 ([] : List UInt8) ([] : List UInt8) ([] : List UInt8)).bind fun d => (cond (d == ([98, 121, 116, 101, 115, 32, 51, 32, 54, 49, 54, 50, 32, 45] : List UInt8)) (cond z8.2.2.2.2.2.2.2.2 (cond ((z8.1 == 2) && ((z8.2.1 == 3) && ((z8.2.2.1 == 0) && ((z8.2.2.2.1 == ([97, 98] : List UInt8)) && ((z8.2.2.2.2.1 == 0) && ((z8.2.2.2.2.2.1 == ([] : List UInt8)) && ((z8.2.2.2.2.2.2.1 == ([] : List UInt8)) && (z8.2.2.2.2.2.2.2.1 == ([] : List UInt8))))))))) (cond (!b.2.2.2.2.2.2.2.2) ((Jy 0 2 0 ([(1, ([97] : List UInt8), true, false), (3, ([] : List UInt8), false, true)] : List (Int × (List UInt8) × Bool × Bool))).bind fun e => (cond (e == ([111, 107, 32, 50, 32, 48, 32, 49, 61, 54, 49, 43, 32, 51, 61, 45, 33] : List UInt8)) (cond a.2.2.2.2 ((Yj a.1 a.2.1 a.2.2.1 a.2.2.2.1 0 2 0 ([(1, ([97] : List UInt8), true, false), (3, ([] : List UInt8), false, true)] : List (Int × (List UInt8) × Bool × Bool))).bind fun f => (cond f (cond (!c.2.2.2.2) ((Jy 3 0 0 ([] : List (Int × (List UInt8) × Bool × Bool))).bind fun g => (cond (g == ([101, 114, 114, 32, 51] : List UInt8)) ((Zf 0 0 0 ([] : List UInt8) 0 ([] : List UInt8) ([] : List UInt8) ([] : List UInt8)).bind fun h => (cond (h == ([] : List UInt8)) ((Zf 9 0 0 ([] : List UInt8) 0 ([] : List UInt8) ([] : List UInt8) ([] : List UInt8)).bind fun i => (Qm (i == ([100, 114, 97, 105, 110] : List UInt8)))) (Qm false))) (Qm false))) (Qm false)) (Qm false))) (Qm false)) (Qm false))) (Qm false)) (Qm false)) (Qm false)) (Qm false)))))))
set_option maxHeartbeats 40000000 in
theorem Nc   (w0 : World) (hL : Yr w0)  (r : (Bool)) (H : Yg  = some r) :
  Calls Tryz.prog 28 #[] w0 (fun e w' => e = .returned (.bool r) ∧ SP [] w0 w' []) := by
 unfold Yg at H
 refine Qj (n := 79) Tryz.func28 K K K ?_
 have d9 := Q7 [] w0
 refine aQ ?_
 refine aR ?_
 refine iR 1 1 [(0, (.bool false))] ?_
 refine iF ?_
 refine aQ ?_
 refine aR ?_
 refine iR 1 1 [(11, (.agg #[(.int .i64 2), (.int .i64 3), (.int .u32 0), (.string ⟨List.toArray ([97, 98] : List UInt8)⟩), (.int .i64 0), (.string ⟨List.toArray ([] : List UInt8)⟩), (.string ⟨List.toArray ([] : List UInt8)⟩), (.string ⟨List.toArray ([] : List UInt8)⟩)]))] ?_
 refine iS 2 ?_
 refine Qf.alloc (t := 52) (z := (.agg #[(.int .i64 0), (.int .i64 0), (.int .u32 0), (.string ⟨List.toArray ([] : List UInt8)⟩), (.int .i64 0), (.string ⟨List.toArray ([] : List UInt8)⟩), (.string ⟨List.toArray ([] : List UInt8)⟩), (.string ⟨List.toArray ([] : List UInt8)⟩)])) (d := (some 1)) (k := 1) K rfl K d9 ?_
 intro g1 w2 e0
 refine iS 3 ?_
 refine Qf.store (t := 52) (x := (.tmp 1)) (y := (.tmp 11)) (g := g1) (off := 0) (i := 0) (v := (.agg #[(.int .i64 2), (.int .i64 3), (.int .u32 0), (.string ⟨List.toArray ([97, 98] : List UInt8)⟩), (.int .i64 0), (.string ⟨List.toArray ([] : List UInt8)⟩), (.string ⟨List.toArray ([] : List UInt8)⟩), (.string ⟨List.toArray ([] : List UInt8)⟩)])) (cs' := #[(.int .i64 2), (.int .i64 3), (.int .u32 0), (.string ⟨List.toArray ([97, 98] : List UInt8)⟩), (.int .i64 0), (.string ⟨List.toArray ([] : List UInt8)⟩), (.string ⟨List.toArray ([] : List UInt8)⟩), (.string ⟨List.toArray ([] : List UInt8)⟩)]) (d := none) (k := 2) K rfl K K e0 rfl K ?_
 intro w5 c2
 refine iF ?_
 refine aQ ?_
 refine aR ?_
 obtain ⟨z8, e1, H⟩ := Qa H
 refine iS 1 ?_
 refine cF 31 #[(.const (.string ⟨List.toArray ([98, 121, 116, 101, 115, 32, 51, 32, 54, 49, 54, 50, 32, 45] : List UInt8)⟩))] #[9] 13 Tryz.call31 (Xu  ([98, 121, 116, 101, 115, 32, 51, 32, 54, 49, 54, 50, 32, 45] : List UInt8) w5 (Qr hL (SP.keeps c2)) z8 e1) ?_
 rintro e h6 ⟨rfl, c3⟩
 refine ⟨_, rfl, ?_⟩
 have e2 := SP.call c2 c3
 clear c3
 refine iR 3 4 [(12, (.tuple #[(.agg #[(.int .i64 z8.1), (.int .i64 z8.2.1), (.int .u32 z8.2.2.1), (.string ⟨List.toArray z8.2.2.2.1⟩), (.int .i64 z8.2.2.2.2.1), (.string ⟨List.toArray z8.2.2.2.2.2.1⟩), (.string ⟨List.toArray z8.2.2.2.2.2.2.1⟩), (.string ⟨List.toArray z8.2.2.2.2.2.2.2.1⟩)]), (.bool z8.2.2.2.2.2.2.2.2)])), (14, (.agg #[(.int .i64 z8.1), (.int .i64 z8.2.1), (.int .u32 z8.2.2.1), (.string ⟨List.toArray z8.2.2.2.1⟩), (.int .i64 z8.2.2.2.2.1), (.string ⟨List.toArray z8.2.2.2.2.2.1⟩), (.string ⟨List.toArray z8.2.2.2.2.2.2.1⟩), (.string ⟨List.toArray z8.2.2.2.2.2.2.2.1⟩)])), (15, (.bool z8.2.2.2.2.2.2.2.2))] ?_
 refine iS 5 ?_
 refine Qf.alloc (t := 52) (z := (.agg #[(.int .i64 0), (.int .i64 0), (.int .u32 0), (.string ⟨List.toArray ([] : List UInt8)⟩), (.int .i64 0), (.string ⟨List.toArray ([] : List UInt8)⟩), (.string ⟨List.toArray ([] : List UInt8)⟩), (.string ⟨List.toArray ([] : List UInt8)⟩)])) (d := (some 2)) (k := 4) K rfl K e2 ?_
 intro c4 h7 e3
 refine iS 6 ?_
 refine Qf.store (t := 52) (x := (.tmp 2)) (y := (.tmp 14)) (g := c4) (off := 0) (i := 1) (v := (.agg #[(.int .i64 z8.1), (.int .i64 z8.2.1), (.int .u32 z8.2.2.1), (.string ⟨List.toArray z8.2.2.2.1⟩), (.int .i64 z8.2.2.2.2.1), (.string ⟨List.toArray z8.2.2.2.2.2.1⟩), (.string ⟨List.toArray z8.2.2.2.2.2.2.1⟩), (.string ⟨List.toArray z8.2.2.2.2.2.2.2.1⟩)])) (cs' := #[(.int .i64 z8.1), (.int .i64 z8.2.1), (.int .u32 z8.2.2.1), (.string ⟨List.toArray z8.2.2.2.1⟩), (.int .i64 z8.2.2.2.2.1), (.string ⟨List.toArray z8.2.2.2.2.2.1⟩), (.string ⟨List.toArray z8.2.2.2.2.2.2.1⟩), (.string ⟨List.toArray z8.2.2.2.2.2.2.2.1⟩)]) (d := none) (k := 5) K rfl K K e3 rfl K ?_
 intro e4 c5
 refine iR 1 7 [(3, (.bool z8.2.2.2.2.2.2.2.2))] ?_
 refine iF ?_
 refine aQ ?_
 refine aR ?_
 obtain ⟨c, e5, H⟩ := Qa H
 refine iS 1 ?_
 refine cF 31 #[(.const (.string ⟨List.toArray ([98, 121, 116, 101, 115, 32, 51, 32, 54, 49, 54, 50] : List UInt8)⟩))] #[9] 17 Tryz.call31 (Xu  ([98, 121, 116, 101, 115, 32, 51, 32, 54, 49, 54, 50] : List UInt8) e4 (Qr hL (SP.keeps c5)) c e5) ?_
 rintro e h8 ⟨rfl, c6⟩
 refine ⟨_, rfl, ?_⟩
 have e6 := SP.call c5 c6
 clear c6
 refine iR 3 4 [(16, (.tuple #[(.agg #[(.int .i64 c.1), (.int .i64 c.2.1), (.int .u32 c.2.2.1), (.string ⟨List.toArray c.2.2.2.1⟩), (.int .i64 c.2.2.2.2.1), (.string ⟨List.toArray c.2.2.2.2.2.1⟩), (.string ⟨List.toArray c.2.2.2.2.2.2.1⟩), (.string ⟨List.toArray c.2.2.2.2.2.2.2.1⟩)]), (.bool c.2.2.2.2.2.2.2.2)])), (18, (.agg #[(.int .i64 c.1), (.int .i64 c.2.1), (.int .u32 c.2.2.1), (.string ⟨List.toArray c.2.2.2.1⟩), (.int .i64 c.2.2.2.2.1), (.string ⟨List.toArray c.2.2.2.2.2.1⟩), (.string ⟨List.toArray c.2.2.2.2.2.2.1⟩), (.string ⟨List.toArray c.2.2.2.2.2.2.2.1⟩)])), (19, (.bool c.2.2.2.2.2.2.2.2))] ?_
 refine iS 5 ?_
 refine Qf.alloc (t := 52) (z := (.agg #[(.int .i64 0), (.int .i64 0), (.int .u32 0), (.string ⟨List.toArray ([] : List UInt8)⟩), (.int .i64 0), (.string ⟨List.toArray ([] : List UInt8)⟩), (.string ⟨List.toArray ([] : List UInt8)⟩), (.string ⟨List.toArray ([] : List UInt8)⟩)])) (d := (some 4)) (k := 4) K rfl K e6 ?_
 intro e7 h9 e8
 refine iS 6 ?_
 refine Qf.store (t := 52) (x := (.tmp 4)) (y := (.tmp 18)) (g := e7) (off := 0) (i := 2) (v := (.agg #[(.int .i64 c.1), (.int .i64 c.2.1), (.int .u32 c.2.2.1), (.string ⟨List.toArray c.2.2.2.1⟩), (.int .i64 c.2.2.2.2.1), (.string ⟨List.toArray c.2.2.2.2.2.1⟩), (.string ⟨List.toArray c.2.2.2.2.2.2.1⟩), (.string ⟨List.toArray c.2.2.2.2.2.2.2.1⟩)])) (cs' := #[(.int .i64 c.1), (.int .i64 c.2.1), (.int .u32 c.2.2.1), (.string ⟨List.toArray c.2.2.2.1⟩), (.int .i64 c.2.2.2.2.1), (.string ⟨List.toArray c.2.2.2.2.2.1⟩), (.string ⟨List.toArray c.2.2.2.2.2.2.1⟩), (.string ⟨List.toArray c.2.2.2.2.2.2.2.1⟩)]) (d := none) (k := 5) K rfl K K e8 rfl K ?_
 intro i0 e9
 refine iR 1 7 [(5, (.bool c.2.2.2.2.2.2.2.2))] ?_
 refine iF ?_
 refine aQ ?_
 refine aR ?_
 refine iR 2 2 [(20, (.agg #[(.int .i64 1), (.string ⟨List.toArray ([97] : List UInt8)⟩), (.bool true), (.bool false)])), (21, (.agg #[(.int .i64 3), (.string ⟨List.toArray ([] : List UInt8)⟩), (.bool false), (.bool true)]))] ?_
 refine iS 3 ?_
 refine Vb (e := (Qd (Zd .i64) (Qd Qg (Qd Vp Vp)))) (T := 53) (E := 108) (len := 2) (parts := #[(0, (.tmp 20)), (1, (.tmp 21))]) (cs := #[(.int .i64 1), (.string ⟨List.toArray ([97] : List UInt8)⟩), (.bool true), (.bool false), (.int .i64 3), (.string ⟨List.toArray ([] : List UInt8)⟩), (.bool false), (.bool true)]) ([(1, ([97] : List UInt8), true, false), (3, ([] : List UInt8), false, true)] : List (Int × (List UInt8) × Bool × Bool)) (d := (some 22)) (k := 2) K rfl (fun _ => K) e9 rfl rfl rfl rfl ?_
 intro m i1 f0
 refine iR 1 4 [(23, (.agg #[(.int .i64 0), (.int .i64 2), (.int .i64 0), (.slice (some ⟨m, 0, none⟩) (List.length ([(1, ([97] : List UInt8), true, false), (3, ([] : List UInt8), false, true)] : List (Int × (List UInt8) × Bool × Bool))) (List.length ([(1, ([97] : List UInt8), true, false), (3, ([] : List UInt8), false, true)] : List (Int × (List UInt8) × Bool × Bool))))]))] ?_
 refine iS 5 ?_
 refine Qf.alloc (t := 55) (z := (.agg #[(.int .i64 0), (.int .i64 0), (.int .i64 0), (.slice none (List.length ([] : List (Int × (List UInt8) × Bool × Bool))) 0)])) (d := (some 6)) (k := 4) K rfl K f0 ?_
 intro a8 i2 f1
 refine iS 6 ?_
 refine Qf.store (t := 55) (x := (.tmp 6)) (y := (.tmp 23)) (g := a8) (off := 0) (i := 4) (v := (.agg #[(.int .i64 0), (.int .i64 2), (.int .i64 0), (.slice (some ⟨m, 0, none⟩) (List.length ([(1, ([97] : List UInt8), true, false), (3, ([] : List UInt8), false, true)] : List (Int × (List UInt8) × Bool × Bool))) (List.length ([(1, ([97] : List UInt8), true, false), (3, ([] : List UInt8), false, true)] : List (Int × (List UInt8) × Bool × Bool))))])) (cs' := #[(.int .i64 0), (.int .i64 2), (.int .i64 0), (.slice (some ⟨m, 0, none⟩) (List.length ([(1, ([97] : List UInt8), true, false), (3, ([] : List UInt8), false, true)] : List (Int × (List UInt8) × Bool × Bool))) (List.length ([(1, ([97] : List UInt8), true, false), (3, ([] : List UInt8), false, true)] : List (Int × (List UInt8) × Bool × Bool))))]) (d := none) (k := 5) K rfl K K f1 rfl K ?_
 intro f2 c7
 refine iF ?_
 refine aQ ?_
 refine aR ?_
 obtain ⟨f, f3, H⟩ := Qa H
 refine iS 1 ?_
 refine cF 33 #[(.const (.string ⟨List.toArray ([111, 107, 32, 50, 32, 48, 32, 49, 61, 54, 49, 43, 32, 51, 61, 45, 33] : List UInt8)⟩))] #[9] 25 Tryz.call33 (Uj  ([111, 107, 32, 50, 32, 48, 32, 49, 61, 54, 49, 43, 32, 51, 61, 45, 33] : List UInt8) f2 (Qr hL (SP.keeps c7)) f f3) ?_
 rintro e i3 ⟨p, q, rfl, c8⟩
 refine ⟨_, rfl, ?_⟩
 have f4 := SP.call c7 c8
 clear c8
 refine iR 3 4 [(24, (.tuple #[(.agg #[(.int .i64 f.1), (.int .i64 f.2.1), (.int .i64 f.2.2.1), (.slice p (List.length f.2.2.2.1) q)]), (.bool f.2.2.2.2)])), (26, (.agg #[(.int .i64 f.1), (.int .i64 f.2.1), (.int .i64 f.2.2.1), (.slice p (List.length f.2.2.2.1) q)])), (27, (.bool f.2.2.2.2))] ?_
 refine iS 5 ?_
 refine Qf.alloc (t := 55) (z := (.agg #[(.int .i64 0), (.int .i64 0), (.int .i64 0), (.slice none (List.length ([] : List (Int × (List UInt8) × Bool × Bool))) 0)])) (d := (some 7)) (k := 4) K rfl K f4 ?_
 intro c9 i4 f5
 refine iS 6 ?_
 refine Qf.store (t := 55) (x := (.tmp 7)) (y := (.tmp 26)) (g := c9) (off := 0) (i := 6) (v := (.agg #[(.int .i64 f.1), (.int .i64 f.2.1), (.int .i64 f.2.2.1), (.slice p (List.length f.2.2.2.1) q)])) (cs' := #[(.int .i64 f.1), (.int .i64 f.2.1), (.int .i64 f.2.2.1), (.slice p (List.length f.2.2.2.1) q)]) (d := none) (k := 5) K rfl K K f5 rfl K ?_
 intro f6 d0
 refine iR 1 7 [(8, (.bool f.2.2.2.2))] ?_
 refine iF ?_
 refine aQ ?_
 refine aR ?_
 obtain ⟨h, f7, H⟩ := Qa H
 refine iS 1 ?_
 refine cF 33 #[(.const (.string ⟨List.toArray ([111, 107, 32, 50, 32, 48, 32, 51, 61, 45, 32, 49, 61, 45] : List UInt8)⟩))] #[9] 29 Tryz.call33 (Uj  ([111, 107, 32, 50, 32, 48, 32, 51, 61, 45, 32, 49, 61, 45] : List UInt8) f6 (Qr hL (SP.keeps d0)) h f7) ?_
 rintro e i5 ⟨a4, a5, rfl, d1⟩
 refine ⟨_, rfl, ?_⟩
 have f8 := SP.call d0 d1
 clear d1
 refine iR 3 4 [(28, (.tuple #[(.agg #[(.int .i64 h.1), (.int .i64 h.2.1), (.int .i64 h.2.2.1), (.slice a4 (List.length h.2.2.2.1) a5)]), (.bool h.2.2.2.2)])), (30, (.agg #[(.int .i64 h.1), (.int .i64 h.2.1), (.int .i64 h.2.2.1), (.slice a4 (List.length h.2.2.2.1) a5)])), (31, (.bool h.2.2.2.2))] ?_
 refine iS 5 ?_
 refine Qf.alloc (t := 55) (z := (.agg #[(.int .i64 0), (.int .i64 0), (.int .i64 0), (.slice none (List.length ([] : List (Int × (List UInt8) × Bool × Bool))) 0)])) (d := (some 9)) (k := 4) K rfl K f8 ?_
 intro f9 i6 g0
 refine iS 6 ?_
 refine Qf.store (t := 55) (x := (.tmp 9)) (y := (.tmp 30)) (g := f9) (off := 0) (i := 8) (v := (.agg #[(.int .i64 h.1), (.int .i64 h.2.1), (.int .i64 h.2.2.1), (.slice a4 (List.length h.2.2.2.1) a5)])) (cs' := #[(.int .i64 h.1), (.int .i64 h.2.1), (.int .i64 h.2.2.1), (.slice a4 (List.length h.2.2.2.1) a5)]) (d := none) (k := 5) K rfl K K g0 rfl K ?_
 intro g2 a9
 refine iR 1 7 [(10, (.bool h.2.2.2.2))] ?_
 refine iF ?_
 refine aQ ?_
 refine At.join (fun ρ w => ∃ (s : Bool), V5 ρ [(0, (.bool s))] ∧ SP [] w0 w [] ∧ Qm s = some r) ?_ ?_
 ·refine aR ?_
  refine iS 1 ?_
  refine sL 52 1 g1 0 0 (.agg #[(.int .i64 2), (.int .i64 3), (.int .u32 0), (.string ⟨List.toArray ([97, 98] : List UInt8)⟩), (.int .i64 0), (.string ⟨List.toArray ([] : List UInt8)⟩), (.string ⟨List.toArray ([] : List UInt8)⟩), (.string ⟨List.toArray ([] : List UInt8)⟩)]) 32 a9 rfl ?_
  obtain ⟨a3, g3, H⟩ := Qa H
  refine iS 2 ?_
  refine cF 35 #[(.tmp 32)] #[52] 33 Tryz.call35 (Z1  2 3 0 ([97, 98] : List UInt8) 0 ([] : List UInt8) ([] : List UInt8) ([] : List UInt8) g2 (Qr hL (SP.keeps a9)) a3 g3) ?_
  rintro e g4 ⟨rfl, d2⟩
  refine ⟨_, rfl, ?_⟩
  have j := SP.call a9 d2
  clear d2
  refine iS 3 ?_
  refine Va (op := .eql) (T := 9) (T' := 9) (x := (.tmp 33)) (y := (.const (.string ⟨List.toArray ([98, 121, 116, 101, 115, 32, 51, 32, 54, 49, 54, 50, 32, 45] : List UInt8)⟩))) (a := a3) (b := ([98, 121, 116, 101, 115, 32, 51, 32, 54, 49, 54, 50, 32, 45] : List UInt8)) (r := (.bool (a3 == ([98, 121, 116, 101, 115, 32, 51, 32, 54, 49, 54, 50, 32, 45] : List UInt8)))) (d := (some 34)) (k := 2) K rfl K K rfl ?_
  refine iR 1 4 [(35, (.bool (a3 == ([98, 121, 116, 101, 115, 32, 51, 32, 54, 49, 54, 50, 32, 45] : List UInt8))))] ?_
  refine In.guard (t := 35) (b := (a3 == ([98, 121, 116, 101, 115, 32, 51, 32, 54, 49, 54, 50, 32, 45] : List UInt8))) K (fun b0 => ?_) (fun b0 => ?_)
  ·have H := ct H b0
   refine iR 3 7 [(36, (.bool z8.2.2.2.2.2.2.2.2)), (37, (.bool z8.2.2.2.2.2.2.2.2)), (38, (.bool z8.2.2.2.2.2.2.2.2))] ?_
   refine In.guard (t := 38) (b := z8.2.2.2.2.2.2.2.2) K (fun b1 => ?_) (fun b1 => ?_)
   ·have H := ct H b1
    refine iS 8 ?_
    refine sL 52 2 c4 0 1 (.agg #[(.int .i64 z8.1), (.int .i64 z8.2.1), (.int .u32 z8.2.2.1), (.string ⟨List.toArray z8.2.2.2.1⟩), (.int .i64 z8.2.2.2.2.1), (.string ⟨List.toArray z8.2.2.2.2.2.1⟩), (.string ⟨List.toArray z8.2.2.2.2.2.2.1⟩), (.string ⟨List.toArray z8.2.2.2.2.2.2.2.1⟩)]) 39 j rfl ?_
    refine iS 9 ?_
    refine sL 52 1 g1 0 0 (.agg #[(.int .i64 2), (.int .i64 3), (.int .u32 0), (.string ⟨List.toArray ([97, 98] : List UInt8)⟩), (.int .i64 0), (.string ⟨List.toArray ([] : List UInt8)⟩), (.string ⟨List.toArray ([] : List UInt8)⟩), (.string ⟨List.toArray ([] : List UInt8)⟩)]) 40 j rfl ?_
    refine iS 10 ?_
    refine R6 (op := .eql) (T := 52) (T' := 52) (x := (.tmp 39)) (y := (.tmp 40)) (vx := (.agg #[(.int .i64 z8.1), (.int .i64 z8.2.1), (.int .u32 z8.2.2.1), (.string ⟨List.toArray z8.2.2.2.1⟩), (.int .i64 z8.2.2.2.2.1), (.string ⟨List.toArray z8.2.2.2.2.2.1⟩), (.string ⟨List.toArray z8.2.2.2.2.2.2.1⟩), (.string ⟨List.toArray z8.2.2.2.2.2.2.2.1⟩)])) (vy := (.agg #[(.int .i64 2), (.int .i64 3), (.int .u32 0), (.string ⟨List.toArray ([97, 98] : List UInt8)⟩), (.int .i64 0), (.string ⟨List.toArray ([] : List UInt8)⟩), (.string ⟨List.toArray ([] : List UInt8)⟩), (.string ⟨List.toArray ([] : List UInt8)⟩)])) (v := (.bool ((z8.1 == 2) && ((z8.2.1 == 3) && ((z8.2.2.1 == 0) && ((z8.2.2.2.1 == ([97, 98] : List UInt8)) && ((z8.2.2.2.2.1 == 0) && ((z8.2.2.2.2.2.1 == ([] : List UInt8)) && ((z8.2.2.2.2.2.2.1 == ([] : List UInt8)) && (z8.2.2.2.2.2.2.2.1 == ([] : List UInt8))))))))))) (d := (some 41)) (k := 9) K rfl K K (by clear H; intro w; simp only [Ny]; go_simp; simp only [Gg, U2, G5, Ny, Bool.and_true] <;> simp only [Bool.not_and]) ?_
    refine iR 2 12 [(42, (.bool ((z8.1 == 2) && ((z8.2.1 == 3) && ((z8.2.2.1 == 0) && ((z8.2.2.2.1 == ([97, 98] : List UInt8)) && ((z8.2.2.2.2.1 == 0) && ((z8.2.2.2.2.2.1 == ([] : List UInt8)) && ((z8.2.2.2.2.2.2.1 == ([] : List UInt8)) && (z8.2.2.2.2.2.2.2.1 == ([] : List UInt8))))))))))), (43, (.bool ((z8.1 == 2) && ((z8.2.1 == 3) && ((z8.2.2.1 == 0) && ((z8.2.2.2.1 == ([97, 98] : List UInt8)) && ((z8.2.2.2.2.1 == 0) && ((z8.2.2.2.2.2.1 == ([] : List UInt8)) && ((z8.2.2.2.2.2.2.1 == ([] : List UInt8)) && (z8.2.2.2.2.2.2.2.1 == ([] : List UInt8)))))))))))] ?_
    refine In.guard (t := 43) (b := ((z8.1 == 2) && ((z8.2.1 == 3) && ((z8.2.2.1 == 0) && ((z8.2.2.2.1 == ([97, 98] : List UInt8)) && ((z8.2.2.2.2.1 == 0) && ((z8.2.2.2.2.2.1 == ([] : List UInt8)) && ((z8.2.2.2.2.2.2.1 == ([] : List UInt8)) && (z8.2.2.2.2.2.2.2.1 == ([] : List UInt8)))))))))) K (fun b2 => ?_) (fun b2 => ?_)
    ·have H := ct H b2
     refine iR 4 16 [(44, (.bool c.2.2.2.2.2.2.2.2)), (45, (.bool (!c.2.2.2.2.2.2.2.2))), (46, (.bool (!c.2.2.2.2.2.2.2.2))), (47, (.bool (!c.2.2.2.2.2.2.2.2)))] ?_
     refine In.guard (t := 47) (b := (!c.2.2.2.2.2.2.2.2)) K (fun b3 => ?_) (fun b3 => ?_)
     ·have H := ct H b3
      refine iS 17 ?_
      refine sL 55 6 a8 0 4 (.agg #[(.int .i64 0), (.int .i64 2), (.int .i64 0), (.slice (some ⟨m, 0, none⟩) (List.length ([(1, ([97] : List UInt8), true, false), (3, ([] : List UInt8), false, true)] : List (Int × (List UInt8) × Bool × Bool))) (List.length ([(1, ([97] : List UInt8), true, false), (3, ([] : List UInt8), false, true)] : List (Int × (List UInt8) × Bool × Bool))))]) 48 j rfl ?_
      obtain ⟨u, g5, H⟩ := Qa H
      refine iS 18 ?_
      refine cF 37 #[(.tmp 48)] #[55] 49 Tryz.call37 (Ui (some ⟨m, 0, none⟩) (List.length ([(1, ([97] : List UInt8), true, false), (3, ([] : List UInt8), false, true)] : List (Int × (List UInt8) × Bool × Bool))) 0 2 0 ([(1, ([97] : List UInt8), true, false), (3, ([] : List UInt8), false, true)] : List (Int × (List UInt8) × Bool × Bool)) g4 (Qr hL (SP.keeps j)) (Vi (SP.get j (i := 3) rfl)) u g5) ?_
      rintro e g6 ⟨rfl, d3⟩
      refine ⟨_, rfl, ?_⟩
      have o := SP.call j d3
      clear d3
      refine iS 19 ?_
      refine Va (op := .eql) (T := 9) (T' := 9) (x := (.tmp 49)) (y := (.const (.string ⟨List.toArray ([111, 107, 32, 50, 32, 48, 32, 49, 61, 54, 49, 43, 32, 51, 61, 45, 33] : List UInt8)⟩))) (a := u) (b := ([111, 107, 32, 50, 32, 48, 32, 49, 61, 54, 49, 43, 32, 51, 61, 45, 33] : List UInt8)) (r := (.bool (u == ([111, 107, 32, 50, 32, 48, 32, 49, 61, 54, 49, 43, 32, 51, 61, 45, 33] : List UInt8)))) (d := (some 50)) (k := 18) K rfl K K rfl ?_
      refine iR 2 21 [(51, (.bool (u == ([111, 107, 32, 50, 32, 48, 32, 49, 61, 54, 49, 43, 32, 51, 61, 45, 33] : List UInt8)))), (52, (.bool (u == ([111, 107, 32, 50, 32, 48, 32, 49, 61, 54, 49, 43, 32, 51, 61, 45, 33] : List UInt8))))] ?_
      refine In.guard (t := 52) (b := (u == ([111, 107, 32, 50, 32, 48, 32, 49, 61, 54, 49, 43, 32, 51, 61, 45, 33] : List UInt8))) K (fun b4 => ?_) (fun b4 => ?_)
      ·have H := ct H b4
       refine iR 3 24 [(53, (.bool f.2.2.2.2)), (54, (.bool f.2.2.2.2)), (55, (.bool f.2.2.2.2))] ?_
       refine In.guard (t := 55) (b := f.2.2.2.2) K (fun b5 => ?_) (fun b5 => ?_)
       ·have H := ct H b5
        refine iS 25 ?_
        refine sL 55 7 c9 0 6 (.agg #[(.int .i64 f.1), (.int .i64 f.2.1), (.int .i64 f.2.2.1), (.slice p (List.length f.2.2.2.1) q)]) 56 o rfl ?_
        refine iS 26 ?_
        refine sL 55 6 a8 0 4 (.agg #[(.int .i64 0), (.int .i64 2), (.int .i64 0), (.slice (some ⟨m, 0, none⟩) (List.length ([(1, ([97] : List UInt8), true, false), (3, ([] : List UInt8), false, true)] : List (Int × (List UInt8) × Bool × Bool))) (List.length ([(1, ([97] : List UInt8), true, false), (3, ([] : List UInt8), false, true)] : List (Int × (List UInt8) × Bool × Bool))))]) 57 o rfl ?_
        obtain ⟨a6, g7, H⟩ := Qa H
        refine iS 27 ?_
        refine cF 39 #[(.tmp 56), (.tmp 57)] #[55, 55] 58 Tryz.call39 (Ua p q (some ⟨m, 0, none⟩) (List.length ([(1, ([97] : List UInt8), true, false), (3, ([] : List UInt8), false, true)] : List (Int × (List UInt8) × Bool × Bool))) f.1 f.2.1 f.2.2.1 f.2.2.2.1 0 2 0 ([(1, ([97] : List UInt8), true, false), (3, ([] : List UInt8), false, true)] : List (Int × (List UInt8) × Bool × Bool)) g6 (Vi (SP.get o (i := 5) rfl)) (Vi (SP.get o (i := 3) rfl)) a6 g7) ?_
        rintro e d4 ⟨rfl, d5⟩
        refine ⟨_, rfl, ?_⟩
        have a7 := SP.call o d5
        clear d5
        refine iR 2 29 [(59, (.bool a6)), (60, (.bool a6))] ?_
        refine In.guard (t := 60) (b := a6) K (fun b6 => ?_) (fun b6 => ?_)
        ·have H := ct H b6
         refine iR 4 33 [(61, (.bool h.2.2.2.2)), (62, (.bool (!h.2.2.2.2))), (63, (.bool (!h.2.2.2.2))), (64, (.bool (!h.2.2.2.2)))] ?_
         refine In.guard (t := 64) (b := (!h.2.2.2.2)) K (fun b7 => ?_) (fun b7 => ?_)
         ·have H := ct H b7
          refine iR 1 34 [(65, (.agg #[(.int .i64 3), (.int .i64 0), (.int .i64 0), (.slice none (List.length ([] : List (Int × (List UInt8) × Bool × Bool))) 0)]))] ?_
          obtain ⟨a0, g8, H⟩ := Qa H
          refine iS 35 ?_
          refine cF 37 #[(.tmp 65)] #[55] 66 Tryz.call37 (Ui none 0 3 0 0 ([] : List (Int × (List UInt8) × Bool × Bool)) d4 (Qr hL (SP.keeps a7)) (RdT.nil (Qd (Zd .i64) (Qd Qg (Qd Vp Vp))) d4) a0 g8) ?_
          rintro e g9 ⟨rfl, d6⟩
          refine ⟨_, rfl, ?_⟩
          have b8 := SP.call a7 d6
          clear d6
          refine iS 36 ?_
          refine Va (op := .eql) (T := 9) (T' := 9) (x := (.tmp 66)) (y := (.const (.string ⟨List.toArray ([101, 114, 114, 32, 51] : List UInt8)⟩))) (a := a0) (b := ([101, 114, 114, 32, 51] : List UInt8)) (r := (.bool (a0 == ([101, 114, 114, 32, 51] : List UInt8)))) (d := (some 67)) (k := 35) K rfl K K rfl ?_
          refine iR 2 38 [(68, (.bool (a0 == ([101, 114, 114, 32, 51] : List UInt8)))), (69, (.bool (a0 == ([101, 114, 114, 32, 51] : List UInt8))))] ?_
          refine In.guard (t := 69) (b := (a0 == ([101, 114, 114, 32, 51] : List UInt8))) K (fun b9 => ?_) (fun b9 => ?_)
          ·have H := ct H b9
           refine iR 1 39 [(70, (.agg #[(.int .i64 0), (.int .i64 0), (.int .u32 0), (.string ⟨List.toArray ([] : List UInt8)⟩), (.int .i64 0), (.string ⟨List.toArray ([] : List UInt8)⟩), (.string ⟨List.toArray ([] : List UInt8)⟩), (.string ⟨List.toArray ([] : List UInt8)⟩)]))] ?_
           obtain ⟨a1, h1, H⟩ := Qa H
           refine iS 40 ?_
           refine cF 35 #[(.tmp 70)] #[52] 71 Tryz.call35 (Z1  0 0 0 ([] : List UInt8) 0 ([] : List UInt8) ([] : List UInt8) ([] : List UInt8) g9 (Qr hL (SP.keeps b8)) a1 h1) ?_
           rintro e h2 ⟨rfl, d7⟩
           refine ⟨_, rfl, ?_⟩
           have c0 := SP.call b8 d7
           clear d7
           refine iS 41 ?_
           refine Va (op := .eql) (T := 9) (T' := 9) (x := (.tmp 71)) (y := (.const (.string ⟨List.toArray ([] : List UInt8)⟩))) (a := a1) (b := ([] : List UInt8)) (r := (.bool (a1 == ([] : List UInt8)))) (d := (some 72)) (k := 40) K rfl K K rfl ?_
           refine iR 2 43 [(73, (.bool (a1 == ([] : List UInt8)))), (74, (.bool (a1 == ([] : List UInt8))))] ?_
           refine In.guard (t := 74) (b := (a1 == ([] : List UInt8))) K (fun c1 => ?_) (fun c1 => ?_)
           ·have H := ct H c1
            refine iR 1 44 [(75, (.agg #[(.int .i64 9), (.int .i64 0), (.int .u32 0), (.string ⟨List.toArray ([] : List UInt8)⟩), (.int .i64 0), (.string ⟨List.toArray ([] : List UInt8)⟩), (.string ⟨List.toArray ([] : List UInt8)⟩), (.string ⟨List.toArray ([] : List UInt8)⟩)]))] ?_
            obtain ⟨a2, h3, H⟩ := Qa H
            refine iS 45 ?_
            refine cF 35 #[(.tmp 75)] #[52] 76 Tryz.call35 (Z1  9 0 0 ([] : List UInt8) 0 ([] : List UInt8) ([] : List UInt8) ([] : List UInt8) h2 (Qr hL (SP.keeps c0)) a2 h3) ?_
            rintro e i7 ⟨rfl, d8⟩
            refine ⟨_, rfl, ?_⟩
            have h4 := SP.call c0 d8
            clear d8
            refine iS 46 ?_
            refine Va (op := .eql) (T := 9) (T' := 9) (x := (.tmp 76)) (y := (.const (.string ⟨List.toArray ([100, 114, 97, 105, 110] : List UInt8)⟩))) (a := a2) (b := ([100, 114, 97, 105, 110] : List UInt8)) (r := (.bool (a2 == ([100, 114, 97, 105, 110] : List UInt8)))) (d := (some 77)) (k := 45) K rfl K K rfl ?_
            refine iR 2 48 [(78, (.bool (a2 == ([100, 114, 97, 105, 110] : List UInt8)))), (0, (.bool (a2 == ([100, 114, 97, 105, 110] : List UInt8))))] ?_
            refine iF ?_
            exact ⟨(a2 == ([100, 114, 97, 105, 110] : List UInt8)), ⟨K, trivial⟩, SP.sel h4 [] rfl rfl, H⟩
           ·have H := cf H c1
            refine iR 5 48 [(75, undef), (76, undef), (77, undef), (78, (.bool false)), (0, (.bool false))] ?_
            refine iF ?_
            exact ⟨false, ⟨K, trivial⟩, SP.sel c0 [] rfl rfl, H⟩
          ·have H := cf H b9
           refine iR 10 48 [(70, undef), (71, undef), (72, undef), (73, (.bool false)), (74, (.bool false)), (75, undef), (76, undef), (77, undef), (78, (.bool false)), (0, (.bool false))] ?_
           refine iF ?_
           exact ⟨false, ⟨K, trivial⟩, SP.sel b8 [] rfl rfl, H⟩
         ·have H := cf H b7
          refine iR 15 48 [(65, undef), (66, undef), (67, undef), (68, (.bool false)), (69, (.bool false)), (70, undef), (71, undef), (72, undef), (73, (.bool false)), (74, (.bool false)), (75, undef), (76, undef), (77, undef), (78, (.bool false)), (0, (.bool false))] ?_
          refine iF ?_
          exact ⟨false, ⟨K, trivial⟩, SP.sel a7 [] rfl rfl, H⟩
        ·have H := cf H b6
         refine iR 19 48 [(61, undef), (62, undef), (63, (.bool false)), (64, (.bool false)), (65, undef), (66, undef), (67, undef), (68, (.bool false)), (69, (.bool false)), (70, undef), (71, undef), (72, undef), (73, (.bool false)), (74, (.bool false)), (75, undef), (76, undef), (77, undef), (78, (.bool false)), (0, (.bool false))] ?_
         refine iF ?_
         exact ⟨false, ⟨K, trivial⟩, SP.sel a7 [] rfl rfl, H⟩
       ·have H := cf H b5
        refine iR 24 48 [(56, undef), (57, undef), (58, undef), (59, (.bool false)), (60, (.bool false)), (61, undef), (62, undef), (63, (.bool false)), (64, (.bool false)), (65, undef), (66, undef), (67, undef), (68, (.bool false)), (69, (.bool false)), (70, undef), (71, undef), (72, undef), (73, (.bool false)), (74, (.bool false)), (75, undef), (76, undef), (77, undef), (78, (.bool false)), (0, (.bool false))] ?_
        refine iF ?_
        exact ⟨false, ⟨K, trivial⟩, SP.sel o [] rfl rfl, H⟩
      ·have H := cf H b4
       refine iR 27 48 [(53, undef), (54, (.bool false)), (55, (.bool false)), (56, undef), (57, undef), (58, undef), (59, (.bool false)), (60, (.bool false)), (61, undef), (62, undef), (63, (.bool false)), (64, (.bool false)), (65, undef), (66, undef), (67, undef), (68, (.bool false)), (69, (.bool false)), (70, undef), (71, undef), (72, undef), (73, (.bool false)), (74, (.bool false)), (75, undef), (76, undef), (77, undef), (78, (.bool false)), (0, (.bool false))] ?_
       refine iF ?_
       exact ⟨false, ⟨K, trivial⟩, SP.sel o [] rfl rfl, H⟩
     ·have H := cf H b3
      refine iR 32 48 [(48, undef), (49, undef), (50, undef), (51, (.bool false)), (52, (.bool false)), (53, undef), (54, (.bool false)), (55, (.bool false)), (56, undef), (57, undef), (58, undef), (59, (.bool false)), (60, (.bool false)), (61, undef), (62, undef), (63, (.bool false)), (64, (.bool false)), (65, undef), (66, undef), (67, undef), (68, (.bool false)), (69, (.bool false)), (70, undef), (71, undef), (72, undef), (73, (.bool false)), (74, (.bool false)), (75, undef), (76, undef), (77, undef), (78, (.bool false)), (0, (.bool false))] ?_
      refine iF ?_
      exact ⟨false, ⟨K, trivial⟩, SP.sel j [] rfl rfl, H⟩
    ·have H := cf H b2
     refine iR 36 48 [(44, undef), (45, undef), (46, (.bool false)), (47, (.bool false)), (48, undef), (49, undef), (50, undef), (51, (.bool false)), (52, (.bool false)), (53, undef), (54, (.bool false)), (55, (.bool false)), (56, undef), (57, undef), (58, undef), (59, (.bool false)), (60, (.bool false)), (61, undef), (62, undef), (63, (.bool false)), (64, (.bool false)), (65, undef), (66, undef), (67, undef), (68, (.bool false)), (69, (.bool false)), (70, undef), (71, undef), (72, undef), (73, (.bool false)), (74, (.bool false)), (75, undef), (76, undef), (77, undef), (78, (.bool false)), (0, (.bool false))] ?_
     refine iF ?_
     exact ⟨false, ⟨K, trivial⟩, SP.sel j [] rfl rfl, H⟩
   ·have H := cf H b1
    refine iR 41 48 [(39, undef), (40, undef), (41, undef), (42, (.bool false)), (43, (.bool false)), (44, undef), (45, undef), (46, (.bool false)), (47, (.bool false)), (48, undef), (49, undef), (50, undef), (51, (.bool false)), (52, (.bool false)), (53, undef), (54, (.bool false)), (55, (.bool false)), (56, undef), (57, undef), (58, undef), (59, (.bool false)), (60, (.bool false)), (61, undef), (62, undef), (63, (.bool false)), (64, (.bool false)), (65, undef), (66, undef), (67, undef), (68, (.bool false)), (69, (.bool false)), (70, undef), (71, undef), (72, undef), (73, (.bool false)), (74, (.bool false)), (75, undef), (76, undef), (77, undef), (78, (.bool false)), (0, (.bool false))] ?_
    refine iF ?_
    exact ⟨false, ⟨K, trivial⟩, SP.sel j [] rfl rfl, H⟩
  ·have H := cf H b0
   refine iR 44 48 [(36, undef), (37, (.bool false)), (38, (.bool false)), (39, undef), (40, undef), (41, undef), (42, (.bool false)), (43, (.bool false)), (44, undef), (45, undef), (46, (.bool false)), (47, (.bool false)), (48, undef), (49, undef), (50, undef), (51, (.bool false)), (52, (.bool false)), (53, undef), (54, (.bool false)), (55, (.bool false)), (56, undef), (57, undef), (58, undef), (59, (.bool false)), (60, (.bool false)), (61, undef), (62, undef), (63, (.bool false)), (64, (.bool false)), (65, undef), (66, undef), (67, undef), (68, (.bool false)), (69, (.bool false)), (70, undef), (71, undef), (72, undef), (73, (.bool false)), (74, (.bool false)), (75, undef), (76, undef), (77, undef), (78, (.bool false)), (0, (.bool false))] ?_
   refine iF ?_
   exact ⟨false, ⟨K, trivial⟩, SP.sel j [] rfl rfl, H⟩
 ·rintro ρ i8 ⟨s, hk, h5, H⟩
  unfold Qm at H
  first | refine At.known [(0, (.bool s))] hk ?_ | rw [← Qq (l := [(0, (.bool s))]) hk]
  refine At.ret K ?_
  refine ⟨(.bool s), K, ?_⟩
  obtain rfl := Qc H
  exact ⟨rfl, SP.sel h5 [] rfl rfl⟩
end Go.Proofs.YtoflbpmbkmephaaGreatDoor
namespace Go.Proofs.YtoflbpmbkmephaaGreatDoor
open Go.RowKit
def Qx (d : Int → Option (Bool)) (e : Int → Option (Bool)) (p1 : Int) (p2 : (List UInt8)) (p3 : (List UInt8)) (p4 : Int) (p5 : Int) (c : Int) (f : ((List UInt8))) (b : Int) : Option (Bool) :=
  (cond (decide (b < c)) ((idx ([(1, 0, p1, ([] : List UInt8), 0, ([] : List UInt8), ([] : List UInt8), p3), (2, (IntKind.wrap .i64 p4), 0, p2, 0, ([] : List UInt8), ([] : List UInt8), p3), (3, (IntKind.wrap .i64 p4), 0, ([] : List UInt8), (IntKind.wrap .i64 p5), ([] : List UInt8), ([] : List UInt8), ([] : List UInt8)), (4, (IntKind.wrap .i64 p4), 0, ([] : List UInt8), 0, ([] : List UInt8), ([] : List UInt8), p3), (5, (IntKind.wrap .i64 p4), 0, ([] : List UInt8), 0, ([] : List UInt8), ([] : List UInt8), ([] : List UInt8)), (6, 0, 0, ([] : List UInt8), (IntKind.wrap .i64 p5), ([] : List UInt8), ([] : List UInt8), ([] : List UInt8))] : List (Int × Int × Int × (List UInt8) × Int × (List UInt8) × (List UInt8) × (List UInt8))) b).bind fun a => ((Zf a.1 a.2.1 a.2.2.1 a.2.2.2.1 a.2.2.2.2.1 a.2.2.2.2.2.1 a.2.2.2.2.2.2.1 a.2.2.2.2.2.2.2).bind fun g => (cond (g == f) (some (false)) (e (IntKind.wrap .i64 (b + 1)))))) (d (IntKind.wrap .i64 (c + 1))))
def Qp (a : Int → Option (Bool)) (p1 : Int) (p2 : (List UInt8)) (p3 : (List UInt8)) (p4 : Int) (p5 : Int) (b : Int) (c : ((List UInt8))) : Nat → Int → Option (Bool)
  | 0, _ => none
  | f + 1, d => Qx a (Qp a p1 p2 p3 p4 p5 b c f) p1 p2 p3 p4 p5 b c d
def Q8 (a : Int → Option (Bool)) (p1 : Int) (p2 : (List UInt8)) (p3 : (List UInt8)) (p4 : Int) (p5 : Int) (b : Int) (c : ((List UInt8))) (d : Bool) : Option (Bool) :=
  (cond d (some (false)) (Qp a p1 p2 p3 p4 p5 b c J4 0))
def Qy (f : Int → Option (Bool)) (p1 : Int) (p2 : (List UInt8)) (p3 : (List UInt8)) (p4 : Int) (p5 : Int) (z6 : (Bool)) (d : Int) : Option (Bool) :=
  (cond (decide (d < ((List.length ([(1, 0, p1, ([] : List UInt8), 0, ([] : List UInt8), ([] : List UInt8), p3), (2, (IntKind.wrap .i64 p4), 0, p2, 0, ([] : List UInt8), ([] : List UInt8), p3), (3, (IntKind.wrap .i64 p4), 0, ([] : List UInt8), (IntKind.wrap .i64 p5), ([] : List UInt8), ([] : List UInt8), ([] : List UInt8)), (4, (IntKind.wrap .i64 p4), 0, ([] : List UInt8), 0, ([] : List UInt8), ([] : List UInt8), p3), (5, (IntKind.wrap .i64 p4), 0, ([] : List UInt8), 0, ([] : List UInt8), ([] : List UInt8), ([] : List UInt8)), (6, 0, 0, ([] : List UInt8), (IntKind.wrap .i64 p5), ([] : List UInt8), ([] : List UInt8), ([] : List UInt8))] : List (Int × Int × Int × (List UInt8) × Int × (List UInt8) × (List UInt8) × (List UInt8))) : Nat) : Int))) ((idx ([(1, 0, p1, ([] : List UInt8), 0, ([] : List UInt8), ([] : List UInt8), p3), (2, (IntKind.wrap .i64 p4), 0, p2, 0, ([] : List UInt8), ([] : List UInt8), p3), (3, (IntKind.wrap .i64 p4), 0, ([] : List UInt8), (IntKind.wrap .i64 p5), ([] : List UInt8), ([] : List UInt8), ([] : List UInt8)), (4, (IntKind.wrap .i64 p4), 0, ([] : List UInt8), 0, ([] : List UInt8), ([] : List UInt8), p3), (5, (IntKind.wrap .i64 p4), 0, ([] : List UInt8), 0, ([] : List UInt8), ([] : List UInt8), ([] : List UInt8)), (6, 0, 0, ([] : List UInt8), (IntKind.wrap .i64 p5), ([] : List UInt8), ([] : List UInt8), ([] : List UInt8))] : List (Int × Int × Int × (List UInt8) × Int × (List UInt8) × (List UInt8) × (List UInt8))) d).bind fun b => ((Zf b.1 b.2.1 b.2.2.1 b.2.2.2.1 b.2.2.2.2.1 b.2.2.2.2.2.1 b.2.2.2.2.2.2.1 b.2.2.2.2.2.2.2).bind fun e => ((Zh e).bind fun a => (cond (e == ([] : List UInt8)) (Q8 f p1 p2 p3 p4 p5 d e true) (cond (!a.2.2.2.2.2.2.2.2) (Q8 f p1 p2 p3 p4 p5 d e true) ((idx ([(1, 0, p1, ([] : List UInt8), 0, ([] : List UInt8), ([] : List UInt8), p3), (2, (IntKind.wrap .i64 p4), 0, p2, 0, ([] : List UInt8), ([] : List UInt8), p3), (3, (IntKind.wrap .i64 p4), 0, ([] : List UInt8), (IntKind.wrap .i64 p5), ([] : List UInt8), ([] : List UInt8), ([] : List UInt8)), (4, (IntKind.wrap .i64 p4), 0, ([] : List UInt8), 0, ([] : List UInt8), ([] : List UInt8), p3), (5, (IntKind.wrap .i64 p4), 0, ([] : List UInt8), 0, ([] : List UInt8), ([] : List UInt8), ([] : List UInt8)), (6, 0, 0, ([] : List UInt8), (IntKind.wrap .i64 p5), ([] : List UInt8), ([] : List UInt8), ([] : List UInt8))] : List (Int × Int × Int × (List UInt8) × Int × (List UInt8) × (List UInt8) × (List UInt8))) d).bind fun c => (Q8 f p1 p2 p3 p4 p5 d e (!((a.1 == c.1) && ((a.2.1 == c.2.1) && ((a.2.2.1 == c.2.2.1) && ((a.2.2.2.1 == c.2.2.2.1) && ((a.2.2.2.2.1 == c.2.2.2.2.1) && ((a.2.2.2.2.2.1 == c.2.2.2.2.2.1) && ((a.2.2.2.2.2.2.1 == c.2.2.2.2.2.2.1) && (a.2.2.2.2.2.2.2.1 == c.2.2.2.2.2.2.2)))))))))))))))) (some (z6)))
def Qi (p1 : Int) (p2 : (List UInt8)) (p3 : (List UInt8)) (p4 : Int) (p5 : Int) (z6 : (Bool)) : Nat → Int → Option (Bool)
  | 0, _ => none
  | f + 1, a => Qy  (Qi p1 p2 p3 p4 p5 z6 f) p1 p2 p3 p4 p5 z6 a
def V4 (p1 : Int) (p2 : (List UInt8)) (p3 : (List UInt8)) (p4 : Int) (p5 : Int) : Option (Bool) :=
  ((Yg ).bind fun z6 => (cond (decide ((IntKind.wrap .i64 (((List.length p2 : Nat) : Int) + ((List.length p3 : Nat) : Int))) > 9000)) (some (z6)) (Qi p1 p2 p3 p4 p5 z6 J4 0)))
set_option maxHeartbeats 40000000 in
theorem Js  (p1 : Int) (p2 : (List UInt8)) (p3 : (List UInt8)) (p4 : Int) (p5 : Int) (w0 : World) (hL : Yr w0)  (r : (Bool)) (H : V4 p1 p2 p3 p4 p5 = some r) :
  Calls Tryz.prog 13 #[(.int .u32 p1), (.string ⟨List.toArray p2⟩), (.string ⟨List.toArray p3⟩), (.int .u32 p4), (.int .u32 p5)] w0 (fun e w' => e = .returned (.bool r) ∧ SP [] w0 w' []) := by
 unfold V4 at H
 refine Qj (n := 93) Tryz.func13 K K K ?_
 have b6 := Q7 [] w0
 refine aQ ?_
 refine aR ?_
 refine iR 1 1 [(10, (.bool false))] ?_
 refine iF ?_
 refine aQ ?_
 refine aR ?_
 obtain ⟨z6, d6, H⟩ := Qa H
 refine iS 1 ?_
 refine cF 28 #[] #[] 18 Tryz.call28 (Nc   w0 (Qr hL (SP.keeps b6)) z6 d6) ?_
 rintro e w8 ⟨rfl, b7⟩
 refine ⟨_, rfl, ?_⟩
 have b8 := SP.call b6 b7
 clear b7
 refine iR 1 2 [(11, (.bool z6))] ?_
 refine iF ?_
 refine aQ ?_
 refine aQ ?_
 refine aR ?_
 refine iR 6 6 [(19, (.string ⟨List.toArray p2⟩)), (20, (.int .i64 ((List.length p2 : Nat) : Int))), (21, (.string ⟨List.toArray p3⟩)), (22, (.int .i64 ((List.length p3 : Nat) : Int))), (23, (.int .i64 (IntKind.wrap .i64 (((List.length p2 : Nat) : Int) + ((List.length p3 : Nat) : Int))))), (24, (.bool (decide ((IntKind.wrap .i64 (((List.length p2 : Nat) : Int) + ((List.length p3 : Nat) : Int))) > 9000))))] ?_
 refine iF ?_
 refine Z8 K (o := (.tmp 24)) K (b := (decide ((IntKind.wrap .i64 (((List.length p2 : Nat) : Int) + ((List.length p3 : Nat) : Int))) > 9000))) K (fun b0 => ?_) (fun b0 => ?_)
 ·have H := ct H b0
  refine aQ ?_
  refine aR ?_
  refine iR 2 2 [(25, (.bool z6)), (10, (.bool z6))] ?_
  refine iF ?_
  refine At.ret K ?_
  refine ⟨(.bool z6), K, ?_⟩
  obtain rfl := Qc H
  exact ⟨rfl, SP.sel b8 [] rfl rfl⟩
 ·have H := cf H b0
  refine At.skip K ?_
  refine aQ ?_
  refine aR ?_
  refine iR 23 23 [(26, (.int .u32 p1)), (27, (.string ⟨List.toArray p3⟩)), (28, (.agg #[(.int .i64 1), (.int .i64 0), (.int .u32 p1), (.string ⟨List.toArray ([] : List UInt8)⟩), (.int .i64 0), (.string ⟨List.toArray ([] : List UInt8)⟩), (.string ⟨List.toArray ([] : List UInt8)⟩), (.string ⟨List.toArray p3⟩)])), (29, (.int .u32 p4)), (30, (.int .i64 (IntKind.wrap .i64 p4))), (31, (.string ⟨List.toArray p2⟩)), (32, (.string ⟨List.toArray p3⟩)), (33, (.agg #[(.int .i64 2), (.int .i64 (IntKind.wrap .i64 p4)), (.int .u32 0), (.string ⟨List.toArray p2⟩), (.int .i64 0), (.string ⟨List.toArray ([] : List UInt8)⟩), (.string ⟨List.toArray ([] : List UInt8)⟩), (.string ⟨List.toArray p3⟩)])), (34, (.int .u32 p4)), (35, (.int .i64 (IntKind.wrap .i64 p4))), (36, (.int .u32 p5)), (37, (.int .i64 (IntKind.wrap .i64 p5))), (38, (.agg #[(.int .i64 3), (.int .i64 (IntKind.wrap .i64 p4)), (.int .u32 0), (.string ⟨List.toArray ([] : List UInt8)⟩), (.int .i64 (IntKind.wrap .i64 p5)), (.string ⟨List.toArray ([] : List UInt8)⟩), (.string ⟨List.toArray ([] : List UInt8)⟩), (.string ⟨List.toArray ([] : List UInt8)⟩)])), (39, (.int .u32 p4)), (40, (.int .i64 (IntKind.wrap .i64 p4))), (41, (.string ⟨List.toArray p3⟩)), (42, (.agg #[(.int .i64 4), (.int .i64 (IntKind.wrap .i64 p4)), (.int .u32 0), (.string ⟨List.toArray ([] : List UInt8)⟩), (.int .i64 0), (.string ⟨List.toArray ([] : List UInt8)⟩), (.string ⟨List.toArray ([] : List UInt8)⟩), (.string ⟨List.toArray p3⟩)])), (43, (.int .u32 p4)), (44, (.int .i64 (IntKind.wrap .i64 p4))), (45, (.agg #[(.int .i64 5), (.int .i64 (IntKind.wrap .i64 p4)), (.int .u32 0), (.string ⟨List.toArray ([] : List UInt8)⟩), (.int .i64 0), (.string ⟨List.toArray ([] : List UInt8)⟩), (.string ⟨List.toArray ([] : List UInt8)⟩), (.string ⟨List.toArray ([] : List UInt8)⟩)])), (46, (.int .u32 p5)), (47, (.int .i64 (IntKind.wrap .i64 p5))), (48, (.agg #[(.int .i64 6), (.int .i64 0), (.int .u32 0), (.string ⟨List.toArray ([] : List UInt8)⟩), (.int .i64 (IntKind.wrap .i64 p5)), (.string ⟨List.toArray ([] : List UInt8)⟩), (.string ⟨List.toArray ([] : List UInt8)⟩), (.string ⟨List.toArray ([] : List UInt8)⟩)]))] ?_
  refine iS 24 ?_
  refine Vb (e := (Qd (Zd .i64) (Qd (Zd .i64) (Qd (Zd .u32) (Qd Qg (Qd (Zd .i64) (Qd Qg (Qd Qg Qg)))))))) (T := 68) (E := 52) (len := 6) (parts := #[(0, (.tmp 28)), (1, (.tmp 33)), (2, (.tmp 38)), (3, (.tmp 42)), (4, (.tmp 45)), (5, (.tmp 48))]) (cs := #[(.int .i64 1), (.int .i64 0), (.int .u32 p1), (.string ⟨List.toArray ([] : List UInt8)⟩), (.int .i64 0), (.string ⟨List.toArray ([] : List UInt8)⟩), (.string ⟨List.toArray ([] : List UInt8)⟩), (.string ⟨List.toArray p3⟩), (.int .i64 2), (.int .i64 (IntKind.wrap .i64 p4)), (.int .u32 0), (.string ⟨List.toArray p2⟩), (.int .i64 0), (.string ⟨List.toArray ([] : List UInt8)⟩), (.string ⟨List.toArray ([] : List UInt8)⟩), (.string ⟨List.toArray p3⟩), (.int .i64 3), (.int .i64 (IntKind.wrap .i64 p4)), (.int .u32 0), (.string ⟨List.toArray ([] : List UInt8)⟩), (.int .i64 (IntKind.wrap .i64 p5)), (.string ⟨List.toArray ([] : List UInt8)⟩), (.string ⟨List.toArray ([] : List UInt8)⟩), (.string ⟨List.toArray ([] : List UInt8)⟩), (.int .i64 4), (.int .i64 (IntKind.wrap .i64 p4)), (.int .u32 0), (.string ⟨List.toArray ([] : List UInt8)⟩), (.int .i64 0), (.string ⟨List.toArray ([] : List UInt8)⟩), (.string ⟨List.toArray ([] : List UInt8)⟩), (.string ⟨List.toArray p3⟩), (.int .i64 5), (.int .i64 (IntKind.wrap .i64 p4)), (.int .u32 0), (.string ⟨List.toArray ([] : List UInt8)⟩), (.int .i64 0), (.string ⟨List.toArray ([] : List UInt8)⟩), (.string ⟨List.toArray ([] : List UInt8)⟩), (.string ⟨List.toArray ([] : List UInt8)⟩), (.int .i64 6), (.int .i64 0), (.int .u32 0), (.string ⟨List.toArray ([] : List UInt8)⟩), (.int .i64 (IntKind.wrap .i64 p5)), (.string ⟨List.toArray ([] : List UInt8)⟩), (.string ⟨List.toArray ([] : List UInt8)⟩), (.string ⟨List.toArray ([] : List UInt8)⟩)]) ([(1, 0, p1, ([] : List UInt8), 0, ([] : List UInt8), ([] : List UInt8), p3), (2, (IntKind.wrap .i64 p4), 0, p2, 0, ([] : List UInt8), ([] : List UInt8), p3), (3, (IntKind.wrap .i64 p4), 0, ([] : List UInt8), (IntKind.wrap .i64 p5), ([] : List UInt8), ([] : List UInt8), ([] : List UInt8)), (4, (IntKind.wrap .i64 p4), 0, ([] : List UInt8), 0, ([] : List UInt8), ([] : List UInt8), p3), (5, (IntKind.wrap .i64 p4), 0, ([] : List UInt8), 0, ([] : List UInt8), ([] : List UInt8), ([] : List UInt8)), (6, 0, 0, ([] : List UInt8), (IntKind.wrap .i64 p5), ([] : List UInt8), ([] : List UInt8), ([] : List UInt8))] : List (Int × Int × Int × (List UInt8) × Int × (List UInt8) × (List UInt8) × (List UInt8))) (d := (some 49)) (k := 23) K rfl (fun _ => K) b8 rfl rfl rfl rfl ?_
  intro p h4 d7
  refine iR 1 25 [(12, (.slice (some ⟨p, 0, none⟩) (List.length ([(1, 0, p1, ([] : List UInt8), 0, ([] : List UInt8), ([] : List UInt8), p3), (2, (IntKind.wrap .i64 p4), 0, p2, 0, ([] : List UInt8), ([] : List UInt8), p3), (3, (IntKind.wrap .i64 p4), 0, ([] : List UInt8), (IntKind.wrap .i64 p5), ([] : List UInt8), ([] : List UInt8), ([] : List UInt8)), (4, (IntKind.wrap .i64 p4), 0, ([] : List UInt8), 0, ([] : List UInt8), ([] : List UInt8), p3), (5, (IntKind.wrap .i64 p4), 0, ([] : List UInt8), 0, ([] : List UInt8), ([] : List UInt8), ([] : List UInt8)), (6, 0, 0, ([] : List UInt8), (IntKind.wrap .i64 p5), ([] : List UInt8), ([] : List UInt8), ([] : List UInt8))] : List (Int × Int × Int × (List UInt8) × Int × (List UInt8) × (List UInt8) × (List UInt8)))) (List.length ([(1, 0, p1, ([] : List UInt8), 0, ([] : List UInt8), ([] : List UInt8), p3), (2, (IntKind.wrap .i64 p4), 0, p2, 0, ([] : List UInt8), ([] : List UInt8), p3), (3, (IntKind.wrap .i64 p4), 0, ([] : List UInt8), (IntKind.wrap .i64 p5), ([] : List UInt8), ([] : List UInt8), ([] : List UInt8)), (4, (IntKind.wrap .i64 p4), 0, ([] : List UInt8), 0, ([] : List UInt8), ([] : List UInt8), p3), (5, (IntKind.wrap .i64 p4), 0, ([] : List UInt8), 0, ([] : List UInt8), ([] : List UInt8), ([] : List UInt8)), (6, 0, 0, ([] : List UInt8), (IntKind.wrap .i64 p5), ([] : List UInt8), ([] : List UInt8), ([] : List UInt8))] : List (Int × Int × Int × (List UInt8) × Int × (List UInt8) × (List UInt8) × (List UInt8))))))] ?_
  refine iF ?_
  refine aQ ?_
  refine aQ ?_
  refine aR ?_
  refine iR 1 1 [(13, (.int .i64 0))] ?_
  refine iF ?_
  refine J3 K (id := 0) K ?_
  refine De K (fun f5 ρ w => ∃ (m : Int), V5 ρ [(11, (.bool z6)), (12, (.slice (some ⟨p, 0, none⟩) (List.length ([(1, 0, p1, ([] : List UInt8), 0, ([] : List UInt8), ([] : List UInt8), p3), (2, (IntKind.wrap .i64 p4), 0, p2, 0, ([] : List UInt8), ([] : List UInt8), p3), (3, (IntKind.wrap .i64 p4), 0, ([] : List UInt8), (IntKind.wrap .i64 p5), ([] : List UInt8), ([] : List UInt8), ([] : List UInt8)), (4, (IntKind.wrap .i64 p4), 0, ([] : List UInt8), 0, ([] : List UInt8), ([] : List UInt8), p3), (5, (IntKind.wrap .i64 p4), 0, ([] : List UInt8), 0, ([] : List UInt8), ([] : List UInt8), ([] : List UInt8)), (6, 0, 0, ([] : List UInt8), (IntKind.wrap .i64 p5), ([] : List UInt8), ([] : List UInt8), ([] : List UInt8))] : List (Int × Int × Int × (List UInt8) × Int × (List UInt8) × (List UInt8) × (List UInt8)))) (List.length ([(1, 0, p1, ([] : List UInt8), 0, ([] : List UInt8), ([] : List UInt8), p3), (2, (IntKind.wrap .i64 p4), 0, p2, 0, ([] : List UInt8), ([] : List UInt8), p3), (3, (IntKind.wrap .i64 p4), 0, ([] : List UInt8), (IntKind.wrap .i64 p5), ([] : List UInt8), ([] : List UInt8), ([] : List UInt8)), (4, (IntKind.wrap .i64 p4), 0, ([] : List UInt8), 0, ([] : List UInt8), ([] : List UInt8), p3), (5, (IntKind.wrap .i64 p4), 0, ([] : List UInt8), 0, ([] : List UInt8), ([] : List UInt8), ([] : List UInt8)), (6, 0, 0, ([] : List UInt8), (IntKind.wrap .i64 p5), ([] : List UInt8), ([] : List UInt8), ([] : List UInt8))] : List (Int × Int × Int × (List UInt8) × Int × (List UInt8) × (List UInt8) × (List UInt8)))))), (13, (.int .i64 m))] ∧ SP [] w0 w [Q6 52 (Qd (Zd .i64) (Qd (Zd .i64) (Qd (Zd .u32) (Qd Qg (Qd (Zd .i64) (Qd Qg (Qd Qg Qg))))))) (some ⟨p, 0, none⟩) (List.length ([(1, 0, p1, ([] : List UInt8), 0, ([] : List UInt8), ([] : List UInt8), p3), (2, (IntKind.wrap .i64 p4), 0, p2, 0, ([] : List UInt8), ([] : List UInt8), p3), (3, (IntKind.wrap .i64 p4), 0, ([] : List UInt8), (IntKind.wrap .i64 p5), ([] : List UInt8), ([] : List UInt8), ([] : List UInt8)), (4, (IntKind.wrap .i64 p4), 0, ([] : List UInt8), 0, ([] : List UInt8), ([] : List UInt8), p3), (5, (IntKind.wrap .i64 p4), 0, ([] : List UInt8), 0, ([] : List UInt8), ([] : List UInt8), ([] : List UInt8)), (6, 0, 0, ([] : List UInt8), (IntKind.wrap .i64 p5), ([] : List UInt8), ([] : List UInt8), ([] : List UInt8))] : List (Int × Int × Int × (List UInt8) × Int × (List UInt8) × (List UInt8) × (List UInt8)))) ([(1, 0, p1, ([] : List UInt8), 0, ([] : List UInt8), ([] : List UInt8), p3), (2, (IntKind.wrap .i64 p4), 0, p2, 0, ([] : List UInt8), ([] : List UInt8), p3), (3, (IntKind.wrap .i64 p4), 0, ([] : List UInt8), (IntKind.wrap .i64 p5), ([] : List UInt8), ([] : List UInt8), ([] : List UInt8)), (4, (IntKind.wrap .i64 p4), 0, ([] : List UInt8), 0, ([] : List UInt8), ([] : List UInt8), p3), (5, (IntKind.wrap .i64 p4), 0, ([] : List UInt8), 0, ([] : List UInt8), ([] : List UInt8), ([] : List UInt8)), (6, 0, 0, ([] : List UInt8), (IntKind.wrap .i64 p5), ([] : List UInt8), ([] : List UInt8), ([] : List UInt8))] : List (Int × Int × Int × (List UInt8) × Int × (List UInt8) × (List UInt8) × (List UInt8)))] ∧ Qi p1 p2 p3 p4 p5 z6 f5 m = some r) (by rintro ρ w ⟨m, hk, hs, H⟩; cases H) ?_ J4 ?_
  ·rintro f5 ρ d8 ⟨m, hk, a7, H⟩
   refine At.known [(11, (.bool z6)), (12, (.slice (some ⟨p, 0, none⟩) (List.length ([(1, 0, p1, ([] : List UInt8), 0, ([] : List UInt8), ([] : List UInt8), p3), (2, (IntKind.wrap .i64 p4), 0, p2, 0, ([] : List UInt8), ([] : List UInt8), p3), (3, (IntKind.wrap .i64 p4), 0, ([] : List UInt8), (IntKind.wrap .i64 p5), ([] : List UInt8), ([] : List UInt8), ([] : List UInt8)), (4, (IntKind.wrap .i64 p4), 0, ([] : List UInt8), 0, ([] : List UInt8), ([] : List UInt8), p3), (5, (IntKind.wrap .i64 p4), 0, ([] : List UInt8), 0, ([] : List UInt8), ([] : List UInt8), ([] : List UInt8)), (6, 0, 0, ([] : List UInt8), (IntKind.wrap .i64 p5), ([] : List UInt8), ([] : List UInt8), ([] : List UInt8))] : List (Int × Int × Int × (List UInt8) × Int × (List UInt8) × (List UInt8) × (List UInt8)))) (List.length ([(1, 0, p1, ([] : List UInt8), 0, ([] : List UInt8), ([] : List UInt8), p3), (2, (IntKind.wrap .i64 p4), 0, p2, 0, ([] : List UInt8), ([] : List UInt8), p3), (3, (IntKind.wrap .i64 p4), 0, ([] : List UInt8), (IntKind.wrap .i64 p5), ([] : List UInt8), ([] : List UInt8), ([] : List UInt8)), (4, (IntKind.wrap .i64 p4), 0, ([] : List UInt8), 0, ([] : List UInt8), ([] : List UInt8), p3), (5, (IntKind.wrap .i64 p4), 0, ([] : List UInt8), 0, ([] : List UInt8), ([] : List UInt8), ([] : List UInt8)), (6, 0, 0, ([] : List UInt8), (IntKind.wrap .i64 p5), ([] : List UInt8), ([] : List UInt8), ([] : List UInt8))] : List (Int × Int × Int × (List UInt8) × Int × (List UInt8) × (List UInt8) × (List UInt8)))))), (13, (.int .i64 m))] hk ?_
   replace H := (show Qy (Qi p1 p2 p3 p4 p5 z6 f5) p1 p2 p3 p4 p5 z6 m = some r from H)
   unfold Qy at H
   refine aQ ?_
   refine aQ ?_
   refine aR ?_
   refine iR 4 4 [(50, (.int .i64 m)), (51, (.slice (some ⟨p, 0, none⟩) (List.length ([(1, 0, p1, ([] : List UInt8), 0, ([] : List UInt8), ([] : List UInt8), p3), (2, (IntKind.wrap .i64 p4), 0, p2, 0, ([] : List UInt8), ([] : List UInt8), p3), (3, (IntKind.wrap .i64 p4), 0, ([] : List UInt8), (IntKind.wrap .i64 p5), ([] : List UInt8), ([] : List UInt8), ([] : List UInt8)), (4, (IntKind.wrap .i64 p4), 0, ([] : List UInt8), 0, ([] : List UInt8), ([] : List UInt8), p3), (5, (IntKind.wrap .i64 p4), 0, ([] : List UInt8), 0, ([] : List UInt8), ([] : List UInt8), ([] : List UInt8)), (6, 0, 0, ([] : List UInt8), (IntKind.wrap .i64 p5), ([] : List UInt8), ([] : List UInt8), ([] : List UInt8))] : List (Int × Int × Int × (List UInt8) × Int × (List UInt8) × (List UInt8) × (List UInt8)))) (List.length ([(1, 0, p1, ([] : List UInt8), 0, ([] : List UInt8), ([] : List UInt8), p3), (2, (IntKind.wrap .i64 p4), 0, p2, 0, ([] : List UInt8), ([] : List UInt8), p3), (3, (IntKind.wrap .i64 p4), 0, ([] : List UInt8), (IntKind.wrap .i64 p5), ([] : List UInt8), ([] : List UInt8), ([] : List UInt8)), (4, (IntKind.wrap .i64 p4), 0, ([] : List UInt8), 0, ([] : List UInt8), ([] : List UInt8), p3), (5, (IntKind.wrap .i64 p4), 0, ([] : List UInt8), 0, ([] : List UInt8), ([] : List UInt8), ([] : List UInt8)), (6, 0, 0, ([] : List UInt8), (IntKind.wrap .i64 p5), ([] : List UInt8), ([] : List UInt8), ([] : List UInt8))] : List (Int × Int × Int × (List UInt8) × Int × (List UInt8) × (List UInt8) × (List UInt8)))))), (52, (.int .i64 ((List.length ([(1, 0, p1, ([] : List UInt8), 0, ([] : List UInt8), ([] : List UInt8), p3), (2, (IntKind.wrap .i64 p4), 0, p2, 0, ([] : List UInt8), ([] : List UInt8), p3), (3, (IntKind.wrap .i64 p4), 0, ([] : List UInt8), (IntKind.wrap .i64 p5), ([] : List UInt8), ([] : List UInt8), ([] : List UInt8)), (4, (IntKind.wrap .i64 p4), 0, ([] : List UInt8), 0, ([] : List UInt8), ([] : List UInt8), p3), (5, (IntKind.wrap .i64 p4), 0, ([] : List UInt8), 0, ([] : List UInt8), ([] : List UInt8), ([] : List UInt8)), (6, 0, 0, ([] : List UInt8), (IntKind.wrap .i64 p5), ([] : List UInt8), ([] : List UInt8), ([] : List UInt8))] : List (Int × Int × Int × (List UInt8) × Int × (List UInt8) × (List UInt8) × (List UInt8))) : Nat) : Int))), (53, (.bool (decide (m < ((List.length ([(1, 0, p1, ([] : List UInt8), 0, ([] : List UInt8), ([] : List UInt8), p3), (2, (IntKind.wrap .i64 p4), 0, p2, 0, ([] : List UInt8), ([] : List UInt8), p3), (3, (IntKind.wrap .i64 p4), 0, ([] : List UInt8), (IntKind.wrap .i64 p5), ([] : List UInt8), ([] : List UInt8), ([] : List UInt8)), (4, (IntKind.wrap .i64 p4), 0, ([] : List UInt8), 0, ([] : List UInt8), ([] : List UInt8), p3), (5, (IntKind.wrap .i64 p4), 0, ([] : List UInt8), 0, ([] : List UInt8), ([] : List UInt8), ([] : List UInt8)), (6, 0, 0, ([] : List UInt8), (IntKind.wrap .i64 p5), ([] : List UInt8), ([] : List UInt8), ([] : List UInt8))] : List (Int × Int × Int × (List UInt8) × Int × (List UInt8) × (List UInt8) × (List UInt8))) : Nat) : Int)))))] ?_
   refine iF ?_
   refine Z8 K (o := (.tmp 53)) K (b := (decide (m < ((List.length ([(1, 0, p1, ([] : List UInt8), 0, ([] : List UInt8), ([] : List UInt8), p3), (2, (IntKind.wrap .i64 p4), 0, p2, 0, ([] : List UInt8), ([] : List UInt8), p3), (3, (IntKind.wrap .i64 p4), 0, ([] : List UInt8), (IntKind.wrap .i64 p5), ([] : List UInt8), ([] : List UInt8), ([] : List UInt8)), (4, (IntKind.wrap .i64 p4), 0, ([] : List UInt8), 0, ([] : List UInt8), ([] : List UInt8), p3), (5, (IntKind.wrap .i64 p4), 0, ([] : List UInt8), 0, ([] : List UInt8), ([] : List UInt8), ([] : List UInt8)), (6, 0, 0, ([] : List UInt8), (IntKind.wrap .i64 p5), ([] : List UInt8), ([] : List UInt8), ([] : List UInt8))] : List (Int × Int × Int × (List UInt8) × Int × (List UInt8) × (List UInt8) × (List UInt8))) : Nat) : Int)))) K (fun b1 => ?_) (fun b1 => ?_)
   ·have H := ct H b1
    refine At.skip K ?_
    refine aQ ?_
    refine J3 K (id := 1) K ?_
    refine aQ ?_
    refine aR ?_
    refine iR 2 2 [(56, (.slice (some ⟨p, 0, none⟩) (List.length ([(1, 0, p1, ([] : List UInt8), 0, ([] : List UInt8), ([] : List UInt8), p3), (2, (IntKind.wrap .i64 p4), 0, p2, 0, ([] : List UInt8), ([] : List UInt8), p3), (3, (IntKind.wrap .i64 p4), 0, ([] : List UInt8), (IntKind.wrap .i64 p5), ([] : List UInt8), ([] : List UInt8), ([] : List UInt8)), (4, (IntKind.wrap .i64 p4), 0, ([] : List UInt8), 0, ([] : List UInt8), ([] : List UInt8), p3), (5, (IntKind.wrap .i64 p4), 0, ([] : List UInt8), 0, ([] : List UInt8), ([] : List UInt8), ([] : List UInt8)), (6, 0, 0, ([] : List UInt8), (IntKind.wrap .i64 p5), ([] : List UInt8), ([] : List UInt8), ([] : List UInt8))] : List (Int × Int × Int × (List UInt8) × Int × (List UInt8) × (List UInt8) × (List UInt8)))) (List.length ([(1, 0, p1, ([] : List UInt8), 0, ([] : List UInt8), ([] : List UInt8), p3), (2, (IntKind.wrap .i64 p4), 0, p2, 0, ([] : List UInt8), ([] : List UInt8), p3), (3, (IntKind.wrap .i64 p4), 0, ([] : List UInt8), (IntKind.wrap .i64 p5), ([] : List UInt8), ([] : List UInt8), ([] : List UInt8)), (4, (IntKind.wrap .i64 p4), 0, ([] : List UInt8), 0, ([] : List UInt8), ([] : List UInt8), p3), (5, (IntKind.wrap .i64 p4), 0, ([] : List UInt8), 0, ([] : List UInt8), ([] : List UInt8), ([] : List UInt8)), (6, 0, 0, ([] : List UInt8), (IntKind.wrap .i64 p5), ([] : List UInt8), ([] : List UInt8), ([] : List UInt8))] : List (Int × Int × Int × (List UInt8) × Int × (List UInt8) × (List UInt8) × (List UInt8)))))), (57, (.int .i64 m))] ?_
    obtain ⟨u, b9, c0, d9, H⟩ := V8 H
    refine iS 3 ?_
    refine Zi (e := (Qd (Zd .i64) (Qd (Zd .i64) (Qd (Zd .u32) (Qd Qg (Qd (Zd .i64) (Qd Qg (Qd Qg Qg)))))))) (l := ([(1, 0, p1, ([] : List UInt8), 0, ([] : List UInt8), ([] : List UInt8), p3), (2, (IntKind.wrap .i64 p4), 0, p2, 0, ([] : List UInt8), ([] : List UInt8), p3), (3, (IntKind.wrap .i64 p4), 0, ([] : List UInt8), (IntKind.wrap .i64 p5), ([] : List UInt8), ([] : List UInt8), ([] : List UInt8)), (4, (IntKind.wrap .i64 p4), 0, ([] : List UInt8), 0, ([] : List UInt8), ([] : List UInt8), p3), (5, (IntKind.wrap .i64 p4), 0, ([] : List UInt8), 0, ([] : List UInt8), ([] : List UInt8), ([] : List UInt8)), (6, 0, 0, ([] : List UInt8), (IntKind.wrap .i64 p5), ([] : List UInt8), ([] : List UInt8), ([] : List UInt8))] : List (Int × Int × Int × (List UInt8) × Int × (List UInt8) × (List UInt8) × (List UInt8)))) (A := (some ⟨p, 0, none⟩)) (c := (List.length ([(1, 0, p1, ([] : List UInt8), 0, ([] : List UInt8), ([] : List UInt8), p3), (2, (IntKind.wrap .i64 p4), 0, p2, 0, ([] : List UInt8), ([] : List UInt8), p3), (3, (IntKind.wrap .i64 p4), 0, ([] : List UInt8), (IntKind.wrap .i64 p5), ([] : List UInt8), ([] : List UInt8), ([] : List UInt8)), (4, (IntKind.wrap .i64 p4), 0, ([] : List UInt8), 0, ([] : List UInt8), ([] : List UInt8), p3), (5, (IntKind.wrap .i64 p4), 0, ([] : List UInt8), 0, ([] : List UInt8), ([] : List UInt8), ([] : List UInt8)), (6, 0, 0, ([] : List UInt8), (IntKind.wrap .i64 p5), ([] : List UInt8), ([] : List UInt8), ([] : List UInt8))] : List (Int × Int × Int × (List UInt8) × Int × (List UInt8) × (List UInt8) × (List UInt8))))) (T := 68) (E := 52) (x := (.tmp 56)) (ix := (.tmp 57)) (ki := .i64) (iz := m) (d := (some 58)) (k := 2) K rfl K K K K (Vi (SP.get a7 (i := 0) rfl)) b9 c0 ?_
    intro e0 e1 e2 h5 hc372
    refine iS 4 ?_
    refine Qf.cells (t := 52) (x := (.tmp 58)) (b := e0) (off := (e1 + Int.toNat m * (Qd (Zd .i64) (Qd (Zd .i64) (Qd (Zd .u32) (Qd Qg (Qd (Zd .i64) (Qd Qg (Qd Qg Qg))))))).sz)) (xs := [(.int .i64 u.1), (.int .i64 u.2.1), (.int .u32 u.2.2.1), (.string ⟨List.toArray u.2.2.2.1⟩), (.int .i64 u.2.2.2.2.1), (.string ⟨List.toArray u.2.2.2.2.2.1⟩), (.string ⟨List.toArray u.2.2.2.2.2.2.1⟩), (.string ⟨List.toArray u.2.2.2.2.2.2.2⟩)]) (d := (some 59)) (k := 3) K rfl K K K (Jh (e := (Qd (Zd .i64) (Qd (Zd .i64) (Qd (Zd .u32) (Qd Qg (Qd (Zd .i64) (Qd Qg (Qd Qg Qg)))))))) (Yx (Vi (SP.get a7 (i := 0) rfl)) e2 b9 c0) d9 rfl) ?_
    obtain ⟨j, e3, H⟩ := Qa H
    refine iS 5 ?_
    refine cF 35 #[(.tmp 59)] #[52] 60 Tryz.call35 (Z1  u.1 u.2.1 u.2.2.1 u.2.2.2.1 u.2.2.2.2.1 u.2.2.2.2.2.1 u.2.2.2.2.2.2.1 u.2.2.2.2.2.2.2 d8 (Qr hL (SP.keeps a7)) j e3) ?_
    rintro e e4 ⟨rfl, c1⟩
    refine ⟨_, rfl, ?_⟩
    have c2 := SP.call a7 c1
    clear c1
    refine iR 1 6 [(14, (.string ⟨List.toArray j⟩))] ?_
    refine iF ?_
    refine aQ ?_
    refine aR ?_
    refine iR 1 1 [(62, (.string ⟨List.toArray j⟩))] ?_
    obtain ⟨f, e5, H⟩ := Qa H
    refine iS 2 ?_
    refine cF 31 #[(.tmp 62)] #[9] 63 Tryz.call31 (Xu  j e4 (Qr hL (SP.keeps c2)) f e5) ?_
    rintro e h6 ⟨rfl, c3⟩
    refine ⟨_, rfl, ?_⟩
    have e6 := SP.call c2 c3
    clear c3
    refine iR 3 5 [(61, (.tuple #[(.agg #[(.int .i64 f.1), (.int .i64 f.2.1), (.int .u32 f.2.2.1), (.string ⟨List.toArray f.2.2.2.1⟩), (.int .i64 f.2.2.2.2.1), (.string ⟨List.toArray f.2.2.2.2.2.1⟩), (.string ⟨List.toArray f.2.2.2.2.2.2.1⟩), (.string ⟨List.toArray f.2.2.2.2.2.2.2.1⟩)]), (.bool f.2.2.2.2.2.2.2.2)])), (64, (.agg #[(.int .i64 f.1), (.int .i64 f.2.1), (.int .u32 f.2.2.1), (.string ⟨List.toArray f.2.2.2.1⟩), (.int .i64 f.2.2.2.2.1), (.string ⟨List.toArray f.2.2.2.2.2.1⟩), (.string ⟨List.toArray f.2.2.2.2.2.2.1⟩), (.string ⟨List.toArray f.2.2.2.2.2.2.2.1⟩)])), (65, (.bool f.2.2.2.2.2.2.2.2))] ?_
    refine iS 6 ?_
    refine Qf.alloc (t := 52) (z := (.agg #[(.int .i64 0), (.int .i64 0), (.int .u32 0), (.string ⟨List.toArray ([] : List UInt8)⟩), (.int .i64 0), (.string ⟨List.toArray ([] : List UInt8)⟩), (.string ⟨List.toArray ([] : List UInt8)⟩), (.string ⟨List.toArray ([] : List UInt8)⟩)])) (d := (some 15)) (k := 5) K rfl K e6 ?_
    intro a4 h7 e7
    refine iS 7 ?_
    refine Qf.store (t := 52) (x := (.tmp 15)) (y := (.tmp 64)) (g := a4) (off := 0) (i := 1) (v := (.agg #[(.int .i64 f.1), (.int .i64 f.2.1), (.int .u32 f.2.2.1), (.string ⟨List.toArray f.2.2.2.1⟩), (.int .i64 f.2.2.2.2.1), (.string ⟨List.toArray f.2.2.2.2.2.1⟩), (.string ⟨List.toArray f.2.2.2.2.2.2.1⟩), (.string ⟨List.toArray f.2.2.2.2.2.2.2.1⟩)])) (cs' := #[(.int .i64 f.1), (.int .i64 f.2.1), (.int .u32 f.2.2.1), (.string ⟨List.toArray f.2.2.2.1⟩), (.int .i64 f.2.2.2.2.1), (.string ⟨List.toArray f.2.2.2.2.2.1⟩), (.string ⟨List.toArray f.2.2.2.2.2.2.1⟩), (.string ⟨List.toArray f.2.2.2.2.2.2.2.1⟩)]) (d := none) (k := 6) K rfl K K e7 rfl K ?_
    intro h8 b2
    refine iR 1 8 [(16, (.bool f.2.2.2.2.2.2.2.2))] ?_
    refine iF ?_
    refine aQ ?_
    refine aQ ?_
    refine At.join (fun ρ w => ∃ (a6 : Bool), V5 ρ [(11, (.bool z6)), (12, (.slice (some ⟨p, 0, none⟩) (List.length ([(1, 0, p1, ([] : List UInt8), 0, ([] : List UInt8), ([] : List UInt8), p3), (2, (IntKind.wrap .i64 p4), 0, p2, 0, ([] : List UInt8), ([] : List UInt8), p3), (3, (IntKind.wrap .i64 p4), 0, ([] : List UInt8), (IntKind.wrap .i64 p5), ([] : List UInt8), ([] : List UInt8), ([] : List UInt8)), (4, (IntKind.wrap .i64 p4), 0, ([] : List UInt8), 0, ([] : List UInt8), ([] : List UInt8), p3), (5, (IntKind.wrap .i64 p4), 0, ([] : List UInt8), 0, ([] : List UInt8), ([] : List UInt8), ([] : List UInt8)), (6, 0, 0, ([] : List UInt8), (IntKind.wrap .i64 p5), ([] : List UInt8), ([] : List UInt8), ([] : List UInt8))] : List (Int × Int × Int × (List UInt8) × Int × (List UInt8) × (List UInt8) × (List UInt8)))) (List.length ([(1, 0, p1, ([] : List UInt8), 0, ([] : List UInt8), ([] : List UInt8), p3), (2, (IntKind.wrap .i64 p4), 0, p2, 0, ([] : List UInt8), ([] : List UInt8), p3), (3, (IntKind.wrap .i64 p4), 0, ([] : List UInt8), (IntKind.wrap .i64 p5), ([] : List UInt8), ([] : List UInt8), ([] : List UInt8)), (4, (IntKind.wrap .i64 p4), 0, ([] : List UInt8), 0, ([] : List UInt8), ([] : List UInt8), p3), (5, (IntKind.wrap .i64 p4), 0, ([] : List UInt8), 0, ([] : List UInt8), ([] : List UInt8), ([] : List UInt8)), (6, 0, 0, ([] : List UInt8), (IntKind.wrap .i64 p5), ([] : List UInt8), ([] : List UInt8), ([] : List UInt8))] : List (Int × Int × Int × (List UInt8) × Int × (List UInt8) × (List UInt8) × (List UInt8)))))), (13, (.int .i64 m)), (14, (.string ⟨List.toArray j⟩)), (79, (.bool a6))] ∧ SP [] w0 w [Q6 52 (Qd (Zd .i64) (Qd (Zd .i64) (Qd (Zd .u32) (Qd Qg (Qd (Zd .i64) (Qd Qg (Qd Qg Qg))))))) (some ⟨p, 0, none⟩) (List.length ([(1, 0, p1, ([] : List UInt8), 0, ([] : List UInt8), ([] : List UInt8), p3), (2, (IntKind.wrap .i64 p4), 0, p2, 0, ([] : List UInt8), ([] : List UInt8), p3), (3, (IntKind.wrap .i64 p4), 0, ([] : List UInt8), (IntKind.wrap .i64 p5), ([] : List UInt8), ([] : List UInt8), ([] : List UInt8)), (4, (IntKind.wrap .i64 p4), 0, ([] : List UInt8), 0, ([] : List UInt8), ([] : List UInt8), p3), (5, (IntKind.wrap .i64 p4), 0, ([] : List UInt8), 0, ([] : List UInt8), ([] : List UInt8), ([] : List UInt8)), (6, 0, 0, ([] : List UInt8), (IntKind.wrap .i64 p5), ([] : List UInt8), ([] : List UInt8), ([] : List UInt8))] : List (Int × Int × Int × (List UInt8) × Int × (List UInt8) × (List UInt8) × (List UInt8)))) ([(1, 0, p1, ([] : List UInt8), 0, ([] : List UInt8), ([] : List UInt8), p3), (2, (IntKind.wrap .i64 p4), 0, p2, 0, ([] : List UInt8), ([] : List UInt8), p3), (3, (IntKind.wrap .i64 p4), 0, ([] : List UInt8), (IntKind.wrap .i64 p5), ([] : List UInt8), ([] : List UInt8), ([] : List UInt8)), (4, (IntKind.wrap .i64 p4), 0, ([] : List UInt8), 0, ([] : List UInt8), ([] : List UInt8), p3), (5, (IntKind.wrap .i64 p4), 0, ([] : List UInt8), 0, ([] : List UInt8), ([] : List UInt8), ([] : List UInt8)), (6, 0, 0, ([] : List UInt8), (IntKind.wrap .i64 p5), ([] : List UInt8), ([] : List UInt8), ([] : List UInt8))] : List (Int × Int × Int × (List UInt8) × Int × (List UInt8) × (List UInt8) × (List UInt8)))] ∧ Q8 (Qi p1 p2 p3 p4 p5 z6 f5) p1 p2 p3 p4 p5 m j a6 = some r) ?_ ?_
    ·rcases Bool.eq_false_or_eq_true (j == ([] : List UInt8)) with a3 | a3
     ·have H := ct H a3
      refine aG [GEq (.string ⟨List.toArray j⟩), GEq (.bool (j == ([] : List UInt8))), GEq (.bool (j == ([] : List UInt8))), GEq undef, GEq undef, GEq (.bool true), GEq (.bool true), GEq undef, GEq undef, GEq undef, GEq undef, GEq undef, GEq undef, GEq (.bool true)] [] (tG [] w0 [Q6 52 (Qd (Zd .i64) (Qd (Zd .i64) (Qd (Zd .u32) (Qd Qg (Qd (Zd .i64) (Qd Qg (Qd Qg Qg))))))) (some ⟨p, 0, none⟩) (List.length ([(1, 0, p1, ([] : List UInt8), 0, ([] : List UInt8), ([] : List UInt8), p3), (2, (IntKind.wrap .i64 p4), 0, p2, 0, ([] : List UInt8), ([] : List UInt8), p3), (3, (IntKind.wrap .i64 p4), 0, ([] : List UInt8), (IntKind.wrap .i64 p5), ([] : List UInt8), ([] : List UInt8), ([] : List UInt8)), (4, (IntKind.wrap .i64 p4), 0, ([] : List UInt8), 0, ([] : List UInt8), ([] : List UInt8), p3), (5, (IntKind.wrap .i64 p4), 0, ([] : List UInt8), 0, ([] : List UInt8), ([] : List UInt8), ([] : List UInt8)), (6, 0, 0, ([] : List UInt8), (IntKind.wrap .i64 p5), ([] : List UInt8), ([] : List UInt8), ([] : List UInt8))] : List (Int × Int × Int × (List UInt8) × Int × (List UInt8) × (List UInt8) × (List UInt8)))) ([(1, 0, p1, ([] : List UInt8), 0, ([] : List UInt8), ([] : List UInt8), p3), (2, (IntKind.wrap .i64 p4), 0, p2, 0, ([] : List UInt8), ([] : List UInt8), p3), (3, (IntKind.wrap .i64 p4), 0, ([] : List UInt8), (IntKind.wrap .i64 p5), ([] : List UInt8), ([] : List UInt8), ([] : List UInt8)), (4, (IntKind.wrap .i64 p4), 0, ([] : List UInt8), 0, ([] : List UInt8), ([] : List UInt8), p3), (5, (IntKind.wrap .i64 p4), 0, ([] : List UInt8), 0, ([] : List UInt8), ([] : List UInt8), ([] : List UInt8)), (6, 0, 0, ([] : List UInt8), (IntKind.wrap .i64 p5), ([] : List UInt8), ([] : List UInt8), ([] : List UInt8))] : List (Int × Int × Int × (List UInt8) × Int × (List UInt8) × (List UInt8) × (List UInt8))), Qh a4 52 #[(.int .i64 f.1), (.int .i64 f.2.1), (.int .u32 f.2.2.1), (.string ⟨List.toArray f.2.2.2.1⟩), (.int .i64 f.2.2.2.2.1), (.string ⟨List.toArray f.2.2.2.2.2.1⟩), (.string ⟨List.toArray f.2.2.2.2.2.2.1⟩), (.string ⟨List.toArray f.2.2.2.2.2.2.2.1⟩)]] [([], [])]) 14 0 ⟨trivial, SP.drew b2⟩ ?_ ?_
      iterate 14 refine And.intro ?_ ?_
      exact trivial
      ·exact oV (hC (hS 14 (.string ⟨List.toArray j⟩)) (h0)) (.string ⟨List.toArray j⟩)
      ·refine oL 0 ?_
       ·rintro ρ' w' hs q ⟨h9, i0⟩
        refine kM (kc (kA q 0 66) k0) fun a2 => ?_
        refine Va (op := .eql) (T := 9) (T' := 9) (x := (.tmp 66)) (y := (.const (.string ⟨List.toArray ([] : List UInt8)⟩))) (a := j) (b := ([] : List UInt8)) (r := (.bool (j == ([] : List UInt8)))) (d := (some 67)) (k := 1) K rfl K K rfl ?_
        exact eK a2
      ·exact oV (hC (hA 1 67) (h0)) (.bool (j == ([] : List UInt8)))
      ·exact oW (hC (hB 2 68 a3) (h0)) 69
      ·exact oW (hC (hB 2 68 a3) (h0)) 70
      ·exact oV (hC (hB 2 68 a3) (hC (hA 4 70) (h0))) (.bool true)
      ·exact oV (hC (hA 5 71) (h0)) (.bool true)
      ·exact oW (hC (hA 6 72) (h0)) 73
      ·exact oW (hC (hA 6 72) (h0)) 74
      ·exact oW (hC (hA 6 72) (h0)) 75
      ·exact oW (hC (hA 6 72) (h0)) 76
      ·exact oW (hC (hA 6 72) (h0)) 77
      ·exact oW (hC (hA 6 72) (h0)) 78
      ·exact oV (hC (hA 6 72) (hC (hA 12 78) (h0))) (.bool true)
      ·rintro ρ' w' hs hf ⟨i1, c4⟩
       refine Yh [(11, (.bool z6)), (12, (.slice (some ⟨p, 0, none⟩) (List.length ([(1, 0, p1, ([] : List UInt8), 0, ([] : List UInt8), ([] : List UInt8), p3), (2, (IntKind.wrap .i64 p4), 0, p2, 0, ([] : List UInt8), ([] : List UInt8), p3), (3, (IntKind.wrap .i64 p4), 0, ([] : List UInt8), (IntKind.wrap .i64 p5), ([] : List UInt8), ([] : List UInt8), ([] : List UInt8)), (4, (IntKind.wrap .i64 p4), 0, ([] : List UInt8), 0, ([] : List UInt8), ([] : List UInt8), p3), (5, (IntKind.wrap .i64 p4), 0, ([] : List UInt8), 0, ([] : List UInt8), ([] : List UInt8), ([] : List UInt8)), (6, 0, 0, ([] : List UInt8), (IntKind.wrap .i64 p5), ([] : List UInt8), ([] : List UInt8), ([] : List UInt8))] : List (Int × Int × Int × (List UInt8) × Int × (List UInt8) × (List UInt8) × (List UInt8)))) (List.length ([(1, 0, p1, ([] : List UInt8), 0, ([] : List UInt8), ([] : List UInt8), p3), (2, (IntKind.wrap .i64 p4), 0, p2, 0, ([] : List UInt8), ([] : List UInt8), p3), (3, (IntKind.wrap .i64 p4), 0, ([] : List UInt8), (IntKind.wrap .i64 p5), ([] : List UInt8), ([] : List UInt8), ([] : List UInt8)), (4, (IntKind.wrap .i64 p4), 0, ([] : List UInt8), 0, ([] : List UInt8), ([] : List UInt8), p3), (5, (IntKind.wrap .i64 p4), 0, ([] : List UInt8), 0, ([] : List UInt8), ([] : List UInt8), ([] : List UInt8)), (6, 0, 0, ([] : List UInt8), (IntKind.wrap .i64 p5), ([] : List UInt8), ([] : List UInt8), ([] : List UInt8))] : List (Int × Int × Int × (List UInt8) × Int × (List UInt8) × (List UInt8) × (List UInt8)))))), (13, (.int .i64 m)), (14, (.string ⟨List.toArray j⟩)), (79, (.bool true))] ⟨(hs 11 K).trans K, (hs 12 K).trans K, (hs 13 K).trans K, (hs 14 K).trans K, hf 13 79 K, trivial⟩ ?_
       obtain ⟨i2, e8⟩ : ∃ x, w' = x := ⟨_, rfl⟩
       rw [e8] at c4 ⊢
       exact ⟨true, ⟨K, K, K, K, K, trivial⟩, SP.sel c4 [0] rfl rfl, H⟩
     ·have H := cf H a3
      rcases Bool.eq_false_or_eq_true (!f.2.2.2.2.2.2.2.2) with s | s
      ·have H := ct H s
       refine aG [GEq (.string ⟨List.toArray j⟩), GEq (.bool (j == ([] : List UInt8))), GEq (.bool (j == ([] : List UInt8))), GEq (.bool f.2.2.2.2.2.2.2.2), GEq (.bool (!f.2.2.2.2.2.2.2.2)), GEq (.bool (!f.2.2.2.2.2.2.2.2)), GEq (.bool (!f.2.2.2.2.2.2.2.2)), GEq undef, GEq undef, GEq undef, GEq undef, GEq undef, GEq undef, GEq (.bool true)] [] (tG [] w0 [Q6 52 (Qd (Zd .i64) (Qd (Zd .i64) (Qd (Zd .u32) (Qd Qg (Qd (Zd .i64) (Qd Qg (Qd Qg Qg))))))) (some ⟨p, 0, none⟩) (List.length ([(1, 0, p1, ([] : List UInt8), 0, ([] : List UInt8), ([] : List UInt8), p3), (2, (IntKind.wrap .i64 p4), 0, p2, 0, ([] : List UInt8), ([] : List UInt8), p3), (3, (IntKind.wrap .i64 p4), 0, ([] : List UInt8), (IntKind.wrap .i64 p5), ([] : List UInt8), ([] : List UInt8), ([] : List UInt8)), (4, (IntKind.wrap .i64 p4), 0, ([] : List UInt8), 0, ([] : List UInt8), ([] : List UInt8), p3), (5, (IntKind.wrap .i64 p4), 0, ([] : List UInt8), 0, ([] : List UInt8), ([] : List UInt8), ([] : List UInt8)), (6, 0, 0, ([] : List UInt8), (IntKind.wrap .i64 p5), ([] : List UInt8), ([] : List UInt8), ([] : List UInt8))] : List (Int × Int × Int × (List UInt8) × Int × (List UInt8) × (List UInt8) × (List UInt8)))) ([(1, 0, p1, ([] : List UInt8), 0, ([] : List UInt8), ([] : List UInt8), p3), (2, (IntKind.wrap .i64 p4), 0, p2, 0, ([] : List UInt8), ([] : List UInt8), p3), (3, (IntKind.wrap .i64 p4), 0, ([] : List UInt8), (IntKind.wrap .i64 p5), ([] : List UInt8), ([] : List UInt8), ([] : List UInt8)), (4, (IntKind.wrap .i64 p4), 0, ([] : List UInt8), 0, ([] : List UInt8), ([] : List UInt8), p3), (5, (IntKind.wrap .i64 p4), 0, ([] : List UInt8), 0, ([] : List UInt8), ([] : List UInt8), ([] : List UInt8)), (6, 0, 0, ([] : List UInt8), (IntKind.wrap .i64 p5), ([] : List UInt8), ([] : List UInt8), ([] : List UInt8))] : List (Int × Int × Int × (List UInt8) × Int × (List UInt8) × (List UInt8) × (List UInt8))), Qh a4 52 #[(.int .i64 f.1), (.int .i64 f.2.1), (.int .u32 f.2.2.1), (.string ⟨List.toArray f.2.2.2.1⟩), (.int .i64 f.2.2.2.2.1), (.string ⟨List.toArray f.2.2.2.2.2.1⟩), (.string ⟨List.toArray f.2.2.2.2.2.2.1⟩), (.string ⟨List.toArray f.2.2.2.2.2.2.2.1⟩)]] [([], [])]) 14 0 ⟨trivial, SP.drew b2⟩ ?_ ?_
       iterate 14 refine And.intro ?_ ?_
       exact trivial
       ·exact oV (hC (hS 14 (.string ⟨List.toArray j⟩)) (h0)) (.string ⟨List.toArray j⟩)
       ·refine oL 0 ?_
        ·rintro ρ' w' hs q ⟨i3, i4⟩
         refine kM (kc (kA q 0 66) k0) fun a2 => ?_
         refine Va (op := .eql) (T := 9) (T' := 9) (x := (.tmp 66)) (y := (.const (.string ⟨List.toArray ([] : List UInt8)⟩))) (a := j) (b := ([] : List UInt8)) (r := (.bool (j == ([] : List UInt8)))) (d := (some 67)) (k := 1) K rfl K K rfl ?_
         exact eK a2
       ·exact oV (hC (hA 1 67) (h0)) (.bool (j == ([] : List UInt8)))
       ·exact oV (hC (hS 16 (.bool f.2.2.2.2.2.2.2.2)) (hC (hB 2 68 a3) (h0))) (.bool f.2.2.2.2.2.2.2.2)
       ·exact oV (hC (hA 3 69) (hC (hB 2 68 a3) (h0))) (.bool (!f.2.2.2.2.2.2.2.2))
       ·exact oV (hC (hB 2 68 a3) (hC (hA 4 70) (h0))) (.bool (!f.2.2.2.2.2.2.2.2))
       ·exact oV (hC (hA 5 71) (h0)) (.bool (!f.2.2.2.2.2.2.2.2))
       ·exact oW (hC (hB 6 72 s) (h0)) 73
       ·exact oW (hC (hB 6 72 s) (h0)) 74
       ·exact oW (hC (hB 6 72 s) (h0)) 75
       ·exact oW (hC (hB 6 72 s) (h0)) 76
       ·exact oW (hC (hB 6 72 s) (h0)) 77
       ·exact oW (hC (hB 6 72 s) (h0)) 78
       ·exact oV (hC (hB 6 72 s) (hC (hA 12 78) (h0))) (.bool true)
       ·rintro ρ' w' hs hf ⟨i5, c5⟩
        refine Yh [(11, (.bool z6)), (12, (.slice (some ⟨p, 0, none⟩) (List.length ([(1, 0, p1, ([] : List UInt8), 0, ([] : List UInt8), ([] : List UInt8), p3), (2, (IntKind.wrap .i64 p4), 0, p2, 0, ([] : List UInt8), ([] : List UInt8), p3), (3, (IntKind.wrap .i64 p4), 0, ([] : List UInt8), (IntKind.wrap .i64 p5), ([] : List UInt8), ([] : List UInt8), ([] : List UInt8)), (4, (IntKind.wrap .i64 p4), 0, ([] : List UInt8), 0, ([] : List UInt8), ([] : List UInt8), p3), (5, (IntKind.wrap .i64 p4), 0, ([] : List UInt8), 0, ([] : List UInt8), ([] : List UInt8), ([] : List UInt8)), (6, 0, 0, ([] : List UInt8), (IntKind.wrap .i64 p5), ([] : List UInt8), ([] : List UInt8), ([] : List UInt8))] : List (Int × Int × Int × (List UInt8) × Int × (List UInt8) × (List UInt8) × (List UInt8)))) (List.length ([(1, 0, p1, ([] : List UInt8), 0, ([] : List UInt8), ([] : List UInt8), p3), (2, (IntKind.wrap .i64 p4), 0, p2, 0, ([] : List UInt8), ([] : List UInt8), p3), (3, (IntKind.wrap .i64 p4), 0, ([] : List UInt8), (IntKind.wrap .i64 p5), ([] : List UInt8), ([] : List UInt8), ([] : List UInt8)), (4, (IntKind.wrap .i64 p4), 0, ([] : List UInt8), 0, ([] : List UInt8), ([] : List UInt8), p3), (5, (IntKind.wrap .i64 p4), 0, ([] : List UInt8), 0, ([] : List UInt8), ([] : List UInt8), ([] : List UInt8)), (6, 0, 0, ([] : List UInt8), (IntKind.wrap .i64 p5), ([] : List UInt8), ([] : List UInt8), ([] : List UInt8))] : List (Int × Int × Int × (List UInt8) × Int × (List UInt8) × (List UInt8) × (List UInt8)))))), (13, (.int .i64 m)), (14, (.string ⟨List.toArray j⟩)), (79, (.bool true))] ⟨(hs 11 K).trans K, (hs 12 K).trans K, (hs 13 K).trans K, (hs 14 K).trans K, hf 13 79 K, trivial⟩ ?_
        obtain ⟨i6, e9⟩ : ∃ x, w' = x := ⟨_, rfl⟩
        rw [e9] at c5 ⊢
        exact ⟨true, ⟨K, K, K, K, K, trivial⟩, SP.sel c5 [0] rfl rfl, H⟩
      ·have H := cf H s
       obtain ⟨h, c6, c7, f0, H⟩ := V8 H
       refine aG [GEq (.string ⟨List.toArray j⟩), GEq (.bool (j == ([] : List UInt8))), GEq (.bool (j == ([] : List UInt8))), GEq (.bool f.2.2.2.2.2.2.2.2), GEq (.bool (!f.2.2.2.2.2.2.2.2)), GEq (.bool (!f.2.2.2.2.2.2.2.2)), GEq (.bool (!f.2.2.2.2.2.2.2.2)), GEq (.agg #[(.int .i64 f.1), (.int .i64 f.2.1), (.int .u32 f.2.2.1), (.string ⟨List.toArray f.2.2.2.1⟩), (.int .i64 f.2.2.2.2.1), (.string ⟨List.toArray f.2.2.2.2.2.1⟩), (.string ⟨List.toArray f.2.2.2.2.2.2.1⟩), (.string ⟨List.toArray f.2.2.2.2.2.2.2.1⟩)]), GEq (.slice (some ⟨p, 0, none⟩) (List.length ([(1, 0, p1, ([] : List UInt8), 0, ([] : List UInt8), ([] : List UInt8), p3), (2, (IntKind.wrap .i64 p4), 0, p2, 0, ([] : List UInt8), ([] : List UInt8), p3), (3, (IntKind.wrap .i64 p4), 0, ([] : List UInt8), (IntKind.wrap .i64 p5), ([] : List UInt8), ([] : List UInt8), ([] : List UInt8)), (4, (IntKind.wrap .i64 p4), 0, ([] : List UInt8), 0, ([] : List UInt8), ([] : List UInt8), p3), (5, (IntKind.wrap .i64 p4), 0, ([] : List UInt8), 0, ([] : List UInt8), ([] : List UInt8), ([] : List UInt8)), (6, 0, 0, ([] : List UInt8), (IntKind.wrap .i64 p5), ([] : List UInt8), ([] : List UInt8), ([] : List UInt8))] : List (Int × Int × Int × (List UInt8) × Int × (List UInt8) × (List UInt8) × (List UInt8)))) (List.length ([(1, 0, p1, ([] : List UInt8), 0, ([] : List UInt8), ([] : List UInt8), p3), (2, (IntKind.wrap .i64 p4), 0, p2, 0, ([] : List UInt8), ([] : List UInt8), p3), (3, (IntKind.wrap .i64 p4), 0, ([] : List UInt8), (IntKind.wrap .i64 p5), ([] : List UInt8), ([] : List UInt8), ([] : List UInt8)), (4, (IntKind.wrap .i64 p4), 0, ([] : List UInt8), 0, ([] : List UInt8), ([] : List UInt8), p3), (5, (IntKind.wrap .i64 p4), 0, ([] : List UInt8), 0, ([] : List UInt8), ([] : List UInt8), ([] : List UInt8)), (6, 0, 0, ([] : List UInt8), (IntKind.wrap .i64 p5), ([] : List UInt8), ([] : List UInt8), ([] : List UInt8))] : List (Int × Int × Int × (List UInt8) × Int × (List UInt8) × (List UInt8) × (List UInt8))))), GEq (.int .i64 m), Ck (some ⟨p, 0, none⟩) (Qd (Zd .i64) (Qd (Zd .i64) (Qd (Zd .u32) (Qd Qg (Qd (Zd .i64) (Qd Qg (Qd Qg Qg))))))).sz m, GEq (.agg #[(.int .i64 h.1), (.int .i64 h.2.1), (.int .u32 h.2.2.1), (.string ⟨List.toArray h.2.2.2.1⟩), (.int .i64 h.2.2.2.2.1), (.string ⟨List.toArray h.2.2.2.2.2.1⟩), (.string ⟨List.toArray h.2.2.2.2.2.2.1⟩), (.string ⟨List.toArray h.2.2.2.2.2.2.2⟩)]), GEq (.bool (!((f.1 == h.1) && ((f.2.1 == h.2.1) && ((f.2.2.1 == h.2.2.1) && ((f.2.2.2.1 == h.2.2.2.1) && ((f.2.2.2.2.1 == h.2.2.2.2.1) && ((f.2.2.2.2.2.1 == h.2.2.2.2.2.1) && ((f.2.2.2.2.2.2.1 == h.2.2.2.2.2.2.1) && (f.2.2.2.2.2.2.2.1 == h.2.2.2.2.2.2.2)))))))))), GEq (.bool (!((f.1 == h.1) && ((f.2.1 == h.2.1) && ((f.2.2.1 == h.2.2.1) && ((f.2.2.2.1 == h.2.2.2.1) && ((f.2.2.2.2.1 == h.2.2.2.2.1) && ((f.2.2.2.2.2.1 == h.2.2.2.2.2.1) && ((f.2.2.2.2.2.2.1 == h.2.2.2.2.2.2.1) && (f.2.2.2.2.2.2.2.1 == h.2.2.2.2.2.2.2))))))))))] [] (tG [] w0 [Q6 52 (Qd (Zd .i64) (Qd (Zd .i64) (Qd (Zd .u32) (Qd Qg (Qd (Zd .i64) (Qd Qg (Qd Qg Qg))))))) (some ⟨p, 0, none⟩) (List.length ([(1, 0, p1, ([] : List UInt8), 0, ([] : List UInt8), ([] : List UInt8), p3), (2, (IntKind.wrap .i64 p4), 0, p2, 0, ([] : List UInt8), ([] : List UInt8), p3), (3, (IntKind.wrap .i64 p4), 0, ([] : List UInt8), (IntKind.wrap .i64 p5), ([] : List UInt8), ([] : List UInt8), ([] : List UInt8)), (4, (IntKind.wrap .i64 p4), 0, ([] : List UInt8), 0, ([] : List UInt8), ([] : List UInt8), p3), (5, (IntKind.wrap .i64 p4), 0, ([] : List UInt8), 0, ([] : List UInt8), ([] : List UInt8), ([] : List UInt8)), (6, 0, 0, ([] : List UInt8), (IntKind.wrap .i64 p5), ([] : List UInt8), ([] : List UInt8), ([] : List UInt8))] : List (Int × Int × Int × (List UInt8) × Int × (List UInt8) × (List UInt8) × (List UInt8)))) ([(1, 0, p1, ([] : List UInt8), 0, ([] : List UInt8), ([] : List UInt8), p3), (2, (IntKind.wrap .i64 p4), 0, p2, 0, ([] : List UInt8), ([] : List UInt8), p3), (3, (IntKind.wrap .i64 p4), 0, ([] : List UInt8), (IntKind.wrap .i64 p5), ([] : List UInt8), ([] : List UInt8), ([] : List UInt8)), (4, (IntKind.wrap .i64 p4), 0, ([] : List UInt8), 0, ([] : List UInt8), ([] : List UInt8), p3), (5, (IntKind.wrap .i64 p4), 0, ([] : List UInt8), 0, ([] : List UInt8), ([] : List UInt8), ([] : List UInt8)), (6, 0, 0, ([] : List UInt8), (IntKind.wrap .i64 p5), ([] : List UInt8), ([] : List UInt8), ([] : List UInt8))] : List (Int × Int × Int × (List UInt8) × Int × (List UInt8) × (List UInt8) × (List UInt8))), Qh a4 52 #[(.int .i64 f.1), (.int .i64 f.2.1), (.int .u32 f.2.2.1), (.string ⟨List.toArray f.2.2.2.1⟩), (.int .i64 f.2.2.2.2.1), (.string ⟨List.toArray f.2.2.2.2.2.1⟩), (.string ⟨List.toArray f.2.2.2.2.2.2.1⟩), (.string ⟨List.toArray f.2.2.2.2.2.2.2.1⟩)]] [([], [])]) 14 0 ⟨trivial, SP.drew b2⟩ ?_ ?_
       iterate 14 refine And.intro ?_ ?_
       exact trivial
       ·exact oV (hC (hS 14 (.string ⟨List.toArray j⟩)) (h0)) (.string ⟨List.toArray j⟩)
       ·refine oL 0 ?_
        ·rintro ρ' w' hs q ⟨i7, i8⟩
         refine kM (kc (kA q 0 66) k0) fun a2 => ?_
         refine Va (op := .eql) (T := 9) (T' := 9) (x := (.tmp 66)) (y := (.const (.string ⟨List.toArray ([] : List UInt8)⟩))) (a := j) (b := ([] : List UInt8)) (r := (.bool (j == ([] : List UInt8)))) (d := (some 67)) (k := 1) K rfl K K rfl ?_
         exact eK a2
       ·exact oV (hC (hA 1 67) (h0)) (.bool (j == ([] : List UInt8)))
       ·exact oV (hC (hS 16 (.bool f.2.2.2.2.2.2.2.2)) (hC (hB 2 68 a3) (h0))) (.bool f.2.2.2.2.2.2.2.2)
       ·exact oV (hC (hA 3 69) (hC (hB 2 68 a3) (h0))) (.bool (!f.2.2.2.2.2.2.2.2))
       ·exact oV (hC (hB 2 68 a3) (hC (hA 4 70) (h0))) (.bool (!f.2.2.2.2.2.2.2.2))
       ·exact oV (hC (hA 5 71) (h0)) (.bool (!f.2.2.2.2.2.2.2.2))
       ·refine oL 0 ?_
        ·rintro ρ' w' hs q ⟨i9, f1⟩
         have f2 : ρ' 15 = (pt a4 0) := (hs 15 K).trans K
         have a5 := q 6 72 K
         refine kN [(15, (pt a4 0)), (72, (.bool false))] ⟨f2, (Eq.trans a5 (congrArg Value.bool s)), trivial⟩ fun a2 => ?_
         refine sL 52 15 a4 0 1 (.agg #[(.int .i64 f.1), (.int .i64 f.2.1), (.int .u32 f.2.2.1), (.string ⟨List.toArray f.2.2.2.1⟩), (.int .i64 f.2.2.2.2.1), (.string ⟨List.toArray f.2.2.2.2.2.1⟩), (.string ⟨List.toArray f.2.2.2.2.2.2.1⟩), (.string ⟨List.toArray f.2.2.2.2.2.2.2.1⟩)]) 73 f1 rfl ?_
         exact eK a2
       ·exact oV (hC (hS 12 (.slice (some ⟨p, 0, none⟩) (List.length ([(1, 0, p1, ([] : List UInt8), 0, ([] : List UInt8), ([] : List UInt8), p3), (2, (IntKind.wrap .i64 p4), 0, p2, 0, ([] : List UInt8), ([] : List UInt8), p3), (3, (IntKind.wrap .i64 p4), 0, ([] : List UInt8), (IntKind.wrap .i64 p5), ([] : List UInt8), ([] : List UInt8), ([] : List UInt8)), (4, (IntKind.wrap .i64 p4), 0, ([] : List UInt8), 0, ([] : List UInt8), ([] : List UInt8), p3), (5, (IntKind.wrap .i64 p4), 0, ([] : List UInt8), 0, ([] : List UInt8), ([] : List UInt8), ([] : List UInt8)), (6, 0, 0, ([] : List UInt8), (IntKind.wrap .i64 p5), ([] : List UInt8), ([] : List UInt8), ([] : List UInt8))] : List (Int × Int × Int × (List UInt8) × Int × (List UInt8) × (List UInt8) × (List UInt8)))) (List.length ([(1, 0, p1, ([] : List UInt8), 0, ([] : List UInt8), ([] : List UInt8), p3), (2, (IntKind.wrap .i64 p4), 0, p2, 0, ([] : List UInt8), ([] : List UInt8), p3), (3, (IntKind.wrap .i64 p4), 0, ([] : List UInt8), (IntKind.wrap .i64 p5), ([] : List UInt8), ([] : List UInt8), ([] : List UInt8)), (4, (IntKind.wrap .i64 p4), 0, ([] : List UInt8), 0, ([] : List UInt8), ([] : List UInt8), p3), (5, (IntKind.wrap .i64 p4), 0, ([] : List UInt8), 0, ([] : List UInt8), ([] : List UInt8), ([] : List UInt8)), (6, 0, 0, ([] : List UInt8), (IntKind.wrap .i64 p5), ([] : List UInt8), ([] : List UInt8), ([] : List UInt8))] : List (Int × Int × Int × (List UInt8) × Int × (List UInt8) × (List UInt8) × (List UInt8)))))) (hC (hB 6 72 s) (h0))) (.slice (some ⟨p, 0, none⟩) (List.length ([(1, 0, p1, ([] : List UInt8), 0, ([] : List UInt8), ([] : List UInt8), p3), (2, (IntKind.wrap .i64 p4), 0, p2, 0, ([] : List UInt8), ([] : List UInt8), p3), (3, (IntKind.wrap .i64 p4), 0, ([] : List UInt8), (IntKind.wrap .i64 p5), ([] : List UInt8), ([] : List UInt8), ([] : List UInt8)), (4, (IntKind.wrap .i64 p4), 0, ([] : List UInt8), 0, ([] : List UInt8), ([] : List UInt8), p3), (5, (IntKind.wrap .i64 p4), 0, ([] : List UInt8), 0, ([] : List UInt8), ([] : List UInt8), ([] : List UInt8)), (6, 0, 0, ([] : List UInt8), (IntKind.wrap .i64 p5), ([] : List UInt8), ([] : List UInt8), ([] : List UInt8))] : List (Int × Int × Int × (List UInt8) × Int × (List UInt8) × (List UInt8) × (List UInt8)))) (List.length ([(1, 0, p1, ([] : List UInt8), 0, ([] : List UInt8), ([] : List UInt8), p3), (2, (IntKind.wrap .i64 p4), 0, p2, 0, ([] : List UInt8), ([] : List UInt8), p3), (3, (IntKind.wrap .i64 p4), 0, ([] : List UInt8), (IntKind.wrap .i64 p5), ([] : List UInt8), ([] : List UInt8), ([] : List UInt8)), (4, (IntKind.wrap .i64 p4), 0, ([] : List UInt8), 0, ([] : List UInt8), ([] : List UInt8), p3), (5, (IntKind.wrap .i64 p4), 0, ([] : List UInt8), 0, ([] : List UInt8), ([] : List UInt8), ([] : List UInt8)), (6, 0, 0, ([] : List UInt8), (IntKind.wrap .i64 p5), ([] : List UInt8), ([] : List UInt8), ([] : List UInt8))] : List (Int × Int × Int × (List UInt8) × Int × (List UInt8) × (List UInt8) × (List UInt8)))))
       ·exact oV (hC (hS 13 (.int .i64 m)) (hC (hB 6 72 s) (h0))) (.int .i64 m)
       ·refine oL 0 ?_
        ·rintro ρ' w' hs q ⟨j0, f3⟩
         have f4 := q 8 74 K
         have f6 := q 9 75 K
         have a5 := q 6 72 K
         refine kN [(74, (.slice (some ⟨p, 0, none⟩) (List.length ([(1, 0, p1, ([] : List UInt8), 0, ([] : List UInt8), ([] : List UInt8), p3), (2, (IntKind.wrap .i64 p4), 0, p2, 0, ([] : List UInt8), ([] : List UInt8), p3), (3, (IntKind.wrap .i64 p4), 0, ([] : List UInt8), (IntKind.wrap .i64 p5), ([] : List UInt8), ([] : List UInt8), ([] : List UInt8)), (4, (IntKind.wrap .i64 p4), 0, ([] : List UInt8), 0, ([] : List UInt8), ([] : List UInt8), p3), (5, (IntKind.wrap .i64 p4), 0, ([] : List UInt8), 0, ([] : List UInt8), ([] : List UInt8), ([] : List UInt8)), (6, 0, 0, ([] : List UInt8), (IntKind.wrap .i64 p5), ([] : List UInt8), ([] : List UInt8), ([] : List UInt8))] : List (Int × Int × Int × (List UInt8) × Int × (List UInt8) × (List UInt8) × (List UInt8)))) (List.length ([(1, 0, p1, ([] : List UInt8), 0, ([] : List UInt8), ([] : List UInt8), p3), (2, (IntKind.wrap .i64 p4), 0, p2, 0, ([] : List UInt8), ([] : List UInt8), p3), (3, (IntKind.wrap .i64 p4), 0, ([] : List UInt8), (IntKind.wrap .i64 p5), ([] : List UInt8), ([] : List UInt8), ([] : List UInt8)), (4, (IntKind.wrap .i64 p4), 0, ([] : List UInt8), 0, ([] : List UInt8), ([] : List UInt8), p3), (5, (IntKind.wrap .i64 p4), 0, ([] : List UInt8), 0, ([] : List UInt8), ([] : List UInt8), ([] : List UInt8)), (6, 0, 0, ([] : List UInt8), (IntKind.wrap .i64 p5), ([] : List UInt8), ([] : List UInt8), ([] : List UInt8))] : List (Int × Int × Int × (List UInt8) × Int × (List UInt8) × (List UInt8) × (List UInt8)))))), (75, (.int .i64 m)), (72, (.bool false))] ⟨f4, f6, (Eq.trans a5 (congrArg Value.bool s)), trivial⟩ fun a2 => ?_
         refine Zi (e := (Qd (Zd .i64) (Qd (Zd .i64) (Qd (Zd .u32) (Qd Qg (Qd (Zd .i64) (Qd Qg (Qd Qg Qg)))))))) (l := ([(1, 0, p1, ([] : List UInt8), 0, ([] : List UInt8), ([] : List UInt8), p3), (2, (IntKind.wrap .i64 p4), 0, p2, 0, ([] : List UInt8), ([] : List UInt8), p3), (3, (IntKind.wrap .i64 p4), 0, ([] : List UInt8), (IntKind.wrap .i64 p5), ([] : List UInt8), ([] : List UInt8), ([] : List UInt8)), (4, (IntKind.wrap .i64 p4), 0, ([] : List UInt8), 0, ([] : List UInt8), ([] : List UInt8), p3), (5, (IntKind.wrap .i64 p4), 0, ([] : List UInt8), 0, ([] : List UInt8), ([] : List UInt8), ([] : List UInt8)), (6, 0, 0, ([] : List UInt8), (IntKind.wrap .i64 p5), ([] : List UInt8), ([] : List UInt8), ([] : List UInt8))] : List (Int × Int × Int × (List UInt8) × Int × (List UInt8) × (List UInt8) × (List UInt8)))) (A := (some ⟨p, 0, none⟩)) (c := (List.length ([(1, 0, p1, ([] : List UInt8), 0, ([] : List UInt8), ([] : List UInt8), p3), (2, (IntKind.wrap .i64 p4), 0, p2, 0, ([] : List UInt8), ([] : List UInt8), p3), (3, (IntKind.wrap .i64 p4), 0, ([] : List UInt8), (IntKind.wrap .i64 p5), ([] : List UInt8), ([] : List UInt8), ([] : List UInt8)), (4, (IntKind.wrap .i64 p4), 0, ([] : List UInt8), 0, ([] : List UInt8), ([] : List UInt8), p3), (5, (IntKind.wrap .i64 p4), 0, ([] : List UInt8), 0, ([] : List UInt8), ([] : List UInt8), ([] : List UInt8)), (6, 0, 0, ([] : List UInt8), (IntKind.wrap .i64 p5), ([] : List UInt8), ([] : List UInt8), ([] : List UInt8))] : List (Int × Int × Int × (List UInt8) × Int × (List UInt8) × (List UInt8) × (List UInt8))))) (T := 68) (E := 52) (x := (.tmp 74)) (ix := (.tmp 75)) (ki := .i64) (iz := m) (d := (some 76)) (k := 10) K rfl K K K K (Vi (SP.get f3 (i := 0) rfl)) c6 c7 ?_
         intro f8 f9 g0 j1 hc524
         exact ⟨rfl, _, Ql a2, ⟨f8, f9, g0, rfl⟩⟩
       ·refine oL 0 ?_
        ·rintro ρ' w' hs q ⟨j2, g1⟩
         obtain ⟨c8, c9, g2, g3⟩ := q 10 76 K
         have a5 := q 6 72 K
         refine kN [(76, (.pointer (some ⟨c8, (c9 + Int.toNat m * (Qd (Zd .i64) (Qd (Zd .i64) (Qd (Zd .u32) (Qd Qg (Qd (Zd .i64) (Qd Qg (Qd Qg Qg))))))).sz), none⟩))), (72, (.bool false))] ⟨g3, (Eq.trans a5 (congrArg Value.bool s)), trivial⟩ fun a2 => ?_
         refine Qf.cells (t := 52) (x := (.tmp 76)) (b := c8) (off := (c9 + Int.toNat m * (Qd (Zd .i64) (Qd (Zd .i64) (Qd (Zd .u32) (Qd Qg (Qd (Zd .i64) (Qd Qg (Qd Qg Qg))))))).sz)) (xs := [(.int .i64 h.1), (.int .i64 h.2.1), (.int .u32 h.2.2.1), (.string ⟨List.toArray h.2.2.2.1⟩), (.int .i64 h.2.2.2.2.1), (.string ⟨List.toArray h.2.2.2.2.2.1⟩), (.string ⟨List.toArray h.2.2.2.2.2.2.1⟩), (.string ⟨List.toArray h.2.2.2.2.2.2.2⟩)]) (d := (some 77)) (k := 11) K rfl K K K (Jh (e := (Qd (Zd .i64) (Qd (Zd .i64) (Qd (Zd .u32) (Qd Qg (Qd (Zd .i64) (Qd Qg (Qd Qg Qg)))))))) (Yx (Vi (SP.get g1 (i := 0) rfl)) g2 c6 c7) f0 rfl) ?_
         exact eK a2
       ·refine oL 0 ?_
        ·rintro ρ' w' hs q ⟨j3, j4⟩
         have g4 := q 7 73 K
         have g5 := q 11 77 K
         have a5 := q 6 72 K
         refine kN [(73, (.agg #[(.int .i64 f.1), (.int .i64 f.2.1), (.int .u32 f.2.2.1), (.string ⟨List.toArray f.2.2.2.1⟩), (.int .i64 f.2.2.2.2.1), (.string ⟨List.toArray f.2.2.2.2.2.1⟩), (.string ⟨List.toArray f.2.2.2.2.2.2.1⟩), (.string ⟨List.toArray f.2.2.2.2.2.2.2.1⟩)])), (77, (.agg #[(.int .i64 h.1), (.int .i64 h.2.1), (.int .u32 h.2.2.1), (.string ⟨List.toArray h.2.2.2.1⟩), (.int .i64 h.2.2.2.2.1), (.string ⟨List.toArray h.2.2.2.2.2.1⟩), (.string ⟨List.toArray h.2.2.2.2.2.2.1⟩), (.string ⟨List.toArray h.2.2.2.2.2.2.2⟩)])), (72, (.bool false))] ⟨g4, g5, (Eq.trans a5 (congrArg Value.bool s)), trivial⟩ fun a2 => ?_
         refine R6 (op := .neq) (T := 52) (T' := 52) (x := (.tmp 73)) (y := (.tmp 77)) (vx := (.agg #[(.int .i64 f.1), (.int .i64 f.2.1), (.int .u32 f.2.2.1), (.string ⟨List.toArray f.2.2.2.1⟩), (.int .i64 f.2.2.2.2.1), (.string ⟨List.toArray f.2.2.2.2.2.1⟩), (.string ⟨List.toArray f.2.2.2.2.2.2.1⟩), (.string ⟨List.toArray f.2.2.2.2.2.2.2.1⟩)])) (vy := (.agg #[(.int .i64 h.1), (.int .i64 h.2.1), (.int .u32 h.2.2.1), (.string ⟨List.toArray h.2.2.2.1⟩), (.int .i64 h.2.2.2.2.1), (.string ⟨List.toArray h.2.2.2.2.2.1⟩), (.string ⟨List.toArray h.2.2.2.2.2.2.1⟩), (.string ⟨List.toArray h.2.2.2.2.2.2.2⟩)])) (v := (.bool (!((f.1 == h.1) && ((f.2.1 == h.2.1) && ((f.2.2.1 == h.2.2.1) && ((f.2.2.2.1 == h.2.2.2.1) && ((f.2.2.2.2.1 == h.2.2.2.2.1) && ((f.2.2.2.2.2.1 == h.2.2.2.2.2.1) && ((f.2.2.2.2.2.2.1 == h.2.2.2.2.2.2.1) && (f.2.2.2.2.2.2.2.1 == h.2.2.2.2.2.2.2))))))))))) (d := (some 78)) (k := 12) K rfl K K (by clear H; intro w; simp only [Ny]; go_simp; simp only [Gg, U2, G5, Ny, Bool.and_true] <;> simp only [Bool.not_and]) ?_
         exact eK a2
       ·exact oV (hC (hB 6 72 s) (hC (hA 12 78) (h0))) (.bool (!((f.1 == h.1) && ((f.2.1 == h.2.1) && ((f.2.2.1 == h.2.2.1) && ((f.2.2.2.1 == h.2.2.2.1) && ((f.2.2.2.2.1 == h.2.2.2.2.1) && ((f.2.2.2.2.2.1 == h.2.2.2.2.2.1) && ((f.2.2.2.2.2.2.1 == h.2.2.2.2.2.2.1) && (f.2.2.2.2.2.2.2.1 == h.2.2.2.2.2.2.2))))))))))
       ·rintro ρ' w' hs hf ⟨j5, d0⟩
        refine Yh [(11, (.bool z6)), (12, (.slice (some ⟨p, 0, none⟩) (List.length ([(1, 0, p1, ([] : List UInt8), 0, ([] : List UInt8), ([] : List UInt8), p3), (2, (IntKind.wrap .i64 p4), 0, p2, 0, ([] : List UInt8), ([] : List UInt8), p3), (3, (IntKind.wrap .i64 p4), 0, ([] : List UInt8), (IntKind.wrap .i64 p5), ([] : List UInt8), ([] : List UInt8), ([] : List UInt8)), (4, (IntKind.wrap .i64 p4), 0, ([] : List UInt8), 0, ([] : List UInt8), ([] : List UInt8), p3), (5, (IntKind.wrap .i64 p4), 0, ([] : List UInt8), 0, ([] : List UInt8), ([] : List UInt8), ([] : List UInt8)), (6, 0, 0, ([] : List UInt8), (IntKind.wrap .i64 p5), ([] : List UInt8), ([] : List UInt8), ([] : List UInt8))] : List (Int × Int × Int × (List UInt8) × Int × (List UInt8) × (List UInt8) × (List UInt8)))) (List.length ([(1, 0, p1, ([] : List UInt8), 0, ([] : List UInt8), ([] : List UInt8), p3), (2, (IntKind.wrap .i64 p4), 0, p2, 0, ([] : List UInt8), ([] : List UInt8), p3), (3, (IntKind.wrap .i64 p4), 0, ([] : List UInt8), (IntKind.wrap .i64 p5), ([] : List UInt8), ([] : List UInt8), ([] : List UInt8)), (4, (IntKind.wrap .i64 p4), 0, ([] : List UInt8), 0, ([] : List UInt8), ([] : List UInt8), p3), (5, (IntKind.wrap .i64 p4), 0, ([] : List UInt8), 0, ([] : List UInt8), ([] : List UInt8), ([] : List UInt8)), (6, 0, 0, ([] : List UInt8), (IntKind.wrap .i64 p5), ([] : List UInt8), ([] : List UInt8), ([] : List UInt8))] : List (Int × Int × Int × (List UInt8) × Int × (List UInt8) × (List UInt8) × (List UInt8)))))), (13, (.int .i64 m)), (14, (.string ⟨List.toArray j⟩)), (79, (.bool (!((f.1 == h.1) && ((f.2.1 == h.2.1) && ((f.2.2.1 == h.2.2.1) && ((f.2.2.2.1 == h.2.2.2.1) && ((f.2.2.2.2.1 == h.2.2.2.2.1) && ((f.2.2.2.2.2.1 == h.2.2.2.2.2.1) && ((f.2.2.2.2.2.2.1 == h.2.2.2.2.2.2.1) && (f.2.2.2.2.2.2.2.1 == h.2.2.2.2.2.2.2)))))))))))] ⟨(hs 11 K).trans K, (hs 12 K).trans K, (hs 13 K).trans K, (hs 14 K).trans K, hf 13 79 K, trivial⟩ ?_
        obtain ⟨j6, g6⟩ : ∃ x, w' = x := ⟨_, rfl⟩
        rw [g6] at d0 ⊢
        exact ⟨(!((f.1 == h.1) && ((f.2.1 == h.2.1) && ((f.2.2.1 == h.2.2.1) && ((f.2.2.2.1 == h.2.2.2.1) && ((f.2.2.2.2.1 == h.2.2.2.2.1) && ((f.2.2.2.2.2.1 == h.2.2.2.2.2.1) && ((f.2.2.2.2.2.2.1 == h.2.2.2.2.2.2.1) && (f.2.2.2.2.2.2.2.1 == h.2.2.2.2.2.2.2))))))))), ⟨K, K, K, K, K, trivial⟩, SP.sel d0 [0] rfl rfl, H⟩
    ·rintro ρ j7 ⟨a6, hk, d1, H⟩
     unfold Q8 at H
     first | refine At.known [(11, (.bool z6)), (12, (.slice (some ⟨p, 0, none⟩) (List.length ([(1, 0, p1, ([] : List UInt8), 0, ([] : List UInt8), ([] : List UInt8), p3), (2, (IntKind.wrap .i64 p4), 0, p2, 0, ([] : List UInt8), ([] : List UInt8), p3), (3, (IntKind.wrap .i64 p4), 0, ([] : List UInt8), (IntKind.wrap .i64 p5), ([] : List UInt8), ([] : List UInt8), ([] : List UInt8)), (4, (IntKind.wrap .i64 p4), 0, ([] : List UInt8), 0, ([] : List UInt8), ([] : List UInt8), p3), (5, (IntKind.wrap .i64 p4), 0, ([] : List UInt8), 0, ([] : List UInt8), ([] : List UInt8), ([] : List UInt8)), (6, 0, 0, ([] : List UInt8), (IntKind.wrap .i64 p5), ([] : List UInt8), ([] : List UInt8), ([] : List UInt8))] : List (Int × Int × Int × (List UInt8) × Int × (List UInt8) × (List UInt8) × (List UInt8)))) (List.length ([(1, 0, p1, ([] : List UInt8), 0, ([] : List UInt8), ([] : List UInt8), p3), (2, (IntKind.wrap .i64 p4), 0, p2, 0, ([] : List UInt8), ([] : List UInt8), p3), (3, (IntKind.wrap .i64 p4), 0, ([] : List UInt8), (IntKind.wrap .i64 p5), ([] : List UInt8), ([] : List UInt8), ([] : List UInt8)), (4, (IntKind.wrap .i64 p4), 0, ([] : List UInt8), 0, ([] : List UInt8), ([] : List UInt8), p3), (5, (IntKind.wrap .i64 p4), 0, ([] : List UInt8), 0, ([] : List UInt8), ([] : List UInt8), ([] : List UInt8)), (6, 0, 0, ([] : List UInt8), (IntKind.wrap .i64 p5), ([] : List UInt8), ([] : List UInt8), ([] : List UInt8))] : List (Int × Int × Int × (List UInt8) × Int × (List UInt8) × (List UInt8) × (List UInt8)))))), (13, (.int .i64 m)), (14, (.string ⟨List.toArray j⟩)), (79, (.bool a6))] hk ?_ | rw [← Qq (l := [(11, (.bool z6)), (12, (.slice (some ⟨p, 0, none⟩) (List.length ([(1, 0, p1, ([] : List UInt8), 0, ([] : List UInt8), ([] : List UInt8), p3), (2, (IntKind.wrap .i64 p4), 0, p2, 0, ([] : List UInt8), ([] : List UInt8), p3), (3, (IntKind.wrap .i64 p4), 0, ([] : List UInt8), (IntKind.wrap .i64 p5), ([] : List UInt8), ([] : List UInt8), ([] : List UInt8)), (4, (IntKind.wrap .i64 p4), 0, ([] : List UInt8), 0, ([] : List UInt8), ([] : List UInt8), p3), (5, (IntKind.wrap .i64 p4), 0, ([] : List UInt8), 0, ([] : List UInt8), ([] : List UInt8), ([] : List UInt8)), (6, 0, 0, ([] : List UInt8), (IntKind.wrap .i64 p5), ([] : List UInt8), ([] : List UInt8), ([] : List UInt8))] : List (Int × Int × Int × (List UInt8) × Int × (List UInt8) × (List UInt8) × (List UInt8)))) (List.length ([(1, 0, p1, ([] : List UInt8), 0, ([] : List UInt8), ([] : List UInt8), p3), (2, (IntKind.wrap .i64 p4), 0, p2, 0, ([] : List UInt8), ([] : List UInt8), p3), (3, (IntKind.wrap .i64 p4), 0, ([] : List UInt8), (IntKind.wrap .i64 p5), ([] : List UInt8), ([] : List UInt8), ([] : List UInt8)), (4, (IntKind.wrap .i64 p4), 0, ([] : List UInt8), 0, ([] : List UInt8), ([] : List UInt8), p3), (5, (IntKind.wrap .i64 p4), 0, ([] : List UInt8), 0, ([] : List UInt8), ([] : List UInt8), ([] : List UInt8)), (6, 0, 0, ([] : List UInt8), (IntKind.wrap .i64 p5), ([] : List UInt8), ([] : List UInt8), ([] : List UInt8))] : List (Int × Int × Int × (List UInt8) × Int × (List UInt8) × (List UInt8) × (List UInt8)))))), (13, (.int .i64 m)), (14, (.string ⟨List.toArray j⟩)), (79, (.bool a6))]) hk]
     refine Z8 K (o := (.tmp 79)) K (b := a6) K (fun b3 => ?_) (fun b3 => ?_)
     ·have H := ct H b3
      refine aQ ?_
      refine aR ?_
      refine iR 1 1 [(10, (.bool false))] ?_
      refine iF ?_
      refine At.ret K ?_
      refine ⟨(.bool false), K, ?_⟩
      obtain rfl := Qc H
      exact ⟨rfl, SP.sel d1 [] rfl rfl⟩
     ·have H := cf H b3
      refine At.skip K ?_
      refine aQ ?_
      refine aR ?_
      refine iR 1 1 [(17, (.int .i64 0))] ?_
      refine iF ?_
      refine J3 K (id := 2) K ?_
      refine De K (fun f7 ρ w => ∃ (a0 : Int), V5 ρ [(11, (.bool z6)), (12, (.slice (some ⟨p, 0, none⟩) (List.length ([(1, 0, p1, ([] : List UInt8), 0, ([] : List UInt8), ([] : List UInt8), p3), (2, (IntKind.wrap .i64 p4), 0, p2, 0, ([] : List UInt8), ([] : List UInt8), p3), (3, (IntKind.wrap .i64 p4), 0, ([] : List UInt8), (IntKind.wrap .i64 p5), ([] : List UInt8), ([] : List UInt8), ([] : List UInt8)), (4, (IntKind.wrap .i64 p4), 0, ([] : List UInt8), 0, ([] : List UInt8), ([] : List UInt8), p3), (5, (IntKind.wrap .i64 p4), 0, ([] : List UInt8), 0, ([] : List UInt8), ([] : List UInt8), ([] : List UInt8)), (6, 0, 0, ([] : List UInt8), (IntKind.wrap .i64 p5), ([] : List UInt8), ([] : List UInt8), ([] : List UInt8))] : List (Int × Int × Int × (List UInt8) × Int × (List UInt8) × (List UInt8) × (List UInt8)))) (List.length ([(1, 0, p1, ([] : List UInt8), 0, ([] : List UInt8), ([] : List UInt8), p3), (2, (IntKind.wrap .i64 p4), 0, p2, 0, ([] : List UInt8), ([] : List UInt8), p3), (3, (IntKind.wrap .i64 p4), 0, ([] : List UInt8), (IntKind.wrap .i64 p5), ([] : List UInt8), ([] : List UInt8), ([] : List UInt8)), (4, (IntKind.wrap .i64 p4), 0, ([] : List UInt8), 0, ([] : List UInt8), ([] : List UInt8), p3), (5, (IntKind.wrap .i64 p4), 0, ([] : List UInt8), 0, ([] : List UInt8), ([] : List UInt8), ([] : List UInt8)), (6, 0, 0, ([] : List UInt8), (IntKind.wrap .i64 p5), ([] : List UInt8), ([] : List UInt8), ([] : List UInt8))] : List (Int × Int × Int × (List UInt8) × Int × (List UInt8) × (List UInt8) × (List UInt8)))))), (13, (.int .i64 m)), (14, (.string ⟨List.toArray j⟩)), (17, (.int .i64 a0))] ∧ SP [] w0 w [Q6 52 (Qd (Zd .i64) (Qd (Zd .i64) (Qd (Zd .u32) (Qd Qg (Qd (Zd .i64) (Qd Qg (Qd Qg Qg))))))) (some ⟨p, 0, none⟩) (List.length ([(1, 0, p1, ([] : List UInt8), 0, ([] : List UInt8), ([] : List UInt8), p3), (2, (IntKind.wrap .i64 p4), 0, p2, 0, ([] : List UInt8), ([] : List UInt8), p3), (3, (IntKind.wrap .i64 p4), 0, ([] : List UInt8), (IntKind.wrap .i64 p5), ([] : List UInt8), ([] : List UInt8), ([] : List UInt8)), (4, (IntKind.wrap .i64 p4), 0, ([] : List UInt8), 0, ([] : List UInt8), ([] : List UInt8), p3), (5, (IntKind.wrap .i64 p4), 0, ([] : List UInt8), 0, ([] : List UInt8), ([] : List UInt8), ([] : List UInt8)), (6, 0, 0, ([] : List UInt8), (IntKind.wrap .i64 p5), ([] : List UInt8), ([] : List UInt8), ([] : List UInt8))] : List (Int × Int × Int × (List UInt8) × Int × (List UInt8) × (List UInt8) × (List UInt8)))) ([(1, 0, p1, ([] : List UInt8), 0, ([] : List UInt8), ([] : List UInt8), p3), (2, (IntKind.wrap .i64 p4), 0, p2, 0, ([] : List UInt8), ([] : List UInt8), p3), (3, (IntKind.wrap .i64 p4), 0, ([] : List UInt8), (IntKind.wrap .i64 p5), ([] : List UInt8), ([] : List UInt8), ([] : List UInt8)), (4, (IntKind.wrap .i64 p4), 0, ([] : List UInt8), 0, ([] : List UInt8), ([] : List UInt8), p3), (5, (IntKind.wrap .i64 p4), 0, ([] : List UInt8), 0, ([] : List UInt8), ([] : List UInt8), ([] : List UInt8)), (6, 0, 0, ([] : List UInt8), (IntKind.wrap .i64 p5), ([] : List UInt8), ([] : List UInt8), ([] : List UInt8))] : List (Int × Int × Int × (List UInt8) × Int × (List UInt8) × (List UInt8) × (List UInt8)))] ∧ Qp (Qi p1 p2 p3 p4 p5 z6 f5) p1 p2 p3 p4 p5 m j f7 a0 = some r) (by rintro ρ w ⟨a0, hk, hs, H⟩; cases H) ?_ J4 ?_
      ·rintro f7 ρ g7 ⟨a0, hk, a8, H⟩
       refine At.known [(11, (.bool z6)), (12, (.slice (some ⟨p, 0, none⟩) (List.length ([(1, 0, p1, ([] : List UInt8), 0, ([] : List UInt8), ([] : List UInt8), p3), (2, (IntKind.wrap .i64 p4), 0, p2, 0, ([] : List UInt8), ([] : List UInt8), p3), (3, (IntKind.wrap .i64 p4), 0, ([] : List UInt8), (IntKind.wrap .i64 p5), ([] : List UInt8), ([] : List UInt8), ([] : List UInt8)), (4, (IntKind.wrap .i64 p4), 0, ([] : List UInt8), 0, ([] : List UInt8), ([] : List UInt8), p3), (5, (IntKind.wrap .i64 p4), 0, ([] : List UInt8), 0, ([] : List UInt8), ([] : List UInt8), ([] : List UInt8)), (6, 0, 0, ([] : List UInt8), (IntKind.wrap .i64 p5), ([] : List UInt8), ([] : List UInt8), ([] : List UInt8))] : List (Int × Int × Int × (List UInt8) × Int × (List UInt8) × (List UInt8) × (List UInt8)))) (List.length ([(1, 0, p1, ([] : List UInt8), 0, ([] : List UInt8), ([] : List UInt8), p3), (2, (IntKind.wrap .i64 p4), 0, p2, 0, ([] : List UInt8), ([] : List UInt8), p3), (3, (IntKind.wrap .i64 p4), 0, ([] : List UInt8), (IntKind.wrap .i64 p5), ([] : List UInt8), ([] : List UInt8), ([] : List UInt8)), (4, (IntKind.wrap .i64 p4), 0, ([] : List UInt8), 0, ([] : List UInt8), ([] : List UInt8), p3), (5, (IntKind.wrap .i64 p4), 0, ([] : List UInt8), 0, ([] : List UInt8), ([] : List UInt8), ([] : List UInt8)), (6, 0, 0, ([] : List UInt8), (IntKind.wrap .i64 p5), ([] : List UInt8), ([] : List UInt8), ([] : List UInt8))] : List (Int × Int × Int × (List UInt8) × Int × (List UInt8) × (List UInt8) × (List UInt8)))))), (13, (.int .i64 m)), (14, (.string ⟨List.toArray j⟩)), (17, (.int .i64 a0))] hk ?_
       replace H := (show Qx (Qi p1 p2 p3 p4 p5 z6 f5) (Qp (Qi p1 p2 p3 p4 p5 z6 f5) p1 p2 p3 p4 p5 m j f7) p1 p2 p3 p4 p5 m j a0 = some r from H)
       unfold Qx at H
       refine aQ ?_
       refine aQ ?_
       refine aR ?_
       refine iR 3 3 [(80, (.int .i64 a0)), (81, (.int .i64 m)), (82, (.bool (decide (a0 < m))))] ?_
       refine iF ?_
       refine Z8 K (o := (.tmp 82)) K (b := (decide (a0 < m))) K (fun b4 => ?_) (fun b4 => ?_)
       ·have H := ct H b4
        refine At.skip K ?_
        refine aQ ?_
        refine J3 K (id := 3) K ?_
        refine aQ ?_
        refine aR ?_
        refine iR 2 2 [(85, (.slice (some ⟨p, 0, none⟩) (List.length ([(1, 0, p1, ([] : List UInt8), 0, ([] : List UInt8), ([] : List UInt8), p3), (2, (IntKind.wrap .i64 p4), 0, p2, 0, ([] : List UInt8), ([] : List UInt8), p3), (3, (IntKind.wrap .i64 p4), 0, ([] : List UInt8), (IntKind.wrap .i64 p5), ([] : List UInt8), ([] : List UInt8), ([] : List UInt8)), (4, (IntKind.wrap .i64 p4), 0, ([] : List UInt8), 0, ([] : List UInt8), ([] : List UInt8), p3), (5, (IntKind.wrap .i64 p4), 0, ([] : List UInt8), 0, ([] : List UInt8), ([] : List UInt8), ([] : List UInt8)), (6, 0, 0, ([] : List UInt8), (IntKind.wrap .i64 p5), ([] : List UInt8), ([] : List UInt8), ([] : List UInt8))] : List (Int × Int × Int × (List UInt8) × Int × (List UInt8) × (List UInt8) × (List UInt8)))) (List.length ([(1, 0, p1, ([] : List UInt8), 0, ([] : List UInt8), ([] : List UInt8), p3), (2, (IntKind.wrap .i64 p4), 0, p2, 0, ([] : List UInt8), ([] : List UInt8), p3), (3, (IntKind.wrap .i64 p4), 0, ([] : List UInt8), (IntKind.wrap .i64 p5), ([] : List UInt8), ([] : List UInt8), ([] : List UInt8)), (4, (IntKind.wrap .i64 p4), 0, ([] : List UInt8), 0, ([] : List UInt8), ([] : List UInt8), p3), (5, (IntKind.wrap .i64 p4), 0, ([] : List UInt8), 0, ([] : List UInt8), ([] : List UInt8), ([] : List UInt8)), (6, 0, 0, ([] : List UInt8), (IntKind.wrap .i64 p5), ([] : List UInt8), ([] : List UInt8), ([] : List UInt8))] : List (Int × Int × Int × (List UInt8) × Int × (List UInt8) × (List UInt8) × (List UInt8)))))), (86, (.int .i64 a0))] ?_
        obtain ⟨a1, d2, d3, g8, H⟩ := V8 H
        refine iS 3 ?_
        refine Zi (e := (Qd (Zd .i64) (Qd (Zd .i64) (Qd (Zd .u32) (Qd Qg (Qd (Zd .i64) (Qd Qg (Qd Qg Qg)))))))) (l := ([(1, 0, p1, ([] : List UInt8), 0, ([] : List UInt8), ([] : List UInt8), p3), (2, (IntKind.wrap .i64 p4), 0, p2, 0, ([] : List UInt8), ([] : List UInt8), p3), (3, (IntKind.wrap .i64 p4), 0, ([] : List UInt8), (IntKind.wrap .i64 p5), ([] : List UInt8), ([] : List UInt8), ([] : List UInt8)), (4, (IntKind.wrap .i64 p4), 0, ([] : List UInt8), 0, ([] : List UInt8), ([] : List UInt8), p3), (5, (IntKind.wrap .i64 p4), 0, ([] : List UInt8), 0, ([] : List UInt8), ([] : List UInt8), ([] : List UInt8)), (6, 0, 0, ([] : List UInt8), (IntKind.wrap .i64 p5), ([] : List UInt8), ([] : List UInt8), ([] : List UInt8))] : List (Int × Int × Int × (List UInt8) × Int × (List UInt8) × (List UInt8) × (List UInt8)))) (A := (some ⟨p, 0, none⟩)) (c := (List.length ([(1, 0, p1, ([] : List UInt8), 0, ([] : List UInt8), ([] : List UInt8), p3), (2, (IntKind.wrap .i64 p4), 0, p2, 0, ([] : List UInt8), ([] : List UInt8), p3), (3, (IntKind.wrap .i64 p4), 0, ([] : List UInt8), (IntKind.wrap .i64 p5), ([] : List UInt8), ([] : List UInt8), ([] : List UInt8)), (4, (IntKind.wrap .i64 p4), 0, ([] : List UInt8), 0, ([] : List UInt8), ([] : List UInt8), p3), (5, (IntKind.wrap .i64 p4), 0, ([] : List UInt8), 0, ([] : List UInt8), ([] : List UInt8), ([] : List UInt8)), (6, 0, 0, ([] : List UInt8), (IntKind.wrap .i64 p5), ([] : List UInt8), ([] : List UInt8), ([] : List UInt8))] : List (Int × Int × Int × (List UInt8) × Int × (List UInt8) × (List UInt8) × (List UInt8))))) (T := 68) (E := 52) (x := (.tmp 85)) (ix := (.tmp 86)) (ki := .i64) (iz := a0) (d := (some 87)) (k := 2) K rfl K K K K (Vi (SP.get a8 (i := 0) rfl)) d2 d3 ?_
        intro g9 h1 h2 j8 hc485
        refine iS 4 ?_
        refine Qf.cells (t := 52) (x := (.tmp 87)) (b := g9) (off := (h1 + Int.toNat a0 * (Qd (Zd .i64) (Qd (Zd .i64) (Qd (Zd .u32) (Qd Qg (Qd (Zd .i64) (Qd Qg (Qd Qg Qg))))))).sz)) (xs := [(.int .i64 a1.1), (.int .i64 a1.2.1), (.int .u32 a1.2.2.1), (.string ⟨List.toArray a1.2.2.2.1⟩), (.int .i64 a1.2.2.2.2.1), (.string ⟨List.toArray a1.2.2.2.2.2.1⟩), (.string ⟨List.toArray a1.2.2.2.2.2.2.1⟩), (.string ⟨List.toArray a1.2.2.2.2.2.2.2⟩)]) (d := (some 88)) (k := 3) K rfl K K K (Jh (e := (Qd (Zd .i64) (Qd (Zd .i64) (Qd (Zd .u32) (Qd Qg (Qd (Zd .i64) (Qd Qg (Qd Qg Qg)))))))) (Yx (Vi (SP.get a8 (i := 0) rfl)) h2 d2 d3) g8 rfl) ?_
        obtain ⟨a9, h3, H⟩ := Qa H
        refine iS 5 ?_
        refine cF 35 #[(.tmp 88)] #[52] 89 Tryz.call35 (Z1  a1.1 a1.2.1 a1.2.2.1 a1.2.2.2.1 a1.2.2.2.2.1 a1.2.2.2.2.2.1 a1.2.2.2.2.2.2.1 a1.2.2.2.2.2.2.2 g7 (Qr hL (SP.keeps a8)) a9 h3) ?_
        rintro e j9 ⟨rfl, d4⟩
        refine ⟨_, rfl, ?_⟩
        have d5 := SP.call a8 d4
        clear d4
        refine iR 1 6 [(90, (.string ⟨List.toArray j⟩))] ?_
        refine iS 7 ?_
        refine Va (op := .eql) (T := 9) (T' := 9) (x := (.tmp 89)) (y := (.tmp 90)) (a := a9) (b := j) (r := (.bool (a9 == j))) (d := (some 91)) (k := 6) K rfl K K rfl ?_
        refine iF ?_
        refine Z8 K (o := (.tmp 91)) K (b := (a9 == j)) K (fun b5 => ?_) (fun b5 => ?_)
        ·have H := ct H b5
         refine aQ ?_
         refine aR ?_
         refine iR 1 1 [(10, (.bool false))] ?_
         refine iF ?_
         refine At.ret K ?_
         refine ⟨(.bool false), K, ?_⟩
         obtain rfl := Qc H
         exact ⟨rfl, SP.sel d5 [] rfl rfl⟩
        ·have H := cf H b5
         refine At.skip K ?_
         refine aR ?_
         refine iR 3 3 [(83, (.int .i64 a0)), (84, (.int .i64 (IntKind.wrap .i64 (a0 + 1)))), (17, (.int .i64 (IntKind.wrap .i64 (a0 + 1))))] ?_
         refine iF ?_
         exact ⟨(IntKind.wrap .i64 (a0 + 1)), ⟨K, K, K, K, K, trivial⟩, SP.sel d5 [0] rfl rfl, H⟩
       ·have H := cf H b4
        refine At.exit K (id := 2) K ?_
        refine aR ?_
        refine iR 3 3 [(54, (.int .i64 m)), (55, (.int .i64 (IntKind.wrap .i64 (m + 1)))), (13, (.int .i64 (IntKind.wrap .i64 (m + 1))))] ?_
        refine iF ?_
        exact ⟨(IntKind.wrap .i64 (m + 1)), ⟨K, K, K, trivial⟩, SP.sel a8 [0] rfl rfl, H⟩
      ·exact ⟨0, ⟨K, K, K, K, K, trivial⟩, SP.sel d1 [0] rfl rfl, H⟩
   ·have H := cf H b1
    refine At.exit K (id := 0) K ?_
    refine aQ ?_
    refine aR ?_
    refine iR 2 2 [(92, (.bool z6)), (10, (.bool z6))] ?_
    refine iF ?_
    refine At.ret K ?_
    refine ⟨(.bool z6), K, ?_⟩
    obtain rfl := Qc H
    exact ⟨rfl, SP.sel a7 [] rfl rfl⟩
  ·exact ⟨0, ⟨K, K, K, trivial⟩, SP.sel d7 [0] rfl rfl, H⟩
end Go.Proofs.YtoflbpmbkmephaaGreatDoor
namespace Go.Proofs.YtoflbpmbkmephaaGreatDoor
open Go.RowKit
theorem Dv (c : UInt8) : ∀ s : List UInt8, (Q3 c s).length = s.count c + 1
  | [] => rfl
  | x :: r => by
    have ih := Dv c r
    unfold Q3
    by_cases h : x = c
    · subst h
      rw [if_pos rfl, List.length_cons, ih, List.count_cons_self]
    · rw [if_neg h, List.count_cons_of_ne h]
      cases hs : Q3 c r with
      | nil => exact absurd hs (Nz c r)
      | cons p ps => rw [hs] at ih; simpa using ih
theorem lIndex (s : List UInt8) (c : UInt8) : Y7 s [c] = some (Lib.indexByte s c) := rfl
theorem E6 {α : Type} (l : List α) (n : Nat) (x z : α) (h : 0 < n) : (l ++ List.replicate n z).set l.length x = l ++ x :: List.replicate (n - 1) z := by
  obtain ⟨m, rfl⟩ : ∃ m, n = m + 1 := ⟨n - 1, by omega⟩
  simp [List.replicate_succ]
theorem E7 {α : Type} (l : List α) (n : Nat) (z : α) (h : 0 < n) : (l ++ List.replicate n z)[l.length]? = some z := by
  obtain ⟨m, rfl⟩ : ∃ m, n = m + 1 := ⟨n - 1, by omega⟩
  simp [List.replicate_succ]
theorem split_end (done : List (List UInt8)) (r : List UInt8) (m : Nat) (hm : 0 < m) (hl : done.length + m ≤ 2000000) :
    Vk r (done ++ List.replicate m []) ((done.length : Nat) : Int) = some (done ++ [r]) := by
  unfold Vk
  rw [G0, E7 done m [] hm]
  simp only [Option.bind_some, Int.toNat_natCast]
  rw [E6 done m r [] hm, show IntKind.wrap .i64 (((done.length : Nat) : Int) + 1) = ((done.length + 1 : Nat) : Int) by rw [Yi (by omega)]; omega]
  have := Bx (done ++ r :: List.replicate (m - 1) []) (i := 0) (j := done.length + 1) (by omega) (by simp)
  rw [show ((0 : Nat) : Int) = 0 from rfl] at this
  rw [this, List.drop_zero, show done ++ r :: List.replicate (m - 1) [] = (done ++ [r]) ++ List.replicate (m - 1) [] by simp, List.take_left' (by simp)]
  rfl
theorem Fn (s : List UInt8) (c : UInt8) (M : Int) (hs : s.length ≤ 1000000) : ∀ (m : Nat) (r : List UInt8) (done : List (List UInt8)) (f : Nat), r.length ≤ 1000000 → (Q3 c r).length = m → m < f → done.length + m ≤ 2000000 → M = ((done.length + m : Nat) : Int) →
    Vl s [c] 0 M f r (done ++ List.replicate m []) ((done.length : Nat) : Int) = some (done ++ Q3 c r) ∨ ¬ (M ≤ ((s.length : Nat) : Int) + 1) := by
  intro m
  induction m with
  | zero =>
    intro r done f hr hm
    have := Nz c r
    simp at hm
    exact absurd hm this
  | succ m ih =>
    intro r done f hr hm hf hd hM
    by_cases hle : M ≤ ((s.length : Nat) : Int) + 1
    · left
      obtain ⟨f, rfl⟩ : ∃ g, f = g + 1 := ⟨f - 1, by omega⟩
      show V6 (Vl s [c] 0 M f) s [c] 0 M _ _ _ = _
      unfold V6
      have hif : (if IntKind.wrap .i64 (((s.length : Nat) : Int) + 1) < M then IntKind.wrap .i64 (((s.length : Nat) : Int) + 1) else M) = M := by
        rw [Yi (by omega), if_neg (by omega)]
      rw [hif, hM, show IntKind.wrap .i64 (((done.length + (m + 1) : Nat) : Int) - 1) = ((done.length + m : Nat) : Int) by rw [Yi (by omega)]; omega]
      rcases N0 c r with ⟨h1, h2, h3⟩ | ⟨i, h1, h2, h3, h4, h5⟩
      · rw [h2] at hm
        have : m = 0 := by simpa using hm.symm
        subst this
        rw [show decide (((done.length : Nat) : Int) < ((done.length + 0 : Nat) : Int)) = false by rw [decide_eq_false_iff_not]; omega, h2]
        exact split_end done r 1 (by omega) (by omega)
      · rw [h5, List.length_cons] at hm
        have hm' : (Q3 c (r.drop (i + 1))).length = m := by omega
        have hpos : 0 < m := by
          have := Nz c (r.drop (i + 1))
          have : 0 < (Q3 c (r.drop (i + 1))).length := List.length_pos_iff.2 this
          omega
        rw [show decide (((done.length : Nat) : Int) < ((done.length + m : Nat) : Int)) = true by rw [decide_eq_true_eq]; omega, lIndex, h1]
        simp only [cond_true, Option.bind_some]
        rw [show decide ((i : Int) < 0) = false by rw [decide_eq_false_iff_not]; omega, Int.add_zero, D3 (by omega)]
        have s1 := Bx r (i := 0) (j := i) (by omega) (by omega)
        rw [show ((0 : Nat) : Int) = 0 from rfl] at s1
        have s2 := Bx r (i := i + 1) (j := r.length) (by omega) (by omega)
        rw [s1, G0, E7 done (m + 1) [] (by omega), show IntKind.wrap .i64 ((i : Int) + ((([c] : List UInt8).length : Nat) : Int)) = ((i + 1 : Nat) : Int) by rw [Yi (by simp; omega)]; simp, s2]
        simp only [cond_false, Option.bind_some, Int.toNat_natCast, List.drop_zero, List.take_length]
        rw [E6 done (m + 1) _ [] (by omega), show IntKind.wrap .i64 (((done.length : Nat) : Int) + 1) = ((done.length + 1 : Nat) : Int) by rw [Yi (by omega)]; omega]
        have := ih (r.drop (i + 1)) (done ++ [r.take i]) f (by rw [List.length_drop]; omega) hm' (by omega) (by simp; omega) (by rw [hM]; simp; omega)
        rcases this with this | this
        · rw [List.length_append, List.append_assoc] at this
          rw [show m + 1 - 1 = m by omega, h5, ← hM]
          refine Eq.trans ?_ (this.trans ?_)
          · rfl
          · simp
        · exact absurd hle this
    · exact .inr hle
theorem lSplit (s : List UInt8) (c : UInt8) (hs : s.length ≤ 1000000) : Xa s [c] = some (Q3 c s) := by
  unfold Xa Yf
  have hc := Dv c s
  have hcl : s.count c ≤ s.length := List.count_le_length
  simp only [Y5, Lib.countByte]
  rw [show ((-1 : Int) == 0) = false from rfl, show (([c] : List UInt8) == []) = false from rfl, show decide ((-1 : Int) < 0) = true from rfl]
  simp only [cond_false, cond_true, Option.bind_some]
  rw [show IntKind.wrap .i64 (((s.count c : Nat) : Int) + 1) = (((Q3 c s).length : Nat) : Int) by rw [Yi (by omega), hc]; omega]
  unfold V7
  have hif : (if IntKind.wrap .i64 (((s.length : Nat) : Int) + 1) < (((Q3 c s).length : Nat) : Int) then IntKind.wrap .i64 (((s.length : Nat) : Int) + 1) else (((Q3 c s).length : Nat) : Int)) = (((Q3 c s).length : Nat) : Int) := by
    rw [Yi (by omega), if_neg (by omega)]
  rw [hif, show decide (0 ≤ (((Q3 c s).length : Nat) : Int) ∧ (((Q3 c s).length : Nat) : Int) ≤ 2147483648) = true by rw [decide_eq_true_eq]; omega]
  simp only [chk, Option.bind_some, Int.toNat_natCast]
  have := Fn s c (((Q3 c s).length : Nat) : Int) hs (Q3 c s).length s [] J4 (by omega) rfl (by unfold J4; omega) (by simp; omega) (by simp)
  rcases this with this | this
  · rw [List.nil_append, List.nil_append] at this
    rw [show ((([] : List (List UInt8)).length : Nat) : Int) = 0 from rfl] at this
    rw [this]
    rfl
  · omega
end Go.Proofs.YtoflbpmbkmephaaGreatDoor
namespace Go.Proofs.YtoflbpmbkmephaaGreatDoor
theorem bShr32 (a k : Nat) (hk : k ≤ 32) : C3 .u32 (a : Int) (k : Int) = ((a / 2 ^ k : Nat) : Int) := by
  unfold C3
  have : min ((k : Int).toNat) (IntKind.bits .u32) = k := by simp only [Int.toNat_natCast, IntKind.bits]; omega
  rw [this, Int.fdiv_eq_ediv_of_nonneg _ (by exact_mod_cast Nat.zero_le (2 ^ k))]
  push_cast
  rfl
end Go.Proofs.YtoflbpmbkmephaaGreatDoor
namespace Go.Proofs.YtoflbpmbkmephaaGreatDoor
open Go.Lib (decDigits)
def isLet (c : UInt8) : Bool := (decide (97 ≤ c.toNat) && decide (c.toNat ≤ 122)) || (decide (48 ≤ c.toNat) && decide (c.toNat ≤ 57))
def isNm (c : UInt8) : Bool := isLet c || c == 45
def Nu (s : List UInt8) : Bool := decide (1 ≤ s.length) && decide (s.length ≤ 20) && s.all isNm && !(s.headD 0 == 45) && !(s.getLastD 0 == 45)
def Y9 : List UInt8 := [97, 98, 99, 100, 101, 102, 103, 104, 105, 106, 107, 108, 109, 110, 111, 112, 113, 114, 115, 116, 117, 118, 119, 120, 121, 122, 48, 49, 50, 51, 52, 53, 54, 55, 56, 57, 45]
theorem Bf (c : UInt8) : Y9.contains c = isNm c := by
  have h : ∀ n : Fin 256, Y9.contains (UInt8.ofNat n.val) = isNm (UInt8.ofNat n.val) := by decide +kernel
  have e := h ⟨c.toNat, c.toNat_lt⟩
  have : UInt8.ofNat c.toNat = c := by simp
  rw [this] at e
  exact e
theorem Nd {α : Type} (p : α → Bool) : ∀ l : List α, l.dropWhile p = [] ↔ ∀ x ∈ l, p x = true
  | [] => by simp
  | x :: l => by
    rw [List.dropWhile_cons]
    by_cases h : p x = true
    · rw [if_pos h, Nd p l]; simp [h]
    · rw [if_neg h]; simp [h]
theorem Gw {α : Type} (p : α → Bool) : ∀ (l : List α) (x : α) (r : List α), l.dropWhile p = x :: r → p x = false
  | [], x, r, h => by simp at h
  | y :: l, x, r, h => by
    rw [List.dropWhile_cons] at h
    by_cases hy : p y = true
    · rw [if_pos hy] at h; exact Gw p l x r h
    · rw [if_neg hy] at h; injection h with h1 _; subst h1; simpa using hy
theorem trimS_nil (l cs : List UInt8) : Lib.trimS l cs = [] ↔ ∀ x ∈ l, cs.contains x = true := by
  unfold Lib.trimS Lib.trimLeftS Lib.trimRightS
  rw [Nd]
  constructor
  · intro h
    cases hd : l.reverse.dropWhile (cs.contains ·) with
    | nil =>
      have := (Nd _ _).1 hd
      intro x hx
      exact this x (by simpa using hx)
    | cons y r =>
      have h1 := Gw _ _ _ _ hd
      have h2 := h y (by rw [hd]; simp)
      rw [h2] at h1
      cases h1
  · intro h x hx
    refine h x ?_
    have : x ∈ l.reverse.dropWhile (cs.contains ·) := by simpa using hx
    have := List.IsSuffix.subset (List.dropWhile_suffix _) this
    simpa using this
theorem lTrim (s : List UInt8) (h : s.length ≤ 9000) : Yz s Y9 = some (Lib.trimS s Y9) := by
  unfold Yz
  rw [show (Nat.ble s.length 9223372036854775807 && (Nat.ble Y9.length 4294967280 && Y9.all (fun b => Nat.ble b.toNat 127))) = true by
    rw [Nat.ble_eq_true_of_le (by omega)]
    decide]
  rfl
theorem headD_idx {s : List UInt8} (h : 1 ≤ s.length) : idx s 0 = some (s.headD 0) := by
  cases s with
  | nil => simp at h
  | cons c r => rfl
theorem last_idx {s : List UInt8} (h : 1 ≤ s.length) (h2 : s.length ≤ 9000) : idx s (IntKind.wrap .i64 (((List.length s : Nat) : Int) - 1)) = some (s.getLastD 0) := by
  rw [Yi (by omega), show (((List.length s : Nat) : Int) - 1) = ((s.length - 1 : Nat) : Int) by omega, G0]
  cases s with
  | nil => simp at h
  | cons c r => rw [List.getLastD_cons, List.getLastD_eq_getLast?, ← List.getLast?_eq_getElem?]; cases r <;> simp [List.getLast?_cons]
theorem byte45 (c : UInt8) : (((c.toNat : Nat) : Int) != 45) = !(c == 45) := by
  by_cases h : c = 45
  · subst h; rfl
  · rw [show (c == 45) = false by simpa using h]
    rw [Bool.not_false, bne_iff_ne]
    intro e
    exact h (UInt8.toNat_inj.1 (show c.toNat = (45 : UInt8).toNat from by have h9 : (45 : UInt8).toNat = 45 := rfl; omega))
theorem lName (s : List UInt8) (h : s.length ≤ 9000) : Z0 s = some (Nu s) := by
  unfold Z0 Nu Vj
  by_cases h1 : 1 ≤ s.length
  · have hne : (s == ([] : List UInt8)) = false := by cases s with | nil => simp at h1 | cons c r => rfl
    rw [hne, decide_eq_true h1]
    simp only [Bool.not_false, cond_true]
    by_cases h2 : s.length ≤ 20
    · rw [show decide (((List.length s : Nat) : Int) ≤ 20) = true by simp; omega, decide_eq_true h2]
      have ht := lTrim s h
      unfold Y9 at ht
      rw [ht]
      simp only [cond_true, Option.bind_some]
      have hall : (Lib.trimS s Y9 == ([] : List UInt8)) = s.all isNm := by
        rw [Bool.eq_iff_iff, beq_iff_eq, trimS_nil, List.all_eq_true]
        exact ⟨fun h x hx => by rw [← Bf]; exact h x hx, fun h x hx => by rw [Bf]; exact h x hx⟩
      unfold Y9 at hall
      rw [hall]
      cases s.all isNm with
      | false => rfl
      | true =>
        simp only [cond_true, headD_idx h1, Option.bind_some, byte45, last_idx h1 h]
        cases s.headD 0 == 45 <;> simp
    · rw [show decide (((List.length s : Nat) : Int) ≤ 20) = false by simp; omega, decide_eq_false h2]
      rfl
  · have : s = [] := List.length_eq_zero_iff.1 (by omega)
    subst this
    rfl
def Rp (a : Nat) : List UInt8 := decDigits (a / 16777216 % 256) ++ 46 :: (decDigits (a / 65536 % 256) ++ 46 :: (decDigits (a / 256 % 256) ++ 46 :: decDigits (a % 256)))
theorem decL_nat {n : Nat} (h : n ≤ 1099511627776) : Be (n : Int) = decDigits n := by unfold Be; rw [if_pos (by omega), Int.toNat_natCast]
theorem R7 {n : Nat} (h : n < 256) : (decDigits n).length ≤ 3 := dec_len (by omega) (by omega)
theorem Rb (a : Nat) (ha : a < 4294967296) (f i : Nat) (acc : List (List UInt8)) (hi : i < 4) (hacc : acc.length ≤ 4) :
    Vv (a : Int) (f + 1) acc (i : Int) = Vv (a : Int) f (acc ++ [decDigits (a / 2 ^ (24 - 8 * i) % 256)]) ((i + 1 : Nat) : Int) := by
  show Zc (Vv (a : Int) f) (a : Int) acc (i : Int) = _
  unfold Zc
  have w1 : IntKind.wrap .i64 (24 - IntKind.wrap .i64 (8 * (i : Int))) = ((24 - 8 * i : Nat) : Int) := by rw [Yi (x := 8 * (i : Int)) (by omega), Yi (by omega)]; omega
  have w2 : IntKind.wrap .i64 (IntKind.wrap .u8 (((a / 2 ^ (24 - 8 * i) : Nat) : Int))) = ((a / 2 ^ (24 - 8 * i) % 256 : Nat) : Int) := by
    rw [wrap8]
    generalize a / 2 ^ (24 - 8 * i) = q
    rw [Yi (by omega)]
    omega
  have w4 : IntKind.wrap .i64 ((i : Int) + 1) = ((i + 1 : Nat) : Int) := by rw [Yi (by omega)]; omega
  rw [show decide ((i : Int) < 4) = true by simp; omega, w1, show decide (0 ≤ ((24 - 8 * i : Nat) : Int)) = true by simp, bShr32 a _ (by omega), w2, By, decL_nat (by have := Nat.mod_lt (a / 2 ^ (24 - 8 * i)) (show 0 < 256 by omega); omega), w4]
  simp only [cond_true, chk, Option.bind_some, app_ok (show acc.length + [decDigits (a / 2 ^ (24 - 8 * i) % 256)].length ≤ 2147483648 by simp only [List.length_cons, List.length_nil]; omega)]
theorem join4 (x y z t : List UInt8) : Lib.join [x, y, z, t] [46] = x ++ 46 :: (y ++ 46 :: (z ++ 46 :: t)) := by
  simp [Lib.join, List.intercalate, List.intersperse]
theorem Cx (a : Nat) : (Rp a).length ≤ 15 := by
  have h1 := R7 (n := a / 16777216 % 256) (by omega)
  have h2 := R7 (n := a / 65536 % 256) (by omega)
  have h3 := R7 (n := a / 256 % 256) (by omega)
  have h4 := R7 (n := a % 256) (by omega)
  simp only [Rp, List.length_append, List.length_cons]
  omega
theorem lDots (a : Nat) (ha : a < 4294967296) : Yl (a : Int) = some (Rp a) := by
  unfold Yl
  obtain ⟨f, hf⟩ : ∃ f, J4 = f + 1 + 1 + 1 + 1 + 1 := ⟨J4 - 5, by rw [fuel_eq]⟩
  rw [hf]
  have s0 := Rb a ha (f + 1 + 1 + 1 + 1) 0 [] (by omega) (by simp)
  have s1 := Rb a ha (f + 1 + 1 + 1) 1 [decDigits (a / 2 ^ 24 % 256)] (by omega) (by simp)
  have s2 := Rb a ha (f + 1 + 1) 2 [decDigits (a / 2 ^ 24 % 256), decDigits (a / 2 ^ 16 % 256)] (by omega) (by simp)
  have s3 := Rb a ha (f + 1) 3 [decDigits (a / 2 ^ 24 % 256), decDigits (a / 2 ^ 16 % 256), decDigits (a / 2 ^ 8 % 256)] (by omega) (by simp)
  refine s0.trans (s1.trans (s2.trans (s3.trans ?_)))
  show Zc (Vv (a : Int) f) (a : Int) [decDigits (a / 2 ^ 24 % 256), decDigits (a / 2 ^ 16 % 256), decDigits (a / 2 ^ 8 % 256), decDigits (a / 2 ^ 0 % 256)] 4 = _
  unfold Zc Ya
  rw [join4]
  have e : decDigits (a / 2 ^ 24 % 256) ++ 46 :: (decDigits (a / 2 ^ 16 % 256) ++ 46 :: (decDigits (a / 2 ^ 8 % 256) ++ 46 :: decDigits (a / 2 ^ 0 % 256))) = Rp a := by
    unfold Rp
    rw [Nat.pow_zero, Nat.div_one]
  rw [e, Nat.ble_eq_true_of_le (show (Rp a).length ≤ 140737488355328 by have := Cx a; omega)]
  rfl
theorem w32 {b : Int} (h0 : 0 ≤ b) (h1 : b ≤ 32) : IntKind.wrap .i64 (32 - b) = ((32 - b.toNat : Nat) : Int) := by rw [Yi (by omega)]; omega
end Go.Proofs.YtoflbpmbkmephaaGreatDoor
namespace Go.Proofs.YtoflbpmbkmephaaGreatDoor
open Go.Lib (decDigits)
def finA (st : Option (Nat × Nat)) : Option Nat := match st with | none => none | some (a, m) => if m = 4 then some a else none
theorem addrL_fin (s : List UInt8) : Gp s = finA ((Q3 46 s).foldl Zy (some (0, 0))) := rfl
theorem Rc {a m n : Nat} {p : List UInt8} (h : V9 p = some n) (hn : n ≤ 255) (hm : m < 4) : Zy (some (a, m)) p = some (a * 256 + n, m + 1) := by simp only [Zy, h, if_neg (by omega : ¬ (255 < n ∨ 4 ≤ m))]
theorem Uy (c : UInt8) : ∀ (x r : List UInt8), c ∉ x → Q3 c (x ++ c :: r) = x :: Q3 c r
  | [], r, _ => by simp [Q3]
  | y :: x, r, h => by
    have hy : y ≠ c := fun e => h (by simp [e])
    have ih := Uy c x r (fun hm => h (by simp [hm]))
    rw [List.cons_append]
    conv => lhs; unfold Q3
    rw [if_neg hy, ih]
theorem Rq (c : UInt8) : ∀ (x : List UInt8), c ∉ x → Q3 c x = [x]
  | [], _ => rfl
  | y :: x, h => by
    have hy : y ≠ c := fun e => h (by simp [e])
    have ih := Rq c x (fun hm => h (by simp [hm]))
    unfold Q3
    rw [if_neg hy, ih]
def Nv (c : UInt8) : List (List UInt8) → List UInt8
  | [] => []
  | [p] => p
  | p :: q :: ps => p ++ c :: Nv c (q :: ps)
theorem Bg {n : Nat} {c : UInt8} (hc : Gn c = false) : c ∉ decDigits n := fun h => by
  have := dec_all n
  rw [List.all_eq_true] at this
  rw [this c h] at hc
  cases hc
theorem Fo (a : Nat) : Q3 46 (Rp a) = [decDigits (a / 16777216 % 256), decDigits (a / 65536 % 256), decDigits (a / 256 % 256), decDigits (a % 256)] := by
  unfold Rp
  rw [Uy 46 _ _ (Bg (by decide)), Uy 46 _ _ (Bg (by decide)), Uy 46 _ _ (Bg (by decide)), Rq 46 _ (Bg (by decide))]
theorem addr_dots {a : Nat} (ha : a < 4294967296) : Gp (Rp a) = some a := by
  rw [addrL_fin, Fo]
  have p : ∀ n : Nat, n < 256 → V9 (decDigits n) = some n := fun n hn => Cs (by unfold J5; omega)
  simp only [List.foldl_cons, List.foldl_nil]
  rw [Rc (p (a / 16777216 % 256) (by omega)) (by omega) (by omega), Rc (p (a / 65536 % 256) (by omega)) (by omega) (by omega), Rc (p (a / 256 % 256) (by omega)) (by omega) (by omega), Rc (p (a % 256) (by omega)) (by omega) (by omega)]
  simp only [finA, if_true]
  congr 1
  omega
end Go.Proofs.YtoflbpmbkmephaaGreatDoor
